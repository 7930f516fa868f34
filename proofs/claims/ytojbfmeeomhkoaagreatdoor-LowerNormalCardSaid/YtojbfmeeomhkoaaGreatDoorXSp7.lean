/- Part Sp7. Conditions: none. -/
import Derived.Shelf.Strconv.Itoa4
import Derived.Lib.ItoaLen
import Derived.Lib.LaidTab
import Derived.Shelf.Strings.Builder1
import Derived.Shelf.Strings.OnBuilder
import Derived.Shelf.LaysM
import Derived.Shelf.SlLaysF0
import Derived.Test.YtojbfmeeomhkoaaGreatDoorProg
import Derived.Shelf.SlSortCmp.NoneTotal
import Derived.Shelf.SlSortCmp.WholeK
import Derived.Test.YtojbfmeeomhkoaaGreatDoorXNt
set_option linter.unusedSimpArgs false
set_option linter.unusedVariables false
set_option maxRecDepth 100000
set_option maxHeartbeats 40000000
set_option linter.defProp false
open Go.Proofs.Tryz renaming prog→Tzp
open List renaming length_map→AA,take_zero→CD,take_append_drop→Am,length_cons→AT,length_take→Bs,cons_append→AU,length_append→A0,append_assoc→Ax,map_cons→AB,map_nil→AJ,take_of_length_le→AR,map_append→A4,append_nil→Aw,nil_append→A3,mem_of_getElem?→AE,flatten_append→Js,nodup_append→Tj,mem_append→A2,take_length→Ar,replicate→AH,replicate_succ→Bg,flatten_cons→BO,take_succ_cons→CK,drop_succ_cons→Eu,drop_zero→N9,getElem?_eq_some_iff→AG,all_eq_true→Ao,all_append→ZB,all_cons→BK,all_nil→Cl,getElem?_cons_zero→A7,getElem?_of_mem→Na,mem_cons_self→AY,mem_cons_of_mem→AZ,range→Aj,find?_eq_none→cD,mem_range→Cr,length_filter_le→MQ,mem_cons→Ah,length_replicate→MR,length_nil→A8,length_singleton→Ci,mem_of_mem_take→DA,mem_map→BR,range_succ→Cq,drop_of_length_le→HN,getElem?_eq_none→FO,pairwise_cons→BZ,mem_map_of_mem→CU,eq_nil_of_length_eq_zero→Ay,sum_cons→Em,length_pos_iff→Ds,mem_singleton→A9,getElem?_cons_succ→Bz,getElem?_append_left→Di,set_cons_succ→C7,ne_nil_of_length_pos→BC,getElem?_take→F9,length_eq_zero_iff→Rr,size_toArray→Tl,mem_iff_getElem?→Hn,findIdx?_eq_none_iff→fO,take→Ew,drop→E1,findIdx?_eq_some_iff_getElem→SJ,getElem?_eq_getElem→An,getElem_mem→Fa
open Nat renaming min_eq_left→I4,zero_add→Av,le_refl→AW,le_trans→Ai,strongRecOn→DK,lt_of_lt_of_le→Be,add_mul→Cj,zero_mul→To,mul_one→Ag,zero_le→D7,add_zero→CC,mul_le_mul→Tm
open Bool renaming eq_iff_iff→C2,and_eq_true→AM,false_or→MP,and_true→Cu,or_eq_false_iff→XJ,not_eq_true'→Du,and_false→Hg,or_false→XH,or_true→Td,true_and→Fe,not_false→N6,and_eq_false_iff→WE,not_not→OS
open Int renaming reduceBEq→Ad,natCast_nonneg→F8,toNat_natCast→BX,reduceLE→DU,reduceToNat→Bb,eq_ofNat_of_zero_le→E0
open Ne renaming symm→A5
open Option renaming isSome_iff_exists→Pv,bind_some→Jt
open Except renaming map→F7
open Except.ok renaming injEq→Da
open Option.some renaming injEq→AP
open List.cons renaming injEq→FJ
open Array renaming getElem?_modify→WD,getElem?_eq_some_iff→b9
open Prod.mk renaming injEq→B3
open List.Perm renaming swap→Fw
open And renaming intro→DF
namespace Go.Ab
variable {a b:Nat} {dt:List Dat} {ls:List Bool} {p:Pg} {r:DZ} {s:I} {ty:TypeId}
section
open Go.Proofs
def AWD (r:Nat×Int):List DV:=[.int .i64 (r.1:Int),.int .i64 r.2]
abbrev eRf:Nat:=103
theorem Bn.base {A H V:X} {e s:Nat} {rows:List (List DV)} {v:I} (h:Bn A e s rows v V) (b:H.le A):Bn H e s rows v V:=by
 obtain ⟨σ1,c,a⟩:=h.app;exact ⟨⟨σ1,c,X.le_trans b a⟩,X.le_trans b h.le,h.plain,h.len,h.cell,h.BS,h.Cp,h.dv,h.cells⟩
theorem AA5 {A V:X} (h:A.le V) (j:Nat) (cs:List I):(A.AI j cs).le (V.AI j cs):=
 ⟨fun k ds a=>by
   rw [AD] at a ⊢;split
   . grind
   . rename_i e;rw [if_neg e] at a;exact h.C k ds a,h.tok,h.gt,h.bt⟩
theorem Bn.both {A V:X} {e s:Nat} {rows:List (List DV)} {v:I} (h:Bn A e s rows v V) (j:Nat) (cs:List I):Bn (A.AI j cs) e s rows v (V.AI j cs):=by
 obtain ⟨σ1,a,b⟩:=h.app;refine ⟨?_,AA5 h.le j cs,h.plain,h.len,h.cell,h.BS,h.Cp,h.dv,h.cells⟩;unfold MT at a ⊢;split at a
 . cases a;exact ⟨_,rfl,AA5 b j cs⟩
 . split at a
   . rename_i c;cases a;exact ⟨_,if_pos c,AA5 b j cs⟩
   . cases a
 . cases a
structure FiS (O:X) (i:Nat) (ds fs:DV) (n:Nat) (l:List (Nat×Int)) (A:X):Prop where
 fresh:O.C i=none
 C:∃v,A.C i=some [.d ds,.d fs,.d (.int .i64 (n:Int)),v]/\Bn O eRf 2 (l.map AWD) v A
variable {O A:X} {i j n:Nat} {ds fs:DV} {l:List (Nat×Int)} {cs:List I}
theorem FiS.le (h:FiS O i ds fs n l A):O.le A:=by obtain ⟨v,_,a⟩:=h.C;exact a.le
theorem FiS.share (h:FiS O i ds fs n l A) (d:A.C j=none):FiS (O.AI j cs) i ds fs n l (A.AI j cs):=by
 obtain ⟨v,b,c⟩:=h.C;have a:i≠j:=fun e=>by grind
 exact ⟨by rw [AD,if_neg a];exact h.fresh,v,by rw [AD,if_neg a];exact b,c.both j cs⟩
theorem FiS.AWV (h:FiS (O.AI j cs) i ds fs n l A) (c:O.C j=none):FiS O i ds fs n l A:=by
 obtain ⟨v,b,d⟩:=h.C;have a:=h.fresh;rw [AD] at a;split at a
 . cases a
 . exact ⟨a,v,b,d.base (Bf c)⟩
theorem FiS.ne (h:FiS (O.AI j cs) i ds fs n l A):i≠j:=fun e=>by have:=h.fresh;rw [AD,if_pos e] at this;cases this
theorem FiS.step {v:I} (h:FiS O i ds fs n l A) (b:A.C i=some [.d ds,.d fs,.d (.int .i64 (n:Int)),v]) (m:Nat):FiS O i ds fs m l (A.AI i [.d ds,.d fs,.d (.int .i64 (m:Int)),v]):=by
 obtain ⟨d,a,c⟩:=h.C;rw [b] at a;cases a;exact ⟨h.fresh,v,BB,c.set h.fresh _⟩
theorem AUJ (sc:List M) (s:M):((sc.filter (fun s=>!(s==[]))).reverse).contains s=!decide (s=[]\/s ∉ sc):=by
 grind
theorem ASX (sc:List M) (s:M) (A:X):AS Tzp 77 [.d (bdL sc),.d (.str s)] A (fun v H=>v= .d (.bool (!decide (s=[]\/s ∉ sc)))/\H=A):=by
 rw [<- AUJ];exact AWH _ s A
theorem AQ4 (fs:List FE) (s:M):Hq (fs.findIdx? (fun f=>f.name==s))=(match fs.findIdx? (fun f=>f.name==s) with|some i=>(i:Int)|none=>-1):=rfl
theorem AMP (ds:DV) (F:List FE) (i:Nat):∀(N:Nat) (e:Ex) (sc:List M) (n:Nat) (l:List (Nat×Int)) (O A:X),e.size<=N->n+e.size<=1000000->l.length+e.size<=1000000->FiS O i ds (.sl (F.map FE.J)) n l A->
 AS Tzp 36 [.gp i 0,exA e,.d (bdL sc)] A (fun v H=>v= .tup []/\FiS O i ds (.sl (F.map FE.J)) (n+e.size) (l++FM F n (Bl e sc)) H):=by
 intro N
 induction N with
 |zero=>intro e sc n l O A h;have:=Ex.size_pos e;omega
 |succ N ihN=>
 intro e sc n l O A hN hn hl hfi;obtain ⟨o,nm,u,ns,ks,al⟩:=e;simp only [Ex.size] at hN hn hl;have hkl:=Ex.CL ks;have hal:=Al.CL al;refine V9 (by simp) ?_;rw [DN,exA,Ex.A6];(repeat' (first|refine W.cb rfl ?_|((first|refine rgQ mxQ ?_|refine cdQ ?_)<;>try simp only [go_sem])|fail));intro j hj
 have hj0:O.C j=none:=by
  cases h:O.C j with
  |none=>rfl
  |some c=>have:=hfi.le.C j c h;rw [hj] at this;cases this
 have hsh:=hfi.share (cs:=[.d (.int .i64 o),.d (.str nm),.d (.int .i64 u),.d (.sl (ns.map CG)),.d (.sl (ks.map Ex.J)),.d (.sl (al.map Al.J))]) hj;generalize hQ:(fun (v:I) (H:X)=>v= .tup []/\FiS O i ds (.sl (F.map FE.J)) (n+(Ex.mk o nm u ns ks al).size) (l++FM F n (Bl (.mk o nm u ns ks al) sc)) H)=Q
 have hfin:∀V,FiS (O.AI j [.d (.int .i64 o),.d (.str nm),.d (.int .i64 u),.d (.sl (ns.map CG)),.d (.sl (ks.map Ex.J)),.d (.sl (al.map Al.J))]) i ds (.sl (F.map FE.J)) (n+(1+Ex.AQ ks+Al.AQ al)) (l++FM F n ((.mk o nm u ns ks al,sc)::(CA o nm ns sc 0 ks++Cw sc al))) V->Q (.tup []) V:=fun V h=>by
  rw [<- hQ,Ex.size,Bl];exact ⟨rfl,h.AWV hj0⟩
 clear hQ;have hij:=hsh.ne;have h1j:(O.AI j [.d (.int .i64 o),.d (.str nm),.d (.int .i64 u),.d (.sl (ns.map CG)),.d (.sl (ks.map Ex.J)),.d (.sl (al.map Al.J))]).C j=some [.d (.int .i64 o),.d (.str nm),.d (.int .i64 u),.d (.sl (ns.map CG)),.d (.sl (ks.map Ex.J)),.d (.sl (al.map Al.J))]:=BB;generalize O.AI j [.d (.int .i64 o),.d (.str nm),.d (.int .i64 u),.d (.sl (ns.map CG)),.d (.sl (ks.map Ex.J)),.d (.sl (al.map Al.J))]=σ1 at *;have hEB:∀V m l,FiS σ1 i ds (.sl (F.map FE.J)) m l V->V.C j=some [.d (.int .i64 o),.d (.str nm),.d (.int .i64 u),.d (.sl (ns.map CG)),.d (.sl (ks.map Ex.J)),.d (.sl (al.map Al.J))]:=fun V m l h=>h.le.C j _ h1j;refine W.seq ?_;refine W.tail (fun F' Q05 V=>Ee [0,2,4] F'=put 0 (.gp i 0) (put 2 (.d (bdL sc)) (put 4 (.gp j 0) U))/\GK [0,2,4] Q05=E/\FiS σ1 i ds (.sl (F.map FE.J)) n (l++FM F n [(.mk o nm u ns ks al,sc)]) V) ?_ ?_
 . rintro F' Q05 V ⟨hF,hM,hs⟩;refine W.Zh [0,2,4] ?_;rw [hF,hM];obtain ⟨v,hb,ho⟩:=hs.C;have hbj:=hEB _ _ _ hs;have hs2:=hs.step hb (n+1);have hw1:=Gv (show n+1<=9000000000000000000 by omega);have hji:(j=i)=False:=by simp;exact fun e=>hij e.symm
   (repeat' (refine sQ ?_<;>try simp only [hb,hbj,hw1,hji,AA,go_sem]))
   have hst0:FiS σ1 i ds (.sl (F.map FE.J)) (n+(1+Ex.AQ (ks.take 0))) (l++FM F n ((.mk o nm u ns ks al,sc)::CA o nm ns sc 0 (ks.take 0))) (V.AI i [.d ds,.d (.sl (F.map FE.J)),.d (.int .i64 ((n+1:Nat):Int)),v]):=by
    rw [CD,CA,Ex.AQ];exact hs2
   generalize V.AI i [.d ds,.d (.sl (F.map FE.J)),.d (.int .i64 ((n+1:Nat):Int)),v]=τ0 at hst0 ⊢;clear hs hb ho hbj hs2 hF hM
   refine lpK (fun (z:Nat×X)=>[(54,.d (.int .i64 z.1))]) (fun z=>z.2)
    (fun z=>z.1<=ks.length/\FiS σ1 i ds (.sl (F.map FE.J)) (n+(1+Ex.AQ (ks.take z.1))) (l++FM F n ((.mk o nm u ns ks al,sc)::CA o nm ns sc 0 (ks.take z.1))) z.2) (fun z=>ks.length - z.1) ?_ (0,τ0) ⟨by simp,hst0⟩
   clear hst0;rintro ⟨p,τ1⟩ ⟨hp,hs1⟩ ih2;simp only at hp hs1;have hbj:=hEB _ _ _ hs1;by_cases hlt:p < ks.length
   . obtain ⟨x,hx⟩:=Ak hlt;have he:=Au (J:=Ex.J) hx;have hw2:=Gv (show p+1<=9000000000000000000 by omega)
     have hsum:Ex.AQ (ks.take p)+x.size+Ex.AQ (ks.drop (p+1))=Ex.AQ ks:=by
      conv=>rhs;rw [<- Am p ks,Ex.CF,Cs hx,Ex.AQ]
      omega
     have hst:Ex.AQ (ks.take (p+1))=Ex.AQ (ks.take p)+x.size:=by rw [Aa hx,Ex.CF];simp [Ex.AQ]
     have hlen:(((.mk o nm u ns ks al:Ex),sc)::CA o nm ns sc 0 (ks.take p)).length=1+Ex.AQ (ks.take p):=by
      rw [AT,JR];omega
     have hrf:FM F n ((.mk o nm u ns ks al,sc)::CA o nm ns sc 0 (ks.take (p+1)))=FM F n ((.mk o nm u ns ks al,sc)::CA o nm ns sc 0 (ks.take p))++FM F (n+(1+Ex.AQ (ks.take p))) (Bl x (Ct o nm ns sc p)):=by
      rw [Aa hx,bQ,Bs,I4 (by omega),Av,<- AU,jS,hlen]
     have hrl:=(Up F ((.mk o nm u ns ks al,sc)::CA o nm ns sc 0 (ks.take p)) n).1;rw [hlen] at hrl;have hc:=ihN x (Ct o nm ns sc p) _ _ σ1 τ1 (by omega) (by omega) (by rw [A0];omega) hs1;have hbd:=AQ6 o nm ns sc p;rw [Ax,<- hrf,show n+(1+Ex.AQ (ks.take p))+x.size=n+(1+Ex.AQ (ks.take (p+1))) by omega] at hc;clear hrf hrl hlen hst hsum hs1;generalize Ct o nm ns sc p=sci at hc hbd;obtain ⟨xo,xn,xu,xs,xk,xa⟩:=x;simp only [Ex.A6,exA,AB,AJ] at he hc;(repeat' (first|refine W.cb rfl ?_|((first|refine rgQ mxQ ?_|refine cdQ ?_)<;>try simp only [BI hlt,go_sem])|fail));refine W.block ?_;(repeat' (first|refine W.cb rfl ?_|((first|refine rgQ mxQ ?_|refine cdQ ?_)<;>try simp only [he,hbj,go_sem])|fail));refine W.tail (fun F' Q05 V=>Ee [0,2,4,8,9,52,53,54] F'=put 0 (.gp i 0) (put 2 (.d (bdL sc)) (put 4 (.gp j 0) (put 8 (.lp 8 0) (put 9 (.d (bdL sci)) (put 52 (.d (.sl (ks.map Ex.J))) (put 53 (.d (.int .i64 ks.length)) (put 54 (.d (.int .i64 p)) U)))))))/\GK [0,2,4,8,9,52,53,54] Q05=CN 8 [.d (.int .i64 xo),.d (.str xn),.d (.int .i64 xu),.d (.sl (xs.map CG)),.d (.sl (xk.map Ex.J)),.d (.sl (xa.map Al.J))] E/\V=τ1) ?_ ?_
     . rintro F' Q05 _ ⟨hF,hM,rfl⟩;refine W.Zh [0,2,4,8,9,52,53,54] ?_;rw [hF,hM];(repeat' ((first|refine sQ ?_|(refine AN.mk rfl hc ?_;rintro _ τ2 ⟨rfl,hs3⟩)|fail)<;>try simp only [hw2,go_sem]));exact ih2 (p+1,τ2) ⟨hlt,hs3⟩ (by simp only;omega)
     . intro k hT;have hwi:((p:Int)==1)=decide (p=1):=by rw [C2];simp only [beq_iff_eq,decide_eq_true_eq];omega
       have hT:=fun F' Q05 h1 h2=>hT F' Q05 τ1 ⟨h1,h2,rfl⟩;have hws1:=eY sc ns τ1;have hws2:=eY sc [nm] τ1;simp only [AB,AJ,CG] at hws2;clear hc ih2;by_cases h11:o=11
       . subst h11;rw [if_neg (by omega),if_pos (.inr rfl)] at hbd;rw [<- hbd] at hws1;(repeat' ((first|refine sQ ?_|refine ctQ rfl ?_|refine AN.det (hws1) ?_|fail)<;>try simp only [hbj,go_sem]));exact hT _ _ (by simp only [go_sem]) (by simp only [go_sem])
       by_cases h8:o=8
       . subst h8;by_cases h1:p=1
         . rw [if_neg (by omega),if_pos (.inl ⟨rfl,h1⟩)] at hbd;rw [<- hbd] at hws1;(repeat' ((first|refine sQ ?_|refine ctQ rfl ?_|refine AN.det (hws1) ?_|fail)<;>try simp only [Ad,hbj,hwi,decide_eq_true h1,go_sem]));exact hT _ _ (by simp only [go_sem]) (by simp only [go_sem])
         . rw [if_neg (by omega),if_neg (by omega)] at hbd;(repeat' ((first|refine sQ ?_|refine ctQ rfl ?_|fail)<;>try simp only [Ad,hwi,decide_eq_false h1,go_sem]));exact hT _ _ (by simp only [hbd,go_sem]) (by simp only [go_sem])
       by_cases h7:o=7\/o=17
       . by_cases h1:p=1
         . rw [if_pos ⟨h7,h1⟩] at hbd;rw [<- hbd] at hws2;rcases h7 with rfl|rfl
           all_goals
            (repeat' ((first|refine sQ ?_|refine ctQ rfl ?_|refine AN.det (hws2) ?_|fail)<;>try simp only [Ad,hbj,hwi,decide_eq_true h1,go_sem]));exact hT _ _ (by simp only [go_sem]) (by simp only [go_sem])
         . rw [if_neg (by omega),if_neg (by omega)] at hbd;rcases h7 with rfl|rfl
           all_goals
            (repeat' ((first|refine sQ ?_|refine ctQ rfl ?_|fail)<;>try simp only [Ad,hwi,decide_eq_false h1,go_sem]));exact hT _ _ (by simp only [hbd,go_sem]) (by simp only [go_sem])
       . rw [if_neg (by omega),if_neg (by omega)] at hbd;(repeat' ((first|refine sQ ?_|refine ctQ rfl ?_|fail)<;>try simp only [Fb h11,Fb h8,Fb (show o≠7 by omega),Fb (show o≠17 by omega),go_sem]));exact hT _ _ (by simp only [hbd,go_sem]) (by simp only [go_sem])
   . have hik:ks.take p=ks:=AR (by omega);rw [hik] at hs1;clear ih2;(repeat' (refine sQ ?_<;>try simp only [B5 hlt,hbj,AA,go_sem]))
     refine lpK (fun (z:Nat×X)=>[(94,.d (.int .i64 z.1))]) (fun z=>z.2)
      (fun z=>z.1<=al.length/\FiS σ1 i ds (.sl (F.map FE.J)) (n+(1+Ex.AQ ks+Al.AQ (al.take z.1))) (l++FM F n ((.mk o nm u ns ks al,sc)::(CA o nm ns sc 0 ks++Cw sc (al.take z.1)))) z.2) (fun z=>al.length - z.1) ?_ (0,τ1) ⟨by simp,by simpa [Cw,Al.AQ] using hs1⟩
     clear hs1 hbj hp hlt hik;rintro ⟨p,τ2⟩ ⟨hp,hs1⟩ ih2;simp only at hp hs1;by_cases hlt:p < al.length
     . obtain ⟨a,hx⟩:=Ak hlt;have he:=Au (J:=Al.J) hx;have hw2:=Gv (show p+1<=9000000000000000000 by omega)
       have hsum:Al.AQ (al.take p)+a.size+Al.AQ (al.drop (p+1))=Al.AQ al:=by
        conv=>rhs;rw [<- Am p al,Al.CF,Cs hx,Al.AQ]
        omega
       have hst:Al.AQ (al.take (p+1))=Al.AQ (al.take p)+a.size:=by rw [Aa hx,Al.CF];simp [Al.AQ]
       have hlen:(((.mk o nm u ns ks al:Ex),sc)::(CA o nm ns sc 0 ks++Cw sc (al.take p))).length=1+Ex.AQ ks+Al.AQ (al.take p):=by
        rw [AT,A0,JR,Un];omega
       have hrf:FM F n ((.mk o nm u ns ks al,sc)::(CA o nm ns sc 0 ks++Cw sc (al.take (p+1))))=FM F n ((.mk o nm u ns ks al,sc)::(CA o nm ns sc 0 ks++Cw sc (al.take p)))++FM F (n+(1+Ex.AQ ks+Al.AQ (al.take p))) (Um a sc):=by
        rw [Aa hx,Yu,<- Ax,<- AU,jS,hlen];simp [Cw]
       have hrl:=(Up F ((.mk o nm u ns ks al,sc)::(CA o nm ns sc 0 ks++Cw sc (al.take p))) n).1;rw [hlen] at hrl;obtain ⟨ac,av,x⟩:=a;rw [Um] at hrf;simp only [Al.size] at hsum hst;have hc:=ihN x (sc++av) _ _ σ1 τ2 (by omega) (by omega) (by rw [A0];omega) hs1;rw [Ax,<- hrf,show n+(1+Ex.AQ ks+Al.AQ (al.take p))+x.size=n+(1+Ex.AQ ks+Al.AQ (al.take (p+1))) by omega] at hc;have hws:=eY sc av τ2;obtain ⟨xo,xn,xu,xs,xk,xa⟩:=x;simp only [Al.A6,Ex.A6,exA,AB,AJ] at he hc;(repeat' ((first|refine sQ ?_|(refine AN.mk rfl hc ?_;rintro _ τ3 ⟨rfl,hs3⟩)|refine AN.det (hws) ?_|fail)<;>try simp only [BI hlt,he,hw2,go_sem]));exact ih2 (p+1,τ3) ⟨hlt,hs3⟩ (by simp only;omega)
     . rw [AR (by omega)] at hs1;(repeat' (refine sQ ?_<;>try simp only [B5 hlt,go_sem]));exact W.fin V6 rfl (fun _ _ h=>h) (X.le_refl _) (hfin _ (by rw [<- Nat.add_assoc] at hs1 ⊢;exact hs1))
 . intro k hT;have hT:=fun F' Q05 V h1 h2 h3=>hT F' Q05 V ⟨h1,h2,h3⟩;generalize A.AI j [.d (.int .i64 o),.d (.str nm),.d (.int .i64 u),.d (.sl (ns.map CG)),.d (.sl (ks.map Ex.J)),.d (.sl (al.map Al.J))]=V at hsh ⊢;have hbj:=hEB _ _ _ hsh;by_cases h4:o=4
   . subst h4;have hhas:=ASX sc nm V;by_cases hb:nm=[]\/nm ∉ sc
     . rw [decide_eq_true hb] at hhas;obtain ⟨v,hbi,ho⟩:=hsh.C;have hix:=GM (fid:=79) (Ae:=[.gp j 0]) (by kernel_rfl) rfl (fun x=>x.name==nm) F V (fun x _=>AJI x _ _ nm ns _ _ j _ hbj);rw [AQ4] at hix;have hr:FM F n [((.mk 4 nm u ns ks al:Ex),sc)]=[(n,(match F.findIdx? (fun f=>f.name==nm) with|some i=>(i:Int)|none=>-1))]:=by rw [FM,if_pos ⟨rfl,hb⟩];rfl
       rw [hr] at hT;generalize (match F.findIdx? (fun f=>f.name==nm) with|some i=>(i:Int)|none=>-1)=q at hix hT;(repeat' ((first|refine sQ ?_|refine ctQ rfl ?_|refine AN.det (hhas) ?_|refine AN.det (hix) ?_|fail)<;>try simp only [hbi,hbj,ho.w4,go_sem]));refine DH.own ho rfl (by simp) (by simp;omega) (by omega) (fun v' τ2 ho' hb'=>?_);have hbi2:=(hb' i).trans hbi;simp only [hbi2,ho'.cell,ho'.cells,go_sem];refine hT _ _ _ (by simp only [go_sem]) (by simp only [go_sem]) ⟨hsh.fresh,v',BB,?_⟩;rw [A4];exact ho'.set hsh.fresh _
     . rw [decide_eq_false hb] at hhas;have hr:FM F n [((.mk 4 nm u ns ks al:Ex),sc)]=[]:=by rw [FM,if_neg (fun e=>hb e.2)];rfl
       rw [hr,Aw] at hT;(repeat' ((first|refine sQ ?_|refine ctQ rfl ?_|refine AN.det (hhas) ?_|fail)<;>try simp only [hbj,go_sem]));exact hT _ _ _ (by simp only [go_sem]) (by simp only [go_sem]) hsh
   . have hr:FM F n [((.mk o nm u ns ks al:Ex),sc)]=[]:=by rw [FM,if_neg (fun e=>h4 e.1)];rfl
     rw [hr,Aw] at hT;(repeat' ((first|refine sQ ?_|refine ctQ rfl ?_|fail)<;>try simp only [Fb h4,hbj,go_sem]));exact hT _ _ _ (by simp only [go_sem]) (by simp only [go_sem]) hsh
theorem wV (ds:DV) (F:List FE) (f:Nat) (a:FE) (k:F[f]?=some a) (m:a.body.size<=100000) (A:X):
 AS Tzp 17 [.agg [.d ds,.d (.sl (F.map FE.J))],.d (.int .i64 (f:Int))] A (fun v H=>v= .d (.sl ((eU F a).map AWD))/\H=A):=by
 have c:=Au (J:=FE.J) k
 have e:∀A,AS Tzp 37 [.Dt,BU (a.params.map CG)] A (dtV (.d (bdL a.params)) A):=fun A=>by
  have:=eY [] a.params A;rw [show bdL []= .Dt from rfl,A3] at this;exact AS.plain (by simpa only [I.C3,Vr,K6] using this)
 refine Xy.go ?_;(repeat' refine sQ ?_<;>simp only [go_sem]);intro i g;have h:FiS A i ds (.sl (F.map FE.J)) 0 [] (A.AI i [.d ds,BU (F.map FE.J),A1 0,.Ac]):=⟨g,.Ac,by rw [AD,if_pos rfl];rfl,(Bn.nil A eRf 2).set g _⟩;have b:=AMP ds F i a.body.size a.body a.params 0 [] A _ (AW _) (by omega) (by simp;omega) h;rw [Av,A3] at b;change AS _ _ _ _ (fun v H=>v= .tup []/\FiS A i ds (.sl (F.map FE.J)) a.body.size (eU F a) H) at b;generalize eU F a=q at b ⊢;obtain ⟨nm,p,o,n,u,ns,ks,al⟩:=a;simp only [FE.J,Ex.A6,exA,AB,AJ] at c b e;(repeat' (first|refine sQ ?_|refine AN.det (e _) ?_|fail)<;>try simp only [go_sem]);refine W.Gs mixed ?_;simp only [c,F8,BX,go_sem];refine ⟨?_,?_⟩
 all_goals
  refine AN.det (e _) ?_;simp only [go_sem];refine AN.mk rfl b ?_;rintro _ V ⟨rfl,l⟩;obtain ⟨v,j,d⟩:=l.C;(repeat' refine sQ ?_<;>simp only [j,d.w4,go_sem]);refine W.By Xo d.le ?_;simp only [d.plain,d.BS,go_sem]
end
open Go.Proofs
theorem lP {fid:FuncId} {Ae:List I} (o:CP Tzp fid=true) (c:Ae.all I.BS=true) (p:Ty->Bool) (l:List Ty) (A:X) (r:∀x∈l,AS Tzp fid (tyA x::Ae) A (fun v H=>v= .d (.bool (p x))/\H=A)):
 AS Tzp 73 [.d (.sl (l.map Ty.J)),.fn fid [] Ae] A (fun v H=>v= .d (.int .i64 (Hq (l.findIdx? p)))/\H=A):=by
 refine IS.go ?_;rw [B4];refine W.slot 0 (fun h=>?_);simp only [DR,if_true,I.Ep,AA] at h;(repeat' refine wQ ?_<;>simp only [AA,go_sem]);refine lpK (fun (i:Nat)=>[(8,A1 i)]) (fun _=>A) (fun i=>i<=l.length/\∀x∈l.take i,p x=false) (fun i=>l.length - i) ?_ 0 ⟨by simp,by simp⟩;rintro i ⟨t,b⟩ s;by_cases a:i < l.length
 . obtain ⟨x,g⟩:=Ak a;have q:=Au (J:=Ty.J) g;have d:IntKind.i64.wrap ((i:Int)+1)=((i+1:Nat):Int):=by grind [B2]
   have e:=r x (AE g);cases f:p x with
   |true=>
    rw [f] at e;have j:=Cn b g f;obtain ⟨k,n,us⟩:=x;(repeat' (first|refine wP ?_|(refine ⟨fid,[],Ae,rfl,o,AN.det e ?_ (by simp [c,CY])⟩)|fail)<;>try simp only [BI a,q,go_sem]);rw [j];rfl
   |false=>
    rw [f] at e;have m:=Ea b g f;obtain ⟨k,n,us⟩:=x;(repeat' (first|refine wQ ?_|(refine ⟨fid,[],Ae,rfl,o,AN.det e ?_ (by simp [c,CY])⟩)|fail)<;>try simp only [BI a,q,d,go_sem]);exact s (i+1) ⟨by omega,m⟩ (by omega)
 . (repeat' refine wP ?_<;>simp only [B5 a,go_sem]);rw [AR (by omega)] at b;rw [Co b];rfl
theorem Zp {fid:FuncId} {Ae:List I} (b:CP Tzp fid=true) (a:Ae.all I.BS=true) (p:Ty->Bool) (l:List Ty) (A:X) (c:∀x∈l,AS Tzp fid (tyA x::Ae) A (fun v H=>v= .d (.bool (p x))/\H=A)):
 AS Tzp 31 [.d (.sl (l.map Ty.J)),.fn fid [] Ae] A (fun v H=>v= .d (.bool (l.any p))/\H=A):=by
 have d:=lP b a p l A c;refine Gp.go ?_;(repeat' (first|refine wP ?_|(refine AN.det d ?_ (by simp [Je,eN]))|fail)<;>try simp only [N0,Fy,go_sem])
def sbC (args:List Ty) (b:Bool):List I:=[L9 args,.d (.bool b)]
theorem AXT (n:Nat):decide ((200:Int) < n)=!decide (n<=200):=by
 grind
def apT (args:List Ty) (b:Bool) (t:Ty):Ty:=if b then .mk 0 0 [] else t.subst args
theorem oS (args:List Ty) (e:∀t∈args,t.size<=200) (t:Ty) (o:t.size<=200) (i:Nat) (b:Bool) (A:X) (c:A.C i=some (sbC args b)):
 AS Tzp 35 [.gp i 0,tyA t] A (fun v H=>v=tyA (apT args b t)/\H=A.AI i (sbC args (b|| !aP args t))):=by
 have d:(t.subst args).size<=40000:=Ai ((AI9 (Q05:=200) (by omega) e).1 t) (by omega);have f:=Oh args (fun t h=>Ai (e t h) (by omega)) t (by omega) A;have j:=fun A=>Ya 40000 (t.subst args) A d (by omega);have a:aP args t=decide ((t.subst args).size<=200):=rfl;rw [a,apT];generalize t.subst args=u at *;obtain ⟨p,nm,l⟩:=t;obtain ⟨m,n,k⟩:=u;refine Ob.go ?_;rw [B4];unfold sbC L9 at *;cases b with
 |true=>
  (repeat' refine wP ?_<;>simp only [c,go_sem]);exact (Ir c).symm
 |false=>
  cases g:decide ((Ty.mk m n k).size<=200) with
  |true=>
   (repeat' (first|refine wP ?_|refine AN.det (f) ?_|refine AN.det (j _) ?_|fail)<;>try simp only [c,AXT,g,go_sem]);exact (Ir c).symm
  |false=>
   (repeat' (first|refine wP ?_|refine AN.det (f) ?_|refine AN.det (j _) ?_|fail)<;>try simp only [c,AXT,g,go_sem])
theorem AHT (args l:List Ty) (t:Ty):GF args (l++[t])=(GF args l&&aP args t):=by simp [GF]
theorem AZA {A:X} (i:Nat):(A.CM i).le A:=
 ⟨fun j cs a=>by
   grind [X.CM],fun _ h=>h,rfl,fun _ _ h=>h⟩
theorem AUT (A:X) (i:Nat):(A.CM i).C i=none:=by simp [X.CM]
theorem AND {A V:X} {i:Nat} {cs:List I} (h:(A.CM i).le V) (b:V.C i=some cs):(A.AI i cs).le V:=
 ⟨fun j ds a=>by
   rw [AD] at a;split at a
   . grind
   . rename_i e;exact h.C j ds (by simp only [X.CM,if_neg e];exact a),h.tok,h.gt,h.bt⟩
theorem kI (args:List Ty) (y:∀t∈args,t.size<=200) (l:List Ty) (E:∀t∈l,t.size<=200) (Q:l.length<=900000000) (i:Nat) (b:Bool) (A:X) (D:A.C i=some (sbC args b)):
 AS Tzp 34 [.gp i 0,.d (.sl (l.map Ty.J))] A (fun v H=>∃us,v= .d (.sl (us.map Ty.J))/\H=A.AI i (sbC args (b|| !GF args l))/\us.length=l.length/\((b|| !GF args l)=false->us=Ty.Df args l)):=by
 refine M2.go ?_;(repeat' refine wQ ?_<;>simp only [AA,go_sem])
 refine lpK (fun (z:Nat×I×X)=>[(10,A1 z.1),(5,z.2.1)]) (fun z=>z.2.2)
  (fun z=>z.1<=l.length/\∃us,us.length=z.1/\Bn (A.CM i) eTy 3 (us.map Ty.J) z.2.1 z.2.2/\z.2.2.C i=some (sbC args (b|| !GF args (l.take z.1)))/\((b|| !GF args (l.take z.1))=false->us=Ty.Df args (l.take z.1))) (fun z=>l.length - z.1) ?_ (0,.Ac,A)
  ⟨by simp,[],rfl,(Bn.nil A eTy 3).base (AZA i),by simpa [GF] using D,fun _=>rfl⟩
 rintro ⟨p,v,V⟩ ⟨F,us,k,g,c,e⟩ K;simp only at F k g c e;by_cases d:p < l.length
 . obtain ⟨t,o⟩:=Ak d;have B:=Au (J:=Ty.J) o;have m:=wS p;have n:=oS args y t (E t (AE o)) i _ V c;have u:=AHT args (l.take p) t;rw [<- Aa o] at u;have j:(b|| !GF args (l.take p)|| !aP args t)=(b|| !GF args (l.take (p+1))):=by rw [u];cases b<;>cases GF args (l.take p)<;>rfl
   rw [j] at n
   have f:(b|| !GF args (l.take (p+1)))=false->us++[apT args (b|| !GF args (l.take p)) t]=Ty.Df args (l.take (p+1)):=fun h=>by
    rw [<- j] at h
    have s:(b|| !GF args (l.take p))=false:=by
     cases G:(b|| !GF args (l.take p)) with
     |false=>rfl
     |true=>rw [G] at h;cases h
    rw [s,e s,Aa o,FV,FV,A4];rfl
   generalize apT args (b|| !GF args (l.take p)) t=w at n f;obtain ⟨k1,R,a1⟩:=t;obtain ⟨L,N,x⟩:=w;simp only [Ty.J,tyA,AB,AJ] at n;(repeat' (first|refine wQ ?_|(refine AN.mk rfl n ?_;rintro _ _ ⟨rfl,rfl⟩)|fail)<;>try simp only [BI d,B,g.w4,go_sem]);refine DH.own (g.set (AUT A i) (sbC args (b|| !GF args (l.take (p+1))))) rfl (by simp) (by simp;omega) (by omega) (fun P r a q=>?_);simp only [m,go_sem];(repeat' refine wQ ?_<;>simp only [m,a.BS,a.Cp,a.cells,a.cell,go_sem]);refine K ⟨p+1,P,r⟩ ⟨d,us++[.mk L N x],by simp [k],?_,?_,f⟩ (by simp only;omega)
   . rw [A4];exact a
   . rw [q,AD,if_pos rfl]
 . rw [AR (by omega)] at c e;(repeat' (first|refine wQ ?_|(refine W.By MY (AND g.le c) ?_)|fail)<;>try simp only [B5 d,g.w4,g.plain,go_sem]);exact ⟨us,rfl,by omega,e⟩
def Aa6:Q01->Q01
 | .seq _ (.seq _ (.seq (.block _ b) _))=>b
 |c=>c
theorem AN7 {gs:List (List Nat)} {p:Nat} {ms:List Nat} (h:gs[p]?=some ms):(gs.map fun r=>[DV.sl (r.map Ba)])[p]?=some [DV.sl (ms.map Ba)]:=by grind
theorem ATG {fs:List FE} {dt:List Dat} {r:DZ} {ms:List Nat} (h:(ms.foldl (igF (gcP fs dt r.1 ms)) (ig0 fs ms)).s.2=true\/qD (ms.foldl (igF (gcP fs dt r.1 ms)) (ig0 fs ms)).s.1=false):Uv fs dt r ms= .error (6,ms.headD 0):=by
 unfold Uv;grind
theorem ATH {fs:List FE} {dt:List Dat} {r:DZ} {ms:List Nat} {f:Nat} (h:¬((ms.foldl (igF (gcP fs dt r.1 ms)) (ig0 fs ms)).s.2=true\/qD (ms.foldl (igF (gcP fs dt r.1 ms)) (ig0 fs ms)).s.1=false))
 (a:ms.find? (fun f=>aO (ms.foldl (igF (gcP fs dt r.1 ms)) (ig0 fs ms)).s.1 ((gcP fs dt r.1 ms).ps.getD f []) ((gcP fs dt r.1 ms).rs.getD f 0) ((ms.foldl (igF (gcP fs dt r.1 ms)) (ig0 fs ms)).en.getD f []))=some f):Uv fs dt r ms= .error (9,f):=by
 unfold Uv;grind
theorem AWS {fs:List FE} {dt:List Dat} {r:DZ} {ms:List Nat} (h:¬((ms.foldl (igF (gcP fs dt r.1 ms)) (ig0 fs ms)).s.2=true\/qD (ms.foldl (igF (gcP fs dt r.1 ms)) (ig0 fs ms)).s.1=false))
 (a:ms.find? (fun f=>aO (ms.foldl (igF (gcP fs dt r.1 ms)) (ig0 fs ms)).s.1 ((gcP fs dt r.1 ms).ps.getD f []) ((gcP fs dt r.1 ms).rs.getD f 0) ((ms.foldl (igF (gcP fs dt r.1 ms)) (ig0 fs ms)).en.getD f []))=none):Uv fs dt r ms= .ok (ms.foldl (Jf (gcP fs dt r.1 ms) (ms.foldl (igF (gcP fs dt r.1 ms)) (ig0 fs ms)).s.1 (ms.foldl (igF (gcP fs dt r.1 ms)) (ig0 fs ms)).en) r):=by
 unfold Uv;grind
theorem AM1 (fs:List FE) (ds:List DE) (dt:List Dat) (hF:PF fs dt) (ms:List Nat) (hne:ms≠[]) (ht:ms.Nodup) (hm:∀f∈ms,f < fs.length) (O:X) (js jn:Nat) (r:DZ) (V:X) (n:HI dt O V fs.length js jn r) (Q:I->X->Prop) (k:List CI) (S T Y:DV)
 (w:∀(e:Int) (m:Nat) o k',Uv fs dt r ms= .error (e,m)->O.le o->W Bx Q (.code .ret::k') (put 2 (.lp 2 0) (put 3 (.lp 3 0) U)) (CN 2 [.Ac,.Ac] (CN 3 [.d (.int .i64 e),.d (.int .i64 (m:Int)),.d (.int .i64 0)] E)) o)
 (t:∀r' o,Uv fs dt r ms= .ok r'->HI dt O o fs.length js jn r'->(∀f∈ms,fQ fs dt r' f)->(∀f,f ∉ ms->r'.1[f]?=r.1[f]?/\r'.2[f]?=r.2[f]?)->
   W Bx Q k (put 1 (.lp 1 0) (put 2 (.lp 2 0) (put 3 (.lp 3 0) (put 5 (dsA dt) (put 7 (.lp 7 0) (put 40 (.d S) (put 41 (.d T) (put 42 (.d Y) U)))))))) (LI (.sl (ds.map DE.J)) (.sl (fs.map FE.J)) js jn fs.length) o):
 ∀(hc:X) (i N jp P je j:Nat) (hb:X),NGI V hb fs.length (.sl (ds.map DE.J)) (.sl (fs.map FE.J)) (dsA dt) (.ms js fs.length 5 eSs) i N jp P je j (ngP fs ms)->hc=hb.AI jp (psC (pgl (ngP fs ms).ps))->
 W Bx Q (.code (Pp (Pp (Aa6 IM)))::k) (put 1 (.lp 1 0) (put 2 (.lp 2 0) (put 3 (.lp 3 0) (put 5 (dsA dt) (put 7 (.lp 7 0) (put 9 (.d (.sl (ms.map Ba))) (put 10 (.gp i 0) (put 40 (.d S) (put 41 (.d T) (put 42 (.d Y) U)))))))))) (LI (.sl (ds.map DE.J)) (.sl (fs.map FE.J)) js jn fs.length) hc:=by
 rintro hc i N jp P je j hb al rfl;obtain ⟨B,hI,s,hl00⟩:=AR7 hF n hm ht hne al;generalize g:exN i je j (hb.AI jp (psC (pgl (ngP fs ms).ps)))=p at B hI s;generalize hb.AI jp (psC (pgl (ngP fs ms).ps))=hc at *;have F:∀k c,O.C k=some c->p k=some c:=fun k c t=>s k c (n.mo.C k c t);have hs:=@ATG fs dt r ms;have nm:=@ATH fs dt r ms;have hokk:=@AWS fs dt r ms;unfold IM;simp only [Aa6,Pp];rw [dsA] at t ⊢;(repeat' refine wQ ?_<;>simp only [AA,go_sem]);refine AEM (gB fs ds dt r ms i je N jp P js) p ms B O Q _ (.sl (ds.map DE.J)) (.sl (fs.map FE.J)) js jn fs.length (ig0 fs ms) hc _ j hI (.sl (dt.map Dat.J)) S T Y (fun v c es ext j2 b=>?_);have hG:(gB fs ds dt r ms i je N jp P js).G=gcP fs dt r.1 ms:=rfl;have hi:(gB fs ds dt r ms i je N jp P js).i=i:=rfl;rw [hG] at b;generalize hst:ms.foldl (igF (gcP fs dt r.1 ms)) (ig0 fs ms)=st at *;have x:st.s.1≠[]:=fun e=>by have:=b.gi0.pos;grind [GS.nx]
 have h4:st.s.1.length<=900000000:=by
  have D:st.s.1.length<=1000+1000000 * szM fs ms:=b.hi;have h2:szM fs ms<=Ut fs:=ATD fs ht;have:=hF.sz;omega
 have Z:=b.sn.C;rw [Ef x,hi] at Z
 obtain ⟨m0,hm0⟩:∃m0,ms[0]?=some m0:=by
  grind
 have hmh:ms.headD 0=m0:=by
  cases ms with
  |nil=>grind
  |cons a l=>simpa using hm0
 have hr:=H5 hm0;have h5:∀o,(∀k c,ext k=some c->o.C k=some c)->(nbH O).le o->O.le o:=fun o D h2=>Mo.le ⟨fun k c t=>D k c (b.sub k c (F k c t)),h2⟩;have htx:TX ((gB fs ds dt r ms i je N jp P js).w ext c es) ext st.s.1 st.s.2 j2 v:=⟨b.sn,b.x,b.xi,b.jj.1⟩;rw [hi];cases hj:st.s.2 with
 |true=>
  rw [hj] at Z;have he:=hs (.inl hj);rw [hmh] at he;(repeat' refine sQ ?_<;>simp only [Z,go_sem]);refine W.Gs mixed ?_;simp only [hr,Int.le_refl,Int.toNat_zero,go_sem]
  first
   |exact w 6 m0 v _ he (h5 v b.x b.nb)
   |(refine ⟨?_,?_⟩<;>exact w 6 m0 v _ he (h5 v b.x b.nb))
 |false=>
  rw [hj] at Z;(repeat' refine wQ ?_<;>simp only [Z,go_sem]);have hs2:=b.sn;have hfc:=jW i _ st.s.1 st.s.2 j2 v x h4 hs2;refine AN.mk rfl hfc ?_;rintro _ R ⟨rfl,j3,ns,hg⟩;have K:=htx.step x ns hg;have h7:=D9 b.nb (hg.nb2 (IW v));cases hl:qD st.s.1 with
  |false=>
   have he:=hs (.inr hl);rw [hmh] at he;simp only [go_sem];(repeat' refine sQ ?_<;>simp only [go_sem]);refine W.Gs mixed ?_;simp only [hr,Int.le_refl,Int.toNat_zero,go_sem]
   first
    |exact w 6 m0 R _ he (h5 R K.x h7)
    |(refine ⟨?_,?_⟩<;>exact w 6 m0 R _ he (h5 R K.x h7))
  |true=>
   have hnn:¬(st.s.2=true\/qD st.s.1=false):=by grind
   obtain ⟨d,hd⟩:=AQO ns.Gn hl;simp only [go_sem];(repeat' refine sQ ?_<;>simp only [go_sem]);refine AN.mk rfl (nF i _ st.s.1 st.s.2 j3 R x h4 ns) ?_;rintro _ z ⟨j1,jc3,jc4,jz,rfl,h6,hjz,hsx,x1,x3,x4⟩;have hxi:ext i=none:=b.xi
   have g:∀k c,ext k=some c->exT i j3 jz z k=some c:=fun k c t=>by
    have D:=K.x k c t;refine KE (h6.C k c D) (fun e=>by grind) (fun e=>by rw [e,K.xj] at t;cases t) (fun e=>by grind)
   have sc:R.C je=some es:=by rw [hg.C je (A5 B.ie) (fun _=>A5 b.jj.2) (by rw [show v.C je=some es from b.e];simp)];exact b.e
   have hj3:j3≠je:=by
    rcases hg.nw x with ⟨_,e⟩|e
    . rw [e];exact b.jj.2
    . exact fun e2=>by rw [e2,show v.C je=some es from b.e] at e;cases e
   have hjz2:je≠jz:=fun e=>by grind
   have hxe:exT i j3 jz z je=some es:=KE (h6.C _ _ sc) (A5 B.ie) (A5 hj3) hjz2
   have hM:MF (gB fs ds dt r ms i je N jp P js) ms es st (exT i j3 jz z):=⟨g _ _ (b.sub _ _ B.m),g _ _ (b.sub _ _ B.p),g _ _ (b.sub _ _ B.r),hxe,b.el,fun f hf=>by
    obtain ⟨jc,D,h2,_⟩:=b.cell f hf
    grind,b.gi,b.gi0⟩
   have hJE:JE (exT i j3 jz z) i st.s.1 d jz j1 jc3 jc4:=⟨h4,hd,x1,x3,x4⟩;have us:exT i j3 jz z js=some (Vu r.1):=g _ _ (b.sub _ _ (s _ _ n.b1));have vs:exT i j3 jz z jn=some (ntC r.2):=g _ _ (b.sub _ _ (s _ _ n.b2));have ho:p js=some (Vu r.1):=s _ _ n.b1;have hn:p jn=some (ntC r.2):=s _ _ n.b2;simp only [go_sem];(repeat' refine sQ ?_<;>simp only [AA,go_sem]);refine AEL (gB fs ds dt r ms i je N jp P js) p ms B c es st (exT i j3 jz z) hM d O jz j1 jc3 jc4 x hJE Q _ (.sl (ds.map DE.J)) (.sl (fs.map FE.J)) js jn fs.length (.sl (dt.map Dat.J)) S T Y z ⟨D9 h7 h6.nb,_,j3,KN.zero st.s.1,hsx⟩ ?_ ?_
   . rintro f ha k' hf ⟨h8,kn,j5,hkn,y⟩;exact w 9 f ha k' (nm hnn hf) (h5 ha (fun k c t=>y.x k c (g k c t)) h8)
   . rintro ha hy ⟨h8,kn,j5,hkn,y⟩;have h0:=AQZ hF B b hd hy n.l1 n.l2 n.so h4 hj;have htg:=hokk hnn hy;have hp:=sY (gcP fs dt r.1 ms) st.s.1 st.en ms r;have ks:=fun f (hf:f ∉ ms)=>(ABN (gcP fs dt r.1 ms) st.s.1 st.en ms r f ht).1 hf;have hnis:i≠js:=fun e=>by have:=b.xi;rw [hi,e,b.sub _ _ ho] at this;cases this
     have hnin:i≠jn:=fun e=>by have:=b.xi;rw [hi,e,b.sub _ _ hn] at this;cases this
     have hx5:=y.xj x
     have htx5:TX ((gB fs ds dt r ms i je N jp P js).w (Hj ext je es) c es) (exR (Hj ext je es) js jn r) st.s.1 st.s.2 j5 ha:=by
      refine ⟨y.sn,fun k5 cs u=>?_,AAI r hnis hnin ?_,AAI r (fun e=>by grind) (fun e=>by grind) ?_⟩
      . unfold exR at u;split at u
        . rename_i e;subst e;cases u;exact y.x _ _ us
        . split at u
          . rename_i e;subst e;cases u;exact y.x _ _ vs
          . unfold Hj at u;split at u
            . rename_i e;subst e;cases u;exact y.x _ _ hxe
            . exact y.x _ _ (g _ _ u)
      . show (if i=je then some es else ext i)=none;rw [if_neg (show i≠je from B.ie)];exact hxi
      . unfold Hj;rw [if_neg (fun e=>by grind)];cases he:ext j5 with
        |none=>rfl
        |some cs=>grind
     have hx:je≠js:=fun e=>by have:=b.xe;have D:=b.sub _ _ ho;rw [<- e] at D;rw [show (gB fs ds dt r ms i je N jp P js).je=je from rfl,D] at this;cases this
     have hv:je≠jn:=fun e=>by have:=b.xe;have D:=b.sub _ _ hn;rw [<- e] at D;rw [show (gB fs ds dt r ms i je N jp P js).je=je from rfl,D] at this;cases this
     have G:∀r',∀k c,ext k=some c->k≠js->k≠jn->exR (Hj ext je es) js jn r' k=some c:=fun r' k c t D h2=>by
      unfold exR;rw [if_neg D,if_neg h2];unfold Hj
      grind
     have hM2:∀r',MF (gB fs ds dt r ms i je N jp P js) ms es st (exR (Hj ext je es) js jn r'):=fun r'=>by
      obtain ⟨_,f2,f3,f4,_⟩:=al.fr;have L:∀k,V.C k=none->k≠js/\k≠jn:=fun k h=>⟨fun e=>(by rw [e,n.b1] at h;cases h),fun e=>(by rw [e,n.b2] at h;cases h)⟩;refine ⟨G r' _ _ (b.sub _ _ B.m) (L _ f2).1 (L _ f2).2,G r' _ _ (b.sub _ _ B.p) (L _ f3).1 (L _ f3).2,G r' _ _ (b.sub _ _ B.r) (L _ f4).1 (L _ f4).2,?_,b.el,fun f hf=>?_,b.gi,b.gi0⟩
      . show exR (Hj ext je es) js jn r' je=some es;unfold exR;rw [if_neg hx,if_neg hv];exact qC _ _ _
      . obtain ⟨jc,D,h2,h3⟩:=b.cell f hf
        grind
     (repeat' refine wQ ?_<;>simp only [AA,go_sem]);refine AEN (gB fs ds dt r ms i je N jp P js) p ms B c es st (Hj ext je es) js jn n.ne hM2 d hd x h4 hy (fun q hq=>B.gv.ps q hq) Q _ (.sl (ds.map DE.J)) (.sl (fs.map FE.J)) (.sl (dt.map Dat.J)) S T Y r n.l1 n.l2 O ha j5 h8 htx5 (fun τ6 j6 hnb6 h9=>?_);refine t _ τ6 htg ⟨⟨fun k c t=>?_,hnb6⟩,n.j1,n.j2,n.ne,h9.x js _ (by simp [exR,hG]),h9.x jn _ (by simp [exR,A5 n.ne,hG]),by rw [hp.1];exact n.l1,by rw [hp.2];exact n.l2,h0.1⟩ h0.2 ks;exact h9.x k c (G _ k c (b.sub _ _ (F k c t)) (fun e=>by rw [e,n.j1] at t;cases t) (fun e=>by rw [e,n.j2] at t;cases t))
theorem fQ.Ee {fs:List FE} {r':DZ} {f:Nat} (h:fQ fs dt r f) (e:r'.1[f]?=r.1[f]?/\r'.2[f]?=r.2[f]?):fQ fs dt r' f:=by
 obtain ⟨l,d,G,en,k,m,a,b,c,g,i,j⟩:=h;exact ⟨l,d,G,en,k,m,a,b,c,by rw [e.1];exact g,by rw [e.2];exact i,j⟩
theorem AH5 (fs:List FE) (ds:List DE) (dt:List Dat) (R:PF fs dt) (a:List (List Nat)) (h9:a.length<=1000) (h4:∀ms∈a,ms≠[]) (h3:a.flatten.Nodup) (hm:∀f∈a.flatten,f < fs.length) (O:X) (js jn:Nat) (G:DZ) (V:X) (v:HI dt O V fs.length js jn G) (Q:I->X->Prop) (k:List CI)
 (w:∀(e:Int) (m:Nat) b k',GH fs dt a G= .error (e,m)->O.le b->W Bx Q (.code .ret::k') (put 2 (.lp 2 0) (put 3 (.lp 3 0) U)) (CN 2 [.Ac,.Ac] (CN 3 [.d (.int .i64 e),.d (.int .i64 (m:Int)),.d (.int .i64 0)] E)) b)
 (hk:∀r b L N P,GH fs dt a G= .ok r->HI dt O b fs.length js jn r->(∀f∈a.flatten,fQ fs dt r f)->
   W Bx Q k (put 1 (.lp 1 0) (put 2 (.lp 2 0) (put 3 (.lp 3 0) (put 5 (dsA dt) (put 7 (.lp 7 0) (put 40 (.d L) (put 41 (.d N) (put 42 (.d P) U)))))))) (LI (.sl (ds.map DE.J)) (.sl (fs.map FE.J)) js jn fs.length) b):
 W Bx Q (.code (.loop IM)::.C 0::k) (put 1 (.lp 1 0) (put 2 (.lp 2 0) (put 3 (.lp 3 0) (put 5 (dsA dt) (put 7 (.lp 7 0) (put 40 (QN a) (put 41 (.d (.int .i64 a.length)) (put 42 (.d (.int .i64 0)) U)))))))) (LI (.sl (ds.map DE.J)) (.sl (fs.map FE.J)) js jn fs.length) V:=by
 rw [QN,dsA] at *
 refine lpK (fun (z:Nat×X)=>[(42,A1 z.1)]) (fun z=>z.2)
  (fun z=>z.1<=a.length/\∃r,GH fs dt a G=GH fs dt (a.drop z.1) r/\HI dt O z.2 fs.length js jn r/\∀f∈(a.take z.1).flatten,fQ fs dt r f)
  (fun z=>a.length - z.1) ?_ (0,V) ⟨by simp,G,by simp,v,by simp⟩
 clear v;rintro ⟨p,u⟩ ⟨hp,r,d,v,l⟩ ih;simp only at hp d v l;by_cases g:p < a.length
 . obtain ⟨ms,h⟩:=Ak g;have h0:=AN7 h;have y:=AE h;have h7:=wS p;have Y:=Cs h;rw [Y] at d;have s:∀f∈ms,f∈a.flatten:=fun f c=>List.mem_flatten.2 ⟨ms,y,c⟩;have D:(a.take (p+1)).flatten=(a.take p).flatten++ms:=by rw [Aa h,Js];simp
   have o:((a.take p).flatten++ms).Nodup:=by
    rw [<- D];have K:=h3;rw [<- Am (p+1) a,Js] at K;exact (Tj.1 K).1
   have n:ms.Nodup:=(Tj.1 o).2.1;have x:∀f∈(a.take p).flatten,f ∉ ms:=fun f K h2=>(Tj.1 o).2.2 f K f h2 rfl;have B:∀f∈fs,f.params.length<=1000:=fun f c=>by have:=R.pr f c;omega
   have hb:=R.lf;have hc:=Uk n (fun f c=>hm f (s f c));have q:=AE9 u fs ds dt js fs.length ms (by omega) (fun f c=>hm f (s f c)) (by omega) B;rw [dsA] at q;(repeat' refine sQ ?_<;>simp only [BI g,h0,go_sem]);refine AN.mk rfl q ?_;rintro _ ha ⟨i,jm,jp,jr,je,j,h8,rfl,T,rfl⟩;simp only [go_sem];refine AM1 fs ds dt R ms (h4 ms y) n (fun f c=>hm f (s f c)) O js jn r u v Q _ _ _ _ (fun e m b k' he Z=>w e m b k' (by rw [d,GH,he]) Z) (fun r' b h6 S F t=>?_) _ i jm jp jr je j h8 T rfl;rw [dsA];(repeat' refine wQ ?_<;>simp only [h7,go_sem]);refine ih ⟨p+1,b⟩ ⟨g,r',by rw [d,GH,h6],S,fun f c=>?_⟩ (by simp only;omega);rw [D] at c;rcases A2.1 c with c|c
   . exact (l f c).Ee (t f (x f c))
   . exact F f c
 . have h5:p=a.length:=by omega
   subst h5;rw [Ar] at l;rw [List.drop_length,GH] at d;(repeat' refine wQ ?_<;>simp only [B5 g,go_sem]);refine W.Zh [1,2,3,5,7,40,41,42] ?_;have:=hk r u (.sl (a.map fun r=>[DV.sl (r.map Ba)])) (.int .i64 a.length) (.int .i64 a.length) d v l;simp only [go_sem];exact this
theorem bP:∀a b:List I,I.C3 (a++b)=I.C3 a++I.C3 b
 |[],b=>by simp [I.C3]
 |x::a,b=>by rw [AU,I.C3,I.C3,bP a b];rfl
theorem zE (s:Sch) (l:List Sch):Vu (s::l)=s.row++Vu l:=FU _ _ _
theorem AN8 (n:Nat):I.C3 (AH n [I.d (.int .i64 0),.Ac,.d (.int .i64 0),.d (.int .i64 0),.Ac]).flatten=Vu (AH n jV):=by
 induction n with
 |zero=>rfl
 |succ n a=>rw [Bg,BO,bP,a,Bg,zE];simp [I.C3,K6,H6,Sch.row,jV,Ty.kind,Ty.num,Ty.args]
theorem ASA (n:Nat):I.C3 (AH n [I.Ac]).flatten=ntC (AH n []):=by
 induction n with
 |zero=>rfl
 |succ n a=>grind [BO,bP,I.C3,H6,ntC,ntR]
def MD (s:Sch):List DV:=[.int .i64 s.vars,.sl (s.params.map Ty.J),.int .i64 s.res.kind,.int .i64 s.res.num,.sl (s.res.args.map Ty.J)]
def eO (l:List Nt):List DV:=[.sl (l.map Cf)]
theorem AJ2:∀l:List Sch,dvs (Vu l)=some (l.map MD).flatten
 |[]=>rfl
 |s::l=>by
  have:=AJ2 l;rw [zE];simp only [Sch.row,AU,A3,dvs,AYV,this,AB,BO,MD];rfl
theorem AP9:∀l:List (List Nt),dvs (ntC l)=some (l.map fun x=>DV.sl (x.map Cf))
 |[]=>rfl
 |s::l=>by
  have:=AP9 l;simp only [ntC,AB] at this ⊢;simp only [ntR,dvs,AYV,this];rfl
theorem xN:∀l:List Sch,chunk 5 l.length (l.map MD).flatten=l.map MD
 |[]=>rfl
 |s::l=>by
  have:=xN l;simp only [AT,chunk,AB,BO];rw [show ((MD s)++(l.map MD).flatten).take 5=MD s from rfl,show ((MD s)++(l.map MD).flatten).drop 5=(l.map MD).flatten from rfl,this]
theorem ADA:∀l:List (List Nt),chunk 1 l.length (l.map fun x=>DV.sl (x.map Cf))=l.map eO
 |[]=>rfl
 |s::l=>by
  have:=ADA l;simp only [AT,chunk,AB,CK,CD,Eu,N9,this];rfl
def bF:Except Dg DZ->I
 | .error d=>.tup [.agg [.d (.sl []),.d (.sl [])],.agg [.d (.int .i64 d.1),.d (.int .i64 d.2.1),.d (.int .i64 d.2.2)]]
 | .ok r=>.tup [.agg [.d (.sl (r.1.map MD)),.d (.sl (r.2.map eO))],.agg [.d (.int .i64 0),.d (.int .i64 0),.d (.int .i64 0)]]
theorem AM2 {A V:X} {n js jn:Nat} (h:HI dt A V n js jn r) (o:n<=24) (Q:I->X->Prop) (k:List CI) (p:Q (bF (.ok r)) A):
 W Bx Q (.code .ret::k) (put 2 (.lp 2 0) (put 3 (.lp 3 0) U)) (CN 2 [.ms js n 5 eSs,.ms jn n 1 eNn] (CN 3 [.d (.int .i64 0),.d (.int .i64 0),.d (.int .i64 0)] E)) V:=by
 have f:=h.l1;have g:=h.l2;refine W.freeze (i:=js) (n:=n) (size:=5) (cs:=Vu r.1) (ds:=(r.1.map MD).flatten) (H:=V.CM js) (L':=CN 2 [BU (r.1.map MD),.ms jn n 1 eNn] (CN 3 [A1 0,A1 0,A1 0] E)) (F':=put 2 (.lp 2 0) (put 3 (.lp 3 0) U)) h.b1 (AJ2 r.1) (by rw [Dd Sch.row 5 Sch.Bj,f]) (Ai o (show (24:Nat)<=maxLen by decide+kernel)) (fun s=>.inl rfl) (fun q cs' a=>?_) (fun j cs' b=>?_) (fun t m=>m) ?_
 . by_cases e:q=2
   . subst e;refine ⟨_,rfl,.inr ?_⟩;have a:some [I.d (.sl (r.1.map MD)),.ms jn n 1 eNn]=some cs':=a;cases a;have l:chunk 5 n (r.1.map MD).flatten=r.1.map MD:=by rw [<- f];exact xN r.1
     simp only [Sl,frz,l,and_self,if_true,A5 h.ne,false_and,if_false]
   . refine ⟨cs',?_,.inl rfl⟩;simp only [CN,if_neg e] at a ⊢;exact a
 . rw [B9] at b;split at b
   . cases b
   . rename_i e;exact ⟨e,cs',b,.inl rfl⟩
 refine W.freeze (i:=jn) (n:=n) (size:=1) (cs:=ntC r.2) (ds:=r.2.map fun x=>DV.sl (x.map Cf)) (H:= { V with C:=fun j=>if (A.C j).isSome then V.C j else none}) (L':=CN 2 [BU (r.1.map MD),BU (r.2.map eO)] (CN 3 [A1 0,A1 0,A1 0] E)) (F':=put 2 (.lp 2 0) (put 3 (.lp 3 0) U)) (by rw [B9,if_neg (A5 h.ne)];exact h.b2) (AP9 r.2) (by simp [ntC,g]) (Ai o (show (24:Nat)<=maxLen by decide+kernel)) (fun s=>.inl rfl) (fun q cs' a=>?_) (fun j cs' b=>?_) (fun t m=>m) ?_
 . by_cases e:q=2
   . subst e;refine ⟨_,rfl,.inr ?_⟩;have a:some [I.d (.sl (r.1.map MD)),BU (r.2.map eO)]=some cs':=a;cases a;have l:chunk 1 n (r.2.map fun x=>DV.sl (x.map Cf))=r.2.map eO:=by rw [<- g];exact ADA r.2
     simp only [Sl,frz,l,and_self,if_true]
   . refine ⟨cs',?_,.inl rfl⟩;simp only [CN,if_neg e] at a ⊢;exact a
 . simp only at b;cases d:A.C j with
   |none=>rw [d] at b;cases b
   |some c=>
    rw [d] at b;refine ⟨fun e=>(by rw [e,h.j2] at d;cases d),cs',?_,.inl rfl⟩;rw [B9,if_neg (fun e=>by rw [e,h.j1] at d;cases d)];exact b
 . refine W.By QS (σ2:=A) (AIC h.mo.le) ?_;simp only [go_sem];exact p
def bdA (b:Bd):I:= .agg [.d (.sl (b.notes.map Cf)),.d (.sl (b.params.map Ty.J)),.d (.int .i64 b.res.kind),.d (.int .i64 b.res.num),.d (.sl (b.res.args.map Ty.J))]
def AH8:Option Bd->I
 |some b=>.tup [bdA b,.d (.bool true)]
 |none=>.tup [.agg [.d (.sl []),.d (.sl []),.d (.int .i64 0),.d (.int .i64 0),.d (.sl [])],.d (.bool false)]
theorem AVF {f:Nat} {args:List Ty} {s:Sch} {nt:List Nt} (a:r.1[f]?=some s) (b:r.2[f]?=some nt):M3 dt r ((f:Int),args)=
 if (args.length:Int)=s.vars/\args.all (Fg dt)=true/\GF args s.params=true/\aP args s.res=true/\nt.all (mD args)=true then some ⟨nt.map (AFU args),Ty.Df args s.params,s.res.subst args⟩ else none:=by
 have c:=(AG.1 a).1;unfold M3
 grind
theorem wG (dt:List Dat) (t:Ty) (a b c d:I) (j:Nat) (A:X) (e:A.C j=some [a,b,dsA dt,c,d]):
 AS Tzp 32 [tyA t,.gp j 0] A (fun v H=>v= .d (.bool (!Fg dt t))/\H=A):=by
 have f:=W4 dt t 0 A;refine Oa.go ?_;rw [B4];obtain ⟨k,n,l⟩:=t;unfold dsA at f e;(repeat' (first|refine sP ?_|refine AN.det (f) ?_|fail)<;>try simp only [e,go_sem]);rfl
abbrev eNs:Nat:=105
theorem YJ (ds fs:DV) (dt:List Dat) (r:DZ) (hr:∀f,f < r.1.length->∃fe,oG dt r fe f/\fe.body.size<=100000/\fe.params.length<=6) (x:Ed) (A:X):
 AS Tzp 16 [.agg [.d ds,.d fs,dsA dt,.d (.sl (r.1.map MD)),.d (.sl (r.2.map eO))],.agg [.d (.int .i64 x.1),L9 x.2]] A (fun v H=>v=AH8 (M3 dt r x)/\H=A):=by
 obtain ⟨f,args⟩:=x;refine QY.go ?_;rw [B4,L9,dsA,Ty.BQ];(repeat' first|refine W.cb rfl ?_|((first|refine rgQ mxQ ?_|refine cdQ ?_)<;>try simp only [go_sem])|fail);intro j hj;have n:A.le (A.AI j [.d ds,.d fs,BU (dt.map Dat.J),BU (r.1.map MD),BU (r.2.map eO)]):=Bf hj;have d:(A.AI j [.d ds,.d fs,BU (dt.map Dat.J),BU (r.1.map MD),BU (r.2.map eO)]).C j=some [.d ds,.d fs,BU (dt.map Dat.J),BU (r.1.map MD),BU (r.2.map eO)]:=BB;generalize A.AI j [.d ds,.d fs,BU (dt.map Dat.J),BU (r.1.map MD),BU (r.2.map eO)]=σ1 at n d ⊢;by_cases h0:f < 0
 . have hi:M3 dt r (f,args)=none:=by unfold M3;grind
   rw [hi];(repeat' (first|refine sQ ?_|(refine W.By Cb n ?_)|fail)<;>try simp only [decide_eq_true h0,go_sem]);rfl
 obtain ⟨m,rfl⟩:∃m:Nat,f=m:=⟨f.toNat,by omega⟩;by_cases hm:m < r.1.length
 case neg=>
  have hi:M3 dt r ((m:Int),args)=none:=by unfold M3;grind
  rw [hi];(repeat' (first|refine sQ ?_|(refine W.By Cb n ?_)|fail)<;>try simp only [d,decide_eq_false h0,leT hm,AA,go_sem]);rfl
 obtain ⟨fe,⟨s,nt,h1,h2,⟨vn,nm,B⟩,hs,hbl,Z,⟨h8,_⟩⟩,hfe,hfp⟩:=hr m hm;rw [AVF h1 h2];have e1:=Au (J:=MD) h1;have e2:=Au (J:=eO) h2;obtain ⟨sv,sp,⟨N,P,k⟩⟩:=s;simp only [MD,Ty.kind,Ty.num,Ty.args] at e1;simp only [eO] at e2;simp only at nm hs Z h8;by_cases hv:(args.length:Int)=sv
 case neg=>
  rw [if_neg (fun h=>hv h.1)];have B:=neB hv;(repeat' (first|refine sQ ?_|(refine W.By Cb n ?_)|fail)<;>try simp only [d,decide_eq_false h0,leF hm,AA,e1,B,go_sem]);rfl
 have B:=eqB hv;have o:=Zp (fid:=32) (Ae:=[.gp j 0]) (by kernel_rfl) rfl (fun t=>!Fg dt t) args σ1 (fun t _=>wG dt t _ _ _ _ j σ1 d);have h3:args.any (fun t=>!Fg dt t)=!args.all (Fg dt):=by grind
 rw [h3] at o;cases S:args.all (Fg dt) with
 |false=>
  rw [S] at o;rw [if_neg (fun h=>by cases h.2.1)];(repeat' (first|refine sQ ?_|(refine W.By Cb n ?_)|refine AN.det (o) ?_|fail)<;>try simp only [d,decide_eq_false h0,leF hm,AA,e1,B,go_sem]);rfl
 |true=>
 rw [S] at o
 have ha:∀t∈args,t.size<=200:=fun t L=>by
  have:=Ao.1 S t L;simp only [Fg,AM,decide_eq_true_eq] at this;exact this.1
 have hx:∀t∈sp,t.size<=200:=fun t L=>(Z t (by simp [L])).1;have hy:(Ty.mk N P k).size<=200:=(Z _ (by simp)).1;(repeat' (first|refine sQ ?_|refine AN.det (o) ?_|fail)<;>try simp only [d,decide_eq_false h0,leF hm,AA,e1,B,go_sem]);intro i hi
 have h6:A.C i=none:=by
  cases h:A.C i with
  |none=>rfl
  |some c=>have:=n.C i c h;grind
 have hq:j≠i:=fun e=>by grind
 have hg:=fun Q09=>(AD σ1 i i Q09).trans (if_pos rfl);have h5:=fun Q09=>(AD σ1 i j Q09).trans ((if_neg hq).trans d);have F:=kI args ha sp hx (by omega) i false _ (hg (sbC args false));have l:=oS args ha (.mk N P k) hy i (!GF args sp) _ (hg (sbC args (!GF args sp)));simp only [C4,MP] at F l
 have y:(!GF args sp|| !aP args (.mk N P k))=false->apT args (!GF args sp) (.mk N P k)=(Ty.mk N P k).subst args:=fun h=>by
  have:(!GF args sp)=false:=by grind
  rw [this];rfl
 generalize hB0:(!GF args sp|| !aP args (.mk N P k))=D at l y;generalize apT args (!GF args sp) (.mk N P k)=w at l y;obtain ⟨wk,wn,vs⟩:=w;simp only [sbC,L9,Ty.BQ] at F l;simp only [tyA,Ty.J,Ty.BQ,AB,AJ] at l;(repeat' (first|refine sQ ?_|(refine AN.mk rfl F ?_;rintro _ _ ⟨us,rfl,rfl,hul,al⟩)|(refine AN.mk rfl l ?_;rintro _ _ ⟨rfl,rfl⟩)|fail)<;>try simp only [h5,e2,AA,go_sem]);have q:=hg [BU (args.map Ty.J),D1 D];have T:A.le (σ1.AI i [BU (args.map Ty.J),D1 D]):=B6 n h6;generalize σ1.AI i [BU (args.map Ty.J),D1 D]=hb at q T ⊢;clear F l h5 hg o d hi;refine W.PL ?_
 refine W.SB ((fun (a4:I) (a7:I) (a8:I) (hc:I) (hd:I)=>fun (z:Nat×I×X)=>put 4 a4 (put 7 a7 (put 8 a8 (put 62 hc (put 63 hd (put 64 (A1 z.1) U)))))) _ _ _ _ _) (fun z=>CN 4 [.Ac,.Ac,A1 0,A1 0,.Ac] (CN 8 [z.2.1,BU (us.map Ty.J),A1 wk,A1 wn,BU (vs.map Ty.J)] E)) (fun z=>z.2.2)
  (fun z=>z.1<=nt.length/\∃ns,ns.length=z.1/\Bn A eNs 4 (ns.map Cf) z.2.1 z.2.2/\z.2.2.C i=some (sbC args (D|| !(nt.take z.1).all (mD args)))/\((D|| !(nt.take z.1).all (mD args))=false->ns=(nt.take z.1).map (AFU args))) (fun z=>nt.length - z.1) ?_ (0,.Ac,hb)
  ⟨by simp,[],rfl,(Bn.nil hb eNs 4).base T,by simpa [sbC,L9,Ty.BQ] using q,fun _=>rfl⟩
 clear q T;rintro ⟨p,v,V⟩ ⟨hp,ns,h7,Y,b,G⟩ ih;simp only at hp h7 Y b G;by_cases u:p < nt.length
 . obtain ⟨⟨t1,aa⟩,L⟩:=Ak u;obtain ⟨⟨ks,_⟩,hk,hl⟩:=h8 _ (AE L);have he:=Au (J:=Cf) L;have h9:=wS p
   have hf:((D|| !(nt.take p).all (mD args))|| !aP args t1|| !GF args aa)=(D|| !(nt.take (p+1)).all (mD args)):=by
    rw [Aa L,ZB];simp only [BK,Cl,mD,Cu]
    grind
   have hsn:(nt.take (p+1)).map (AFU args)=(nt.take p).map (AFU args)++[(t1.subst args,Ty.Df args aa)]:=by rw [Aa L,A4];rfl
   generalize (D|| !(nt.take p).all (mD args))=Bp at hf b G;have hg:=fun Q09=>(AD V i i Q09).trans (if_pos rfl);have Q:=oS args ha t1 ks i Bp V b;have h4:=kI args ha aa (fun a h=>(hk a h).1) hl i (Bp|| !aP args t1) _ (hg (sbC args (Bp|| !aP args t1)));simp only [C4] at h4;have hn:Bp=false->apT args Bp t1=t1.subst args:=fun h=>by rw [h];rfl
   generalize apT args Bp t1=w1 at Q hn;obtain ⟨q1,q2,q3⟩:=t1;obtain ⟨w1,w2,w3⟩:=w1;simp only [Cf,Ty.J,AU,A3] at he;simp only [tyA,Ty.J,AB,AJ] at Q;(repeat' (first|refine sQ ?_|(refine AN.mk rfl Q ?_;rintro _ _ ⟨rfl,rfl⟩)|(refine AN.mk rfl h4 ?_;rintro _ _ ⟨sc,rfl,rfl,hul2,hus2⟩)|fail)<;>try simp only [BI u,he,Y.w4,go_sem]);refine DH.own (Y.set h6 _) rfl (by simp) (by simp;omega) (by omega) (fun v' cs g hb'=>?_);simp only [g.cells,g.cell,go_sem];(repeat' refine sQ ?_<;>simp only [h9,go_sem]);refine ih ⟨p+1,v',cs⟩ ⟨u,ns++[(.mk w1 w2 w3,sc)],by simp [h7],?_,?_,fun h=>?_⟩ (by simp only;omega)
   . rw [A4];exact g
   . grind
   grind
 . rw [AR (by omega)] at b G;have R:(args.length:Int)=sv/\GF args sp=true/\aP args (.mk N P k)=true/\nt.all (mD args)=true↔(D|| !nt.all (mD args))=false:=by grind
   simp only [sbC] at b;have K:=Y.le;cases hB:(D|| !nt.all (mD args)) with
   |true=>
    rw [if_neg (fun h=>by grind)];rw [hB] at b;(repeat' (first|refine sQ ?_|(refine W.By Cb K ?_)|fail)<;>try simp only [B5 u,b,go_sem]);rfl
   |false=>
    rw [if_pos (R.2 hB)];rw [hB] at b;have e3:=G hB;simp only [XJ] at hB;have e4:=y hB.1;have e5:=al (by grind);(repeat' (first|refine sQ ?_|(refine W.By Cb K ?_)|fail)<;>try simp only [B5 u,b,Y.w4,go_sem]);simp only [Y.plain,e3,e5,go_sem];rw [<- e4];rfl
theorem ATR (h:Iv p=true):∀f∈p.Ca,∀sc x,x∈Bl f.body sc->nb1 x.1:=by
 simp only [Iv,AM,decide_eq_true_eq] at h;obtain ⟨⟨⟨_,_⟩,_⟩,a⟩:=h;obtain ⟨r,c⟩:=Pv.1 a;exact fun f b sc x d=>((V4 _ _ _ c f b).2.2 sc x d).1
theorem H0 {ε α β:Type} {f:α->β} {x:Except ε α} {y:β} (h:x.map f= .ok y):∃z,x= .ok z/\y=f z:=by
 cases x with
 |error e=>cases h
 |ok z=>simp only [F7,Da] at h;grind
def HdD (dt:List Dat) (ds:List (M×Nat)):Prop:=∀i,i < ds.length->∃D,dt[i]?=some D/\D.vars=((ds.getD i ([],0)).2:Int)
theorem AK6 {dt:List Dat} {ds:List (M×Nat)} (L:HdD dt ds) (vars:List M):∀(d:Nat) (t:TE) (whole:Bool) (u:Ty),I2 d t=true->Rn ds vars whole t= .ok u->u.sh dt/\Vx vars.length u=true/\u.size=t.size
 |0,t,whole,u,h,_=>by simp [I2] at h
 |d+1,.mk k n l,whole,u,h,f=>by
  rw [I2,AM] at h;obtain ⟨g,F⟩:=h
  have p:∀(l:List TE) (us:List Ty),l.all (I2 d)=true->Er ds vars l= .ok us->us.length=l.length/\Ty.shs dt us/\ML vars.length us=true/\Ty.AQ us=TE.AQ l:=by
   intro l
   induction l with
   |nil=>
    intro us _ f;rw [Er] at f;cases f;exact ⟨rfl,by rw [Ty.shs];trivial,rfl,rfl⟩
   |cons t l Q=>
    intro us r f;rw [BK,AM] at r;rw [Er] at f;cases j:Rn ds vars false t with
    |error e=>rw [j] at f;cases f
    |ok R=>
     rw [j] at f;obtain ⟨K,N,rfl⟩:=H0 f;obtain ⟨a,b,c,e⟩:=Q K r.2 N;obtain ⟨x,y,z⟩:=AK6 L vars d t false R r.1 j;exact ⟨by simp [a],by rw [Ty.shs];exact ⟨x,b⟩,by rw [ML,y,c];rfl,by rw [Ty.AQ,TE.AQ,z,e]⟩
  rw [Rn] at f;unfold ABS at g;by_cases s:k=4
  . subst s;rw [if_pos rfl] at f;cases m:Dz vars n with
    |none=>rw [m] at f;cases f
    |some i=>
     rw [m] at f;obtain ⟨us,j,rfl⟩:=H0 f;obtain ⟨a,b,c,e⟩:=p l us F j;have:=(fun h=>(AG.1 (Uh h)).1) m;refine ⟨by rw [Ty.sh];exact ⟨.inl rfl,b⟩,by rw [Vx,if_pos rfl];simp;omega,by rw [Ty.size,TE.size,e]⟩
  . rw [if_neg s] at f;by_cases v:k=5
    . subst v;rw [if_pos rfl] at f;cases m:Dz (ds.map (·.1)) n with
      |none=>rw [m] at f;cases f
      |some i=>
       rw [m] at f;simp only at f;split at f
       . cases f
       . rename_i o;split at f
         . cases f
         . obtain ⟨us,j,rfl⟩:=H0 f;obtain ⟨a,b,c,e⟩:=p l us F j;have q:=(fun h=>(AG.1 (Uh h)).1) m;rw [AA] at q;obtain ⟨D,P,r⟩:=L i q;have o:l.length=(ds.getD i ([],0)).2:=by simpa using o
           have G:(us.length:Int)=D.vars:=by rw [a,r,o]
           exact ⟨by rw [Ty.sh];exact ⟨.inr (.inr (.inl ⟨rfl,D,by omega,by simpa using P,G⟩)),b⟩,by rw [Vx,if_neg (by decide)];exact c,by rw [Ty.size,TE.size,e]⟩
    . rw [if_neg v] at f;obtain ⟨us,j,rfl⟩:=H0 f;obtain ⟨a,b,c,e⟩:=p l us F j;refine ⟨?_,by rw [Vx,if_neg s];exact c,by rw [Ty.size,TE.size,e]⟩;rw [Ty.sh];refine ⟨.inr ?_,b⟩;rw [a];by_cases j:k=1\/k=2\/k=3
      . rw [if_pos j,AM,decide_eq_true_eq] at g;exact .inl ⟨by omega,rfl,g.2⟩
      . rw [if_neg j,if_neg s,if_neg v] at g;by_cases w:k=6
        . rw [if_pos w] at g;simp only [AM,decide_eq_true_eq] at g;exact .inr (.inr (.inl ⟨w,rfl,g.1.2,g.2⟩))
        . rw [if_neg w] at g;by_cases B:k=7\/k=8
          . rw [if_pos B,AM,decide_eq_true_eq] at g;exact .inr (.inr (.inr (.inl ⟨B,rfl,g.2⟩)))
          . rw [if_neg B] at g;by_cases E:k=9
            . rw [if_pos E] at g;simp only [AM,decide_eq_true_eq] at g;exact .inr (.inr (.inr (.inr ⟨E,rfl,g.1.2,g.2⟩)))
            . rw [if_neg E] at g;cases g
def AXQ (dt:List Dat) (n:Nat) (c:CE) (x:Con):Prop:=x.name=c.name/\Ty.shs dt x.args/\ML n x.args=true/\Ty.AQ x.args=TE.AQ c.args/\x.args.length=c.args.length
theorem ACV {dt:List Dat} {ds:List (M×Nat)} (i:HdD dt ds) (vars:List M):∀(l:List TE) (us:List Ty),l.all (I2 40)=true->Ga ds vars l= .ok us->Ty.shs dt us/\ML vars.length us=true/\Ty.AQ us=TE.AQ l/\us.length=l.length
 |[],us,_,h=>by rw [Ga] at h;cases h;exact ⟨by rw [Ty.shs];trivial,rfl,rfl,rfl⟩
 |t::l,us,f,h=>by
  rw [BK,AM] at f;rw [Ga] at h;cases d:Rn ds vars true t with
  |error e=>rw [d] at h;cases h
  |ok u=>
   rw [d] at h;obtain ⟨g,j,rfl⟩:=H0 h;obtain ⟨a,b,c,e⟩:=ACV i vars l g f.2 j;obtain ⟨x,y,z⟩:=AK6 i vars 40 t true u f.1 d;exact ⟨by rw [Ty.shs];exact ⟨x,a⟩,by rw [ML,y,b];rfl,by rw [Ty.AQ,TE.AQ,z,c],by simp [e]⟩
theorem ADH {dt:List Dat} {ds:List (M×Nat)} (n:HdD dt ds) (vars:List M):∀(l:List CE) (d:List M) (f:List Con),l.all ADE=true->HS ds vars d l= .ok f->f.length=l.length/\∀(i:Nat) (x:Con),f[i]?=some x->∃c,l[i]?=some c/\AXQ dt vars.length c x
 |[],d,f,_,h=>by rw [HS] at h;grind
 |c::l,d,f,g,h=>by
  rw [BK,AM] at g;rw [HS] at h;split at h
  . cases h
  . cases k:Ga ds vars c.args with
    |error e=>grind
    |ok us=>
     rw [k] at h;obtain ⟨j,p,rfl⟩:=H0 h;obtain ⟨a,b⟩:=ADH n vars l _ j g.2 p;have m:=g.1;simp only [ADE,AM] at m;obtain ⟨q,r,s,t⟩:=ACV n vars c.args us m.2 k;refine ⟨by simp [a],fun i x o=>?_⟩;cases i with
     |zero=>
      simp only [A7,AP] at o;subst o;exact ⟨c,rfl,rfl,q,r,s,t⟩
     |succ i=>grind
theorem kP:∀(l done:List DE) (f:List Dat),FP done l= .ok f->f.length=l.length/\∀(i:Nat) (d:DE),l[i]?=some d->∃x,f[i]?=some x/\x.vars=(d.vars.length:Int)/\QP (Kj (done++l.take i)) (fB (done++l.take i)) d= .ok x
 |[],done,f,h=>by rw [FP] at h;grind
 |d::l,done,f,h=>by
  rw [FP] at h;cases c:QP (Kj done) (fB done) d with
  |error e=>grind
  |ok x=>
   rw [c] at h;obtain ⟨g,j,rfl⟩:=H0 h;obtain ⟨a,b⟩:=kP l (done++[d]) g j
   have m:x.vars=(d.vars.length:Int):=by
    unfold QP at c;split at c
    . cases c
    . obtain ⟨z,_,rfl⟩:=H0 c;rfl
   refine ⟨by simp [a],fun i e k=>?_⟩;cases i with
   |zero=>
    grind
   |succ i=>
    grind
theorem AP3 (g:Fc p= .ok dt):∀(i:Nat) (x:Dat),dt[i]?=some x->∃d,p.data[i]?=some d/\x.vars=(d.vars.length:Int)/\d.vars.length<=6/\x.cons.length=d.cons.length/\d.cons.length<=8/\∀(m:Nat) (c:Con),x.cons[m]?=some c->∃e,d.cons[m]?=some e/\AXQ dt d.vars.length e c:=by
 obtain ⟨s,t⟩:=I9 g;obtain ⟨E,z⟩:=kP _ _ _ t
 have l:∀d∈p.data,Xe d=true:=by
  simp only [Iv,AM] at s;exact fun d g=>Ao.1 s.1.2 d g
 have f:∀k,k<=p.data.length->HdD dt (Kj (p.data.take k)):=fun k D i v=>by
  have w:i < k:=by simp [Kj] at v;omega
  obtain ⟨d,g⟩:=Ak (show i < p.data.length by omega)
  grind [Kj,List.getElem?_take_of_lt]
 intro i x n;have h:i < p.data.length:=by grind
 obtain ⟨d,g⟩:=Ak h;obtain ⟨y,o,B,j⟩:=z i d g;rw [n] at o;cases o;have r:=l d (AE g);simp only [Xe,AM,decide_eq_true_eq] at r;unfold QP at j;split at j
 . cases j
 . obtain ⟨cs,q,rfl⟩:=H0 j
   have u:Kj ([]++p.data.take i)++[(d.name,d.vars.length)]=Kj (p.data.take (i+1)):=by
    rw [Aa g];simp [Kj]
   rw [u] at q;obtain ⟨a,b⟩:=ADH (f (i+1) h) d.vars d.cons _ cs r.2 q
   grind
def DSm (ds:List DE):Prop:=∀d∈ds,∀c∈d.cons,c.args.length<=10/\∀t∈c.args,t.size<=200
theorem Pg.sm.ds (h:p.sm):DSm p.data:=fun d b c a=>⟨((h.1.2 d b).2.2.2 c a).2.1,fun t e=>(((h.1.2 d b).2.2.2 c a).2.2 t e).2⟩
theorem AK3 {p:Pg} {dt:List Dat} (Q:(R5 p).1=0) (y:Fc p= .ok dt) (s:DSm p.data) (P:Ut p.Ca<=200):PF p.Ca dt:=by
 obtain ⟨B,_⟩:=I9 y;obtain ⟨L,z⟩:=bV B;have o:(Rv p.Ca dt 0 p.Ca).1=0:=by grind [R5]
 have h:=AP3 y;refine ⟨L,fun f K=>(z f K).2.1,P,fun f k q=>?_,fun d b=>?_,fun d b c a=>?_⟩
 . have g:=AE q;exact ⟨fun x D=>⟨iA (aJ _ _ o k g) x D,ATR B k g _ x D⟩,(z k g).1⟩
 . obtain ⟨i,r⟩:=Na b;obtain ⟨e,v,w,E,F,G,n⟩:=h i d r;refine ⟨by omega,by omega,by omega,fun c a=>?_⟩;obtain ⟨m,g⟩:=Na a;obtain ⟨ce,u,j⟩:=n m c g;refine ⟨by rw [w,BX];exact j.2.2.1,?_⟩;rw [j.2.2.2.1];have N:=s e (AE v) ce (AE u)
   have:∀l:List TE,(∀t∈l,t.size<=200)->TE.AQ l<=l.length * 200:=by
    intro l
    induction l with
    |nil=>intro _;simp [TE.AQ]
    |cons t l R=>
     grind [AY,AZ,TE.AQ,AT]
   grind
 . obtain ⟨i,r⟩:=Na b;obtain ⟨e,v,w,E,F,G,n⟩:=h i d r;obtain ⟨m,g⟩:=Na a;obtain ⟨ce,u,j⟩:=n m c g;exact j.2.1
theorem sE {g:List (List Nat)} :JQ g a b=true↔Reach g a b/\Reach g b a:=by simp [JQ,YX]
theorem ANP {g:List (List Nat)} (h:JQ g a b=true):JQ g b a=true:=by
 grind [sE]
theorem AIK {g:List (List Nat)} {c:Nat} (h:JQ g a b=true) (k:JQ g b c=true):JQ g a c=true:=by
 rw [sE] at h k ⊢;exact ⟨h.1.trans k.1,k.2.trans h.2⟩
def Cls (g:List (List Nat)) (ls:List Bool):Prop:=∀a b,a < g.length->b < g.length->JQ g a b=true->lsB ls a=lsB ls b
theorem Cls.start (g:List (List Nat)):Cls g (AH g.length false):=fun a b c d _=>by
 grind [lsB,AH,Vk]
theorem eG {g:List (List Nat)} {i:Nat} {k:Nat} (a:k < g.length):lsB (bL g i ls) k=(lsB ls k||JQ g i k):=by
 have:=Vk (Qc g i ls g.length a);rw [bL,this];simp [a]
theorem Cls.mrk {g:List (List Nat)} (h:Cls g ls) (i:Nat):Cls g (bL g i ls):=fun a b c d e=>by
 rw [eG c,eG d,h a b c d e];congr 1;rw [C2]
 grind [AIK,ANP]
theorem nQ {g:List (List Nat)} {i k:Nat}:k∈vR g i↔k < g.length/\JQ g i k=true:=by simp [vR]
theorem AMZ (g:List (List Nat)) (i:Nat):(vR g i).Nodup:=List.Pairwise.filter _ List.nodup_range
theorem ASC {g:List (List Nat)} :∀(N k:Nat),((Aj g.length).filter (rB g k)).length=N->k < g.length->lsB ls k=false->∃i,ABG g ls=some i:=by
 intro N
 induction N using DK with
 |_ N p=>
 intro k m d o;by_cases b:wU g ls k=true
 . cases e:ABG g ls with
   |some i=>grind
   |none=>
    rw [ABG,cD] at e;have:=e k (Cr.2 d);rw [pP,o,b] at this;simp at this
 . rw [wU,Ao] at b;simp only [Cr,Du,Classical.not_forall] at b;obtain ⟨j,n,a⟩:=b;simp only [Bool.not_eq_false,AM,Du] at a;obtain ⟨⟨h,q⟩,l⟩:=a;refine p _ ?_ j rfl n l;rw [<- m];have f:∀x,rB g j x=true->rB g k x=true:=fun x c=>YX.2 ((YX.1 h).trans (YX.1 c));have r:k∈(Aj g.length).filter (rB g k):=List.mem_filter.2 ⟨Cr.2 d,YX.2 (Reach.refl k)⟩;have s:k ∉ (Aj g.length).filter (rB g j):=fun c=>by grind
   have t:((Aj g.length).filter (rB g j))=((Aj g.length).filter (rB g k)).filter (rB g j):=by
    rw [List.filter_filter];apply List.filter_congr;intro x _;by_cases c:rB g j x=true
    . grind
    . grind
   grind [Nat.lt_of_le_of_ne,MQ,List.length_filter_eq_length_iff]
theorem ANT {g:List (List Nat)} {i:Nat} (h:ABG g ls=some i):i < g.length/\pP g ls i=true:=
 ⟨Cr.1 (List.mem_of_find?_eq_some h),List.find?_some h⟩
theorem AHE {g:List (List Nat)} {f:Nat} (d:unm ls < f) (h:Ki g f ls=[]):∀k,k < g.length->lsB ls k=true:=by
 intro k b;cases f with
 |zero=>omega
 |succ f=>
  cases c:lsB ls k with
  |true=>rfl
  |false=>
   obtain ⟨i,a⟩:=ASC _ k rfl b c;rw [Ki,a] at h;cases h
theorem c9 {g:List (List Nat)}:∀(f:Nat) (ls:List Bool),ls.length=g.length->unm ls < f->Cls g ls->
 (∀ms∈Ki g f ls,ms≠[])/\(Ki g f ls).flatten.Nodup/\(∀k,k∈(Ki g f ls).flatten↔k < g.length/\lsB ls k=false)/\(Ki g f ls).length<=f
 |0,ls,_,h,_=>by omega
 |f+1,ls,E,B,z=>by
  cases o:Ki g (f+1) ls with
  |nil=>
   have:=AHE B o;refine ⟨fun ms h=>by simp at h,by simp,fun k=>⟨fun h=>by simp at h,fun ⟨j,m⟩=>?_⟩,by simp⟩;rw [this k j] at m;cases m
  |cons l r=>
   rw [Ki] at o;cases v:ABG g ls with
   |none=>rw [v] at o;cases o
   |some i=>
    rw [v] at o;obtain ⟨u,n⟩:=ANT v;simp only [FJ] at o;obtain ⟨rfl,rfl⟩:=o;have w:lsB ls i=false:=by simp only [pP,AM,Du] at n;exact n.1
    have K:=ALF E u w;obtain ⟨a,b,c,d⟩:=c9 f (bL g i ls) (by rw [bL,Qd]) (by omega) (z.mrk i);have q:i∈vR g i:=nQ.2 ⟨u,sE.2 ⟨Reach.refl i,Reach.refl i⟩⟩
    have D:∀k,k∈vR g i->k < g.length/\lsB ls k=false:=fun k s=>by
     rw [nQ] at s;exact ⟨s.1,by rw [<- z i k u s.1 s.2];exact w⟩
    refine ⟨fun ms p=>?_,?_,fun k=>?_,by simp only [AT];omega⟩
    . rcases Ah.1 p with rfl|p
      . exact fun e=>by rw [e] at q;cases q
      . exact a ms p
    . rw [BO,Tj];refine ⟨AMZ g i,b,fun x F y G e=>?_⟩;subst e;have t:=(c x).1 G;rw [eG t.1,(nQ.1 F).2] at t;simp at t
    . rw [BO,A2,c];constructor
      . rintro (h|⟨j,m⟩)
        . exact D k h
        . rw [eG j] at m;simp only [XJ] at m;exact ⟨j,m.1⟩
      . rintro ⟨j,m⟩;cases p:JQ g i k with
        |true=>exact .inl (nQ.2 ⟨j,p⟩)
        |false=>exact .inr ⟨j,by rw [eG j,m,p];rfl⟩
theorem ADD (g:List (List Nat)):(∀ms∈Rw g,ms≠[])/\(Rw g).flatten.Nodup/\(∀k,k∈(Rw g).flatten↔k < g.length)/\(Rw g).length<=g.length+1:=by
 have e:unm (AH g.length false) < g.length+1:=by grind [MQ,AH,unm,MR]
 obtain ⟨a,b,c,d⟩:=c9 (g:=g) (g.length+1) (AH g.length false) (by simp) e (Cls.start g);refine ⟨a,b,fun k=>?_,d⟩;rw [Rw,c];exact ⟨fun h=>h.1,fun h=>⟨h,Vk (by simp [h])⟩⟩
theorem AAS {p:Pg} (h:(R5 p).1=0):(∀ms∈Lq p,ms≠[])/\(Lq p).flatten.Nodup/\(∀k,k∈(Lq p).flatten↔k < p.Ca.length)/\(Lq p).length<=25:=by
 obtain ⟨a,b,c,d⟩:=ADD (J7 p);have e:(J7 p).length=p.Ca.length:=by unfold J7;grind
 grind [VY,Lq]
def RIN (A:X) (n:Nat) (F0:Fm) (L0:Nat->Nat->Lm) (F:Fm) (L:Lm) (V:X):Prop:=
 ∃js jn,Ee [1,2,3,5,7] F=F0/\GK [1,2,3,5,7] L=L0 js jn/\Mo A V/\A.C js=none/\A.C jn=none/\js≠jn/\V.C js=some (AH n [I.d (.int .i64 0),.Ac,.d (.int .i64 0),.d (.int .i64 0),.Ac]).flatten/\V.C jn=some (AH n [I.Ac]).flatten
theorem HI.start {A V:X} {n js jn:Nat} (d:Mo A V) (b:A.C js=none) (c:A.C jn=none) (a:js≠jn):HI dt A ((V.AI js (Vu (AH n jV))).AI jn (ntC (AH n []))) n js jn (AH n jV,AH n []):=
 ⟨(d.AS2 b _).AS2 c _,b,c,a,by rw [AD,if_neg a,AD,if_pos rfl],BB,by simp,by simp,fun s e=>by
   rw [(List.mem_replicate.1 e).2];exact AWI dt⟩
theorem nJ (p:Pg) (y:DSm p.data) (hz:Ut p.Ca<=200) (A:X):AS Tzp 28 [pgA p] A (fun v H=>(v=bF (Dj p)/\H=A)/\∀dt r,Fc p= .ok dt->Dj p= .ok r->∀f,f < p.Ca.length->fQ p.Ca dt r f):=by
 have l:∀d∈p.data,N4 d:=fun d hd c o t N=>by have:=(y d hd c o).2 t N;omega
 have i:=fun A=>Y1 p A l;have g:=fun A=>N3 p A l;have k:=fun A=>nE p A l;have L:=@AK3 p;have F:=@AAS p
 have w:∀e,Fc p= .error e->(R5 p).1≠0:=fun e he h0=>by
  grind [R5,dD]
 refine rN.go ?_;rw [Dx];generalize hQ:(fun (v:I) (H:X)=>(v=bF (Dj p)/\H=A)/\∀dt r,Fc p= .ok dt->Dj p= .ok r->∀f,f < p.Ca.length->fQ p.Ca dt r f)=Q
 have s:∀d,Dj p= .error d->Q (bF (.error d)) A:=fun d hd=>by
  grind
 have E:∀r,Dj p= .ok r->(∀dt,Fc p= .ok dt->∀f,f < p.Ca.length->fQ p.Ca dt r f)->Q (bF (.ok r)) A:=fun r hr h=>by
  grind
 clear hQ
 have q:Dj p=if (R5 p).1≠0 then .error (R5 p) else match Fc p with
  | .error d=>.error d
  | .ok dt=>match GH p.Ca dt (Lq p) (AH p.Ca.length jV,AH p.Ca.length []) with
   | .error e=>.error (e.1,(e.2:Int),0)
   | .ok r=>.ok r:=rfl
 generalize Dj p=hi at *;generalize Lq p=gs at *;generalize h7:R5 p=ck at *;generalize h8:Fc p=dp at *;obtain ⟨ds,fs⟩:=p;simp only [pgA,Pg.J,AB,AJ] at i g k ⊢;obtain ⟨Z,c2,c3⟩:=ck;simp only [dgA] at i;by_cases j:Z=0
 . subst j;cases dp with
   |error d=>exact absurd rfl (w d rfl)
   |ok dt=>
    have B:PF fs dt:=L rfl rfl y hz;simp only [ne_eq,not_true,if_false] at q;simp only [pY,dsA,dgA] at g;(repeat' first|((first|refine sQ ?_|refine AN.det (i _) ?_|refine AN.det (g _) ?_|fail)<;>try simp only [go_sem])|(constructor<;>intro h<;>first|(cases h;done)|try simp only [h])|fail);refine W.WX mixed (RIN A fs.length (put 1 (.lp 1 0) (put 2 (.lp 2 0) (put 3 (.lp 3 0) (put 5 (dsA dt) (put 7 (.lp 7 0) U))))) (fun js jn=>LI (.sl (ds.map DE.J)) (.sl (fs.map FE.J)) js jn fs.length)) ?_ ?_
    . have h9:fs.length<=24:=B.lf;simp only [AA,go_sem];refine ⟨?_,?_⟩<;>
      (refine K8.mo (P:=Tzp) fs.length (by omega) (by omega) (fun a z ha R f1=>?_)
       simp only [go_sem];refine K8.mo (P:=Tzp) fs.length (by omega) (by omega) (fun b hj hb S f2=>?_);simp only [go_sem];have n1:=sH f1 hb;have Y:=S.C _ _ f1;have u:=R.ne hb;unfold RIN
       first
        |exact ⟨a,b,by simp only [dsA,go_sem],by simp only [go_sem],R.trans S,ha,u,n1,Y,f2⟩
        |exact ⟨b,a,by simp only [dsA,go_sem],by simp only [go_sem],R.trans S,u,ha,A5 n1,f2,Y⟩)
    . rintro F' L' V ⟨js,jn,e1,e2,hm,h1,h2,K,b1,b2⟩;rw [e1,e2];clear e1 e2 F' L';have hH:=HI.start (dt:=dt) (n:=fs.length) hm h1 h2 K;refine W.AF6 (H:=(V.AI js (Vu (AH fs.length jV))).AI jn (ntC (AH fs.length []))) (fun m cs' o=>?_) (fun t N=>N) ?_
      . rw [AD] at o;split at o
        . grind [ASA]
        . rw [AD] at o;split at o
          . grind [AN8]
          grind
      generalize (V.AI js (Vu (AH fs.length jV))).AI jn (ntC (AH fs.length []))=z at hH ⊢;obtain ⟨g1,g2,g3,g4⟩:=F rfl;simp only [QN] at k;(repeat' (first|refine wQ ?_|refine AN.det (k _) ?_|fail)<;>try simp only [AA,go_sem]);refine AH5 fs ds dt B gs (by omega) g1 g2 (fun f hf=>(g3 f).1 hf) A js jn _ z hH Q _ (fun e m T k' he G=>?_) (fun r T h3 h4 h5 hr D hg=>?_)
      . have:=s (e,(m:Int),0) (by rw [q,he]);refine W.By QS (σ2:=A) G ?_;simp only [go_sem];exact this
      . have x:=E r (by rw [q,hr]) (fun h6 h' f hf=>by grind);rw [dsA];(repeat' refine wQ ?_<;>simp only [go_sem]);exact AM2 D B.lf Q _ x
 . simp only [ne_eq,j,not_false_eq_true,if_true] at q;have h0:(Z != 0)=true:=by simpa using j
   have:=s _ q;(repeat' (first|refine sQ ?_|refine AN.det (i _) ?_|fail)<;>try simp only [h0,go_sem]);refine W.Gs mixed ?_;simp only [go_sem];refine W.By QS (σ2:=A) (X.le_refl _) ?_;simp only [go_sem];exact this
theorem iW (h:Dj p= .ok r):r.1.length=p.Ca.length/\r.2.length=p.Ca.length:=by
 have c:∀(fs:List FE) (dt:List Dat) (r:DZ) (ms:List Nat) (r':DZ),Uv fs dt r ms= .ok r'->r'.1.length=r.1.length/\r'.2.length=r.2.length:=fun fs dt r ms r' h=>by
  grind [Uv,sY]
 have b:∀(a:List (List Nat)) (fs:List FE) (dt:List Dat) (r r':DZ),GH fs dt a r= .ok r'->r'.1.length=r.1.length/\r'.2.length=r.2.length:=by
  intro a
  induction a with
  |nil=>intro fs dt r r' h;rw [GH] at h;grind
  |cons ms a d=>
   grind [GH,Uv,trans]
 grind [Dj]
theorem Ps (h:Dj p= .ok r):(R5 p).1=0/\∃dt,Fc p= .ok dt:=by
 unfold Dj at h
 grind
theorem AH6 {fs:List FE} {gs:List (List Nat)} {e:Int×Nat} (h:GH fs dt gs r= .error e):e.1≠0:=by
 induction gs generalizing r with
 |nil=>rw [GH] at h;cases h
 |cons ms gs a=>
  grind [GH,Uv]
theorem iV {p:Pg} {d:Dg} (a:Dj p= .error d):d.1≠0:=by
 unfold Dj at a;split at a
 . grind
 . split at a
   . grind [dD]
   . split at a
     . grind [AH6]
     . cases a
structure TyG (p:Pg) (dt:List Dat) (r:DZ):Prop where
 dat:Fc p= .ok dt
 inf:Dj p= .ok r
 len:r.1.length=p.Ca.length
 pf:PF p.Ca dt
 sp:∀f,f < r.1.length->∃fe,oG dt r fe f/\fe.body.size<=100000/\fe.params.length<=6
 fe:∀f fe,p.Ca[f]?=some fe->oG dt r fe f
noncomputable def sA (p:Pg):I:=match Dj p,Fc p with
 | .error d,_=>.tup [.agg [.d (.sl []),.d (.sl []),.d (.sl []),.d (.sl []),.d (.sl [])],dgA d]
 | .ok r,.ok dt=>.tup [.agg [.d (.sl (p.data.map DE.J)),.d (.sl (p.Ca.map FE.J)),dsA dt,.d (.sl (r.1.map MD)),.d (.sl (r.2.map eO))],dgA (0,0,0)]
 | .ok _,.error d=>.tup [.agg [.d (.sl []),.d (.sl []),.d (.sl []),.d (.sl []),.d (.sl [])],dgA d]
theorem AA7 (p:Pg) (j:DSm p.data) (B:Ut p.Ca<=200) (A:X):AS Tzp 14 [pgA p] A (fun v H=>(v=sA p/\H=A)/\∀r,Dj p= .ok r->∃dt,TyG p dt r):=by
 have w:∀d∈p.data,N4 d:=fun d i c q t F=>by have:=(j d i c q).2 t F;omega
 have b:=fun A=>N3 p A w;have g:=nJ p j B A
 have D:(∀dt r,Fc p= .ok dt->Dj p= .ok r->∀f,f < p.Ca.length->fQ p.Ca dt r f)->∀r,Dj p= .ok r->∃dt,TyG p dt r:=fun h r m=>by
  obtain ⟨q,dt,i⟩:=Ps m;have E:=(iW m).1;have l:=AK3 q i j B;have z:∀f e,p.Ca[f]?=some e->oG dt r e f:=fun f e a=>(h dt r i m f (AG.1 a).1).sp a (l.pr e (AE a));refine ⟨dt,i,m,E,l,fun f K=>?_,z⟩;obtain ⟨e,a⟩:=Ak (show f < p.Ca.length by omega);exact ⟨e,z f e a,by have:=(l.ok f e a).2;omega,l.pr e (AE a)⟩
 have k:=@iV p;refine rG.go ?_;rw [Dx];unfold sA;have u:∀r,Dj p= .ok r->∃dt,Fc p= .ok dt:=fun r h=>(Ps h).2;generalize y:Dj p=x at *;cases x with
 |error d=>
  have s:=k rfl;obtain ⟨d1,d2,d3⟩:=d;have o:(d1 != 0)=true:=by simpa using s
  obtain ⟨ds,fs⟩:=p;simp only [pgA,Pg.J,AB,AJ,bF] at g ⊢;(repeat' (first|refine sQ ?_|(refine AN.mk rfl g ?_;rintro _ A ⟨⟨rfl,rfl⟩,_⟩)|fail)<;>try simp only [o,go_sem]);refine W.Gs mixed ?_;simp only [go_sem];refine W.By qM (σ2:=A) (X.le_refl _) ?_;simp only [go_sem];simp [dgA]
 |ok r=>
  obtain ⟨dt,i⟩:=u r rfl;simp only [i] at b D ⊢;obtain ⟨ds,fs⟩:=p;simp only [pgA,Pg.J,AB,AJ,bF,pY,dsA,dgA] at g b ⊢;have n:((0:Int) != 0)=false:=by decide
  (repeat' (first|refine sP ?_|(refine AN.mk rfl g ?_;rintro _ A ⟨⟨rfl,rfl⟩,G⟩)|refine AN.det (b _) ?_|fail)<;>try simp only [n,go_sem])
  grind
theorem AE1 (h:TyG p dt r):sA p= .tup [.agg [.d (.sl (p.data.map DE.J)),.d (.sl (p.Ca.map FE.J)),dsA dt,.d (.sl (r.1.map MD)),.d (.sl (r.2.map eO))],dgA (0,0,0)]:=by
 unfold sA;rw [h.inf,h.dat]
theorem AO8 (p:Pg) (e:DSm p.data) (i:Ut p.Ca<=200) (x:Ed) (f:TyG p dt r) (A:X):
 AS Tzp 22 [pgA p,.agg [.d (.int .i64 x.1),L9 x.2]] A (fun v H=>v=(match M3 dt r x with|some b=>.tup [.d (.sl (b.notes.map Cf)),.d (.bool true)]|none=>.tup [.d (.sl []),.d (.bool false)])/\H=A):=by
 have d:=(AA7 p e i A).mono (Q':=fun v H=>v=sA p/\H=A) fun v H h=>h.1;rw [AE1 f] at d;obtain ⟨ds,fs⟩:=p;have c:=YJ (.sl (ds.map DE.J)) (.sl (fs.map FE.J)) dt r f.sp x A;refine mP.go ?_;rw [B4];simp only [pgA,Pg.J,AB,AJ,dsA,L9,Ty.BQ,dgA] at d c ⊢;have a:((0:Int) != 0)=false:=by decide
 cases g:M3 dt r x with
 |none=>
  simp only [g,AH8] at c;(repeat' (first|refine sP ?_|refine AN.det (d) ?_|refine AN.det (c) ?_|fail)<;>try simp only [a,go_sem])
 |some b=>
  simp only [g,AH8,bdA] at c;(repeat' (first|refine sP ?_|refine AN.det (d) ?_|refine AN.det (c) ?_|fail)<;>try simp only [a,go_sem])
theorem ALP (p:Pg) (e:DSm p.data) (i:Ut p.Ca<=200) (x:Ed) (f:TyG p dt r) (A:X):
 AS Tzp 23 [pgA p,.agg [.d (.int .i64 x.1),L9 x.2]] A (fun v H=>v=(match M3 dt r x with|some b=>.tup [.d (.sl (b.params.map Ty.J)),tyA b.res,.d (.bool true)]|none=>.tup [.d (.sl []),tyA (.mk 0 0 []),.d (.bool false)])/\H=A):=by
 have d:=(AA7 p e i A).mono (Q':=fun v H=>v=sA p/\H=A) fun v H h=>h.1;rw [AE1 f] at d;obtain ⟨ds,fs⟩:=p;have c:=YJ (.sl (ds.map DE.J)) (.sl (fs.map FE.J)) dt r f.sp x A;refine iR.go ?_;rw [B4];simp only [pgA,Pg.J,AB,AJ,dsA,L9,Ty.BQ,dgA] at d c ⊢;have a:((0:Int) != 0)=false:=by decide
 cases g:M3 dt r x with
 |none=>
  simp only [g,AH8] at c;(repeat' (first|refine sP ?_|refine AN.det (d) ?_|refine AN.det (c) ?_|fail)<;>try simp only [a,go_sem])
 |some b=>
  obtain ⟨j,m,⟨k,n,l⟩⟩:=b;simp only [g,AH8,bdA,Ty.kind,Ty.num,Ty.args] at c;(repeat' (first|refine sP ?_|refine AN.det (d) ?_|refine AN.det (c) ?_|fail)<;>try simp only [a,Ty.BQ,go_sem])
section
open Go.RowKit Go.Sort
variable {P:Program} {base N:Nat} {g g':Gh} {Pr:Nat->Prop} {A H:X} {w0 w w':World}
theorem Rel.grown (h:Rel base g Pr A w0 w) (k:Nat) (os:Array Obj):Rel base g Pr A w0 (Sort.grow (w.drewN k) os)/\KP Pr w (Sort.grow (w.drewN k) os):=by
 have e:(Sort.grow (w.drewN k) os).heap.size=w.heap.size+os.size:=by simp_all
 have c:∀b,b < w.heap.size->(Sort.grow (w.drewN k) os).heap[b]?=w.heap[b]?:=fun b c=>by
  show (w.heap++os)[b]?=w.heap[b]?
  grind
 refine ⟨h.grow (by omega) (fun b a _=>c b a) ⟨rfl,rfl,rfl,by omega,fun b a=>c b (Be a h.bs)⟩ (fun b d=>⟨by have:=(h.pr b d).1;omega,.inl d⟩),by omega,fun b d=>c b (h.pr b d).1⟩
theorem Rel.tab (h:Rel base g Pr A w0 w) {name:String} {vs:Array Value} (e:P.globalNamed name=some b) (c:A.gt b=some vs):w.var? P name=some vs:=by
 obtain ⟨a,ty,fr,d⟩:=h.st.1 b vs c;unfold World.var?;rw [e,Jt,h.bel.block b a,d]
theorem AS.AV1 {f:FuncId} {args:List I} {x:DV}
 (h:∀(base:Nat) (g:Gh) (Pr:Nat->Prop) (w0 w:World) (vs:List Value),Rel base g Pr A w0 w->VRs g args vs->∃v,RD g.im x v/\Calls P f vs.toArray w fun e w'=>e= .returned v/\∃k os,w'=Sort.grow (w.drewN k) os):
 AS P f args A (fun v H=>v= .d x/\H=A):=by
 intro base g Pr w0 w vs a i;obtain ⟨v,j,d⟩:=h base g Pr w0 w vs a i;refine d.mono ?_;rintro e w' ⟨rfl,k,os,rfl⟩;obtain ⟨b,c⟩:=a.grown k os;exact ⟨v,.d x,g,A,rfl,.d j,b,Gh.le_refl g,c,rfl,rfl⟩
theorem VRs.one {c:I} {vs:List Value} (h:VRs g [c] vs):∃v,vs=[v]/\VR g c v:=by
 cases h with|cons h a=>cases a;grind
theorem VRs.two {c d:I} {vs:List Value} (h:VRs g [c,d] vs):∃v u,vs=[v,u]/\VR g c v/\VR g d u:=by
 cases h with|cons h a=>obtain ⟨u,rfl,b⟩:=a.one;grind
theorem VR.AKP {k:IntKind} {n:Int} {v:Value} (h:VR g (.d (.int k n)) v):v= .int k n/\k.has n:=by
 cases h with|d h=>cases h with|int h=>grind
theorem Rel.AYM (h:Rel base g Pr A w0 w) {i:Nat} {a:I} (k:A.C i=some [a,s]) (n:A.bt i=some (2,ty)):
 ∃b x y,g.mu i=some b/\w.heap[b]?=some (.cells #[x,y] ty (0,0))/\VR g a x/\VR g s y/\base<=b/\¬Pr b/\BA [a,s]=true:=by
 obtain ⟨b,m,c⟩:=h.shr i _ k;obtain ⟨vs,t,l,u,d,o⟩:=c.row;obtain ⟨j,f⟩:=d (2,ty) (h.st.2 i _ n);simp only at j f;subst f;obtain ⟨x,y,q,p,r⟩:=o.two;have e:vs=#[x,y]:=by grind
 subst e;exact ⟨b,x,y,m,l,p,r,c.low,c.pr,c.ok⟩
theorem AG9 {f:FuncId} (k:∀(b:Nat) (w:World),w.cell? ⟨b,0,none⟩=some (.pointer (some ⟨b,0,none⟩))->Calls P f #[.pointer (some ⟨b,0,none⟩)] w fun e w'=>e= .returned (.tuple #[])/\w'=w)
 {i:Nat} (j:A.C i=some [.gp i 0,s]) (n:A.bt i=some (2,ty)):AS P f [.gp i 0] A (fun v H=>v= .tup []/\H=A):=by
 intro base g Pr w0 w vs d o;obtain ⟨v,rfl,a⟩:=o.one;obtain ⟨b,x,y,m,l,p,_,_,_,_⟩:=d.AYM j n;cases a with|gp h=>
 cases p with|gp c=>
 rw [m] at h c;cases h;cases c;refine (k b w (by simp [World.cell?,l])).mono ?_;rintro e w' ⟨rfl,rfl⟩;exact ⟨_,.tup [],g,A,rfl,.tup (vs:=[]) rfl (by simp),d,Gh.le_refl g,KP.refl _ _,rfl,rfl⟩
theorem AC9 {f:FuncId} (D:∀(b:Nat) (w:World),w.cell? ⟨b,0,none⟩=some (.pointer none)->w.shape? b=some (ty,2)->w.frozen? ⟨b,0,none⟩=false->Calls P f #[.pointer (some ⟨b,0,none⟩)] w fun e w'=>e= .returned (.tuple #[])/\w'=w.setCell ⟨b,0,none⟩ (.pointer (some ⟨b,0,none⟩)))
 {i:Nat} (z:A.C i=some [.Dt,s]) (B:A.bt i=some (2,ty)):AS P f [.gp i 0] A (fun v H=>v= .tup []/\H=A.AI i [.gp i 0,s]):=by
 intro base g Pr w0 w vs r F;obtain ⟨v,rfl,u⟩:=F.one;obtain ⟨b,x,y,o,l,G,K,c,q,j⟩:=r.AYM z B;cases u with|gp h=>
 cases G with|Dt=>
 rw [o] at h;cases h;refine (D b w (by simp [World.cell?,l]) (by simp [World.shape?,l]) (by simp [World.frozen?,l])).mono ?_;rintro e w' ⟨rfl,rfl⟩;have a:Below base w (w.setCell ⟨b,0,none⟩ (.pointer (some ⟨b,0,none⟩))):=(Below.refl base w).setCell (p:=⟨b,0,none⟩) c _;have E:(w.setCell ⟨b,0,none⟩ (.pointer (some ⟨b,0,none⟩))).heap.size=w.heap.size:=by simp_all
 have d:∀k,k≠b->(w.setCell ⟨b,0,none⟩ (.pointer (some ⟨b,0,none⟩))).heap[k]?=w.heap[k]?:=fun k m=>by
  simp only [World.setCell,WD]
  grind
 have n:(w.setCell ⟨b,0,none⟩ (.pointer (some ⟨b,0,none⟩))).heap[b]?=some (.cells #[.pointer (some ⟨b,0,none⟩),y] ty (0,0)):=by
  simp [World.setCell,WD,l]
 refine ⟨_,.tup [],g,A.AI i [.gp i 0,s],rfl,.tup (vs:=[]) rfl (by simp),?_,Gh.le_refl g,⟨by omega,fun k m=>d k (fun e=>q (e ▸ m))⟩,rfl,rfl⟩;refine r.write z o (by omega) (fun k _ m=>d k m) a n (by simp) (fun t L=>?_) ?_ ?_
 . have:=r.st.2 i _ B
   grind
 . simp only [AT,A8,Av];exact .cons (.gp o) (.cons K .nil)
 . simp only [BA,BK,Cl,Cu,AM] at j ⊢;exact ⟨rfl,j.2⟩
end
end Go.Ab
namespace Go.Proofs
open Go.Shelf
def Tryz.k8:Go.Shelf.Ren:=⟨fun|240=>95|276=>152|n=>n,fun|70=>129|0=>0|72=>132|4=>4|164=>277|37=>130|5=>5|n=>n,fun|n=>n⟩
theorem Tryz.AKS:Go.Proofs.Lays.n240 Tzp Tryz.k8:= {
 mixed:=by kernel_rfl
 f240:=Tryz.func95.trans (congrArg some (by kernel_rfl))
 f276:=Tryz.func152.trans (congrArg some (by kernel_rfl))
 t0:=Tryz.underlying0
 a0:=Tryz.isAgg0
 z0:=Tryz.sizeOf0
 v0:=Tryz.zeroValue0
 t4:=Tryz.underlying4
 a4:=Tryz.isAgg4
 z4:=Tryz.sizeOf4
 v4:=Tryz.zeroValue4
 t9:=Tryz.underlying9
 a9:=Tryz.isAgg9
 z9:=Tryz.sizeOf9
 v9:=Tryz.zeroValue9
 t20:=Tryz.underlying20
 a20:=Tryz.isAgg20
 z20:=Tryz.sizeOf20
 v20:=Tryz.zeroValue20
 t70:=Tryz.underlying129
 a70:=Tryz.isAgg129
 z70:=Tryz.sizeOf129
 v70:=Tryz.zeroValue129
 t72:=Tryz.underlying132
 a72:=Tryz.isAgg132
 z72:=Tryz.sizeOf132
 v72:=Tryz.zeroValue132
 t164:=Tryz.underlying277
 a164:=Tryz.isAgg277
 z164:=Tryz.sizeOf277
 v164:=Tryz.zeroValue277}
theorem Tryz.WG:Builder.X72 Tzp Tryz.k8:= {
 sizeBuilder:=by kernel_rfl
 liesBuilder:=by kernel_rfl}
def Tryz.k7:Go.Shelf.Ren:=⟨fun|169=>30|n=>n,fun|70=>129|9=>9|0=>0|72=>132|37=>130|127=>199|3=>3|5=>5|n=>n,fun|n=>n⟩
theorem Tryz.AVH:Go.Proofs.Lays.n169 Tzp Tryz.k7:= {
 mixed:=by kernel_rfl
 f169:=Tryz.func30.trans (congrArg some (by kernel_rfl))
 t0:=Tryz.underlying0
 a0:=Tryz.isAgg0
 z0:=Tryz.sizeOf0
 v0:=Tryz.zeroValue0
 t3:=Tryz.underlying3
 a3:=Tryz.isAgg3
 z3:=Tryz.sizeOf3
 v3:=Tryz.zeroValue3
 t9:=Tryz.underlying9
 a9:=Tryz.isAgg9
 z9:=Tryz.sizeOf9
 v9:=Tryz.zeroValue9
 t37:=Tryz.underlying130
 a37:=Tryz.isAgg130
 z37:=Tryz.sizeOf130
 v37:=Tryz.zeroValue130
 t70:=Tryz.underlying129
 a70:=Tryz.isAgg129
 z70:=Tryz.sizeOf129
 v70:=Tryz.zeroValue129
 t72:=Tryz.underlying132
 a72:=Tryz.isAgg132
 z72:=Tryz.sizeOf132
 v72:=Tryz.zeroValue132
 t127:=Tryz.underlying199
 a127:=Tryz.isAgg199
 z127:=Tryz.sizeOf199
 v127:=Tryz.zeroValue199}
theorem Tryz.cA:Builder.Extra Tzp Tryz.k7:= {
 sizeBuilder:=by kernel_rfl
 liesBuilder:=by kernel_rfl
 t5:=Tryz.underlying5
 a5:=Tryz.isAgg5
 z5:=Tryz.sizeOf5
 v5:=Tryz.zeroValue5
 infoByte:=by kernel_rfl
 cellsByte:=by kernel_rfl
 sizeByte:=by kernel_rfl
 neB5:=by decide}
def Tryz.kZ:Go.Shelf.Ren:=⟨fun|156=>21|165=>47|166=>48|169=>30|240=>95|241=>96|276=>152|277=>153|n=>n,fun|31=>45|9=>9|3=>3|4=>4|0=>0|20=>20|72=>132|76=>169|70=>129|37=>130|75=>168|127=>199|164=>277|5=>5|80=>134|n=>n,fun|n=>n⟩
theorem Tryz.AKR:Go.Proofs.Lays.n156 Tzp Tryz.kZ:= {
 mixed:=by kernel_rfl
 f156:=Tryz.func21.trans (congrArg some (by kernel_rfl))
 f165:=Tryz.func47.trans (congrArg some (by kernel_rfl))
 f166:=Tryz.func48.trans (congrArg some (by kernel_rfl))
 f169:=Tryz.func30.trans (congrArg some (by kernel_rfl))
 f240:=Tryz.func95.trans (congrArg some (by kernel_rfl))
 f241:=Tryz.func96.trans (congrArg some (by kernel_rfl))
 f276:=Tryz.func152.trans (congrArg some (by kernel_rfl))
 f277:=Tryz.func153.trans (congrArg some (by kernel_rfl))
 t0:=Tryz.underlying0
 a0:=Tryz.isAgg0
 z0:=Tryz.sizeOf0
 v0:=Tryz.zeroValue0
 t3:=Tryz.underlying3
 a3:=Tryz.isAgg3
 z3:=Tryz.sizeOf3
 v3:=Tryz.zeroValue3
 t4:=Tryz.underlying4
 a4:=Tryz.isAgg4
 z4:=Tryz.sizeOf4
 v4:=Tryz.zeroValue4
 t9:=Tryz.underlying9
 a9:=Tryz.isAgg9
 z9:=Tryz.sizeOf9
 v9:=Tryz.zeroValue9
 t20:=Tryz.underlying20
 a20:=Tryz.isAgg20
 z20:=Tryz.sizeOf20
 v20:=Tryz.zeroValue20
 t31:=Tryz.underlying45
 a31:=Tryz.isAgg45
 z31:=Tryz.sizeOf45
 v31:=Tryz.zeroValue45
 t37:=Tryz.underlying130
 a37:=Tryz.isAgg130
 z37:=Tryz.sizeOf130
 v37:=Tryz.zeroValue130
 t70:=Tryz.underlying129
 a70:=Tryz.isAgg129
 z70:=Tryz.sizeOf129
 v70:=Tryz.zeroValue129
 t72:=Tryz.underlying132
 a72:=Tryz.isAgg132
 z72:=Tryz.sizeOf132
 v72:=Tryz.zeroValue132
 t75:=Tryz.underlying168
 a75:=Tryz.isAgg168
 z75:=Tryz.sizeOf168
 v75:=Tryz.zeroValue168
 t76:=Tryz.underlying169
 a76:=Tryz.isAgg169
 z76:=Tryz.sizeOf169
 v76:=Tryz.zeroValue169
 t127:=Tryz.underlying199
 a127:=Tryz.isAgg199
 z127:=Tryz.sizeOf199
 v127:=Tryz.zeroValue199
 t164:=Tryz.underlying277
 a164:=Tryz.isAgg277
 z164:=Tryz.sizeOf277
 v164:=Tryz.zeroValue277}
theorem Tryz.Rp:Builder.Extra Tzp Tryz.kZ:= {
 sizeBuilder:=by kernel_rfl
 liesBuilder:=by kernel_rfl
 t5:=Tryz.underlying5
 a5:=Tryz.isAgg5
 z5:=Tryz.sizeOf5
 v5:=Tryz.zeroValue5
 infoByte:=by kernel_rfl
 cellsByte:=by kernel_rfl
 sizeByte:=by kernel_rfl
 neB5:=by decide}
def Tryz.AA2:Go.Shelf.Ren:=⟨fun|171=>72|243=>134|246=>183|283=>211|284=>212|285=>213|286=>214|129=>204|317=>229|318=>230|319=>231|320=>232|337=>234|338=>235|n=>n,fun|3=>3|9=>9|2=>2|4=>4|171=>332|0=>0|53=>326|37=>130|5=>5|173=>334|212=>345|51=>324|20=>20|213=>346|46=>287|232=>350|233=>351|n=>n,fun|17=>1|18=>2|19=>3|n=>n⟩
theorem Tryz.ARF:Go.Proofs.LaysM.n171 Tzp Tryz.AA2:= {
 mixed:=by kernel_rfl
 f129:=Tryz.func204.trans (congrArg some (by kernel_rfl))
 f171:=Tryz.func72.trans (congrArg some (by kernel_rfl))
 f243:=Tryz.func134.trans (congrArg some (by kernel_rfl))
 f246:=Tryz.func183.trans (congrArg some (by kernel_rfl))
 f283:=Tryz.func211.trans (congrArg some (by kernel_rfl))
 f284:=Tryz.func212.trans (congrArg some (by kernel_rfl))
 f285:=Tryz.func213.trans (congrArg some (by kernel_rfl))
 f286:=Tryz.func214.trans (congrArg some (by kernel_rfl))
 f317:=Tryz.func229.trans (congrArg some (by kernel_rfl))
 f318:=Tryz.func230.trans (congrArg some (by kernel_rfl))
 f319:=Tryz.func231.trans (congrArg some (by kernel_rfl))
 f320:=Tryz.func232.trans (congrArg some (by kernel_rfl))
 f337:=Tryz.func234.trans (congrArg some (by kernel_rfl))
 f338:=Tryz.func235.trans (congrArg some (by kernel_rfl))
 t0:=Tryz.underlying0
 a0:=Tryz.isAgg0
 z0:=Tryz.sizeOf0
 v0:=Tryz.zeroValue0
 t2:=Tryz.underlying2
 a2:=Tryz.isAgg2
 z2:=Tryz.sizeOf2
 v2:=Tryz.zeroValue2
 t3:=Tryz.underlying3
 a3:=Tryz.isAgg3
 z3:=Tryz.sizeOf3
 v3:=Tryz.zeroValue3
 t4:=Tryz.underlying4
 a4:=Tryz.isAgg4
 z4:=Tryz.sizeOf4
 v4:=Tryz.zeroValue4
 t5:=Tryz.underlying5
 a5:=Tryz.isAgg5
 z5:=Tryz.sizeOf5
 v5:=Tryz.zeroValue5
 t9:=Tryz.underlying9
 a9:=Tryz.isAgg9
 z9:=Tryz.sizeOf9
 v9:=Tryz.zeroValue9
 t20:=Tryz.underlying20
 a20:=Tryz.isAgg20
 z20:=Tryz.sizeOf20
 v20:=Tryz.zeroValue20
 t37:=Tryz.underlying130
 a37:=Tryz.isAgg130
 z37:=Tryz.sizeOf130
 v37:=Tryz.zeroValue130
 t46:=Tryz.underlying287
 a46:=Tryz.isAgg287
 z46:=Tryz.sizeOf287
 v46:=Tryz.zeroValue287
 t51:=Tryz.underlying324
 a51:=Tryz.isAgg324
 z51:=Tryz.sizeOf324
 v51:=Tryz.zeroValue324
 t53:=Tryz.underlying326
 a53:=Tryz.isAgg326
 z53:=Tryz.sizeOf326
 v53:=Tryz.zeroValue326
 t171:=Tryz.underlying332
 a171:=Tryz.isAgg332
 z171:=Tryz.sizeOf332
 v171:=Tryz.zeroValue332
 t173:=Tryz.underlying334
 a173:=Tryz.isAgg334
 z173:=Tryz.sizeOf334
 v173:=Tryz.zeroValue334
 t212:=Tryz.underlying345
 a212:=Tryz.isAgg345
 z212:=Tryz.sizeOf345
 v212:=Tryz.zeroValue345
 t213:=Tryz.underlying346
 a213:=Tryz.isAgg346
 z213:=Tryz.sizeOf346
 t232:=Tryz.underlying350
 a232:=Tryz.isAgg350
 z232:=Tryz.sizeOf350
 v232:=Tryz.zeroValue350
 t233:=Tryz.underlying351
 a233:=Tryz.isAgg351
 z233:=Tryz.sizeOf351
 v233:=Tryz.zeroValue351
 g17:=by kernel_rfl
 g18:=by kernel_rfl
 g19:=by kernel_rfl
 i0:=by kernel_rfl
 i2:=by kernel_rfl
 i3:=by kernel_rfl
 i4:=by kernel_rfl
 i5:=by kernel_rfl
 i9:=by kernel_rfl
 i20:=by kernel_rfl
 i37:=by kernel_rfl
 i46:=by kernel_rfl
 i51:=by kernel_rfl
 i53:=by kernel_rfl
 i171:=by kernel_rfl
 i173:=by kernel_rfl
 i212:=by kernel_rfl
 i232:=by kernel_rfl
 i233:=by kernel_rfl
 m17:=by kernel_rfl
 m18:=by kernel_rfl
 m19:=by kernel_rfl}
def Tryz.AI5:Go.Shelf.Ren:=⟨fun|6=>112|15=>160|14=>159|28=>203|29=>204|20=>195|21=>196|22=>197|23=>198|24=>199|25=>200|26=>201|27=>202|46=>223|47=>224|48=>225|49=>226|50=>227|57=>233|n=>n,fun|22=>116|24=>122|25=>236|3=>3|39=>287|0=>0|53=>324|55=>326|4=>4|46=>318|45=>317|50=>222|5=>5|9=>9|66=>338|70=>56|76=>347|77=>348|n=>n,fun|n=>n⟩
theorem Tryz.AS9:Go.Proofs.SlLaysF0.n6 Tzp Tryz.AI5:= {
 mixed:=by kernel_rfl
 f6:=⟨Tryz.f112.name,by decide,Tryz.func112.trans (congrArg some (by kernel_rfl))⟩
 f14:=⟨Tryz.f159.name,by decide,Tryz.func159.trans (congrArg some (by kernel_rfl))⟩
 f15:=Tryz.func160.trans (congrArg some (by kernel_rfl))
 f20:=⟨Tryz.f195.name,by decide,Tryz.func195.trans (congrArg some (by kernel_rfl))⟩
 f21:=⟨Tryz.f196.name,by decide,Tryz.func196.trans (congrArg some (by kernel_rfl))⟩
 f22:=⟨Tryz.f197.name,by decide,Tryz.func197.trans (congrArg some (by kernel_rfl))⟩
 f23:=⟨Tryz.f198.name,by decide,Tryz.func198.trans (congrArg some (by kernel_rfl))⟩
 f24:=⟨Tryz.f199.name,by decide,Tryz.func199.trans (congrArg some (by kernel_rfl))⟩
 f25:=⟨Tryz.f200.name,by decide,Tryz.func200.trans (congrArg some (by kernel_rfl))⟩
 f26:=⟨Tryz.f201.name,by decide,Tryz.func201.trans (congrArg some (by kernel_rfl))⟩
 f27:=⟨Tryz.f202.name,by decide,Tryz.func202.trans (congrArg some (by kernel_rfl))⟩
 f28:=Tryz.func203.trans (congrArg some (by kernel_rfl))
 f29:=Tryz.func204.trans (congrArg some (by kernel_rfl))
 f46:=⟨Tryz.f223.name,by decide,Tryz.func223.trans (congrArg some (by kernel_rfl))⟩
 f47:=Tryz.func224.trans (congrArg some (by kernel_rfl))
 f48:=Tryz.func225.trans (congrArg some (by kernel_rfl))
 f49:=⟨Tryz.f226.name,by decide,Tryz.func226.trans (congrArg some (by kernel_rfl))⟩
 f50:=⟨Tryz.f227.name,by decide,Tryz.func227.trans (congrArg some (by kernel_rfl))⟩
 f57:=⟨Tryz.f233.name,by decide,Tryz.func233.trans (congrArg some (by kernel_rfl))⟩
 t0:=Tryz.underlying0
 a0:=Tryz.isAgg0
 z0:=Tryz.sizeOf0
 v0:=Tryz.zeroValue0
 t3:=Tryz.underlying3
 a3:=Tryz.isAgg3
 z3:=Tryz.sizeOf3
 v3:=Tryz.zeroValue3
 t4:=Tryz.underlying4
 a4:=Tryz.isAgg4
 z4:=Tryz.sizeOf4
 v4:=Tryz.zeroValue4
 t5:=Tryz.underlying5
 a5:=Tryz.isAgg5
 z5:=Tryz.sizeOf5
 v5:=Tryz.zeroValue5
 t9:=Tryz.underlying9
 a9:=Tryz.isAgg9
 z9:=Tryz.sizeOf9
 v9:=Tryz.zeroValue9
 t22:=Tryz.underlying116
 a22:=Tryz.isAgg116
 z22:=Tryz.sizeOf116
 v22:=Tryz.zeroValue116
 t25:=Tryz.underlying236
 a25:=Tryz.isAgg236
 z25:=Tryz.sizeOf236
 v25:=Tryz.zeroValue236
 t39:=Tryz.underlying287
 a39:=Tryz.isAgg287
 z39:=Tryz.sizeOf287
 v39:=Tryz.zeroValue287
 t45:=Tryz.underlying317
 a45:=Tryz.isAgg317
 z45:=Tryz.sizeOf317
 v45:=Tryz.zeroValue317
 t46:=Tryz.underlying318
 a46:=Tryz.isAgg318
 z46:=Tryz.sizeOf318
 v46:=Tryz.zeroValue318
 t50:=Tryz.underlying222
 a50:=Tryz.isAgg222
 z50:=Tryz.sizeOf222
 v50:=Tryz.zeroValue222
 t53:=Tryz.underlying324
 a53:=Tryz.isAgg324
 z53:=Tryz.sizeOf324
 v53:=Tryz.zeroValue324
 t55:=Tryz.underlying326
 a55:=Tryz.isAgg326
 z55:=Tryz.sizeOf326
 v55:=Tryz.zeroValue326
 t66:=Tryz.underlying338
 a66:=Tryz.isAgg338
 z66:=Tryz.sizeOf338
 v66:=Tryz.zeroValue338
 t70:=Tryz.underlying56
 a70:=Tryz.isAgg56
 z70:=Tryz.sizeOf56
 v70:=Tryz.zeroValue56
 t76:=Tryz.underlying347
 a76:=Tryz.isAgg347
 z76:=Tryz.sizeOf347
 v76:=Tryz.zeroValue347
 t77:=Tryz.underlying348
 a77:=Tryz.isAgg348
 z77:=Tryz.sizeOf348
 v77:=Tryz.zeroValue348}
end Go.Proofs
namespace Go.Ab
open Go.RowKit Go.Sort Go.Proofs
theorem Rel.below {base:Nat} {g:Gh} {Pr:Nat->Prop} {A:X} {w0 w w':World} (h:Rel base g Pr A w0 w) (a:Below w.heap.size w w'):Rel base g Pr A w0 w'/\KP Pr w w':=
 ⟨h.grow a.size (fun b c _=>a.block b c) ⟨a.os,a.tape,a.output,a.size,fun b c=>a.block b (Be c h.bs)⟩ (fun b d=>⟨Be (h.pr b d).1 a.size,.inl d⟩),a.size,fun b d=>a.block b (h.pr b d).1⟩
def Ul:Array Value:=(Lib.pow10Tab.map fun z=>Value.int .u64 z).toArray
def TT:Nat:=1
theorem jP:Tzp.globalNamed "internal/strconv.uint64pow10"=some TT:=by kernel_rfl
theorem Og (n:Int) (A:X) (ht:A.gt TT=some Ul):AS Tzp 72 [.d (.int .i64 n)] A (fun v H=>v= .d (.str (Lib.itoa n))/\H=A):=by
 refine AS.AV1 (fun base g Pr w0 w vs hr hv=>?_);obtain ⟨v,rfl,hvv⟩:=hv.one;obtain ⟨rfl,h⟩:=hvv.AKP;have h0: -9223372036854775808<=n:=h.1;have h1:n<=9223372036854775807:=h.2;exact ⟨_,.str (by grind [Lib.itoa_length_le,maxLen]),Any.strconv_Itoa Tryz.ARF n h0 h1 w (hr.tab jP ht)⟩
theorem dC {A:X} {i:Nat} {s:I} (hb:A.C i=some [.gp i 0,s]) (ht:A.bt i=some (2,132)):AS Tzp 95 [.gp i 0] A (fun v H=>v= .tup []/\H=A):=
 AG9 (fun b w h=>Any.Builder_copyCheck_used Tryz.AKS Tryz.WG b w h) hb ht
theorem aL {A:X} {i:Nat} {s:I} (hb:A.C i=some [.Dt,s]) (ht:A.bt i=some (2,132)):AS Tzp 95 [.gp i 0] A (fun v H=>v= .tup []/\H=A.AI i [.gp i 0,s]):=
 AC9 (fun b w h1 h2 h3=>Any.Builder_copyCheck_fresh Tryz.AKS Tryz.WG b w h1 h2 h3) hb ht
theorem w8 {A:X} {i:Nat} {p:I} (hb:A.C i=some [p,.Ac]) (ht:A.bt i=some (2,132)):AS Tzp 30 [.gp i 0] A (fun v H=>v= .d (.str [])/\H=A):=by
 intro base g Pr w0 w vs hr hv;obtain ⟨v,rfl,hvv⟩:=hv.one;obtain ⟨b,x,y,hm,hh,hx,hy,hlow,hpr,hok⟩:=hr.AYM hb ht;cases hvv with|gp h=>
 cases hy with|Ac=>
 rw [hm] at h;cases h;refine (Any.Builder_String_nil Tryz.AVH Tryz.cA w.heap.size b x w hh).mono ?_;rintro e w' ⟨rfl,hb⟩;obtain ⟨k1,k2⟩:=hr.below hb;exact ⟨_,_,g,A,rfl,.d (.str (by decide)),k1,Gh.le_refl g,k2,rfl,rfl⟩
structure BuS (O:X) (i:Nat) (s:List UInt8) (A:X):Prop where
 fresh:O.C i=none
 AHV:O.bt i=none
 le:O.le A
 bt:A.bt i=some (2,132)
 C:∃p v,A.C i=some [p,v]/\(p= .Dt\/p= .gp i 0)/\((v= .Ac/\s=[])\/(∃t,v= .own t 5 1 (Bk s)/\A.tok t=true/\O.tok t=false))
theorem AL2 {A:X} {i:Nat} (h:A.C i=none/\A.bt i=none):BuS A i [] ((A.AI i [.Dt,.Ac]).BM i (2,132)) where
 fresh:=h.1
 AHV:=h.2
 le:=⟨fun j cs hj=>by
  grind [X.BM,X.AI],fun _ h=>h,rfl,fun j x hj=>by
  have hne:j≠i:=fun e=>by grind
  simp [X.BM,X.AI,hne,hj]⟩
 bt:=by simp [X.BM]
 C:=⟨.Dt,.Ac,by simp [X.BM,X.AI],.inl rfl,.inl ⟨rfl,rfl⟩⟩
theorem u7 {O A:X} {i:Nat} {s:List UInt8} (h:BuS O i s A):AS Tzp 95 [.gp i 0] A (fun v H=>v= .tup []/\BuS O i s H/\∃v,H.C i=some [.gp i 0,v]/\((v= .Ac/\s=[])\/(∃t,v= .own t 5 1 (Bk s)/\H.tok t=true/\O.tok t=false))):=by
 obtain ⟨p,v,d,c|c,g⟩:=h.C
 . subst c;refine (aL d h.bt).mono ?_;rintro k H ⟨rfl,rfl⟩;have f:(A.AI i [.gp i 0,v]).C i=some [.gp i 0,v]:=by simp [AD]
   refine ⟨rfl,⟨h.fresh,h.AHV,⟨fun j cs a=>?_,h.le.tok,h.le.gt,h.le.bt⟩,h.bt,.gp i 0,v,f,.inr rfl,g⟩,v,f,g⟩;have b:j≠i:=fun e=>by rw [e,h.fresh] at a;cases a
   simp [AD,b,h.le.C j cs a]
 . subst c;refine (dC d h.bt).mono ?_
   grind
theorem tI {a b:List UInt8} (h:a.length+b.length<=100000000000000):jX .add a b=some (.d (.str (a++b))):=by
 grind [maxLen,Ai,jX]
theorem zY (s x:List UInt8):Bk s++Bk x=Bk (s++x):=by simp [Bk]
theorem xF (s:List UInt8):(Bk s).length=s.length:=by simp [Bk]
theorem XP {O A:X} {i:Nat} {s:List UInt8} (x:List UInt8) (h:BuS O i s A) (B:s.length+x.length<=100000000000000):
 AS Tzp 48 [.gp i 0,.d (.str x)] A (fun v H=>v= .tup [.d (.int .i64 x.length),.undef]/\BuS O i (s++x) H):=by
 refine Nz.go ?_;(repeat' (first|refine wQ ?_|(refine AN.mk rfl (u7 h) ?_)|fail)<;>try simp only [go_sem]);rintro _ σ1 ⟨rfl,a,v,k,q⟩
 have b:v.Bo=true/\v.BS=true/\v.cells=[v]:=by
  rcases q with ⟨rfl,_⟩|⟨t,rfl,_⟩<;>exact ⟨rfl,rfl,rfl⟩
 simp only [k,b.1,go_sem]
 have g:∃σ2,MT σ1 5 1 v=some (Bk s,σ2)/\(∀j,σ2.C j=σ1.C j)/\O.le σ2/\σ2.bt=σ1.bt/\(∀t,σ2.tok t=true->σ1.tok t=true):=by
  rcases q with ⟨rfl,rfl⟩|⟨t,rfl,m,z⟩
  . exact ⟨σ1,rfl,fun _=>rfl,a.le,rfl,fun _ h=>h⟩
  . refine ⟨σ1.Bh t,by simp [MT,m],fun _=>rfl,⟨a.le.C,fun u n=>?_,a.le.gt,a.le.bt⟩,rfl,fun u n=>?_⟩
    . have f:u≠t:=fun e=>by grind
      simp [X.Bh,f,a.le.tok u n]
    grind [X.Bh]
 obtain ⟨σ2,w,y,c,l,p⟩:=g;have d:σ2.C i=some [.gp i 0,v]:=by grind
 refine XEx.apps b.2.1 w (by rw [xF];omega) (fun t m=>?_);simp only [d,go_sem];(repeat' (first|refine wQ ?_|(refine W.ASS Nu (X.le_refl _) ?_)|fail)<;>try simp only [go_sem]);refine ⟨a.fresh,a.AHV,⟨fun j cs o=>?_,fun u n=>?_,c.gt,c.bt⟩,?_,.gp i 0,.own t 5 1 (Bk (s++x)),?_,.inr rfl,.inr ⟨t,rfl,?_,?_⟩⟩
 . have f:j≠i:=fun e=>by rw [e,a.fresh] at o;cases o
   simp [AD,f,Pw,c.C j cs o]
 . have:=c.tok u n;simp [X.AI,X.BV,this]
 . show σ2.bt i=_;rw [l];exact a.bt
 . simp [AD,zY]
 . simp [X.AI,X.BV]
 . cases r:O.tok t with
   |false=>rfl
   |true=>rw [a.le.tok t r] at m;cases m
theorem cM:∀s:List UInt8,bytesOf (Bk s)=some s
 |[]=>rfl
 |b::s=>by
  have:=cM s;simp only [Bk] at this;simp only [Bk,AB,bytesOf,this];have a:(b.toNat:Int) < 256:=by have:=b.toNat_lt;omega
  simp [byteOf,a]
theorem ALQ {O A:X} {i:Nat} {s:List UInt8} (h:BuS O i s A) (j:s=[]->∃p,A.C i=some [p,.Ac]):
 AS Tzp 30 [.gp i 0] A (fun v H=>v= .d (.str s)/\O.le H):=by
 by_cases a:s=[]
 . obtain ⟨p,c⟩:=j a;refine (w8 c h.bt).mono ?_;rintro v H ⟨rfl,rfl⟩;exact ⟨by rw [a],h.le⟩
 refine TC.go ?_;rw [Dx];obtain ⟨p,v,c,o,n⟩:=h.C;rcases n with ⟨rfl,rfl⟩|⟨t,rfl,k,l⟩
 . exact absurd rfl a
 obtain ⟨b,r,rfl⟩:∃b r,s=b::r:=by cases s with|nil=>grind|cons b r=>grind
 have d:Bk (b::r)=[.int .u8 b.toNat]::Bk r:=rfl;have f:bytesOf ([.int .u8 b.toNat]::Bk r)=some (b::r):=cM (b::r);rw [d] at c;(repeat' (first|refine wQ ?_|(refine XEx.AJG (by grind) a k ?_)|(refine W.ASS Sp (X.le_refl _) ?_)|fail)<;>try simp only [c,f,xF,go_sem]);refine ⟨h.le.C,fun u m=>?_,h.le.gt,h.le.bt⟩;have g:u≠t:=fun e=>by grind
 simp [X.Bh,g,h.le.tok u m]
mutual
def lQ:Ty->Prop
 | .mk k n l=>((Lib.itoa k).length<=21/\(Lib.itoa n).length<=21)/\XN l
def XN:List Ty->Prop
 |[]=>True
 |t::l=>lQ t/\XN l
end
theorem XN.mem:∀ {l:List Ty},XN l->∀ {t:Ty},t∈l->lQ t
 |u::l,h,t,a=>by
  rw [XN] at h;rcases Ah.1 a with rfl|a
  . exact h.1
  . exact XN.mem h.2 a
theorem AaD:∀n:Nat,(∀t:Ty,t.size<=n->lQ t->(wrT t).length<=45 * t.size)/\∀l:List Ty,Ty.AQ l<=n->XN l->(HQ l).length<=45 * Ty.AQ l:=by
 intro n
 induction n with
 |zero=>
  refine ⟨fun t h=>?_,fun l h _=>?_⟩
  . obtain ⟨k,m,l⟩:=t;simp only [Ty.size] at h;omega
  . cases l with
    |nil=>simp [HQ]
    |cons t l=>obtain ⟨k,m,e⟩:=t;grind [Ty.AQ,Ty.size]
 |succ n d=>
  have a:∀t:Ty,t.size<=n+1->lQ t->(wrT t).length<=45 * t.size:=fun t h c=>by
   obtain ⟨k,m,l⟩:=t
   grind [lQ,Ty.size,wrT,A0,Ci]
  refine ⟨a,fun l=>?_⟩
  induction l with
  |nil=>intro _ _;simp [HQ]
  |cons t l b=>
   grind [XN,Ty.AQ,HQ,A0]
theorem AGB (l:List Ty) (h:∀t∈l,lQ t):(HQ l).length<=45 * Ty.AQ l:=by
 refine (AaD _).2 l (AW _) ?_
 induction l with
 |nil=>trivial
 |cons t l b=>exact ⟨h t (AY),b fun u a=>h u (AZ _ a)⟩
theorem ATT {dt:List Dat} (f:dt.length<=1000000):∀n:Nat,(∀t:Ty,t.size<=n->C1 dt 0 t=true->lQ t)/\∀l:List Ty,Ty.AQ l<=n->Bt dt 0 l=true->XN l:=by
 intro n
 induction n with
 |zero=>
  refine ⟨fun t h=>?_,fun l h _=>?_⟩
  . obtain ⟨k,m,l⟩:=t;simp only [Ty.size] at h;omega
  . cases l with
    |nil=>trivial
    |cons t l=>obtain ⟨k,m,i⟩:=t;grind [Ty.AQ,Ty.size]
 |succ n e=>
  have c:∀t:Ty,t.size<=n+1->C1 dt 0 t=true->lQ t:=fun t h a=>by
   obtain ⟨k,m,l⟩:=t;simp only [C1,AM] at a;simp only [Ty.size] at h;refine ⟨?_,e.2 l (by omega) a.2⟩;have d:=a.1
   have g:0<=k/\k<=9/\0<=m/\m<=1000000:=by
    unfold DS at d;split at d
    . grind
    . grind
   grind [Lib.itoa_length_le]
  refine ⟨c,fun l=>?_⟩
  induction l with
  |nil=>intro _ _;trivial
  |cons t l b=>
   intro h a;simp only [Ty.AQ,Bt,AM] at h a;exact ⟨c t (by omega) a.1,b (by omega) a.2⟩
theorem BuS.gt {O A:X} {i:Nat} {s:List UInt8} (h:BuS O i s A):A.gt=O.gt:=h.le.gt.symm
theorem ATX (O:X) (i:Nat) (F:O.gt TT=some Ul) (t:Ty):∀(s:M) (A:X),BuS O i s A->lQ t->s.length+45 * t.size<=10000000000000->
 AS Tzp 29 [.gp i 0,tyA t] A (fun v H=>v= .tup []/\BuS O i (s++wrT t) H):=by
 have key:∀(n:Nat) (t:Ty) (s:M) (A:X),t.size<=n->BuS O i s A->lQ t->s.length+45 * t.size<=10000000000000->
  AS Tzp 29 [.gp i 0,tyA t] A (fun v H=>v= .tup []/\BuS O i (s++wrT t) H):=by
  intro n
  induction n using DK with
  |_ n Z=>
   intro t s A hn q Y hs;obtain ⟨k,m,l⟩:=t;have U:(Ty.mk k m l).size=1+Ty.AQ l:=rfl;have P:=TY l;obtain ⟨⟨a1,a2⟩,j⟩:=Y;have w:=Og k A (by rw [q.gt];exact F);have x:=Og m A (by rw [q.gt];exact F);refine mR.go ?_;rw [B4];have G:=tI (a:=Lib.itoa k) (b:=[58]) (by simp;omega);have c2:=tI (a:=Lib.itoa k++[58]) (b:=Lib.itoa m) (by simp;omega);have K:=tI (a:=Lib.itoa k++[58]++Lib.itoa m) (b:=[40]) (by simp;omega);(repeat' (first|refine wQ ?_|(refine AN.mk rfl (XP (Lib.itoa k++[58]++Lib.itoa m++[40]) q (by simp;omega)) ?_;rintro _ σ1 ⟨rfl,r⟩)|refine AN.det (w) ?_|refine AN.det (x) ?_|fail)<;>try simp only [G,c2,K,CX,go_sem])
   refine lpK (fun (z:Nat×X)=>[(20,A1 z.1)]) (fun z=>z.2)
    (fun z=>z.1<=l.length/\BuS O i (s++(Lib.itoa k++[58]++Lib.itoa m++[40])++HQ (l.take z.1)) z.2) (fun z=>l.length - z.1) ?_ (0,σ1) ⟨by simp,by simpa [HQ] using r⟩
   rintro ⟨p,V⟩ ⟨Q,c⟩ E;simp only at Q c;have D:=AGB (l.take p) (fun u f=>XN.mem j (DA f));have S:=D3 l p;by_cases d:p < l.length
   . obtain ⟨u,f⟩:=Ak d;have R:Ty.AQ (l.take (p+1))=Ty.AQ (l.take p)+u.size:=by rw [Aa f,Ko]
     have T:=D3 l (p+1);have L:=Z u.size (by omega) u _ V (AW _) c (XN.mem j (AE f)) (by simp;omega);have y:HQ (l.take (p+1))=HQ (l.take p)++wrT u:=by rw [Aa f,tX,HQ,HQ,Aw]
     obtain ⟨k',m',al⟩:=u;have N:=JM f;have B:=wS p;(repeat' (first|refine wQ ?_|(refine AN.mk rfl L ?_;rintro _ o ⟨rfl,e⟩)|fail)<;>try simp only [BI d,N,B,go_sem]);exact E (p+1,o) ⟨d,by simp only;rw [y,<- Ax];exact e⟩ (by simp only;omega)
   . rw [AR (by omega)] at c D;have g:=XP [41] c (by simp;omega);(repeat' (first|refine wQ ?_|(refine AN.mk rfl g ?_;rintro _ o ⟨rfl,e⟩)|fail)<;>try simp only [B5 d,go_sem]);exact W.fin mM rfl (fun _ _ h=>h) (X.le_refl _) ⟨rfl,by rw [wrT];simpa only [Ax] using e⟩
 exact fun s A=>key t.size t s A (AW _)
def AbO (x:Ed):I:= .agg [.d (.int .i64 x.1),.d (.str (HQ x.2))]
theorem AEU (x:Ed) (A:X) (K:A.gt TT=some Ul) (s:∀t∈x.2,lQ t) (Q:Ty.AQ x.2<=200000000000):
 AS Tzp 15 [.agg [.d (.int .i64 x.1),L9 x.2]] A (fun v H=>v=AbO x/\H=A):=by
 obtain ⟨f,l⟩:=x;have N:=TY l;refine mQ.go ?_;rw [Dx,L9];change Ty.AQ l<=200000000000 at Q;change ∀t∈l,lQ t at s;(repeat' refine wQ ?_<;>simp only [CX,go_sem]);intro i L;have D:=AL2 L;have E:∃p,((A.AI i [.Dt,.Ac]).BM i (2,132)).C i=some [p,.Ac]:=⟨.Dt,by simp [X.BM,X.AI]⟩;generalize (A.AI i [.Dt,.Ac]).BM i (2,132)=B at D E ⊢
 refine lpK (fun (z:Nat×X)=>[(9,A1 z.1)]) (fun z=>z.2)
  (fun z=>z.1<=l.length/\BuS A i (HQ (l.take z.1)) z.2/\(HQ (l.take z.1)=[]->∃p,z.2.C i=some [p,.Ac])) (fun z=>l.length - z.1) ?_ (0,B) ⟨by simp,by simpa [HQ] using D,fun _=>E⟩
 rintro ⟨p,V⟩ ⟨P,d,g⟩ y;simp only at P d g;have U:=AGB (l.take p) (fun u j=>s u (DA j));have S:=D3 l p;by_cases e:p < l.length
 . obtain ⟨u,j⟩:=Ak e;have R:Ty.AQ (l.take (p+1))=Ty.AQ (l.take p)+u.size:=by rw [Aa j,Ko]
   have T:=D3 l (p+1);have F:=ATX A i K u _ V d (s u (AE j)) (by omega);have m:HQ (l.take (p+1))=HQ (l.take p)++wrT u:=by rw [Aa j,tX,HQ,HQ,Aw]
   have r:HQ (l.take (p+1))≠[]:=by rw [m];obtain ⟨a,b,c⟩:=u;simp [wrT]
   rw [<- m] at F;obtain ⟨Y,Z,al⟩:=u;have G:=JM j;have w:=wS p;(repeat' (first|refine wQ ?_|(refine AN.mk rfl F ?_;rintro _ n ⟨rfl,o⟩)|fail)<;>try simp only [BI e,G,w,go_sem]);exact y (p+1,n) ⟨e,o,fun h=>absurd h r⟩ (by simp only;omega)
 . rw [AR (by omega)] at d g;have k:=ALQ d g;(repeat' (first|refine wQ ?_|(refine AN.mk rfl k ?_;rintro _ n ⟨rfl,q⟩)|(refine W.By mH q ?_)|fail)<;>try simp only [B5 e,go_sem]);rfl
section
def XB (x:Ed):List DV:=[.int .i64 x.1,.sl (x.2.map Ty.J)]
abbrev eIn:Nat:=75
structure DmS (A:X) (l:List Ed) (v:I) (t:Nat) (V:X):Prop where
 ho:Bn A eIn 2 (l.map XB) v V
 hm:Bn A 0 1 [] (.own t 0 1 []) V
 ap:kE v (.own t 0 1 [])
variable {A V:X} {l:List Ed} {v:I} {t:Nat}
theorem Bn.AdD {t e s:Nat} {rows:List (List DV)} (h:Bn A e s rows (.own t e s rows) V):V.tok t=true:=by
 obtain ⟨_,a,_⟩:=h.app
 grind [MT]
theorem Bn.AKQ {e s:Nat} {rows:List (List DV)} (h:Bn A e s rows v V) (b:rows≠[]):∃t,v= .own t e s rows:=by
 obtain ⟨_,a,_⟩:=h.app;unfold MT at a
 grind
theorem DmS.tok (h:DmS A l v t V):V.tok t=true:=h.hm.AdD
theorem DmS.reA (h:DmS A l v t V) (x:I):reA t x v=v:=by
 rcases h.ho.slv with rfl|⟨t',e,s,rfl⟩|⟨_,rfl⟩<;>rfl
theorem DmS.del (h:DmS A l v t V):A.le (V.Bh t):=by
 obtain ⟨σ1,a,b⟩:=h.hm.app
 grind [MT]
theorem DmS.put (h:DmS A l v t V) {t':Nat} (g:V.tok t'=false):DmS A l v t' ((V.Bh t).BV t'):=by
 have a:=Bn.own (e:=0) (s:=1) (rows:=([]:List (List DV))) h.del h.ho.le g;refine ⟨h.ho.Ee a.le fun u b c=>?_,a,fun u b c=>?_⟩
 . have f:u≠t:=fun e=>h.ap u b (by rw [e];rfl);simp [X.BV,X.Bh,f,c]
 . simp only [tkA,AP] at c;subst c
   have:V.tok t'=true:=by
    obtain ⟨_,d,_⟩:=h.ho.app;cases v<;>simp only [tkA] at b<;>try cases b
    simp only [MT] at d;split at d
    . grind
    . cases d
   grind
theorem DmS.start (t:Nat) (b:A.tok t=false):DmS A [] .Ac t (A.BV t):=
 have a:=Bn.own (e:=0) (s:=1) (rows:=([]:List (List DV))) (X.le_refl A) (X.le_refl A) b
 ⟨((Bn.nil A eIn 2).Ee a.le fun u h=>by cases h),a,oQ _⟩
theorem AKO {dt:List Dat} {r:DZ} {x:Ed} {b:Bd} {fe:FE} (h:M3 dt r x=some b) (c:oG dt r fe x.1.toNat):b.notes.length=fe.body.size:=by
 obtain ⟨s,nt,d,e,_,_,a,_⟩:=c
 grind [M3,AA]
theorem AEO {dt:List Dat} {r:DZ} {x:Ed} {b:Bd} {fe:FE} (h:M3 dt r x=some b) (g:oG dt r fe x.1.toNat):∀n∈b.notes,n.2.length<=900000000:=by
 obtain ⟨s,nt,a,c,_,_,_,_,f,_⟩:=g;unfold M3 at h;rw [a,c] at h;simp only at h;split at h
 . split at h
   . cases h;intro n d;obtain ⟨i,e,rfl⟩:=BR.1 d
     grind [AFU,Vw]
   . cases h
 . cases h
theorem AFR (Q05:Nat):∀l:List Ty,(∀t∈l,t.size<=Q05)->Ty.AQ l<=l.length * Q05
 |[],_=>by simp [Ty.AQ]
 |t::l,h=>by
  have:=AFR Q05 l fun u a=>h u (AZ _ a)
  grind [AY,Ty.AQ,AT,Cj]
def AMA:Except Dg (List Ed)->I
 | .error d=>.tup [.d (.sl []),dgA d]
 | .ok l=>.tup [.d (.sl (l.map XB)),dgA (0,0,0)]
def g0P (r:DZ) (k:Nat):List Ed:=(Aj k).filterMap fun f=>match r.1[f]? with
 |some s=>if s.vars=0 then some ((f:Int),[]) else none
 |none=>none
theorem AQR (r:DZ) (k:Nat) {s:Sch} (h:r.1[k]?=some s):g0P r (k+1)=if s.vars=0 then g0P r k++[((k:Int),[])] else g0P r k:=by
 grind [g0P,Cq]
theorem AY0 (r:DZ) (k:Nat):∀x∈g0P r k,x.1 < (k:Int)/\x.2=[]:=fun x a=>by
 unfold g0P at a
 grind
theorem AU7 (r:DZ) (k:Nat):(g0P r k).length<=k:=by
 grind [List.length_filterMap_le,Aj,g0P]
theorem ALK (p:Pg) (hsm:DSm p.data) (hz:Ut p.Ca<=200) (ks:∀dt,Fc p= .ok dt->dt.length<=1000000) (A:X) (hg:A.gt TT=some Ul):
 AS Tzp 10 [pgA p] A (fun v H=>(v=AMA (u9 p)/\H=A)/\∀r,Dj p= .ok r->∃dt,TyG p dt r):=by
 have hl:=AA7 p hsm hz A;refine iP.go ?_;rw [Dx];unfold u9;unfold sA at hl;have ns:=@iV p;cases w:Dj p with
 |error d=>
  have hd0:=ns w;rw [w] at hl;obtain ⟨d1,d2,d3⟩:=d;have hb0:(d1 != 0)=true:=by grind
  obtain ⟨ds,fs⟩:=p;simp only [pgA,Pg.J,AB,AJ,dgA] at hl ⊢;(repeat' (first|refine sQ ?_|(refine AN.mk rfl hl ?_;rintro _ A ⟨⟨rfl,rfl⟩,_⟩)|fail)<;>try simp only [hb0,go_sem]);refine W.By JN (σ2:=A) (X.le_refl _) ?_;simp only [go_sem];simp [AMA,dgA]
 |ok r=>
  obtain ⟨dt,hd⟩:=(Ps w).2;have hdt:=ks dt hd;clear ks;simp only [w,hd] at hl ⊢;have h00:((0:Int) != 0)=false:=by decide
  obtain ⟨ds,fs⟩:=p
  have hlf:r.1.length<=24:=by
   have:=(iW w).1;have h2:=(AK3 (Ps w).1 hd hsm hz).lf;omega
  simp only [pgA,Pg.J,AB,AJ,dsA,dgA] at hl ⊢;(repeat' (first|refine sQ ?_|(refine AN.mk rfl hl ?_;rintro _ A ⟨⟨rfl,rfl⟩,hG⟩)|fail)<;>try simp only [h00,go_sem]);refine XEx.mmk (fun t ht=>?_);(repeat' refine sQ ?_<;>simp only [AA,go_sem]);obtain ⟨G,L⟩:=hG r rfl;have:G=dt:=by have:=L.dat;rw [hd] at this;cases this;rfl
  subst this;generalize hQ:(fun (v:I) (H:X)=>(v=AMA (Rx fs G r 100 0 (kQ r))/\H=A)/\∀r_1,(Except.ok r:Except Dg DZ)=Except.ok r_1->∃dt,TyG ⟨ds,fs⟩ dt r_1)=Q;have B:∀v,v=AMA (Rx fs G r 100 0 (kQ r))->Q v A:=fun v hv=>by grind
  clear hQ hG hl;have k:=DmS.start t ht;generalize A.BV t=τ0 at k ⊢
  refine lpK (fun (z:Nat×List Ed×I×Nat×X)=>[(33,A1 z.1),(6,z.2.2.1),(7,.om z.2.2.2.1 (mK (z.2.1.map Z1)))]) (fun z=>z.2.2.2.2)
   (fun z=>z.1<=r.1.length/\z.2.1=g0P r z.1/\DmS A z.2.1 z.2.2.1 z.2.2.2.1 z.2.2.2.2) (fun z=>r.1.length - z.1) ?_ (0,[],.Ac,t,τ0) ⟨by simp,rfl,k⟩
  clear k ht;rintro ⟨p,l,v,t,V⟩ ⟨hp,P,k⟩ ih;simp only at hp P k;have al:=AU7 r p;have sc:=AY0 r p;rw [<- P] at al sc;by_cases n:p < r.1.length
  . obtain ⟨s,hs⟩:=Ak n;have he:=Au (J:=MD) hs;have Z:=wS p;have K:=AQR r p hs;rw [<- P] at K;obtain ⟨sv,sp,⟨rk,rn,rus⟩⟩:=s;simp only [MD,Ty.kind,Ty.num,Ty.args] at he;simp only at K;by_cases h0:sv=0
    . have U:(sv==0)=true:=by grind
      rw [if_pos h0] at K;have o:=fun E (h:E.gt TT=some Ul)=>AEU ((p:Int),[]) E h (by simp) (by simp [Ty.AQ]);have o:∀E,E.gt TT=some Ul->AS Tzp 15 [.agg [A1 p,.Ac]] E (fun v H=>v= .agg [A1 p,Gb []]/\H=E):=fun E h=>AS.plain (by simp only [I.C3,Pu,H6,K6];exact o E h)
      have hno:((p:Int),([]:M)) ∉ l.map Z1:=fun h=>by
       grind [Z1,B3]
      (repeat' refine sQ ?_<;>simp only [BI n,he,U,k.ho.w4,go_sem]);refine DH.AZL (cx:=HC) k.ho rfl (by simp) (by simp;omega) (by omega) (fun v' F a hb' hK=>?_);obtain ⟨q1,q2⟩:=hK _ _ _ _ k.hm k.ap;have c:DmS A (l++[((p:Int),[])]) v' t F:=⟨by rw [A4];exact a,q1,q2⟩;have h9:F.gt TT=some Ul:=by rw [<- c.ho.le.gt];exact hg
      simp only [go_sem];(repeat' (first|refine sQ ?_|refine AN.det (o _ h9) ?_|fail)<;>try simp only [go_sem]);refine Z7.pk c.tok hno (fun t' ho=>?_);(repeat' refine sQ ?_<;>simp only [Z,c.reA,go_sem]);have g:=ih (p+1,l++[((p:Int),[])],v',t',(F.Bh t).BV t') ⟨n,K.symm,c.put ho⟩ (by grind);simp only [A4] at g;exact g
    . have U:(sv==0)=false:=by grind
      rw [if_neg h0] at K;(repeat' refine sQ ?_<;>simp only [BI n,he,U,Z,k.ho.w4,go_sem]);exact ih (p+1,l,v,t,V) ⟨n,K.symm,k⟩ (by grind)
  . have hpe:p=r.1.length:=by omega
    subst hpe;have vs:l=kQ r:=P;rw [<- vs] at B;clear ih sc P vs n hp;(repeat' refine sQ ?_<;>simp only [B5 (Nat.lt_irrefl r.1.length),go_sem]);generalize hD:Rx fs G r 100 0 l=D at B
    refine lpK (fun (z:Nat×List Ed×I×Nat×X)=>[(11,A1 z.1),(6,z.2.2.1),(7,.om z.2.2.2.1 (mK (z.2.1.map Z1)))]) (fun z=>z.2.2.2.2)
     (fun z=>z.1<=z.2.1.length/\z.2.1.length<=64/\Rx fs G r (100 - z.1) z.1 z.2.1=D/\DmS A z.2.1 z.2.2.1 z.2.2.2.1 z.2.2.2.2) (fun z=>100 - z.1) ?_ (0,l,v,t,V) ⟨by simp,by grind,hD,k⟩
    clear k hD al;rintro ⟨i,l,v,t,V⟩ ⟨hi,h5,g,k⟩ ih;simp only at hi h5 g k;by_cases n:i < l.length
    . obtain ⟨⟨f,args⟩,hx⟩:=Ak n;have Z:=wS i;have ha:=Au (J:=XB) hx;simp only [XB] at ha;obtain ⟨tv,rfl⟩:=k.ho.AKQ (fun e=>by grind);have x:=YJ (.sl (ds.map DE.J)) (.sl (fs.map FE.J)) G r L.sp (f,args) V;rw [show 100 - i=(99 - i)+1 by omega,Rx,hx] at g;simp only at g;simp only [L9,dsA,Ty.BQ] at x;cases U:M3 G r (f,args) with
      |none=>
       rw [U] at g x;simp only [AH8] at x;(repeat' (first|refine sQ ?_|(refine W.By JN k.ho.le ?_)|refine AN.det (x) ?_|fail)<;>try simp only [AA,BI n,ha,go_sem]);exact B _ (by rw [<- g];rfl)
      |some b=>
       have hx1:0<=f/\f < r.1.length:=by
        by_cases h:0<=f/\f < r.1.length
        . exact h
        . unfold M3 at U;grind
       obtain ⟨m,rfl⟩:∃m:Nat,f=m:=⟨f.toNat,by omega⟩;have hml:m < fs.length:=by have:r.1.length=fs.length:=L.len;omega
       obtain ⟨T,Y⟩:=Ak hml;have hm:=L.fe m T Y;have hfz:=(L.pf.ok m T Y).2;obtain ⟨_,_,_,_,nm⟩:=Q4 U hm;have hbl:=AKO U hm;have hr:=AEO U hm;have hj:=fun V=>wV (.sl (ds.map DE.J)) fs m T Y (by omega) V;rw [U] at g x;simp only [BX,Y] at g;simp only [AH8,bdA] at x;have S:=(Up fs (Bl T.body T.params) 0).2;have hk:=(Up fs (Bl T.body T.params) 0).1;rw [Ip] at hk
       have S:∀y∈eU fs T,y.1 < b.notes.length:=fun y hy=>by
        have:=(S y hy).2;rw [Ip] at this;omega
       change (eU fs T).length<=_ at hk;generalize eU fs T=rs at hj g S hk;obtain ⟨h1,pps,⟨bk,bn,bus⟩⟩:=b;simp only [Ty.kind,Ty.num,Ty.args] at x;simp only at g S nm hbl hr;(repeat' (first|refine sQ ?_|refine AN.det (x) ?_|refine AN.det (hj _) ?_|fail)<;>try simp only [AA,BI n,ha,go_sem])
       refine lpK (fun (z:Nat×List Ed×I×Nat×X)=>[(79,A1 z.1),(6,z.2.2.1),(7,.om z.2.2.2.1 (mK (z.2.1.map Z1)))]) (fun z=>z.2.2.2.2)
        (fun z=>z.1<=rs.length/\l.length<=z.2.1.length/\z.2.1.length<=64/\Ry h1 (rs.drop z.1) z.2.1=Ry h1 rs l/\DmS A z.2.1 z.2.2.1 z.2.2.2.1 z.2.2.2.2) (fun z=>rs.length - z.1) ?_ (0,l,_,t,V) ⟨by simp,AW _,h5,rfl,k⟩
       generalize Ry h1 rs l=D2 at g ⊢;clear k x hj;rintro ⟨q,l2,v2,t2,F⟩ ⟨hq,us,h7,j,c⟩ ih2;simp only at hq us h7 j c;have h6:=c.ho.le;have h9:F.gt TT=some Ul:=by rw [<- h6.gt];exact hg
       by_cases R:q < rs.length
       . obtain ⟨⟨y1,y2⟩,hy⟩:=Ak R;have hw2:=wS q;have hyr:=Au (J:=AWD) hy;simp only [AWD] at hyr;obtain ⟨⟨n1,n2⟩,hn⟩:=Ak (S _ (AE hy));have cs:=AE hn;have hnr:=Au (J:=Cf) hn;have hf:=(nm _ cs).2;have hnl:=hr _ cs;simp only at hf hnl
         have o:=AEU (y2,n2) F h9 (fun u hu=>(ATT hdt u.size).1 u (AW _) (by have:=hf u hu;simp only [Fg,AM] at this;exact this.2)) (by
          have:=AFR 200 n2 fun u hu=>by have:=hf u hu;simp only [Fg,AM,decide_eq_true_eq] at this;exact this.1
          grind)
         obtain ⟨n1a,n1b,n1c⟩:=n1;simp only [Cf,Ty.J,AU,A3] at hnr;simp only [L9,Ty.BQ,AbO] at o;have hgd:h1.getD y1 (.mk 0 0 [],[])=(.mk n1a n1b n1c,n2):=by grind
         rw [Cs hy,Ry] at j;simp only [hgd] at j;have hkp:Z1 (y2,n2)=(y2,HQ n2):=rfl;rw [hkp] at j;(repeat' (first|refine sQ ?_|refine AN.det (o) ?_|fail)<;>try simp only [BI R,hyr,hnr,c.ho.w4,go_sem]);refine XEx.ABB c.tok ?_;cases hc:(l2.map Z1).contains (y2,HQ n2) with
         |true=>
          rw [hc,if_pos rfl] at j;(repeat' refine sQ ?_<;>simp only [hw2,go_sem]);exact ih2 (q+1,l2,v2,t2,F) ⟨R,us,h7,j,c⟩ (by grind)
         |false=>
          rw [hc,if_neg (by simp)] at j;by_cases h3:64<=l2.length
          . rw [if_pos h3] at j;have N:decide ((64:Int)<=(l2.length:Int))=true:=by grind
            (repeat' (first|refine sQ ?_|(refine W.By JN h6 ?_)|fail)<;>try simp only [N,AA,c.ho.len,go_sem]);exact B _ (by rw [<- g,<- j];rfl)
          . rw [if_neg h3] at j;have N:decide ((64:Int)<=(l2.length:Int))=false:=by grind
            (repeat' refine sQ ?_<;>simp only [N,AA,c.ho.len,go_sem]);refine Z7.pk c.tok (by grind) (fun t' ho=>?_);have h8:=c.put ho;(repeat' refine sQ ?_<;>simp only [c.reA,go_sem]);refine DH.AZL (cx:=HC) h8.ho rfl (by simp) (by simp;omega) (by omega) (fun v' τ3 a hb' hK=>?_);obtain ⟨q1,q2⟩:=hK _ _ _ _ h8.hm h8.ap;simp only [go_sem];(repeat' refine sQ ?_<;>simp only [hw2,go_sem]);have h4:=ih2 (q+1,l2++[(y2,n2)],v',t',τ3) ⟨R,by simp;omega,by simp;omega,j,by rw [A4];exact a,q1,q2⟩ (by grind);simp only [A4] at h4;exact h4
       . rw [HN (by omega),Ry] at j;subst j;simp only at g;(repeat' refine sQ ?_<;>simp only [B5 R,Z,go_sem]);exact ih (i+1,l2,v2,t2,F) ⟨by grind,h7,by grind,c⟩ (by grind)
    . have hie:i=l.length:=by omega
      rw [show 100 - i=(99 - i)+1 by omega,Rx,FO (by omega)] at g;(repeat' (first|refine sQ ?_|(refine W.By JN k.ho.le ?_)|fail)<;>try simp only [AA,B5 n,k.ho.len,k.ho.w4,k.ho.plain,go_sem]);exact B _ (by rw [<- g];rfl)
end
def msI:I->Option Nat
 | .ms j _ _ _=>some j
 | .gp j _=>some j
 |_=>none
def Ap2 (v w:I):Prop:=∀j,msI v=some j->msI w≠some j
theorem Ap2.symm {v w:I} (h:Ap2 v w):Ap2 w v:=fun j a b=>h j b a
structure Mw where
 tk:Nat
 s:Nat
 n:Nat
 cells:List I
 v:I
def Mr (O A:X) (m:Mw):Prop:=m.cells.length=m.n * m.s/\((m.n=0/\m.v= .Ac)\/(0 < m.n/\∃j,m.v= .ms j m.n m.s m.tk/\A.C j=some m.cells/\O.C j=none))
def MsL (O A:X) (i:Nat) (l:List Mw):Prop:=(∀m∈l,Mr O A m)/\(I.gp i 0::l.map Mw.v).Pairwise Ap2
theorem MsL.perm {O A:X} {i:Nat} {l m:List Mw} (h:MsL O A i l) (b:l.Perm m):MsL O A i m:=
 ⟨fun x c=>h.1 x (b.mem_iff.2 c),((List.Perm.cons _ (b.map _)).pairwise_iff (fun a=>a.symm)).1 h.2⟩
theorem Mr.Ee {O A V:X} {m:Mw} (h:Mr O A m) (d:∀j,msI m.v=some j->A.C j≠none->V.C j=A.C j):Mr O V m:=by
 refine ⟨h.1,h.2.imp id ?_⟩;rintro ⟨e,j,a,b,c⟩;exact ⟨e,j,a,by rw [d j (by rw [a];rfl) (by rw [b];simp),b],c⟩
theorem MsL.Ee {O A V:X} {i:Nat} {l:List Mw} (h:MsL O A i l) (b:∀m∈l,∀j,msI m.v=some j->A.C j≠none->V.C j=A.C j):MsL O V i l:=
 ⟨fun m a=>(h.1 m a).Ee (b m a),h.2⟩
theorem MsL.wY {O A:X} {i:Nat} {l:List Mw} (h:MsL O A i l) (cs:List I):MsL O (A.AI i cs) i l:=
 h.Ee fun m c j b _=>by
  have:=(BZ.1 h.2).1 _ (CU c);have a:j≠i:=fun e=>this i rfl (by rw [<- e];exact b);rw [AD,if_neg a]
theorem MsL.AS0 {O A:X} {i j:Nat} {m:Mw} {l:List Mw} (h:MsL O A i (m::l)) (b:m.v= .ms j m.n m.s m.tk) {cs:List I} (o:cs.length=m.cells.length):MsL O (A.AI j cs) i ({ m with cells:=cs}::l):=by
 obtain ⟨f,g⟩:=h;obtain ⟨u,r⟩:=BZ.1 g;obtain ⟨s,v⟩:=BZ.1 r;refine ⟨fun x c=>?_,g⟩;rcases Ah.1 c with rfl|c
 . obtain ⟨k1,a⟩:=f m (AY);refine ⟨o.trans k1,?_⟩;rcases a with ⟨_,a⟩|⟨p,j',a,t,q⟩
   . rw [b] at a;cases a
   . rw [b] at a;cases a;exact .inr ⟨p,j,b,BB,q⟩
 . refine (f x (AZ _ c)).Ee fun k n _=>?_;have:=s _ (CU c);have d:k≠j:=fun e=>this j (by rw [b];rfl) (by rw [<- e];exact n);rw [AD,if_neg d]
theorem MsL.app {O A:X} {i:Nat} {m:Mw} {l:List Mw} (h:MsL O A i (m::l)) (D:O.le A) (F:A.C i≠none) {cs:List I} {c:Nat} (N:cs.length=c * m.s) (p:0 < c):
 ∃σ1,M6 A m.tk m.s m.v=some (m.n,m.cells,σ1)/\(∀k,msI m.v≠some k->σ1.C k=A.C k)/\(∀t,σ1.tok t=A.tok t)/\σ1.gt=A.gt/\σ1.bt=A.bt/\∀j V,A.C j=none->V.C j=some (m.cells++cs)->(∀k,k≠j->msI m.v≠some k->V.C k=A.C k)->
  MsL O V i ({ m with n:=m.n+c,cells:=m.cells++cs,v:= .ms j (m.n+c) m.s m.tk}::l)/\V.C i=A.C i:=by
 obtain ⟨B,K⟩:=h;obtain ⟨G,S⟩:=BZ.1 K;obtain ⟨T,U⟩:=BZ.1 S;obtain ⟨k1,y⟩:=B m (AY);have E:msI m.v≠some i:=fun e=>G m.v (AY) i rfl e
 have fin:∀j V,A.C j=none->V.C j=some (m.cells++cs)->(∀k,k≠j->msI m.v≠some k->V.C k=A.C k)->j≠i->MsL O V i ({ m with n:=m.n+c,cells:=m.cells++cs,v:= .ms j (m.n+c) m.s m.tk}::l)/\V.C i=A.C i:=fun j V b a f r=>by
  have hid:∀x∈l,msI x.v≠some j:=fun x d e=>by
   rcases (B x (AZ _ d)).2 with ⟨_,q⟩|⟨_,j',q,Y,_⟩
   . rw [q] at e;cases e
   . rw [q] at e;cases e;rw [Y] at b;cases b
  refine ⟨⟨fun x d=>?_,?_⟩,f i (A5 r) E⟩
  . rcases Ah.1 d with rfl|d
    . refine ⟨by simp only [A0,k1,N,Cj],.inr ⟨by simp only;omega,j,rfl,a,?_⟩⟩;cases L:O.C j with
      |none=>rfl
      |some q=>rw [D.C j q L] at b;cases b
    . refine (B x (AZ _ d)).Ee fun k s P=>f k (fun e=>hid x d (e ▸ s)) fun e=>T _ (CU d) k e s
  . rw [AB,BZ,BZ];refine ⟨fun w u=>?_,fun w u=>?_,U⟩
    . rcases Ah.1 u with rfl|u
      . intro k g o;cases g;cases o;exact r rfl
      . exact G w (AZ _ u)
    . intro k g o;cases g;obtain ⟨x,d,rfl⟩:=BR.1 u;exact hid x d o
 rcases y with ⟨y,z⟩|⟨Z,Q,z,R,k5⟩
 . have p:m.cells=[]:=Ay (by rw [k1,y,To]);refine ⟨A,by rw [z,y,p];rfl,fun _ _=>rfl,fun _=>rfl,rfl,rfl,fun j V b a f=>fin j V b a f fun e=>F (e ▸ b)⟩
 . refine ⟨A.CM Q,by rw [z];simp [M6,R,k1],fun k f=>by rw [B9,if_neg (fun e=>f (by rw [z,e];rfl))],fun _=>rfl,rfl,rfl,fun j V b a f=>fin j V b a f fun e=>F (e ▸ b)⟩
section
theorem HX.AET {O A V:X} {l:List Ow} (h:HX O l A) (a:O.le V) (b:∀t,A.tok t=true->V.tok t=true):HX O l V:=⟨fun x c=>(h.1 x c).Ee a fun t _ h=>b t h,h.2⟩
theorem MsL.le {O A V:X} {i j:Nat} {m:Mw} {l:List Mw} (h:MsL O A i (m::l)) (a:O.le A) (p:A.C j=none) (g:∀k,k≠j->msI m.v≠some k->V.C k=A.C k) (n:∀t,V.tok t=A.tok t) (f:V.gt=A.gt) (c:V.bt=A.bt):O.le V:=by
 refine ⟨fun k cs d=>?_,fun t h=>by rw [n];exact a.tok t h,a.gt.trans f.symm,fun k x o=>by rw [c];exact a.bt k x o⟩;have b:=a.C k cs d;rw [g k (fun e=>by grind) (fun e=>?_)]
 . exact b
 . rcases (h.1 m (AY)).2 with ⟨_,q⟩|⟨_,j',q,_,r⟩
   . rw [q] at e;cases e
   . rw [q] at e;cases e;grind
theorem JU.row {K:CV} {F:Fm} {L:Lm} {A O:X} {d:Option Nat} {i bytes:Nat} {m:Mw} {l:List Mw} {x:I} {rows:List (List DV)} (h:MsL O A i (m::l)) (b:O.le A) (N:A.C i≠none) (c:x.rows=some rows)
 (f:∀r∈rows,r.length=m.s) (e:rows≠[]) (u:m.n+rows.length<=1000000000) (B:bytes<=10000) (T:m.s<=100)
 (p:∀j V,MsL O V i ({ m with n:=m.n+rows.length,cells:=m.cells++BL rows,v:= .ms j (m.n+rows.length) m.s m.tk}::l)->V.C i=A.C i->O.le V->(∀t,A.tok t=true->V.tok t=true)->K (BW d (.ms j (m.n+rows.length) m.s m.tk) F) L V):JU m.tk m.s bytes m.v x d K F L A:=by
 have D:(BL rows).length=rows.length * m.s:=by
  rw [BL,AA,List.length_flatten];clear p e u c
  induction rows with
  |nil=>simp
  |cons r rows Q=>rw [AB,Em,f r (AY),Q fun q P=>f q (AZ _ P),AT,Cj];omega
 obtain ⟨σ1,z,o,w,G,g,E⟩:=h.app b N D (Ds.2 e);refine JU.mk z c f e u B (fun j s=>?_);have a:∀k,k≠j->msI m.v≠some k->(σ1.AI j (m.cells++BL rows)).C k=A.C k:=fun k y c=>by rw [AD,if_neg y,o k c]
 obtain ⟨R,S⟩:=E j (σ1.AI j (m.cells++BL rows)) s BB a;exact p j _ R S (h.le b s a w G g) fun t h=>(w t).trans h
theorem XEx.row {K:CV} {F:Fm} {L:Lm} {A O:X} {d:Option Nat} {i j2 c e2:Nat} {m:Mw} {l:List Mw} {cs:List I} (h:MsL O A i (m::l)) (b:O.le A) (D:A.C i≠none) (g:A.C j2=some cs) (q:cs.length=c * m.s) (f:0 < c) (E:m.n+c<=1000000000) (p:m.v.BS=true)
 (x:∀j V,MsL O V i ({ m with n:=m.n+c,cells:=m.cells++cs,v:= .ms j (m.n+c) m.s m.tk}::l)->V.C i=A.C i->O.le V->(∀t,A.tok t=true->V.tok t=true)->K (BW d (.ms j (m.n+c) m.s m.tk) F) L V):XEx (.zV m.tk m.s) [m.v,.ms j2 c m.s e2] d K F L A:=by
 obtain ⟨σ1,y,o,s,B,e,z⟩:=h.app b D q f;refine XEx.AYH g q (by omega) E y p (fun j r=>?_);have a:∀k,k≠j->msI m.v≠some k->(σ1.AI j (m.cells++cs)).C k=A.C k:=fun k u w=>by rw [AD,if_neg u,o k w]
 obtain ⟨G,N⟩:=z j (σ1.AI j (m.cells++cs)) r BB a;exact x j _ G N (h.le b r a s B e) fun t h=>(s t).trans h
def Ez (n:Int):List DV:=[.int .i64 n]
def zW (b:List Int):List DV:=[.sl (b.map Ez)]
def Sk (c:M×Int):List DV:=[.str c.1,.int .i64 c.2]
def Cd.row (c:Cd):List I:=[.d (.str c.name),c.pv,c.cv,.d (.int .i64 c.res.kind),.d (.int .i64 c.res.num),.d (.sl (Ty.Cz c.res.args)),.d (.int .i64 c.body)]
theorem Cd.Bj (c:Cd):c.row.length=7:=rfl
def Jb.J (j:Jb):List DV:=j.body.J++[.int .i64 (j.at_:Int),.sl (j.notes.map Cf),.sl (j.params.map CG),.sl (Ty.Cz j.types),.sl (j.Ae.map Sk),.int .i64 j.callee]
def XE.row (x:XE):List I:=[.d (.int .i64 x.op),.d (.int .i64 x.num),x.vv,x.bv,x.kv,.d (.int .i64 x.t.kind),.d (.int .i64 x.t.num),.d (.sl (Ty.Cz x.t.args))]
theorem XE.Bj (x:XE):x.row.length=8:=rfl
abbrev tkV:Nat:=42
abbrev tkX:Nat:=44
abbrev tkC:Nat:=79
abbrev tkJ:Nat:=118
abbrev tkI:Nat:=3
def XE.ow (x:XE):Ow:=⟨tkI,1,x.kids.map Ba,x.kv⟩
def mwC (S:LSt) (v:I):Mw:=⟨tkC,7,S.Bw.length,rwC Cd.row S.Bw,v⟩
def mwV (S:LSt) (v:I):Mw:=⟨tkV,3,S.vars.length,BL (S.vars.map Ty.J),v⟩
def mwX (S:LSt) (v:I):Mw:=⟨tkX,8,S.xs.length,rwC XE.row S.xs,v⟩
def lgC (B:LB) (fl:Bool) (cv vv ev ja nv:I):List I:=[.d (.sl (B.p.data.map DE.J)),.d (.sl (B.p.Ca.map FE.J)),.d (.sl (B.ins.map XB)),.d (.sl (B.dt.map Dat.J)),cv,vv,ev,ja,nv,.d (.bool fl)]
structure ALJ (v:I) (n:Nat):Prop where
 cell:v.Bo=true
 BS:v.BS=true
 cells:v.cells=[v]
 Cp:∀k,v.Cp k=false
 len:Vh v=some (.d (.int .i64 n))
theorem DG.cel {v:I} {rows:List (List DV)} {n:Nat} (h:DG v rows) (f:rows.length=n):ALJ v n:=by
 subst f;obtain ⟨a,b,c,d,e⟩:=h;refine ⟨b,c,d,e,?_⟩;cases v<;>simp only [I.dv,AP,reduceCtorEq,DV.sl.injEq] at a<;>(try subst a)<;>first|rfl|simp at a
def RvX (x:XE):Prop:=DG x.vv (x.vars.map Ez)/\ALJ x.bv x.binds.length
structure LG (B:LB) (O A:X) (S:LSt) (cv vv ev ja nv:I):Prop where
 bi:A.C B.i=some (lgC B S.fl cv vv ev ja nv)
 ms:MsL O A B.i [mwC S cv,mwV S vv,mwX S ev]
 ow:HX O (⟨tkJ,12,S.JO.map Jb.J,ja⟩::S.xs.map XE.ow) A
 le:O.le A
 i0:O.C B.i=none
 rv:∀x∈S.xs,RvX x
 nv:S.nt≠[]->nv= .d (.sl (S.nt.map Cf))
 ok:SOK B S
theorem Mr.cel {O A:X} {m:Mw} (h:Mr O A m):ALJ m.v m.n:=by
 rcases h.2 with ⟨b,a⟩|⟨_,j,a,_⟩
 . rw [a,b];exact ⟨rfl,rfl,rfl,fun _=>rfl,rfl⟩
 . rw [a];exact ⟨rfl,rfl,rfl,fun _=>rfl,rfl⟩
variable {B:LB} {O A V:X} {S:LSt} {cv vv ev ja nv:I}
theorem LG.cel (h:LG B O A S cv vv ev ja nv):ALJ cv S.Bw.length/\ALJ vv S.vars.length/\ALJ ev S.xs.length:=
 ⟨(h.ms.1 (mwC S cv) (by simp)).cel,(h.ms.1 (mwV S vv) (by simp)).cel,(h.ms.1 (mwX S ev) (by simp)).cel⟩
theorem LG.gi (h:LG B O A S cv vv ev ja nv):A.C B.i≠none:=by rw [h.bi];simp
theorem LG.wY (h:LG B O A S cv vv ev ja nv) (cs:List I):MsL O (A.AI B.i cs) B.i [mwC S cv,mwV S vv,mwX S ev]/\HX O (⟨tkJ,12,S.JO.map Jb.J,ja⟩::S.xs.map XE.ow) (A.AI B.i cs)/\O.le (A.AI B.i cs):=
 ⟨h.ms.wY cs,h.ow.set h.i0 cs,B6 h.le h.i0⟩
theorem gX (t:Ty) (b:t.size<=1000000) (A:X):AS Tzp 49 [tyA t] A (fun v H=>v=tyA t/\H=A):=by
 have a:=fun A=>Oh [] (by simp) t b A;refine rA.go ?_;rw [Dx];obtain ⟨k,n,l⟩:=t;simp only [jY,tyA,L9,Ty.J,Ty.Cz,AB,AJ] at a ⊢;(repeat' refine wP ?_<;>simp only [go_sem]);refine AN.mk rfl (AS.plain (by simp only [I.C3,I.plain];exact a A)) ?_;rintro _ _ ⟨rfl,rfl⟩;simp only [go_sem];(repeat' refine wP ?_<;>simp only [go_sem])
def LH (B:LB) (O A:X) (S:LSt):Prop:=∃cv vv ev ja nv,LG B O A S cv vv ev ja nv
def LSt.FN (S:LSt) (t:Ty):LSt:= { S with vars:=S.vars++[t]}
theorem SOK.FN {t:Ty} (h:SOK B S) (c:t.size<=200):SOK B (S.FN t):=
 ⟨fun j b=>(h.jb j b).mono (by simp [LSt.FN]),fun u a=>by
   rcases A2.1 a with a|a
   . exact h.vz u a
   grind,h.cz,h.cj,h.c64,h.nt⟩
theorem Y2 (A:X) {i j:Nat} (h:i≠j) (a b:List I):(A.AI i a).AI j b=(A.AI j b).AI i a:=by
 unfold X.AI
 grind
theorem AW5 {l:List I} {z c:List I} {n:Nat} (h:l.length=n) (a:z.length=c.length):(l++z).take n++c++(l++z).drop (n+c.length)=l++c:=by
 grind
theorem ABD (a b:List (List DV)):BL (a++b)=BL a++BL b:=by simp [BL]
theorem Yp (t:Ty) (T:t.size<=200) (R:S.sz<=100000000) (h:LH B O A S):AS Tzp 24 [.gp B.i 0,tyA t] A (fun v H=>v= .d (.int .i64 (S.vars.length:Int))/\LH B O H (S.FN t)):=by
 obtain ⟨cv,vv,ev,ja,nv,h⟩:=h;have N:=fun A=>gX t (by omega) A;have d:=h.bi;obtain ⟨_,b,_⟩:=h.cel;have U:S.vars.length<=100000000:=by unfold LSt.sz at R;omega
 have s:(BL (S.vars.map Ty.J)).length=S.vars.length * 3:=(h.ms.1 (mwV S vv) (by simp)).1
 have a:∀j V,MsL O V B.i [{ mwV S vv with n:=S.vars.length+1,cells:=BL (S.vars.map Ty.J)++BL [[.int .i64 0,.int .i64 0,.sl []]],v:= .ms j (S.vars.length+1) 3 tkV},mwC S cv,mwX S ev]->O.le V->(∀t,A.tok t=true->V.tok t=true)->
  j≠B.i/\V.C j=some (BL (S.vars.map Ty.J)++BL [[.int .i64 0,.int .i64 0,.sl []]])/\LH B O ((V.AI j (BL (S.vars.map Ty.J)++BL [t.J])).AI B.i (lgC B S.fl cv (.ms j (S.vars.length+1) 3 tkV) ev ja nv)) (S.FN t):=fun j V u g l=>by
  have i:j≠B.i:=fun e=>(BZ.1 u.2).1 _ (AY) B.i rfl (by rw [<- e];rfl);have o:=(u.1 _ (AY)).2;rcases o with ⟨o,_⟩|⟨_,j',o,f,p⟩
  . simp at o
  cases o;refine ⟨i,f,cv,.ms j (S.vars.length+1) 3 tkV,ev,ja,nv,?_⟩;have P:=u.AS0 rfl (cs:=BL (S.vars.map Ty.J)++BL [t.J]) (by simp [BL];obtain ⟨_,_,_⟩:=t;rfl);have F:(S.FN t).vars.length=S.vars.length+1:=by simp [LSt.FN]
  have x:BL ((S.FN t).vars.map Ty.J)=BL (S.vars.map Ty.J)++BL [t.J]:=by simp [LSt.FN,BL]
  refine ⟨by rw [AD,if_pos rfl];rfl,?_,((h.ow.AET g l).set p _).set h.i0 _,B6 (B6 g p) h.i0,h.i0,h.rv,h.nv,h.ok.FN T⟩;have Q:=(P.wY (lgC B S.fl cv (.ms j (S.vars.length+1) 3 tkV) ev ja nv)).perm (Fw _ _ _);unfold mwV;rw [F,x];exact Q
 refine Re.go ?_;rw [B4];obtain ⟨k,n,us⟩:=t;simp only [tyA,Ty.J,AB,AJ] at N a ⊢;have y:=h.gi;have G:=h.ms.perm (Fw _ _ _);unfold lgC at d a;(repeat' refine wQ ?_<;>simp only [d,b.cell,b.len,go_sem]);refine ⟨?_,?_⟩<;>
 . refine AN.mk rfl (N _) ?_;rintro _ _ ⟨rfl,rfl⟩;simp only [d,b.cell,b.len,go_sem];refine JU.row (m:=mwV S vv) G h.le y rfl (by simp [mwV]) (by simp) (by simp [mwV];omega) (by omega) (by simp [mwV]) (fun j V u K g l=>?_);obtain ⟨i,f,L⟩:=a j V u g l;rw [d] at K;simp only [mwV,AT,A8,Av];have D:(B.i=j)=False:=by grind
   have q:(j=B.i)=False:=by grind
   have r:(S.vars.length * 3+3<=(BL (S.vars.map Ty.J)++BL [[.int .i64 0,.int .i64 0,.sl []]]).length)=True:=by grind [A0,BL]
   have w:=AW5 (z:=BL [[.int .i64 0,.int .i64 0,.sl []]]) (c:=BL [[.int .i64 k,.int .i64 n,.sl (Ty.Cz us)]]) s rfl;simp only [BL,BO,List.flatten_nil,Aw,AB,AJ,AT,A8,Av,Nat.reduceAdd] at w f r L;have E:=ltT (Nat.lt_succ_self S.vars.length);have Y:IntKind.i64.wrap (((S.vars.length+1:Nat):Int) - 1)=(S.vars.length:Int):=by grind [B2]
   simp only [K,f,E,r,w,AD,if_true,D,q,if_false,Y,Y2 V (A5 i),go_sem];(repeat' refine wP ?_<;>simp only [go_sem]);exact L
theorem le_none {j:Nat} (h:O.le A) (a:A.C j=none):O.C j=none:=by
 cases b:O.C j with
 |none=>rfl
 |some q=>rw [h.C j q b] at a;cases a
theorem MsL.new {i j:Nat} {l:List Mw} (h:MsL O A i l) (b:A.C j=none) (cs:List I):MsL O (A.AI j cs) i l:=h.Ee fun m d k c a=>by
 have:k≠j:=fun e=>a (by rw [e];exact b);rw [AD,if_neg this]
def LSt.Cm (S:LSt) (x:XE):LSt:= { S with xs:=S.xs++[x]}
def D4 (op num:Int) (t:Ty):XE:=⟨op,num,[],[],[],t,.Ac,.Ac,.Ac⟩
theorem SOK.Cm {x:XE} (h:SOK B S):SOK B (S.Cm x):=⟨h.jb,h.vz,h.cz,h.cj,h.c64,h.nt⟩
theorem Fu (op num:Int) (t:Ty) (P:t.size<=200) (G:S.sz<=100000000) (h:LH B O A S):AS Tzp 26 [.gp B.i 0,.d (.int .i64 op),.d (.int .i64 num),tyA t] A (fun v H=>v= .d (.int .i64 (S.xs.length:Int))/\LH B O H (S.Cm (D4 op num t))):=by
 obtain ⟨cv,vv,ev,ja,nv,h⟩:=h;have z:=fun A=>gX t (by omega) A;have b:=h.bi;obtain ⟨_,_,a⟩:=h.cel;have K:S.xs.length<=100000000:=by unfold LSt.sz at G;omega
 have w:MsL O A B.i [mwX S ev,mwC S cv,mwV S vv]:=h.ms.perm ((Fw _ _ _).cons _|>.trans (Fw _ _ _))
 have f:∀j V,MsL O V B.i [{ mwX S ev with n:=S.xs.length+1,cells:=rwC XE.row S.xs++(D4 op num t).row,v:= .ms j (S.xs.length+1) 8 tkX},mwC S cv,mwV S vv]->O.le V->(∀t,A.tok t=true->V.tok t=true)->
  LH B O (V.AI B.i (lgC B S.fl cv vv (.ms j (S.xs.length+1) 8 tkX) ja nv)) (S.Cm (D4 op num t)):=fun j V u d i=>by
  refine ⟨cv,vv,.ms j (S.xs.length+1) 8 tkX,ja,nv,?_⟩;have s:(S.Cm (D4 op num t)).xs.length=S.xs.length+1:=by simp [LSt.Cm]
  have r:rwC XE.row (S.Cm (D4 op num t)).xs=rwC XE.row S.xs++(D4 op num t).row:=by simp [LSt.Cm,rwC]
  refine ⟨by rw [AD,if_pos rfl];rfl,?_,?_,B6 d h.i0,h.i0,fun x l=>?_,h.nv,h.ok.Cm⟩
  . have D:=(u.wY (lgC B S.fl cv vv (.ms j (S.xs.length+1) 8 tkX) ja nv)).perm ((Fw _ _ _).trans ((Fw _ _ _).cons _));unfold mwX;rw [s,r];exact D
  . have E:=((h.ow.AET d i).set h.i0 (lgC B S.fl cv vv (.ms j (S.xs.length+1) 8 tkX) ja nv)).nil (B6 d h.i0) tkI 1;refine E.perm ?_
    grind [LSt.Cm,List.perm_append_comm,trans,XE.ow,D4]
  . rcases A2.1 l with l|l
    . exact h.rv x l
    . simp only [A9] at l;rw [l];exact ⟨DG.Ac,DG.Ac.cel rfl⟩
 refine U5.go ?_;rw [Ka];obtain ⟨k,n,us⟩:=t;simp only [tyA,Ty.J,AB,AJ] at z ⊢;have o:=h.gi;unfold lgC at b f;have y:(D4 op num (.mk k n us)).row.length=1 * 8:=rfl;have L:IntKind.i64.wrap (((S.xs.length+1:Nat):Int) - 1)=(S.xs.length:Int):=by grind [B2]
 (repeat' refine wQ ?_<;>simp only [b,a.cell,go_sem]);refine ⟨?_,?_⟩<;>
 . refine AN.mk rfl (z _) ?_;rintro _ _ ⟨rfl,rfl⟩;simp only [b,a.cell,go_sem]
   try refine DF ?_ ?_
   all_goals
    refine WM.mk (fun N p=>?_);have g:B.i≠N:=fun e=>o (by grind);simp only [b,a.cell,AD,if_neg g,go_sem];refine XEx.row (m:=mwX S ev) (c:=1) (cs:=(D4 op num (.mk k n us)).row) (w.new p _) (B6 h.le (le_none h.le p)) (by rw [AD,if_neg g];exact o) (by rw [AD,if_pos rfl];rfl) y (by omega) (by simp only [mwX];omega) a.BS (fun j V u q d i=>?_);have F:=f j V u d i;rw [AD,if_neg g,b] at q;simp only [mwX];simp only [q,go_sem];(repeat' refine wP ?_<;>simp only [if_true,L,go_sem]);exact F
end
def chD:Ch->DV
 |[]=>.Dt
 |x::c=>.ptr [.str x.1,.int .i64 x.2,chD c]
theorem AC8 (s:M) (t:Int) (c:Ch):chD ((s,t)::c)= .ptr [.str s,.int .i64 t,chD c]:=rfl
theorem Qa (x:I) (c:Ch) (a:PlV x (chD c)) (s:M) (v:Int) (A:X):AS Tzp 25 [x,.d (.str s),.d (.int .i64 v)] A (fun u H=>u= .d (chD (Et c s v))/\H=A):=by
 refine Xs.go ?_;rw [DN];unfold Et;by_cases b:s=[]
 . subst b;rw [if_pos rfl];(repeat' refine wP ?_<;>simp only [CZ,a.BS,a.plain,beq_self_eq_true,go_sem])
 . rw [if_neg b];have d:(s==[])=false:=by simpa using b
   (repeat' refine wP ?_<;>simp only [CZ,d,a.dv,a.cell,a.cells,go_sem]);rfl
def dZ:Option Int->I
 |some t=>.tup [.d (.int .i64 t),.d (.bool true)]
 |none=>.tup [.d (.int .i64 0),.d (.bool false)]
theorem dY (c:Ch) (s:M) (A:X):AS Tzp 99 [.d (chD c),.d (.str s)] A (fun v H=>v=dZ (DP c s)/\H=A):=by
 refine Xr.go ?_;(repeat' refine wQ ?_<;>simp only [go_sem]);refine lpK (fun (e:Ch)=>[(0,.d (chD e))]) (fun _=>A) (fun e=>DP e s=DP c s) (fun e=>e.length) ?_ c rfl;rintro e a d;cases e with
 |nil=>
  rw [<- a];(repeat' refine wP ?_<;>simp only [chD,go_sem]);rfl
 |cons x e=>
  obtain ⟨n,t⟩:=x;rw [DP] at a;simp only at a;by_cases h:n=s
  . have b:(n==s)=true:=by simpa using h
    rw [if_pos h] at a;rw [<- a];(repeat' refine wP ?_<;>simp only [AC8,CZ,b,go_sem]);rfl
  . have b:(n==s)=false:=by simpa using h
    rw [if_neg h] at a;(repeat' refine wQ ?_<;>simp only [AC8,CZ,b,go_sem]);exact d e a (by simp)
theorem ART (n:Int) (A:X):AS Tzp 56 [.d (.int .i64 n)] A (fun v H=>(∃o,v= .d (.int .i64 o)/\¬brO o)/\H=A):=by
 refine dP.go ?_;(repeat' first|(refine ⟨fun h=>?_,fun h=>?_⟩)|(refine wP ?_<;>try simp only [go_sem]))
 all_goals exact ⟨_,rfl,by decide⟩
theorem fL {fid:FuncId} {Ae:List I} (o:CP Tzp fid=true) (d:Ae.all I.BS=true) (p:Con->Bool) (l:List Con) (A:X) (q:∀x∈l,AS Tzp fid (I.agg (x.J.map I.d)::Ae) A (fun v H=>v= .d (.bool (p x))/\H=A)):
 AS Tzp 102 [.d (.sl (l.map Con.J)),.fn fid [] Ae] A (fun v H=>v= .d (.int .i64 (Hq (l.findIdx? p)))/\H=A):=by
 refine QX.go ?_;rw [B4];refine W.slot 0 (fun j=>?_);simp only [DR,if_true,I.Ep,AA] at j;(repeat' refine wQ ?_<;>simp only [AA,go_sem]);refine lpK (fun (i:Nat)=>[(8,A1 i)]) (fun _=>A) (fun i=>i<=l.length/\∀x∈l.take i,p x=false) (fun i=>l.length - i) ?_ 0 ⟨by simp,by simp⟩;rintro i ⟨s,b⟩ r;by_cases a:i < l.length
 . obtain ⟨x,h⟩:=Ak a;have f:=Au (J:=Con.J) h;have e:IntKind.i64.wrap ((i:Int)+1)=((i+1:Nat):Int):=by grind [B2]
   have c:=q x (AE h);cases g:p x with
   |true=>
    rw [g] at c;have m:=Cn b h g;obtain ⟨k,us⟩:=x;simp only [Con.J,AB,AJ] at f c;(repeat' (first|refine wP ?_|(refine ⟨fid,[],Ae,rfl,o,AN.det c ?_ (by simp [d,CY])⟩)|fail)<;>try simp only [BI a,f,go_sem]);rw [m];rfl
   |false=>
    rw [g] at c;have n:=Ea b h g;obtain ⟨k,us⟩:=x;simp only [Con.J,AB,AJ] at f c;(repeat' (first|refine wQ ?_|(refine ⟨fid,[],Ae,rfl,o,AN.det c ?_ (by simp [d,CY])⟩)|fail)<;>try simp only [BI a,f,e,go_sem]);exact r (i+1) ⟨by omega,n⟩ (by omega)
 . (repeat' refine wP ?_<;>simp only [B5 a,go_sem]);rw [AR (by omega)] at b;rw [Co b];rfl
theorem fM {fid:FuncId} {Ae:List I} (o:CP Tzp fid=true) (d:Ae.all I.BS=true) (p:Ed->Bool) (l:List Ed) (A:X) (q:∀x∈l,AS Tzp fid (I.agg ((XB x).map I.d)::Ae) A (fun v H=>v= .d (.bool (p x))/\H=A)):
 AS Tzp 190 [.d (.sl (l.map XB)),.fn fid [] Ae] A (fun v H=>v= .d (.int .i64 (Hq (l.findIdx? p)))/\H=A):=by
 refine MZ.go ?_;rw [B4];refine W.slot 0 (fun j=>?_);simp only [DR,if_true,I.Ep,AA] at j;(repeat' refine wQ ?_<;>simp only [AA,go_sem]);refine lpK (fun (i:Nat)=>[(8,A1 i)]) (fun _=>A) (fun i=>i<=l.length/\∀x∈l.take i,p x=false) (fun i=>l.length - i) ?_ 0 ⟨by simp,by simp⟩;rintro i ⟨s,b⟩ r;by_cases a:i < l.length
 . obtain ⟨x,h⟩:=Ak a;have f:=Au (J:=XB) h;have e:IntKind.i64.wrap ((i:Int)+1)=((i+1:Nat):Int):=by grind [B2]
   have c:=q x (AE h);cases g:p x with
   |true=>
    rw [g] at c;have m:=Cn b h g;obtain ⟨k,us⟩:=x;simp only [XB,AB,AJ] at f c;(repeat' (first|refine wP ?_|(refine ⟨fid,[],Ae,rfl,o,AN.det c ?_ (by simp [d,CY])⟩)|fail)<;>try simp only [BI a,f,go_sem]);rw [m];rfl
   |false=>
    rw [g] at c;have n:=Ea b h g;obtain ⟨k,us⟩:=x;simp only [XB,AB,AJ] at f c;(repeat' (first|refine wQ ?_|(refine ⟨fid,[],Ae,rfl,o,AN.det c ?_ (by simp [d,CY])⟩)|fail)<;>try simp only [BI a,f,e,go_sem]);exact r (i+1) ⟨by omega,n⟩ (by omega)
 . (repeat' refine wP ?_<;>simp only [B5 a,go_sem]);rw [AR (by omega)] at b;rw [Co b];rfl
theorem K7:∀(s:Nat) (e:Ex),e.size<=s->s<=100000->∀A,AS Tzp 97 [exA e] A (fun v H=>v= .d (.int .i64 ((e.size:Nat):Int))/\H=A)
 |0,e,Q,_,_=>by have:=e.size_pos;omega
 |s+1,.mk o n u ns ks al,Q,Y,A=>by
  simp only [Ex.size] at Q;have N:ks.length<=100000:=by have:=Ex.CL ks;omega
  have L:al.length<=100000:=by have:=Al.NI al;omega
  refine rH.go ?_;rw [Dx,Ex.size];simp only [exA,Ex.A6,AB,AJ];(repeat' refine wQ ?_<;>simp only [AA,go_sem]);refine lpK (fun (y:Nat×Nat)=>[(3,A1 (y.2:Nat)),(11,A1 (y.1:Nat))]) (fun _=>A) (fun y=>y.1<=ks.length/\y.2=1+Ex.AQ (ks.take y.1)) (fun y=>ks.length - y.1) ?_ (0,1) ⟨by simp,by simp [Ex.AQ]⟩;rintro ⟨i,q⟩ ⟨R,P⟩ t;simp only at R P;by_cases c:i < ks.length
  . obtain ⟨x,g⟩:=Ak c;have k:=Au (J:=Ex.J) g;have d:=wS i;have r:=Ex.MA (AE g);obtain ⟨m,p⟩:=Ex.Ck g;have j:=K7 s x (by omega) (by omega) A;have f:IntKind.i64.wrap ((q:Int)+((x.size:Nat):Int))=((q+x.size:Nat):Int):=wrap_add (by omega);have b:=t (i+1,q+x.size) ⟨by simp only;omega,by simp only;omega⟩ (by simp only;omega);generalize x.size=z at *;obtain ⟨T,S,U,K,G,B⟩:=x;simp only [exA,Ex.A6,AB,AJ] at k j;(repeat' (first|refine wQ ?_|refine AN.det (j) ?_|fail)<;>try simp only [BI c,k,d,f,go_sem]);exact b
  . rw [AR (by omega)] at P;clear t;(repeat' refine wQ ?_<;>simp only [B5 c,AA,go_sem]);refine lpK (fun (y:Nat×Nat)=>[(3,A1 (y.2:Nat)),(23,A1 (y.1:Nat))]) (fun _=>A) (fun y=>y.1<=al.length/\y.2=q+Al.AQ (al.take y.1)) (fun y=>al.length - y.1) ?_ (0,q) ⟨by simp,by simp [Al.AQ]⟩;rintro ⟨F,w⟩ ⟨D,l⟩ t;simp only at D l;by_cases a:F < al.length
    . obtain ⟨x,g⟩:=Ak a;have k:=Au (J:=Al.J) g;have d:=wS F;have r:=Al.MA (AE g);obtain ⟨m,p⟩:=Al.Ck g;obtain ⟨Z,xvs,h⟩:=x;rw [Al.size] at r m p;have j:=K7 s h (by omega) (by omega) A;have f:IntKind.i64.wrap ((w:Int)+((h.size:Nat):Int))=((w+h.size:Nat):Int):=wrap_add (by omega);have b:=t (F+1,w+h.size) ⟨by simp only;omega,by simp only;omega⟩ (by simp only;omega);generalize h.size=z at *;obtain ⟨T,S,U,K,G,B⟩:=h;simp only [exA,Al.A6,Ex.A6,AB,AJ] at k j;(repeat' (first|refine wQ ?_|refine AN.det (j) ?_|fail)<;>try simp only [BI a,k,d,f,go_sem]);exact b
    . rw [AR (by omega)] at l;have E:1+Ex.AQ ks+Al.AQ al=w:=by omega
      rw [E];(repeat' (first|refine wQ ?_|(refine W.By qN (σ2:=A) (X.le_refl _) ?_)|fail)<;>try simp only [B5 a,go_sem])
def plK (a:Nat) (ks:List Ex):List Nat:=(Aj ks.length).map fun i=>a+1+Ex.AQ (ks.take i)
def plA (a:Nat) (ks:List Ex) (al:List Al):List Nat:=(Aj al.length).map fun i=>a+1+Ex.AQ ks+Al.AQ (al.take i)
theorem ASF {a:Nat} {ks:List Ex} {i:Nat} (h:i < ks.length):(plK a ks)[i]?=some (a+1+Ex.AQ (ks.take i)):=by simp [plK,h]
theorem AZN {a:Nat} {ks:List Ex} {al:List Al} {i:Nat} (h:i < al.length):(plA a ks al)[i]?=some (a+1+Ex.AQ ks+Al.AQ (al.take i)):=by simp [plA,h]
theorem y9 {α:Type} (f:Nat->α) (n:Nat):(Aj (n+1)).map f=(Aj n).map f++[f n]:=by rw [Cq,A4];rfl
theorem Pt (o:Int) (n:M) (u:Int) (ns:List M) (ks:List Ex) (al:List Al) (a:Nat) (U:a+(Ex.mk o n u ns ks al).size<=100000) (A:X):
 AS Tzp 50 [exA (.mk o n u ns ks al),.d (.int .i64 (a:Int))] A (fun v H=>v= .tup [.d (.sl ((plK a ks).map Ba)),.d (.sl ((plA a ks al).map Ba))]/\H=A):=by
 simp only [Ex.size] at U;have P:ks.length<=100000:=by have:=Ex.CL ks;omega
 have N:al.length<=100000:=by have:=Al.NI al;omega
 refine rD.go ?_;rw [B4];simp only [exA,Ex.A6,AB,AJ];have F:=wS a;(repeat' refine wQ ?_<;>simp only [AA,F,go_sem])
 refine lpK (fun (y:Nat×I×X)=>[(4,y.2.1),(6,A1 ((a+1+Ex.AQ (ks.take y.1):Nat):Int)),(16,A1 (y.1:Nat))]) (fun y=>y.2.2)
  (fun y=>y.1<=ks.length/\Bn A tkI 1 (((Aj y.1).map fun i=>a+1+Ex.AQ (ks.take i)).map Ba) y.2.1 y.2.2) (fun y=>ks.length - y.1) ?_ (0,.Ac,A) ⟨by simp,Bn.nil A tkI 1⟩
 rintro ⟨i,v,V⟩ ⟨T,f⟩ t;simp only at T f;by_cases g:i < ks.length
 . obtain ⟨x,r⟩:=Ak g;have h:=Au (J:=Ex.J) r;have d:=wS i;obtain ⟨p,q⟩:=Ex.Ck r;have m:=fun A=>K7 100000 x (by omega) (by omega) A;have e:IntKind.i64.wrap (((a+1+Ex.AQ (ks.take i):Nat):Int)+((x.size:Nat):Int))=((a+1+Ex.AQ (ks.take (i+1)):Nat):Int):=by rw [wrap_add (by omega)];omega
   have E:=y9 (fun i=>a+1+Ex.AQ (ks.take i)) i;generalize x.size=z at *;obtain ⟨Z,Y,u1,K,G,B⟩:=x;simp only [exA,Ex.A6,AB,AJ] at h m;(repeat' refine wQ ?_<;>simp only [BI g,h,f.w4,go_sem]);refine DH.own f rfl (by simp) (by simp;omega) (by omega) (fun Q s b R=>?_);simp only [go_sem];(repeat' (first|refine wQ ?_|refine AN.det (m _) ?_|fail)<;>try simp only [d,e,go_sem]);refine t ⟨i+1,Q,s⟩ ⟨by simp only;omega,?_⟩ (by simp only;omega);simp only;rw [E,A4];exact b
 . have j:i=ks.length:=by omega
   subst j;clear t;(repeat' refine wQ ?_<;>simp only [B5 g,Ar,AA,go_sem])
   refine lpK (fun (y:Nat×I×X)=>[(5,y.2.1),(6,A1 ((a+1+Ex.AQ ks+Al.AQ (al.take y.1):Nat):Int)),(32,A1 (y.1:Nat))]) (fun y=>y.2.2)
    (fun y=>y.1<=al.length/\Bn A tkI 1 (((Aj y.1).map fun i=>a+1+Ex.AQ ks+Al.AQ (al.take i)).map Ba) y.2.1 y.2.2) (fun y=>al.length - y.1) ?_ (0,.Ac,V) ⟨by simp,(Bn.nil V tkI 1).base f.le⟩
   rintro ⟨l,Q,s⟩ ⟨D,b⟩ t;simp only at D b;by_cases c:l < al.length
   . obtain ⟨x,r⟩:=Ak c;have h:=Au (J:=Al.J) r;have d:=wS l;obtain ⟨p,q⟩:=Al.Ck r;obtain ⟨xc,xvs,w⟩:=x;rw [Al.size] at p q;have m:=fun A=>K7 100000 w (by omega) (by omega) A;have e:IntKind.i64.wrap (((a+1+Ex.AQ ks+Al.AQ (al.take l):Nat):Int)+((w.size:Nat):Int))=((a+1+Ex.AQ ks+Al.AQ (al.take (l+1)):Nat):Int):=by rw [wrap_add (by omega)];omega
     have E:=y9 (fun i=>a+1+Ex.AQ ks+Al.AQ (al.take i)) l;generalize w.size=z at *;obtain ⟨Z,Y,u1,K,G,B⟩:=w;simp only [exA,Al.A6,Ex.A6,AB,AJ] at h m;(repeat' refine wQ ?_<;>simp only [BI c,h,f.w4,b.w4,go_sem]);refine DH.own b rfl (by simp) (by simp;omega) (by omega) (fun v3 L k S=>?_);simp only [go_sem];(repeat' (first|refine wQ ?_|refine AN.det (m _) ?_|fail)<;>try simp only [d,e,go_sem]);refine t ⟨l+1,v3,L⟩ ⟨by simp only;omega,?_⟩ (by simp only;omega);simp only;rw [E,A4];exact k
   . have j:l=al.length:=by omega
     subst j;(repeat' (first|refine wQ ?_|(refine W.By qI b.le ?_)|fail)<;>try simp only [B5 c,f.w4,f.plain,b.w4,b.plain,go_sem]);rfl
theorem AUQ (c:Con) (nm:M) (j:Nat) (V:X) (a:V.C j=some [.d (.str nm)]):AS Tzp 103 [.agg (c.J.map I.d),.gp j 0] V (fun v H=>v= .d (.bool (c.name==nm))/\H=V):=by
 refine NA.go ?_;rw [B4];obtain ⟨n,l⟩:=c;simp only [Con.J,AB,AJ];(repeat' refine wP ?_<;>simp only [a,CZ,go_sem])
theorem pU (B:LB) (fl:Bool) (cv vv m p nv:I) (A:X) (i:A.C B.i=some (lgC B fl cv vv m p nv)) (t:Ty) (nm:M) {D:Dat} (b:0<=t.num) (l:B.dt[t.num.toNat]?=some D):
 AS Tzp 55 [.gp B.i 0,tyA t,.d (.str nm)] A (fun v H=>(∃x,v= .d (.int .i64 x))/\H=A):=by
 have h:=NX l;have d:=fun j σ1 f=>fL (fid:=103) (Ae:=[.gp j 0]) (by kernel_rfl) rfl (fun c=>c.name==nm) D.cons σ1 (fun x _=>AUQ x nm j σ1 f);have a:(t.num < (B.dt.length:Int))=True:=by grind
 refine O8.go ?_;rw [DN];obtain ⟨k,n,us⟩:=t;simp only [Ty.num] at b l a h;simp only [tyA,Ty.J,AB,AJ];unfold lgC at i;(repeat' refine wQ ?_<;>simp only [go_sem]);intro j f;have g:B.i≠j:=fun e=>by grind
 have o:=d j (A.AI j [Gb nm]) BB;simp only [if_neg g,i,b,h,if_true,go_sem];(repeat' (first|refine wQ ?_|(refine W.By O6 (Bf f) ?_)|refine AN.det (o) ?_|fail)<;>try simp only [go_sem]);exact ⟨_,rfl⟩
abbrev fEq:FuncId:=193
mutual
def eqT:Ty->Ty->Bool
 | .mk k n l,.mk k' n' l'=>(k==k')&&(n==n')&&R6 l l'
def R6:List Ty->List Ty->Bool
 |[],[]=>true
 |t::l,u::m=>eqT t u&&R6 l m
 |_,_=>false
end
theorem qB:∀ {a b c d:List Ty},a.length=c.length->R6 (a++b) (c++d)=(R6 a c&&R6 b d)
 |[],_,[],_,_=>by simp [R6]
 |[],_,_::_,_,h=>by simp at h
 |_::_,_,[],_,h=>by simp at h
 |t::a,b,u::c,d,h=>by simp only [AU,R6,qB (by simpa using h:a.length=c.length),Bool.and_assoc]
theorem ADS:∀ {a b:List Ty},a.length≠b.length->R6 a b=false
 |[],[],h=>absurd rfl h
 |[],_::_,_=>rfl
 |_::_,[],_=>rfl
 |t::a,u::b,h=>by rw [R6,ADS (fun e=>h (by simp [e])),Hg]
mutual
theorem AQE:∀t:Ty,eqT t t=true
 | .mk k n l=>by rw [eqT,hY l];simp
theorem hY:∀l:List Ty,R6 l l=true
 |[]=>rfl
 |t::l=>by rw [R6,AQE t,hY l];rfl
end
theorem WJ (l m:List Ty) (z:l.length<=1000000000) (A:X) (y:∀x∈l,∀u,AS Tzp 193 [tyA x,tyA u] A (fun v H=>v= .d (.bool (eqT x u))/\H=A)):
 AS Tzp 192 [.d (.sl (l.map Ty.J)),.d (.sl (m.map Ty.J)),.fn 193 [] []] A (fun v H=>v= .d (.bool (R6 l m))/\H=A):=by
 have w:CP Tzp 193=true:=by kernel_rfl
 refine Pd.go ?_;rw [DN];by_cases h:l.length=m.length
 . have d:(((l.length:Nat):Int) != ((m.length:Nat):Int))=false:=by simp [h]
   (repeat' refine wQ ?_<;>simp only [AA,d,go_sem]);refine lpK (fun (i:Nat)=>[(17,A1 i)]) (fun _=>A) (fun i=>i<=l.length/\R6 (l.take i) (m.take i)=true) (fun i=>l.length - i) ?_ 0 ⟨by simp,by simp [R6]⟩;rintro i ⟨F,q⟩ B;by_cases a:i < l.length
   . obtain ⟨x,r⟩:=Ak a;obtain ⟨u,s⟩:=Ak (show i < m.length by omega);have c:=Au (J:=Ty.J) r;have b:=Au (J:=Ty.J) s;have o:=wS i;have g:=y x (AE r) u;have j:(l.take i).length=(m.take i).length:=by simp;omega
     have f:R6 l m=(R6 (l.take i) (m.take i)&&R6 (l.drop i) (m.drop i)):=by grind [qB,Am]
     have e:R6 (l.take (i+1)) (m.take (i+1))=(R6 (l.take i) (m.take i)&&eqT x u):=by
      rw [Aa r,Aa s,qB j];simp [R6]
     rw [Cs r,Cs s,R6,q] at f;rw [q] at e;cases p:eqT x u with
     |true=>
      rw [p] at g e;obtain ⟨k,n,us⟩:=x;obtain ⟨D,E,t⟩:=u;simp only [tyA,Ty.J,AB,AJ] at g c b;(repeat' (first|refine wQ ?_|(refine ⟨fEq,[],[],rfl,w,AN.det g ?_ (by simp [CY])⟩)|fail)<;>try simp only [BI a,c,b,o,go_sem]);exact B (i+1) ⟨by omega,e⟩ (by omega)
     |false=>
      rw [p] at g f;obtain ⟨k,n,us⟩:=x;obtain ⟨D,E,t⟩:=u;simp only [tyA,Ty.J,AB,AJ] at g c b;(repeat' (first|refine wQ ?_|(refine ⟨fEq,[],[],rfl,w,AN.det g ?_ (by simp [CY])⟩)|(refine W.By IQ (X.le_refl A) ?_)|fail)<;>try simp only [BI a,c,b,go_sem]);rw [f];rfl
   . rw [AR (by omega),AR (by omega)] at q;(repeat' (first|refine wQ ?_|(refine W.By IQ (X.le_refl A) ?_)|fail)<;>try simp only [B5 a,go_sem]);rw [q]
 . have d:(((l.length:Nat):Int) != ((m.length:Nat):Int))=true:=by simp;omega
   (repeat' refine wP ?_<;>simp only [AA,d,go_sem]);rw [ADS h]
theorem ACI:∀(N:Nat) (t u:Ty) (A:X),t.size<=N->N<=1000000->AS Tzp 193 [tyA t,tyA u] A (fun v H=>v= .d (.bool (eqT t u))/\H=A):=by
 intro N
 induction N with
 |zero=>intro t u A h;have:=bU t;omega
 |succ N e=>
  rintro ⟨k,n,l⟩ ⟨f,i,g⟩ A h j;have m:=Ty.CL l;simp only [Ty.size] at h;have b:=WJ l g (by omega) A (fun x d u=>e x u A (by have:=Ty.EJ d;omega) (by omega));rw [<- Ty.BQ,<- Ty.BQ] at b;refine rM.go ?_;rw [B4,eqT];simp only [tyA,Ty.J,AB,AJ];cases a:(k==f) with
  |false=>(repeat' refine wP ?_<;>simp only [a,go_sem])
  |true=>
   cases c:(n==i) with
   |false=>(repeat' refine wP ?_<;>simp only [a,c,go_sem])
   |true=>(repeat' (first|refine wP ?_|refine AN.det (b) ?_|fail)<;>try simp only [a,c,go_sem])
def eqI (x y:Ed):Bool:=(x.1==y.1)&&R6 x.2 y.2
theorem AO7 (x y:Ed) (h:∀t∈x.2,t.size<=1000) (g:x.2.length<=1000000000) (j:Nat) (A:X) (b:A.C j=some [.d (.int .i64 x.1),.d (.sl (x.2.map Ty.J))]):AS Tzp 191 [.agg ((XB y).map I.d),.gp j 0] A (fun v H=>v= .d (.bool (eqI x y))/\H=A):=by
 have e:=WJ x.2 y.2 g A (fun z i u=>ACI 1000 z u A (h z i) (by omega));refine iQ.go ?_;rw [B4];obtain ⟨f,a⟩:=x;obtain ⟨d,k⟩:=y;simp only [XB,AB,AJ,eqI] at *;cases c:(f==d) with
 |false=>(repeat' refine wP ?_<;>simp only [c,b,go_sem])
 |true=>(repeat' (first|refine wP ?_|refine AN.det (e) ?_|fail)<;>try simp only [c,b,go_sem])
theorem AT9 (l:List Ed) (x:Ed) (g:∀t∈x.2,t.size<=1000) (e:x.2.length<=1000000000) (A:X):AS Tzp 154 [.d (.sl (l.map XB)),.agg ((XB x).map I.d)] A (fun v H=>v= .d (.int .i64 (Hq (l.findIdx? (eqI x))))/\H=A):=by
 have b:=fun j σ1 c=>fM (fid:=191) (Ae:=[.gp j 0]) (by kernel_rfl) rfl (eqI x) l σ1 (fun y _=>AO7 x y g e j σ1 c);refine rF.go ?_;rw [B4];obtain ⟨f,a⟩:=x;simp only [XB,AB,AJ] at b ⊢;(repeat' refine wQ ?_<;>simp only [go_sem]);intro j c;have d:=b j (A.AI j [A1 f,BU (a.map Ty.J)]) BB;(repeat' (first|refine wQ ?_|(refine W.By qL (Bf c) ?_)|refine AN.det (d) ?_|fail)<;>try simp only [go_sem])
section
def AG6 (B:LB) (nt:List Nte) (nm:M) (a:Nat):Int:=match B.p.Ca.findIdx? (fun f=>f.name==nm) with
 |some f=>Hq (B.ins.findIdx? (eqI ((f:Int),(nt.getD a (.mk 0 0 [],[])).2)))
 |none=>-1
theorem gS (B:LB) (fl:Bool) (cv vv z K:I) (A:X) (nt:List Nte) (g:A.C B.i=some (lgC B fl cv vv z K (.d (.sl (nt.map Cf))))) (o:ALO B nt) (nm:M) (a:Nat) (u:a < nt.length) (Y:B.p.Ca.length<=24):
 AS Tzp 101 [.gp B.i 0,.d (.str nm),.d (.int .i64 (a:Int))] A (fun v H=>v= .d (.int .i64 (AG6 B nt nm a))/\H=A):=by
 obtain ⟨n,D⟩:=Ak u;have e:(nt.map Cf)[a]?=some (Cf n):=by grind
 have m:nt.getD a (.mk 0 0 [],[])=n:=by grind
 obtain ⟨E,l⟩:=o;obtain ⟨_,y,k⟩:=l n (AE D);have j:((a:Int) < ((nt.length:Nat):Int))=True:=ltT u;unfold lgC at g;unfold AG6;rw [m];obtain ⟨⟨n1,n2,n3⟩,L⟩:=n;simp only at y k ⊢;simp only [Cf,Ty.J,AU,A3] at e;refine U4.go ?_;(repeat' refine wQ ?_<;>simp only [g,AA,go_sem]);refine lpK (fun (i:Nat)=>[(14,A1 i)]) (fun _=>A) (fun i=>i<=B.p.Ca.length/\∀x∈B.p.Ca.take i,(x.name==nm)=false) (fun i=>B.p.Ca.length - i) ?_ 0 ⟨by simp,by simp⟩;rintro i ⟨Z,c⟩ G;by_cases b:i < B.p.Ca.length
 . obtain ⟨x,s⟩:=Ak b;have h:=Au (J:=FE.J) s;have r:=wS i;have w:=AT9 B.ins ((i:Int),L) (fun t F=>by have:=y t F;simp only [Fg,AM,decide_eq_true_eq] at this;omega) (by simp only;omega) A;simp only [XB,AB,AJ] at w;cases d:(x.name==nm) with
   |true=>
    rw [Cn (p:=fun f:FE=>f.name==nm) c s d];obtain ⟨T,U,xo,N,P,Q,R,S⟩:=x;simp only [FE.J,Ex.A6] at h d;(repeat' (first|refine wQ ?_|(refine W.By LD (X.le_refl A) ?_)|refine AN.det (w) ?_|fail)<;>try simp only [BI b,h,g,d,CZ,e,go_sem])
   |false=>
    have q:=Ea (p:=fun f:FE=>f.name==nm) c s d;obtain ⟨T,U,xo,N,P,Q,R,S⟩:=x;simp only [FE.J,Ex.A6] at h d;(repeat' refine wQ ?_<;>simp only [BI b,h,g,d,r,CZ,go_sem]);exact G (i+1) ⟨by omega,q⟩ (by omega)
 . rw [AR (by omega)] at c;rw [Co (p:=fun f:FE=>f.name==nm) c];(repeat' (first|refine wQ ?_|(refine W.By LD (X.le_refl A) ?_)|fail)<;>try simp only [B5 b,go_sem])
variable {B:LB} {O A:X} {S:LSt}
def LSt.Nb (S:LSt) (c:Cd) (j:Jb):LSt:= { S with Bw:=S.Bw++[c],JO:=S.JO++[j]}
theorem SOK.Nb {c:Cd} {j:Jb} (h:SOK B S) (d:c.res.size<=200) (b:zT B S.vars.length j) (e:S.Bw.length < 64):SOK B (S.Nb c j):=by
 refine ⟨fun x a=>?_,h.vz,fun x a=>?_,by simp [LSt.Nb,h.cj],by simp [LSt.Nb];omega,h.nt⟩
 . rcases A2.1 a with a|a
   . exact h.jb x a
   . simp only [A9] at a;rw [a];exact b
 . rcases A2.1 a with a|a
   . exact h.cz x a
   grind
theorem AS6 (us:List Ty) (r:Ty):Z3 (Ty.Cz (us++[r])) none (some (.d (.int .i64 ((us.length:Nat):Int)))) none 3=some (.d (.sl (Ty.Cz us))):=by
 have a:Y4 (Ty.Cz (us++[r])) 3=true:=by
  unfold Y4;rw [Ao,Ty.BQ];intro x b;obtain ⟨⟨k,n,l⟩,_,rfl⟩:=BR.1 b;rfl
 simp [Z3,fZ,Vm,Ty.BQ]
theorem LG.Nb {V σ2:X} {cv vv ev ja nv cv' ja':I} {c:Cd} {j:Jb} (h:LG B O A S cv vv ev ja nv) (e:SOK B (S.Nb c j)) (n:MsL O V B.i [⟨tkC,7,S.Bw.length+1,rwC Cd.row S.Bw++c.row,cv'⟩,mwV S vv,mwX S ev])
 (a:HX O (⟨tkJ,12,S.JO.map Jb.J++[j.J],ja'⟩::S.xs.map XE.ow) σ2) (f:List I) (m:∀i,σ2.C i=(V.AI B.i f).C i):LG B O (σ2.AI B.i (lgC B S.fl cv' vv ev ja' nv)) (S.Nb c j) cv' vv ev ja' nv:=by
 refine ⟨by rw [AD,if_pos rfl];rfl,?_,?_,B6 a.head.le h.i0,h.i0,h.rv,h.nv,e⟩
 . have g:=(n.wY f).Ee (V:=σ2) fun _ _ k _ _=>m k;have l:=g.wY (lgC B S.fl cv' vv ev ja' nv);have d:(S.Nb c j).Bw.length=S.Bw.length+1:=by simp [LSt.Nb]
   have b:rwC Cd.row (S.Nb c j).Bw=rwC Cd.row S.Bw++c.row:=by simp [LSt.Nb,rwC]
   unfold mwC;rw [d,b];exact l
 . have:(S.Nb c j).JO.map Jb.J=S.JO.map Jb.J++[j.J]:=by simp [LSt.Nb]
   rw [this];exact a.set h.i0 _
theorem yM (k n:Int) (us:List Ty) (r:Ty) (o:Int) (nm:M) (u:Int) (ns:List M) (ks:List Ex) (al:List Al) (at_:Nat) (g:List Nte) (e:List M) (types:DV) (Ae:List (M×Int)) (callee:Int) (hj:zT B S.vars.length ⟨.mk o nm u ns ks al,at_,g,e,us,Ae,callee⟩) (h4:us.length<=100) (hr:r.size<=200) {cv vv ev ja nv:I} (h:LG B O A S cv vv ev ja nv):
 AS Tzp 100 [.gp B.i 0,tyA (.mk k n (us++[r])),.agg [.d (.int .i64 o),.d (.str nm),.d (.int .i64 u),.d (.sl (ns.map CG)),.d (.sl (ks.map Ex.J)),.d (.sl (al.map Al.J)),.d (.int .i64 (at_:Int)),.d (.sl (g.map Cf)),.d (.sl (e.map CG)),.d types,.d (.sl (Ae.map Sk)),.d (.int .i64 callee)]] A
  (fun v H=>(∃x,v= .d (.int .i64 x))/\∃S' cv' ja',LG B O H S' cv' vv ev ja' nv/\S'.xs=S.xs/\S'.vars=S.vars/\S'.nt=S.nt/\∀(i:Nat) (x:Cd),S.Bw[i]?=some x->S'.Bw[i]?=some x):=by
 have p:=h.bi;obtain ⟨f,_,_⟩:=h.cel;have d:=h.ok;have h0:=d.c64;have L:=AS6 us r;have h6:(Ty.Cz (us++[r])).length=us.length+1:=by simp [Ty.BQ]
 have P:IntKind.i64.wrap (((Ty.Cz (us++[r])).length:Int) - 1)=((us.length:Nat):Int):=by grind [B2]
 have y:(Ty.Cz (us++[r]))[us.length]?=some r.J:=by simp [Ty.BQ]
 have R:=fun A=>gX r (by omega) A;refine U8.go ?_;rw [DN];obtain ⟨rk,rn,rl⟩:=r;simp only [tyA,Ty.J,AB,AJ] at R y ⊢;have E:=h.gi;by_cases hl:S.Bw.length < 64
 . have t:(((S.Bw.length:Nat):Int)>=64)=False:=by simp;omega
   have h5:=d.cj;have b:=h.ow.head;simp only at b;have s:=fun cv' ja' (V σ2:X) T K q hb=>h.Nb (c:=⟨[],BU [],BU [],.mk rk rn rl,0⟩) (j:=⟨.mk o nm u ns ks al,at_,g,e,us,Ae,callee⟩) (cv':=cv') (ja':=ja') (V:=V) (σ2:=σ2) (d.Nb hr hj hl) K q T hb;simp only [Jb.J,Ex.A6,AU,A3] at s;unfold lgC at p;(repeat' refine wQ ?_<;>simp only [p,f.cell,f.len,t,decide_false,P,L,y,go_sem]);refine ⟨?_,?_⟩<;>
   . refine AN.mk rfl (R _) ?_;rintro _ _ ⟨rfl,rfl⟩;simp only [p,f.cell,go_sem];refine JU.row (m:=mwC S cv) h.ms h.le E rfl (by simp [mwC]) (by simp) (by simp only [mwC,AT,A8];omega) (by omega) (by simp [mwC]) (fun jb V K z F N=>?_);rw [p] at z;simp only [mwC,AT,A8,Av];simp only [z,AD,if_true,b.cell,go_sem];(repeat' refine wQ ?_<;>simp only [z,AD,if_true,b.cell,b.BS,b.cells,b.Cp,go_sem]);refine DH.AV2 (cx:=Eb) (O:=O) (l:=S.xs.map XE.ow) ((h.ow.AET F N).set h.i0 _) rfl (by simp) (by simp;omega) (by omega) (fun ja' σ2 q w=>?_);have Q:=s _ ja' V σ2 _ K q w;have a:=q.head;have D:=w B.i;rw [AD,if_pos rfl] at D;simp only at a;unfold lgC at Q;simp only [D,AD,if_true,a.cell,a.cells,go_sem];(repeat' refine wP ?_<;>simp only [if_true,go_sem]);exact ⟨⟨_,rfl⟩,_,_,_,Q,rfl,rfl,rfl,fun i x h=>Ic h _⟩
 . have t:(((S.Bw.length:Nat):Int)>=64)=True:=by simp;omega
   have G:LG B O (A.AI B.i (lgC B true cv vv ev ja nv)) { S with fl:=true} cv vv ev ja nv:=by
    obtain ⟨U,Y,Z⟩:=h.wY (lgC B true cv vv ev ja nv);exact ⟨BB,U,Y,Z,h.i0,h.rv,h.nv,⟨d.jb,d.vz,d.cz,d.cj,d.c64,d.nt⟩⟩
   unfold lgC at p G;(repeat' refine wP ?_<;>simp only [p,f.cell,f.len,t,decide_true,go_sem])
   grind
end
section
variable {B:LB} {O A V:X} {S:LSt} {cv vv ev ja nv:I}
theorem LG.ex (h:LG B O A S cv vv ev ja nv) {i:Nat} {x:XE} (f:S.xs[i]?=some x):∃j,ev= .ms j S.xs.length 8 tkX/\A.C j=some (rwC XE.row S.xs)/\O.C j=none/\B.i≠j:=by
 have d:=(AG.1 f).1;rcases (h.ms.1 (mwX S ev) (by simp)).2 with ⟨a,_⟩|⟨_,j,a,b,c⟩
 . simp only [mwX] at a;omega
 . refine ⟨j,a,b,c,fun e=>?_⟩;have:=(BZ.1 h.ms.2).1 (mwX S ev).v (by simp);exact this B.i rfl (by rw [a,e];rfl)
theorem LG.DM {i j:Nat} {f:XE->XE} (h:LG B O A S cv vv ev ja nv) (g:∀b,V.C b=A.C b) (c:HX O (⟨tkJ,12,S.JO.map Jb.J,ja⟩::(S.DM i f).xs.map XE.ow) V) (q:∀x∈(S.DM i f).xs,RvX x)
 (p:ev= .ms j S.xs.length 8 tkX) (a:O.C j=none) (d:B.i≠j):LG B O (V.AI j (rwC XE.row (S.DM i f).xs)) (S.DM i f) cv vv ev ja nv:=by
 have l:=h.ms.Ee (V:=V) fun _ _ k _ _=>g k;have m:MsL O V B.i [mwX S ev,mwC S cv,mwV S vv]:=l.perm ((Fw _ _ _).cons _|>.trans (Fw _ _ _));have n:=m.AS0 (j:=j) (by simp only [mwX];exact p) (cs:=rwC XE.row (S.DM i f).xs) (by simp only [mwX];rw [Dd XE.row 8 XE.Bj,Dd XE.row 8 XE.Bj,Im]);have o:=n.perm ((Fw _ _ _).trans ((Fw _ _ _).cons _));refine ⟨by rw [AD,if_neg d,g];exact h.bi,?_,c.set a _,B6 c.head.le a,h.i0,q,h.nv,⟨h.ok.jb,h.ok.vz,h.ok.cz,h.ok.cj,h.ok.c64,h.ok.nt⟩⟩;have e:mwX (S.DM i f) ev= { mwX S ev with cells:=rwC XE.row (S.DM i f).xs}:=by unfold mwX;rw [Im]
 rw [e];exact o
def adK (k:Nat) (kv:I) (x:XE):XE:= { x with kids:=x.kids++[k],kv:=kv}
theorem e8 {α:Type} {l:List α} {i:Nat} {x:α} (h:l[i]?=some x):∃a b,l=a++x::b/\∀f:α->α,l.modify i f=a++f x::b:=by
 induction l generalizing i with
 |nil=>simp at h
 |cons y l c=>
  cases i with
  |zero=>simp at h;subst h;exact ⟨[],l,rfl,fun f=>rfl⟩
  |succ i=>
   grind
theorem DH.kid {K:CV} {F:Fm} {L:Lm} {d:Option Nat} {i k bytes:Nat} {x:XE} (h:LG B O A S cv vv ev ja nv) (s:S.xs[i]?=some x) (t:x.kids.length<=100000000) (f:bytes<=10000) {j:Nat} (r:ev= .ms j S.xs.length 8 tkX) (l:O.C j=none) (m:B.i≠j)
 (q:∀kv V,Bn O tkI 1 ((x.kids++[k]).map Ba) kv V->(∀b,V.C b=A.C b)->LG B O (V.AI j (rwC XE.row (S.DM i (adK k kv)).xs)) (S.DM i (adK k kv)) cv vv ev ja nv->K (BW d kv F) L V):DH tkI 1 bytes x.kv (.d (.sl [[.int .i64 (k:Int)]])) d K F L A:=by
 obtain ⟨a,b,g,o⟩:=e8 s;have e:=h.ow;rw [g,A4,AB,<- AU] at e;refine DH.AV2 (cx:=GL) e.front rfl (by simp) (by grind) f (fun kv V p f=>?_)
 have n:HX O (⟨tkJ,12,S.JO.map Jb.J,ja⟩::(S.DM i (adK k kv)).xs.map XE.ow) V:=by
  show HX O (_::(S.xs.modify i (adK k kv)).map XE.ow) V;rw [o,A4,AB,<- AU];refine HX.back ?_;simpa [XE.ow,adK,Ba] using p
 refine q kv V (by simpa [Ba] using p.head) f (h.DM f n (fun y c=>?_) r l m);have c:y∈S.xs.modify i (adK k kv):=c;rw [o] at c;rcases A2.1 c with c|c
 . exact h.rv y (by grind)
 . rcases Ah.1 c with rfl|c
   . exact h.rv x (by rw [g];simp)
   . exact h.rv y (by rw [g];simp [c])
def EQ (B:LB) (O:X) (S:LSt) (c:Nat) (v:I) (H:X):Prop:=v= .d (.int .i64 (S.xs.length:Int))/\∃S',LH B O H S'/\Ext S S' c/\S.xs.length < S'.xs.length
def N7 (B:LB) (e:Ex):Prop:=∀(a:Nat) (sc:List M) (ch:Ch) (O:X) (S:LSt) (A:X),BF B S.nt a e sc->Cov e sc ch->Ho S.vars.length ch->S.sz+100 * e.size<=50000000->LH B O A S->
 AS Tzp 27 [.gp B.i 0,exA e,.d (.int .i64 (a:Int)),.d (chD ch)] A (EQ B O S (100 * e.size))
theorem bH {e:Ex} (L:N7 B e) (a:Nat) (sc:List M) (ch:Ch) (i:Nat) {x:XE} (U:S.xs[i]?=some x) (hk:x.kids.length<=1000) (Q:BF B S.nt a e sc) (P:Cov e sc ch) (T:Ho S.vars.length ch) (Y:S.sz+100 * e.size<=50000000) (h:LH B O A S):
 AS Tzp 61 [.gp B.i 0,.d (.int .i64 (i:Int)),exA e,.d (.int .i64 (a:Int)),.d (chD ch)] A (fun v H=>v= .tup []/\∃m kv,Ext S m (100 * e.size)/\S.xs.length < m.xs.length/\LH B O H (m.DM i (adK S.xs.length kv))):=by
 have g:=L a sc ch O S A Q P T Y h;refine Xt.go ?_;rw [oT];generalize w:100 * e.size=z at *;clear w;obtain ⟨o,nm,u,ns,ks,al⟩:=e;simp only [exA,Ex.A6,AB,AJ] at g ⊢;(repeat' refine wQ ?_<;>simp only [go_sem]);refine AN.mk rfl g ?_;rintro _ V ⟨rfl,m,⟨cv,vv,ev,ja,nv,t⟩,k,G⟩;have b:=k.le.xs i x U;obtain ⟨j,R,q,D,E⟩:=t.ex b;have l:=t.bi;subst R;unfold lgC at l;have y:=(AG.1 b).1;have s:=ltT y;have c:=tA XE.row 8 XE.Bj 4 b (by omega);have d:=(t.ow.1 x.ow (AZ _ (CU (AE b))));simp only [XE.ow] at d;simp only [XE.row,Bz,A7] at c;have F:(i * 8+4+1<=(rwC XE.row m.xs).length)=True:=by grind
 simp only [l,q,s,c,d.cell,go_sem];refine ⟨?_,?_⟩<;>
 . refine DH.kid t b (by omega) (by omega) rfl D E (fun kv Z f n N=>?_);have p:=(n B.i).trans l;have r:=(n j).trans q;have K:=Of XE.row 8 XE.Bj 4 kv (adK S.xs.length kv) b (by omega) rfl;simp only [p,r,s,F,K,f.cell,f.cells,go_sem];exact W.fin Xn rfl (fun _ _ h=>h) (X.le_refl _) ⟨rfl,m,kv,k,G,_,_,_,_,_,N⟩
end
section
variable {B:LB} {O A V Φ Ψ:X} {S:LSt} {cv vv ev ja nv:I}
theorem Bn.frame {e s:Nat} {rows:List (List DV)} {w:I} (h:Bn Φ e s rows w A) (a:Ψ.le V) (g:∀t,Ψ.tok t=true->Φ.tok t=true) (y:∀t,A.tok t=true->V.tok t=true):Bn Ψ e s rows w V:=by
 obtain ⟨⟨σ1,b,j⟩,_,k,l,m,n,o,p,q⟩:=h;refine ⟨?_,a,k,l,m,n,o,p,q⟩;unfold MT at b ⊢;split at b
 . grind
 . rename_i t x z d;split at b
   . rename_i i;cases b;obtain ⟨r,c2,v⟩:=i;refine ⟨V.Bh t,by grind,⟨a.C,fun u f=>?_,a.gt,a.bt⟩⟩
     have c:u≠t:=fun e=>by
      have:=j.tok u (g u f);simp [X.Bh,e] at this
     simp [X.Bh,c,a.tok u f]
   . cases b
 . cases b
theorem HX.frame {l:List Ow} (h:HX Φ l A) (a:Ψ.le V) (b:∀t,Ψ.tok t=true->Φ.tok t=true) (c:∀t,A.tok t=true->V.tok t=true):HX Ψ l V:=⟨fun x d=>(h.1 x d).frame a b c,h.2⟩
theorem LG.frame {j:Nat} (h:LG B Φ A S cv vv ev ja nv) (a:A.C j=none\/Φ.C j≠none) (l:∀k,k≠j->V.C k=A.C k) (i:∀k,k≠j->Ψ.C k=Φ.C k) (b:Ψ.le V) (d:∀t,Ψ.tok t=true->Φ.tok t=true) (f:∀t,A.tok t=true->V.tok t=true):LG B Ψ V S cv vv ev ja nv:=by
 have c:B.i≠j:=fun e=>by
  rcases a with a|a
  . exact h.gi (by rw [e];exact a)
  . exact a (by rw [<- e];exact h.i0)
 refine ⟨by rw [l _ c];exact h.bi,⟨fun m g=>?_,h.ms.2⟩,h.ow.frame b d f,b,by rw [i _ c];exact h.i0,h.rv,h.nv,h.ok⟩;obtain ⟨k1,n⟩:=h.ms.1 m g;refine ⟨k1,n.imp id ?_⟩
 grind
theorem LH.put {j:Nat} (h:LH B Φ A S) (d:A.C j=none\/Φ.C j≠none) (cs:List I):LH B (Φ.AI j cs) (A.AI j cs) S:=by
 obtain ⟨cv,vv,ev,ja,nv,h⟩:=h;refine ⟨cv,vv,ev,ja,nv,h.frame d (fun k b=>by rw [AD,if_neg b]) (fun k b=>by rw [AD,if_neg b]) ⟨fun k c a=>?_,h.le.tok,h.le.gt,h.le.bt⟩ (fun _ h=>h) fun _ h=>h⟩;rw [AD] at a ⊢;split at a
 . rename_i e;rw [if_pos e];exact a
 . rename_i e;rw [if_neg e];exact h.le.C k c a
theorem LH.del {j:Nat} (h:LH B Φ A S) (d:Φ.C j≠none):LH B (Φ.CM j) (A.CM j) S:=by
 obtain ⟨cv,vv,ev,ja,nv,h⟩:=h;refine ⟨cv,vv,ev,ja,nv,h.frame (.inr d) (fun k b=>by rw [B9,if_neg b]) (fun k b=>by rw [B9,if_neg b]) ⟨fun k c a=>?_,h.le.tok,h.le.gt,h.le.bt⟩ (fun _ h=>h) fun _ h=>h⟩;rw [B9] at a ⊢;split at a
 . cases a
 . rename_i e;rw [if_neg e];exact h.le.C k c a
theorem LH.base (h:LH B Φ A S) (a:O.le Φ):LH B O A S:=by
 obtain ⟨cv,vv,ev,ja,nv,h⟩:=h;have b:O.le A:=⟨fun k c g=>h.le.C k c (a.C k c g),fun t l=>h.le.tok t (a.tok t l),a.gt.trans h.le.gt,fun k x n=>h.le.bt k x (a.bt k x n)⟩;refine ⟨cv,vv,ev,ja,nv,h.bi,⟨fun m i=>?_,h.ms.2⟩,h.ow.frame b a.tok fun _ h=>h,b,le_none a h.i0,h.rv,h.nv,h.ok⟩;obtain ⟨k1,o⟩:=h.ms.1 m i;exact ⟨k1,o.imp id fun ⟨j,k,d,e,f⟩=>⟨j,k,d,e,le_none a f⟩⟩
theorem LH.le (h:LH B Φ A S):Φ.le A:=by
 obtain ⟨cv,vv,ev,ja,nv,h⟩:=h;exact h.le
theorem AKU (jl n jb i:Nat) (u R:Int) (K:Φ.C jl=some [.d (.int .i64 u)]) (Q:Φ.C n=some [.d (.int .i64 R)]) (U:Φ.C jb=some [.gp B.i 0]) (s:jl≠n) (h:LH B Φ A S) (L:u=-1\/∃p x,u=((p:Nat):Int)/\S.xs[p]?=some x/\x.kids.length<=100):
 AS Tzp 98 [.d (.int .i64 (i:Int)),.gp jl 0,.gp n 0,.gp jb 0] A (fun v H=>v= .tup []/\(u=-1->LH B ((Φ.AI n [.d (.int .i64 (i:Int))]).AI jl [.d (.int .i64 (i:Int))]) H S)/\∀p:Nat,u=(p:Int)->∃kv,LH B (Φ.AI jl [.d (.int .i64 (i:Int))]) H (S.DM p (adK i kv))):=by
 have c:=h.le;have y:=c.C _ _ K;have z:=c.C _ _ Q;have D:=c.C _ _ U;refine Pb.go ?_;rw [Ka];rcases L with rfl|⟨p,x,rfl,m,hk⟩
 . have E:decide ((-1:Int) < 0)=true:=by decide
   have N:=(h.put (j:=n) (.inr (by rw [Q];simp)) [A1 i]).put (j:=jl) (.inr (by rw [AD,if_neg s,K];simp)) [A1 i];(repeat' refine wQ ?_<;>simp only [y,z,E,AD,if_neg s,if_true,go_sem]);exact W.fin IP rfl (fun _ _ h=>h) (X.le_refl _) ⟨rfl,N,fun _=>trivial⟩
 . have E:decide (((p:Nat):Int) < 0)=false:=by simp
   obtain ⟨cv,vv,ev,ja,nv,w⟩:=h;obtain ⟨j,Y,o,F,G⟩:=w.ex m;have l:=w.bi;subst Y;unfold lgC at l;have r:=ltT (AG.1 m).1;have b:=tA XE.row 8 XE.Bj 4 m (by omega);have d:=(w.ow.1 x.ow (AZ _ (CU (AE m))));simp only [XE.ow] at d;simp only [XE.row,Bz,A7] at b;have c:(p * 8+4+1<=(rwC XE.row S.xs).length)=True:=by grind
   (repeat' refine wQ ?_<;>simp only [y,D,E,l,o,r,b,d.cell,go_sem]);have t:jl≠j:=fun e=>by grind
   repeat' refine DF ?_ ?_
   all_goals
    refine DH.kid w m (by omega) (by omega) rfl F G (fun kv Z f a T=>?_);have g:=(a B.i).trans l;have k:=(a j).trans o;have f1:=(a jl).trans y;have f2:=(a n).trans z;have f3:=(a jb).trans D;have P:=Of XE.row 8 XE.Bj 4 kv (adK i kv) m (by omega) rfl;have N:=LH.put (j:=jl) ⟨_,_,_,_,_,T⟩ (.inr (by rw [K];simp)) [A1 i];simp only [g,k,f1,f3,r,c,P,f.cell,f.cells,if_true,go_sem];(repeat' refine wQ ?_<;>simp only [f1,AD,if_neg t,if_true,go_sem])
    exact W.fin IP rfl (fun _ _ h=>h) (X.le_refl _) ⟨rfl,fun q hq=>by
     have:p=q:=by omega
     subst this;exact ⟨kv,N⟩⟩
end
section
variable {B:LB} {O A V Φ Ψ:X} {S:LSt}
def vsC (vs:List Int):List I:=vs.map fun v=>I.d (.int .i64 v)
def AGR (B:LB) (O:X) (nt:List Nte) (nv n c:Nat) (fid:FuncId) (Ae:List I):Prop:=∀(Φ:X) (S:LSt) (A:X) (vs:List Int),O.le Φ->LH B Φ A S->S.nt=nt->nv<=S.vars.length->vs.length=n/\vs.length<=100000000->(∀v∈vs,0<=v/\v < (S.vars.length:Int))->S.sz+c<=50000000->
 AS Tzp fid (.d (.sl (vs.map Ez))::Ae) A (EQ B Φ S c)
def XK (n0:Nat) (xs0:List XE) (la fi:Int) (S:LSt):Prop:=(la=-1/\fi=-1/\S.xs=xs0)\/
 ∃p x q,la=((p:Nat):Int)/\fi=(n0:Int)/\n0<=p/\S.xs[p]?=some x/\x.op=7/\x.binds.length=2/\x.kids=[q]/\p < q/\q < S.xs.length/\x.vars=[]/\NFx n0 [p] S
theorem LG.put {cv vv ev ja nv:I} {j:Nat} (h:LG B Φ A S cv vv ev ja nv) (d:A.C j=none\/Φ.C j≠none) (cs:List I):LG B (Φ.AI j cs) (A.AI j cs) S cv vv ev ja nv:=by
 refine h.frame d (fun k b=>by rw [AD,if_neg b]) (fun k b=>by rw [AD,if_neg b]) ⟨fun k c a=>?_,h.le.tok,h.le.gt,h.le.bt⟩ (fun _ h=>h) fun _ h=>h;rw [AD] at a ⊢;split at a
 . rename_i e;rw [if_pos e];exact a
 . rename_i e;rw [if_neg e];exact h.le.C k c a
theorem LH.alt {j:Nat} {x:Nat×Go.TypeId} (h:LH B Φ A S) (g:A.C j=none/\A.bt j=none) (cs:List I):LH B ((Φ.AI j cs).BM j x) ((A.AI j cs).BM j x) S:=by
 obtain ⟨cv,vv,f,i,nv,h⟩:=h;refine ⟨cv,vv,f,i,nv,h.frame (.inl g.1) (fun k d=>by show (A.AI j cs).C k=_;rw [AD,if_neg d]) (fun k d=>by show (Φ.AI j cs).C k=_;rw [AD,if_neg d]) ⟨fun k c a=>?_,h.le.tok,h.le.gt,fun k y b=>?_⟩ (fun _ h=>h) fun _ h=>h⟩
 . have a:(Φ.AI j cs).C k=some c:=a;show (A.AI j cs).C k=some c;rw [AD] at a ⊢;split at a
   . rename_i e;rw [if_pos e];exact a
   . rename_i e;rw [if_neg e];exact h.le.C k c a
 . simp only [X.BM,X.AI] at b ⊢;split at b
   . rename_i e;rw [if_pos e];exact b
   . rename_i e;rw [if_neg e];exact h.le.bt k y b
theorem LH.gi (h:LH B Φ A S):A.C B.i≠none:=by
 obtain ⟨cv,vv,a,b,nv,h⟩:=h;exact h.gi
theorem AR1 {α:Type} (x:α) (f:α->α):∀l:List α,(l++[x]).modify l.length f=l++[f x]
 |[]=>rfl
 |y::l=>by rw [AU,AT,List.modify_succ_cons,AR1 x f l];rfl
def L8 (bs:List (List Int)) (bv:I) (x:XE):XE:= { x with binds:=bs,bv:=bv}
def AB7 (bs:List (List Int)) (bv:I) (t:Ty):XE:=⟨7,0,[],bs,[],t,.Ac,bv,.Ac⟩
theorem AKT (S:LSt) (t u:Ty) (bs:List (List Int)) (bv:I):((S.Cm (D4 7 0 t)).FN u).DM S.xs.length (L8 bs bv)=(S.Cm (AB7 bs bv t)).FN u:=by
 unfold LSt.DM LSt.FN LSt.Cm;simp only [AR1];rfl
theorem APD {S:LSt} {p q n:Nat} {x:XE} {kv:I} (c:x.op=7) (f:x.binds.length=2) (a:x.kids=[q]) (e:x.vars=[]) (h:p < q) (j:q < S.xs.length) (i:p < n) (g:n < S.xs.length):(adK n kv x).nf p S.vars.length S.xs.length:=by
 refine ⟨⟨fun _=>by simp [adK],fun _=>.inl c⟩,by simp [adK,f,a],fun k b=>?_,fun v d=>(by simp [adK,e] at d),by simp [adK,a,e]⟩;simp only [adK,a,AU,A3,Ah,List.not_mem_nil,or_false] at b
 grind
theorem Le.AXS {S T:LSt} {c:Nat} (h:Le S T c) (x:XE) (u:Ty):Le S ((T.Cm x).FN u) (c+2):=by
 refine ⟨fun i y e=>Ic (h.xs i y e) _,?_,?_,h.cs,h.nt,?_⟩
 . have:=h.xl;simp only [LSt.FN,LSt.Cm,A0,AT,A8];omega
 . have:=h.vl;simp only [LSt.FN,LSt.Cm,A0,AT,A8];omega
 . have:=h.bd;grind [LSt.sz,LSt.FN,LSt.Cm,A0,AT,A8]
theorem XK.step {S0 S1:LSt} {c:Nat} {la fi:Int} {t u:Ty} {bs:List (List Int)} {bv:I} (w:XK S0.xs.length S0.xs la fi S1) (B:Le S0 S1 c):
 (la=-1->S1.xs.length=S0.xs.length/\NFx S0.xs.length [S1.xs.length] ((S1.Cm (AB7 bs bv t)).FN u))/\∀p:Nat,la=(p:Int)->fi=(S0.xs.length:Int)/\∃x,((S1.Cm (AB7 bs bv t)).FN u).xs[p]?=some x/\x.kids.length<=100/\p < S1.xs.length/\
   ∀kv,Le S0 (((S1.Cm (AB7 bs bv t)).FN u).DM p (adK S1.xs.length kv)) (c+2)/\NFx S0.xs.length [S1.xs.length] (((S1.Cm (AB7 bs bv t)).FN u).DM p (adK S1.xs.length kv)):=by
 have a:((S1.Cm (AB7 bs bv t)).FN u).xs.length=S1.xs.length+1:=by simp [LSt.FN,LSt.Cm]
 rcases w with ⟨rfl,rfl,g⟩|⟨p,x,q,rfl,rfl,r,g,k,v,o,l,G,F,D⟩
 . refine ⟨fun _=>⟨by rw [g],fun i y m d e=>?_⟩,fun p r=>by omega⟩
   grind
 . refine ⟨fun h=>by omega,fun s E=>?_⟩;have:s=p:=by omega
   subst this;have f:=(AG.1 g).1;refine ⟨rfl,x,Ic g _,by rw [o];simp,f,fun kv=>⟨(B.AXS _ _).DM r _,fun i y m d e=>?_⟩⟩;rw [Im,a];by_cases b:i=s
   . subst b;rw [eJ (Ic g _)] at e;cases e;have:=APD (S:=(S1.Cm (AB7 bs bv t)).FN u) (n:=S1.xs.length) (kv:=kv) k v o F l (by rw [a];omega) f (by rw [a];omega)
     rwa [a] at this
   . rw [nT (A5 b)] at e;simp only [A9] at d;have j:=(AG.1 e).1;rw [a] at j
     have z:S1.xs[i]?=some y:=by
      rw [<- e];exact (Di (by omega)).symm
     exact (D i y m (by simpa using b) z).mono (by simp [LSt.DM,LSt.FN,LSt.Cm]) (by omega)
theorem XK.kid {S0 S4 S5:LSt} {n c:Nat} {x:XE} {kv:I} (e:S4.xs[n]?=some x) (b:x.op=7) (g:x.binds.length=2) (h:x.kids=[]) (j:x.vars=[]) (i:NFx S0.xs.length [n] S4) (d:Ext S4 S5 c) (a:S4.xs.length < S5.xs.length) (f:S0.xs.length<=n):
 XK S0.xs.length S0.xs (n:Int) (S0.xs.length:Int) (S5.DM n (adK S4.xs.length kv)):=
 .inr ⟨n,adK S4.xs.length kv x,S4.xs.length,rfl,rfl,f,eJ (d.le.xs _ _ e),b,g,by simp [adK,h],(AG.1 e).1,by rw [Im];exact a,j,(i.ext d).DM (A9.2 rfl) _⟩
theorem XK.fin {S0 S1 S2:LSt} {c d:Nat} {la fi:Int} (i:XK S0.xs.length S0.xs la fi S1) (f:Le S0 S1 c) (a:Ext S1 S2 d) (k:S1.xs.length < S2.xs.length):
 (la=-1->S1.xs.length=S0.xs.length/\Ext S0 S2 (c+d))/\∀p:Nat,la=(p:Int)->fi=(S0.xs.length:Int)/\∃x,S2.xs[p]?=some x/\x.kids.length<=100/\∀kv,Ext S0 (S2.DM p (adK S1.xs.length kv)) (c+d):=by
 rcases i with ⟨rfl,rfl,b⟩|⟨p,x,q,rfl,rfl,g,b,m,t,j,r,u,v,l⟩
 . exact ⟨fun _=>⟨by rw [b],f.trans a.le,by rw [<- b];exact a.nf⟩,fun p g=>by omega⟩
 . refine ⟨fun h=>by omega,fun s n=>?_⟩;have:s=p:=by omega
   subst this;have e:=a.le.xs _ _ b;have o:=(AG.1 b).1;refine ⟨rfl,x,e,by rw [j];simp,fun kv=>⟨(f.trans a.le).DM g _,?_⟩⟩;refine ((l.ext a).DM (A9.2 rfl) (adK S1.xs.length kv)).done (eJ e) ?_
   grind [Im,APD]
theorem LG.AbT {cv vv ev ja nv:I} {i j:Nat} {x:XE} {f:XE->XE} (h:LG B O A S cv vv ev ja nv) (o:S.xs[i]?=some x) (p:(f x).ow=x.ow) (n:RvX (f x)) (m:ev= .ms j S.xs.length 8 tkX) (d:O.C j=none) (e:B.i≠j):LG B O (A.AI j (rwC XE.row (S.DM i f).xs)) (S.DM i f) cv vv ev ja nv:=by
 obtain ⟨a,b,k,l⟩:=e8 o;have g:(S.DM i f).xs=a++f x::b:=l f;refine h.DM (fun _=>rfl) ?_ (fun y c=>?_) m d e
 . have:=h.ow
   grind
 . rw [g] at c;rcases A2.1 c with c|c
   . exact h.rv y (by grind)
   . rcases Ah.1 c with rfl|c
     . exact n
     . exact h.rv y (by rw [k];simp [c])
end
section
variable {B:LB} {O A V Φ Ψ:X} {S:LSt}
theorem AE0 {j:Nat} {x:Nat×Go.TypeId} (h:O.le A) (c:A.bt j=none):O.le (A.BM j x):=by
 refine ⟨h.C,h.tok,h.gt,fun k y d=>?_⟩;have a:=h.bt k y d;have b:k≠j:=fun e=>by rw [e,c] at a;cases a
 simp only [X.BM,if_neg b];exact a
theorem nR {j:Nat} (h:O.le A) (d:O.C j=none):O.le (A.CM j):=by
 refine ⟨fun k c a=>?_,h.tok,h.gt,h.bt⟩;have b:k≠j:=fun e=>by rw [e,d] at a;cases a
 rw [B9,if_neg b];exact h.C k c a
theorem zX {j:Nat} (h:O.le A) (a:A.bt j=none):O.bt j=none:=by
 cases b:O.bt j with
 |none=>rfl
 |some q=>rw [h.bt j q b] at a;cases a
theorem AQA:∀vs:List Int,dvs (vsC vs)=some (vs.map fun v=>DV.int .i64 v)
 |[]=>rfl
 |v::l=>by
  have:=AQA l;simp only [vsC,AB] at this ⊢;rw [dvs,this];rfl
theorem take_set {α:Type}:∀ {l:List α} {k:Nat} {v:α},k < l.length->(l.set k v).take (k+1)=l.take k++[v]
 |x::l,0,v,_=>rfl
 |x::l,k+1,v,h=>by
  have:=take_set (l:=l) (k:=k) (v:=v) (by simpa using h);simp only [C7,CK,this];rfl
theorem AX2:∀ {vs:List Int} {k:Nat} (v:Int),k < vs.length->(vsC vs).take (k * 1)++[.d (.int .i64 v)]++(vsC vs).drop (k * 1+1)=vsC (vs.set k v)
 |x::l,0,v,_=>rfl
 |x::l,k+1,v,h=>by
  have:=AX2 (vs:=l) (k:=k) v (by simpa using h);simp only [Ag,vsC,AB,CK,Eu,C7,AU] at this ⊢;rw [this]
theorem ADB:∀vs:List Int,chunk 1 vs.length (vs.map fun v=>DV.int .i64 v)=vs.map Ez
 |[]=>rfl
 |v::l=>by
  have:=ADB l;simp only [AT,chunk,AB,CK,CD,Eu,N9,this];rfl
theorem W.vrz {cx:Cx} {KK:I->X->Prop} {k:List CI} {F F':Fm} {L:Lm} {V:X} {j n:Nat} {ts:List Int} (c:ts.length=n) (l:V.C j=some (vsC ts)) (o:n<=1000000000) (g:FzT (.ms j n 1 3) (.d (.sl (ts.map Ez))) F F') (a:W cx KK k F' L (V.CM j)):W cx KK k F L V:=by
 refine W.freeze (i:=j) (n:=n) (size:=1) (cs:=vsC ts) (ds:=ts.map fun t=>DV.int .i64 t) (H:=V.CM j) (L':=L) (F':=F') l (AQA ts) (by simp [vsC,c]) (Ai o (show (1000000000:Nat)<=maxLen by decide+kernel)) (fun t=>?_) (fun k cs m=>⟨cs,m,.inl rfl⟩) (fun r cs' a=>?_) (fun t h=>h) a
 . rcases g t with e|⟨d,f⟩
   . exact .inl e
   . right;rw [d,f,<- c,ADB];simp [frz]
 . rw [B9] at a;split at a
   . cases a
   . rename_i b;exact ⟨b,cs',a,.inl rfl⟩
structure OpI (B:LB) (O:X) (S:LSt) (es:List Ex) (jb jf jl jr k:Nat) (la fi:Int) (vs:List Int) (Φ:X) (S':LSt) (A:X):Prop where
 le:O.le Φ
 b:Φ.C jb=some [.gp B.i 0]
 l:Φ.C jl=some [.d (.int .i64 la)]
 f:Φ.C jf=some [.d (.int .i64 fi)]
 r:Φ.C jr=some (vsC vs)
 vl:vs.length=es.length
 h:LH B Φ A S'
 se:Le S S' (100 * Ex.AQ (es.take k)+2 * k)
 vr:∀v∈vs.take k,0<=v/\v < (S'.vars.length:Int)
 ch:XK S.xs.length S.xs la fi S'
theorem AG3 (a b c d e f:I):Px [a,b,c,d,e,f]=put 0 a (put 1 b (put 2 c (put 3 d (put 4 e (put 5 f U))))):=by
 funext n;rcases n with _|_|_|_|_|_|n<;>simp [Px,put,U]
theorem LN (es:List Ex) (pl:List Nat) (ch:Ch) (t:Ty) (fid:FuncId) (Ae:List I) (c:Nat) (hb:CP Tzp fid=true) (hcp:Ae.all I.BS=true) (hpl:pl.length=es.length) (hn:es.length<=10)
 (hes:∀(k:Nat) (e:Ex),es[k]?=some e->∃a sc,pl[k]?=some a/\a < S.nt.length/\N7 B e/\BF B S.nt a e sc/\Cov e sc ch) (hnt:ALO B S.nt) (hch:Ho S.vars.length ch) (ht:t.size<=200) (hsz:S.sz+(100 * Ex.AQ es+2 * es.length+c)<=50000000) (h:LH B O A S) (hfin:AGR B O S.nt S.vars.length es.length c fid Ae):
 AS Tzp 52 [.gp B.i 0,.d (.sl (es.map Ex.J)),.d (.sl (pl.map Ba)),.d (chD ch),tyA t,.fn fid [] Ae] A (EQ B O S (100 * Ex.AQ es+2 * es.length+c)):=by
 refine Rc (by simp) ?_;rw [AG3];obtain ⟨tk,tn,tl⟩:=t;have hgi:=h.gi;have hcr:=fun (Φ V:X) (d:LSt) hl (D:LH B Φ V d)=>Fu (B:=B) 7 0 (.mk tk tn tl) ht hl D;simp only [tyA,Ty.J,AB,AJ] at hcr ⊢;have hnsz:∀n∈S.nt,n.1.size<=200:=fun n hn=>by have:=(hnt.2 n hn).1;simp only [Fg,AM,decide_eq_true_eq] at this;omega
 (repeat' (refine wQ ?_<;>try simp only [go_sem]));intro jb hjb z U jl r;have ha:z≠jb:=fun e=>by rw [e,if_pos rfl] at U;cases U.1
 rw [if_neg ha] at U;simp only [BE,AD] at r;have g:jl≠z:=fun e=>by rw [e,if_pos rfl] at r;cases r.1
 rw [if_neg g] at r;have Z:jl≠jb:=fun e=>by rw [e,if_pos rfl] at r;cases r.1
 rw [if_neg Z] at r;have D:=h.put (.inl hjb) [.gp B.i 0];have h2:=D.alt (j:=z) (x:=(1,3)) (by rw [AD,if_neg ha];exact U) [.d (.int .i64 0)];have h3:=h2.alt (j:=jl) (x:=(1,3)) ⟨by rw [BE,AD,if_neg g,AD,if_neg Z];exact r.1,r.2⟩ [.d (.int .i64 0)];have h4:=(h3.put (j:=z) (.inr (by simp [BE,AD,A5 g])) [.d (.int .i64 (-1))]).put (j:=jl) (.inr (by simp [BE,AD,g])) [.d (.int .i64 (-1))];have hb0:O.C jb=none:=le_none h.le hjb;have hg:O.C z=none:=le_none h.le U.1;have Y:O.C jl=none:=le_none h.le r.1;simp only [BE,AD,if_true,if_neg g,if_neg (A5 g),go_sem];(repeat' (refine wQ ?_<;>try simp only [AA,BE,AD,if_true,if_neg g,if_neg (A5 g),go_sem]));rw [AA];refine K8.mk es.length (by omega) (by omega) (fun E us=>?_)
 have hL4:∃Φ,O.le Φ/\Φ.C jb=some [.gp B.i 0]/\Φ.C jl=some [.d (.int .i64 (-1))]/\Φ.C z=some [.d (.int .i64 (-1))]/\LH B Φ ((((((((A.AI jb [.gp B.i 0]).AI z [.d (.int .i64 0)]).BM z (1,3)).AI jl [.d (.int .i64 0)]).BM jl (1,3)).AI z [.d (.int .i64 (-1))]).AI jl [.d (.int .i64 (-1))])) S:=by
  refine ⟨_,?_,?_,?_,?_,h4⟩
  . have q1:O.bt z=none:=zX h.le U.2;have q2:((O.AI jb [.gp B.i 0]).AI z [.d (.int .i64 0)]).bt z=none:=q1;have q3:=zX h2.le r.2;refine B6 (B6 (AE0 (B6 (AE0 (B6 (B6 (X.le_refl _) hb0) hg) q2) Y) ?_) hg) Y;exact q3
  all_goals simp [BE,AD,A5 ha,A5 g,A5 Z]
 obtain ⟨Φ,q0,q1,q2,q3,q4⟩:=hL4;generalize (((((((A.AI jb [.gp B.i 0]).AI z [.d (.int .i64 0)]).BM z (1,3)).AI jl [.d (.int .i64 0)]).BM jl (1,3)).AI z [.d (.int .i64 (-1))]).AI jl [.d (.int .i64 (-1))])=V at us q4 ⊢;have G:Φ.C E=none:=le_none q4.le us;have K:E≠jb:=fun e=>by rw [e,q1] at G;cases G
 have h0:E≠jl:=fun e=>by rw [e,q2] at G;cases G
 have L:E≠z:=fun e=>by rw [e,q3] at G;cases G
 have N:O.C E=none:=le_none q0 G;have q5:=q4.put (.inl us) (AH es.length [I.d (.int .i64 0)]).flatten;have hrep:(AH es.length [I.d (.int .i64 0)]).flatten=vsC (AH es.length 0):=by simp [vsC]
 rw [hrep] at q5 ⊢;simp only [AA,go_sem];(repeat' (refine wQ ?_<;>try simp only [AA,go_sem]))
 refine lpK (fun (y:Nat×X)=>[(28,.d (.int .i64 (y.1:Nat)))]) (fun y=>y.2)
  (fun y=>y.1<=es.length/\∃la fi vs Φ S',OpI B O S es jb z jl E y.1 la fi vs Φ S' y.2) (fun y=>es.length - y.1) ?_ (0,_) ⟨by simp,-1,-1,_,_,S,B6 q0 N,?_,?_,?_,BB,by simp,q5,by simpa [Ex.AQ] using Le.refl S,by simp,.inl ⟨rfl,rfl,rfl⟩⟩
 rotate_left
 . rw [AD,if_neg (A5 K)];exact q1
 . rw [AD,if_neg (A5 h0)];exact q2
 . rw [AD,if_neg (A5 L)];exact q3
 rintro ⟨k,τ1⟩ ⟨hk,la,fi,vs,Φ1,d,b⟩ ih;simp only at hk b;by_cases s:k < es.length
 . obtain ⟨e,he⟩:=Ak s;obtain ⟨a,sc,hpa,hal,hE,hF,hC⟩:=hes k e he;obtain ⟨n,hna⟩:=Ak hal;have hc:=Au (J:=Ex.J) he;have F:(pl.map Ba)[k]?=some [.int .i64 (a:Int)]:=Au (J:=Ba) hpa;have hnr:=Au (J:=Cf) hna;have haT:=ltT hal;have h6:=Gv (show k+1<=9000000000000000000 by omega);obtain ⟨hst,htl⟩:=Ex.Ck he;have t1:=b.h.le.C _ _ b.b;have t2:=b.h.le.C _ _ b.l;have t3:=b.h.le.C _ _ b.f;have t4:=b.h.le.C _ _ b.r;have P:=b.vl;have T:=dY ch e.name τ1;have q:=ltT s;have hcl:(k * 1+1<=(vsC vs).length)=True:=by simp [vsC];omega
   have hwr:=fun v=>AX2 (k:=k) (vs:=vs) v (by omega);by_cases hx:e.op=4/\∃v,DP ch e.name=some v
   . obtain ⟨hop,v,hv⟩:=hx;rw [hv,dZ] at T;have hlh:=b.h.put (j:=E) (.inr (by rw [b.r];simp)) (vsC (vs.set k v));have R:(e.op==4)=true:=by simpa using hop
     obtain ⟨o,nm,u,ns,ks,al⟩:=e;simp only [Ex.op,Ex.name] at R T;simp only [Ex.A6] at hc;(repeat' ((first|refine wQ ?_|refine AN.det (T) ?_|fail)<;>try simp only [q,hc,h6,R,t4,hwr v,hcl,go_sem]))
     exact ih (k+1,_) ⟨s,la,fi,_,_,d,B6 b.le N,by rw [AD,if_neg (A5 K)];exact b.b,by rw [AD,if_neg (A5 h0)];exact b.l,by rw [AD,if_neg (A5 L)];exact b.f,BB,by simp [P],hlh,b.se.up (by simp only;omega),fun w hw=>by
      rw [take_set (by omega)] at hw;rcases A2.1 hw with hw|hw
      . exact b.vr w hw
      . simp only [A9] at hw;have h5:=hch.lt _ (Lx hv);have:=b.se.vl;simp only at h5;omega,b.ch⟩ (by simp only;omega)
   . obtain ⟨o,nm,u,ns,ks,al⟩:=e;simp only [Ex.op,Ex.name] at hx T;simp only [Ex.A6] at hc
     have hfd2:(o==4)=true->DP ch nm=none:=fun h=>by
      cases hq:DP ch nm with
      |none=>rfl
      |some v=>exact absurd ⟨by simpa using h,v,hq⟩ hx
     have hsz1:d.sz+(100 * (Ex.mk o nm u ns ks al).size+2)<=50000000:=by have:=b.se.bd;omega
     generalize hzz:(Ex.mk o nm u ns ks al).size=zz at *;cases R:(o==4)
     case' true=>
      rw [hfd2 R,dZ] at T;(repeat' ((first|refine wQ ?_|refine AN.det (T) ?_|fail)<;>try simp only [q,hc,R,t1,go_sem]))
     case' false=>
      (repeat' (refine wQ ?_<;>try simp only [q,hc,R,t1,go_sem]))
     all_goals
      refine AN.mk rfl (hcr _ _ _ (by omega) b.h) ?_;rintro _ τ2 ⟨rfl,Q⟩;have u1:=Q.le.C _ _ b.b;have u4:=Q.le.C _ _ b.r;obtain ⟨cv,vv,ev,ja,nv,hg2⟩:=id Q;have h9:=hg2.bi;unfold lgC at h9;have hnv:=hg2.nv (show d.nt≠[] by rw [b.se.nt];exact BC (by omega));rw [show ((d.Cm (D4 7 0 (.mk tk tn tl))).nt)=S.nt from b.se.nt] at hnv;subst hnv;obtain ⟨⟨n1,n2,n3⟩,na⟩:=n;simp only [Cf,Ty.J,AU,A3] at hnr;have hlv:=fun Φ V d hl (D:LH B Φ V d)=>Yp (B:=B) (.mk n1 n2 n3) (hnsz _ (AE hna)) hl D;simp only [tyA,Ty.J,AB,AJ] at hlv
      have hsx:(d.Cm (D4 7 0 (.mk tk tn tl))).sz<=100000000:=by
       simp only [LSt.sz,LSt.Cm,A0,AT,A8] at hsz1 ⊢;omega
      simp only [u1,h9,F,hnr,go_sem];(repeat' (refine wQ ?_<;>try simp only [u1,h9,F,q,haT,hnr,AA,go_sem]));refine AN.mk rfl (hlv _ _ _ hsx Q) ?_;rintro _ τ3 ⟨rfl,hs⟩;have v4:=hs.le.C _ _ b.r;have hvx:(d.Cm (D4 7 0 (.mk tk tn tl))).vars.length=d.vars.length:=rfl;rw [hvx];obtain ⟨cv3,vv3,ev3,ja3,nv3,hi⟩:=id hs;have ho:=hi.bi;have v1:=hs.le.C _ _ b.b;obtain ⟨jx,hjx,hbx,hd,hjxi⟩:=hi.ex (i:=d.xs.length) (x:=D4 7 0 (.mk tk tn tl)) (by simp [LSt.FN,LSt.Cm]);have hir:B.i≠E:=fun e=>by have:=hi.i0;rw [e,b.r] at this;cases this
      have hxr:jx≠E:=fun e=>by rw [e,b.r] at hd;cases hd
      have hg4:=hi.put (j:=E) (.inr (by rw [b.r];simp)) (vsC (vs.set k (d.vars.length:Int)));have hg5:=fun bv hbv=>hg4.AbT (i:=d.xs.length) (f:=L8 [[],[(d.vars.length:Int)]] bv) (x:=D4 7 0 (.mk tk tn tl)) (by simp [LSt.FN,LSt.Cm]) rfl ⟨DG.Ac,DG.cel (rows:=[[.sl []],[.sl [[.int .i64 (d.vars.length:Int)]]]]) hbv rfl⟩ hjx (by rw [AD,if_neg hxr];exact hd) hjxi;have hxl:d.xs.length < ((d.Cm (D4 7 0 (.mk tk tn tl))).FN (.mk n1 n2 n3)).xs.length:=by simp [LSt.FN,LSt.Cm]
      have hxT:=ltT hxl;have hxc:(d.xs.length * 8+3+1<=(rwC XE.row ((d.Cm (D4 7 0 (.mk tk tn tl))).FN (.mk n1 n2 n3)).xs).length)=True:=by rw [Dd XE.row 8 XE.Bj];simp [LSt.FN,LSt.Cm];omega
      have hxw:=fun bv=>Of XE.row 8 XE.Bj 3 bv (L8 [[],[(d.vars.length:Int)]] bv) (l:=((d.Cm (D4 7 0 (.mk tk tn tl))).FN (.mk n1 n2 n3)).xs) (i:=d.xs.length) (x:=D4 7 0 (.mk tk tn tl)) (by simp [LSt.FN,LSt.Cm]) (by omega) rfl;have hva:(vsC (vs.set k (d.vars.length:Int)))[k * 1]?=some (.d (.int .i64 (d.vars.length:Int))):=by simp [vsC,P,s]
      subst hjx;unfold lgC at ho;simp only [v4,v1,hwr,hcl,q,AD,if_true,ho,hbx,if_neg (A5 K),if_neg hir,if_neg hxr,hxT,hxc,hxw,hva,go_sem];have fs:=hg5 (.d (.sl [[.sl []],[.sl [[.int .i64 (d.vars.length:Int)]]]])) (DG.d [[.sl []],[.sl [[.int .i64 (d.vars.length:Int)]]]]);rw [AKT] at fs;have hxs:=congrArg LSt.xs (AKT d (.mk tk tn tl) (.mk n1 n2 n3) [[],[(d.vars.length:Int)]] (.d (.sl [[.sl []],[.sl [[.int .i64 (d.vars.length:Int)]]]])));simp only [LSt.DM] at hxs;rw [hxs];generalize hbv:I.d (.sl [[.sl []],[.sl [[.int .i64 (d.vars.length:Int)]]]])=bv at *;generalize h8:AB7 [[],[(d.vars.length:Int)]] bv (.mk tk tn tl)=xL at *;have ds:LH B _ _ ((d.Cm xL).FN (.mk n1 n2 n3)):=⟨_,_,_,_,_,fs⟩;generalize (τ3.AI E (vsC (vs.set k (d.vars.length:Int)))).AI jx _=τ5 at ds ⊢;have hr:=b.ch.step b.se (t:= .mk tk tn tl) (u:= .mk n1 n2 n3) (bs:=[[],[(d.vars.length:Int)]]) (bv:=bv);rw [h8] at hr;obtain ⟨hp,hf⟩:=hr
      have hla:la=-1\/∃(p:Nat) (x:XE),la=((p:Nat):Int)/\((d.Cm xL).FN (.mk n1 n2 n3)).xs[p]?=some x/\x.kids.length<=100:=by
       rcases b.ch with ⟨h,_,_⟩|⟨p,_,_,h,_⟩
       . exact .inl h
       . obtain ⟨_,x,D,h2,_⟩:=hf p h;exact .inr ⟨p,x,h,D,h2⟩
      refine ⟨98,[],_,rfl,by kernel_rfl,AN.mk rfl (AKU jl z jb d.xs.length la fi (by rw [AD,if_neg (A5 h0)];exact b.l) (by rw [AD,if_neg (A5 L)];exact b.f) (by rw [AD,if_neg (A5 K)];exact b.b) g ds hla) ?_⟩;rintro _ τ6 ⟨rfl,hj,hm⟩;have hxn:((d.Cm xL).FN (.mk n1 n2 n3)).xs[d.xs.length]?=some xL:=by simp [LSt.FN,LSt.Cm]
      have hnx:∃m S4,O.le m/\m.C jb=some [.gp B.i 0]/\m.C jl=some [.d (.int .i64 (d.xs.length:Int))]/\m.C z=some [.d (.int .i64 (S.xs.length:Int))]/\m.C E=some (vsC (vs.set k (d.vars.length:Int)))/\LH B m τ6 S4/\Le S S4 (100 * Ex.AQ (es.take k)+2 * k+2)/\NFx S.xs.length [d.xs.length] S4/\S4.xs[d.xs.length]?=some xL/\S4.vars.length=d.vars.length+1/\S.xs.length<=d.xs.length:=by
       rcases b.ch with ⟨h,_,_⟩|⟨p,_,_,h,_⟩
       . obtain ⟨D,h2⟩:=hp h;refine ⟨_,_,B6 (B6 (B6 b.le N) hg) Y,?_,?_,?_,?_,hj h,b.se.AXS _ _,h2,hxn,by simp [LSt.FN,LSt.Cm],b.se.xl⟩
         . simp only [AD,if_neg (A5 Z),if_neg (A5 ha),if_neg (A5 K)];exact b.b
         . simp only [AD,if_true]
         . simp only [AD,if_true,if_neg (A5 g),D]
         . simp only [AD,if_true,if_neg h0,if_neg L]
       . obtain ⟨D,x,h2,h3,h4,h5⟩:=hf p h;obtain ⟨kv,cs⟩:=hm p h;refine ⟨_,_,B6 (B6 b.le N) Y,?_,?_,?_,?_,cs,(h5 kv).1,(h5 kv).2,by rw [nT (by omega)];exact hxn,by simp [LSt.DM,LSt.FN,LSt.Cm],b.se.xl⟩
         . simp only [AD,if_neg (A5 Z),if_neg (A5 K)];exact b.b
         . simp only [AD,if_true]
         . simp only [AD,if_neg (A5 g),if_neg (A5 L),<- D];exact b.f
         . simp only [AD,if_true,if_neg h0]
      clear hj hm hp hf fs hg5 hg4 ds;obtain ⟨m,S4,m0,m1,m2,m3,m4,m5,m6,m7,m8,m9,m10⟩:=hnx;have x1:=m5.le.C _ _ m1;have hkk:=bH hE a sc ch d.xs.length m8 (by rw [<- h8];simp [AB7]) (by rw [m6.nt];exact hF) hC (hch.mono m6.vl) (by rw [hzz];have:=m6.bd;omega) m5;simp only [exA,Ex.A6,AB,AJ] at hkk;rw [hzz] at hkk;simp only [x1,F,go_sem];(repeat' (refine wQ ?_<;>try simp only [x1,F,q,h6,go_sem]));refine AN.mk rfl hkk ?_;rintro _ τ7 ⟨rfl,S5,kv5,hy,hlt5,hL8⟩;simp only [go_sem];(repeat' (refine wQ ?_<;>try simp only [h6,go_sem]));refine ih (k+1,τ7) ⟨s,_,_,_,m,_,m0,m1,m2,m3,m4,by simp [P],hL8,((m6.trans hy.le).DM m10 _).up (by simp only;omega),fun w hw=>?_,XK.kid m8 (by rw [<- h8];rfl) (by rw [<- h8];rfl) (by rw [<- h8];rfl) (by rw [<- h8];rfl) m7 hy hlt5 m10⟩ (by simp only;omega);have h7:=hy.le.vl;simp only [LSt.DM];rw [take_set (by omega)] at hw;rcases A2.1 hw with hw|hw
      . have:=b.vr w hw;omega
      . simp only [A9] at hw;omega
 . have hke:k=es.length:=by omega
   subst hke;have t1:=b.h.le.C _ _ b.b;have t2:=b.h.le.C _ _ b.l;have t3:=b.h.le.C _ _ b.f;have t4:=b.h.le.C _ _ b.r;have P:=b.vl;clear ih
   (iterate 2 (refine wQ ?_<;>try simp only [B5 s,go_sem]))
   refine W.vrz (j:=E) (n:=es.length) (ts:=vs) P t4 (by omega) ((((((((((FzT.refl _ _ _).skip 27 _).skip 26 _).here 16).skip 15 _).skip 13 _).skip 10 _).skip 6 _).skip 5 _).skip 3 _|>.skip 2 _) ?_;have hd1:=b.h.del (j:=E) (by rw [b.r];simp);have hfc:=hfin (Φ1.CM E) d (τ1.CM E) vs (nR b.le N) hd1 b.se.nt b.se.vl ⟨P,by omega⟩ (fun v hv=>b.vr v (by rw [AR (by omega)];exact hv)) (by have:=b.se.bd;rw [Ar] at this;omega);(repeat' (refine wQ ?_<;>try simp only [go_sem]));refine ⟨fid,[],Ae,rfl,hb,AN.mk (by simp [hcp,Je]) hfc ?_⟩;rintro _ τ2 ⟨rfl,S2,Q,hE2,hlt2⟩;simp only [go_sem];obtain ⟨hf1,hf2⟩:=b.ch.fin b.se hE2 hlt2
   have hla:la=-1\/∃(p:Nat) (x:XE),la=((p:Nat):Int)/\S2.xs[p]?=some x/\x.kids.length<=100:=by
    rcases b.ch with ⟨h,_,_⟩|⟨p,_,_,h,_⟩
    . exact .inl h
    . obtain ⟨_,x,D,h2,_⟩:=hf2 p h;exact .inr ⟨p,x,h,D,h2⟩
   refine ⟨98,[],_,rfl,by kernel_rfl,AN.mk rfl (AKU jl z jb d.xs.length la fi (by rw [B9,if_neg (A5 h0)];exact b.l) (by rw [B9,if_neg (A5 L)];exact b.f) (by rw [B9,if_neg (A5 K)];exact b.b) g Q hla) ?_⟩;rintro _ τ6 ⟨rfl,hj,hm⟩;have hsl:=b.se.xl
   have hnx:∃m S4,O.le m/\m.C z=some [.d (.int .i64 (S.xs.length:Int))]/\LH B m τ6 S4/\Ext S S4 (100 * Ex.AQ (es.take es.length)+2 * es.length+c)/\S.xs.length < S4.xs.length:=by
    rcases b.ch with ⟨h,_,_⟩|⟨p,_,_,h,_⟩
    . obtain ⟨D,h2⟩:=hf1 h;refine ⟨_,_,B6 (B6 (nR b.le N) hg) Y,?_,hj h,h2,by omega⟩;simp only [AD,if_true,if_neg (A5 g),D]
    . obtain ⟨D,x,h2,h3,h5⟩:=hf2 p h;obtain ⟨kv,cs⟩:=hm p h;refine ⟨_,_,B6 (nR b.le N) Y,?_,cs,h5 kv,by rw [Im];omega⟩;simp only [AD,B9,if_neg (A5 g),if_neg (A5 L),<- D];exact b.f
   obtain ⟨m,S4,m0,m1,m2,m3,m4⟩:=hnx;rw [Ar] at m3;have x1:=m2.le.C _ _ m1;simp only [x1,go_sem];(repeat' (refine wP ?_<;>try simp only [go_sem]));exact ⟨rfl,S4,m2.base m0,m3,m4⟩
end
section
variable {O A V:X}
abbrev fCl:FuncId:=157
abbrev tkL:Nat:=122
def gT (c:M×Int):List I:=[.d (.str c.1),.d (.int .i64 c.2)]
theorem pQ (c:M×Int):(gT c).length=2:=rfl
theorem xK (l:List (M×Int)):BL (l.map Sk)=rwC gT l:=by
 induction l with
 |nil=>rfl
 |cons x l a=>rw [AB,FU,<- a];rfl
def mwL (l:List (M×Int)) (v:I):Mw:=⟨tkL,2,l.length,BL (l.map Sk),v⟩
theorem Mr.AcT {l:List (M×Int)} {v:I} {i:Nat} {x:M×Int} (h:Mr O A (mwL l v)) (b:l[i]?=some x):∃j,v= .ms j l.length 2 tkL/\A.C j=some (rwC gT l)/\(i * 2+2<=(rwC gT l).length)=True/\((rwC gT l).drop (i * 2)).take 2=gT x:=by
 have d:=(AG.1 b).1;rcases h.2 with ⟨a,_⟩|⟨_,j,a,c,_⟩
 . simp only [mwL] at a;omega
 . exact ⟨j,a,by rw [<- xK];exact c,by rw [Dd gT 2 pQ];simp;omega,YZ gT 2 pQ b⟩
theorem yL (c:Ch) (ns:List M) (k:ns.length<=1000000000) (A:X):AS Tzp 158 [.d (chD c),.d (.sl (ns.map CG))] A (fun v H=>v= .d (chD (iM c ns))/\H=A):=by
 refine rC.go ?_;(repeat' refine wQ ?_<;>simp only [AA,go_sem]);refine lpK (fun (i:Nat)=>[(0,.d (chD (iM c (ns.take i)))),(9,A1 i)]) (fun _=>A) (fun i=>i<=ns.length) (fun i=>ns.length - i) ?_ 0 (by simp);rintro i j h;by_cases a:i < ns.length
 . obtain ⟨x,e⟩:=Ak a;have f:=Au (J:=CG) e;have d:=wS i;have b:=Qa (.d (chD (iM c (ns.take i)))) (iM c (ns.take i)) (PlV.d _) x (-1) A;rw [<- AQ3,<- Aa e] at b;(repeat' (first|refine wQ ?_|refine AN.det (b) ?_|fail)<;>try simp only [BI a,f,d,go_sem]);exact h (i+1) a (by omega)
 . have g:ns.take i=ns:=AR (by omega);(repeat' refine wP ?_<;>simp only [B5 a,g,go_sem])
theorem ACK {l:List (M×Int)} {v:I} (s:Mr O A (mwL l v)) (B:l.length<=1000000000) (k:Nat) (x:Int) (u:A.C k=some [.d (.int .i64 x)]):
 AS Tzp 194 [v,.fn 157 [] [.gp k 0]] A (fun r H=>r= .d (.int .i64 (Hq (l.findIdx? fun c=>c.2==x)))/\H=A):=by
 have a:=s.cel
 have t:∀(y:M×Int),AS Tzp 157 [.agg (gT y),.gp k 0] A (fun r H=>r=D1 (y.2==x)/\H=A):=fun y=>by
  refine dO.go ?_;rw [B4];unfold gT;(repeat' refine wP ?_<;>simp only [u,go_sem])
 refine Ls (by simp [a.BS]) ?_;rw [B4];simp only [mwL] at a;(repeat' refine wQ ?_<;>simp only [a.len,go_sem]);refine lpK (fun (i:Nat)=>[(8,A1 i)]) (fun _=>A) (fun i=>i<=l.length/\∀y∈l.take i,(y.2==x)=false) (fun i=>l.length - i) ?_ 0 ⟨by simp,by simp⟩;rintro i ⟨z,f⟩ w;by_cases d:i < l.length
 . obtain ⟨y,n⟩:=Ak d;obtain ⟨j,rfl,q,g,e⟩:=s.AcT n;have o:=ltT d;have h:=wS i;have b:=t y;have e:((rwC gT l).drop (i * 2)).take 2=[Gb y.1,A1 y.2]:=e;unfold gT at b;cases m:(y.2==x) with
   |true=>
    rw [m] at b;rw [Cn (p:=fun c:M×Int=>c.2==x) f n m];(repeat' (first|refine wP ?_|(refine ⟨fCl,[],[.gp k 0],rfl,by kernel_rfl,AN.det b ?_ (by simp [CY,Pl])⟩)|fail)<;>try simp only [o,q,g,e,go_sem]);rfl
   |false=>
    rw [m] at b;(repeat' (first|refine wQ ?_|(refine ⟨fCl,[],[.gp k 0],rfl,by kernel_rfl,AN.det b ?_ (by simp [CY,Pl])⟩)|fail)<;>try simp only [o,q,g,e,h,go_sem]);exact w (i+1) ⟨by omega,Ea (p:=fun c:M×Int=>c.2==x) f n m⟩ (by omega)
 . rw [AR (by omega)] at f;rw [Co (p:=fun c:M×Int=>c.2==x) f];(repeat' refine wP ?_<;>simp only [B5 d,go_sem]);rfl
theorem oB {l:List (M×Int)} {v:I} (d:Mr O A (mwL l v)) (e:l.length<=1000000000) (b:Nat) (x:Int) (f:A.C b=some [.d (.int .i64 x)]):
 AS Tzp 156 [v,.fn 157 [] [.gp b 0]] A (fun r H=>r= .d (.bool (l.any fun c=>c.2==x))/\H=A):=by
 have a:=d.cel;simp only [mwL] at a;refine KH (by simp [a.BS]) ?_;(repeat' (first|refine wP ?_|(refine AN.det (ACK d e b x f) ?_ (by simp only [BK,Cl,a.BS];rfl))|fail)<;>try simp only [N0,Fy,go_sem])
end
section
variable {O A V:X}
structure CaI (O:X) (jo:Nat) (l:List (M×Int)) (A:X) (v:I):Prop where
 b:A.C jo=some [v]
 m:MsL O A jo [mwL l v]
 le:O.le A
def AXP (e:Ex):Prop:=∀(ch:Ch) (l:List (M×Int)) (jo:Nat) (v:I) (O A:X),(∀x∈Bl e [],nb1 x.1)->l.length+e.size<=100000->O.C jo=none->CaI O jo l A v->
 AS Tzp 111 [exA e,.d (chD ch),.gp jo 0] A (fun r H=>r= .tup []/\∃l' v',CQ ch (Lc e) l l' e.size/\CaI O jo l' H v')
theorem AZG {o:Int} {n:M} {u:Int} {ns:List M} {ks:List Ex} {al:List Al} (h:∀x∈Bl (.mk o n u ns ks al) [],nb1 x.1) {i:Nat} {k:Ex} (a:ks[i]?=some k):∀x∈Bl k [],nb1 x.1:=fun x b=>by
 have:=OL (Ct o n ns [] i) k [];rw [Aw] at this;refine h (x.1,Ct o n ns [] i++x.2) ?_;rw [Bl,Ah,A2];exact .inr (.inl (Pj (i:=0) a (by grind)))
theorem AZF {o:Int} {n:M} {u:Int} {ns:List M} {ks:List Ex} {al:List Al} (h:∀x∈Bl (.mk o n u ns ks al) [],nb1 x.1) {a:Al} (b:a∈al):∀x∈Bl a.body [],nb1 x.1:=fun x c=>by
 have:=OL a.vars a.body [];rw [Aw] at this;refine h (x.1,a.vars++x.2) ?_
 grind [Bl,Ph,CU]
def inC (o:Int) (n:M) (ns:List M) (i:Nat) (c:Ch):Ch:=if (o=7\/o=17)/\i=1 then Et c n (-1) else if (o=8/\i=1)\/o=11 then iM c ns else c
theorem AQ5 (o:Int) (n:M) (ns:List M) (i:Nat) (c:Ch):inC o n ns i c=bif ((o==7||o==17)&&((i:Int)==1)) then Et c n (-1) else bif ((o==8&&((i:Int)==1))||o==11) then iM c ns else c:=by
 have a:((i:Int)==1)=decide (i=1):=by grind
 unfold inC
 grind
theorem AVE (o:Int) (n:M) (ns:List M) (i:Nat) (c:Ch):Tg c (inC o n ns i c) (Ct o n ns [] i):=by
 unfold Ct inC;by_cases a:(o=7\/o=17)/\i=1
 . rw [if_pos a,if_pos a];by_cases h:n=[]
   . rw [if_pos h];unfold Et;rw [if_pos h];exact Tg.refl c []
   . rw [if_neg h];exact (Tg.refl c []).with n
 . rw [if_neg a,if_neg a]
   grind [Tg.names,Tg.refl]
theorem ADC (nm:M) (u:Int) (ns:List M):AXP (.mk 4 nm u ns [] []):=by
 intro ch l B v O A _ hz G h;rw [Ex.size,Ex.AQ,Al.AQ] at hz;have p:=dY ch nm A;refine WR.go ?_;rw [DN];simp only [exA,Ex.A6,AB,AJ];have fin:∀q D V,CaI O B q V D->(q=l/\(∀v,DP ch nm=some v->v≠-1->∃x∈l,x.2=v)\/∃v,DP ch nm=some v/\v≠-1/\q=l++[(nm,v)])->∃q D,CQ ch (Lc (.mk 4 nm u ns [] [])) l q (Ex.mk 4 nm u ns [] []).size/\CaI O B q V D:=fun q D V S T=>⟨q,D,by rw [Ex.size,Ex.AQ,Al.AQ];exact CQ.var T,S⟩
 have s:∀b z w,A.C b=none/\A.bt b=none->CaI O B l (((A.AI b [z]).BM b (1,3)).AI b [w]) v/\B≠b:=fun b z w f=>by
  have g:B≠b:=fun e=>by rw [<- e,h.b] at f;cases f.1
  have Q:=le_none h.le f.1;refine ⟨⟨by simp [BE,AD,g,h.b],?_,B6 (AE0 (B6 h.le Q) f.2) Q⟩,g⟩
  exact h.m.Ee fun m N k hk U=>by
   have:k≠b:=fun e=>U (by grind);simp only [BE,AD,if_neg this]
 cases K:DP ch nm with
 |none=>
  rw [K,dZ] at p;(repeat' (first|refine wQ ?_|refine AN.det (p) ?_|fail)<;>try simp only [go_sem]);intro b f;obtain ⟨n,g⟩:=s b (.d (.int .i64 0)) (.d (.int .i64 0)) f;simp only [BE,AD,if_true,go_sem];(repeat' refine wP ?_<;>simp only [if_true,go_sem]);exact fin _ _ _ n (.inl ⟨rfl,fun v R=>by grind⟩)
 |some x=>
  rw [K,dZ] at p;(repeat' (first|refine wQ ?_|refine AN.det (p) ?_|fail)<;>try simp only [go_sem]);intro b f;obtain ⟨n,g⟩:=s b (.d (.int .i64 0)) (.d (.int .i64 x)) f;have o:(((A.AI b [I.d (.int .i64 0)]).BM b (1,3)).AI b [A1 x]).C b=some [A1 x]:=BB;have i:=n.b;generalize t:((A.AI b [I.d (.int .i64 0)]).BM b (1,3)).AI b [A1 x]=V at n o i;by_cases P:x=-1
  . have r:(x != -1)=false:=by simp [P]
    simp only [BE,AD,if_true,t,o,r,go_sem];(repeat' refine wP ?_<;>simp only [go_sem]);exact fin _ _ _ n (.inl ⟨rfl,fun v R g=>absurd (by grind) g⟩)
  . have r:(x != -1)=true:=by simpa using P
    have F:=oB (n.m.1 _ AY) (by omega) b x o;have a:=(n.m.1 _ AY).cel;simp only [mwL] at a;simp only [BE,AD,if_true,t,o,i,r,a.cell,go_sem];refine AN.det F ?_ (by simp only [BK,Cl,a.BS];rfl);cases d:l.any fun c=>c.2==x with
    |true=>
     simp only [go_sem];(repeat' refine wP ?_<;>simp only [go_sem]);obtain ⟨y,Z,h3⟩:=List.any_eq_true.1 d;exact fin _ _ _ n (.inl ⟨rfl,fun v R _=>⟨y,Z,by grind⟩⟩)
    |false=>
     simp only [go_sem];(repeat' refine wQ ?_<;>simp only [o,i,a.cell,go_sem]);refine JU.row (m:=mwL l v) n.m n.le (by rw [i];simp) rfl (by simp [mwL]) (by simp) (by simp [mwL];omega) (by omega) (by simp [mwL]) (fun j h4 N E L Y=>?_);rw [i] at E;simp only [mwL,AT,A8,Av] at N ⊢;simp only [E,go_sem];(repeat' refine wP ?_<;>simp only [go_sem]);refine fin (l++[(nm,x)]) (.ms j (l.length+1) 2 tkL) _ ⟨BB,?_,B6 L G⟩ (.inr ⟨x,K,P,rfl⟩);have:=N.wY [.ms j (l.length+1) 2 tkL];unfold mwL;rw [A4,ABD,A0];exact this
end
section
variable {O A V:X}
theorem AHC:∀(N:Nat) (e:Ex),e.size<=N->AXP e:=by
 intro N
 induction N with
 |zero=>intro e h;have:=e.size_pos;omega
 |succ N h5=>
  rintro ⟨o,n,u,ns,ks,al⟩ hN;by_cases h4:o=4
  . subst h4;intro ch l G v O A w hz K h;have hm:=w (.mk 4 n u ns ks al,[]) (by rw [Bl];grind)
    have R:ks=[]/\al=[]:=by
     simp only [nb1,J3,nkB,asB,Ex.op,Ex.num,Ex.kids,Ex.alts,AM] at hm;obtain ⟨⟨_,F⟩,t⟩:=hm;simp at F t;exact ⟨t,F⟩
    obtain ⟨rfl,rfl⟩:=R;exact ADC n u ns ch l G v O A w hz K h
  intro ch l G v O A w hz K h;have hb:(o==4)=false:=by simpa using h4
  have hj:(Ex.mk o n u ns ks al).size=1+Ex.AQ ks+Al.AQ al:=by rw [Ex.size]
  rw [hj] at hN hz ⊢;have hv:=Ex.CL ks;have hr:=Al.NI al;have h0:∀g m,CQ ch (fun s=>Z6 o n ns ks s\/kF al s) l g m->m<=1+Ex.AQ ks+Al.AQ al->CQ ch (Lc (.mk o n u ns ks al)) l g (1+Ex.AQ ks+Al.AQ al):=fun g m r hm=>r.mono (fun s S=>AQQ h4 S) hm;have hd:=w (.mk o n u ns ks al,[]) (by rw [Bl];grind)
  have h3:ns.length<=6/\∀a∈al,a.vars.length<=6:=by
   have h:J3 o n u ns ks.length al=true:=hd;unfold J3 nsB asB at h;rw [AM,AM,AM] at h;obtain ⟨⟨⟨_,F⟩,t⟩,_⟩:=h;refine ⟨?_,fun a Q=>?_⟩
   . grind
   . by_cases h9:o=10
     . rw [if_pos h9,AM,Ao] at t;have:=t.2 a Q;obtain ⟨c,vs,b⟩:=a;simp only [AGX,AM,decide_eq_true_eq] at this;exact this.1.2
     grind
  obtain ⟨h3,hn⟩:=h3;refine WR.go ?_;rw [DN];simp only [exA,Ex.A6,AB,AJ];(repeat' refine wQ ?_<;>simp only [hb,AA,go_sem])
  refine lpK (fun (y:Nat×X)=>[(50,A1 (y.1:Nat))]) (fun y=>y.2)
   (fun y=>y.1<=ks.length/\∃g v1,CQ ch (Z6 o n ns (ks.take y.1)) l g (Ex.AQ (ks.take y.1))/\CaI O G g y.2 v1) (fun y=>ks.length - y.1) ?_ (0,A) ⟨by simp,l,v,(CQ.nil ch l).mono (fun s ⟨i,k,R,_⟩=>by simp at R) (by simp),h⟩
  rintro ⟨i,V⟩ ⟨hi,g,v1,r,P⟩ U;simp only at hi r P;by_cases L:i < ks.length
  . obtain ⟨k,R⟩:=Ak L;have he:=Au (J:=Ex.J) R;have E:=wS i;obtain ⟨hg,hl⟩:=Ex.Ck R;have hf:=r.len;have f:=h5 k (by omega) (inC o n ns i ch) g G v1 O V (AZG w R) (by omega) K P;have j:∀d,(∃l' v',CQ (inC o n ns i ch) (Lc k) g l' k.size/\CaI O G l' d v')->∃g v1,CQ ch (Z6 o n ns (ks.take (i+1))) l g (Ex.AQ (ks.take (i+1)))/\CaI O G g d v1:=fun d ⟨l2,v2,F,t⟩=>⟨l2,v2,(r.kid F (AVE o n ns i ch)).mono (fun s S=>Z6.snoc R S) (by omega),t⟩;have D:=fun d h=>U (i+1,d) ⟨L,j d h⟩ (by simp only;omega);clear U j;have p:=yL ch ns (by omega) V;have T:=Qa (.d (chD ch)) ch (PlV.d _) n (-1) V;generalize k.size=z at *;obtain ⟨o1,n1,u1,hp,ho,h6⟩:=k;simp only [exA,Ex.A6,AB,AJ] at he f;rw [AQ5] at f;cases x:(o==11)<;>cases Z:(o==8)<;>cases Y:(o==7)<;>cases B:(o==17)<;>cases F:((i:Int)==1)
    all_goals first
     |(exfalso;simp only [beq_iff_eq] at x Z;omega)
     |(exfalso;simp only [beq_iff_eq] at x Y;omega)
     |(exfalso;simp only [beq_iff_eq] at x B;omega)
     |(exfalso;simp only [beq_iff_eq] at Z Y;omega)
     |(exfalso;simp only [beq_iff_eq] at Z B;omega)
     |(exfalso;simp only [beq_iff_eq] at Y B;omega)
     |(simp only [AQ5,x,Z,Y,B,F,XH,Td,Cu,Hg,cond_true,cond_false] at f D
       (repeat' (first|refine wQ ?_|refine AN.det (p) ?_|refine AN.det (T) ?_|fail)<;>try simp only [BI L,he,x,Z,Y,B,F,go_sem]);refine AN.mk rfl f ?_;rintro _ d ⟨rfl,t⟩;simp only [go_sem];(repeat' refine wQ ?_<;>simp only [E,go_sem]);exact D d t)
  . have hc:i=ks.length:=by omega
    subst hc;rw [Ar] at r;clear U;(repeat' refine wQ ?_<;>simp only [B5 L,AA,go_sem])
    refine lpK (fun (y:Nat×X)=>[(96,A1 (y.1:Nat))]) (fun y=>y.2)
     (fun y=>y.1<=al.length/\∃g v1,CQ ch (fun s=>Z6 o n ns ks s\/kF (al.take y.1) s) l g (Ex.AQ ks+Al.AQ (al.take y.1))/\CaI O G g y.2 v1) (fun y=>al.length - y.1) ?_ (0,V) ⟨by simp,g,v1,r.mono (fun s S=>by
       rcases S with S|⟨a,Q,_⟩
       . exact S
       . simp at Q) (by simp),P⟩
    clear r P;rintro ⟨i,V⟩ ⟨hi,g,v1,r,P⟩ U;simp only at hi r P;by_cases q:i < al.length
    . obtain ⟨a,Q⟩:=Ak q;have he:=Au (J:=Al.J) Q;have E:=wS i;obtain ⟨hg,hl⟩:=Al.Ck Q;have hf:=r.len;have ht:a.size=a.body.size:=by obtain ⟨c,vs,b⟩:=a;rfl
      have f:=h5 a.body (by omega) (iM ch a.vars) g G v1 O V (AZF w (AE Q)) (by omega) K P
      have j:∀d,(∃l' v',CQ (iM ch a.vars) (Lc a.body) g l' a.body.size/\CaI O G l' d v')->∃g v1,CQ ch (fun s=>Z6 o n ns ks s\/kF (al.take (i+1)) s) l g (Ex.AQ ks+Al.AQ (al.take (i+1)))/\CaI O G g d v1:=fun d ⟨l2,v2,F,t⟩=>⟨l2,v2,(r.kid F (Tg.names ch a.vars)).mono (fun s S=>by
       grind [kF.snoc]) (by omega),t⟩
      have D:=fun d h=>U (i+1,d) ⟨q,j d h⟩ (by simp only;omega);clear U j;have hx:=hn a (AE Q);have p:=yL ch a.vars (by omega) V;generalize a.body.size=z at *;obtain ⟨c,vs,o1,n1,u1,hp,ho,h6⟩:=a;simp only [exA,Al.body,Al.vars,Al.A6,Ex.A6,AB,AJ] at he f p D;(repeat' (first|refine wQ ?_|refine AN.det (p) ?_|fail)<;>try simp only [BI q,he,go_sem]);refine AN.mk rfl f ?_;rintro _ d ⟨rfl,t⟩;simp only [E,go_sem];(repeat' refine wQ ?_<;>simp only [E,go_sem]);exact D d t
    . rw [AR (by omega)] at r;(repeat' refine wP ?_<;>simp only [B5 q,go_sem]);exact W.fin mE rfl (fun _ _ h=>h) (X.le_refl _) ⟨rfl,g,v1,h0 g _ r (by omega),P⟩
end
section
variable {P:Program} {base N:Nat} {g g':Gh} {Pr:Nat->Prop} {A H:X} {w0 w w':World}
theorem VR.AWO {s:M} {v:Value} (h:VR g (.d (.str s)) v):v= .string ⟨s.toArray⟩/\s.length<=maxLen:=by
 cases h with|d h=>cases h with|str h=>grind
abbrev CE2:=M×Fin 2000000000
def ZQ (x:CE2):List Value:=[.string ⟨x.1.toArray⟩,.int .i64 (x.2.val:Int)]
def cps:List CE2->List I
 |[]=>[]
 |x::l=>.d (.str x.1)::.d (.int .i64 (x.2.val:Int))::cps l
theorem Yj:∀l:List CE2,(cps l).length=l.length * 2
 |[]=>rfl
 |x::l=>by simp only [cps,AT,Yj l];omega
theorem AP1:∀l:List CE2,BA (cps l)=true
 |[]=>rfl
 |x::l=>by
  have:=AP1 l;simp only [BA,cps,BK,I.Bo,Fe] at this ⊢;exact this
theorem AAF:∀(l:List CE2) (q:Nat) (x:CE2),l[q]?=some x->(cps l)[q * 2]?=some (.d (.str x.1))/\(cps l)[q * 2+1]?=some (.d (.int .i64 (x.2.val:Int)))
 |[],q,x,h=>by simp at h
 |y::l,0,x,h=>by simp only [A7,AP] at h;subst h;simp [cps]
 |y::l,q+1,x,h=>by
  have:=AAF l q x (by simpa using h);rw [show (q+1) * 2=q * 2+1+1 by omega];simpa [cps] using this
theorem AP2 {vs:Array Value} {l:List CE2} (h:VRs g (cps l) (vs.toList.take (cps l).length)) (q:Nat) (x:CE2) (e:l[q]?=some x):
 vs[q * 2]?=some (.string ⟨x.1.toArray⟩)/\vs[q * 2+1]?=some (.int .i64 (x.2.val:Int))/\x.1.length<=maxLen:=by
 obtain ⟨b,c⟩:=AAF l q x e;obtain ⟨v,k,d⟩:=h.at _ _ b;obtain ⟨u,j,a⟩:=h.at _ _ c;obtain ⟨rfl,f⟩:=d.AWO;obtain ⟨rfl,i⟩:=a.AKP
 grind
theorem AU4 (x:Fin 2000000000):IntKind.i64.has (x.val:Int):=by
 have:=x.isLt;exact ⟨show (-9223372036854775808:Int)<=_ by omega,show _<=(9223372036854775807:Int) by omega⟩
theorem AUR (vs:Array Value) (l:List CE2) (o:(cps l).length<=vs.size) (h:∀(q:Nat) (x:CE2),l[q]?=some x->vs[q * 2]?=some (.string ⟨x.1.toArray⟩)/\vs[q * 2+1]?=some (.int .i64 (x.2.val:Int))/\x.1.length<=maxLen):
 VRs g (cps l) (vs.toList.take (cps l).length):=by
 refine VRs.Qe _ _ (by simp;omega) (fun t c v a b=>?_);have i:t < (cps l).length:=(AG.1 a).1;have n:t / 2 < l.length:=by rw [Yj] at i;omega
 obtain ⟨x,j⟩:∃x,l[t / 2]?=some x:=⟨l[t / 2],by simp [n]⟩;obtain ⟨d,f,m⟩:=h _ x j;obtain ⟨k1,k⟩:=AAF l _ x j;rw [F9,if_pos i,Array.getElem?_toList] at b;rcases Nat.mod_two_eq_zero_or_one t with e|e
 . rw [show t / 2 * 2=t by omega] at d k1;rw [k1] at a;rw [d] at b;cases a;cases b;exact .d (.str m)
 . rw [show t / 2 * 2+1=t by omega] at f k;rw [k] at a;rw [f] at b;cases a;cases b;exact .d (.int (AU4 _))
def gW (x y:CE2):Int:=(x.2.val:Int) - (y.2.val:Int)
theorem APT:SWO (ltOf gW) where
 irrefl x:=by simp [ltOf,gW]
 trans x y z h1 h2:=by
  have h1:gW x y < 0:=of_decide_eq_true h1;have h2:gW y z < 0:=of_decide_eq_true h2;exact decide_eq_true (show gW x z < 0 by unfold gW at *;omega)
 ntrans x y z h1 h2:=by
  have h1:¬gW x y < 0:=of_decide_eq_false h1;have h2:¬gW y z < 0:=of_decide_eq_false h2;exact decide_eq_false (show ¬gW x z < 0 by unfold gW at *;omega)
theorem Ac3 (d:Array CE2) (q:Nat) (x:CE2) (h:d[q]?=some x):d[q]! =x:=by
 grind
theorem AD4 (d:Array CE2) (q:Nat) (x:CE2) (h:d[q]?=some x):(flatK ZQ 2 d)[q * 2]! = .string ⟨x.1.toArray⟩/\(flatK ZQ 2 d)[q * 2+1]! = .int .i64 (x.2.val:Int):=by
 have a:q < d.size:=(b9.1 h).1;rw [get_flatK _ _ _ _ (by omega),get_flatK _ _ _ _ (by omega),show q * 2 / 2=q by omega,show (q * 2+1) / 2=q by omega,show q * 2 % 2=0 by omega,show (q * 2+1) % 2=1 by omega,Ac3 d q x h];exact ⟨rfl,rfl⟩
theorem AOG {f sf:FuncId}
 (hc:∀(C cap:Nat) (d:Array CE2) (w:World),HoldsK ZQ 2 w C 0 d->C < w.heap.size->d.size < 4611686018427387904->
   Calls P f #[.slice (some ⟨C,0,none⟩) d.size cap,.func (.func sf) #[] #[]] w fun e w'=>e= .returned (.tuple #[])/\∃a n os,PermIn 0 d.size d a/\SortedIn (ltOf gW) 0 d.size a/\w'=sortWorldK ZQ 2 w C 0 n a os)
 {i e:Nat} {l:List CE2} (h7:l.length < 4611686018427387904) (hb:A.C i=some (cps l)):
 AS P f [.ms i l.length 2 e,.fn sf [] []] A (fun v H=>v= .tup []/\∃l',l'.Perm l/\H=A.AI i (cps l')):=by
 intro base g Pr w0 w vs R hv;obtain ⟨v,u,rfl,h1,h2⟩:=hv.two;obtain ⟨b,hm,hs⟩:=R.shr i _ hb;cases h1 with|@ms _ _ _ _ _ cap F _ _ _=>
 rw [hm] at F;cases F;cases h2 with|@fn _ _ _ fs cs hl Y _ _=>
 obtain rfl:fs=[]:=Rr.1 hl;obtain rfl:cs=[]:=Rr.1 Y;obtain ⟨vs,ty,Q,B,h6,h3⟩:=hs.row;have s:=fun q x N=>AP2 h3 q x N;have Z:b < w.heap.size:=(b9.1 Q).1;have T:∀o,w.frozen? ⟨b,o,none⟩=false:=fun o=>by simp [World.frozen?,Q]
 have hH:HoldsK ZQ 2 w b 0 l.toArray:=by
  intro j hj;rw [size_flatK] at hj;have U:j / 2 < l.length:=by grind
  obtain ⟨x,N⟩:∃x,l[j / 2]?=some x:=⟨l[j / 2],by simp [U]⟩;obtain ⟨r1,r2,_⟩:=s _ x N;obtain ⟨f1,f2⟩:=AD4 l.toArray (j / 2) x (by grind);refine ⟨?_,T _⟩;rw [Av];simp only [World.cell?,Q,id];rcases Nat.mod_two_eq_zero_or_one j with e|e
  . grind
  . grind
 have m:=hc b cap l.toArray w hH Z (by grind);rw [Tl] at m;refine m.mono ?_;rintro ex w' ⟨rfl,a,n,os,⟨K,_,L⟩,h0,rfl⟩;simp only [Tl] at K L h0;have y:∀(d:Array CE2),d.size=l.length->(d.extract 0 l.length).toList=d.toList:=fun d hd=>by rw [<- hd];simp
 rw [y _ K,y _ (by simp)] at L;have c:a.toList.Perm l:=by grind
 have S:(sortWorldK ZQ 2 w b 0 n a os).heap[b]?=some (.cells (putCells id 0 (flatK ZQ 2 a) vs) ty (0,0)):=by
  unfold sortWorldK putRowK putRow mapBlock;show ((w.heap.modify b (onCells (putCells id 0 (flatK ZQ 2 a))))++os)[b]?=_;rw [Array.getElem?_append,if_pos (by grind),WD,if_pos rfl,Q];rfl
 have r:∀k,k < w.heap.size->k≠b->(sortWorldK ZQ 2 w b 0 n a os).heap[k]?=w.heap[k]?:=fun k D h5=>by
  unfold sortWorldK putRowK putRow mapBlock;show ((w.heap.modify b (onCells (putCells id 0 (flatK ZQ 2 a))))++os)[k]?=_
  grind
 have h:w.heap.size<=(sortWorldK ZQ 2 w b 0 n a os).heap.size:=by grind
 have E:a.toList.length=l.length:=c.length_eq
 have h4:∀t,(putCells id 0 (flatK ZQ 2 a) vs)[t]?=(vs[t]?).map fun x=>if t < a.size * 2 then (flatK ZQ 2 a)[t]! else x:=fun t=>by
  simp only [putCells,Array.getElem?_mapIdx,size_flatK,D7,true_and,Av,Nat.sub_zero,id]
 have z:(putCells id 0 (flatK ZQ 2 a) vs).size=vs.size:=by simp [putCells]
 rw [Yj] at B;refine ⟨_,.tup [],g,A.AI i (cps a.toList),rfl,.tup (vs:=[]) rfl (by simp),?_,Gh.le_refl g,⟨h,fun k D=>r k (R.pr k D).1 (fun e=>hs.pr (e ▸ D))⟩,rfl,a.toList,c,rfl⟩;refine R.write hb hm h r ⟨rfl,rfl,rfl,h,fun k D=>r k (Be D R.bs) (by have:=hs.low;omega)⟩ S (by rw [z,Yj,E];exact B) (fun t ht=>by grind) ?_ (AP1 _);refine AUR _ _ (by rw [z,Yj,E];exact B) (fun q x N=>?_);have hq:q < a.size:=by grind
 obtain ⟨f1,f2⟩:=AD4 a q x (by grind)
 have h8:x.1.length<=maxLen:=by
  have G:x∈l:=c.mem_iff.1 (AE N);obtain ⟨p,hp⟩:=Hn.1 G;exact (s p x hp).2.2
 grind
theorem pR:∀(l:List (M×Int)),(∀x∈l,0<=x.2/\x.2 < 2000000000)->∃m:List CE2,m.map (fun x=>(x.1,(x.2.val:Int)))=l
 |[],_=>⟨[],rfl⟩
 |(s,v)::l,h=>by
  obtain ⟨m,c⟩:=pR l fun x a=>h x (AZ _ a);have b:=h (s,v) AY;exact ⟨(s,⟨v.toNat,by grind⟩)::m,by grind⟩
theorem Yi:∀m:List CE2,cps m=BL ((m.map fun x=>(x.1,(x.2.val:Int))).map Sk)
 |[]=>rfl
 |x::m=>by rw [cps,Yi m];rfl
end
section
variable {B:LB} {O A V Φ Ψ:X} {S:LSt}
theorem Ext.one {S':LSt} {x:XE} (f:S'.xs=S.xs++[x]) (d:S'.vars=S.vars) (a:∀(i:Nat) (x:Cd),S.Bw[i]?=some x->S'.Bw[i]?=some x) (c:S'.nt=S.nt) (g:x.nf S.xs.length S.vars.length (S.xs.length+1)):Ext S S' 1/\S.xs.length < S'.xs.length:=by
 have b:S'.xs.length=S.xs.length+1:=by rw [f];simp
 refine ⟨⟨⟨fun i y e=>by grind,by omega,by grind,a,c,by simp only [LSt.sz,b,d];omega⟩,fun i y h _ e=>?_⟩,by omega⟩
 grind
def AN9 (n:Int) (x:XE):XE:= { x with num:=n}
def Hk (vs:List Int) (vv:I) (x:XE):XE:= { x with vars:=vs,vv:=vv}
theorem Vn {x:XE} {i m n:Nat} (d:¬brO x.op) (a:x.kids=[]) (b:x.binds=[]) (e:∀v∈x.vars,0<=v/\v < (m:Int)) (c:x.vars.length<=100000000:=by simp [Hk,AN9,D4]):x.nf i m n:=
 ⟨⟨fun h=>absurd h d,fun h=>absurd a h⟩,by rw [a,b];rfl,fun k f=>(by grind),e,by grind,c⟩
theorem LG.AQL {cv vv ev ja nv:I} {i o:Nat} {x:XE} {f:XE->XE} {v:I} (j:LG B Φ V S cv vv ev ja nv) (d:S.xs[i]?=some x) (k:o < 8) (m:x.row.take o++[v]++x.row.drop (o+1)=(f x).row) (h:(f x).ow=x.ow) (l:RvX (f x)):
 ∃c,ev= .ms c S.xs.length 8 tkX/\V.C c=some (rwC XE.row S.xs)/\((i:Int) < ((S.xs.length:Nat):Int))=True/\(i * 8+o+1<=(rwC XE.row S.xs).length)=True/\
  (rwC XE.row S.xs).take (i * 8+o)++[v]++(rwC XE.row S.xs).drop (i * 8+o+1)=rwC XE.row (S.DM i f).xs/\LG B Φ (V.AI c (rwC XE.row (S.DM i f).xs)) (S.DM i f) cv vv ev ja nv/\B.i≠c/\Φ.C c=none:=by
 obtain ⟨c,rfl,e,a,b⟩:=j.ex d;have g:=(AG.1 d).1;exact ⟨c,rfl,e,ltT g,by rw [Dd XE.row 8 XE.Bj];simp;omega,Of XE.row 8 XE.Bj o v f d k m,j.AbT d h l rfl a b,b,a⟩
theorem LG.Ia {cv vv ev ja nv:I} {i o:Nat} {x:XE} {f:XE->XE} {v:I} (d:LG B Φ V S cv vv ev ja nv) (h:S.xs[i]?=some x) (e:o < 8) (g:x.row.take o++[v]++x.row.drop (o+1)=(f x).row) (b:(f x).ow=x.ow) (c:DG (f x).vv ((f x).vars.map Ez)/\DG (f x).bv ((f x).binds.map zW)):
 ∃a,ev= .ms a S.xs.length 8 tkX/\V.C a=some (rwC XE.row S.xs)/\((i:Int) < ((S.xs.length:Nat):Int))=True/\(i * 8+o+1<=(rwC XE.row S.xs).length)=True/\
  (rwC XE.row S.xs).take (i * 8+o)++[v]++(rwC XE.row S.xs).drop (i * 8+o+1)=rwC XE.row (S.DM i f).xs/\LG B Φ (V.AI a (rwC XE.row (S.DM i f).xs)) (S.DM i f) cv vv ev ja nv/\B.i≠a/\Φ.C a=none:=
 d.AQL h e g b ⟨c.1,c.2.cel (AA ..)⟩
theorem LH.Ia {i o:Nat} {x:XE} {f:XE->XE} {v:I} (h:LH B Φ V S) (k:S.xs[i]?=some x) (e:o < 8) (j:x.row.take o++[v]++x.row.drop (o+1)=(f x).row) (b:(f x).ow=x.ow) (g:DG (f x).vv ((f x).vars.map Ez)/\DG (f x).bv ((f x).binds.map zW)):
 ∃cv vv a c nv,V.C B.i=some (lgC B S.fl cv vv (.ms a S.xs.length 8 tkX) c nv)/\V.C a=some (rwC XE.row S.xs)/\((i:Int) < ((S.xs.length:Nat):Int))=True/\(i * 8+o+1<=(rwC XE.row S.xs).length)=True/\
  (rwC XE.row S.xs).take (i * 8+o)++[v]++(rwC XE.row S.xs).drop (i * 8+o+1)=rwC XE.row (S.DM i f).xs/\LH B Φ (V.AI a (rwC XE.row (S.DM i f).xs)) (S.DM i f):=by
 obtain ⟨cv,vv,r,c,nv,d⟩:=h;obtain ⟨a,rfl,l,m,n,p,q,_⟩:=d.Ia k e j b g;exact ⟨cv,vv,a,c,nv,d.bi,l,m,n,p,_,_,_,_,_,q⟩
theorem IH (S:LSt) (x:XE):(S.Cm x).xs[S.xs.length]?=some x:=qW _ _
theorem Tq (S:LSt) (x:XE) (f:XE->XE):(S.Cm x).DM S.xs.length f=S.Cm (f x):=by
 unfold LSt.DM LSt.Cm;simp only [AR1]
structure LOK (B:LB):Prop where
 fl:B.p.Ca.length<=24
 dz:∀D∈B.dt,D.cons.length<=8/\∀c∈D.cons,c.args.length<=6/\Ty.AQ c.args<=100000
theorem APN {nt:List Nte} {nm:M} {a:Nat} (h:(fnI B.p.Ca nm,(nt.getD a (.mk 0 0 [],[])).2)∈B.ins) (c:fnI B.p.Ca nm≠-1):0<=AG6 B nt nm a:=by
 unfold AG6 fnI at *;cases b:B.p.Ca.findIdx? (fun f=>f.name==nm) with
 |none=>grind
 |some i=>
  rw [b] at h;simp only at h ⊢;cases d:B.ins.findIdx? (eqI ((i:Int),(nt.getD a (.mk 0 0 [],[])).2)) with
  |none=>
   grind [fO,eqI,hY]
  |some j=>simp [Hq]
theorem ARN (hB:LOK B) {nm:M} {u:Int} {ns:List M} {ks:List Ex} {al:List Al} {a:Nat} {sc:List M} {ch:Ch} (F:BF B S.nt a (.mk 4 nm u ns ks al) sc) (hc:Cov (.mk 4 nm u ns ks al) sc ch) (ho:Ho S.vars.length ch) (hz:S.sz+1<=50000000) (h:LH B O A S):
 AS Tzp 54 [.gp B.i 0,exA (.mk 4 nm u ns ks al),.d (.int .i64 (a:Int)),.d (chD ch)] A (EQ B O S 1):=by
 have h4:=F.ln;rw [Ex.size] at h4;obtain ⟨n,m⟩:=Ak (show a < S.nt.length by omega);have p:=Au (J:=Cf) m;have D:=ltT (show a < S.nt.length by omega);obtain ⟨cv,vv,ev,ja,nv,hg⟩:=id h;have g:=hg.bi;have K:=hg.ok.nt;have h5:=hg.nv (BC (by omega));subst h5;obtain ⟨⟨n1,n2,n3⟩,na⟩:=n;obtain ⟨l,k,hj⟩:=K.2 _ (AE m);have P:(Ty.mk n1 n2 n3).size<=200:=by simp only [Fg,AM,decide_eq_true_eq] at l;omega
 simp only [Cf,Ty.J,AU,A3] at p;have j:=fun op=>Fu (B:=B) op 0 (.mk n1 n2 n3) P (by omega) h;have d:=dY ch nm A;simp only [tyA,Ty.J,AB,AJ] at j;refine Ws.go ?_;rw [Ka];simp only [exA,Ex.A6,AB,AJ];unfold lgC at g;cases Z:DP ch nm with
 |some v=>
  rw [Z,dZ] at d;(repeat' (first|refine wQ ?_|refine AN.det (d) ?_|fail)<;>try simp only [g,p,go_sem]);refine AN.mk rfl (j _) ?_;rintro _ V ⟨rfl,hL⟩;obtain ⟨h1,h9,jx,h6,h7,s,R,T,U,z,p6⟩:=hL.Ia (o:=2) (v:= .d (.sl [[.int .i64 v]])) (f:=Hk [v] (.d (.sl [[.int .i64 v]]))) (IH _ _) (by omega) rfl rfl ⟨DG.d _,DG.Ac⟩;rw [Tq] at z p6;unfold lgC at s;simp only [s,R,T,U,z,go_sem];(repeat' refine wP ?_<;>simp only [go_sem]);refine ⟨rfl,_,p6,Ext.one rfl rfl (fun _ _ h=>h) rfl (Vn (show ¬brO 4 by decide) rfl rfl fun w hw=>?_)⟩;simp only [Hk,A9] at hw;subst hw;exact ho.lt _ (Lx Z)
 |none=>
  rw [Z,dZ] at d
  have q:sc.contains nm=false:=by
   have hm:=F.me.nb
   have h0:nm≠[]:=by
    simp only [nb1,J3,nmB,Ex.op,Ex.name,AM,if_true] at hm;rintro rfl;exact absurd hm.1.1.1.1 (by decide)
   have:=hc nm (Lc.var h0);rw [Z] at this;exact this.symm
  obtain ⟨us,y,c,hk⟩:=F.me.hd 0 9 0 1 (.inl ⟨rfl,q,rfl,rfl,rfl,rfl⟩);rw [CC,m] at c;cases c;obtain ⟨us,r,rfl⟩:∃h8 r,n3=h8++[r]:=⟨_,_,(List.dropLast_concat_getLast (BC (by omega))).symm⟩
  have N:=APN (F.me.ref rfl (by simpa [Ex.name] using q)) (by
   have hv:=F.me.vis;simp only [M4,Ex.op,Ex.name,if_true,q,N6,Fe] at hv
   grind [Ex.name,fnI,YH,Dz,DB,absurd])
  (repeat' (first|refine wQ ?_|refine AN.det (d) ?_|fail)<;>try simp only [g,p,go_sem]);refine AN.mk rfl (j _) ?_;rintro _ V ⟨rfl,hL⟩;obtain ⟨h1,h9,he,h6,h7,e⟩:=id hL;have b:=e.bi;have L:=e.nv (BC (by show 0 < S.nt.length;omega));subst L;obtain ⟨jx,rfl,hi,ha,hd⟩:=e.ex (IH _ _);have h2:=fun fl cv vv ev ja A hb=>gS B fl cv vv ev ja A S.nt hb K nm a (by omega) hB.fl;have c:∀t∈us++[r],t.size<=200:=fun t ht=>by have:=Ty.EJ ht;rw [Ty.size] at P;omega
  have Q:us.length<=10:=by
   simp only [Fg,C1,DS,AM,decide_eq_true_eq] at l;have:=l.2.1;simp at this;omega
  have G:=yM 9 0 us r 0 [] 0 [] [] [] 0 [] [] (.sl []) [] (AG6 B S.nt nm a) ⟨⟨by simp,by simp⟩,⟨fun t ht=>c t (by simp [ht]),Q⟩,.inl ⟨N,rfl,rfl⟩⟩ (by omega) (c r (by simp)) e;have E:=b;unfold lgC at b;simp only [b,go_sem];refine ⟨?_,?_⟩
  all_goals
   try (repeat' (first|refine wQ ?_|refine AN.det (h2 _ _ _ _ _ _ E) ?_|fail)<;>try simp only [b,go_sem])
   repeat' (with_reducible refine DF ?_ ?_)
  all_goals
   refine AN.mk rfl (AS.plain (by simp only [I.C3,I.plain];exact G)) ?_;rintro _ hn ⟨⟨x,rfl⟩,S',cv',ja',k,Y,e2,e3,e4⟩;obtain ⟨jy,h3,R,T,U,z,p6,_⟩:=k.Ia (i:=S.xs.length) (x:=D4 11 0 (.mk 9 0 (us++[r]))) (o:=1) (v:= .d (.int .i64 x)) (f:=AN9 x) (by rw [Y];exact IH _ _) (by omega) rfl rfl ⟨DG.Ac,DG.Ac⟩;obtain rfl:jx=jy:=by injection h3
   have s:=k.bi;unfold lgC at s;simp only [s,R,T,U,z,<- Y,go_sem];(repeat' refine wP ?_<;>simp only [go_sem]);refine ⟨rfl,_,⟨_,_,_,_,_,p6⟩,Ext.one (x:=AN9 x (D4 11 0 (.mk 9 0 (us++[r])))) ?_ e2 e4 e3 (Vn (show ¬brO 11 by decide) rfl rfl fun w hw=>by cases hw)⟩;show S'.xs.modify _ _=_;rw [Y];exact AR1 _ _ _
end
section
variable {B:LB} {O A V Φ Ψ:X} {S:LSt}
theorem EQ.base {c:Nat} {v:I} (h:EQ B Φ S c v A) (f:O.le Φ):EQ B O S c v A:=by
 obtain ⟨a,S',b,d,e⟩:=h;exact ⟨a,S',b.base f,d,e⟩
theorem EQ.up {c d:Nat} {v:I} (h:EQ B O S c v A) (g:c<=d):EQ B O S d v A:=by
 obtain ⟨a,S',b,e,f⟩:=h;exact ⟨a,S',b,e.up g,f⟩
structure FrL (B:LB) (O Φ A:X) (S:LSt):Prop where
 le:O.le Φ
 h:LH B Φ A S
theorem FrL.put (f:FrL B O Φ A S) {j:Nat} (a:A.C j=none) (cs:List I):FrL B O (Φ.AI j cs) (A.AI j cs) S:=
 ⟨B6 f.le (le_none f.le (le_none f.h.le a)),f.h.put (.inl a) cs⟩
theorem FrL.alt (f:FrL B O Φ A S) {j:Nat} {x:Nat×Go.TypeId} (a:A.C j=none/\A.bt j=none) (cs:List I):FrL B O ((Φ.AI j cs).BM j x) ((A.AI j cs).BM j x) S:=
 ⟨AE0 (B6 f.le (le_none f.le (le_none f.h.le a.1))) (show Φ.bt j=none from zX f.h.le a.2),f.h.alt a cs⟩
theorem FrL.set (f:FrL B O Φ A S) {j:Nat} (b:Φ.C j≠none) (a:O.C j=none) (cs:List I):FrL B O (Φ.AI j cs) (A.AI j cs) S:=
 ⟨B6 f.le a,f.h.put (.inr b) cs⟩
theorem ARJ {op num:Int} {t:Ty} {vs:List Int} (b:¬brO op) (c:∀v∈vs,0<=v/\v < (S.vars.length:Int)) (a:vs.length<=100000000):Ext S (S.Cm (Hk vs (.d (.sl (vs.map Ez))) (D4 op num t))) 1/\S.xs.length < (S.Cm (Hk vs (.d (.sl (vs.map Ez))) (D4 op num t))).xs.length:=
 Ext.one rfl rfl (fun _ _ h=>h) rfl (Vn b rfl rfl c a)
theorem AQM (code:Int) (t:Ty) (y:t.size<=200) (jb jc jt:Nat) (m:O.C jb=some [.gp B.i 0]) (e:O.C jc=some [.d (.int .i64 code)]) (g:O.C jt=some (t.J.map I.d)) (nt:List Nte) (nv n:Nat):AGR B O nt nv n 1 104 [.gp jb 0,.gp jc 0,.gp jt 0]:=by
 intro Φ S A vs a d _ _ ⟨_,h⟩ i x;have c:=Fu (B:=B) 12 code t y (by omega) d;have t1:=d.le.C _ _ (a.C _ _ m);have t2:=d.le.C _ _ (a.C _ _ e);have t3:=d.le.C _ _ (a.C _ _ g);refine My.go ?_;rw [Ka];obtain ⟨k,G,us⟩:=t;simp only [tyA,Ty.J,AB,AJ] at c t3;(repeat' refine wQ ?_<;>simp only [t1,t2,t3,go_sem]);refine AN.mk rfl c ?_;rintro _ V ⟨rfl,b⟩;have u:=b.le.C _ _ (a.C _ _ m);obtain ⟨w,E,F,z,D,j,p,q,r,l,s⟩:=b.Ia (o:=2) (v:= .d (.sl (vs.map Ez))) (f:=Hk vs (.d (.sl (vs.map Ez)))) (IH _ _) (by omega) rfl rfl ⟨DG.d _,DG.Ac⟩;rw [Tq] at l s;unfold lgC at j;simp only [u,j,p,q,r,l,go_sem];(repeat' refine wP ?_<;>simp only [go_sem]);exact ⟨rfl,_,s,ARJ (by decide) i h⟩
theorem AQN (t:Ty) (x:t.size<=200) (jb jt:Nat) (l:O.C jb=some [.gp B.i 0]) (e:O.C jt=some (t.J.map I.d)) (nt:List Nte) (nv n:Nat):AGR B O nt nv n 1 105 [.gp jb 0,.gp jt 0]:=by
 intro Φ S A vs a d _ _ ⟨_,g⟩ h w;have c:=Fu (B:=B) 13 0 t x (by omega) d;have t1:=d.le.C _ _ (a.C _ _ l);have t3:=d.le.C _ _ (a.C _ _ e);refine Mz.go ?_;rw [DN];obtain ⟨k,F,us⟩:=t;simp only [tyA,Ty.J,AB,AJ] at c t3;(repeat' refine wQ ?_<;>simp only [t1,t3,go_sem]);refine AN.mk rfl c ?_;rintro _ V ⟨rfl,b⟩;have s:=b.le.C _ _ (a.C _ _ l);obtain ⟨u,D,E,y,z,i,m,p,q,j,r⟩:=b.Ia (o:=2) (v:= .d (.sl (vs.map Ez))) (f:=Hk vs (.d (.sl (vs.map Ez)))) (IH _ _) (by omega) rfl rfl ⟨DG.d _,DG.Ac⟩;rw [Tq] at j r;unfold lgC at i;simp only [s,i,m,p,q,j,go_sem];(repeat' refine wP ?_<;>simp only [go_sem]);exact ⟨rfl,_,r,ARJ (by decide) h g⟩
theorem rW {nt:List Nte} {o:Int} {n:M} {u:Int} {ns:List M} {ks:List Ex} {al:List Al} {a:Nat} {sc:List M} {ch:Ch} (h:BF B nt a (.mk o n u ns ks al) sc) (g:Cov (.mk o n u ns ks al) sc ch) (f:∀k∈ks,N7 B k) {i:Nat} {k:Ex} (c:ks[i]?=some k) (j:Ct o n ns [] i=[]):
 ∃d b,(plK a ks)[i]?=some d/\d < nt.length/\N7 B k/\BF B nt d k b/\Cov k b ch:=by
 have e:=h.kid c;refine ⟨_,_,ASF (AG.1 c).1,?_,f k (AE c),e,g.kid c fun s _=>by rw [j];simp⟩;have:=e.ln;have:=k.size_pos;omega
theorem AS5 {α:Type} {J:α->List DV} {s:Nat} (h:∀x,(J x).length=s) (x:α) (l:List α):Z3 (J x::l.map J) (some (.d (.int .i64 1))) none none s=some (.d (.sl (l.map J))):=by
 have a:Y4 (J x::l.map J) s=true:=by
  simp [Y4,h]
 simp [Z3,a,fZ,Vm];rw [AR (by simp)]
theorem ASG (a:Nat) (k:Ex) (ks:List Ex):∃b,plK a (k::ks)=(a+1)::b/\b.length=ks.length/\∀i,b[i]?=(plK a (k::ks))[i+1]?:=by
 have d:(plK a (k::ks)).length=ks.length+1:=by simp [plK]
 have c:=ASF (a:=a) (ks:=k::ks) (i:=0) (by simp);rw [CD,Ex.AQ,CC] at c;generalize plK a (k::ks)=m at *;cases m with
 |nil=>simp at d
 |cons y m=>grind
theorem oR (hB:LOK B) {nm:M} {u:Int} {ns:List M} {ks:List Ex} {al:List Al} {a:Nat} {sc:List M} {ch:Ch} (hE:∀k∈ks,N7 B k) (hf:BF B S.nt a (.mk 12 nm u ns ks al) sc) (hc:Cov (.mk 12 nm u ns ks al) sc ch) (ho:Ho S.vars.length ch) (hz:S.sz+(100 * Ex.AQ ks+2 * ks.length+1)<=50000000) (h:LH B O A S):
 AS Tzp 57 [.gp B.i 0,exA (.mk 12 nm u ns ks al),.d (.int .i64 (a:Int)),.d (chD ch)] A (EQ B O S (100 * Ex.AQ ks+2 * ks.length+1)):=by
 have h1:=hf.ln;rw [Ex.size] at h1;obtain ⟨n,hj⟩:=Ak (show a < S.nt.length by omega);have h5:=Au (J:=Cf) hj;have h8:=ltT (show a < S.nt.length by omega);obtain ⟨cv,vv,ev,ja,nv,hg⟩:=id h;have F:=hg.bi;have hbi2:=F;have fs:=h.gi;have o:=hg.ok.nt;have us:=hg.nv (BC (by omega));subst us;have g:=fun A=>Pt 12 nm u ns ks al a (by have:=o.1;rw [Ex.size];omega) A;obtain ⟨⟨z,D,E⟩,na⟩:=n;obtain ⟨hy,Z,hg3⟩:=o.2 _ (AE hj);have P:(Ty.mk z D E).size<=200:=by simp only [Fg,AM,decide_eq_true_eq] at hy;omega
 simp only [Cf,Ty.J,AU,A3] at h5;refine O7.go ?_;rw [Ka];simp only [exA,Ex.A6,AB,AJ] at g ⊢;unfold lgC at F;(repeat' refine wQ ?_<;>simp only [go_sem]);intro jb he;have h0:B.i≠jb:=fun e=>fs (by rw [e];exact he);simp only [if_neg h0,F,h5,go_sem];(repeat' (first|refine wQ ?_|refine AN.det (g _) ?_|fail)<;>try simp only [if_neg h0,F,h8,h5,AA,go_sem]);intro jt K;have y:jt≠jb:=fun e=>by grind
 rw [if_neg y] at K;have p:=(((FrL.mk (X.le_refl O) h).put he [.gp B.i 0]).alt (j:=jt) (x:=(3,42)) ⟨by rw [AD,if_neg y];exact K.1,K.2⟩ [A1 0,A1 0,.Ac]).set (j:=jt) (by simp [BE,AD]) (le_none h.le K.1) [A1 z,A1 D,BU (Ty.Cz E)];have L:(((((O.AI jb [I.gp B.i 0]).AI jt [A1 0,A1 0,.Ac]).BM jt (3,42)).AI jt [A1 z,A1 D,BU (Ty.Cz E)])).C jb=some [.gp B.i 0]:=by simp [BE,AD,A5 y]
 have N:(((((O.AI jb [I.gp B.i 0]).AI jt [A1 0,A1 0,.Ac]).BM jt (3,42)).AI jt [A1 z,A1 D,BU (Ty.Cz E)])).C jt=some [A1 z,A1 D,BU (Ty.Cz E)]:=by simp [AD]
 simp only [BE,AD,if_true,if_neg y,go_sem];generalize hΦ:(((((O.AI jb [I.gp B.i 0]).AI jt [A1 0,A1 0,.Ac]).BM jt (3,42)).AI jt [A1 z,A1 D,BU (Ty.Cz E)]))=Φ at p L N;generalize hτ:(((((A.AI jb [I.gp B.i 0]).AI jt [A1 0,A1 0,.Ac]).BM jt (3,42)).AI jt [A1 z,A1 D,BU (Ty.Cz E)]))=V at p ⊢;have R:=p.h.le.C _ _ L;have u2:=p.h.le.C _ _ N
 have vs:1<=ks.length/\ks.length<=7:=by
  have hm:=hf.me.nb;simp only [nb1,J3,nkB,Ex.op,Ex.num,Ex.kids,AM] at hm;have:=hm.2;simp at this;exact ⟨of_decide_eq_true this.1,of_decide_eq_true this.2⟩
 obtain ⟨k0,Q,rfl⟩:∃k0 Q,ks=k0::Q:=by
  cases ks with
  |nil=>simp at vs
  |cons x l=>grind
 obtain ⟨pt,hpk,hp,cs⟩:=ASG a k0 Q;have ds:=fun i k hk=>rW hf hc hE (i:=i) (k:=k) hk rfl;have c:=AS5 (J:=Ex.J) (s:=6) (fun x=>by obtain ⟨⟩:=x;rfl) k0 Q;have f:=AS5 (J:=Ba) (s:=1) (fun x=>rfl) (a+1) pt;rw [hpk] at g;obtain ⟨cv2,vv2,ev2,ja2,nv2,Z⟩:=id p.h;have m:=Z.bi;have hn:=Z.nv (BC (by omega));subst hn;have h9:=m;have hb:=fun nm=>gS B _ _ _ _ _ _ S.nt m o nm (a+1) (by have:=k0.size_pos;rw [Ex.AQ] at h1;omega) hB.fl;unfold lgC at m;obtain ⟨o0,b,u0,h7,h6,T⟩:=k0;have G:=dY ch b V;simp only [AB,Ex.A6,Ba] at c f g ⊢;by_cases ht:o0=4/\DP ch b=none
 . obtain ⟨rfl,hl⟩:=ht;rw [hl,dZ] at G;(repeat' (first|refine wQ ?_|refine AN.det (g _) ?_|refine AN.det (G) ?_|refine AN.det (hb _) ?_|fail)<;>try simp only [R,AT,A7,DU,Bb,if_true,beq_self_eq_true,go_sem]);have hx:=hb b;have hs:V.C B.i≠none:=p.h.gi
   repeat' (with_reducible refine DF ?_ ?_)
   all_goals try (refine AN.det hx ?_;simp only [go_sem])
   repeat' (with_reducible refine DF ?_ ?_)
   all_goals
    intro jc hi;have q:jc≠jb:=fun e=>by grind
    have t:jc≠jt:=fun e=>by grind
    have r:jc≠B.i:=fun e=>hs (by grind);have ha:=gS B _ _ _ _ _ ((V.AI jc [A1 0]).BM jc (1,3)) S.nt (by rw [BE,AD,if_neg (A5 r)];exact h9) o b (a+1) (by have:=(Ex.mk 4 b u0 h7 h6 T).size_pos;rw [Ex.AQ] at h1;omega) hB.fl
    try simp only [BE,AD,if_neg (A5 q),if_true,R,go_sem]
    repeat' (with_reducible refine DF ?_ ?_)
    all_goals try (refine AN.det ha ?_;simp only [BE,AD,if_neg (A5 q),if_true,R,go_sem])
   all_goals
    have hr:=(p.alt (j:=jc) (x:=(1,3)) hi [A1 0]).set (j:=jc) (by simp [BE,AD]) (le_none p.le (le_none p.h.le hi.1)) [A1 (AG6 B S.nt b (a+1))]
    have w:=LN (O:=_) Q pt ch (.mk z D E) 104 [.gp jb 0,.gp jc 0,.gp jt 0] 1 (by kernel_rfl) rfl hp (by grind) (fun i k hk=>by rw [cs];exact ds (i+1) k hk) o ho P (by rw [Ex.AQ,AT] at hz;omega) hr.h
     (AQM (AG6 B S.nt b (a+1)) (.mk z D E) P jb jc jt (by simp only [BE,AD,if_neg (A5 q)];exact L) (by simp only [BE,AD,if_true]) (by simp only [BE,AD,if_neg (A5 t)];exact N) _ _ _)
    simp only [tyA,Ty.J,AB,AJ] at w;simp only [c,f,BE,AD,if_neg (A5 t),u2,go_sem];(repeat' refine wQ ?_<;>simp only [c,f,BE,AD,if_neg (A5 q),if_neg (A5 t),R,u2,go_sem]);refine AN.mk rfl w ?_;rintro _ τ3 U;obtain ⟨rfl,S',h2,h3,h4⟩:=(U.base hr.le).up (d:=100 * Ex.AQ (Ex.mk 4 b u0 h7 h6 T::Q)+2 * (Q.length+1)+1) (by rw [Ex.AQ];omega);simp only [go_sem];(repeat' refine wP ?_<;>simp only [go_sem]);exact ⟨rfl,S',h2,h3,h4⟩
 . have w:=LN (O:=Φ) (.mk o0 b u0 h7 h6 T::Q) ((a+1)::pt) ch (.mk z D E) 105 [.gp jb 0,.gp jt 0] 1 (by kernel_rfl) rfl (by simp [hp]) (by omega) (fun i k hk=>by grind) o ho P hz p.h (AQN (.mk z D E) P jb jt L N _ _ _);simp only [tyA,Ty.J,AB,AJ,Ex.A6,Ba] at w
   have hd:o0=4->∃v,DP ch b=some v:=fun h=>by
    cases p:DP ch b with
    |none=>grind
    |some v=>exact ⟨v,rfl⟩
   cases Y:(o0==4)
   case' true=>
    obtain ⟨v,hv⟩:=hd (by simpa using Y);rw [hv,dZ] at G;(repeat' (first|refine wQ ?_|refine AN.det (g _) ?_|refine AN.det (G) ?_|fail)<;>try simp only [R,u2,Y,AT,A7,DU,Bb,if_true,go_sem])
   case' false=>
    (repeat' (first|refine wQ ?_|refine AN.det (g _) ?_|fail)<;>try simp only [R,u2,Y,AT,A7,DU,Bb,if_true,go_sem])
   all_goals
    refine AN.mk rfl w ?_;rintro _ τ3 U;obtain ⟨rfl,S',h2,h3,h4⟩:=U.base p.le;simp only [go_sem];(repeat' refine wP ?_<;>simp only [go_sem]);exact ⟨rfl,S',h2,h3,h4⟩
end
section
variable {B:LB} {O A V Φ Ψ:X} {S:LSt}
structure Br (S:LSt) (n c:Nat) (x:XE) (T:LSt):Prop where
 le:Le S T c
 nf:NFx S.xs.length [n] T
 n0:S.xs.length<=n
 atx:T.xs[n]?=some x
 kd:∀k∈x.kids,n < k/\k < T.xs.length
theorem Br.new {op num:Int} {t:Ty}:Br S S.xs.length 1 (D4 op num t) (S.Cm (D4 op num t)):=by
 have d:(S.Cm (D4 op num t)).xs.length=S.xs.length+1:=by simp [LSt.Cm]
 refine ⟨⟨fun i y e=>Ic e _,by omega,AW _,fun _ _ h=>h,rfl,by simp [LSt.sz,LSt.Cm];omega⟩,fun i y c b e=>?_,AW _,IH _ _,fun k a=>by cases a⟩
 grind
theorem Br.FN {n c:Nat} {x:XE} {T:LSt} (h:Br S n c x T) (u:Ty):Br S n (c+1) x (T.FN u):=by
 have d:(T.FN u).vars.length=T.vars.length+1:=by simp [LSt.FN]
 refine ⟨⟨h.le.xs,h.le.xl,by have:=h.le.vl;omega,h.le.cs,h.le.nt,by have:=h.le.bd;simp only [LSt.sz,d] at this ⊢;show T.xs.length+_<=_;omega⟩,fun i y b a e=>(h.nf i y b a e).mono (by omega) (AW _),h.n0,h.atx,h.kd⟩
theorem Br.mod {n c:Nat} {x:XE} {T:LSt} (h:Br S n c x T) (f:XE->XE) (b:(f x).kids=x.kids):Br S n c (f x) (T.DM n f):=
 ⟨h.le.DM h.n0 f,h.nf.DM (A9.2 rfl) f,h.n0,eJ h.atx,fun k a=>by rw [b] at a;rw [Im];exact h.kd k a⟩
theorem Br.kid {n c d:Nat} {x:XE} {T T2:LSt} (h:Br S n c x T) (b:Ext T T2 d) (e:T.xs.length < T2.xs.length) (kv:I):Br S n (c+d) (adK T.xs.length kv x) (T2.DM n (adK T.xs.length kv)):=by
 have f:=(AG.1 h.atx).1;refine ⟨(h.le.trans b.le).DM h.n0 _,(h.nf.ext b).DM (A9.2 rfl) _,h.n0,eJ (b.le.xs _ _ h.atx),fun k a=>?_⟩;rw [Im];rcases A2.1 a with a|a
 . have:=h.kd k a;omega
 grind
theorem Br.done {n c:Nat} {x:XE} {T:LSt} (h:Br S n c x T) (e:brO x.op) (b:x.kids≠[]) (a:x.binds.length=x.kids.length) (f:∀v∈x.vars,0<=v/\v < (T.vars.length:Int)) (d:x.kids.length<=100000000/\x.vars.length<=100000000):Ext S T c:=
 ⟨h.le,h.nf.done h.atx ⟨⟨fun _=>b,fun _=>e⟩,a,h.kd,f,d⟩⟩
theorem AP0 {o:Int} {n:M} {u:Int} {ns:List M} {k0 k1:Ex} {al:List Al} {sc:List M} {ch:Ch} (c:o=7\/o=17) (a:Cov (.mk o n u ns [k0,k1] al) sc ch) (v:Int):Cov k1 (Ct o n ns sc 1) (Et ch n v):=
 a.kid (i:=1) rfl fun s d=>by
  have b:Ct o n ns [] 1=if n=[] then [] else [n]:=by unfold Ct;simp [c]
  rw [yP d,b]
  grind
theorem rY {o:Int} (ha:o=7\/o=17) {nm:M} {u:Int} {ns:List M} {k0 k1:Ex} {al:List Al} {a:Nat} {sc:List M} {ch:Ch} {op:Int} {t2:Ty} (hd:brO op) (hj:t2.size<=200) (Q:N7 B k0) (R:N7 B k1) (hf:BF B S.nt a (.mk o nm u ns [k0,k1] al) sc) (hc:Cov (.mk o nm u ns [k0,k1] al) sc ch) (ho:Ho S.vars.length ch)
 (hz:S.sz+(100 * (k0.size+k1.size)+2)<=50000000) (h:LH B O A S):
 AS Tzp 58 [.gp B.i 0,exA (.mk o nm u ns [k0,k1] al),.d (.int .i64 (a:Int)),.d (chD ch),.d (.int .i64 op),tyA t2] A (EQ B O S (100 * (k0.size+k1.size)+2)):=by
 have h9:=hf.ln;rw [Ex.size] at h9;obtain ⟨n,D⟩:=Ak (show a < S.nt.length by omega);have E:=Au (J:=Cf) D;have h3:=ltT (show a < S.nt.length by omega);obtain ⟨cv,vv,ev,ja,nv,hg⟩:=id h;have p:=hg.bi;have F:=hg.ok.nt;have hb:=hg.nv (BC (by omega));subst hb;have j:=fun A=>Pt o nm u ns [k0,k1] al a (by have:=F.1;rw [Ex.size];omega) A;obtain ⟨⟨L,N,P⟩,na⟩:=n;obtain ⟨h8,hx,hy⟩:=F.2 _ (AE D);have hi:(Ty.mk L N P).size<=200:=by simp only [Fg,AM,decide_eq_true_eq] at h8;omega
 simp only [Cf,Ty.J,AU,A3] at E;have q:=Fu (B:=B) op 0 (.mk L N P) hi (by omega) h;have he:plK a [k0,k1]=[a+1,a+1+k0.size]:=by simp [plK,Cq,Ex.AQ]
 rw [he] at j;have r:Ct o nm ns sc 0=sc:=by unfold Ct;grind
 have w:Ct o nm ns [] 0=[]:=by unfold Ct;grind
 have h6:BF B S.nt (a+1) k0 sc:=by have:=hf.kid (i:=0) rfl;rw [r] at this;exact this
 have h7:BF B S.nt (a+1+k0.size) k1 (Ct o nm ns sc 1):=by have:=hf.kid (i:=1) rfl;simpa [Ex.AQ] using this
 have h4:Cov k0 sc ch:=by have:=hc.kid (i:=0) (c':=ch) rfl (fun s _=>by rw [w];simp);rw [r] at this;exact this
 have h5:=fun v=>AP0 ha hc v;obtain ⟨m1,m2,m3⟩:=t2;generalize G:k0.size=z0 at *;generalize K:k1.size=z1 at *;obtain ⟨o0,vs,u0,cs,fs,hr⟩:=k0;obtain ⟨o1,us,u1,ns1,ds,hs⟩:=k1;have z:=fun Φ V S1 hl (h1:LH B Φ V S1)=>Yp (B:=B) (.mk m1 m2 m3) hj hl h1;refine U3.go ?_;rw [AG3];simp only [exA,tyA,Ty.J,Ex.A6,AB,AJ] at q j z ⊢;unfold lgC at p;(repeat' (first|refine wQ ?_|refine AN.det (j _) ?_|fail)<;>try simp only [p,E,go_sem]);refine AN.mk rfl q ?_;rintro _ τ1 ⟨rfl,Y⟩;simp only [go_sem];(repeat' refine wQ ?_<;>simp only [go_sem]);refine AN.mk rfl (z _ _ _ (by grind [LSt.sz,LSt.Cm,A0,AT,A8]) Y) ?_;rintro _ τ2 ⟨rfl,m⟩;have g:=(Br.new (S:=S) (op:=op) (num:=0) (t:= .mk L N P)).FN (.mk m1 m2 m3);have hk:(S.Cm (D4 op 0 (.mk L N P))).vars.length=S.vars.length:=rfl;rw [hk];generalize hT:(S.Cm (D4 op 0 (.mk L N P))).FN (.mk m1 m2 m3)=T at m g;have h2:T.vars.length=S.vars.length+1:=by grind [LSt.FN,LSt.Cm]
 obtain ⟨ht,vv1,jx,ks,nv1,p1,p2,p3,p4,p5,p6⟩:=m.Ia (o:=3) (v:= .d (.sl [[.sl []],[.sl [[.int .i64 (S.vars.length:Int)]]]])) (f:=L8 [[],[(S.vars.length:Int)]] (.d (.sl [[.sl []],[.sl [[.int .i64 (S.vars.length:Int)]]]]))) g.atx (by omega) rfl rfl ⟨DG.Ac,DG.d _⟩;have b:=g.mod (L8 [[],[(S.vars.length:Int)]] (BU [[.sl []],[.sl [[.int .i64 (S.vars.length:Int)]]]])) rfl;have hq:(T.DM S.xs.length (L8 [[],[(S.vars.length:Int)]] (BU [[.sl []],[.sl [[.int .i64 (S.vars.length:Int)]]]]))).vars.length=S.vars.length+1:=h2;unfold lgC at p1;simp only [p1,p2,p3,p4,p5,go_sem];(repeat' refine wQ ?_<;>simp only [p1,p2,p3,p4,p5,go_sem]);have c:=bH Q (a+1) sc ch S.xs.length b.atx (by simp [L8,D4]) (by rw [b.le.nt];exact h6) h4 (ho.mono b.le.vl) (by rw [G];have:=b.le.bd;omega) p6;rw [G] at c;simp only [exA,Ex.A6,AB,AJ] at c;simp only [DU,Bb,if_true,A7,Ba,go_sem];(repeat' refine wQ ?_<;>simp only [Ba,DU,Bb,if_true,A7,go_sem]);refine AN.mk rfl c ?_;rintro _ hp ⟨rfl,S4,kv,l,x,Z⟩;have e:=b.kid l x kv;simp only [DU,Bb,if_true,A7,Bz,go_sem];(repeat' refine wQ ?_<;>simp only [Ba,DU,Bb,if_true,A7,Bz,go_sem]);have hm:=Qa (.d (chD ch)) ch (PlV.d _) nm (S.vars.length:Int) hp
 have d:=bH R (a+1+z0) (Ct o nm ns sc 1) (Et ch nm (S.vars.length:Int)) S.xs.length e.atx (by simp [L8,D4,adK]) (by rw [e.le.nt];exact h7) (h5 _) ((ho.with nm).mono (by have:=l.le.vl;simp only [LSt.DM] at this ⊢;omega)) (by rw [K];have:=e.le.bd;omega) Z;rw [K] at d;simp only [exA,Ex.A6,AB,AJ] at d
 repeat' (with_reducible refine DF ?_ ?_)
 all_goals
  refine AN.det hm ?_;simp only [if_true,A7,go_sem];refine AN.mk rfl d ?_;rintro _ τ4 ⟨rfl,S6,hn,U,y,h0⟩;have k:=e.kid U y hn;simp only [go_sem];(repeat' refine wP ?_<;>simp only [go_sem]);refine ⟨rfl,_,h0,(k.done hd (by simp [adK,L8]) (by simp [adK,L8,D4]) (fun v hv=>by cases hv) (by simp [adK,L8,D4])).up (by omega),?_⟩;have:=(AG.1 k.atx).1;exact this
end
section
variable {B:LB} {O A V Φ Ψ Φ':X} {S:LSt}
def Lw (e s:Nat) (Φ:X) (rows:List (List DV)) (w:I) (Φ':X):Prop:=(rows=[]/\w= .Ac/\Φ'=Φ)\/∃t,Φ.tok t=false/\w= .own t e s rows/\Φ'=Φ.BV t
theorem Lw.row {e s:Nat} {rows:List (List DV)} {w:I} (h:Lw e s Φ rows w Φ'):DG w rows:=by
 rcases h with ⟨rfl,rfl,_⟩|⟨t,_,rfl,_⟩
 . exact DG.Ac
 . exact ⟨rfl,rfl,rfl,rfl,fun _=>rfl⟩
theorem Lw.le {e s:Nat} {rows:List (List DV)} {w:I} (h:Lw e s Φ rows w Φ'):Φ.le Φ':=by
 rcases h with ⟨_,_,rfl⟩|⟨t,a,_,rfl⟩
 . exact X.le_refl _
 . refine ⟨fun _ _ h=>h,fun u b=>?_,rfl,fun _ _ h=>h⟩
   grind [X.BV]
theorem AA4 {t:Nat} (h:Φ.le V):(Φ.BV t).le (V.BV t):=⟨h.C,fun u a=>by
 simp only [X.BV] at a ⊢;split at a
 . grind
 . rename_i e;rw [if_neg e];exact h.tok u a,h.gt,h.bt⟩
theorem nS {t:Nat} (h:(Φ.BV t).le V) (c:Φ.tok t=false):Φ.le (V.Bh t):=⟨h.C,fun u b=>by
 have a:u≠t:=fun e=>by grind
 have:=h.tok u (by simp only [X.BV,if_neg a];exact b);simp only [X.Bh,if_neg a];exact this,h.gt,h.bt⟩
theorem Bn.APE {e s t:Nat} {rows:List (List DV)} {w:I} (h:Bn Φ e s rows w V) (m:V.tok t=false):Bn (Φ.BV t) e s rows w (V.BV t):=by
 obtain ⟨⟨σ1,a,f⟩,c,n,o,p,q,r,v,y⟩:=h;refine ⟨?_,AA4 c,n,o,p,q,r,v,y⟩;unfold MT at a ⊢;split at a
 . cases a;exact ⟨_,rfl,AA4 c⟩
 . rename_i u z B j;split at a
   . rename_i l;cases a;obtain ⟨k,c2,g⟩:=l;have d:u≠t:=fun e=>by rw [e,m] at g;cases g
     refine ⟨(V.BV t).Bh u,by rw [if_pos ⟨k,c2,by simp only [X.BV,if_neg d];exact g⟩],⟨f.C,fun x i=>?_,f.gt,f.bt⟩⟩;simp only [X.BV,X.Bh] at i ⊢;by_cases b:x=t
     . rw [if_neg (fun e=>d (by rw [<- e,b])),if_pos b]
     . rw [if_neg b] at i ⊢;have:=f.tok x i;simpa [X.Bh] using this
   . cases a
 . cases a
theorem Bn.AYU {e s t:Nat} {rows:List (List DV)} {w:I} (h:Bn (Φ.BV t) e s rows w V) (f:Φ.tok t=false):Bn Φ e s rows w (V.Bh t):=by
 obtain ⟨⟨σ1,b,j⟩,c,o,p,q,r,v,y,z⟩:=h;refine ⟨?_,nS c f,o,p,q,r,v,y,z⟩;unfold MT at b ⊢;split at b
 . cases b;exact ⟨_,rfl,nS c f⟩
 . rename_i u B D i;split at b
   . rename_i m;cases b;obtain ⟨k,c2,l⟩:=m
     have g:u≠t:=fun e=>by
      have:=j.tok t (by simp [X.BV]);simp [X.Bh,e] at this
     have a:=nS j f;refine ⟨(V.Bh t).Bh u,by rw [if_pos ⟨k,c2,by simp only [X.Bh,if_neg g];exact l⟩],⟨a.C,fun x n=>?_,a.gt,a.bt⟩⟩;have:=a.tok x n;simp only [X.Bh] at this ⊢;by_cases d:x=t
     . rw [if_pos d] at this;cases this
     . rw [if_neg d] at this ⊢;exact this
   . cases b
 . cases b
theorem LH.APE {t:Nat} (h:LH B Φ V S) (c:V.tok t=false):LH B (Φ.BV t) (V.BV t) S:=by
 obtain ⟨cv,vv,a,e,nv,h⟩:=h;exact ⟨cv,vv,a,e,nv,h.bi,⟨fun m b=>h.ms.1 m b,h.ms.2⟩,⟨fun x d=>(h.ow.1 x d).APE c,h.ow.2⟩,AA4 h.le,h.i0,h.rv,h.nv,h.ok⟩
theorem LH.AYU {t:Nat} (h:LH B (Φ.BV t) V S) (a:Φ.tok t=false):LH B Φ (V.Bh t) S:=by
 obtain ⟨cv,vv,b,e,nv,h⟩:=h;exact ⟨cv,vv,b,e,nv,h.bi,⟨fun m c=>h.ms.1 m c,h.ms.2⟩,⟨fun x d=>(h.ow.1 x d).AYU a,h.ow.2⟩,nS h.le a,h.i0,h.rv,h.nv,h.ok⟩
theorem DH.loc {K:CV} {F:Fm} {L:Lm} {d:Option Nat} {e s bytes:Nat} {x w:I} {r:List DV} {rows:List (List DV)} (v:Lw e s Φ rows w Φ') (h:LH B Φ' V S) (o:x.rows=some [r]) (n:r.length=s) (y:rows.length<=100000000) (u:bytes<=10000)
 (l:∀p i g,Lw e s Φ (rows++[r]) p i->LH B i g S->(∀b,g.C b=V.C b)->K (BW d p F) L g):DH e s bytes w x d K F L V:=by
 have a:(rows.length+[r].length)<=maxLen:=Ai (show rows.length+1<=1000000000 by omega) (by decide);have c:(rows.length+[r].length) * bytes<=140737488355328:=Ai (Tm (show rows.length+1<=100000001 by omega) u) (by decide);rcases v with ⟨rfl,rfl,rfl⟩|⟨t0,k,rfl,rfl⟩
 . refine DH.mk (rows:=[]) (srows:=[r]) (σ1:=V) rfl o (by simp [n]) a c (fun t j=>?_)
   have f:Φ'.tok t=false:=by
    cases m:Φ'.tok t with
    |false=>rfl
    |true=>rw [h.le.tok t m] at j;cases j
   exact l _ _ _ (.inr ⟨t,f,rfl,rfl⟩) (h.APE j) fun _=>rfl
 . have q:=h.le.tok t0 (by simp [X.BV]);refine DH.mk (rows:=rows) (srows:=[r]) (σ1:=V.Bh t0) (by simp [MT,q]) o (by simp [n]) a c (fun t j=>?_)
   have f:Φ.tok t=false:=by
    cases m:Φ.tok t with
    |false=>rfl
    |true=>
     have:=h.le.tok t (by grind [X.BV])
     grind
   refine l _ _ _ (.inr ⟨t,f,rfl,rfl⟩) ((h.AYU k).APE ?_) fun _=>rfl
   grind [X.Bh]
end
section
variable {B:LB} {O A V Φ Ψ Φ':X} {S:LSt}
def LSt.Cc (S:LSt) (ts:List Ty):LSt:= { S with vars:=S.vars++ts}
theorem VD (S:LSt) (ts:List Ty) (t:Ty):(S.Cc ts).FN t=S.Cc (ts++[t]):=by simp [LSt.Cc,LSt.FN]
theorem fU (S:LSt):S.Cc []=S:=by simp [LSt.Cc]
theorem Br.Cc {n c:Nat} {x:XE} {T:LSt} (h:Br S n c x T) (ts:List Ty):Br S n (c+ts.length) x (T.Cc ts):=by
 have d:(T.Cc ts).vars.length=T.vars.length+ts.length:=by simp [LSt.Cc]
 refine ⟨⟨h.le.xs,h.le.xl,by have:=h.le.vl;omega,h.le.cs,h.le.nt,by have:=h.le.bd;simp only [LSt.sz,d] at this ⊢;show T.xs.length+_<=_;omega⟩,fun i y b a e=>(h.nf i y b a e).mono (by omega) (AW _),h.n0,h.atx,h.kd⟩
theorem SH (c:Ch) (l:List (M×Int)) (x:M×Int):GR c (l++[x])=Et (GR c l) x.1 x.2:=by simp [GR]
def HT (n k:Nat):List Int:=(Aj k).map fun i=>((n+i:Nat):Int)
theorem Vo (n k:Nat):HT n (k+1)=HT n k++[((n+k:Nat):Int)]:=by simp [HT,Cq]
theorem API (a b c d e f g:I):Px [a,b,c,d,e,f,g]=put 0 a (put 1 b (put 2 c (put 3 d (put 4 e (put 5 f (put 6 g U)))))):=by
 funext n;rcases n with _|_|_|_|_|_|_|n<;>simp [Px,put,U]
theorem AD2 {o:Int} {nm:M} {u:Int} {ns:List M} {k0 k1:Ex} {al:List Al} {a1:Nat} {sc:List M} {ch:Ch} {parts:List Ty} {nt:List Nte} {nv n c:Nat} {q:Int} (t:Ty) (ht:t.size<=200) (hp:ns.length<=parts.length) (hps:∀t∈parts,t.size<=200) (hns:ns.length<=10) (hE:N7 B k1) (hf:BF B nt a1 k1 sc) (hc:∀l,l.map (·.1)=ns->Cov k1 sc (GR ch l)) (ho:Ho nv ch)
 (jl jt jb je jp jk:Nat) (hl:O.C jl=some [.gp B.i 0]) (hty:O.C jt=some (t.J.map I.d)) (h0:O.C jb=some [.d (chD ch)]) (he:O.C je=some ((Ex.mk o nm u ns [k0,k1] al).J.map I.d)) (hpb:O.C jp=some [.d (.sl (Ty.Cz parts))]) (ds:O.C jk=some [.d (.sl [[.int .i64 q],[.int .i64 (a1:Int)]])]) (hq:1+ns.length+100 * k1.size<=c):
 AGR B O nt nv n c 106 [.gp jl 0,.gp jt 0,.gp jb 0,.gp je 0,.gp jp 0,.gp jk 0]:=by
 intro Φ S A vs b Z hnt hnv ⟨_,hvl⟩ hvs hsz;have h1:=Fu (B:=B) 8 0 t ht (by omega) Z;have t1:=Z.le.C _ _ (b.C _ _ hl);have t2:=Z.le.C _ _ (b.C _ _ hty);have t3:=Z.le.C _ _ (b.C _ _ h0);have t4:=Z.le.C _ _ (b.C _ _ he);refine QW.go ?_;rw [API];obtain ⟨k,n',us⟩:=t;obtain ⟨o1,ha,u1,hd,hb,P⟩:=k1;simp only [tyA,Ty.J,Ex.A6,AB,AJ] at h1 t2 t4;(repeat' refine wQ ?_<;>simp only [t1,t2,go_sem]);refine AN.mk rfl h1 ?_;rintro _ V ⟨rfl,F⟩;have u3:=F.le.C _ _ (b.C _ _ h0);have u4:=F.le.C _ _ (b.C _ _ he);simp only [Ex.A6,AB,AJ] at u4;have hj:=Br.new (S:=S) (op:=8) (num:=0) (t:= .mk k n' us);simp only [u3,u4,go_sem];(repeat' refine wQ ?_<;>simp only [u3,u4,AA,go_sem])
 try simp only [AA]
 refine lpK (fun (y:Nat×Ch×I×X)=>[(10,.d (chD y.2.1)),(11,y.2.2.1),(22,A1 (y.1:Nat))]) (fun y=>y.2.2.2)
  (fun y=>y.1<=ns.length/\∃Φ' l,y.2.1=GR ch l/\l.map (·.1)=ns.take y.1/\Ho (S.vars.length+y.1) y.2.1/\Lw tkI 1 Φ ((HT S.vars.length y.1).map Ez) y.2.2.1 Φ'/\LH B Φ' y.2.2.2 ((S.Cm (D4 8 0 (.mk k n' us))).Cc (parts.take y.1))) (fun y=>ns.length - y.1) ?_ (0,ch,.Ac,V) ⟨by simp,Φ,[],rfl,rfl,ho.mono hnv,.inl ⟨rfl,rfl,rfl⟩,by simpa [fU] using F⟩
 rintro ⟨i,c',w,τ1⟩ ⟨hi,Φ',l,rfl,m,z,N,d⟩ ih;simp only at hi m z N d;by_cases r:i < ns.length
 . obtain ⟨x,hx⟩:=Ak r;obtain ⟨p,L⟩:=Ak (show i < parts.length by omega);have h8:=Au (J:=CG) hx;have K:=Au (J:=Ty.J) L;rw [<- Ty.BQ] at K;have hy:=ltT (show i < (Ty.Cz parts).length by grind);have hw1:=wS i;have h:=N.row;have a:=N.le;have s1:=d.le.C _ _ (a.C _ _ (b.C _ _ hl));have s5:=d.le.C _ _ (a.C _ _ (b.C _ _ hpb));obtain ⟨p1,p2,p3⟩:=p;have s:=Yp (.mk p1 p2 p3) (hps _ (AE L)) (by grind [LSt.sz,LSt.Cc,LSt.Cm,A0,AT,A8,Bs]) d;rw [VD,<- Aa L] at s;simp only [tyA,Ty.J,CG,AB,AJ] at s K h8;have hvn:((S.Cm (D4 8 0 (.mk k n' us))).Cc (parts.take i)).vars.length=S.vars.length+i:=by simp only [LSt.Cc,LSt.Cm,A0,Bs];omega
   rw [hvn] at s;(repeat' refine wQ ?_<;>simp only [BI r,h8,K,s1,s5,go_sem]);refine AN.mk rfl s ?_;rintro _ τ2 ⟨rfl,hk⟩;simp only [go_sem];refine DH.loc N hk rfl rfl (by simp [HT];omega) (by omega) (fun w2 Φ2 hg h5 hm hb3=>?_);have g:=h5.row;have hwc:=Qa (.d (chD (GR ch l))) (GR ch l) (PlV.d _) x ((S.vars.length+i:Nat):Int) hg;simp only [go_sem];(repeat' (first|refine wQ ?_|refine AN.det (hwc) ?_|fail)<;>try simp only [hw1,go_sem]);refine ih (i+1,Et (GR ch l) x ((S.vars.length+i:Nat):Int),w2,hg) ⟨r,Φ2,l++[(x,((S.vars.length+i:Nat):Int))],(SH ch l (x,_)).symm,by rw [A4,m,Aa hx];rfl,?_,?_,hm⟩ (by simp only;omega)
   . have:=z.with x;exact this
   . simp only;rw [Vo,A4];exact h5
 . have ks:i=ns.length:=by omega
   subst ks;rw [Ar] at m;have h:=N.row;have a:=N.le;have s1:=d.le.C _ _ (a.C _ _ (b.C _ _ hl));have s4:=d.le.C _ _ (a.C _ _ (b.C _ _ he));have s6:=d.le.C _ _ (a.C _ _ (b.C _ _ ds));have E:=hj.Cc (parts.take ns.length);have D:((S.Cm (D4 8 0 (.mk k n' us))).Cc (parts.take ns.length)).vars.length=S.vars.length+ns.length:=by simp only [LSt.Cc,LSt.Cm,A0,Bs];omega
   generalize hT:(S.Cm (D4 8 0 (.mk k n' us))).Cc (parts.take ns.length)=T at d E D;generalize hbn:HT S.vars.length ns.length=Q at N h;obtain ⟨cv1,vv1,ev1,ja1,nv1,h2⟩:=d;obtain ⟨jx,rfl,p2,p3,p4,p5,hs,hji,hx0⟩:=h2.Ia (o:=2) (v:= .d (.sl (vs.map Ez))) (f:=Hk vs (.d (.sl (vs.map Ez)))) E.atx (by omega) rfl rfl ⟨DG.d _,DG.Ac⟩;have R:=E.mod (Hk vs (BU (vs.map Ez))) rfl;obtain ⟨jy,fs,_,_,q4,q5,h3,_,_⟩:=hs.Ia (o:=3) (v:= .d (.sl [[.sl (Q.map Ez)]])) (f:=L8 [Q] (.d (.sl [[.sl (Q.map Ez)]]))) R.atx (by omega) rfl rfl ⟨DG.d _,DG.d _⟩;have j:=R.mod (L8 [Q] (BU [[.sl (Q.map Ez)]])) rfl;obtain rfl:jx=jy:=by injection fs
   have p1:=h2.bi;unfold lgC at p1;rw [C4] at h3;clear ih;have hnl:jl≠jx:=fun e=>by grind
   have cs:je≠jx:=fun e=>by have:=a.C _ _ (b.C _ _ he);grind
   have hnk:jk≠jx:=fun e=>by grind
   have G:=bH hE a1 sc (GR ch l) S.xs.length j.atx (by simp [L8,Hk,D4]) (by rw [j.le.nt,hnt];exact hf) (hc l m) (by rw [<- D] at z;exact z) (by have:=j.le.bd;grind) ⟨_,_,_,_,_,h3⟩;have h9:1+(parts.take ns.length).length+100 * (Ex.mk o1 ha u1 hd hb P).size<=c:=by grind
   generalize (Ex.mk o1 ha u1 hd hb P).size=z1 at G hq h9;simp only [exA,Ex.A6,AB,AJ] at G s4;(repeat' refine wQ ?_<;>simp only [B5 r,s1,s4,s6,p1,p2,p3,p4,p5,q4,q5,h.cells,h.cell,h.dv,AD,if_true,if_neg hnl,if_neg cs,if_neg hnk,DU,Bb,Bz,A7,go_sem]);refine AN.mk rfl G ?_;rintro _ τ4 ⟨rfl,S6,kv2,Y,h4,hn⟩;have U:=j.kid Y h4 kv2;simp only [go_sem];(repeat' refine wP ?_<;>simp only [go_sem]);refine ⟨rfl,_,hn.base a,(U.done (show brO 8 by decide) (by simp [adK,L8,Hk]) (by simp [adK,L8,Hk,D4]) (fun v hv=>?_) ⟨by simp [adK,L8,Hk,D4],hvl⟩).up h9,(AG.1 U.atx).1⟩;have h6:=hvs v hv;have h7:=Y.le.vl
   grind [LSt.DM]
end
section
variable {B:LB} {O A V Φ Ψ Φ':X} {S:LSt}
theorem Q3 {k j:Nat} {c:List I} {o:Option (List I)} (h:(if k=j then some c else o)=none):k≠j/\o=none:=by
 grind
theorem FrL.ne {j k:Nat} {c:List I} (f:FrL B O Φ A S) (h:Φ.C j=some c) (b:A.C k=none):j≠k/\k≠j:=by
 have a:j≠k:=fun e=>by have:=f.h.le.C _ _ h;grind
 grind
theorem FrL.nei {k:Nat} (f:FrL B O Φ A S) (b:A.C k=none):B.i≠k/\k≠B.i:=by
 have a:B.i≠k:=fun e=>f.h.gi (by rw [e];exact b)
 grind
theorem FrL.new {j:Nat} (f:FrL B O Φ A S) (a:A.C j=none) (cs:List I):∃Φ',FrL B O Φ' (A.AI j cs) S/\Φ'.C j=some cs/\O.C j=none/\∀k c,Φ.C k=some c->Φ'.C k=some c/\k≠j/\j≠k:=
 ⟨_,f.put a cs,BB,le_none f.le (le_none f.h.le a),fun k c b=>⟨by rw [AD,if_neg (f.ne b a).1];exact b,f.ne b a⟩⟩
theorem FrL.wN {j:Nat} {x:Nat×Go.TypeId} (f:FrL B O Φ A S) (a:A.C j=none/\A.bt j=none) (zs cs:List I):∃Φ',FrL B O Φ' (((A.AI j zs).BM j x).AI j cs) S/\Φ'.C j=some cs/\O.C j=none/\∀k c,Φ.C k=some c->Φ'.C k=some c/\k≠j/\j≠k:=
 ⟨_,(f.alt a zs).set (by simp [BE,AD]) (le_none f.le (le_none f.h.le a.1)) cs,BB,le_none f.le (le_none f.h.le a.1),fun k c b=>⟨by rw [AD,if_neg (f.ne b a.1).1,BE,AD,if_neg (f.ne b a.1).1];exact b,f.ne b a.1⟩⟩
theorem ABV {α:Type} (J:α->List DV) (s:Nat) (x:α) (l:List α):Z3 (J x::l.map J) none (some (.d (.int .i64 1))) none s=some (.d (.sl [J x])):=by
 simp [Z3,fZ,Vm]
theorem AJF {nm:M} {u:Int} {ns:List M} {k0 k1:Ex} {al:List Al} {a:Nat} {sc:List M} {ch:Ch} (hE:∀k∈[k0,k1],N7 B k) (hns:ns.length<=6) (hf:BF B S.nt a (.mk 8 nm u ns [k0,k1] al) sc) (hc:Cov (.mk 8 nm u ns [k0,k1] al) sc ch) (ho:Ho S.vars.length ch) (hz:S.sz+(100 * (k0.size+k1.size)+10)<=50000000) (h:LH B O A S):
 AS Tzp 59 [.gp B.i 0,exA (.mk 8 nm u ns [k0,k1] al),.d (.int .i64 (a:Int)),.d (chD ch)] A (EQ B O S (100 * (k0.size+k1.size)+10)):=by
 have hln:=hf.ln;simp only [Ex.size,Ex.AQ] at hln;have:=k0.size_pos;obtain ⟨n,h5⟩:=Ak (show a < S.nt.length by omega);have h6:=Au (J:=Cf) h5;have vs:=ltT (show a < S.nt.length by omega);obtain ⟨cv,vv,ev,ja,nv,hg⟩:=id h;have U:=hg.bi;have z:=hg.ok.nt;have hnv:=hg.nv (BC (by omega));subst hnv;have G:=fun A=>Pt 8 nm u ns [k0,k1] al a (by have:=z.1;simp only [Ex.size,Ex.AQ];omega) A;obtain ⟨⟨n1,n2,n3⟩,na⟩:=n;obtain ⟨hgd,hg2,hg3⟩:=z.2 _ (AE h5);have ha:(Ty.mk n1 n2 n3).size<=200:=by simp only [Fg,AM,decide_eq_true_eq] at hgd;omega
 simp only [Cf,Ty.J,AU,A3] at h6;obtain ⟨us,y,hd,hul⟩:=hf.me.hd 1 6 0 ns.length (.inr (.inl ⟨rfl,rfl,rfl,rfl,rfl⟩));have D:=Au (J:=Cf) hd;have F:=ltT (show a+1 < S.nt.length by omega);obtain ⟨hgu,_,_⟩:=z.2 _ (AE hd)
 have hps:∀t∈us,t.size<=200:=fun t ht=>by
  have:=Ty.EJ ht;have hsu:(Ty.mk 6 0 us).size<=200:=by simp only [Fg,AM,decide_eq_true_eq] at hgu;omega
  rw [Ty.size] at hsu;omega
 simp only [Cf,Ty.J,AU,A3] at D;have h9:plK a [k0,k1]=[a+1,a+1+k0.size]:=by simp [plK,Cq,Ex.AQ]
 rw [h9] at G;have hi1:Ct 8 nm ns sc 1=sc++ns:=by simp [Ct]
 have hf1:BF B S.nt (a+1+k0.size) k1 (sc++ns):=by have:=hf.kid (i:=1) rfl;rw [hi1] at this;simpa [Ex.AQ] using this
 have cs:∀l,l.map (·.1)=ns->Cov k1 (sc++ns) (GR ch l):=fun l hl=>by
  have:=hc.kid (i:=1) (c':=GR ch l) rfl (fun s hs=>by rw [Q9 hs,hl];simp [Ct])
  grind
 have hk0:=rW hf hc hE (i:=0) (k:=k0) rfl (by simp [Ct]);rw [h9] at hk0;have m:=ABV Ex.J 6 k0 [k1];have p:=ABV Ba 1 (a+1) [a+1+k0.size];generalize hi:k0.size=z0 at *;have b:=fun O jl jt jb je jp jk hl hty hcb he hpb hkb=>AD2 (B:=B) (O:=O) (o:=8) (nm:=nm) (u:=u) (ns:=ns) (k0:=k0) (k1:=k1) (al:=al) (a1:=a+1+z0) (nt:=S.nt) (nv:=S.vars.length) (n:=1) (q:=(a+1:Nat)) (.mk n1 n2 n3) ha hul hps (by omega) (hE k1 (by simp)) hf1 cs ho jl jt jb je jp jk hl hty hcb he hpb hkb (AW _);refine Sv.go ?_;rw [Ka]
 have h8:=fun fid Ae c hb hcp O A hz h b=>LN (B:=B) (S:=S) (O:=O) (A:=A) [k0] [a+1] ch (.mk n1 n2 n3) fid Ae c hb hcp rfl (by simp) (fun i k hk=>by
  grind) z ho ha hz h b
 obtain ⟨o0,nm0,u0,ns0,ks0,fs⟩:=k0;obtain ⟨o1,hy,u1,ks,hj,T⟩:=k1;simp only [exA,tyA,Ba,Ty.J,Ex.A6,AB,AJ] at G m p h8 b ⊢;unfold lgC at U;(repeat' refine wQ ?_<;>simp only [go_sem]);intro jl h0 je w jb g;obtain ⟨q1,w⟩:=Q3 w;obtain ⟨q2,g⟩:=Q3 g;obtain ⟨q3,g⟩:=Q3 g;obtain ⟨Φ1,f1,v1,w1,k1⟩:=(FrL.mk (X.le_refl O) h).new h0 [.gp B.i 0];obtain ⟨Φ2,f2,r,w2,k2⟩:=f1.new (j:=je) (by simp [AD,q1,w]) [.d (.int .i64 8),.d (.str nm),.d (.int .i64 u),.d (.sl (ns.map CG)),.d (.sl [[.int .i64 o0,.str nm0,.int .i64 u0,.sl (ns0.map CG),.sl (ks0.map Ex.J),.sl (fs.map Al.J)],[.int .i64 o1,.str hy,.int .i64 u1,.sl (ks.map CG),.sl (hj.map Ex.J),.sl (T.map Al.J)]]),.d (.sl (al.map Al.J))];obtain ⟨Φ3,f3,E,w3,k3⟩:=f2.new (j:=jb) (by simp [AD,q2,q3,g]) [.d (chD ch)];have v1:=(k3 _ _ (k2 _ _ v1).1).1;have r:=(k3 _ _ r).1;clear k1 k2 k3;have b1:B.i≠jl:=fun e=>h.gi (by rw [e];exact h0);have b2:B.i≠je:=fun e=>h.gi (by rw [e];exact w);have b3:B.i≠jb:=fun e=>h.gi (by rw [e];exact g);simp only [A5 q1,A5 q3,b1,b2,b3,U,h6,AD,go_sem];generalize hτ:(((A.AI jl [I.gp B.i 0]).AI je _).AI jb [I.d (chD ch)])=τ3 at f3 ⊢;intro jt hjt
 obtain ⟨Φ4,f4,v4,w4,k4⟩:=f3.wN (j:=jt) (x:=(3,42)) (by subst hτ;simpa [AD] using hjt) [.d (.int .i64 0),.d (.int .i64 0),.Ac] [.d (.int .i64 n1),.d (.int .i64 n2),.d (.sl (Ty.Cz n3))];have s1:=f3.h.le.C _ _ v1;have R:=f3.h.le.C _ _ r;obtain ⟨v1,hm,_⟩:=k4 _ _ v1;obtain ⟨r,hn,_⟩:=k4 _ _ r;obtain ⟨E,m43,_⟩:=k4 _ _ E;clear k4;simp only [BE,AD,if_true,hn,R,go_sem];(repeat' (first|refine wQ ?_|refine AN.det (G _) ?_|fail)<;>try simp only [BE,AD,if_true,hm,s1,go_sem]);generalize f:(((τ3.AI jt [A1 0,A1 0,.Ac]).BM jt (3,42)).AI jt [A1 n1,A1 n2,BU (Ty.Cz n3)])=τ4 at f4 ⊢;intro jk Z;have s1:=f4.h.le.C _ _ v1;have R:=f4.h.le.C _ _ r;have s3:=f4.h.le.C _ _ E;have s4:=f4.h.le.C _ _ v4;obtain ⟨cv5,vv5,ev5,ja5,nv5,Y⟩:=id f4.h;have v:=Y.bi;have h7:=Y.nv (BC (by omega));subst h7;unfold lgC at v;obtain ⟨Φ5,f5,v5,w5,k5⟩:=f4.wN (j:=jk) (x:=(1,39)) (by subst f;simpa [AD,BE] using Z) [.Ac] [.d (.sl [[.int .i64 ((a+1:Nat):Int)],[.int .i64 ((a+1+z0:Nat):Int)]])];have mi:=(f4.nei (k:=jk) (by subst f;simpa [AD,BE] using Z.1)).1;obtain ⟨v1,K,_⟩:=k5 _ _ v1;obtain ⟨r,L,_⟩:=k5 _ _ r;obtain ⟨E,N,_⟩:=k5 _ _ E;obtain ⟨v4,P,_⟩:=k5 _ _ v4;clear k5;simp only [BE,AD,if_true,K,mi,s1,v,D,DU,Bb,go_sem]
 repeat' (with_reducible refine DF ?_ ?_)
 all_goals
  intro jp h1;obtain ⟨Φ6,f6,v6,w6,Q⟩:=f5.wN (j:=jp) (x:=(1,29)) (by subst f;simpa only [AD,BE] using h1) [.Ac] [.d (.sl (Ty.Cz us))];have mj:=(f5.nei (k:=jp) (by subst f;simpa only [AD,BE] using h1.1)).1;obtain ⟨v1,hp,_⟩:=Q _ _ v1;obtain ⟨r,hq,_⟩:=Q _ _ r;obtain ⟨E,hr,_⟩:=Q _ _ E;obtain ⟨v4,hv,_⟩:=Q _ _ v4;obtain ⟨v5,hx,_⟩:=Q _ _ v5;clear Q;simp only [BE,AD,if_true,K,L,N,P,mi,hp,hq,hr,hv,hx,mj,s1,R,s3,s4,v,D,DU,Bb,m,p,go_sem];(repeat' refine wQ ?_<;>simp only [BE,AD,if_true,K,L,N,P,mi,hp,hq,hr,hv,hx,mj,s1,R,s3,s4,v,F,D,DU,Bb,AA,m,p,go_sem]);refine AN.mk rfl (h8 _ _ _ (by kernel_rfl) rfl _ _ (by simp only [Ex.AQ,AT,A8,hi];omega) f6.h (b _ jl jt jb je jp jk v1 v4 E r v6 v5)) ?_;rintro _ τ9 ds;obtain ⟨rfl,S',h2,h3,h4⟩:=(ds.base f6.le).up (d:=100 * (z0+(Ex.mk o1 hy u1 ks hj T).size)+10) (by simp only [Ex.AQ,AT,A8,hi];omega);simp only [go_sem];(repeat' refine wP ?_<;>simp only [go_sem]);exact ⟨rfl,S',h2,h3,h4⟩
end
section
variable {B:LB} {O A V Φ Ψ Φ':X} {S:LSt}
def szL (args:List Ty):List I:=args.map fun a=>.d (.int .i64 (a.size:Int))
theorem e9 (args:List Ty) (j:Nat) (E:∀t∈args,t.size<=1000000) (o:args.length<=1000000) (A:X) (p:A.C j=some (szL args)):∀(n:Nat) (t:Ty),t.size<=n->n<=1000000->
 AS Tzp 155 [tyA t,.ms j args.length 1 3] A (fun v H=>(∃s:Nat,v= .d (.int .i64 (s:Int))/\s<=1000000+201 * t.size/\(s<=200->s=(t.subst args).size))/\H=A)
 |0,t,h,_=>by have:=bU t;omega
 |N+1,.mk m nm l,h,hN=>by
  have U:(Ty.mk m nm l).size=1+Ty.AQ l:=rfl;refine bE.go ?_;(repeat' first|refine ctQ rfl ?_|(refine RA (by first|exact GV.t|exact GV.f|exact GV.st|exact GV.sf) ⟨?_,fun h=>?_,?_⟩;rotate_left;(focus ((try simp only [AM] at h);simp only [go_sem];first|exact Is.mk|exact Is.pv (by simp only [h,WY,go_sem];rfl)));(try simp only [↓Vq,go_sem]))|((first|refine rgQ mxQ ?_|refine cdQ ?_)<;>try simp only [CX,go_sem])|(refine ⟨fun h=>?_,fun h=>?_⟩<;>first|(cases h;done)|try simp only [h])|fail)
  . simp only [AM,beq_iff_eq,decide_eq_true_eq] at h;obtain ⟨⟨K,D⟩,L⟩:=h;obtain ⟨i,rfl⟩:=E0 D;have a:i < args.length:=by omega
    obtain ⟨u,g⟩:=Ak a;have c:(Ty.mk m i l).subst args=u:=by simp only [Ty.subst];rw [if_pos ⟨K,D,L⟩];simp [g]
    have G:(szL args)[i * 1]?=some (A1 u.size):=by simp [szL,g]
    have:=E u (AE g);rw [c];have k:=ltT a;simp only [k,BX,p,G,go_sem];(repeat' refine wP ?_<;>simp only [go_sem]);exact ⟨u.size,rfl,by omega,fun _=>rfl⟩
  . have r:¬(m=4/\0<=nm/\nm < args.length):=by
     simp only [WE,beq_eq_false_iff_ne,decide_eq_false_iff_not] at h;omega
    have c:(Ty.mk m nm l).subst args= .mk m nm (Ty.Df args l):=by simp only [Ty.subst];rw [if_neg r]
    rw [c];have R:=TY l
    refine lpK (fun (y:Nat×Nat)=>[(5,A1 y.2),(31,A1 y.1)]) (fun _=>A)
     (fun y=>y.1<=l.length/\y.2<=200/\y.2=1+Ty.AQ (Ty.Df args (l.take y.1))) (fun y=>l.length - y.1) ?_ (0,1) ⟨by simp,by simp,by simp [Ty.AQ,Ty.Df]⟩
    rintro ⟨i,q⟩ ⟨Q,x,w⟩ B;simp only at Q w x;by_cases a:i < l.length
    . obtain ⟨u,g⟩:=Ak a;have Y:=Yy g;have S:Ty.AQ (Ty.Df args (l.take (i+1)))=Ty.AQ (Ty.Df args (l.take i))+(u.subst args).size:=by rw [Aa g,FV,FV,A4,AB,AJ,Ko]
      have T:Ty.AQ (Ty.Df args (l.take (i+1)))<=Ty.AQ (Ty.Df args l):=by
       rw [FV,FV,List.map_take];exact D3 _ _
      have d:=wS i;have f:=e9 args j E o A p N u (by omega) (by omega);obtain ⟨k2,n2,Z⟩:=u;have P:=JM g;(repeat' refine wQ ?_<;>simp only [BI a,P,go_sem]);refine AN.mk rfl f ?_;rintro _ _ ⟨⟨s,rfl,hs,z⟩,rfl⟩;have e:=wrap_add (show q+s<=9000000000000000000 by omega);by_cases F:200 < q+s
      . have b:decide (((q+s:Nat):Int)>200)=true:=by simp;omega
        simp only [e,b,go_sem];(repeat' refine wP ?_<;>simp only [go_sem]);exact ⟨q+s,rfl,by rw [Ty.size];omega,fun hh=>by omega⟩
      . have b:decide (((q+s:Nat):Int)>200)=false:=by simp;omega
        simp only [e,b,go_sem];(repeat' refine wQ ?_<;>simp only [d,go_sem]);have:=z (by omega);exact B (i+1,q+s) ⟨a,by simp only;omega,by simp only;omega⟩ (by simp only;omega)
    . rw [AR (by omega)] at w;(repeat' refine wP ?_<;>simp only [B5 a,go_sem]);exact ⟨q,rfl,by omega,fun _=>by rw [Ty.size];exact w⟩
end
section
variable {B:LB} {O A V Φ Ψ Φ':X} {S:LSt}
def AcR (k:Con) (A:X) (v:I) (H:X):Prop:=H=A/\∃l ok,v= .tup [.d (.sl (Ty.Cz l)),.d (.bool ok)]/\(ok=true->l.length=k.args.length/\∀t∈l,t.size<=200)
theorem ALL (dt:List Dat) (n:Int) (us:List Ty) (c:Nat) {D:Dat} {k:Con} (h0:0<=n) (hD:dt[n.toNat]?=some D) (hv:(us.length:Int)=D.vars) (hc:D.cons[c]?=some k) (U:(Ty.mk 5 n us).size<=200) (h3:k.args.length<=6) (h4:Ty.AQ k.args<=100000) (A:X):
 AS Tzp 110 [.d (.sl (dt.map Dat.J)),tyA (.mk 5 n us),.d (.int .i64 (c:Int))] A (AcR k A):=by
 have hf:=TY us;rw [Ty.size] at U;have r:=NX hD;have B:(n < (dt.length:Int))=True:=by grind
 have E:(n < 0)=False:=by simp;omega
 have z:((dt.length:Int)<=n)=False:=by grind
 have Q:=(AG.1 hc).1;refine mV.go ?_;rw [DN];obtain ⟨dn,dv,dc⟩:=D;simp only at hv hc Q;subst hv;have K:=Au (J:=Con.J) hc;simp only [tyA,Ty.J,AB,AJ];(repeat' first|refine ctQ rfl ?_|(refine RA (by first|exact GV.t|exact GV.f|exact GV.st|exact GV.sf) ⟨?_,fun h=>?_,?_⟩;rotate_left;(focus ((try simp only [AM,OS] at h);simp only [go_sem];first|exact Is.mk|exact Is.pv (by simp only [h,WY,AA,go_sem];rfl)));(try simp only [↓lD,E,z,AA,go_sem]))|((first|refine rgQ mxQ ?_|refine cdQ ?_)<;>try simp only [r,h0,CX,go_sem])|(refine ⟨fun h=>?_,fun h=>?_⟩<;>first|(cases h;done)|try simp only [h])|fail)
 . exfalso
   grind
 refine K8.mk us.length (by omega) (by omega) (fun j hj=>?_);have hz:(AH us.length [I.d (.int .i64 0)]).flatten=szL (us.take 0)++AH (us.length - 0) (I.d (.int .i64 0)):=by simp [szL]
 rw [hz];simp only [go_sem];have hr:∀t∈us,t.size<=200:=fun t h=>by have:=Ty.EJ h;omega
 (repeat' refine wQ ?_<;>simp only [CX,go_sem])
 try simp only [CX]
 refine lpK (fun (i:Nat)=>[(61,A1 i)]) (fun i=>A.AI j (szL (us.take i)++AH (us.length - i) (A1 0)))
  (fun i=>i<=us.length) (fun i=>us.length - i) ?_ 0 (by simp)
 rintro i hi L;by_cases d:i < us.length
 . obtain ⟨u,q⟩:=Ak d;have h7:=ltT d;have b:=wS i;have h1:=Ya 1000000 u (A.AI j (szL (us.take i)++AH (us.length - i) (A1 0))) (by grind) (by omega);have R:(i * 1+1<=(szL (us.take i)++AH (us.length - i) (I.d (.int .i64 0))).length)=True:=by simp [szL];omega
   have h8:Ew (i * 1) (szL (us.take i)++AH (us.length - i) (I.d (.int .i64 0)))++[A1 u.size]++E1 (i * 1+1) (szL (us.take i)++AH (us.length - i) (I.d (.int .i64 0)))=szL (us.take (i+1))++AH (us.length - (i+1)) (I.d (.int .i64 0)):=by
    have hl:(szL (us.take i)).length=i:=by simp [szL];omega
    rw [Ag,List.take_left' hl,List.drop_append,hl,HN (by omega),Aa q,A3,List.drop_replicate];simp only [szL,A4,AB,AJ,Ax];congr 3;omega
   have:=L (i+1) d (by omega);generalize szL (us.take i)++AH (us.length - i) (I.d (.int .i64 0))=cs at *;generalize szL (us.take (i+1))++AH (us.length - (i+1)) (I.d (.int .i64 0))=cs' at *;obtain ⟨k2,n2,a2⟩:=u;have S:=JM q;(repeat' (first|refine wQ ?_|refine AN.det (h1) ?_|fail)<;>try simp only [S,b,h7,AD,if_true,R,h8,go_sem]);exact this
 . have G:i=us.length:=by omega
   subst G;clear L;rw [Nat.sub_self,List.replicate_zero,Aw,Ar];have h2:(A.AI j (szL us)).C j=some (szL us):=BB;have m:=Bf (cs:=szL us) hj;generalize A.AI j (szL us)=V at *;have N:=ltT Q;obtain ⟨kn,g⟩:=k;simp only [Con.J] at K;have hd:=TY g;simp only at h3 h4;(repeat' refine wQ ?_<;>simp only [B5 d,K,CX,go_sem])
   try simp only [CX]
   refine lpK (fun (i:Nat)=>[(79,A1 i)]) (fun i=>V)
    (fun i=>i<=g.length/\∀t∈g.take i,(t.subst us).size<=200) (fun i=>g.length - i) ?_ 0 (by simp)
   rintro i ⟨hi,h5⟩ L;by_cases e:i < g.length
   . obtain ⟨u,q⟩:=Ak e;have Y:=Yy q;have b:=wS i;have F:=e9 us j (fun t h=>by grind) (by omega) V h2 1000000 u (by omega) (by omega);have hm:=AE q;have hq:=Aa q;generalize hn:(u.subst us).size=su at *;obtain ⟨k2,n2,a2⟩:=u;have S:=JM q;(repeat' refine wQ ?_<;>simp only [BI e,S,go_sem]);refine AN.mk rfl F ?_;rintro _ _ ⟨⟨s,rfl,_,hg⟩,rfl⟩;by_cases hb:200 < s
     . have l:decide (((s:Nat):Int)>200)=true:=by simp;omega
       simp only [l,go_sem];(repeat' (first|refine wQ ?_|(refine W.By WO m ?_)|fail)<;>try simp only [go_sem]);exact ⟨rfl,[],false,rfl,fun h=>by cases h⟩
     . have l:decide (((s:Nat):Int)>200)=false:=by simp;omega
       simp only [l,go_sem];(repeat' refine wQ ?_<;>simp only [b,go_sem]);refine L (i+1) ⟨e,fun t U=>?_⟩ (by omega)
       grind
   . rw [AR (by omega)] at h5;have G:i=g.length:=by omega
     subst G;clear L;(repeat' refine wQ ?_<;>simp only [B5 e,K,CX,go_sem])
     try simp only [CX]
     refine lpK (fun (y:Nat×I×X)=>[(14,y.2.1),(95,A1 (y.1:Nat))]) (fun y=>y.2.2)
      (fun y=>y.1<=g.length/\Bn V eTy 3 (((g.take y.1).map (Ty.subst us)).map Ty.J) y.2.1 y.2.2) (fun y=>g.length - y.1) ?_ (0,.Ac,V) ⟨by simp,by simpa using Bn.nil V eTy 3⟩
     rintro ⟨p,v,Z⟩ ⟨hp,o⟩ L;simp only at hp o;by_cases f:p < g.length
     . obtain ⟨u,q⟩:=Ak f;have Y:=Yy q;have h6:(g.take (p+1)).map (Ty.subst us)=(g.take p).map (Ty.subst us)++[u.subst us]:=by rw [Aa q,A4];rfl
       have P:=Oh us (fun t h=>by grind) u (by omega) Z;generalize u.subst us=w at *;obtain ⟨k1,n1,a1⟩:=u;obtain ⟨k2,n2,a2⟩:=w;have S:=JM q;have b:=wS p;simp only [tyA,L9,Ty.J,AB,AJ] at P;(repeat' (first|refine wQ ?_|refine AN.det (P) ?_|fail)<;>try simp only [BI f,S,o.w4,go_sem]);refine DH.own o rfl (by simp) (by simp;omega) (by omega) (fun v' h9 a ha=>?_);simp only [b,go_sem];(repeat' refine wQ ?_<;>simp only [b,a.BS,a.Cp,a.cells,a.cell,go_sem]);refine L ⟨p+1,v',h9⟩ ⟨f,?_⟩ (by simp only;omega);simp only [h6];rw [A4];exact a
     . rw [AR (by omega)] at o;have T:A.le Z:=⟨fun k cs hk=>o.le.C _ _ (m.C _ _ hk),fun t U=>o.le.tok _ (m.tok _ U),m.gt.trans o.le.gt,fun k x hx=>o.le.bt _ _ (m.bt _ _ hx)⟩;(repeat' refine wQ ?_<;>simp only [B5 f,go_sem]);refine W.By WO T ?_;simp only [o.plain,o.BS,go_sem];rw [<- Ty.BQ];refine ⟨rfl,g.map (Ty.subst us),true,rfl,fun _=>⟨by simp,fun t U=>?_⟩⟩
       grind
end
theorem oN {dt:List Dat}:∀ {l:List Al} {xs:List (Nat×Nat)},Ce dt l= .ok xs->∀x∈xs,∃a∈l,Dy dt a.con=some x
 |[],xs,h,x,d=>by simp only [Ce,Da] at h;subst h;cases d
 | .mk c vs b::l,xs,h,x,d=>by
  rw [Ce] at h;cases f:Dy dt c with
  |none=>rw [f] at h;cases h
  |some y=>
   rw [f] at h;simp only at h;split at h
   . cases h
   . split at h
     . cases h
     . cases g:Ce dt l with
       |error e=>rw [g] at h;cases h
       |ok ys=>
        rw [g] at h;cases h;rcases Ah.1 d with rfl|d
        . exact ⟨_,AY,f⟩
        . obtain ⟨a,j,i⟩:=oN g x d;exact ⟨a,AZ _ j,i⟩
theorem Zu {dt:List Dat}:∀(l:List Al) (e:Int),Ce dt l= .error e->e≠0
 |[],e,h=>by cases h
 | .mk c vs b::l,e,h=>by
  rw [Ce] at h;split at h
  . cases h;decide
  . split at h
    . cases h;decide
    . split at h
      . cases h;decide
      . cases a:Ce dt l with
        |error d=>rw [a] at h;cases h;exact Zu l e a
        |ok ys=>rw [a] at h;cases h
theorem APG {dt:List Dat} {a0:Al} {al:List Al} (h:Nc dt (a0::al)=0) {d c0:Nat} (Z:Dy dt a0.con=some (d,c0)):
 ∃D,dt[d]?=some D/\∀(c:Nat) (k:Con),D.cons[c]?=some k->∃i a,(a0::al).findIdx? (fun a=>a.con==k.name)=some i/\(a0::al)[i]?=some a/\a.vars.length=k.args.length/\Dy dt a.con=some (d,c):=by
 generalize hL:a0::al=L at *;obtain ⟨D,k0,q,_⟩:=Kz Z;refine ⟨D,q,fun c k Q=>?_⟩;unfold Nc at h;cases o:Ce dt L with
 |error e=>rw [o] at h;exact absurd h (Zu _ _ o)
 |ok p=>
  rw [o] at h;simp only at h
  have m:Xg dt p=true:=by
   cases he:Xg dt p with
   |true=>rfl
   |false=>rw [he] at h;exact absurd h (by decide)
  obtain ⟨x0,B,U,_⟩:=Mi o a0 (by rw [<- hL];exact AY);rw [Z] at U;cases U;cases p with
  |nil=>cases B
  |cons y ys=>
   rw [Xg] at m;simp only [AM,decide_eq_true_eq,Ao,beq_iff_eq] at m;obtain ⟨⟨j,R⟩,v⟩:=m;generalize h3:y::ys=p at *;have T:=j _ B;simp only at T;rw [<- T,eL q] at v;have g:∀x∈p,x.1=d:=fun x l=>(j x l).trans T.symm;have K:=fW o;have N:=(AG.1 Q).1
   have w:(d,c)∈p:=by
    refine Decidable.byContradiction fun S=>?_
    have h1:(c::p.map (·.2)).Nodup:=by
     refine List.nodup_cons.2 ⟨fun hm=>?_,?_⟩
     . obtain ⟨x,l,rfl⟩:=BR.1 hm;exact S (by rw [<- g x l];exact l)
     . refine List.pairwise_map.2 (R.imp_of_mem fun {a b} F hb G e=>G ?_);exact Prod.ext ((g a F).trans (g b hb).symm) e
    have h2:=Uk h1 (n:=D.cons.length) (fun f P=>by
     rcases Ah.1 P with rfl|P
     . exact N
     . obtain ⟨x,l,rfl⟩:=BR.1 P;have:=K x l
       rwa [g x l,eL q] at this)
    simp only [AT,AA] at h2;omega
   obtain ⟨a,F,t⟩:=oN o _ w;obtain ⟨D',k',r,u,hn⟩:=Kz t;rw [q] at r;cases r;rw [Q] at u;cases u;cases E:L.findIdx? (fun a=>a.con==k.name) with
   |none=>
    rw [fO] at E;have:=E a F;simp [hn] at this
   |some i=>
    rw [SJ] at E;obtain ⟨q1,q2,_⟩:=E;refine ⟨i,L[i],rfl,An q1,?_⟩;have z:Dy dt (L[i]).con=some (d,c):=by rw [show (L[i]).con=a.con from by rw [<- hn];simpa using q2];exact t
    refine ⟨?_,z⟩;obtain ⟨x,l,Y,e2⟩:=Mi o L[i] (Fa q1);rw [z] at Y;cases Y;rw [e2,aM (s:=[]) (x:=(d,c)) q Q]
def aiC (al:List Al) (cons:List Con) (c:Nat):Nat:=match cons[c]? with
 |some k=>(al.findIdx? (fun a=>a.con==k.name)).getD 0
 |none=>0
structure AK (al:List Al) (cons:List Con):Prop where
 at_:∀(c:Nat) (k:Con),cons[c]?=some k->∃a,al.findIdx? (fun a=>a.con==k.name)=some (aiC al cons c)/\al[aiC al cons c]?=some a/\a.vars.length=k.args.length
 inj:∀c c',c < cons.length->c' < cons.length->aiC al cons c=aiC al cons c'->c=c'
theorem AK.of {dt:List Dat} {a0:Al} {al:List Al} (h:Nc dt (a0::al)=0) {d c0:Nat} (f:Dy dt a0.con=some (d,c0)):∃D,dt[d]?=some D/\AK (a0::al) D.cons:=by
 obtain ⟨D,j,e⟩:=APG h f
 have key:∀(c:Nat) (k:Con),D.cons[c]?=some k->∃a,(a0::al).findIdx? (fun a=>a.con==k.name)=some (aiC (a0::al) D.cons c)/\(a0::al)[aiC (a0::al) D.cons c]?=some a/\a.vars.length=k.args.length/\Dy dt a.con=some (d,c):=fun c k m=>by
  grind [aiC]
 refine ⟨D,j,fun c k m=>?_,fun c c' l b q=>?_⟩
 . grind
 . obtain ⟨a,_,o,_,p⟩:=key c _ (An l);obtain ⟨n,_,g,_,i⟩:=key c' _ (An b)
   grind
def pV (al:List Al) (cons:List Con) (c:Nat):Nat:=((Aj c).map fun i=>((al.map fun a=>a.body.size).getD (aiC al cons i) 0)).sum
theorem AHK (al:List Al) (cons:List Con) (c:Nat):pV al cons (c+1)=pV al cons c+(al.map fun a=>a.body.size).getD (aiC al cons c) 0:=by
 simp [pV,Cq]
theorem AK.cost {al:List Al} {cons:List Con} (h:AK al cons) {c:Nat} (m:c<=cons.length):pV al cons c<=Al.AQ al:=by
 have g:=ABZ ((Aj c).map (aiC al cons)) (al.map fun a=>a.body.size) (by
  refine List.pairwise_map.2 (List.nodup_range.imp_of_mem fun {a b} j k d e=>d ?_);exact h.inj a b (by grind) (by grind) e)
 have i:∀l:List Al,Al.AQ l=(l.map fun a=>a.body.size).sum:=by
  intro l
  induction l with
  |nil=>rfl
  |cons a l f=>obtain ⟨c,vs,b⟩:=a;rw [Al.AQ,Al.size,f];rfl
 grind [pV,List.map_map,Function.comp_def]
theorem fJ {fid:FuncId} {Ae:List I} (r:CP Tzp fid=true) (e:Ae.all I.BS=true) (p:Al->Bool) (l:List Al) (A:X) (s:∀x∈l,AS Tzp fid (alA x::Ae) A (fun v H=>v= .d (.bool (p x))/\H=A)):
 AS Tzp 108 [.d (.sl (l.map Al.J)),.fn fid [] Ae] A (fun v H=>v= .d (.int .i64 (Hq (l.findIdx? p)))/\H=A):=by
 refine Ie.go ?_;rw [B4];refine W.slot 0 (fun k=>?_);simp only [DR,if_true,I.Ep,AA] at k;(repeat' refine wQ ?_<;>simp only [AA,go_sem]);refine lpK (fun (i:Nat)=>[(8,A1 i)]) (fun _=>A) (fun i=>i<=l.length/\∀x∈l.take i,p x=false) (fun i=>l.length - i) ?_ 0 ⟨by simp,by simp⟩;rintro i ⟨w,b⟩ t;by_cases a:i < l.length
 . obtain ⟨x,j⟩:=Ak a;have g:=Au (J:=Al.J) j;have f:IntKind.i64.wrap ((i:Int)+1)=((i+1:Nat):Int):=by grind [B2]
   have d:=s x (AE j);cases h:p x with
   |true=>
    rw [h] at d;have m:=Cn b j h;obtain ⟨c,vs,o,n,u,ns,ks,al⟩:=x;simp only [Al.A6,alA,AB,AJ] at g d;(repeat' (first|refine wP ?_|(refine ⟨fid,[],Ae,rfl,r,AN.det d ?_ (by simp [e,CY])⟩)|fail)<;>try simp only [BI a,g,go_sem]);rw [m];rfl
   |false=>
    rw [h] at d;have q:=Ea b j h;obtain ⟨c,vs,o,n,u,ns,ks,al⟩:=x;simp only [Al.A6,alA,AB,AJ] at g d;(repeat' (first|refine wQ ?_|(refine ⟨fid,[],Ae,rfl,r,AN.det d ?_ (by simp [e,CY])⟩)|fail)<;>try simp only [BI a,g,f,go_sem]);exact t (i+1) ⟨by omega,q⟩ (by omega)
 . (repeat' refine wP ?_<;>simp only [B5 a,go_sem]);rw [AR (by omega)] at b;rw [Co b];rfl
theorem AUF (x:Al) (cons:List Con) (c:Nat) {k:Con} (b:cons[c]?=some k) (jn jc:Nat) (A:X) (f:A.C jn=some [.d (.sl (cons.map Con.J))]) (e:A.C jc=some [.d (.int .i64 (c:Int))]):AS Tzp 109 [alA x,.gp jn 0,.gp jc 0] A (fun v H=>v= .d (.bool (x.con==k.name))/\H=A):=by
 have a:=Au (J:=Con.J) b;have d:=ltT (AG.1 b).1;refine QV.go ?_;rw [DN];obtain ⟨g,vs,o,n,u,ns,ks,al⟩:=x;obtain ⟨i,h⟩:=k;simp only [Al.A6,Con.J,alA,AB,AJ] at a ⊢;(repeat' refine wP ?_<;>simp only [f,e,a,CZ,go_sem]);rfl
section
variable {B:LB} {O A V Φ Ψ Φ':X} {S:LSt}
theorem Lw.set {e s j:Nat} {rows:List (List DV)} {w:I} (h:Lw e s Φ rows w Φ') (cs:List I):Lw e s (Φ.AI j cs) rows w (Φ'.AI j cs):=by
 rcases h with ⟨a,b,rfl⟩|⟨t,a,b,rfl⟩
 . exact .inl ⟨a,b,rfl⟩
 . exact .inr ⟨t,a,b,rfl⟩
theorem AIF {Q00 Q01:List I} {v:I} {c:Nat} (h:Q00.length=c):(Q00++v::Q01)[c * 1]?=some v:=by
 subst h;simp
theorem ABC {Q00 Q01:List I} {v w:I} {c:Nat} (h:Q00.length=c):(Q00++v::Q01).take (c * 1)++[w]++(Q00++v::Q01).drop (c * 1+1)=Q00++w::Q01:=by
 subst h;simp_all
structure L0P (B:LB) (O:X) (S0:LSt) (fl:List Ty) (ns:List M) (ch:Ch) (jA jI jB jc c:Nat) (Q00 I0 I1 B0 B1:List I) (k:Nat) (w:I) (ck:Ch) (Φb Φ' V:X):Prop where
 le:O.le Φb
 lw:Lw tkI 1 Φb ((HT S0.vars.length k).map Ez) w Φ'
 h:LH B Φ' V (S0.Cc (fl.take k))
 nm:∃l,ck=GR ch l/\l.map (·.1)=ns.take k
 ok:Ho (S0.vars.length+k) ck
 a:Φ'.C jA=some Q00
 i:Φ'.C jI=some (I0++.d (chD ck)::I1)
 b:Φ'.C jB=some (B0++w::B1)
 c:Φ'.C jc=some [.d (.int .i64 (c:Int))]
theorem ARW {K:I->X->Prop} {kk:List CI} {S0:LSt} {fl:List Ty} {ns:List M} {ch:Ch} {jA jI jB jc c jl:Nat} {Q00 I0 I1 B0 B1:List I} {v0 v3 v4 v5 v6 v7 v10 v34:I} {s11 s12 s13 t11 t12 t13:Nat}
 (hl:O.C jl=some [.gp B.i 0]) (hfl:ns.length<=fl.length) (hs:∀t∈fl,t.size<=200) (hns:ns.length<=6) (D:I0.length=c) (z:B0.length=c) (hIs:c+I1.length+1=s12) (us:c+B1.length+1=s13) (b:jI≠jB) (hd:jA≠jI) (hb:jA≠jB) (hp:jc≠jI) (e:jc≠jB) (hg:O.C jI=none) (he:O.C jB=none) (sc:S0.sz<=90000000)
 {ck:Ch} {w:I} {Φb:X} (h0:L0P B O S0 fl ns ch jA jI jB jc c Q00 I0 I1 B0 B1 0 w ck Φb Φ' A)
 (hk:∀w ck Φb Φ' V,L0P B O S0 fl ns ch jA jI jB jc c Q00 I0 I1 B0 B1 ns.length w ck Φb Φ' V->W C5 K kk (put 0 v0 (put 1 (.gp jl 0) (put 3 v3 (put 4 v4 (put 5 v5 (put 6 v6 (put 7 v7 (put 10 v10 (put 11 (.ms jA s11 1 t11) (put 12 (.ms jI s12 1 t12) (put 13 (.ms jB s13 1 t13) (put 14 (.gp jc 0) (put 15 (.d (.sl (Ty.Cz fl))) (put 34 v34 (put 35 (.d (.int .i64 (c:Int))) (put 80 (.d (.sl (ns.map CG))) (put 81 (.d (.int .i64 (ns.length:Int))) (put 82 (.d (.int .i64 (ns.length:Int))) (put 83 (.d (.bool false)) U))))))))))))))))))) E V):
 W C5 K (.again Db::.C 2::kk) (put 0 v0 (put 1 (.gp jl 0) (put 3 v3 (put 4 v4 (put 5 v5 (put 6 v6 (put 7 v7 (put 10 v10 (put 11 (.ms jA s11 1 t11) (put 12 (.ms jI s12 1 t12) (put 13 (.ms jB s13 1 t13) (put 14 (.gp jc 0) (put 15 (.d (.sl (Ty.Cz fl))) (put 34 v34 (put 35 (.d (.int .i64 (c:Int))) (put 80 (.d (.sl (ns.map CG))) (put 81 (.d (.int .i64 (ns.length:Int))) (put 82 (.d (.int .i64 0)) U)))))))))))))))))) E A:=by
 refine W.SB ((fun (a0:I) (a1:I) (a3:I) (a4:I) (a5:I) (a6:I) (a7:I) (Z:I) (h1:I) (h2:I) (h3:I) (h4:I) (h5:I) (h6:I) (h7:I) (h8:I) (h9:I)=>fun (y:Nat×I×Ch×X×X×X)=>put 0 a0 (put 1 a1 (put 3 a3 (put 4 a4 (put 5 a5 (put 6 a6 (put 7 a7 (put 10 Z (put 11 h1 (put 12 h2 (put 13 h3 (put 14 h4 (put 15 h5 (put 34 h6 (put 35 h7 (put 80 h8 (put 81 h9 (put 82 (A1 (y.1:Nat)) U)))))))))))))))))) _ _ _ _ _ _ _ _ _ _ _ _ _ _ _ _ _) (fun _=>E) (fun y=>y.2.2.2.2.2) (fun y=>y.1<=ns.length/\L0P B O S0 fl ns ch jA jI jB jc c Q00 I0 I1 B0 B1 y.1 y.2.1 y.2.2.1 y.2.2.2.1 y.2.2.2.2.1 y.2.2.2.2.2) (fun y=>ns.length - y.1) ?_ (0,w,ck,Φb,Φ',A) ⟨by simp,h0⟩;clear h0;rintro ⟨i,w,ck,Φb,Φ',V⟩ ⟨hi,h⟩ ih;simp only at hi h;by_cases f:i < ns.length
 . obtain ⟨x,hx⟩:=Ak f;obtain ⟨p,r⟩:=Ak (show i < fl.length by omega);have P:=Au (J:=CG) hx;have q:=Au (J:=Ty.J) r;rw [<- Ty.BQ] at q;have ht:=ltT (show i < (Ty.Cz fl).length by grind);have N:=wS i;obtain ⟨F,Y,hL,⟨l,hq,hy⟩,nm,ha,hI,hf,hc⟩:=h;have G:=Y.le;have T:=Y.row;have L:(S0.Cc (fl.take i)).vars.length=S0.vars.length+i:=by simp [LSt.Cc];omega
   have o:=Yp (B:=B) p (hs p (AE r)) (S:=S0.Cc (fl.take i)) (by simp only [LSt.sz,L] at sc ⊢;show S0.xs.length+_<=_;omega) hL;rw [VD,<- Aa r,L] at o;have s1:=hL.le.C _ _ (G.C _ _ (F.C _ _ hl));obtain ⟨p1,p2,p3⟩:=p;simp only [tyA,CG,Ty.J,AB,AJ] at o q P;(repeat' refine wQ ?_<;>simp only [BI f,P,q,s1,go_sem]);refine AN.mk rfl o ?_;rintro _ τ1 ⟨rfl,d⟩;have u2:=d.le.C _ _ hI;have u3:=d.le.C _ _ hf;have u4:=d.le.C _ _ hc;have k:((c:Int) < ((s13:Nat):Int))=True:=ltT (by omega);have a:((c:Int) < ((s12:Nat):Int))=True:=ltT (by omega);have eB:=AIF (Q01:=B1) (v:=w) z;have ks:∀v,(c * 1+1<=(B0++v::B1).length)=True:=fun v=>by simp;omega
   have al:∀v,(c * 1+1<=(I0++v::I1).length)=True:=fun v=>by simp;omega
   have eI:=AIF (Q01:=I1) (v:= .d (chD ck)) D;have wB:=fun v v'=>ABC (Q01:=B1) (v:=v) (w:=v') z;have wI:=fun v v'=>ABC (Q01:=I1) (v:=v) (w:=v') D;simp only [u3,u4,k,eB,T.cell,go_sem]
   repeat' (with_reducible refine DF ?_ ?_)
   all_goals
    refine DH.loc Y d rfl rfl (by simp [HT];omega) (by omega) (fun m Q R s hm n=>?_);have g:=s.row;have v2:=(n _).trans u2;have v3:=(n _).trans u3;have v4:=(n _).trans u4
    have u:∀j cs,Φ'.C j=some cs->Q.C j=some cs:=fun j cs hj=>by
     rcases Y with ⟨_,_,rfl⟩|⟨t,_,_,rfl⟩<;>rcases s with ⟨_,_,rfl⟩|⟨t2,_,_,rfl⟩<;>exact hj
    have hn:=hm.put (j:=jB) (.inr (by grind)) (B0++m::B1);have fs:=s.set (j:=jB) (B0++m::B1);have vs:=Qa (.d (chD ck)) ck (PlV.d _) x ((S0.vars.length+i:Nat):Int) (R.AI jB (B0++m::B1));simp only [v2,v3,v4,k,a,ks,wB,eI,g.cells,g.cell,AD,if_true,if_neg b,if_neg e,go_sem];(repeat' refine wQ ?_<;>simp only [v2,v4,a,eI,AD,if_true,if_neg b,if_neg e,go_sem])
    repeat' (with_reducible refine DF ?_ ?_)
   all_goals
    refine AN.det vs ?_;have ho:=hn.put (j:=jI) (.inr (by rw [AD,if_neg b,u _ _ hI];simp)) (I0++.d (chD (Et ck x ((S0.vars.length+i:Nat):Int)))::I1);have ds:=fs.set (j:=jI) (I0++.d (chD (Et ck x ((S0.vars.length+i:Nat):Int)))::I1);simp only [v2,v4,a,al,wI,N,AD,if_true,if_neg b,if_neg e,go_sem];(repeat' refine wQ ?_<;>simp only [N,go_sem])
    have hP:L0P B O S0 fl ns ch jA jI jB jc c Q00 I0 I1 B0 B1 (i+1) m (Et ck x ((S0.vars.length+i:Nat):Int)) ((Φb.AI jB (B0++m::B1)).AI jI (I0++.d (chD (Et ck x ((S0.vars.length+i:Nat):Int)))::I1)) ((Q.AI jB (B0++m::B1)).AI jI (I0++.d (chD (Et ck x ((S0.vars.length+i:Nat):Int)))::I1)) ((R.AI jB (B0++m::B1)).AI jI (I0++.d (chD (Et ck x ((S0.vars.length+i:Nat):Int)))::I1)):=by
     refine ⟨B6 (B6 F he) hg,?_,ho,⟨l++[(x,((S0.vars.length+i:Nat):Int))],?_,?_⟩,nm.with x,?_,?_,?_,?_⟩
     . rw [Vo,A4];exact ds
     . rw [SH,hq]
     . rw [A4,hy,Aa hx];rfl
     . rw [AD,if_neg hd,AD,if_neg hb];exact u _ _ ha
     . rw [AD,if_pos rfl]
     . rw [AD,if_neg (A5 b),AD,if_pos rfl]
     . rw [AD,if_neg hp,AD,if_neg e];exact u _ _ hc
    exact ih (i+1,m,_,_,_,_) ⟨f,hP⟩ (by simp only;omega)
 . have hv:i=ns.length:=by omega
   subst hv;(repeat' refine wQ ?_<;>simp only [B5 f,go_sem]);exact hk _ _ _ _ _ h
end
section
variable {B:LB} {O A V Φ Ψ Φ':X} {S:LSt}
theorem aK {s:Nat}:∀ {rows:List (List DV)},(∀r∈rows,r.length=s)->chunk s rows.length rows.flatten=rows
 |[],_=>rfl
 |r::rows,h=>by
  have a:=h r AY;rw [AT,chunk,BO,List.take_left' a,List.drop_left' a,aK fun q b=>h q (AZ _ b)]
theorem W.AbG {cx:Cx} {KK:I->X->Prop} {k:List CI} {F F':Fm} {L:Lm} {j n s e:Nat} {cs:List I} {rows:List (List DV)} (c:V.C j=some cs) (d:dvs cs=some rows.flatten) (q:∀r∈rows,r.length=s) (g:cs.length=n * s) (m:rows.length=n) (l:n<=1000000000) (b:FzT (.ms j n s e) (.d (.sl rows)) F F') (a:W cx KK k F' L (V.CM j)):W cx KK k F L V:=by
 subst m;refine W.freeze (i:=j) (n:=rows.length) (size:=s) (cs:=cs) (ds:=rows.flatten) (H:=V.CM j) (L':=L) (F':=F') c d g (Ai l (show (1000000000:Nat)<=maxLen by decide+kernel)) (fun t=>?_) (fun k cs f=>⟨cs,f,.inl rfl⟩) (fun r cs' a=>?_) (fun t h=>h) a
 . rcases b t with e|⟨o,p⟩
   . exact .inl e
   grind [aK,frz]
 . rw [B9] at a
   grind
theorem ADO:∀ {l:List (I×List Int)},(∀q∈l,DG q.1 (q.2.map Ez))->dvs (l.map (·.1))=some (l.map fun q=>zW q.2).flatten
 |[],_=>rfl
 |q::l,h=>by
  have a:=ADO fun q b=>h q (AZ _ b);rw [AB,dvs,(h q AY).dv,a];rfl
theorem Mc {a b:Nat} {c:List I} (h:A.C a=some c) (d:A.C b=none):a≠b:=fun e=>by grind
theorem FrL.wr {j:Nat} {c0:List I} (f:FrL B O Φ A S) (b:Φ.C j=some c0) (a:O.C j=none) (cs:List I):∃Φ',FrL B O Φ' (A.AI j cs) S/\Φ'.C j=some cs/\∀k,k≠j->Φ'.C k=Φ.C k:=
 ⟨_,f.set (by rw [b];simp) a cs,BB,fun k c=>by rw [AD,if_neg c]⟩
theorem LH.fail (h:LH B Φ A S):∃cv vv b c nv,A.C B.i=some (lgC B S.fl cv vv b c nv)/\LH B Φ (A.AI B.i (lgC B true cv vv b c nv)) { S with fl:=true}:=by
 obtain ⟨cv,vv,b,c,nv,h⟩:=h;obtain ⟨d,e,f⟩:=h.wY (lgC B true cv vv b c nv);have a:=h.ok;exact ⟨cv,vv,b,c,nv,h.bi,cv,vv,b,c,nv,BB,d,e,f,h.i0,h.rv,h.nv,⟨a.jb,a.vz,a.cz,a.cj,a.c64,a.nt⟩⟩
theorem Br.fail {n c:Nat} {x:XE} {T:LSt} (h:Br S n c x T):Br S n c x { T with fl:=true}:=
 ⟨⟨h.le.xs,h.le.xl,h.le.vl,h.le.cs,h.le.nt,h.le.bd⟩,h.nf,h.n0,h.atx,h.kd⟩
theorem Br.up {n c d:Nat} {x:XE} {T:LSt} (h:Br S n c x T) (a:c<=d):Br S n d x T:=⟨h.le.up a,h.nf,h.n0,h.atx,h.kd⟩
theorem ASR {α:Type} {n c:Nat} (h:c < n) (v:α):AH (n - c) v=v::AH (n - (c+1)) v:=by
 rw [show n - c=(n - (c+1))+1 by omega,Bg]
theorem qX {α:Type} {l:List α} {x y:α} {i:Nat} (h:(l++[x])[i]?=some y):(i < l.length/\l[i]?=some y)\/(i=l.length/\y=x):=by
 grind
def zTy:Ty:= .mk 0 0 []
theorem ADP:∀n:Nat,dvs (AH n [I.d (.int .i64 0),.d (.int .i64 0),.Ac]).flatten=some (Ty.Cz (AH n zTy)).flatten
 |0=>rfl
 |n+1=>by
  have:=ADP n;rw [Bg,Bg,BO,Ty.BQ,AB,BO,<- Ty.BQ];simp only [AU,A3,dvs,this];rfl
theorem AUU {j:Nat} {cs:List I} (h:A.C j=none):(A.AI j cs).CM j=A:=by
 rw [p7];refine X.ext' ?_ rfl rfl rfl
 grind [B9]
theorem LH.AX1 {T:LSt} (h:LH B Φ V T) (fl:List Ty):LH B Φ V (T.Cc (fl.take 0)):=by rw [CD,fU];exact h
structure MtI (B:LB) (Φ0:X) (S:LSt) (x:XE) (al:List Al) (cons:List Con) (ch:Ch) (jA jI jB c:Nat) (cks:List Ch) (wb:List (I×List Int)) (Φ' V:X) (T:LSt):Prop where
 f:FrL B Φ0 Φ' V T
 br:Br S S.xs.length (1+6 * c) x T
 a:Φ'.C jA=some (((Aj c).map fun i=>I.d (.int .i64 ((aiC al cons i:Nat):Int)))++AH (cons.length - c) (.d (.int .i64 0)))
 i:Φ'.C jI=some (cks.map (fun k=>I.d (chD k))++AH (cons.length - c) .Dt)
 b:Φ'.C jB=some (wb.map (·.1)++AH (cons.length - c) .Ac)
 cl:cks.length=c
 ci:∀(i:Nat) (k:Ch),cks[i]?=some k->Ho T.vars.length k/\∃a l,al[aiC al cons i]?=some a/\k=GR ch l/\l.map (·.1)=a.vars
 wl:wb.length=c
 wi:∀q∈wb,DG q.1 (q.2.map Ez)
theorem MtI.snoc {Φ0 Φb V:X} {x:XE} {al:List Al} {cons:List Con} {ch ck:Ch} {jA jI jB jc c:Nat} {cks:List Ch} {wb:List (I×List Int)} {T:LSt} {fl:List Ty} {a:Al} {w:I} (f:Br S S.xs.length (1+6 * c) x T) (P:c < cons.length) (N:al[aiC al cons c]?=some a) (L:a.vars.length<=6) (m:fl.length=a.vars.length) (j:cks.length=c) (r:wb.length=c)
 (g:∀(i:Nat) (k:Ch),cks[i]?=some k->Ho T.vars.length k/\∃a l,al[aiC al cons i]?=some a/\k=GR ch l/\l.map (·.1)=a.vars) (p:∀q∈wb,DG q.1 (q.2.map Ez))
 (h:L0P B Φ0 T fl a.vars ch jA jI jB jc c (((Aj c).map fun i=>I.d (.int .i64 ((aiC al cons i:Nat):Int)))++I.d (.int .i64 ((aiC al cons c:Nat):Int))::AH (cons.length - (c+1)) (.d (.int .i64 0))) (cks.map (fun k=>I.d (chD k))) (AH (cons.length - (c+1)) .Dt) (wb.map (·.1)) (AH (cons.length - (c+1)) .Ac) a.vars.length w ck Φb Φ' V):
 MtI B Φ0 S x al cons ch jA jI jB (c+1) (cks++[ck]) (wb++[(w,HT T.vars.length a.vars.length)]) Φ' V (T.Cc fl):=by
 obtain ⟨o,v,u,⟨l,D,n⟩,G,e,z,d,_⟩:=h;rw [<- m,Ar] at u;rw [Ar] at n;have K:(T.Cc fl).vars.length=T.vars.length+fl.length:=by simp [LSt.Cc]
 refine ⟨⟨X.le_trans o v.le,u⟩,(f.Cc fl).up (by omega),?_,?_,?_,by simp [j],fun i k E=>?_,by simp [r],fun q b=>?_⟩
 . rw [e,Cq,A4];simp
 . rw [z];simp
 . rw [d];simp
 . rcases qX E with ⟨F,s⟩|⟨s,t⟩
   . obtain ⟨t,y⟩:=g i k s;exact ⟨t.mono (by omega),y⟩
   grind
 . rcases A2.1 b with b|b
   . exact p q b
   . simp only [A9] at b;subst b;exact v.row
end
end Go.Ab
namespace Go.Proofs
open Go.Shelf Go.RowKit Go.Lib Go.Sort Go.Ab
theorem Tryz.APR (x y:CE2) (Q08:World):Calls Tzp 113 #[.agg #[.string ⟨x.1.toArray⟩,.int .i64 (x.2.val:Int)],.agg #[.string ⟨y.1.toArray⟩,.int .i64 (y.2.val:Int)]] Q08 fun e w'=>e= .returned (.int .i64 (gW x y))/\∃q os',w'=grow (Q08.drewN q) os':=by
 go_enter Tryz.func113,Tryz.ntmps113
 go_wp2
 go_ret
 exact ⟨rfl,0,_,by rw [alloc_eq_grow,alloc_eq_grow,grow_grow];rfl⟩
end Go.Proofs
namespace Go.Ab
section
open Go.RowKit Go.Sort Go.Proofs
variable {B:LB} {O A V Φ Ψ:X} {S:LSt}
theorem LG.ext {cv vv ev ja nv:I} (h:LG B Φ V S cv vv ev ja nv) (a:V.le A) (b:Ψ.le A) (i:∀t,Ψ.tok t=true->Φ.tok t=true) (e:∀k,V.C k≠none->Ψ.C k=Φ.C k):LG B Ψ A S cv vv ev ja nv:=by
 refine ⟨a.C _ _ h.bi,⟨fun m f=>?_,h.ms.2⟩,h.ow.frame b i a.tok,b,by rw [e _ h.gi];exact h.i0,h.rv,h.nv,h.ok⟩;obtain ⟨k1,j⟩:=h.ms.1 m f;refine ⟨k1,j.imp id ?_⟩;rintro ⟨g,k,c,d,l⟩;exact ⟨g,k,c,a.C _ _ d,by grind⟩
theorem LH.ext (h:LH B Φ V S) (a:V.le A) (b:Ψ.le A) (e:∀t,Ψ.tok t=true->Φ.tok t=true) (d:∀k,V.C k≠none->Ψ.C k=Φ.C k):LH B Ψ A S:=by
 obtain ⟨cv,vv,c,f,nv,h⟩:=h;exact ⟨cv,vv,c,f,nv,h.ext a b e d⟩
theorem AGU {jo:Nat} {l:List (M×Int)} {v:I} (h:CaI O jo l A v) (G:l.length<=1000000) (L:∀x∈l,0<=x.2/\x.2 < 2000000000):
 AS Tzp 112 [v,.fn 113 [] []] A (fun r H=>r= .tup []/\∃B,B.Perm l/\CaI O jo B H v):=by
 rcases (h.m.1 _ AY).2 with ⟨i,b⟩|⟨t,j,i,b,s⟩
 . have o:l=[]:=Rr.1 i;simp only [mwL] at b;subst b;subst o;intro base g D T w vs K k;obtain ⟨a,u,rfl,P,S⟩:=k.two;cases P with|Ac=>
   refine Calls.mono (show Calls Tzp 112 #[.slice none 0 0,u] w _ from AnyF.slices_SortFunc_none Tryz.AS9 none 0 u w) ?_;rintro e w' ⟨rfl,rfl⟩;exact ⟨_,.tup [],g,A,rfl,.tup (vs:=[]) rfl (by simp),K,Gh.le_refl g,KP.refl D w',rfl,[],.nil,h⟩
 . simp only [mwL] at i b;subst i;obtain ⟨m,rfl⟩:=pR l L;rw [<- Yi] at b;rw [AA] at h ⊢;have n:j≠jo:=fun e=>(BZ.1 h.m.2).1 _ AY jo rfl (by rw [e];simp only [mwL,msI]);refine (AOG (e:=tkL) (l:=m) (fun C cap d w F c q=>?_) (by rw [AA] at G;omega) b).mono ?_
   . have E:∀args w,(callFunc 113 args).run Tzp w= .ok (.enter 113 args) w:=enters_of (by exact Tryz.func113) (by kernel_rfl) rfl;exact AnyQ.slices_SortFunc Tryz.AS9 2 Tryz.isAgg122 Tryz.sizeOf122 ZQ (fun _=>rfl) (fun x v k=>by simp [ZQ] at k;rcases k with rfl|rfl<;>rfl) gW APT 113 #[] C 0 cap d w E (fun _ _ _ _ x y=>Tryz.APR x y _) F c q
   . rintro _ _ ⟨rfl,N,z,rfl⟩;refine ⟨rfl,N.map fun x=>(x.1,(x.2.val:Int)),z.map _,?_,?_,B6 h.le s⟩
     . rw [AD,if_neg (A5 n)];exact h.b
     . refine ⟨fun R f=>?_,by have:=h.m.2;simpa [mwL] using this⟩;simp only [A9] at f;subst f;have p:=z.length_eq;have Q:=Ds.2 (fun e:m=[]=>by rw [e] at t;simp [mwL] at t);refine ⟨?_,.inr ⟨by simp only [mwL,AA];omega,j,?_,?_,s⟩⟩
       . simp only [mwL];rw [<- Yi,Yj,AA]
       . simp only [mwL,AA,p]
       . simp only [mwL];rw [AD,if_pos rfl,Yi]
theorem W.AcU {cx:Cx} {KK:I->X->Prop} {k:List CI} {F:Fm} {L:Lm} {jo:Nat} {l:List (M×Int)} {v:I} (h:CaI O jo l A v) (D:l.length<=1000000) (w:O.C jo=none) (a:∀H,O.le H->H.C jo=some [.d (.sl (l.map Sk))]->W cx KK k F L H):W cx KK k F L A:=by
 have y:=h.b;rcases (h.m.1 _ AY).2 with ⟨f,b⟩|⟨P,j,f,b,z⟩
 . have q:l=[]:=Rr.1 f;simp only [mwL] at b;subst b;subst q;refine W.AF6 (H:=A.AI jo [BU []]) (fun m cs' g=>?_) (fun t E=>E) (a _ (B6 h.le w) (by rw [AD,if_pos rfl];rfl));rw [AD] at g;split at g
   . rename_i e;cases g;subst e;exact ⟨_,y,.inr rfl⟩
   . exact ⟨_,g,.inl rfl⟩
 . simp only [mwL] at f b;subst f;have p:j≠jo:=fun e=>(BZ.1 h.m.2).1 _ AY jo rfl (by rw [e];rfl)
   have o:chunk 2 l.length (l.map Sk).flatten=l.map Sk:=by
    have:=aK (s:=2) (rows:=l.map Sk) (fun r a=>by obtain ⟨x,_,rfl⟩:=BR.1 a;rfl)
    rwa [AA] at this
   refine W.freeze (i:=j) (n:=l.length) (size:=2) (ds:=(l.map Sk).flatten) (H:=(A.CM j).AI jo [BU (l.map Sk)]) (L':=L) (F':=F) b ?_ ?_ (Ai D (show (1000000:Nat)<=maxLen by decide+kernel)) (fun t=>.inl rfl) (fun k cs B=>⟨cs,B,.inl rfl⟩) (fun r cs' a=>?_) (fun t h=>h) (a _ ⟨fun m cs c=>?_,h.le.tok,h.le.gt,h.le.bt⟩ BB)
   . rw [BL];generalize (l.map Sk).flatten=ds
     induction ds with
     |nil=>rfl
     |cons d ds G=>rw [AB,dvs,G];rfl
   . rw [xK,Dd gT 2 pQ]
   . rw [AD] at a;split at a
     . rename_i e;cases a;subst e;exact ⟨A5 p,_,y,.inr (by rw [o];simp [Sl,frz])⟩
     . rw [B9] at a;split at a
       . cases a
       . rename_i u;exact ⟨u,cs',a,.inl rfl⟩
   . have K:m≠jo:=fun e=>by rw [e,w] at c;cases c
     have N:m≠j:=fun e=>by rw [e,z] at c;cases c
     rw [AD,if_neg K,B9,if_neg N];exact h.le.C _ _ c
end
end Go.Ab
