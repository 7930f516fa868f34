/- The law ScopeOrder over abstract values: the walks of its loops. The sanity check of the laws of scope. Reference scope: find, twice. Reference scope: Constructor. Reference scope: resolve's loop. Conditions: none. -/
import Derived.Test.YtlckhmkeihbhmaaGreatXXq
set_option linter.unusedSimpArgs false
set_option linter.unusedVariables false
set_option maxRecDepth 4000
set_option maxHeartbeats 8000000
open List renaming take→DJ,drop→Cq,set_eq_take_append_cons_drop→LN,replicate→AH,replicate_succ→EC,flatten_cons→Dq,getD_eq_getElem?_getD→Ap,mem_of_getElem?→AT,take_append_drop→A3,mem_cons_self→BG,take_of_length_le→AK,length_filter_le→F6,range→An,length_range→Lc,length_map→AA,drop_of_length_le→HS,map_cons→AG,map_nil→AQ,contains_iff_mem→A8,getElem?_take→BF,mem_append→A7,mem_singleton→Bd
open Nat renaming zero_le→Bu,mul_one→Ax,le_refl→A0
open Bool renaming false_or→DL,false_and→B5,and_false→Bm,not_false→E7,true_and→Au,eq_false_iff→CU
open Except renaming map→CP
namespace Go.Ab
open Go.Proofs
def Gj (l:List Nat):List AV:=l.map fun (n:Nat)=>AV.d (.int .i64 (n:Int))
theorem fV (l:List Nat):(Gj l).length=l.length:=by simp [Gj]
theorem Qw {l:List Nat} {k x:Nat} (h:l[k]?=some x):(Gj l)[k]?=some (.d (.int .i64 (x:Int))):=by simp [Gj,h]
theorem jK {l:List Nat} {k:Nat} (x:Nat) (h:k < l.length):DJ k (Gj l)++[AV.d (.int .i64 (x:Int))]++Cq (k+1) (Gj l)=Gj (l.set k x):=by
 unfold Gj
 rw [List.map_set,LN,if_pos (by simpa using h)]
 simp
theorem jJ {l:List Nat} {k:Nat} (h:k < l.length):(k+1≤(Gj l).length)=True:=by rw [fV];simp;omega
theorem fW (n:Nat):(AH n [AV.d (.int .i64 0)]).flatten=Gj (AH n 0):=by
 induction n with
 |zero=>rfl
 |succ n ih=>rw [EC,Dq,ih];rfl
theorem getD_some {l:List Nat} {k:Nat} (h:k < l.length):l[k]?=some (l.getD k 0):=by
 have h1:l[k]?=some l[k]:=by simp [h]
 rw [Ap,h1];rfl
theorem kV (a:Nat):decide ((a:Int) < 0)=false:=by simp
theorem nL {a n:Nat} (h:a < n):decide ((n:Int)≤(a:Int))=false:=by simp;omega
theorem oE {a b:Nat} (h:a≤b):decide ((b:Int) < (a:Int))=false:=by simp;omega
theorem l4 (Q:AV→AF→Prop) (rest:List CI) (gl:Nat) (cv gv:AV) (σ:AF) (ja i:Nat) (hi:i≤100000) (glen gi:AV) (A:List Nat) (hA:A.length=gl) (hgl:gl≤1000) (l:List Nat) (hll:l.length≤100000) (hnd:l.Nodup) (hl:∀k∈l,k < gl∧A.getD k 0=0)
 (hfin:Run BV Q rest (put 3 cv (put 4 (.ms ja gl 1 3) (put 5 (.d (.int .i64 i)) (put 35 gv (put 36 glen (put 37 gi (put 42 (.d (.sl (l.map HX))) (put 43 (.d (.int .i64 l.length)) (put 44 (.d (.int .i64 l.length)) (put 45 (.d (.bool false)) U)))))))))) E (σ.AO ja (Gj (MM A l (i+1))))):
 Run BV Q (.code (.loop IB)::.blk 2::rest) (put 3 cv (put 4 (.ms ja gl 1 3) (put 5 (.d (.int .i64 i)) (put 35 gv (put 36 glen (put 37 gi (put 42 (.d (.sl (l.map HX))) (put 43 (.d (.int .i64 l.length)) (put 44 (.d (.int .i64 0)) U))))))))) E (σ.AO ja (Gj A)):=by
 refine Run.BD ?_
 refine Run.BK ((fun (a3:AV) (a4:AV) (a5:AV) (a35:AV) (a36:AV) (a37:AV) (a42:AV) (a43:AV)=>fun (y:Nat)=>put 3 a3 (put 4 a4 (put 5 a5 (put 35 a35 (put 36 a36 (put 37 a37 (put 42 a42 (put 43 a43 (put 44 (.d (.int .i64 y)) U))))))))) _ _ _ _ _ _ _ _) (fun _=>E) (fun y=>σ.AO ja (Gj (MM A (l.take y) (i+1)))) (fun y=>y≤l.length) (fun y=>l.length - y) ?_ 0 (Bu _)
 intro j hj ih
 have hb:(σ.AO ja (Gj (MM A (l.take j) (i+1)))).blk ja=some (Gj (MM A (l.take j) (i+1))):=by rw [AM,if_pos rfl]
 by_cases hlt:j < l.length
 · obtain ⟨f,hf⟩:=BC hlt
   obtain ⟨h1,h2⟩:=hl f (AT hf)
   have he:=BA (enc:=HX) hf
   simp only [HX] at he
   have hal:(MM A (l.take j) (i+1)).length=gl:=by rw [Ug,hA]
   have hz:(Gj (MM A (l.take j) (i+1)))[f]?=some (.d (.int .i64 0)):=by
    have:=Qw (getD_some (l:=MM A (l.take j) (i+1)) (k:=f) (by rw [hal];exact h1))
    rw [Uf _ _ _ (by rw [hA];exact h1)] at this
    have hnm:f ∉ l.take j:=fun hm=>by
     have h3:(l.take j++l.drop j).Nodup:=by rw [A3];exact hnd
     have h4:=(List.nodup_append.1 h3).2.2 f hm f (by rw [B3 hf];exact BG ..)
     exact h4 rfl
    rw [if_neg hnm,h2] at this
    exact this
   have hw1:=A5 (show j+1≤9000000000000000000 by omega)
   have hw2:=A5 (show i+1≤9000000000000000000 by omega)
   have hil:=ilT h1
   have hst:=jK (l:=MM A (l.take j) (i+1)) (k:=f) (i+1) (by rw [hal];exact h1)
   have hlt2:=jJ (l:=MM A (l.take j) (i+1)) (k:=f) (by rw [hal];exact h1)
   have hih:=ih (j+1) (by omega) (by omega)
   rw [BH hf,dF] at hih
   (repeat' (first|refine Run.ct rfl ?_|((first|refine Run.reg mixed ?_|refine Run.AE ?_|(refine Ce rfl (fun h=>?_) (fun h=>?_)<;>try (cases h;done)))<;>try simp -implicitDefEqProofs only [Ac hlt,he,hb,hz,hw1,hw2,hil,kV,nL h1,Ax,bne_self_eq_false,Int.reduceBNe,hst,hlt2,go_sem])|(refine ⟨fun h=>?_,fun h=>?_⟩<;>first|(cases h;done)|try simp only [h])|fail))
   exact hih
 · have hje:j=l.length:=by omega
   subst hje
   rw [AK (A0 _)]
   (repeat' (first|refine Run.ct rfl ?_|((first|refine Run.reg mixed ?_|refine Run.AE ?_|(refine Ce rfl (fun h=>?_) (fun h=>?_)<;>try (cases h;done)))<;>try simp -implicitDefEqProofs only [Bi hlt,go_sem])|(refine ⟨fun h=>?_,fun h=>?_⟩<;>first|(cases h;done)|try simp only [h])|fail))
   exact hfin
theorem l5 (Q:AV→AF→Prop) (rest:List CI) (g:List (List Nat)) (he:N9 g) (hgl:g.length≤1000) (cv:AV) (σ:AF) (ja:Nat) (hcl:(H6 g).length≤100000)
 (hfin:∀A,A.length=g.length→(∀a,a < g.length→A.getD a 0≠0)→(∀a b,a < g.length→b∈g.getD a []→A.getD b 0≤A.getD a 0)→Run BV Q rest (put 3 cv (put 4 (.ms ja g.length 1 3) (put 35 (.d (.sl ((H6 g).map J1))) (put 36 (.d (.int .i64 (H6 g).length)) (put 37 (.d (.int .i64 (H6 g).length)) (put 38 (.d (.bool false)) U)))))) E (σ.AO ja (Gj A))):
 Run BV Q (.code (.loop IC)::.blk 0::rest) (put 3 cv (put 4 (.ms ja g.length 1 3) (put 35 (.d (.sl ((H6 g).map J1))) (put 36 (.d (.int .i64 (H6 g).length)) (put 37 (.d (.int .i64 0)) U))))) E (σ.AO ja (Gj (AH g.length 0))):=by
 refine Run.BD ?_
 refine Run.BK ((fun (a3:AV) (a4:AV) (a35:AV) (a36:AV)=>fun (y:Nat×List Nat)=>put 3 a3 (put 4 a4 (put 35 a35 (put 36 a36 (put 37 (.d (.int .i64 y.1)) U))))) _ _ _ _) (fun _=>E) (fun y=>σ.AO ja (Gj y.2)) (fun y=>y.1≤(H6 g).length∧∃ls f,TU g ls y.2 y.1∧(H6 g).drop y.1=G7 g f ls∧unm ls < f) (fun y=>(H6 g).length - y.1) ?_ (0,AH g.length 0) ⟨Bu _,_,g.length+1,TU.start g,rfl,by
  have:=F6 (fun b=>!b) (AH g.length false)
  simp only [unm,List.length_replicate] at this ⊢;omega⟩
 rintro ⟨i,A⟩ ⟨hi,ls,f,hO,hd,hu⟩ ih
 simp only at hi hO hd
 by_cases hlt:i < (H6 g).length
 · obtain ⟨l,hl⟩:=BC hlt
   have hdl:=B3 hl
   rw [hd] at hdl
   obtain ⟨k,f',hk,hc,rfl,hr,hu'⟩:=XR hO.lsl hu hdl
   have he1:=BA (enc:=J1) hl
   simp only [J1] at he1
   have hw1:=A5 (show i+1≤9000000000000000000 by omega)
   have hgrl:(Oy g k).length≤100000:=by
    have:=F6 (FI g k) (An g.length)
    rw [Lc] at this
    rw [Oy];omega
   have hih:=ih (i+1,_) ⟨by simp only;omega,_,f',hO.next he hk hc,hr,hu'⟩ (by simp only;omega)
   simp only at hih
   (repeat' (first|refine Run.ct rfl ?_|((first|refine Run.reg mixed ?_|refine Run.AE ?_|(refine Ce rfl (fun h=>?_) (fun h=>?_)<;>try (cases h;done)))<;>try simp -implicitDefEqProofs only [Ac hlt,he1,hw1,AA,go_sem])|(refine ⟨fun h=>?_,fun h=>?_⟩<;>first|(cases h;done)|try simp only [h])|fail))
   refine l4 Q _ g.length cv _ σ ja i (by omega) _ _ A hO.len hgl (Oy g k) hgrl (bR g k) (fun k' hk'=>hO.new hk hc hk') ?_
   (repeat' (first|refine Run.ct rfl ?_|((first|refine Run.reg mixed ?_|refine Run.AE ?_|(refine Ce rfl (fun h=>?_) (fun h=>?_)<;>try (cases h;done)))<;>try simp -implicitDefEqProofs only [hw1,go_sem])|(refine ⟨fun h=>?_,fun h=>?_⟩<;>first|(cases h;done)|try simp only [h])|fail))
   exact hih
 · have hie:i=(H6 g).length:=by omega
   subst hie
   rw [HS (A0 _)] at hd
   obtain ⟨f1,f2⟩:=hO.fin (Ye hu hd.symm)
   (repeat' (first|refine Run.ct rfl ?_|((first|refine Run.reg mixed ?_|refine Run.AE ?_|(refine Ce rfl (fun h=>?_) (fun h=>?_)<;>try (cases h;done)))<;>try simp -implicitDefEqProofs only [Bi hlt,go_sem])|(refine ⟨fun h=>?_,fun h=>?_⟩<;>first|(cases h;done)|try simp only [h])|fail))
   exact hfin A hO.len f1 f2
theorem l6 (Q:AV→AF→Prop) (rest:List CI) (gl:Nat) (σ:AF) (ja i:Nat) (cv cl ci:AV) (A:List Nat) (hA:A.length=gl) (hi:i < gl) (l:List Nat) (hll:l.length≤100000) (hl:∀k∈l,k < gl∧A.getD k 0≤A.getD i 0)
 (hfin:Run BV Q rest (put 4 (.ms ja gl 1 3) (put 9 (.d (.int .i64 i)) (put 70 cv (put 71 cl (put 72 ci (put 82 (.d (.sl (l.map HX))) (put 83 (.d (.int .i64 l.length)) (put 84 (.d (.int .i64 l.length)) (put 85 (.d (.bool false)) U))))))))) E (σ.AO ja (Gj A))):
 Run BV Q (.code (.loop ID)::.blk 6::rest) (put 4 (.ms ja gl 1 3) (put 9 (.d (.int .i64 i)) (put 70 cv (put 71 cl (put 72 ci (put 82 (.d (.sl (l.map HX))) (put 83 (.d (.int .i64 l.length)) (put 84 (.d (.int .i64 0)) U)))))))) E (σ.AO ja (Gj A)):=by
 have hb:(σ.AO ja (Gj A)).blk ja=some (Gj A):=by rw [AM,if_pos rfl]
 generalize σ.AO ja (Gj A)=τ at hb hfin ⊢
 refine Run.BD ?_
 refine Run.BK ((fun (a4:AV) (a9:AV) (a70:AV) (a71:AV) (a72:AV) (a82:AV) (a83:AV)=>fun (y:Nat)=>put 4 a4 (put 9 a9 (put 70 a70 (put 71 a71 (put 72 a72 (put 82 a82 (put 83 a83 (put 84 (.d (.int .i64 y)) U)))))))) _ _ _ _ _ _ _) (fun _=>E) (fun _=>τ) (fun y=>y≤l.length) (fun y=>l.length - y) ?_ 0 (Bu _)
 intro j hj ih
 by_cases hlt:j < l.length
 · obtain ⟨f,hf⟩:=BC hlt
   obtain ⟨h1,h2⟩:=hl f (AT hf)
   have he:=BA (enc:=HX) hf
   simp only [HX] at he
   have hz:=Qw (getD_some (l:=A) (k:=f) (by omega))
   have hz2:=Qw (getD_some (l:=A) (k:=i) (by omega))
   have hw1:=A5 (show j+1≤9000000000000000000 by omega)
   have hil:=ilT h1
   have hil2:=ilT hi
   have hih:=ih (j+1) (by omega) (by omega)
   (repeat' (first|refine Run.ct rfl ?_|((first|refine Run.reg mixed ?_|refine Run.AE ?_|(refine Ce rfl (fun h=>?_) (fun h=>?_)<;>try (cases h;done)))<;>try simp -implicitDefEqProofs only [Ac hlt,he,hb,hz,hz2,hw1,hil,hil2,kV,nL h1,oE h2,Ax,go_sem])|(refine ⟨fun h=>?_,fun h=>?_⟩<;>first|(cases h;done)|try simp only [h])|fail))
   exact hih
 · have hje:j=l.length:=by omega
   subst hje
   (repeat' (first|refine Run.ct rfl ?_|((first|refine Run.reg mixed ?_|refine Run.AE ?_|(refine Ce rfl (fun h=>?_) (fun h=>?_)<;>try (cases h;done)))<;>try simp -implicitDefEqProofs only [Bi hlt,go_sem])|(refine ⟨fun h=>?_,fun h=>?_⟩<;>first|(cases h;done)|try simp only [h])|fail))
   exact hfin
theorem l7 (Q:AV→AF→Prop) (rest:List CI) (g:List (List Nat)) (he:N9 g) (hgl:g.length≤1000) (hll:∀l∈g,l.length≤1000) (σ:AF) (ja:Nat) (A:List Nat) (hA:A.length=g.length) (h1:∀a,a < g.length→A.getD a 0≠0) (h2:∀a b,a < g.length→b∈g.getD a []→A.getD b 0≤A.getD a 0)
 (hfin:Run BV Q rest (put 4 (.ms ja g.length 1 3) (put 70 (.d (.sl (g.map J1))) (put 71 (.d (.int .i64 g.length)) (put 72 (.d (.int .i64 g.length)) (put 73 (.d (.bool false)) U))))) E (σ.AO ja (Gj A))):
 Run BV Q (.code (.loop IE)::.blk 4::rest) (put 4 (.ms ja g.length 1 3) (put 70 (.d (.sl (g.map J1))) (put 71 (.d (.int .i64 g.length)) (put 72 (.d (.int .i64 0)) U)))) E (σ.AO ja (Gj A)):=by
 have hb:(σ.AO ja (Gj A)).blk ja=some (Gj A):=by rw [AM,if_pos rfl]
 refine Run.BD ?_
 refine Run.BK ((fun (a4:AV) (a70:AV) (a71:AV)=>fun (y:Nat)=>put 4 a4 (put 70 a70 (put 71 a71 (put 72 (.d (.int .i64 y)) U)))) _ _ _) (fun _=>E) (fun _=>σ.AO ja (Gj A)) (fun y=>y≤g.length) (fun y=>g.length - y) ?_ 0 (Bu _)
 intro i hi ih
 by_cases hlt:i < g.length
 · obtain ⟨l,hl⟩:=BC hlt
   have hgd:g.getD i []=l:=by rw [Ap,hl];rfl
   have hlm:=AT hl
   have he1:=BA (enc:=J1) hl
   simp only [J1] at he1
   have hz:=Qw (getD_some (l:=A) (k:=i) (by omega))
   have hn:((A.getD i 0:Int)==0)=false:=C1 (by have:=h1 i hlt;omega)
   have hw1:=A5 (show i+1≤9000000000000000000 by omega)
   have hil:=ilT hlt
   have hih:=ih (i+1) (by omega) (by omega)
   (repeat' (first|refine Run.ct rfl ?_|((first|refine Run.reg mixed ?_|refine Run.AE ?_|(refine Ce rfl (fun h=>?_) (fun h=>?_)<;>try (cases h;done)))<;>try simp -implicitDefEqProofs only [Ac hlt,he1,hb,hz,hn,hw1,hil,Ax,AA,go_sem])|(refine ⟨fun h=>?_,fun h=>?_⟩<;>first|(cases h;done)|try simp only [h])|fail))
   refine l6 Q _ g.length σ ja i _ _ _ A hA hlt l (by have:=hll l hlm;omega) (fun k hk=>⟨he l hlm k hk,h2 i k hlt (by rw [hgd];exact hk)⟩) ?_
   (repeat' (first|refine Run.ct rfl ?_|((first|refine Run.reg mixed ?_|refine Run.AE ?_|(refine Ce rfl (fun h=>?_) (fun h=>?_)<;>try (cases h;done)))<;>try simp -implicitDefEqProofs only [hw1,go_sem])|(refine ⟨fun h=>?_,fun h=>?_⟩<;>first|(cases h;done)|try simp only [h])|fail))
   exact hih
 · have hie:i=g.length:=by omega
   subst hie
   (repeat' (first|refine Run.ct rfl ?_|((first|refine Run.reg mixed ?_|refine Run.AE ?_|(refine Ce rfl (fun h=>?_) (fun h=>?_)<;>try (cases h;done)))<;>try simp -implicitDefEqProofs only [Bi hlt,go_sem])|(refine ⟨fun h=>?_,fun h=>?_⟩<;>first|(cases h;done)|try simp only [h])|fail))
   exact hfin
end Go.Ab
namespace Go.Ab
open Go.Proofs
def awP:Pg:=⟨[],[⟨[102],[],.mk 4 [103] 0 [] [] []⟩]⟩
theorem iF:NN awP=(3,0,0):=by decide+kernel
theorem UH (σ:AF):AL Tryz.prog 14 [] σ (fun v σ'=>v= .d (.bool true)∧σ'=σ):=by
 have hc:=OY awP σ (fun d hd=>by cases hd)
 rw [iF] at hc
 refine VP (by simp) ?_
 rw [show BN []=U from by funext s;simp [BN,U]]
 simp only [pgA,awP,Pg.enc,FE.enc,Ex.A4,AG,AQ,dgA] at hc
 have hc':AL Tryz.prog 18 [.agg [.AZ,.d (.sl [[.str [102],.sl [],.int .i64 4,.str [103],.int .i64 0,.sl [],.sl [],.sl []]])]] σ (fun v σ'=>v= .agg [.d (.int .i64 3),.d (.int .i64 0),.d (.int .i64 0)]∧σ'=σ):=
  AL.plain (by simp only [AV.DI,I9,Mk,G0];exact hc)
 (repeat' (first|refine Run.ct rfl ?_|((first|refine Run.reg mixed ?_|refine Run.AE ?_|refine Run.A1 P6 (AF.le_refl _) ?_|refine AI.det (hc') ?_|(refine Ce rfl (fun h=>?_) (fun h=>?_)<;>try (cases h;done)))<;>try simp -implicitDefEqProofs only [go_sem])|(refine ⟨fun h=>?_,fun h=>?_⟩<;>first|(cases h;done)|try simp only [h])|fail))
end Go.Ab
namespace Go.Ab
open Go.Proofs
theorem QI (l:List Str) (s:Str) (σ:AF):AL Tryz.prog 59 [.d (.sl (l.map Aw)),.d (.str s)] σ (fun v σ'=>v= .d (.int .i64 (E9 (Ct l s)))∧σ'=σ):=by
 refine bV (by simp) ?_
 rw [BX,← KB]
 refine Run.slot 0 (fun hb0=>?_)
 simp only [EX,if_true,AV.FY,AA] at hb0
 (repeat' (first|refine Run.ct rfl ?_|((first|refine Run.reg mixed ?_|refine Run.AE ?_)<;>try simp -implicitDefEqProofs only [AA,go_sem])|fail))
 refine Run.BD ?_
 refine Run.BK ((fun (a0:AV) (a1:AV)=>fun (i:Nat)=>put 0 a0 (put 1 a1 (put 5 (.d (.int .i64 i)) U))) _ _) (fun _=>E) (fun _=>σ) (fun i=>i≤l.length∧∀x∈l.take i,(x==s)=false) (fun i=>l.length - i) ?_ 0 ⟨by simp,by simp⟩
 rintro i ⟨hi,hno⟩ ih
 by_cases hlt:i < l.length
 · obtain ⟨x,hx⟩:=BC hlt
   have he:=BA (enc:=Aw) hx
   simp only [Aw] at he
   have hw1:IntKind.i64.wrap ((i:Int)+1)=((i+1:Nat):Int):=by rw [BL (by omega) (by omega)];omega
   cases hp:(x==s) with
   |true=>
    (repeat' (first|refine Run.ct rfl ?_|((first|refine Run.reg mixed ?_|refine Run.AE ?_|refine Run.A1 Ra (AF.le_refl _) ?_)<;>try simp -implicitDefEqProofs only [Ac hlt,he,hw1,BM,hp,AA,go_sem])|fail))
    rw [DX (p:=fun x=>x==s) hno hx hp];rfl
   |false=>
    (repeat' (first|refine Run.ct rfl ?_|((first|refine Run.reg mixed ?_|refine Run.AE ?_)<;>try simp -implicitDefEqProofs only [Ac hlt,he,hw1,BM,hp,AA,go_sem])|fail))
    exact ih (i+1) ⟨by omega,Eb (p:=fun x=>x==s) hno hx hp⟩ (by omega)
 · (repeat' (first|refine Run.ct rfl ?_|((first|refine Run.reg mixed ?_|refine Run.AE ?_|refine Run.A1 Ra (AF.le_refl _) ?_)<;>try simp -implicitDefEqProofs only [Bi hlt,AA,go_sem])|fail))
   rw [AK (by omega)] at hno
   rw [DY (p:=fun x=>x==s) hno];rfl
theorem LF (l:List Str) (σ:AF):AL Tryz.prog 38 [.d (.sl (l.map Aw))] σ (fun v σ'=>v= .d (.bool (CA l))∧σ'=σ):=by
 refine ZA (by simp) ?_
 rw [Bj]
 refine Run.slot 0 (fun hb0=>?_)
 simp only [EX,if_true,AV.FY,AA] at hb0
 (repeat' (first|refine Run.ct rfl ?_|((first|refine Run.reg mixed ?_|refine Run.AE ?_)<;>try simp -implicitDefEqProofs only [AA,go_sem])|fail))
 refine Run.BD ?_
 refine Run.BK ((fun (a0:AV)=>fun (i:Nat)=>put 0 a0 (put 3 (.d (.int .i64 i)) U)) _) (fun _=>E) (fun _=>σ) (fun i=>i≤l.length∧CA (l.take i)=false) (fun i=>l.length - i) ?_ 0 ⟨by simp,by simp [CA]⟩
 rintro i ⟨hi,hno⟩ ih
 by_cases hlt:i < l.length
 · obtain ⟨x,hx⟩:=BC hlt
   have he:=BA (enc:=Aw) hx
   simp only [Aw] at he
   have hw1:IntKind.i64.wrap ((i:Int)+1)=((i+1:Nat):Int):=by rw [BL (by omega) (by omega)];omega
   have hsn:=O3 (l.take i) x
   rw [← BH hx,hno,DL] at hsn
   (repeat' (first|refine Run.ct rfl ?_|((first|refine Run.reg mixed ?_|refine Run.AE ?_)<;>try simp -implicitDefEqProofs only [Ac hlt,AA,go_sem])|fail))
   refine Run.BD ?_
   refine Run.BK ((fun (a0:AV) (a3:AV)=>fun (j:Nat)=>put 0 a0 (put 3 a3 (put 4 (.d (.int .i64 j)) U))) _ _) (fun _=>E) (fun _=>σ) (fun j=>j≤i∧∀y∈l.take j,((x==y)&& !(x==[]))=false) (fun j=>i - j) ?_ 0 ⟨by simp,by simp⟩
   rintro j ⟨hj,hnj⟩ ih2
   by_cases hji:j < i
   · obtain ⟨y,hy⟩:=BC (show j < l.length by omega)
     have hey:=BA (enc:=Aw) hy
     simp only [Aw] at hey
     have hw2:IntKind.i64.wrap ((j:Int)+1)=((j+1:Nat):Int):=by rw [BL (by omega) (by omega)];omega
     cases h1:(x==y) with
     |false=>
      (repeat' (first|refine Run.ct rfl ?_|((first|refine Run.reg mixed ?_|refine Run.AE ?_)<;>try simp -implicitDefEqProofs only [Ac hji,he,hey,hw2,BM,Cb,h1,AA,go_sem])|fail))
      exact ih2 (j+1) ⟨by omega,Eb (p:=fun y=>(x==y)&& !(x==[])) hnj hy (by simp only [h1,B5])⟩ (by omega)
     |true=>
      cases h2:(x==[]) with
      |true=>
       (repeat' (first|refine Run.ct rfl ?_|((first|refine Run.reg mixed ?_|refine Run.AE ?_)<;>try simp -implicitDefEqProofs only [Ac hji,he,hey,hw2,BM,Cb,h1,h2,AA,go_sem])|fail))
       exact ih2 (j+1) ⟨by omega,Eb (p:=fun y=>(x==y)&& !(x==[])) hnj hy (by simp only [h2,Bool.not_true,Bm])⟩ (by omega)
      |false=>
       have hct:(l.take i).contains x=true:=by
        have:x=y:=by simpa using h1
        subst this
        rw [A8]
        exact AT (by rw [BF,if_pos hji];exact hy)
       (repeat' (first|refine Run.ct rfl ?_|((first|refine Run.reg mixed ?_|refine Run.AE ?_|refine Run.A1 Pw (AF.le_refl _) ?_)<;>try simp -implicitDefEqProofs only [Ac hji,he,hey,hw2,BM,Cb,h1,h2,AA,go_sem])|fail))
       rw [S4 (i:=i+1) (by rw [hsn,h2,hct];rfl)]
   · have hje:j=i:=by omega
     subst hje
     have hct:(!(x==[])&&(l.take j).contains x)=false:=by
      cases h2:(x==[]) with
      |true=>rfl
      |false=>
       rw [E7,Au,CU]
       intro hc
       rw [A8] at hc
       have:=hnj x hc
       simp [h2] at this
     (repeat' (first|refine Run.ct rfl ?_|((first|refine Run.reg mixed ?_|refine Run.AE ?_)<;>try simp -implicitDefEqProofs only [Bi hji,hw1,go_sem])|fail))
     exact ih (j+1) ⟨by omega,by rw [hsn,hct]⟩ (by omega)
 · (repeat' (first|refine Run.ct rfl ?_|((first|refine Run.reg mixed ?_|refine Run.AE ?_|refine Run.A1 Pw (AF.le_refl _) ?_)<;>try simp -implicitDefEqProofs only [Bi hlt,AA,go_sem])|fail))
   rw [AK (by omega)] at hno
   rw [hno]
end Go.Ab
namespace Go.Ab
open Go.Proofs
theorem LD (dt:List Dat) (hdt:QS dt) (s:Str) (σ:AF):AL Tryz.prog 67 [dsA dt,.d (.str s)] σ (fun v σ'=>v=R4 (IX dt s)∧σ'=σ):=by
 refine Rc (by simp) ?_
 rw [BX,dsA]
 refine Run.slot 0 (fun hb0=>?_)
 simp only [EX,if_true,AV.FY,AA] at hb0
 (repeat' (first|refine Run.ct rfl ?_|((first|refine Run.reg mixed ?_|refine Run.AE ?_)<;>try simp -implicitDefEqProofs only [AA,go_sem])|fail))
 refine Run.BD ?_
 refine Run.BK ((fun (a0:AV) (a1:AV)=>fun (i:Nat)=>put 0 a0 (put 1 a1 (put 7 (.d (.int .i64 i)) U))) _ _) (fun _=>E) (fun _=>σ) (fun i=>i≤dt.length∧∀d∈dt.take i,HK d.cons s=none) (fun i=>dt.length - i) ?_ 0 ⟨by simp,by simp⟩
 rintro i ⟨hi,hno⟩ ih
 by_cases hlt:i < dt.length
 · obtain ⟨d,hd⟩:=BC hlt
   have he:=M8 hd
   have hw1:IntKind.i64.wrap ((i:Int)+1)=((i+1:Nat):Int):=by rw [BL (by omega) (by omega)];omega
   have hdl:=hdt d (AT hd)
   (repeat' (first|refine Run.ct rfl ?_|((first|refine Run.reg mixed ?_|refine Run.AE ?_)<;>try simp -implicitDefEqProofs only [Ac hlt,AA,go_sem])|fail))
   refine Run.BD ?_
   refine Run.BK ((fun (a0:AV) (a1:AV) (a7:AV)=>fun (k:Nat)=>put 0 a0 (put 1 a1 (put 7 a7 (put 8 (.d (.int .i64 k)) U)))) _ _ _) (fun _=>E) (fun _=>σ) (fun k=>k≤d.cons.length∧∀c∈d.cons.take k,(c.name==s)=false) (fun k=>d.cons.length - k) ?_ 0 ⟨by simp,by simp⟩
   rintro k ⟨hk,hnk⟩ ih2
   by_cases hkl:k < d.cons.length
   · obtain ⟨c,hc⟩:=BC hkl
     have hec:=M6 hc
     have hw2:IntKind.i64.wrap ((k:Int)+1)=((k+1:Nat):Int):=by rw [BL (by omega) (by omega)];omega
     cases hp:(c.name==s) with
     |true=>
      have hca:HK d.cons s=some k:=by rw [← Fz];exact DX (p:=fun c:Con=>c.name==s) hnk hc hp
      (repeat' (first|refine Run.ct rfl ?_|((first|refine Run.reg mixed ?_|refine Run.AE ?_|refine Run.A1 I2 (AF.le_refl _) ?_)<;>try simp -implicitDefEqProofs only [Ac hkl,he,hec,hw2,BM,hp,AA,go_sem])|fail))
      rw [W1 hno hd hca];rfl
     |false=>
      (repeat' (first|refine Run.ct rfl ?_|((first|refine Run.reg mixed ?_|refine Run.AE ?_)<;>try simp -implicitDefEqProofs only [Ac hkl,he,hec,hw2,BM,hp,AA,go_sem])|fail))
      exact ih2 (k+1) ⟨by omega,Eb (p:=fun c:Con=>c.name==s) hnk hc hp⟩ (by omega)
   · (repeat' (first|refine Run.ct rfl ?_|((first|refine Run.reg mixed ?_|refine Run.AE ?_)<;>try simp -implicitDefEqProofs only [Bi hkl,he,hw1,AA,go_sem])|fail))
     rw [AK (by omega)] at hnk
     have hca:HK d.cons s=none:=by rw [← Fz];exact DY (p:=fun c:Con=>c.name==s) hnk
     refine ih (i+1) ⟨by omega,fun x hx=>?_⟩ (by omega)
     rw [BH hd] at hx
     rcases A7.1 hx with h|h
     · exact hno x h
     · rw [Bd] at h;subst h;exact hca
 · (repeat' (first|refine Run.ct rfl ?_|((first|refine Run.reg mixed ?_|refine Run.AE ?_|refine Run.A1 I2 (AF.le_refl _) ?_)<;>try simp -implicitDefEqProofs only [Bi hlt,AA,go_sem])|fail))
   rw [AK (by omega)] at hno
   rw [W2 hno];rfl
end Go.Ab
namespace Go.Ab
open Go.Proofs
set_option maxRecDepth 4000 in
set_option maxHeartbeats 4000000 in
theorem Sr (ps:List DE) (fs:List FE) (ds:List (Str×Nat)) (vars:List Str) (k num:Int) (n:Str) (l:List TE) (τ:AF) (hll:l.length≤1000000)
 (ih:∀x∈l,∀τ',AL Tryz.prog 60 [pgA ⟨ps,fs⟩,.d (.sl ((ds.map (·.1)).map Aw)),.d (.sl (vars.map Aw)),teA x,.d (.bool false)] τ' (fun v σ'=>v=OR (Hi ds vars false x)∧σ'=τ')):
 Run G1 (fun v σ'=>v=OR ((Cf ds vars l).map (Ty.mk k num))∧σ'=τ) [.code (.loop Mx),.blk 3,.code (.seq (.reg [⟨some 123,.ldl (.t 12) (some 3),none⟩,⟨none,.st (.t 10) (.t 123) 3,none⟩,⟨some 11,.mv (.c (.d (.int .i64 0))),none⟩] [10,11]) .ret)]
  (put 1 (.d (.sl ((ds.map (·.1)).map Aw))) (put 2 (.d (.sl (vars.map Aw))) (put 5 (.lp 5 0) (put 8 (.lp 8 0) (put 10 (.lp 10 0) (put 12 (.lp 12 0) (put 14 (.d (.int .i64 0)) U)))))))
  (Az 5 [.d (.sl (ps.map DE.enc)),.d (.sl (fs.map FE.enc))] (Az 8 [.d (.int .i64 k),.d (.str n),.d (.sl (l.map TE.enc))] (Az 10 [.d (.int .i64 0),.d (.int .i64 0),.AZ] (Az 12 [.d (.int .i64 k),.d (.int .i64 num),.AZ] E)))) τ:=by
 refine Run.BD ?_
 refine Run.BK ((fun (a1:AV) (a2:AV) (a5:AV) (a8:AV) (a10:AV) (a12:AV)=>fun (y:Nat×List Ty×AV×AF)=>put 1 a1 (put 2 a2 (put 5 a5 (put 8 a8 (put 10 a10 (put 12 a12 (put 14 (.d (.int .i64 y.1)) U))))))) _ _ _ _ _ _) (fun y=>Az 5 [.d (.sl (ps.map DE.enc)),.d (.sl (fs.map FE.enc))] (Az 8 [.d (.int .i64 k),.d (.str n),.d (.sl (l.map TE.enc))] (Az 10 [.d (.int .i64 0),.d (.int .i64 0),.AZ] (Az 12 [.d (.int .i64 k),.d (.int .i64 num),y.2.2.1] E)))) (fun y=>y.2.2.2)
  (fun y=>y.1≤l.length∧y.2.1.length=y.1∧Cf ds vars (l.take y.1)= .ok y.2.1∧Dh τ 57 3 (y.2.1.map Ty.enc) y.2.2.1 y.2.2.2) (fun y=>l.length - y.1) ?_ (0,[],.AZ,τ) ⟨by simp,rfl,rfl,Dh.nil _ _ _⟩
 rintro ⟨i,us,uv,τ1⟩ ⟨hi,hlu,hok,ho⟩ ih2
 simp only at hi hlu hok ho
 by_cases hlt:i < l.length
 · obtain ⟨x,hx⟩:=BC hlt
   have he:=BA (enc:=TE.enc) hx
   have hw1:=A5 (show i+1≤9000000000000000000 by omega)
   have hall:Cf ds vars l=(Cf ds vars (x::l.drop (i+1))).map (us++·):=by
    conv=>lhs;rw [← A3 i l,B3 hx]
    exact MH _ _ _ hok
   have hsn:Cf ds vars (l.take (i+1))=(Cf ds vars [x]).map (us++·):=by
    rw [BH hx];exact MH _ _ _ hok
   rw [Cf] at hall
   rw [Cf,Cf] at hsn
   have hc:=ih x (AT hx) τ1
   simp only [pgA,Pg.enc,AG,AQ] at hc
   cases hr:Hi ds vars false x with
   |error e=>
    rw [hr] at hc hall
    have hne:=Qy x false e hr
    have hne':(e != 0)=true:=by simpa using hne
    obtain ⟨xk,xn,xl⟩:=x
    simp only [TE.A4,teA,AG,AQ,OR] at he hc
    (repeat' (first|refine Run.ct rfl ?_|((first|refine Run.reg mixed ?_|refine Run.AE ?_|(refine Run.A1 EE ho.le ?_)|refine AI.det (hc) ?_)<;>try simp -implicitDefEqProofs only [Ac hlt,he,hne',ho.cell,AA,go_sem])|fail))
    rw [hall];rfl
   |ok u=>
    rw [hr] at hc hsn
    simp only [CP] at hsn
    obtain ⟨uk,un,ul⟩:=u
    obtain ⟨xk,xn,xl⟩:=x
    simp only [TE.A4,teA,AG,AQ,OR,tyA,Ty.enc] at he hc
    have h00:((0:Int) != 0)=false:=by decide
    (repeat' (first|refine Run.ct rfl ?_|((first|refine Run.reg mixed ?_|refine Run.AE ?_|(refine EY.own ho rfl (by simp) (by simp;omega) (by decide) (fun v2 σ2 ho2 hbk=>?_))|refine AI.det (hc) ?_)<;>try simp -implicitDefEqProofs only [Ac hlt,he,hw1,h00,ho.cell,ho.cells,ho.BY,ho.BO,AA,go_sem])|fail))
    simp -implicitDefEqProofs only [ho2.cells,ho2.cell,go_sem]
    (repeat' (first|refine Run.ct rfl ?_|((first|refine Run.reg mixed ?_|refine Run.AE ?_)<;>try simp -implicitDefEqProofs only [hw1,ho2.cell,ho2.cells,go_sem])|fail))
    exact ih2 (i+1,us++[.mk uk un ul],v2,σ2) ⟨by simp only;omega,by simp [hlu],hsn,by simpa [Ty.enc] using ho2⟩ (by simp only;omega)
 · rw [AK (by omega)] at hok
   (repeat' (first|refine Run.ct rfl ?_|((first|refine Run.reg mixed ?_|refine Run.AE ?_|(refine Run.A1 EE ho.le ?_))<;>try simp -implicitDefEqProofs only [Bi hlt,ho.cell,ho.cells,AA,go_sem])|fail))
   rw [ho.plain,hok]
   simp [OR,tyA,Ty.enc,Ty.E8,CP]
end Go.Ab
