/- Part Vh. Conditions: none. -/
import Derived.Test.YtojbfmeeomhkoaaGreatDoorXAb10e
set_option linter.unusedSimpArgs false
set_option linter.unusedVariables false
set_option maxRecDepth 100000
set_option maxHeartbeats 40000000
set_option linter.defProp false
open Go.Proofs.Tryz renaming prog→Tzp
open Except.ok renaming injEq→Da
open List renaming nil_append→A3,cons_append→AU,take_append_drop→Am,mem_of_getElem?→AE,map_cons→AB,map_nil→AJ,take_of_length_le→AR,getD_eq_getElem?_getD→BG,getElem?_map→Az,length_map→AA,getElem?_eq_some_iff→AG,flatMap_cons→G9,contains_iff_mem→B8,mem_append→A2,getElem?_append_left→Di,take_append_of_le_length→XM,length_drop→OU,getElem?_append_right→BY,getElem?_cons_zero→A7,append_nil→Aw,append_assoc→Ax,length_append→A0,mem_singleton→A9,take→Ew,drop→E1,drop_of_length_le→HN,eq_nil_of_length_eq_zero→Ay,drop_zero→N9,drop_drop→Fx,all_eq_true→Ao,length_take→Bs,mem_of_mem_take→DA,sum_cons→Em,mem_cons→Ah,mem_cons_self→AY,mem_cons_of_mem→AZ,mem_map_of_mem→CU,getElem?_take→F9,getElem?_set→CT,ext_getElem?→Dw,set_eq_take_append_cons_drop→AO0,replicate→AH,replicate_succ→Bg,flatten_cons→BO,length_replicate→MR,range→Aj,range_succ→Cq,filter_append→RJ,length_filter_le→MQ,length_set→Ld,length_cons→AT,length_nil→A8,map_append→A4,length_singleton→Ci,getElem?_set_self→Bq,getElem?_set_ne→Bv,countP_le_length→WL,mem_range→Cr,foldl_cons→BD,set_cons_succ→C7,take_length_add_append→Zr,drop_length_add_append→HM,take_zero→CD,foldl_append→Cv,take_length→Ar,range'→Af,map_congr_left→Gk,getElem_of_mem→CJ,getElem_mem→Fa,mem_map→BR,contains_append→N8
open Except renaming map→F7
open Nat renaming strongRecOn→DK,lt_or_ge→Ff,le_refl→AW,zero_mul→To,min_eq_left→I4,le_trans→Ai,add_zero→CC,zero_add→Av,mul_one→Ag,mul_le_mul→Tm,reduceEqDiff→HW,add_mul→Cj,lt_of_lt_of_le→Be
open Option renaming map_eq_some_iff→AO,isSome_some→cF,isSome_none→cE,bind_eq_bind→AX,bind_eq_some_iff→AF,isSome_iff_exists→Pv,bind_some→Jt,map_some→Ap,getD_some→BH
open Int renaming reduceBEq→Ad,eq_ofNat_of_zero_le→E0,toNat_natCast→BX
open Bool renaming eq_iff_iff→C2,or_eq_true→EH,true_or→Te,false_or→MP,false_eq_true→As,and_eq_true→AM,and_false→Hg,not_false→N6,and_true→Cu,true_and→Fe
open Ne renaming symm→A5
open Option.some renaming injEq→AP
open Prod.mk renaming injEq→B3
namespace Go.Ab
open Go.Proofs
variable {A H V τ' υ:X} {Ae cs:List I} {F F':Fm} {L:Lm} {a b e j j' j5 jc jr k n:Nat} {cx:Cx} {dl:List Dat} {es:List (Int×Int)} {fid:FuncId} {ks:List Ex} {p:Pg} {sc:List M} {v:I}
def AFM:Except Int Ty->I
 | .ok t=>.tup [tyA t,.d (.int .i64 0)]
 | .error e=>.tup [.agg [.d (.int .i64 0),.d (.int .i64 0),.d (.sl [])],.d (.int .i64 e)]
theorem jT (ds:List (M×Nat)) (vars:List M) (m:List TE):∀ {l:List TE} {us:List Ty},Er ds vars l= .ok us->Er ds vars (l++m)=(Er ds vars m).map (us++·)
 |[],us,h=>by
  simp only [Er,Da] at h;subst h;simp only [A3];cases Er ds vars m<;>rfl
 |t::l,us,h=>by
  rw [Er] at h;rw [AU,Er];cases b:Rn ds vars false t with
  |error e=>rw [b] at h;cases h
  |ok u=>
   rw [b] at h;simp only at h ⊢;cases a:Er ds vars l with
   |error e=>rw [a] at h;cases h
   |ok ys=>
    rw [a] at h;simp only [F7,Da] at h;subst h;rw [jT ds vars m a];cases Er ds vars m<;>rfl
def ABO {ds:List (M×Nat)} {vars:List M}:(∀(t:TE) (whole:Bool) (e:Int),Rn ds vars whole t= .error e->e≠0):=by
 intro t
 induction h:t.size using DK generalizing t with
 |_ N o=>
 subst h;obtain ⟨k,n,l⟩:=t
 have m:∀(b:List TE),(∀x∈b,x.size < (TE.mk k n l).size)->∀e,Er ds vars b= .error e->e≠0:=by
  intro b
  induction b with
  |nil=>intro _ e h;cases h
  |cons x b j=>
   intro g e h;rw [Er] at h;cases c:Rn ds vars false x with
   |error d=>grind
   |ok u=>
    rw [c] at h;cases a:Er ds vars b with
    |error d=>rw [a] at h;cases h;grind
    |ok us=>rw [a] at h;cases h
 have i:∀x∈l,x.size < (TE.mk k n l).size:=fun x g=>by
  have:=TE.MA g;simp only [TE.size];omega
 have f:∀(num:Int) e,(Er ds vars l).map (Ty.mk k num)= .error e->e≠0:=fun num e h=>by
  cases a:Er ds vars l with
  |error d=>rw [a] at h;cases h;grind
  |ok us=>rw [a] at h;cases h
 grind [Rn]
def FQ (dl:List Dat):List (M×Nat):=dl.map fun d=>(d.name,d.vars.toNat)
def RB (V:X) (jr:Nat) (dl:List Dat) (nm:M) (vars:List M) (cs:List CE):Prop:=∃dv,V.C jr=some [dv,.d (.str nm),.d (.sl (vars.map CG)),.d (.sl (cs.map CE.J))]/\DlS V dl dv
def RB.le {V τ':X} {jr:Nat} {dl:List Dat} {nm:M} {vars:List M} {cs:List CE} (h:RB V jr dl nm vars cs) (a:V.le τ'):RB τ' jr dl nm vars cs:=by
 obtain ⟨dv,b,c⟩:=h;exact ⟨dv,a.C _ _ b,c.le a⟩
def ABP (q:Nat) (dl:List Dat) (nm:M) (vars:List M) (cs:List CE) (k num:Int) (l:List TE) (V:X) (B:RB V q dl nm vars cs) (R:l.length<=1000000)
 (S:∀x∈l,∀h,RB h q dl nm vars cs->AS Tzp 45 [.gp q 0,teA x,.d (.bool false)] h (fun v H=>v=AFM (Rn (FQ dl) vars false x)/\H=h)):
 W EX (fun v H=>v=AFM ((Er (FQ dl) vars l).map (Ty.mk k num))/\H=V) [.code (.loop IK),.C 1,.code (.seq (.reg [⟨some 102,.ldl (.t 8) (some 3),none⟩,⟨none,.st (.t 6) (.t 102) 3,none⟩,⟨some 7,.mv (.c (.d (.int .i64 0))),none⟩] [6,7]) .ret)]
  (put 0 (.gp q 0) (put 6 (.lp 6 0) (put 8 (.lp 8 0) (put 79 (.d (.sl (l.map TE.J))) (put 80 (.d (.int .i64 l.length)) (put 81 (.d (.int .i64 0)) U)))))) (CN 6 [.d (.int .i64 0),.d (.int .i64 0),.Ac] (CN 8 [.d (.int .i64 k),.d (.int .i64 num),.Ac] E)) V:=by
 refine W.PL ?_
 refine W.SB ((fun (K:I) (L:I) (N:I) (r:I) (s:I)=>fun (y:Nat×List Ty×I×X)=>put 0 K (put 6 L (put 8 N (put 79 r (put 80 s (put 81 (A1 y.1) U)))))) _ _ _ _ _) (fun y=>CN 6 [A1 0,A1 0,.Ac] (CN 8 [A1 k,A1 num,y.2.2.1] E)) (fun y=>y.2.2.2)
  (fun y=>y.1<=l.length/\y.2.1.length=y.1/\Er (FQ dl) vars (l.take y.1)= .ok y.2.1/\Bn V 42 3 (y.2.1.map Ty.J) y.2.2.1 y.2.2.2) (fun y=>l.length - y.1) ?_ (0,[],.Ac,V) ⟨by simp,rfl,rfl,Bn.nil _ _ _⟩
 rintro ⟨i,us,uv,F⟩ ⟨Q,m,g,c⟩ D;simp only at Q m g c;by_cases d:i < l.length
 . obtain ⟨x,G⟩:=Ak d;have p:=Au (J:=TE.J) G;have o:=wS i;have a:Er (FQ dl) vars l=(Er (FQ dl) vars (x::l.drop (i+1))).map (us++·):=by grind [Am,Cs,jT]
   have f:Er (FQ dl) vars (l.take (i+1))=(Er (FQ dl) vars [x]).map (us++·):=by grind [Aa,jT]
   rw [Er] at a;rw [Er,Er] at f;have j:=S x (AE G) F (B.le c.le);cases z:Rn (FQ dl) vars false x with
   |error e=>
    rw [z] at j a;have w:=ABO x false e z;have n:(e != 0)=true:=by simpa using w
    obtain ⟨Z,xn,xl⟩:=x;simp only [TE.A6,teA,AB,AJ,AFM] at p j;(repeat' (first|refine wQ ?_|(refine W.By KG c.le ?_)|refine AN.det (j) ?_|fail)<;>try simp only [BI d,p,n,go_sem]);rw [a];rfl
   |ok u=>
    rw [z] at j f;simp only [F7] at f;obtain ⟨T,un,ul⟩:=u;obtain ⟨Z,xn,xl⟩:=x;simp only [TE.A6,teA,AB,AJ,AFM,tyA,Ty.J] at p j;have t:((0:Int) != 0)=false:=by decide
    (repeat' (first|refine wQ ?_|(refine DH.own c rfl (by simp) (by simp;omega) (by decide) (fun Y σ2 b P=>?_))|refine AN.det (j) ?_|fail)<;>try simp only [BI d,p,t,c.w4,go_sem]);simp only [b.cells,b.cell,go_sem];(repeat' refine wQ ?_<;>simp only [o,go_sem]);exact D (i+1,us++[.mk T un ul],Y,σ2) ⟨by simp only;omega,by simp [m],f,by simpa [Ty.J] using b⟩ (by simp only;omega)
 . rw [AR (by omega)] at g;(repeat' (first|refine wQ ?_|(refine W.By KG c.le ?_)|fail)<;>try simp only [B5 d,c.cell,go_sem]);rw [c.plain,g];simp [AFM,tyA,Ty.J,Ty.BQ,F7]
def AUW {i:Nat} {d:Dat} (h:dl[i]?=some d):(FQ dl).getD i ([],0)=(d.name,d.vars.toNat):=by
 rw [BG,FQ,Az,h];rfl
def p9 (dl:List Dat):(FQ dl).map (·.1)=Mv dl:=by simp [FQ,Mv]
def AMC {s:M} {i:Nat} (h:Dz (Mv dl) s=some i):∃d,dl[i]?=some d:=by
 have:=Uh h
 grind [Mv,AO]
def AIX (F:Nat) (dl:List Dat) (R:dl.length<=1000000) (T:∀d∈dl,0<=d.vars) (nm:M) (vars:List M) (cs:List CE):
 ∀(N:Nat) (t:TE) (whole:Bool) (V:X),t.size<=N->t.size<=1000000->RB V F dl nm vars cs->AS Tzp 45 [.gp F 0,teA t,.d (.bool whole)] V (fun v H=>v=AFM (Rn (FQ dl) vars whole t)/\H=V):=by
 intro N
 induction N with
 |zero=>intro t whole V h;have:=TE.size_pos t;omega
 |succ N E=>
 rintro ⟨k,n,l⟩ whole V hN U D;simp only [TE.size] at hN U;have Z:=TE.CL l
 have g:=fun num=>ABP F dl nm vars cs k num l V D (by omega) (fun x hx Y h=>by
  have:=TE.MA hx;exact E x false Y (by omega) (by omega) h)
 clear E;obtain ⟨dv,r,B⟩:=D;refine Sy.go ?_;rw [DN,teA,TE.A6];by_cases G:k=4
 . subst G
   have a:Rn (FQ dl) vars whole (.mk 4 n l)=match Dz vars n with|none=>.error 3|some i=>(Er (FQ dl) vars l).map (Ty.mk 4 i):=by
    rw [Rn,if_pos rfl];rfl
   have w:=WK vars n V;cases o:Dz vars n with
   |none=>
    rw [o] at w a;simp only [Hq] at w a;have b:decide ((-1:Int) < 0)=true:=by decide
    (repeat' (first|refine wP ?_|refine AN.det (w) ?_|fail)<;>try simp only [r,b,go_sem]);rw [a];rfl
   |some i=>
    rw [o] at w a;simp only [Hq] at w a;have b:decide ((i:Int) < 0)=false:=decide_eq_false (by omega);rw [a];(repeat' (first|refine wQ ?_|refine AN.det (w) ?_|fail)<;>try simp only [r,b,AA,go_sem]);exact g i
 by_cases Q:k=5
 . subst Q
   have a:Rn (FQ dl) vars whole (.mk 5 n l)=match Dz (Mv dl) n with|none=>.error 3|some i=>if l.length≠((FQ dl).getD i ([],0)).2 then .error 5 else if i+1=(FQ dl).length/\¬(whole=true/\MB l vars=true) then .error 7 else (Er (FQ dl) vars l).map (Ty.mk 5 i):=by
    rw [Rn,if_neg G,if_pos rfl,p9];rfl
   have q:=AKC dl dv _ F n V R r B;have m:=wT l dv nm vars cs F V (by omega) r;cases o:Dz (Mv dl) n with
   |none=>
    rw [o] at q a;simp only [Hq] at q a;have b:decide ((-1:Int) < 0)=true:=by decide
    (repeat' (first|refine wP ?_|refine AN.det (q) ?_|fail)<;>try simp only [Ad,b,go_sem]);rw [a];rfl
   |some i=>
    obtain ⟨d,P⟩:=AMC o;have S:=(AG.1 P).1;have h0:=T d (AE P);rw [o] at q a;simp only [Hq] at q a;rw [AUW P] at a;have b:decide ((i:Int) < 0)=false:=decide_eq_false (by omega);rcases B with ⟨rfl,_⟩|⟨jd,e,cells,rfl,p,u⟩
    . simp at S
    obtain ⟨cv,_,_,_,y,_,_⟩:=u.at P;have j:((i:Int) < (dl.length:Int))=True:=by simp;omega
    have f:((l.length:Int) != d.vars)=decide (l.length≠d.vars.toNat):=by
     rw [C2];simp only [bne_iff_ne,ne_eq,decide_eq_true_eq];omega
    by_cases K:l.length≠d.vars.toNat
    . rw [decide_eq_true K] at f;rw [if_pos K] at a;(repeat' (first|refine wP ?_|refine AN.det (q) ?_|fail)<;>try simp only [Ad,r,b,AA,j,p,y,f,go_sem]);rw [a];rfl
    . rw [decide_eq_false K] at f;rw [if_neg K] at a;have s:IntKind.i64.wrap ((dl.length:Int) - 1)=((dl.length - 1:Nat):Int):=by rw [B2 (by omega) (by omega)];omega
      have c:((i:Int)==((dl.length - 1:Nat):Int))=decide (i+1=(FQ dl).length):=by
       rw [C2];simp only [beq_iff_eq,decide_eq_true_eq,FQ,AA];omega
      by_cases z:i+1=(FQ dl).length
      . rw [decide_eq_true z] at c;cases whole with
        |false=>
         rw [if_pos ⟨z,by simp⟩] at a;(repeat' (first|refine wP ?_|refine AN.det (q) ?_|fail)<;>try simp only [Ad,r,b,AA,j,p,y,f,s,c,go_sem]);rw [a];rfl
        |true=>
         cases L:MB l vars with
         |false=>
          rw [L] at m;rw [if_pos ⟨z,by simp [L]⟩] at a;(repeat' (first|refine wP ?_|refine AN.det (q) ?_|refine AN.det (m) ?_|fail)<;>try simp only [Ad,r,b,AA,j,p,y,f,s,c,go_sem]);rw [a];rfl
         |true=>
          rw [L] at m;rw [if_neg (by simp [L])] at a;rw [a];(repeat' (first|refine wQ ?_|refine AN.det (q) ?_|refine AN.det (m) ?_|fail)<;>try simp only [Ad,r,b,AA,j,p,y,f,s,c,go_sem]);exact g i
      . rw [decide_eq_false z] at c;rw [if_neg (fun h=>z h.1)] at a;rw [a];(repeat' (first|refine wQ ?_|refine AN.det (q) ?_|fail)<;>try simp only [Ad,r,b,AA,j,p,y,f,s,c,go_sem]);exact g i
 . have a:Rn (FQ dl) vars whole (.mk k n l)=(Er (FQ dl) vars l).map (Ty.mk k 0):=by rw [Rn,if_neg G,if_neg Q]
   rw [a];(repeat' refine wQ ?_<;>simp only [Fb G,Fb Q,AA,go_sem]);exact g 0
def Bn.up {s:Nat} {rows:List (List DV)} (h:Bn A e s rows v V) (c:V.le τ'):Bn A e s rows v τ':=by
 obtain ⟨σ1,b,a⟩:=h.app;refine ⟨?_,X.le_trans h.le c,h.plain,h.len,h.cell,h.BS,h.Cp,h.dv,h.cells⟩;unfold MT at b ⊢;split at b
 . cases b;exact ⟨τ',rfl,X.le_trans a c⟩
 . rename_i t n o j;split at b
   . rename_i f;cases b;refine ⟨τ'.Bh t,if_pos ⟨f.1,f.2.1,c.tok t f.2.2⟩,?_⟩;refine ⟨fun i cs l=>c.C i cs (a.C i cs l),fun t' g=>?_,a.gt.trans c.gt,fun i x m=>c.bt i x (a.bt i x m)⟩;have d:=a.tok t' g;by_cases k:t'=t
     . subst k;simp [X.Bh] at d
     . simp only [X.Bh,if_neg k] at d ⊢;exact c.tok t' d
   . cases b
 . cases b
theorem Bn.set {s:Nat} {rows:List (List DV)} (h:Bn A e s rows v V) (c:A.C j=none) (cs:List I):Bn A e s rows v (V.AI j cs):=by
 obtain ⟨σ1,a,b⟩:=h.app;refine ⟨?_,B6 h.le c,h.plain,h.len,h.cell,h.BS,h.Cp,h.dv,h.cells⟩;unfold MT at a ⊢;split at a
 . cases a;exact ⟨_,rfl,B6 b c⟩
 . rename_i t g i d;split at a
   . rename_i f;cases a;exact ⟨(V.AI j cs).Bh t,if_pos f,B6 b c⟩
   . cases a
 . cases a
def Bn.slv {s:Nat} {rows:List (List DV)} (h:Bn A e s rows v V):SlV v rows:=by
 obtain ⟨σ1,a,b⟩:=h.app;unfold MT at a;split at a
 . cases a;exact .inr (.inr ⟨rfl,rfl⟩)
 . split at a
   . cases a;exact .inr (.inl ⟨_,_,_,rfl⟩)
   . cases a
 . cases a
def cB (dl:List Dat) (N:uL dl) (hl:dl.length<=1000000) (S e:Nat) (cells:List I) (s:M) (A:X) (B:A.C S=some cells) (u:Lf cells dl):
 AS Tzp 44 [.ms S dl.length 3 e,.d (.str s)] A (fun v H=>v=pW (Dy dl s)/\H=A):=by
 refine PC.go ?_;(repeat' refine wQ ?_<;>simp only [go_sem]);refine lpK (fun (i:Nat)=>[(11,A1 i)]) (fun _=>A) (fun i=>i<=dl.length/\∀d∈dl.take i,KD d.cons s=none) (fun i=>dl.length - i) ?_ 0 ⟨by simp,by simp⟩;rintro i ⟨hi,l⟩ R;by_cases r:i < dl.length
 . obtain ⟨d,G⟩:=Ak r;obtain ⟨cv,_,m,_,_,z,_⟩:=u.at G;have f:((i:Int) < (dl.length:Int))=True:=by simp;omega
   have P:IntKind.i64.wrap ((i:Int)+1)=((i+1:Nat):Int):=by grind [B2]
   have U:=N d (AE G);have g:=fun k=>AJV (k:=k) l G;rw [<- Mu] at g;have a:=fun (h:KD d.cons s=none)=>Ea (p:=fun d:Dat=>(KD d.cons s).isSome) (i:=i) (fun y Q=>by simp [l y Q]) G (by rw [h];rfl);obtain ⟨Z,dv,cs⟩:=d;simp only at *;have o:=m.len;rw [AA] at o;have q:=m.cell;(repeat' refine wQ ?_<;>simp only [f,B,z,q,o,go_sem]);refine lpK (fun (k:Nat)=>[(20,A1 k)]) (fun _=>A) (fun k=>k<=cs.length/\∀c∈cs.take k,(c.name==s)=false) (fun k=>cs.length - k) ?_ 0 ⟨by simp,by simp⟩;rintro k ⟨hk,t⟩ w;by_cases b:k < cs.length
   . obtain ⟨c,L⟩:=Ak b;have j:=Yg L;have F:=wS k;have E:List.map Con.J cs≠[]:=by grind
     cases x:(c.name==s) with
     |true=>
      have n:=g k (Cn (p:=fun c:Con=>c.name==s) t L x);clear g a R w;rcases m with rfl|⟨t',T,Y,rfl⟩|⟨K,_⟩
      . (repeat' refine wP ?_<;>simp only [BI b,f,B,z,j,CZ,x,go_sem]);rw [n];rfl
      . (repeat' refine wP ?_<;>simp only [BI b,f,B,z,j,CZ,x,go_sem]);rw [n];rfl
      . exact absurd K E
     |false=>
      have D:=w (k+1) ⟨by omega,Ea (p:=fun c:Con=>c.name==s) t L x⟩ (by omega);clear g a R w;rcases m with rfl|⟨t',T,Y,rfl⟩|⟨K,_⟩
      . (repeat' refine wQ ?_<;>simp only [BI b,f,B,z,j,F,CZ,x,go_sem]);exact D
      . (repeat' refine wQ ?_<;>simp only [BI b,f,B,z,j,F,CZ,x,go_sem]);exact D
      . exact absurd K E
   . rw [AR (by omega)] at t;(repeat' refine wQ ?_<;>simp only [B5 b,P,go_sem]);refine R (i+1) ⟨by omega,fun y Q=>?_⟩ (by omega);have:=a (by grind [Mu,Co]) y Q;simpa using this
 . (repeat' refine wP ?_<;>simp only [B5 r,go_sem]);rw [AR (by omega)] at l;rw [AJW l];rfl
def K2 (dl:List Dat):List M:=dl.flatMap fun d=>d.cons.map (·.name)
def AHH (l:List Con) (s:M):(KD l s).isSome=(l.map (·.name)).contains s:=by
 rw [<- YI,<- Mu,<- Yn,List.findIdx?_map];rfl
def xT (s:M):∀dl:List Dat,(Dy dl s).isSome=(K2 dl).contains s
 |[]=>rfl
 |d::l=>by
  have a:=AHH d.cons s;have b:=xT s l
  have c:(K2 (d::l)).contains s=((d.cons.map (·.name)).contains s||(K2 l).contains s):=by
   simp only [K2,G9];rw [C2];simp only [B8,A2,EH]
  grind [Dy,KD]
def XEx.AYH {K:CV} {σ1:X} {d:Option Nat} {s i n2 e2:Nat} {p:I} {cs2:List I} (k:A.C i=some cs2) (g:cs2.length=n2 * s) (b:n2≠0) (a:n+n2<=1000000000)
 (f:M6 A e s p=some (n,cs,σ1)) (c:p.BS=true) (h:∀j,A.C j=none->K (BW d (.ms j (n+n2) s e) F) L (σ1.AI j (cs++cs2))):XEx (.zV e s) [p,.ms i n2 s e2] d K F L A:=
 ⟨by simp [c,AKY],by cases p<;>exact ⟨rfl,cs2,n,cs,σ1,k,g,b,a,f,h⟩⟩
abbrev eD:Nat:=160
def DlX (O:X) (jr:Nat) (V:X) (dl:List Dat) (v:I):Prop:=(dl=[]/\v= .Ac)\/(∃jd cs,v= .ms jd dl.length 3 eD/\O.C jd=none/\jd≠jr/\V.C jd=some cs/\Lf cs dl)
def DlX.dls {O:X} (h:DlX O jr V dl v):DlS V dl v:=by
 rcases h with h|⟨d,cs,a,_,_,b,c⟩
 . exact .inl h
 . exact .inr ⟨d,_,cs,a,b,c⟩
def DlX.app {O:X} (h:DlX O jr V dl v) (a:O.le V) (k:V.C jr≠none) (row:List I):
 ∃cs,Lf cs dl/\∀i,V.C i=none->∃σ1,M6 (V.AI i row) eD 3 v=some (dl.length,cs,σ1)/\O.le σ1/\σ1.C jr=V.C jr:=by
 have d:∀i,V.C i=none->O.C i=none/\i≠jr:=fun i b=>by
  refine ⟨?_,fun e=>k (e ▸ b)⟩;cases s:O.C i with
  |none=>rfl
  |some c=>rw [a.C i c s] at b;cases b
 rcases h with ⟨rfl,rfl⟩|⟨o,cs,rfl,r,l,g,p⟩
 . refine ⟨[],⟨rfl,by simp⟩,fun i b=>⟨_,rfl,B6 a (d i b).1,?_⟩⟩;rw [AD,if_neg (A5 (d i b).2)]
 . refine ⟨cs,p,fun i b=>⟨(V.AI i row).CM o,?_,?_,?_⟩⟩
   . have j:o≠i:=fun e=>by rw [e,b] at g;cases g
     simp [M6,AD,j,g,p.1]
   . refine ⟨fun q c f=>?_,a.tok,a.gt,a.bt⟩;have m:q≠o:=fun e=>by rw [e,r] at f;cases f
     have n:q≠i:=fun e=>by rw [e,(d i b).1] at f;cases f
     simp only [X.CM,if_neg m,AD,if_neg n];exact a.C q c f
   . simp only [X.CM,if_neg (A5 l),AD,if_neg (A5 (d i b).2)]
structure APS (O:X) (jr:Nat) (dl:List Dat) (nm:M) (k:Int) (cv x1 x2 x3:I) (jd:Nat) (cs:List I) (V:X):Prop where
 res:V.C jr=some [.ms jd (dl.length+1) 3 eD,x1,x2,x3]
 nb:O.C jd=none
 ne:jd≠jr
 row:V.C jd=some (cs++[.d (.str nm),.d (.int .i64 k),cv])
 ok:Lf cs dl
 le:O.le V
theorem Lf.snoc (h:Lf cs dl) (nm:M) (k:Int) (cv:I) (cons:List Con) (b:SlV cv (cons.map Con.J)):Lf (cs++[.d (.str nm),.d (.int .i64 k),cv]) (dl++[⟨nm,k,cons⟩]):=by
 refine ⟨by simp [h.1];omega,fun i d a=>?_⟩;rcases Ff i dl.length with c|c
 . rw [Di c] at a;obtain ⟨cv',e,f⟩:=h.2 i d a;refine ⟨cv',?_,f⟩;rw [List.drop_append_of_le_length (by rw [h.1];omega),XM (by rw [OU,h.1];omega)];exact e
 . have:i=dl.length:=by grind
   subst this;rw [BY (AW _),Nat.sub_self] at a;simp only [A7,AP] at a;subst a;refine ⟨cv,?_,b⟩;rw [<- h.1,List.drop_left];rfl
def fY (ds:List (M×Nat)) (vars:List M) (m:List TE):∀ {l:List TE} {us:List Ty},Ga ds vars l= .ok us->Ga ds vars (l++m)=(Ga ds vars m).map (us++·)
 |[],us,h=>by
  simp only [Ga,Da] at h;subst h;simp only [A3];cases Ga ds vars m<;>rfl
 |t::l,us,h=>by
  rw [Ga] at h;rw [AU,Ga];cases b:Rn ds vars true t with
  |error e=>rw [b] at h;cases h
  |ok u=>
   rw [b] at h;simp only at h ⊢;cases a:Ga ds vars l with
   |error e=>rw [a] at h;cases h
   |ok ys=>
    rw [a] at h;simp only [F7,Da] at h;subst h;rw [fY ds vars m a];cases Ga ds vars m<;>rfl
def Yf (ds:List (M×Nat)) (vars:List M) (m:List CE):∀ {l:List CE} {used:List M} {us:List Con},HS ds vars used l= .ok us->HS ds vars used (l++m)=(HS ds vars (used++l.map (·.name)) m).map (us++·)/\us.map (·.name)=l.map (·.name)
 |[],used,us,h=>by
  simp only [HS,Da] at h;subst h;simp only [A3,AJ,Aw,and_true];cases HS ds vars used m<;>rfl
 |c::l,used,us,h=>by
  rw [HS] at h;rw [AU,HS];split at h
  . cases h
  . rename_i g;rw [if_neg g];cases f:Ga ds vars c.args with
    |error e=>grind
    |ok ts=>
     rw [f] at h;simp only at h ⊢;cases a:HS ds vars (used++[c.name]) l with
     |error e=>rw [a] at h;cases h
     |ok ys=>
      rw [a] at h;simp only [F7,Da] at h;subst h;obtain ⟨b,d⟩:=Yf ds vars m a;rw [b,Ax];refine ⟨?_,by simp [d]⟩;simp only [AB,List.singleton_append];cases HS ds vars (used++c.name::l.map (·.name)) m<;>rfl
def ADM (O:X) (d:Nat) (dl:List Dat) (P:dl.length<=1000) (nm:M) (vs:List M) (cs:List CE) (V:X) (dv y z B:I) (n:V.C d=some [dv,y,z,B]) (Q:y.Bo=true/\z.Bo=true/\B.Bo=true)
 (F:DlX O d V dl dv) (w:O.le V) (D:O.C d=none) (K:CV)
 (L:∀F' L' H G cells,Ee [0,3] F'=put 0 (.gp d 0) (put 3 (.lp 3 0) U)->GK [0,3] L'=CN 3 [.d (.str nm),.d (.sl (vs.map CG)),.d (.sl (cs.map CE.J))] E->APS O d dl nm vs.length .Ac y z B G cells H->K F' L' H):
 XT Tzp K false (.one ⟨some 26,.mv (.t 0),none⟩ (.one ⟨some 27,.mv (.t 0),none⟩ (.one ⟨some 28,.nck (.t 27),none⟩ (.one ⟨some 29,.fld (.t 28) 0,none⟩ (.one ⟨some 31,.fld (.t 3) 0,none⟩ (.one ⟨some 32,.ldl (.t 31) none,none⟩ (.one ⟨some 33,.fld (.t 3) 1,none⟩ (.one ⟨some 34,.ldl (.t 33) none,none⟩ (.one ⟨some 35,.len (.t 34),none⟩ (.one ⟨some 36,.bld [(.d (.str [])),(.d (.int .i64 0)),.Ac] [(0,1,(.t 32)),(1,1,(.t 35))],none⟩ (.alt ⟨some 30,.ld (.t 29) none,none⟩ (.one ⟨some 37,.lT 160 3 1 [(.d (.str [])),(.d (.int .i64 0)),.Ac] [(0,3,(.t 36))],none⟩ (.one ⟨some 38,.ex (.zV 160 3) [(.t 30),(.t 37)],none⟩ (.one ⟨some 39,.nck (.t 26),none⟩ (.one ⟨some 40,.fld (.t 39) 0,none⟩ (.one ⟨none,.st (.t 40) (.t 38) 1,none⟩ .done))))) (.alt ⟨some 37,.lT 160 3 1 [(.d (.str [])),(.d (.int .i64 0)),.Ac] [(0,3,(.t 36))],none⟩ (.one ⟨some 30,.ld (.t 29) none,none⟩ (.one ⟨some 38,.ex (.zV 160 3) [(.t 30),(.t 37)],none⟩ (.one ⟨some 39,.nck (.t 26),none⟩ (.one ⟨some 40,.fld (.t 39) 0,none⟩ (.one ⟨none,.st (.t 40) (.t 38) 1,none⟩ .done))))) .done)))))))))))) (put 0 (.gp d 0) (put 3 (.lp 3 0) (put 25 (.d (.bool false)) U))) (CN 3 [.d (.str nm),.d (.sl (vs.map CG)),.d (.sl (cs.map CE.J))] E) V:=by
 have b:dv.Bo=true:=by rcases F with ⟨_,rfl⟩|⟨G,cs,rfl,_⟩<;>rfl
 have x:dv.BS=true:=by rcases F with ⟨_,rfl⟩|⟨G,cs,rfl,_⟩<;>rfl
 have s:∀i,V.C i=none->i≠d:=fun i f e=>by rw [e,n] at f;cases f
 have v:∀i,V.C i=none->O.C i=none:=fun i f=>by
  cases N:O.C i with
  |none=>rfl
  |some c=>rw [w.C i c N] at f;cases f
 obtain ⟨cells,t,o⟩:=F.app w (by rw [n];simp) [.d (.str nm),.d (.int .i64 (vs.length:Int)),.Ac]
 -- what both orders end with
 have p:∀(i:Nat) (σ1:X) (j:Nat),V.C i=none->M6 (V.AI i [Gb nm,A1 vs.length,.Ac]) eD 3 dv=some (dl.length,cells,σ1)->O.le σ1->σ1.C d=V.C d->(V.AI i [Gb nm,A1 vs.length,.Ac]).C j=none->
  APS O d dl nm vs.length .Ac y z B j cells ((σ1.AI j (cells++[Gb nm,A1 vs.length,.Ac])).AI d [.ms j (dl.length+1) 3 eD,y,z,B]):=fun i σ1 j f _ m a g=>by
  have l:j≠i:=fun e=>by rw [e,AD,if_pos rfl] at g;cases g
  rw [AD,if_neg l] at g;have q:=s j g;refine ⟨BB,v j g,q,by rw [AD,if_neg q,AD,if_pos rfl],t,B6 (B6 m (v j g)) D⟩
 simp only [n,b,AA,go_sem];refine ⟨WM.mk (fun i f=>?_),WM.mk (fun i f=>?_)⟩
 . obtain ⟨σ1,u,m,a⟩:=o i f;have k:=s i f;have l:(d=i)=False:=by simp only [eq_iff_iff,iff_false];exact fun e=>k e.symm
   simp only [go_sem];refine XEx.AYH (cs2:=[Gb nm,A1 vs.length,.Ac]) (by simp only [AD,if_true]) rfl (by simp) (by omega) u x (fun j g=>?_)
   have r:(d=j)=False:=by
    simp only [eq_iff_iff,iff_false];intro e;rw [<- e,AD,if_neg (fun e=>k e.symm),n] at g;cases g
   have h:=p i σ1 j f u m a g;rw [n] at a;simp only [r,a,go_sem];exact L _ _ _ j cells (by simp only [go_sem]) (by simp only [go_sem]) h
 . obtain ⟨σ1,u,m,a⟩:=o i f;have k:=s i f;have l:(d=i)=False:=by simp only [eq_iff_iff,iff_false];exact fun e=>k e.symm
   simp only [n,b,l,go_sem];refine XEx.AYH (cs2:=[Gb nm,A1 vs.length,.Ac]) (by simp only [AD,if_true]) rfl (by simp) (by omega) u x (fun j g=>?_)
   have r:(d=j)=False:=by
    simp only [eq_iff_iff,iff_false];intro e;rw [<- e,AD,if_neg (fun e=>k e.symm),n] at g;cases g
   have h:=p i σ1 j f u m a g;rw [n] at a;simp only [r,a,go_sem];exact L _ _ _ j cells (by simp only [go_sem]) (by simp only [go_sem]) h
def DQ (O:X) (jr:Nat) (dl:List Dat) (r:Except Int Dat) (v:I) (H:X):Prop:=match r with
 | .error e=>v= .d (.int .i64 e)/\e≠0/\O.le H
 | .ok x=>v= .d (.int .i64 0)/\O.le H/\∃dv y1 y2 y3,H.C jr=some [dv,y1,y2,y3]/\(y1.Bo=true/\y2.Bo=true/\y3.Bo=true)/\DlX O jr H (dl++[x]) dv
def ACU {ds:List (M×Nat)} {vars:List M}:∀ {l:List TE} {e:Int},Ga ds vars l= .error e->e≠0
 |[],e,h=>by cases h
 |t::l,e,h=>by
  rw [Ga] at h;cases b:Rn ds vars true t with
  |error c=>rw [b] at h;cases h;exact ABO t true _ b
  |ok u=>
   rw [b] at h;cases a:Ga ds vars l with
   |error c=>rw [a] at h;cases h;exact ACU a
   |ok us=>rw [a] at h;cases h
def AOU (l m:List Dat):K2 (l++m)=K2 l++K2 m:=by simp [K2]
abbrev eC:Nat:=164
def AaY (O:X) (jr:Nat) (dl:List Dat) (nm:M) (vs:List M) (cs:List CE) (jd:Nat) (cells:List I) (p:Nat) (us:List Con) (F':Fm) (L':Lm) (H:X):Prop:=
 Ee [0,5,52,53,54] F'=put 0 (.gp jr 0) (put 5 (.d (.int .i64 (dl.length:Int))) (put 52 (.d (.sl (cs.map CE.J))) (put 53 (.d (.int .i64 cs.length)) (put 54 (.d (.int .i64 p)) U))))/\GK [0,5,52,53,54] L'=E/\
  ∃cv',APS O jr dl nm vs.length cv' (.d (.str nm)) (.d (.sl (vs.map CG))) (.d (.sl (cs.map CE.J))) jd cells H/\Bn O eC 2 (us.map Con.J) cv' H
def AHL (O:X) (r:Nat) (dl:List Dat) (hdl:dl.length<=1000) (hnn:∀d∈dl,0<=d.vars) (hdt:uL dl) (nm:M) (vs:List M) (cs:List CE) (hcs:cs.length<=1000) (hsm:∀c∈cs,e7 c/\c.args.length<=1000)
 (V:X) (D:Nat) (cells:List I) (hjr:O.C r=none) (b:APS O r dl nm vs.length .Ac (.d (.str nm)) (.d (.sl (vs.map CG))) (.d (.sl (cs.map CE.J))) D cells V):
 W EW (DQ O r dl ((HS (FQ dl++[(nm,vs.length)]) vs (K2 dl) cs).map (⟨nm,vs.length,·⟩))) [.code (.loop IJ),.C 0,.code (.seq (.reg [⟨some 4,.mv (.c (.d (.int .i64 0))),none⟩] [4]) .ret)]
  (put 0 (.gp r 0) (put 5 (.d (.int .i64 (dl.length:Int))) (put 52 (.d (.sl (cs.map CE.J))) (put 53 (.d (.int .i64 cs.length)) (put 54 (.d (.int .i64 0)) U))))) E V:=by
 generalize hQ:DQ O r dl ((HS (FQ dl++[(nm,vs.length)]) vs (K2 dl) cs).map (⟨nm,vs.length,·⟩))=Q
 have h8:∀(e:Int) (H:X),HS (FQ dl++[(nm,vs.length)]) vs (K2 dl) cs= .error e->e≠0->O.le H->Q (A1 e) H:=fun e H h h0 hl=>by
  rw [<- hQ,h];exact ⟨rfl,h0,hl⟩
 have ht:∀(us:List Con) (cv:I) (H:X),HS (FQ dl++[(nm,vs.length)]) vs (K2 dl) cs= .ok us->SlV cv (us.map Con.J)->APS O r dl nm vs.length cv (Gb nm) (BU (vs.map CG)) (BU (cs.map CE.J)) D cells H->Q (A1 0) H:=fun us cv H h hsl ha=>by
  rw [<- hQ,h];refine ⟨rfl,ha.le,_,_,_,_,ha.res,⟨rfl,rfl,rfl⟩,.inr ⟨D,_,by rw [A0];rfl,ha.nb,ha.ne,ha.row,ha.ok.snoc nm _ cv us hsl⟩⟩
 clear hQ
 refine lpK (fun (y:Nat×List Con×I×X)=>[(54,A1 y.1)]) (fun y=>y.2.2.2)
  (fun y=>y.1<=cs.length/\y.2.1.length=y.1/\HS (FQ dl++[(nm,vs.length)]) vs (K2 dl) (cs.take y.1)= .ok y.2.1/\APS O r dl nm vs.length y.2.2.1 (Gb nm) (BU (vs.map CG)) (BU (cs.map CE.J)) D cells y.2.2.2/\Bn O eC 2 (y.2.1.map Con.J) y.2.2.1 y.2.2.2)
  (fun y=>cs.length - y.1) ?_ (0,[],.Ac,V) ⟨by simp,rfl,rfl,b,⟨⟨V,rfl,b.le⟩,b.le,rfl,rfl,rfl,rfl,fun _=>rfl,rfl,rfl⟩⟩
 rintro ⟨p,us,cv,h5⟩ ⟨hp,hy,N,b,o⟩ ih;simp only at hp hy N b o;by_cases Y:p < cs.length
 . obtain ⟨c,hc⟩:=Ak Y;have he:=Au (J:=CE.J) hc;have hw1:=wS p;obtain ⟨f,Z⟩:=Yf (FQ dl++[(nm,vs.length)]) vs (cs.drop p) N;rw [Am,Cs hc] at f;obtain ⟨w,_⟩:=Yf (FQ dl++[(nm,vs.length)]) vs [c] N;rw [<- Aa hc] at w;obtain ⟨h6,hj⟩:=hsm c (AE hc)
   -- the rows with the partial declaration
   have R:=b.ok.snoc nm (vs.length:Int) cv us o.slv;have hf:(dl++[(⟨nm,(vs.length:Int),us⟩:Dat)]).length=dl.length+1:=by simp
   have fs:us.length<=1000000:=by omega
   have hs:uL (dl++[⟨nm,(vs.length:Int),us⟩]):=fun d hd=>by
    rcases A2.1 hd with h|h
    . exact hdt d h
    . simp only [A9] at h;subst h;exact fs
   have ns:∀d∈dl++[(⟨nm,(vs.length:Int),us⟩:Dat)],0<=d.vars:=fun d hd=>by
    rcases A2.1 hd with h|h
    . exact hnn d h
    . simp only [A9] at h;subst h;simp
   have hq:FQ (dl++[⟨nm,(vs.length:Int),us⟩])=FQ dl++[(nm,vs.length)]:=by simp [FQ]
   have sc:K2 (dl++[⟨nm,(vs.length:Int),us⟩])=K2 dl++(cs.take p).map (·.name):=by
    rw [AOU,<- Z];simp [K2]
   have i:=cB (dl++[⟨nm,(vs.length:Int),us⟩]) hs (by rw [hf];omega) D eD _ c.name h5 b.row R;have m:=xT c.name (dl++[⟨nm,(vs.length:Int),us⟩]);rw [sc] at m;rw [hf] at i;have hRB:RB h5 r (dl++[⟨nm,(vs.length:Int),us⟩]) nm vs cs:=⟨_,b.res,.inr ⟨D,eD,_,by rw [hf],b.row,R⟩⟩;have P:=b.res;generalize hdlp:dl++[(⟨nm,(vs.length:Int),us⟩:Dat)]=hi at *;rw [HS] at f w;obtain ⟨cn,ar⟩:=c;simp only [CE.J] at he m f w i hj h6;cases hm:Dy hi cn with
   |some x=>
    rw [hm] at i m;simp only [pW,cF] at i m;rw [<- m,if_pos rfl] at f;(repeat' (first|refine wR ?_|refine AN.det (i) ?_|fail)<;>try simp only [BI Y,he,P,go_sem]);exact h8 4 _ f (by decide) b.le
   |none=>
   rw [hm] at i m;simp only [pW,cE] at i m;rw [<- m,if_neg (by simp)] at f w;(repeat' (first|refine wQ ?_|refine AN.det (i) ?_|fail)<;>try simp only [BI Y,he,P,AA,go_sem]);refine W.PL ?_
   refine W.SB ((fun (a0:I) (a5:I) (a11:I) (a52:I) (a53:I) (a54:I) (a74:I) (a75:I)=>fun (z:Nat×List Ty×I×X)=>put 0 a0 (put 5 a5 (put 11 a11 (put 52 a52 (put 53 a53 (put 54 a54 (put 74 a74 (put 75 a75 (put 76 (A1 z.1) U))))))))) _ _ _ _ _ _ _ _) (fun z=>CN 11 [Gb cn,z.2.2.1] E) (fun z=>z.2.2.2)
    (fun z=>z.1<=ar.length/\z.2.1.length=z.1/\Ga (FQ dl++[(nm,vs.length)]) vs (ar.take z.1)= .ok z.2.1/\Bn h5 42 3 (z.2.1.map Ty.J) z.2.2.1 z.2.2.2)
    (fun z=>ar.length - z.1) ?_ (0,[],.Ac,h5) ⟨by simp,rfl,rfl,Bn.nil _ _ _⟩
   rintro ⟨a,ts,uv,hg⟩ ⟨ha,h9,n,F⟩ ih2;simp only at ha h9 n F;by_cases S:a < ar.length
   . obtain ⟨x,hx⟩:=Ak S;have T:=Au (J:=TE.J) hx;have ds:=wS a;have hxs:=h6 x (AE hx);have v:=AIX r hi (by omega) ns nm vs cs x.size x true hg (AW _) hxs (hRB.le F.le);rw [hq] at v
     have k:Ga (FQ dl++[(nm,vs.length)]) vs ar=(Ga (FQ dl++[(nm,vs.length)]) vs (x::ar.drop (a+1))).map (ts++·):=by
      conv=>lhs;rw [<- Am a ar,Cs hx]
      exact fY _ _ _ n
     have B:Ga (FQ dl++[(nm,vs.length)]) vs (ar.take (a+1))=(Ga (FQ dl++[(nm,vs.length)]) vs [x]).map (ts++·):=by
      rw [Aa hx];exact fY _ _ _ n
     rw [Ga] at k;rw [Ga,Ga] at B;cases hr:Rn (FQ dl++[(nm,vs.length)]) vs true x with
     |error e=>
      rw [hr] at v k;simp only [F7] at k;rw [k] at f;have h0:=ABO x true e hr;have ks:(e != 0)=true:=by simpa using h0
      obtain ⟨xk,xn,xl⟩:=x;simp only [TE.A6,teA,AB,AJ,AFM] at T v;have hxe:=h8 e hg f h0 (X.le_trans b.le F.le);(repeat' (first|refine wR ?_|refine AN.det (v) ?_|fail)<;>try simp only [BI S,T,ks,go_sem]);exact hxe
     |ok u=>
      rw [hr] at v B;simp only [F7] at B;obtain ⟨uk,un,ul⟩:=u;obtain ⟨xk,xn,xl⟩:=x;simp only [TE.A6,teA,AB,AJ,AFM,tyA,Ty.J] at T v;have h00:((0:Int) != 0)=false:=by decide
      (repeat' (first|refine wQ ?_|(refine DH.own F rfl (by simp) (by simp;omega) (by decide) (fun v2 σ2 L hbk=>?_))|refine AN.det (v) ?_|fail)<;>try simp only [BI S,T,h00,F.w4,go_sem]);simp only [L.cells,L.cell,go_sem];(repeat' refine wQ ?_<;>simp only [ds,go_sem]);exact ih2 (a+1,ts++[.mk uk un ul],v2,σ2) ⟨by simp only;omega,by simp [h9],B,by simpa [Ty.J] using L⟩ (by simp only;omega)
   . rw [AR (by omega)] at n;rw [n] at f w;simp only [HS,F7] at f w;have g:APS O r dl nm vs.length cv (Gb nm) (BU (vs.map CG)) (BU (cs.map CE.J)) D cells hg:=⟨F.le.C _ _ P,b.nb,b.ne,F.le.C _ _ b.row,b.ok,X.le_trans b.le F.le⟩;have s:=o.up F.le;(repeat' refine sQ ?_<;>simp only [B5 S,go_sem]);have hk:=b.ok.1;have G:((dl.length:Int) < ((dl.length+1:Nat):Int))=True:=by simp only [eq_iff_iff,iff_true];omega
     have hv:(cells++[I.d (.str nm),A1 vs.length,cv])[dl.length * 3+2]?=some cv:=by
      rw [BY (by omega),hk,Nat.add_sub_cancel_left];rfl
     have al:Ew (dl.length * 3+2) (cells++[I.d (.str nm),A1 vs.length,cv])=cells++[I.d (.str nm),A1 vs.length]:=by
      rw [List.take_append,AR (by omega),hk,Nat.add_sub_cancel_left];rfl
     have hn:E1 (dl.length * 3+2+1) (cells++[I.d (.str nm),A1 vs.length,cv])=[]:=by
      rw [HN (by simp;omega)]
     have K:(dl.length * 3+2+1<=(cells++[I.d (.str nm),A1 vs.length,cv]).length)=True:=by simp;omega
     have h7:∀(v3:I) (q:X) (F':Fm) (L':Lm),Ee [0,5,52,53,54] F'=put 0 (.gp r 0) (put 5 (A1 dl.length) (put 52 (BU (cs.map CE.J)) (put 53 (A1 cs.length) (put 54 (A1 p) U))))->GK [0,5,52,53,54] L'=E->
      Bn O eC 2 (us.map Con.J++[[.str cn,.sl (ts.map Ty.J)]]) v3 q->q.C r=some [.ms D (dl.length+1) 3 eD,Gb nm,BU (vs.map CG),BU (cs.map CE.J)]->
      AaY O r dl nm vs cs D cells p (us++[(⟨cn,ts⟩:Con)]) F' L' (q.AI D (cells++[I.d (.str nm),A1 vs.length,v3])):=fun v3 q F' L' h1 h2 j t=>by
      refine ⟨h1,h2,v3,⟨by rw [AD,if_neg (A5 b.ne)];exact t,b.nb,b.ne,BB,b.ok,B6 j.le b.nb⟩,?_⟩;have:=j.set b.nb (cells++[I.d (.str nm),A1 vs.length,v3]);simpa [Con.J,Ty.BQ] using this
     refine W.WX mixed (AaY O r dl nm vs cs D cells p (us++[(⟨cn,ts⟩:Con)])) ?_ ?_
     . simp only [g.res,g.row,G,hv,s.cell,F.dv,F.cell,go_sem];refine ⟨?_,?_⟩
       . refine DH.own s rfl (by simp) (by simp;omega) (by decide) (fun v3 q j l=>?_);have hb:=(l D).trans g.row;have t:=(l r).trans g.res;simp only [hb,G,j.cells,j.cell,K,al,hn,go_sem];rw [Ax];refine h7 v3 q _ _ ?_ ?_ j t
         . simp only [go_sem]
         . simp only [go_sem]
       . refine DH.own s rfl (by simp) (by simp;omega) (by decide) (fun v3 q j l=>?_);have hb:=(l D).trans g.row;have t:=(l r).trans g.res;simp only [hb,t,G,j.cells,j.cell,K,al,hn,go_sem];rw [Ax];refine h7 v3 q _ _ ?_ ?_ j t
         . simp only [go_sem]
         . simp only [go_sem]
     . rintro F' L' H ⟨h1,h2,cv',h3,h4⟩;rw [h1,h2];(repeat' refine wQ ?_<;>simp only [hw1,go_sem]);exact ih (p+1,us++[(⟨cn,ts⟩:Con)],cv',H) ⟨by simp only;omega,by simp [hy],w,h3,h4⟩ (by simp only;omega)
 . rw [AR (by omega)] at N;(repeat' refine wR ?_<;>simp only [B5 Y,go_sem]);exact ht us cv _ N o.slv b
def AaZ (O:X) (jr:Nat) (dl:List Dat) (nm:M) (vs:List M) (cs:List CE) (x1 x2 x3:I) (F':Fm) (L':Lm) (H:X):Prop:=
 ∃jd cells,Ee [0,3] F'=put 0 (.gp jr 0) (put 3 (.lp 3 0) U)/\GK [0,3] L'=CN 3 [.d (.str nm),.d (.sl (vs.map CG)),.d (.sl (cs.map CE.J))] E/\APS O jr dl nm vs.length .Ac x1 x2 x3 jd cells H
def APS.st {O:X} {nm:M} {k:Int} {cv x1 x2 x3:I} {jd:Nat} (h:APS O jr dl nm k cv x1 x2 x3 jd cs V) (a:O.C jr=none) (b c d:I):
 APS O jr dl nm k cv b c d jd cs (V.AI jr [.ms jd (dl.length+1) 3 eD,b,c,d]):=
 ⟨BB,h.nb,h.ne,by rw [AD,if_neg h.ne];exact h.row,h.ok,B6 h.le a⟩
def AHM (O:X) (g:Nat) (dl:List Dat) (l:dl.length<=1000) (x:∀d∈dl,0<=d.vars) (w:uL dl) (nm:M) (vs:List M) (cs:List CE) (u:cs.length<=1000) (y:∀c∈cs,e7 c/\c.args.length<=1000)
 (V:X) (dv n o p:I) (D:V.C g=some [dv,n,o,p]) (N:n.Bo=true/\o.Bo=true/\p.Bo=true) (G:DlX O g V dl dv) (j:O.le V) (h:O.C g=none):
 AS Tzp 19 [.gp g 0,deA ⟨nm,vs,cs⟩] V (DQ O g dl (QP (FQ dl) (K2 dl) ⟨nm,vs,cs⟩)):=by
 refine Sw (by simp [deA]) ?_;rw [B4];simp only [DE.J,deA,AB,AJ];have a:=AKC dl dv [n,o,p] g nm V (by omega) D G.dls;have b:=SD vs V;have t:=fun K=>ADM O g dl l nm vs cs V dv n o p D N G j h K;have v:(FQ dl).map (·.1)=Mv dl:=p9 dl;unfold QP;simp only [v];have e:(Dz (Mv dl) nm).isSome=(Mv dl).contains nm:=YI _ _;cases E:Dz (Mv dl) nm with
 |some i=>
  rw [E] at e a;simp only [cF] at e;have f:decide ((0:Int)<=(i:Int))=true:=by simp
  rw [<- e];simp only [Te,if_true];simp only [Hq] at a;(repeat' (first|refine wR ?_|refine AN.det (a) ?_|fail)<;>try simp only [go_sem]);exact ⟨rfl,by decide,j⟩
 |none=>
 rw [E] at e a;simp only [cE] at e;rw [<- e];simp only [Hq] at a;have f:decide ((0:Int)<=-1)=false:=by decide
 cases F:Dl vs with
 |true=>
  rw [F] at b;simp only [MP,if_true];(repeat' (first|refine wR ?_|refine AN.det (a) ?_|refine AN.det (b) ?_|fail)<;>try simp only [f,go_sem]);exact ⟨rfl,by decide,j⟩
 |false=>
 rw [F] at b;simp only [MP,As,if_false];(repeat' (first|refine sQ ?_|refine AN.det (a) ?_|refine AN.det (b) ?_|fail)<;>try simp only [f,go_sem]);refine W.WX mixed (AaZ O g dl nm vs cs n o p) (t _ (fun F' L' H z cells r s q=>⟨z,cells,r,s,q⟩)) ?_;rintro F' L' H ⟨z,cells,r,s,q⟩;rw [r,s];have m:=q.res;have B:=q.st h (Gb nm) (BU (vs.map CG)) (BU (cs.map CE.J));have k:=B.res
 have L:IntKind.i64.wrap (((dl.length+1:Nat):Int) - 1)=(dl.length:Int):=by
  exact bW (by omega)
 (repeat' refine wQ ?_<;>simp only [m,k,L,AA,go_sem]);exact AHL O g dl l x w nm vs cs u y _ z cells h B
theorem Lf.J:∀ {dl:List Dat} {cs:List I},Lf cs dl->∃ds,dvs cs=some ds/\chunk 3 dl.length ds=dl.map Dat.J
 |[],cs,h=>by
  have:cs=[]:=Ay (by simpa using h.1);subst this;exact ⟨[],rfl,rfl⟩
 |d::dl,cs,h=>by
  obtain ⟨cv,f,g⟩:=h.2 0 d rfl;simp only [To,N9] at f;have a:cs=Gb d.name::A1 d.vars::cv::cs.drop 3:=by grind [Am]
  have n:Lf (cs.drop 3) dl:=by
   refine ⟨by rw [OU,h.1];simp;omega,fun i x o=>?_⟩;obtain ⟨cv',j,k⟩:=h.2 (i+1) x o;refine ⟨cv',?_,k⟩;rw [Fx,<- j];congr 2;omega
  obtain ⟨ds,l,m⟩:=Lf.J n;refine ⟨.str d.name::.int .i64 d.vars::.sl (d.cons.map Con.J)::ds,?_,?_⟩
  . rw [a];have b:=g.dv;have c:(I.d (.str d.name)).dv=some (.str d.name):=rfl;have e:(I.d (.int .i64 d.vars)).dv=some (.int .i64 d.vars):=rfl;simp [dvs,b,l,c,e]
  . simp [chunk,m,Dat.J]
def dgA (d:Dg):I:= .agg [.d (.int .i64 d.1),.d (.int .i64 d.2.1),.d (.int .i64 d.2.2)]
def pY:Except Dg (List Dat)->I
 | .ok dt=>.tup [dsA dt,dgA (0,0,0)]
 | .error d=>.tup [dsA [],dgA d]
def ADL {ds:List (M×Nat)} {used:List M} {d:DE} {x:Dat} (h:QP ds used d= .ok x):x.name=d.name/\x.vars=d.vars.length/\x.cons.map (·.name)=d.cons.map (·.name):=by
 unfold QP at h;split at h
 . cases h
 . cases a:HS (ds++[(d.name,d.vars.length)]) d.vars used d.cons with
   |error e=>rw [a] at h;cases h
   |ok us=>
    rw [a] at h;cases h;exact ⟨rfl,rfl,(Yf _ _ [] a).2⟩
def hU (m:List DE):∀ {l done:List DE} {xs:List Dat},FP done l= .ok xs->FP done (l++m)=(FP (done++l) m).map (xs++·)
 |[],done,xs,h=>by
  cases h;simp only [A3,Aw];cases FP done m<;>rfl
 |d::l,done,xs,h=>by
  rw [FP] at h;rw [AU,FP];cases b:QP (Kj done) (fB done) d with
  |error e=>rw [b] at h;cases h
  |ok x=>
   rw [b] at h;simp only at h ⊢;cases a:FP (done++[d]) l with
   |error e=>rw [a] at h;cases h
   |ok ys=>
    rw [a] at h;cases h;rw [hU m a,Ax];simp only [AU,A3];cases FP (done++d::l) m<;>rfl
def No:∀ {l done:List DE} {xs:List Dat},FP done l= .ok xs->FQ xs=Kj l/\K2 xs=fB l/\xs.length=l.length/\(∀x∈xs,0<=x.vars)/\(∀n,(∀d∈l,d.cons.length<=n)->∀x∈xs,x.cons.length<=n)
 |[],done,xs,h=>by cases h;simp [FQ,Kj,K2,fB]
 |d::l,done,xs,h=>by
  rw [FP] at h;cases b:QP (Kj done) (fB done) d with
  |error e=>grind
  |ok x=>
   rw [b] at h;simp only at h;cases a:FP (done++[d]) l with
   |error e=>rw [a] at h;cases h
   |ok ys=>
    rw [a] at h;cases h;obtain ⟨f1,f2,f3⟩:=ADL b;obtain ⟨f,g,c,i,j⟩:=No a;have f4:x.cons.length=d.cons.length:=by simpa using congrArg List.length f3
    refine ⟨?_,?_,by simp [c],?_,?_⟩
    . grind [FQ,Kj]
    . grind [K2,fB]
    . grind
    simp_all
def zI (e:Iv p=true) (h:∀d∈p.data,N4 d):p.data.length<=12/\∀d∈p.data,d.cons.length<=1000/\∀c∈d.cons,e7 c/\c.args.length<=1000:=by
 simp only [Iv,AM,decide_eq_true_eq,Ao] at e;obtain ⟨⟨⟨f,_⟩,g⟩,_⟩:=e;refine ⟨f,fun d b=>?_⟩;have:=g d b;simp only [Xe,AM,decide_eq_true_eq,Ao] at this;obtain ⟨⟨_,j⟩,i⟩:=this;refine ⟨by omega,fun c a=>⟨h d b c a,?_⟩⟩;have:=i c a;simp only [ADE,AM,decide_eq_true_eq] at this;omega
def AIC (h:A.le V):A.le { V with C:=fun j=>if (A.C j).isSome then V.C j else none}:=
 ⟨fun i cs a=>by simp only [a,cF,if_true];exact h.C i cs a,h.tok,h.gt,h.bt⟩
def N3 (p:Pg) (A:X) (h:∀d∈p.data,N4 d):AS Tzp 11 [pgA p] A (fun v H=>v=pY (Fc p)/\H=A):=by
 have hval:=nH p A h;refine AAV (by simp) ?_;rw [Dx];unfold Fc;cases hvb:Iv p with
 |false=>
  rw [hvb] at hval;obtain ⟨ds,fs⟩:=p;simp only [pgA,Pg.J,AB,AJ] at hval ⊢;(repeat' ((first|refine wQ ?_|(refine W.By P9 (σ2:=A) (X.le_refl _) ?_)|refine AN.det (hval) ?_|fail)<;>try simp only [go_sem]));rfl
 |true=>
 rw [hvb] at hval;obtain ⟨hpl,hps⟩:=zI hvb h;obtain ⟨ds,fs⟩:=p;simp only [pgA,Pg.J,AB,AJ] at hval hpl hps ⊢;(repeat' ((first|refine wQ ?_|refine AN.det (hval) ?_|fail)<;>try simp only [AA,go_sem]));intro jr hj;generalize hQ:(fun (v:I) (H:X)=>v=pY (match FP [] ds with| .error (e,i)=>.error (e,-1,(i:Int))| .ok l=>.ok l)/\H=A)=Q
 have herr:∀(e:Int) (i:Nat),FP [] ds= .error (e,i)->Q (.tup [.d (.sl []),.agg [.d (.int .i64 e),.d (.int .i64 (-1)),.d (.int .i64 i)]]) A:=fun e i hd=>by
  rw [<- hQ,hd];exact ⟨rfl,rfl⟩
 have hok:∀(l:List Dat),FP [] ds= .ok l->Q (.tup [dsA l,.agg [.d (.int .i64 0),.d (.int .i64 0),.d (.int .i64 0)]]) A:=fun l hd=>by
  rw [<- hQ,hd];exact ⟨rfl,rfl⟩
 clear hQ;have hle0:=Bf (cs:=[I.Ac,.d (.str []),.Ac,.Ac]) hj;(repeat' (refine wQ ?_<;>try simp only [AA,go_sem]))
 refine lpK (fun (y:Nat×List Dat×X)=>[(17,.d (.int .i64 y.1))]) (fun y=>y.2.2)
  (fun y=>y.1<=ds.length/\FP [] (ds.take y.1)= .ok y.2.1/\∃dv y1 y2 y3,y.2.2.C jr=some [dv,y1,y2,y3]/\(y1.Bo=true/\y2.Bo=true/\y3.Bo=true)/\DlX A jr y.2.2 y.2.1 dv/\A.le y.2.2)
  (fun y=>ds.length - y.1) ?_ (0,[],_) ⟨by simp,rfl,.Ac,.d (.str []),.Ac,.Ac,by simp only [if_true],⟨rfl,rfl,rfl⟩,.inl ⟨rfl,rfl⟩,hle0⟩
 rintro ⟨i,dl,V⟩ ⟨hi,hgo,dv,y1,y2,y3,hb,hx,hv,hle⟩ ih;simp only at hi hgo hb hv hle;obtain ⟨f1,f2,f3,f4,f5⟩:=No hgo;have hlen:dl.length=i:=by rw [f3,Bs];omega
 by_cases hlt:i < ds.length
 . obtain ⟨d,hd⟩:=Ak hlt;have he:=Au (J:=DE.J) hd;have hw1:=Gv (show i+1<=9000000000000000000 by omega);have hdt:uL dl:=f5 1000000 (fun d hd=>by have:=(hps d (DA hd)).1;omega);obtain ⟨hc1,hc2⟩:=hps d (AE hd);obtain ⟨nm,vs,cs⟩:=d;have hc:=AHM A jr dl (by omega) f4 hdt nm vs cs hc1 hc2 V dv y1 y2 y3 hb hx hv hle hj
   have hall:FP [] ds=(FP (ds.take i) (⟨nm,vs,cs⟩::ds.drop (i+1))).map (dl++·):=by
    conv=>lhs;rw [<- Am i ds,Cs hd]
    exact hU _ hgo
   have hsn:FP [] (ds.take (i+1))=(FP (ds.take i) [⟨nm,vs,cs⟩]).map (dl++·):=by
    rw [Aa hd];exact hU _ hgo
   rw [FP,<- f1,<- f2] at hall hsn;simp only [DE.J,deA,AB,AJ] at he hc;cases hr:QP (FQ dl) (K2 dl) ⟨nm,vs,cs⟩ with
   |error e=>
    rw [hr] at hc hall;simp only [F7,Bs,I4 hi] at hall;have hc':=AS.mono hc (Q':=fun v H=>v= .d (.int .i64 e)/\e≠0/\A.le H) (fun v H h=>h);(repeat' (first|((first|refine wQ ?_|(refine AN.mk rfl hc' ?_;rintro _ τ' ⟨rfl,hne,hle'⟩)|fail)<;>try simp only [BI hlt,he,go_sem])|(refine ⟨fun h=>?_,fun h=>?_⟩<;>first|(cases h;done)|try simp only [h])|fail))
    case refine_2=>exact absurd ‹(e != 0)=false› (by simp [hne])
    (repeat' ((first|refine wQ ?_|(refine W.By P9 (σ2:=A) hle' ?_)|fail)<;>try simp only [go_sem]));exact herr e i hall
   |ok x=>
    rw [hr] at hc hsn;simp only [FP,F7] at hsn;have hc':=AS.mono hc (Q':=fun v H=>v= .d (.int .i64 0)/\A.le H/\∃dv y1 y2 y3,H.C jr=some [dv,y1,y2,y3]/\(y1.Bo=true/\y2.Bo=true/\y3.Bo=true)/\DlX A jr H (dl++[x]) dv) (fun v H h=>h);have h00:((0:Int) != 0)=false:=by decide
    (repeat' (first|((first|refine wQ ?_|(refine AN.mk rfl hc' ?_;rintro _ τ' ⟨rfl,hle',dv',z1,z2,z3,hb',hx',hv'⟩)|fail)<;>try simp only [BI hlt,he,hw1,go_sem])|(refine ⟨fun h=>?_,fun h=>?_⟩<;>first|(cases h;done)|try simp only [h])|fail));(repeat' (refine wQ ?_<;>try simp only [h00,hw1,go_sem]));exact ih (i+1,dl++[x],τ') ⟨by simp only;omega,hsn,dv',z1,z2,z3,hb',hx',hv',hle'⟩ (by simp only;omega)
 . rw [AR (by omega)] at hgo;have hfin:=hok dl hgo;rcases hv with ⟨rfl,rfl⟩|⟨jd,cells,rfl,hn,hne,hbd,hrows⟩
   . (repeat' ((first|refine wQ ?_|(refine W.By P9 (σ2:=A) hle ?_)|fail)<;>try simp only [B5 hlt,hb,go_sem]));exact hfin
   . obtain ⟨dvl,hdv,hch⟩:=hrows.J;(repeat' (refine wQ ?_<;>try simp only [B5 hlt,hb,go_sem]));refine W.freeze (F':=put 2 (dsA dl) (put 3 (.lp 3 0) U)) (H:= { V with C:=fun j=>if (A.C j).isSome then V.C j else none}) hbd hdv hrows.1 (Ai (show dl.length<=12 by omega) (by decide)) (fun s=>?_) (fun k cs' hk=>⟨cs',hk,.inl rfl⟩) (fun j cs' hj'=>?_) (fun _ h=>h) ?_
     . by_cases h2:s=2
       . subst h2;right;simp only [DR,if_true,frz,and_self,dsA,hch]
       . left;simp only [DR,if_neg h2]
     . simp only at hj';cases hs:A.C j with
       |none=>rw [hs] at hj';cases hj'
       |some c=>
        rw [hs] at hj';exact ⟨(fun e=>by rw [e,hn] at hs;cases hs),cs',hj',.inl rfl⟩
     . refine W.By P9 (σ2:=A) (AIC hle) ?_;simp only [dsA,go_sem];exact hfin
def rZ {a:Nat}:∀ {l:List Nat},a∈l->a<=l.sum
 |x::l,h=>by
  rw [Em];rcases Ah.1 h with rfl|h
  . omega
  . have:=rZ h;omega
def nb1 (e:Ex):Prop:=J3 e.op e.name e.num e.names e.kids.length e.alts=true
def NB (e:Ex):Prop:=nb1 e/\∀k∈e.kids,nb1 k
def iC {α:Type} {f:Nat->α->Option Nat} {sz:α->Nat} {Q:α->Prop}:∀(l:List α) (q r:Nat),(∀x∈l,∀a b,f a x=some b->sz x+b=a/\Q x)->l.foldlM f q=some r->(l.map sz).sum+r=q/\∀x∈l,Q x
 |[],q,r,_,h=>by grind
 |x::l,q,r,c,h=>by
  rw [List.foldlM_cons,AX,AF] at h;obtain ⟨b,d,h⟩:=h;obtain ⟨g,i⟩:=c x (AY ..) q b d;obtain ⟨j,k⟩:=iC l b r (fun y e=>c y (AZ _ e)) h
  grind
def Ex.JS:∀l:List Ex,Ex.AQ l=(l.map Ex.size).sum
 |[]=>rfl
 |x::l=>by simp [Ex.AQ,Ex.JS l]
def Al.JS:∀l:List Al,Al.AQ l=(l.map Al.size).sum
 |[]=>rfl
 |x::l=>by simp [Al.AQ,Al.JS l]
theorem iZ {o:Int} {n:M} {ns sc:List M} {x:Ex×List M}:∀ {l:List Ex} {i:Nat},x∈CA o n ns sc i l->∃k∈l,∃a,x∈Bl k a
 |[],i,h=>by simp [CA] at h
 |k::l,i,h=>by
  rw [CA,A2] at h;rcases h with h|h
  . exact ⟨k,AY ..,_,h⟩
  . obtain ⟨d,b,c⟩:=iZ h;exact ⟨d,AZ _ b,c⟩
theorem Yq {sc:List M} {x:Ex×List M}:∀ {l:List Al},x∈Cw sc l->∃a∈l,x∈Um a sc
 |[],h=>by simp [Cw] at h
 |k::l,h=>by
  rw [Cw,A2] at h;rcases h with h|h
  . exact ⟨k,AY ..,h⟩
  . obtain ⟨d,b,c⟩:=Yq h;exact ⟨d,AZ _ b,c⟩
def tR:∀(d q:Nat) (e:Ex) (r:Nat),vEx d q e=some r->e.size+r=q/\(nb1 e/\∀sc x,x∈Bl e sc->NB x.1)
 |0,q,e,r,h=>by simp [vEx] at h
 |d+1,0,.mk ..,r,h=>by cases h
 |d+1,q+1,.mk o n u ns ks al,r,h=>by
  simp only [vEx] at h;split at h
  . rename_i t;rw [AF] at h;obtain ⟨c,p,h⟩:=h;obtain ⟨y,m⟩:=iC (sz:=Ex.size) (Q:=fun e=>nb1 e/\∀sc x,x∈Bl e sc->NB x.1) ks q c (fun x _ a b f=>tR d a x b f) p
    obtain ⟨z,B⟩:=iC (sz:=Al.size) (Q:=fun a=>∀sc x,x∈Um a sc->NB x.1) al c r (fun x _ a b f=>by
     cases x with
     |mk w vs v=>
      obtain ⟨j,l⟩:=tR d a _ b f;exact ⟨j,fun sc x g=>l.2 _ x (by rw [Um] at g;exact g)⟩) h
    have i:nb1 (.mk o n u ns ks al):=t;refine ⟨by rw [Ex.size,Ex.JS,Al.JS];omega,i,fun sc x g=>?_⟩;rw [Bl,Ah,A2] at g;rcases g with rfl|g|g
    . exact ⟨i,fun k s=>(m k s).1⟩
    . grind [iZ]
    grind [Yq]
  . simp at h
def AE6 {s:M} (h:PM s=true):s≠[]:=by
 rintro rfl;revert h;decide
def AE7 {e:Ex} (h:nb1 e) (a:e.op=4):e.name≠[]:=by
 unfold nb1 J3 nmB at h;simp only [a,AM,if_true] at h;exact AE6 h.1.1.1.1
def NB.Gn {e:Ex} (h:NB e) (j:e.size<=1000000):AKK e:=by
 obtain ⟨a,d⟩:=h;obtain ⟨o,n,u,ns,ks,al⟩:=e;simp only [Ex.size] at j;have i:=Ex.CL ks;have f:=Al.CL al;refine ⟨AE7 a,fun c=>?_,by simp only [Ex.alts];omega,by simp only [Ex.kids];omega⟩;simp only [Ex.op] at c;subst c;unfold nb1 J3 nkB at a;simp only [Ex.op,Ex.kids,AM] at a;have b:=a.2;simp at b;cases ks with
 |nil=>simp at b
 |cons k ks=>exact ⟨k,ks,rfl,fun g=>AE7 (d k (AY ..)) g⟩
def sD:∀(N:Nat) (e:Ex) (sc:List M) (x:Ex×List M),e.size<=N->x∈Bl e sc->x.1.size<=e.size
 |0,e,sc,x,h,_=>by have:=Ex.size_pos e;omega
 |N+1,.mk o n u ns ks al,sc,x,h,d=>by
  rw [Bl,Ah,A2] at d;rw [Ex.size] at h ⊢
  have m:∀k∈ks,k.size<=Ex.AQ ks:=fun k f=>by
   rw [Ex.JS];exact rZ (CU f)
  have g:∀k∈al,k.size<=Al.AQ al:=fun k f=>by
   rw [Al.JS];exact rZ (CU f)
  rcases d with rfl|d|d
  . rw [Ex.size];omega
  . obtain ⟨k,f,i,d⟩:=iZ d;have:=sD N k i x (by grind) d
    grind
  . obtain ⟨a,l,d⟩:=Yq d;have j:=g a l;cases a with
    |mk c vs b=>
     rw [Um] at d;rw [Al.size] at j;have:=sD N b _ x (by omega) d;omega
def V4:∀(l:List FE) (q r:Nat),l.foldlM xB q=some r->∀f∈l,f.body.size<=q/\f.params.length<=6/\∀sc x,x∈Bl f.body sc->NB x.1
 |[],q,r,_,f,a=>by simp at a
 |g::l,q,r,h,f,a=>by
  rw [List.foldlM_cons,AX,AF] at h;obtain ⟨b,c,h⟩:=h;unfold xB at c;split at c
  . rename_i d;obtain ⟨e,i,j⟩:=tR _ _ _ _ c;rcases Ah.1 a with rfl|a
    . simp only [AXU,AM,decide_eq_true_eq] at d
      grind
    . have:=V4 l b r h f a
      grind
  . cases c
def bV (h:Iv p=true):p.Ca.length<=24/\∀f∈p.Ca,f.body.size<=600/\f.params.length<=6/\∀sc x,x∈Bl f.body sc->AKK x.1:=by
 simp only [Iv,AM,decide_eq_true_eq] at h;obtain ⟨⟨⟨_,e⟩,_⟩,g⟩:=h;obtain ⟨r,j⟩:=Pv.1 g;refine ⟨e,fun f i=>?_⟩;obtain ⟨b,c,d⟩:=V4 _ _ _ j f i;exact ⟨b,c,fun sc x a=>(d sc x a).Gn (by have:=sD _ _ _ _ (AW _) a;omega)⟩
theorem s7 (vis:Ex->List M->Int):∀l:List (Ex×List M),Jg (fun (_:Unit) x=>(vis x.1 x.2,())) l ()=(hZ vis l,())
 |[]=>rfl
 |x::l=>by
  rw [Jg,hZ,s7 vis l];split<;>rfl
def I9 {dt:List Dat} (a:Fc p= .ok dt):Iv p=true/\FP [] p.data= .ok dt:=by
 grind [Fc]
def ADG {ds:List (M×Nat)} {vars:List M}:∀ {l:List CE} {used:List M} {e:Int},HS ds vars used l= .error e->e≠0
 |[],used,e,h=>by cases h
 |c::l,used,e,h=>by
  rw [HS] at h;split at h
  . cases h;decide
  . cases a:Ga ds vars c.args with
    |error d=>rw [a] at h;cases h;exact ACU a
    |ok ts=>
     rw [a] at h;cases b:HS ds vars (used++[c.name]) l with
     |error d=>rw [b] at h;cases h;exact ADG b
     |ok us=>rw [b] at h;cases h
def AP4 {ds:List (M×Nat)} {used:List M} {d:DE} {e:Int} (h:QP ds used d= .error e):e≠0:=by
 unfold QP at h;split at h
 . cases h;decide
 . cases a:HS (ds++[(d.name,d.vars.length)]) d.vars used d.cons with
   |error b=>rw [a] at h;cases h;exact ADG a
   |ok us=>rw [a] at h;cases h
theorem ADJ:∀ {l done:List DE} {e:Int} {i:Nat},FP done l= .error (e,i)->e≠0
 |[],done,e,i,h=>by cases h
 |d::l,done,e,i,h=>by
  rw [FP] at h;cases a:QP (Kj done) (fB done) d with
  |error c=>rw [a] at h;cases h;exact AP4 a
  |ok x=>
   rw [a] at h;cases b:FP (done++[d]) l with
   |error c=>rw [b] at h;cases h;exact ADJ b
   |ok us=>rw [b] at h;cases h
theorem dD {c a b:Int} (h:Fc p= .error (c,a,b)):c≠0:=by
 grind [Fc,FP,ADJ]
def AL5 (ds:List DE) (fs:List FE) (dt:List Dat) (a:uL dt) (f:FE) (d:f.body.size<=600) (b:∀sc x,x∈Bl f.body sc->AKK x.1) (A:X):
 AS Tzp 115 [feA f,.fn 116 [.agg [.d (.sl (ds.map DE.J)),.d (.sl (fs.map FE.J)),.d (.sl (dt.map Dat.J))]] []] A
  (fun v H=>v=(match hZ (M4 fs dt) (Bl f.body f.params) with
    |none=>.tup [.d (.int .i64 ((f.body.size - 1:Nat):Int)),.d (.int .i64 0)]
    |some (k,c)=>.tup [.d (.int .i64 (k:Nat)),.d (.int .i64 c)])/\H=A):=by
 refine (tW (S:=Unit) (fun _ x=>(M4 fs dt x.1 x.2,())) (fun _=>A) 116 [.agg [BU (ds.map DE.J),BU (fs.map FE.J),BU (dt.map Dat.J)]] [] (by kernel_rfl) rfl rfl f () (by omega) (fun _ _ h=>h) (fun j g x e s n=>?_)).mono (fun v H h=>?_)
 . have:=ATV ds fs dt a x.1 x.2 (b _ _ e) (WH (fun _=>A) j (.fn 116 [.agg [BU (ds.map DE.J),BU (fs.map FE.J),BU (dt.map Dat.J)]] []) n s);exact this
 grind [s7,B3]
theorem AJ3 {vis:Ex->List M->Int} {l:List (Ex×List M)} {q:Nat} {c:Int} (h:hZ vis l=some (q,c)):c≠0:=
 nW l () () (q,c) (by rw [s7,h])
def gU (fs:List FE) (dt:List Dat) (m:List FE):∀(l:List FE) (i:Nat),(∀k f,l[k]?=some f->AAE fs dt (i+k) f=none)->Rv fs dt i (l++m)=Rv fs dt (i+l.length) m
 |[],i,_=>rfl
 |f::l,i,h=>by
  have a:=h 0 f rfl;rw [CC] at a;rw [AU,Rv,a];simp only;rw [gU fs dt m l (i+1) (fun k g b=>by have:=h (k+1) g (by simpa using b);rwa [show i+(k+1)=i+1+k by omega] at this)];congr 1;simp;omega
def AKN {s:M}:∀ {l:List M} {i:Nat},l[i]?=some s->∃k,Dz l s=some k/\k<=i
 |[],i,h=>by simp at h
 |x::l,i,h=>by
  rw [Dz];split
  . exact ⟨0,rfl,by omega⟩
  . rename_i a;cases i with
    |zero=>simp at h;simp [h] at a
    |succ i=>
     obtain ⟨k,b,c⟩:=AKN (l:=l) (i:=i) (by simpa using h);exact ⟨k+1,by rw [b];rfl,by omega⟩
def Y1 (p:Pg) (A:X) (h:∀d∈p.data,N4 d):AS Tzp 64 [pgA p] A (fun v H=>v=dgA (R5 p)/\H=A):=by
 have j:=N3 p A h;refine vV.go ?_;rw [Dx];unfold R5;cases E:Fc p with
 |error d=>
  rw [E] at j;obtain ⟨c,a,b⟩:=d;obtain ⟨ds,fs⟩:=p;simp only [pgA,Pg.J,AB,AJ,pY,dgA,dsA] at j ⊢;have h5:(c != 0)=true:=by simpa using dD E
  (repeat' (first|refine wR ?_|refine AN.det (j) ?_|fail)<;>try simp only [h5,go_sem])
 |ok dt=>
 rw [E] at j;obtain ⟨K,h4⟩:=I9 E;obtain ⟨h3,t⟩:=bV K;obtain ⟨ds,fs⟩:=p;have G:=fun s=>Xm ⟨ds,fs⟩ s A;simp only [pgA,Pg.J,AB,AJ,pY,dgA,dsA] at j G h3 t ⊢;have R:((0:Int) != 0)=false:=by decide
 (repeat' (first|refine wQ ?_|refine AN.det (j) ?_|fail)<;>try simp only [R,AA,go_sem]);have h2:uL dt:=(No h4).2.2.2.2 1000000 (fun d N=>by have:=((zI K h).2 d N).1;omega);have U:=fun l=>SD l A;have L:=fun f F=>AL5 ds fs dt h2 f (t f F).1 (t f F).2.2 A
 refine lpK (fun (i:Nat)=>[(25,A1 i)]) (fun _=>A)
  (fun i=>i<=fs.length/\∀k f,fs[k]?=some f->k < i->AAE fs dt k f=none) (fun i=>fs.length - i) ?_ 0 ⟨by simp,fun k f _ Z=>by omega⟩
 rintro i ⟨hi,Q⟩ ih;by_cases x:i < fs.length
 . obtain ⟨f,F⟩:=Ak x;have T:=Au (J:=FE.J) F;have h6:=wS i
   have e:Rv fs dt 0 fs=Rv fs dt i (f::fs.drop (i+1)):=by
    conv=>lhs;rw [show Rv fs dt 0 fs=Rv fs dt 0 (fs.take i++fs.drop i) by rw [Am],Cs F]
    rw [gU fs dt _ _ 0 (fun k g B=>?_),Av,Bs,I4 hi];rw [Av];rw [F9] at B;split at B
    . exact Q k g B (by assumption)
    . cases B
   rw [Rv] at e;have r:=G f.name;have z:=U f.params;have m:=L f (AE F);obtain ⟨k,Z,h7⟩:=AKN (l:=DB fs) (s:=f.name) (i:=i) (by rw [DB,Az,F];rfl);rw [Z] at r;simp only [Hq] at r
   have hF:AAE fs dt i f=if k < i\/Dl f.params=true then some (4,(i:Int),0) else match hZ (M4 fs dt) (Bl f.body f.params) with
    |some (k,c)=>some (c,(i:Int),(k:Int))
    |none=>none:=by
    unfold AAE;rw [Z]
    have:(some k≠some i\/Dl f.params=true)↔(k < i\/Dl f.params=true):=by
     simp only [ne_eq,AP];constructor
     . rintro (h|h)
       . exact .inl (by omega)
       . exact .inr h
     . rintro (h|h)
       . exact .inl (by omega)
       . exact .inr h
    simp only [this];split
    . rfl
    . cases hZ (M4 fs dt) (Bl f.body f.params)<;>rfl
   rw [hF] at e
   have w:AAE fs dt i f=none->∀k g,fs[k]?=some g->k < i+1->AAE fs dt k g=none:=fun h0 k g B Z=>by
    rcases Ff k i with h|h
    . exact Q k g B h
    . have:k=i:=by omega
      subst this;rw [F] at B;cases B;exact h0
   rw [hF] at w;clear hF;obtain ⟨nm,ps,o,n,u,ns,ks,al⟩:=f;simp only [FE.J,Ex.A6,feA,AB,AJ] at T r z m e w;by_cases D:k < i
   . have N:decide ((k:Int) < (i:Int))=true:=by simpa using D
     rw [if_pos (.inl D)] at e;simp only at e;rw [e];(repeat' (first|refine wR ?_|refine AN.det (r) ?_|fail)<;>try simp only [BI x,T,N,go_sem])
   have N:decide ((k:Int) < (i:Int))=false:=by simpa using D
   cases Y:Dl ps with
   |true=>
    rw [Y] at e z;rw [if_pos (.inr rfl)] at e;simp only at e;rw [e];(repeat' (first|refine wR ?_|refine AN.det (r) ?_|refine AN.det (z) ?_|fail)<;>try simp only [BI x,T,N,go_sem])
   |false=>
   rw [Y] at e z w;rw [if_neg (by simp;omega)] at e w;cases P:hZ (M4 fs dt) (Bl (.mk o n u ns ks al) ps) with
   |some y=>
    obtain ⟨q,c⟩:=y;rw [P] at e m;simp only at e m;rw [e];have h1:(c != 0)=true:=by simpa using AJ3 P
    (repeat' (first|refine wR ?_|refine AN.det (r) ?_|refine AN.det (z) ?_|refine AN.det (m) ?_|fail)<;>try simp only [BI x,T,N,h1,go_sem])
   |none=>
    rw [P] at m w;simp only at m w;(repeat' (first|refine wQ ?_|refine AN.det (r) ?_|refine AN.det (z) ?_|refine AN.det (m) ?_|fail)<;>try simp only [BI x,T,N,R,h6,go_sem]);exact ih (i+1) ⟨by omega,w trivial⟩ (by omega)
 . have S:Rv fs dt 0 fs=(0,0,0):=by
    have:=gU fs dt [] fs 0 (fun k g B=>by rw [Av];exact Q k g B (by have:=(AG.1 B).1;omega));rw [Aw] at this;rw [this];rfl
   rw [S];(repeat' refine wR ?_<;>simp only [B5 x,go_sem])
def kU (fs:List FE) (x:Ex×List M) (fl:List Bool):List Bool:=
 if x.1.op=4&& !x.2.contains x.1.name then (match Dz (DB fs) x.1.name with|some g=>fl.set g true|none=>fl) else fl
def xY (fs:List FE) (x:Ex×List M) (fl:List Bool):(kU fs x fl).length=fl.length:=by
 grind [kU]
def AGP (ds:List DE) (fs:List FE) (e:Ex) (sc:List M) (fl:List Bool) (D:fl.length=fs.length) (E:fs.length<=24) (q x jp y:Nat) (A:X) (i:A.C q=some (BP fl)) (l:A.C x=some [.ms q fl.length 1 y])
 (p:A.C jp=some [.d (.sl (ds.map DE.J)),.d (.sl (fs.map FE.J))]) (w:e.op=4->e.name≠[]) (c:e.op=4->sc.contains e.name=false->(Dz (DB fs) e.name).isSome=true):
 AS Tzp 168 [exA e,.d (bdL sc),.gp x 0,.gp jp 0] A (fun v H=>v= .d (.int .i64 0)/\H=A.AI q (BP (kU fs (e,sc) fl))):=by
 obtain ⟨o,n,u,ns,ks,al⟩:=e;simp only [Ex.op,Ex.name] at w c;refine mN.go ?_;rw [Ka,exA,Ex.A6];have a:=Xm ⟨ds,fs⟩ n A;simp only [pgA,Pg.J,AB,AJ] at a;have hid:=Ir i;have b:kU fs (.mk o n u ns ks al,sc) fl=if decide (o=4)&& !sc.contains n then (match Dz (DB fs) n with|some g=>fl.set g true|none=>fl) else fl:=rfl
 by_cases r:o=4
 . subst r;have m:=AAT sc n (w rfl) A;cases k:sc.contains n with
   |true=>
    rw [k] at m b;simp only [Bool.not_true,Hg,As,if_false] at b;rw [b,hid];(repeat' (first|refine wP ?_|refine AN.det (m) ?_|fail)<;>try simp only [go_sem])
   |false=>
    rw [k] at m;obtain ⟨g,s⟩:=Pv.1 (c rfl k);obtain ⟨f,B,_⟩:=xZ s;have t:g < fl.length:=by grind
    rw [k,s] at b;rw [s] at a;simp only [Hq,N6,Cu,decide_true,if_true] at a b;rw [b];(repeat' (first|refine sQ ?_|refine AN.det (m) ?_|refine AN.det (a) ?_|fail)<;>try simp only [go_sem]);have d:((g:Int) < (fl.length:Int))=True:=by grind
    have h:(g+1<=(BP fl).length)=True:=by rw [Tr];simp only [eq_iff_iff,iff_true];omega
    have j:Ew g (BP fl)++[I.d (.bool true)]++E1 (g+1) (BP fl)=BP (fl.set g true):=by
     rw [<- cK true t];rfl
    refine W.WX mixed (fun F' L' H=>H=A.AI q (BP (fl.set g true))) ?_ ?_
    . simp only [l,p,go_sem];refine ⟨?_,?_⟩
      . skip;refine AN.mk rfl a ?_;rintro _ _ ⟨rfl,rfl⟩;simp only [i,d,h,Ag,j,go_sem]
      . skip;refine AN.mk rfl a ?_;rintro _ _ ⟨rfl,rfl⟩;simp only [l,i,d,h,Ag,j,go_sem]
    . rintro F' L' H rfl;(repeat' refine wP ?_<;>simp only [go_sem])
 . have z:=Fb r;simp only [r,decide_false,Bool.false_and,As,if_false] at b;rw [b,hid];(repeat' refine wP ?_<;>simp only [z,go_sem])
def AFQ (A:X) {i:Nat} (h:i≠j) (a b c:List I):((A.AI i a).AI j b).AI i c=(A.AI i c).AI j b:=by
 unfold X.AI
 grind
def aN (fs:List FE):List (Ex×List M)->List Bool->List Bool
 |[],fl=>fl
 |x::l,fl=>aN fs l (kU fs x fl)
def qA (fs:List FE):∀(l:List (Ex×List M)) (fl:List Bool),(aN fs l fl).length=fl.length
 |[],fl=>rfl
 |x::l,fl=>by rw [aN,qA fs l,xY]
def AMQ (fs:List FE) (x:Ex×List M) (fl:List Bool) (g:Nat):(kU fs x fl)[g]?=fl[g]?.map (·||NJ fs g x):=by
 unfold kU NJ;by_cases h:x.1.op=4
 . cases b:x.2.contains x.1.name with
   |true=>
    simp [h]
   |false=>
    simp only [h,decide_true,N6,Cu,if_true,beq_self_eq_true,Fe];cases d:Dz (DB fs) x.1.name with
    |none=>simp
    |some k=>
     by_cases c:k=g
     . grind
     . rw [CT,if_neg c];have a:(k==g)=false:=by simpa using c
       simp [a]
 grind
def ADR (fs:List FE) (g:Nat):∀(l:List (Ex×List M)) (fl:List Bool),(aN fs l fl)[g]?=fl[g]?.map (·||l.any (NJ fs g))
 |[],fl=>by simp [aN]
 |x::l,fl=>by
  rw [aN,ADR fs g l,AMQ];cases fl[g]? with
  |none=>rfl
  |some b=>simp [Bool.or_assoc]
abbrev FlS (fs:List FE):= { fl:List Bool // fl.length=fs.length}
def ATU (fs:List FE) (s:FlS fs) (x:Ex×List M):Int×FlS fs:=(0,⟨kU fs x s.1,by rw [xY];exact s.2⟩)
def zD (fs:List FE):∀(l:List (Ex×List M)) (s:FlS fs),Jg (ATU fs) l s=(none,⟨aN fs l s.1,by rw [qA];exact s.2⟩)
 |[],s=>rfl
 |x::l,s=>by
  rw [Jg];have:=zD fs l (ATU fs s x).2;rw [if_pos (show (ATU fs s x).1=0 from rfl),this];rfl
def AC3 (ds:List DE) (fs:List FE) (f:FE) (D:f.body.size<=600) (o:fs.length<=24) (c g jp r:Nat) (V:X) (fl:List Bool) (i:fl.length=fs.length) (B:V.C c=some (BP fl)) (u:V.C g=some [.ms c fl.length 1 r])
 (w:V.C jp=some [.d (.sl (ds.map DE.J)),.d (.sl (fs.map FE.J))]) (k:g≠c) (l:jp≠c)
 (z:∀x∈Bl f.body f.params,(x.1.op=4->x.1.name≠[])/\(x.1.op=4->x.2.contains x.1.name=false->(Dz (DB fs) x.1.name).isSome=true)):
 AS Tzp 115 [feA f,.fn 168 [] [.gp g 0,.gp jp 0]] V
  (fun v H=>v= .tup [.d (.int .i64 ((f.body.size - 1:Nat):Int)),.d (.int .i64 0)]/\H=V.AI c (BP (aN fs (Bl f.body f.params) fl))):=by
 have y:=tW (S:=FlS fs) (ATU fs) (fun s=>V.AI c (BP s.1)) 168 [] [.gp g 0,.gp jp 0] (by kernel_rfl) rfl rfl f ⟨fl,i⟩ (by omega)
  (fun t j a=>by
    simp only [AD] at a ⊢;split
    . rename_i e;rw [if_pos e] at a;cases a
    . rename_i e;rwa [if_neg e] at a)
  (fun j a x m s n=>by
    have d:j≠c:=fun e=>by rw [e,AD,if_pos rfl] at a;cases a
    have b:V.C j=none:=by rw [AD,if_neg d] at a;exact a
    have p:g≠j:=fun e=>by rw [<- e,u] at b;cases b
    have q:jp≠j:=fun e=>by rw [<- e,w] at b;cases b
    have:=AGP ds fs x.1 x.2 s.1 s.2 o c g jp r (WH (fun s:FlS fs=>V.AI c (BP s.1)) j (.fn 168 [] [.gp g 0,.gp jp 0]) n s)
     (by simp only [WH,AD,if_neg (A5 d),if_true]) (by rw [WH,AD,if_neg p,AD,if_neg k,u,i,s.2]) (by rw [WH,AD,if_neg q,AD,if_neg l,w]) (z x m).1 (z x m).2
    refine this.mono (fun v H h=>⟨h.1,?_⟩);rw [h.2];simp only [WH,ATU];exact AFQ V (A5 d) _ _ _)
 simp only [Ir B] at y;refine y.mono (fun v H h=>?_);rw [zD] at h;exact h
def aJ {fs:List FE} {dt:List Dat}:∀(l:List FE) (i:Nat),(Rv fs dt i l).1=0->∀f∈l,hZ (M4 fs dt) (Bl f.body f.params)=none
 |[],i,_,f,a=>by simp at a
 |g::l,i,h,f,a=>by
  rw [Rv] at h
  have b:AAE fs dt i g=none/\hZ (M4 fs dt) (Bl g.body g.params)=none:=by
   unfold AAE at h ⊢;split at h
   . grind [AJ3]
   . grind
  rw [b.1] at h;rcases Ah.1 a with rfl|a
  . exact b.2
  . exact aJ l (i+1) h f a
def iA {vis:Ex->List M->Int}:∀ {l:List (Ex×List M)},hZ vis l=none->∀x∈l,vis x.1 x.2=0
 |[],_,x,a=>by simp at a
 |y::l,h,x,a=>by
  rw [hZ] at h;split at h
  . rename_i b;rcases Ah.1 a with rfl|a
    . exact b
    . exact iA (by simpa using h) x a
  . cases h
theorem VY (h:(R5 p).1=0):p.Ca.length<=24/\∀f∈p.Ca,f.body.size<=600/\∀x∈Bl f.body f.params,(x.1.op=4->x.1.name≠[])/\(x.1.op=4->x.2.contains x.1.name=false->(Dz (DB p.Ca) x.1.name).isSome=true):=by
 unfold R5 at h;cases e:Fc p with
 |error d=>grind [absurd,dD]
 |ok dt=>
  rw [e] at h;simp only at h;obtain ⟨l,_⟩:=I9 e;obtain ⟨k,g⟩:=bV l;refine ⟨k,fun f a=>⟨(g f a).1,fun x i=>⟨((g f a).2.2 _ x i).1,fun b c=>?_⟩⟩⟩;have j:=iA (aJ _ _ h f a) x i;obtain ⟨⟨o,n,u,ns,ks,al⟩,sc⟩:=x;simp only [Ex.op,Ex.name] at b c ⊢;subst b;rw [Vy,if_pos rfl,c] at j
  grind
def Ba (n:Nat):List DV:=[.int .i64 (n:Int)]
def QN (l:List (List Nat)):I:= .d (.sl (l.map fun r=>[.sl (r.map Ba)]))
def dX (h:A.le V) {i:Nat} {x:Nat×TypeId} (b:V.bt i=none):A.le (V.BM i x):=
 ⟨h.C,h.tok,h.gt,fun k y a=>by
   have:=h.bt k y a;show (if k=i then some x else V.bt k)=some y
   grind⟩
def AS1 {α:Type} {l:List α} {i:Nat} {x:α} (h:l[i]?=some x):l.set i x=l:=by
 apply Dw
 grind
def wr1 {α:Type} {l:List α} {i:Nat} (x:α) (h:i < l.length):Ew i l++[x]++E1 (i+1) l=l.set i x:=by
 rw [AO0,if_pos h];simp
def AK1 {r:FE->List (List DV)}:∀ {l:List FE} {cells:List I},cells.length=l.length->(∀(k:Nat) (f:FE),l[k]?=some f->∃cv,cells[k]?=some cv/\SlV cv (r f))->∃ds,dvs cells=some ds/\chunk 1 l.length ds=l.map fun f=>[DV.sl (r f)]
 |[],[],_,_=>⟨[],rfl,rfl⟩
 |f::l,[],h,_=>by simp at h
 |[],c::cells,h,_=>by simp at h
 |f::l,c::cells,h,d=>by
  obtain ⟨cv,b,e⟩:=d 0 f rfl;simp only [A7,AP] at b;subst b;obtain ⟨ds,i,j⟩:=AK1 (r:=r) (l:=l) (cells:=cells) (by grind) (fun k g m=>d (k+1) g m);have a:=e.dv;exact ⟨.sl (r f)::ds,by simp [dvs,a,i],by simp [chunk,j]⟩
structure CS (A:X) (jp jo:Nat) (ds:List DE) (fs:List FE) (cells:List I) (V:X):Prop where
 prog:V.C jp=some [.d (.sl (ds.map DE.J)),.d (.sl (fs.map FE.J))]
 out:V.C jo=some cells
 ne:jo≠jp
 no:A.C jo=none
 np:A.C jp=none
 le:A.le V
 len:cells.length=fs.length
def CS.new {jp jo:Nat} {ds:List DE} {fs:List FE} {cells:List I} (h:CS A jp jo ds fs cells V) (a:V.C j=none) (cs:List I):CS A jp jo ds fs cells (V.AI j cs):=by
 have b:jp≠j:=fun e=>by rw [<- e,h.prog] at a;cases a
 have d:jo≠j:=fun e=>by rw [<- e,h.out] at a;cases a
 have f:A.C j=none:=by
  cases g:A.C j with
  |none=>rfl
  |some c=>rw [h.le.C j c g] at a;cases a
 exact ⟨by rw [AD,if_neg b];exact h.prog,by rw [AD,if_neg d];exact h.out,h.ne,h.no,h.np,B6 h.le f,h.len⟩
def tB (p:Pg) (A:X) (h:∀d∈p.data,N4 d):AS Tzp 118 [pgA p] A (fun v H=>v=QN (J7 p)/\H=A):=by
 have P:=fun A=>Y1 p A h;refine vU.go ?_;rw [Dx];unfold J7;by_cases h3:(R5 p).1=0
 case neg=>
  rw [if_neg h3];have hne:((R5 p).1 != 0)=true:=by simpa using h3
  obtain ⟨ds,fs⟩:=p;simp only [pgA,Pg.J,AB,AJ,dgA] at P ⊢;(repeat' refine wQ ?_<;>simp only [go_sem]);intro jp hm;have h7:=Bf (cs:=[I.d (.sl (ds.map DE.J)),BU (fs.map FE.J)]) hm;(repeat' (first|refine wQ ?_|(refine W.By Zb (σ2:=A) h7 ?_)|refine AN.det (P _) ?_|fail)<;>try simp only [hne,go_sem]);rfl
 rw [if_pos h3];have hne:((R5 p).1 != 0)=false:=by simpa using h3
 obtain ⟨ds,fs⟩:=p;simp only [pgA,Pg.J,AB,AJ,dgA] at P ⊢;(repeat' refine wQ ?_<;>simp only [go_sem]);intro jp hm;have h7:=Bf (cs:=[I.d (.sl (ds.map DE.J)),BU (fs.map FE.J)]) hm;(repeat' (first|refine sQ ?_|refine AN.det (P _) ?_|fail)<;>try simp only [hne,AA,go_sem]);obtain ⟨h0,R⟩:=VY h3;simp only at h0 R;generalize hQ:(fun (v:I) (H:X)=>v=QN (fs.map (c7 fs))/\H=A)=Q;have hok:Q (QN (fs.map (c7 fs))) A:=by rw [<- hQ];exact ⟨rfl,rfl⟩
 clear hQ;refine K8.mk (n:=fs.length) (by omega) (by omega) (fun S hl=>?_);have h8:S≠jp:=fun e=>by rw [e,AD,if_pos rfl] at hl;cases hl
 have ht:A.C S=none:=by rw [AD,if_neg h8] at hl;exact hl
 have us:(AH fs.length [I.Ac]).flatten=AH fs.length I.Ac:=by
  induction fs.length with
  |zero=>rfl
  |succ n ih=>rw [Bg,BO,ih];rfl
 rw [us]
 have h5:CS A jp S ds fs (AH fs.length I.Ac) ((A.AI jp [I.d (.sl (ds.map DE.J)),BU (fs.map FE.J)]).AI S (AH fs.length I.Ac)):=
  ⟨by rw [AD,if_neg (A5 h8),AD,if_pos rfl],BB,h8,ht,hm,B6 h7 ht,by simp⟩
 generalize (A.AI jp [I.d (.sl (ds.map DE.J)),BU (fs.map FE.J)]).AI S (AH fs.length I.Ac)=τ0 at h5;have hp0:=h5.prog;(repeat' refine sQ ?_<;>simp only [hp0,AA,go_sem])
 refine lpK (fun (y:Nat×List I×X)=>[(20,A1 y.1)]) (fun y=>y.2.2)
  (fun y=>y.1<=fs.length/\CS A jp S ds fs y.2.1 y.2.2/\(∀k f,k < y.1->fs[k]?=some f->∃cv,y.2.1[k]?=some cv/\SlV cv ((c7 fs f).map Ba))/\∀k,y.1<=k->k < fs.length->y.2.1[k]?=some .Ac)
  (fun y=>fs.length - y.1) ?_ (0,AH fs.length I.Ac,τ0) ⟨by simp,h5,fun k f T=>by simp only at T;omega,fun k _ T=>by simp [T]⟩
 rintro ⟨i,cells,V⟩ ⟨hi,m,K,N⟩ ih;simp only at hi m K N;by_cases hn:i < fs.length
 . obtain ⟨f,hf⟩:=Ak hn;have he:=Au (J:=FE.J) hf;have hw1:=wS i;obtain ⟨hsz,hx⟩:=R f (AE hf);have hp1:=m.prog;obtain ⟨nm,G,o,n,u,ns,ks,al⟩:=f;simp only [FE.J,Ex.A6] at he;(repeat' (first|refine wQ ?_|(refine K8.mk (n:=fs.length) (by omega) (by omega) (fun q L=>?_))|fail)<;>try simp only [BI hn,he,hp1,AA,go_sem]);rw [Yd];have a:=m.new L (BP (AH fs.length false));rintro t ⟨hjf,hjb⟩;have w:(V.AI q (BP (AH fs.length false))).C t=none:=by rw [AD];exact hjf
   have sc:(V.AI q (BP (AH fs.length false))).C q=some (BP (AH fs.length false)):=BB;generalize V.AI q (BP (AH fs.length false))=hp at a sc w hjb ⊢;have hd:q≠t:=fun e=>by rw [<- e,sc] at w;cases w
   have hfp:jp≠t:=fun e=>by rw [<- e,a.prog] at w;cases w
   have hfo:S≠t:=fun e=>by rw [<- e,a.out] at w;cases w
   have ho:∀(V:X) (i:Nat) (x:Nat×TypeId) (j:Nat),(V.BM i x).C j=V.C j:=fun _ _ _ _=>rfl;simp only [ho,go_sem]
   have hm0:A.C q=none:=by
    cases hc:A.C q with
    |none=>rfl
    |some c=>rw [m.le.C q c hc] at L;cases L
   have hf0:A.C t=none:=by
    cases hc:A.C t with
    |none=>rfl
    |some c=>rw [a.le.C t c hc] at w;cases w
   have hmp:jp≠q:=fun e=>by rw [<- e,m.prog] at L;cases L
   have hmo:S≠q:=fun e=>by rw [<- e,m.out] at L;cases L
   have l:CS A jp S ds fs cells (((hp.AI t [I.Ac]).BM t (1,189)).AI t [I.ms q fs.length 1 4]):=
    ⟨by rw [AD,if_neg hfp,ho,AD,if_neg hfp];exact a.prog,by rw [AD,if_neg hfo,ho,AD,if_neg hfo];exact a.out,a.ne,a.no,a.np,B6 (dX (B6 a.le hf0) hjb) hf0,a.len⟩
   have hq:(((hp.AI t [I.Ac]).BM t (1,189)).AI t [I.ms q fs.length 1 4]).C q=some (BP (AH fs.length false)):=by rw [AD,if_neg hd,ho,AD,if_neg hd];exact sc
   have Y:(((hp.AI t [I.Ac]).BM t (1,189)).AI t [I.ms q fs.length 1 4]).C t=some [I.ms q fs.length 1 4]:=BB;generalize ((hp.AI t [I.Ac]).BM t (1,189)).AI t [I.ms q fs.length 1 4]=h9 at l hq Y;have h4:=AC3 ds fs ⟨nm,G,.mk o n u ns ks al⟩ hsz h0 q t jp 4 h9 (AH fs.length false) (by simp) hq (by rw [MR];exact Y) l.prog (A5 hd) hmp hx
   have D:CS A jp S ds fs cells (h9.AI q (BP (aN fs (Bl (.mk o n u ns ks al) G) (AH fs.length false)))):=
    ⟨by rw [AD,if_neg hmp];exact l.prog,by rw [AD,if_neg hmo];exact l.out,l.ne,l.no,l.np,B6 l.le hm0,l.len⟩
   have Z:(h9.AI q (BP (aN fs (Bl (.mk o n u ns ks al) G) (AH fs.length false)))).C t=some [I.ms q fs.length 1 4]:=by rw [AD,if_neg (A5 hd)];exact Y
   have h1:(h9.AI q (BP (aN fs (Bl (.mk o n u ns ks al) G) (AH fs.length false)))).C q=some (BP (aN fs (Bl (.mk o n u ns ks al) G) (AH fs.length false))):=BB;simp only at h4
   have hfg:∀g,g < fs.length->(aN fs (Bl (.mk o n u ns ks al) G) (AH fs.length false))[g]?=some ((Bl (.mk o n u ns ks al) G).any (NJ fs g)):=fun g hg=>by
    rw [ADR];simp [hg]
   have hr:(aN fs (Bl (.mk o n u ns ks al) G) (AH fs.length false)).length=fs.length:=by rw [qA];simp
   generalize aN fs (Bl (.mk o n u ns ks al) G) (AH fs.length false)=fin at h4 D Z h1 hfg hr;generalize h9.AI q (BP fin)=τ3 at h4 D Z h1;simp only [feA,FE.J,Ex.A6,AB,AJ] at h4;(repeat' (first|refine wQ ?_|(refine AN.mk rfl h4 ?_;rintro _ τ3 ⟨rfl,rfl⟩)|fail)<;>try simp only [Z,go_sem]);refine W.PL ?_;have hci:=N i (AW _) hn;have hcl:=m.len
   refine W.SB ((fun (a1:I) (a3:I) (a4:I) (a18:I) (a19:I) (a20:I) (a32:I) (a33:I)=>fun (z:Nat×I×X)=>put 1 a1 (put 3 a3 (put 4 a4 (put 18 a18 (put 19 a19 (put 20 a20 (put 32 a32 (put 33 a33 (put 34 (A1 z.1) U))))))))) _ _ _ _ _ _ _ _) (fun _=>E) (fun z=>z.2.2)
    (fun z=>z.1<=fs.length/\CS A jp S ds fs (cells.set i z.2.1) z.2.2/\z.2.2.C q=some (BP fin)/\Bn A 3 1 (((Aj z.1).filter fun g=>(Bl (.mk o n u ns ks al) G).any (NJ fs g)).map Ba) z.2.1 z.2.2)
    (fun z=>fs.length - z.1) ?_ (0,.Ac,τ3) ⟨by simp,by rw [show cells.set i .Ac=cells from AS1 hci];exact D,h1,⟨⟨τ3,rfl,D.le⟩,D.le,rfl,rfl,rfl,rfl,fun _=>rfl,rfl,rfl⟩⟩
   rintro ⟨g,cv,τ4⟩ ⟨hg,b,B,F⟩ ih2;simp only at hg b B F;by_cases hj:g < fs.length
   . have ha:=Gl (hfg g hj);have hwg:=wS g;have ho4:=b.out;have hgi:(cells.set i cv)[i]?=some cv:=by rw [CT];simp;omega
     have hll:((i:Int) < (fs.length:Int))=True:=by simp only [eq_iff_iff,iff_true];omega
     have hv:((g:Int) < (fs.length:Int))=True:=by simp only [eq_iff_iff,iff_true];omega
     cases hb:(Bl (.mk o n u ns ks al) G).any (NJ fs g) with
     |false=>
      rw [hb] at ha
      have hrg:(Aj (g+1)).filter (fun g=>(Bl (.mk o n u ns ks al) G).any (NJ fs g))=(Aj g).filter (fun g=>(Bl (.mk o n u ns ks al) G).any (NJ fs g)):=by
       rw [Cq,RJ];simp [hb]
      (repeat' refine wQ ?_<;>simp only [B,ha,hwg,hv,Ag,go_sem]);exact ih2 (g+1,cv,τ4) ⟨by simp only;omega,b,B,by simp only [hrg];exact F⟩ (by simp only;omega)
     |true=>
      rw [hb] at ha
      have hrg:(Aj (g+1)).filter (fun g=>(Bl (.mk o n u ns ks al) G).any (NJ fs g))=(Aj g).filter (fun g=>(Bl (.mk o n u ns ks al) G).any (NJ fs g))++[g]:=by
       rw [Cq,RJ];simp [hb]
      have hlenR:(((Aj g).filter fun g=>(Bl (.mk o n u ns ks al) G).any (NJ fs g)).map Ba).length<=1000:=by
       have:=MQ (fun g=>(Bl (.mk o n u ns ks al) G).any (NJ fs g)) (Aj g);rw [List.length_range] at this;rw [AA];omega
      have hset:∀v2,Ew i (cells.set i cv)++[v2]++E1 (i+1) (cells.set i cv)=cells.set i v2:=fun v2=>by
       rw [wr1 _ (by rw [Ld];omega),List.set_set]
      have hlen1:(i+1<=(cells.set i cv).length)=True:=by simp;omega
      (repeat' (first|refine wQ ?_|(refine DH.own F rfl (by simp) (by simp only [AT,A8];omega) (by decide) (fun v2 σ2 ho2 hy=>?_))|fail)<;>try simp only [B,ha,hv,Ag,ho4,hll,hgi,F.cell,go_sem]);have hb2:=(hy S).trans ho4;have hbm5:=(hy q).trans B;have hp5:=(hy jp).trans b.prog;simp only [hb2,ho2.cell,ho2.cells,hlen1,hset,go_sem];(repeat' refine wQ ?_<;>simp only [hwg,go_sem]);have ho3:=ho2.set b.no (cells.set i v2);exact ih2 (g+1,v2,σ2.AI S (cells.set i v2)) ⟨by simp only;omega,⟨by rw [AD,if_neg (A5 b.ne)];exact hp5,BB,b.ne,b.no,b.np,ho3.le,by simp [hcl]⟩,by rw [AD,if_neg (A5 hmo)];exact hbm5,by simp only [hrg,A4];exact ho3⟩ (by simp only;omega)
   . have hgn:g=fs.length:=by omega
     subst hgn;(repeat' refine wQ ?_<;>simp only [B5 hj,hw1,go_sem]);refine ih (i+1,cells.set i cv,τ4) ⟨by simp only;omega,b,fun k f T vs=>?_,fun k T hkl=>?_⟩ (by simp only;omega)
     . simp only at T ⊢;by_cases hki:k=i
       . subst hki;rw [hf] at vs;cases vs;exact ⟨cv,by rw [CT];simp;omega,F.slv⟩
       . rw [CT,if_neg (fun e=>hki e.symm)];exact K k f (by omega) vs
     . simp only at T ⊢;rw [CT,if_neg (by omega)];exact N k (by omega) hkl
 . have hin:i=fs.length:=by omega
   subst hin;obtain ⟨dvl,hdv,hch⟩:=AK1 (r:=fun f=>(c7 fs f).map Ba) m.len (fun k f T=>K k f (AG.1 T).1 T);(repeat' refine wQ ?_<;>simp only [B5 hn,go_sem]);refine W.freeze (F':=put 2 (QN (fs.map (c7 fs))) U) (H:= { V with C:=fun j=>if (A.C j).isSome then V.C j else none}) m.out hdv (by rw [m.len,Ag]) (Ai h0 (by decide)) (fun s=>?_) (fun k cs' T=>⟨cs',T,.inl rfl⟩) (fun j cs' h6=>?_) (fun _ h=>h) ?_
   . by_cases h2:s=2
     . subst h2;right;simp only [DR,if_true,frz,and_self,QN,hch,List.map_map];rfl
     . left;simp only [DR,if_neg h2]
   . simp only at h6;cases hs:A.C j with
     |none=>rw [hs] at h6;cases h6
     |some c=>
      rw [hs] at h6;exact ⟨(fun e=>by rw [e,m.no] at hs;cases hs),cs',h6,.inl rfl⟩
   . refine W.By Zb (σ2:=A) (AIC m.le) ?_;simp only [QN,go_sem];exact hok
open Go.Proofs.Tryz
set_option maxRecDepth 100000
set_option maxHeartbeats 40000000
noncomputable section
def Y7:List (Nat×PT):=[(3,pO [0] (.alt 1 (pD [2,3]) (.alt 2 (pD [1,3]) .done))),(5,pL [9] (pO [0,1,2,4,5,6] (.alt 3 (pD [7,8,10]) (.alt 7 (pD [3,8,10]) .done)))),(16,pO [0,1,2] (.alt 3 (pD [4,5,6]) (.alt 5 (pD [3,4,6]) .done))),(27,pO (Rg 0 4++[5,6,7]) (.alt 4 (pD (Rg 8 8)) (.alt 8 (pO (Rg 9 4) (.alt 4 (pD [13,14,15]) (.alt 13 (pD [4,14,15]) .done))) .done)))]
abbrev Bx:=mX 28 f28 121 (lq [18,21,24,26,31,35,39,46,49,105,108,119]) [.c 2 (some 2),.c 3 (some 3)]
instance QS:Good Bx:=gdX func28
def Ik:=C8 Bx Y7 fun c a b d e=>G c [a,b,d,e]
def Fz:=lpC 0 (Ik .skip .skip .skip .skip)
def IL:=lpC 1 (Ik Fz .skip .skip .skip)
def Ln:=lpC 2 (Ik Fz IL .skip .skip)
def IM:=lpC 3 (Ik Fz IL Ln .skip)
def pK:=(Ik Fz IL Ln IM).1
def rN:Inn Bx pK 121:=inX ntmps28 Y7
def SG:List (Nat×PT):=[(2,pO (Rg 0 4++[5,7,9]) (.alt 4 (.alt 6 (.alt 8 (pD (Rg 10 4)) (.alt 10 (pD [8,11,12,13]) .done)) (.alt 8 (.alt 6 (pD (Rg 10 4)) (.alt 10 (pD [6,11,12,13]) .done)) (.alt 10 (.alt 6 (pD [8,11,12,13]) (.alt 8 (pD [6,11,12,13]) .done)) .done))) (.alt 6 (.alt 4 (.alt 8 (pD (Rg 10 4)) (.alt 10 (pD [8,11,12,13]) .done)) (.alt 8 (.alt 4 (pD (Rg 10 4)) (.alt 10 (pD [4,11,12,13]) .done)) (.alt 10 (.alt 4 (pD [8,11,12,13]) (.alt 8 (pD [4,11,12,13]) .done)) .done))) (.alt 8 (.alt 4 (.alt 6 (pD (Rg 10 4)) (.alt 10 (pD [6,11,12,13]) .done)) (.alt 6 (.alt 4 (pD (Rg 10 4)) (.alt 10 (pD [4,11,12,13]) .done)) (.alt 10 (.alt 4 (pD [6,11,12,13]) (.alt 6 (pD [4,11,12,13]) .done)) .done))) (.alt 10 (.alt 4 (.alt 6 (pD [8,11,12,13]) (.alt 8 (pD [6,11,12,13]) .done)) (.alt 6 (.alt 4 (pD [8,11,12,13]) (.alt 8 (pD [4,11,12,13]) .done)) (.alt 8 (.alt 4 (pD [6,11,12,13]) (.alt 6 (pD [4,11,12,13]) .done)) .done))) .done))))),(7,pO ([0,1,2]++Rg 4 11) (.alt 3 (pD [15,16,17]) (.alt 15 (pD [3,16,17]) .done))),(8,pO ([0,1,2]++Rg 4 4) (.alt 3 (pD [8,9,10]) (.alt 8 (pD [3,9,10]) .done)))]
abbrev I3:=mX 66 f66 70 ([28]++lq [14,16,50]) [.t 8]
instance AKJ:Good I3:=gdX func66
def SA:=C8 I3 SG fun c a=>G c [a]
def X9:=lpC 0 (SA .skip)
def Lo:=(SA X9).1
def dS:Inn I3 Lo 70:=inX ntmps66 SG
def LV:List (Nat×PT):=[(2,pO (Rg 0 5++[6]++Rg 10 17) (.alt 5 (pO [7,8] (.alt 9 (pD [27,28,29]) (.alt 27 (pD [9,28,29]) .done))) (.alt 27 (pD [5,7,8,9,28,29]) .done)))]
abbrev HE:=mX 67 f67 51 [] []
instance U1:Good HE:=gdX func67
def UN:=k0 HE LV
def Uc:Inn HE UN 51:=inX ntmps67 LV
abbrev Hf:=mX 68 f68 26 [1,3,4] [.t 2]
instance AAR:Good Hf:=gdX func68
def Lu:=C8 Hf [] fun c a=>G c [a]
def R0:=lpC 0 (Lu .skip)
def VV:=(Lu R0).1
def Vd:Inn Hf VV 26:=inX ntmps68
abbrev IE:=mX 69 f69 13 [1,3,4] [.t 2]
instance ACH:Good IE:=gdX func69
def Wi:=k0 IE
def Wz:Inn IE Wi 13:=inX ntmps69
abbrev He:=mX 70 f70 38 [5,7] [.t 6]
instance AAQ:Good He:=gdX func70
def VS:=k0 He
def Vc:Inn He VS 38:=inX ntmps70
def Mg:List (Nat×PT):=[(7,pL [27] (pO ([0]++Rg 2 6++[9,12]++Rg 14 6++[21,24]) (.alt 1 (pO [8,10,11] (.alt 13 (pD [20,22,23,25,26,28]) (.alt 20 (pO [22] (.alt 13 (pD [23,25,26,28]) (.alt 23 (pD [13,25,26,28]) .done))) .done))) (.alt 8 (pO [10] (.alt 1 (pO [11] (.alt 13 (pD [20,22,23,25,26,28]) (.alt 20 (pO [22] (.alt 13 (pD [23,25,26,28]) (.alt 23 (pD [13,25,26,28]) .done))) .done))) (.alt 11 (.alt 1 (.alt 13 (pD [20,22,23,25,26,28]) (.alt 20 (pO [22] (.alt 13 (pD [23,25,26,28]) (.alt 23 (pD [13,25,26,28]) .done))) .done)) (.alt 20 (pO [22] (.alt 1 (.alt 13 (pD [23,25,26,28]) (.alt 23 (pD [13,25,26,28]) .done)) (.alt 23 (pD [1,13,25,26,28]) .done))) .done)) (.alt 20 (pO [22] (.alt 1 (pO [11] (.alt 13 (pD [23,25,26,28]) (.alt 23 (pD [13,25,26,28]) .done))) (.alt 11 (.alt 1 (.alt 13 (pD [23,25,26,28]) (.alt 23 (pD [13,25,26,28]) .done)) (.alt 23 (pD [1,13,25,26,28]) .done)) (.alt 23 (.alt 1 (pD [11,13,25,26,28]) (.alt 11 (pD [1,13,25,26,28]) .done)) .done)))) .done)))) (.alt 20 (pO [22] (.alt 1 (pO [8,10,11] (.alt 13 (pD [23,25,26,28]) (.alt 23 (pD [13,25,26,28]) .done))) (.alt 8 (pO [10] (.alt 1 (pO [11] (.alt 13 (pD [23,25,26,28]) (.alt 23 (pD [13,25,26,28]) .done))) (.alt 11 (.alt 1 (.alt 13 (pD [23,25,26,28]) (.alt 23 (pD [13,25,26,28]) .done)) (.alt 23 (pD [1,13,25,26,28]) .done)) (.alt 23 (.alt 1 (pD [11,13,25,26,28]) (.alt 11 (pD [1,13,25,26,28]) .done)) .done)))) (.alt 23 (.alt 1 (pD [8,10,11,13,25,26,28]) (.alt 8 (pO [10] (.alt 1 (pD [11,13,25,26,28]) (.alt 11 (pD [1,13,25,26,28]) .done))) .done)) .done)))) .done))))),(15,pD (Rg 0 7++Rg 8 5++[7]++Rg 13 5))]
abbrev F6:=mX 71 f71 106 (lq [68,70,78,84,91,104]) [.c 4 (some 5),.t 5]
instance ACF:Good F6:=gdX func71
def Hs:=C8 F6 Mg fun c a b=>G c [a,b]
def KB:=lpC 0 (Hs .skip .skip)
def KC:=lpC 1 (Hs KB .skip)
def Wg:=(Hs KB KC).1
def Wx:Inn F6 Wg 106:=inX ntmps71 Mg
abbrev Fs:=mX 119 f119 21 [] [.t 4]
instance uJ:Good Fs:=gdX func119
def J1:=C8 Fs [] fun c a=>G c [a]
def O4:=lpC 0 (J1 .skip)
def R3:=(J1 O4).1
def Rl:Inn Fs R3 21:=inX ntmps119
abbrev ID:=mX 120 f120 6 [] [.t 2]
instance ACG:Good ID:=gdX func120
def Wh:=k0 ID
def Wy:Inn ID Wh 6:=inX ntmps120
def PQ:List (Nat×PT):=[(2,pO ([0,1,2,4,5,6]++Rg 8 12) (.alt 3 (.alt 7 (pD [20,21,22]) (.alt 20 (pD [7,21,22]) .done)) (.alt 7 (.alt 3 (pD [20,21,22]) (.alt 20 (pD [3,21,22]) .done)) (.alt 20 (pD [3,7,21,22]) .done)))),(28,pD (Rg 0 9++[10,11,12,9,13,14]))]
abbrev DO:=mX 121 f121 170 ([42]++lq [45,54,65,74,81,87,94,101,125,131,141,47]) [.t 6]
instance AGL:Good DO:=gdX func121
def BT:=k0 DO PQ
def ZX:Inn DO BT 170:=inX ntmps121 PQ
abbrev Jq:=mX 122 f122 28 [100025] [.t 6]
instance AGN:Good Jq:=gdX func122
def PK:=C8 Jq [] fun c a=>G c [a]
def VU:=lpC 0 (PK .skip)
def ZO:=(PK VU).1
def ZZ:Inn Jq ZO 28:=inX ntmps122
def Mh:List (Nat×PT):=[(2,pL [16,17] (pO (Rg 0 11++[12]) (.alt 11 (pO [13,14] (.alt 15 (pD [18,19]) (.alt 18 (pD [15,19]) .done))) (.alt 18 (pD [11,13,14,15,19]) .done))))]
abbrev IF:=mX 123 f123 110 (lq [36,48,60,62,66,68,73,76,92,99,104]) []
instance Wo:Good IF:=gdX func123
def Ma:=C8 IF Mh fun c a=>G c [a]
def Sg:=lpC 0 (Ma .skip)
def Wj:=(Ma Sg).1
def XA:Inn IF Wj 110:=inX ntmps123 Mh
abbrev G6:=mX 124 f124 46 [] [.t 5]
instance vO:Good G6:=gdX func124
def KO:=C8 G6 [] fun c a=>G c [a]
def P2:=lpC 0 (KO .skip)
def Se:=(KO P2).1
def TJ:Inn G6 Se 46:=inX ntmps124
abbrev JJ:=mX 125 f125 46 [] [.t 4]
instance AEE:Good JJ:=gdX func125
def OI:=C8 JJ [] fun c a=>G c [a]
def UR:=lpC 0 (OI .skip)
def Xa:=(OI UR).1
def YE:Inn JJ Xa 46:=inX ntmps125
abbrev HJ:=mX 126 f126 46 [] [.t 5]
instance yK:Good HJ:=gdX func126
def LM:=C8 HJ [] fun c a=>G c [a]
def QK:=lpC 0 (LM .skip)
def UU:=(LM QK).1
def Ug:Inn HJ UU 46:=inX ntmps126
abbrev G3:=mX 127 f127 8 [] [.t 3]
instance vK:Good G3:=gdX func127
def Sa:=k0 G3
def TF:Inn G3 Sa 8:=inX ntmps127
abbrev Fk:=mX 128 f128 9 [] [.t 4]
instance uF:Good Fk:=gdX func128
def RR:=k0 Fk
def Rf:Inn Fk RR 9:=inX ntmps128
abbrev D6:=mX 129 f129 9 [] [.t 4]
instance aU:Good D6:=gdX func129
def Kc:=k0 D6
def Kl:Inn D6 Kc 9:=inX ntmps129
abbrev G4:=mX 130 f130 14 (lq [6,10]) [.t 3]
instance vL:Good G4:=gdX func130
def Sb:=k0 G4
def TG:Inn G4 Sb 14:=inX ntmps130
def KZ:List (Nat×PT):=[(1,pO (Rg 0 10++[11,12,13,15]) (.alt 10 (pD ([14]++Rg 16 6)) (.alt 14 (pO [16] (.alt 10 (pD (Rg 17 5)) (.alt 17 (pD [18,10,19,20,21]) .done))) .done)))]
abbrev G5:=mX 131 f131 26 [] [.t 4]
instance vN:Good G5:=gdX func131
def Sd:=k0 G5 KZ
def TI:Inn G5 Sd 26:=inX ntmps131 KZ
abbrev HH:=mX 132 f132 25 [] [.t 6]
instance yJ:Good HH:=gdX func132
def LL:=C8 HH [] fun c a=>G c [a]
def QJ:=lpC 0 (LL .skip)
def UT:=(LL QJ).1
def Uf:Inn HH UT 25:=inX ntmps132
abbrev JL:=mX 133 f133 44 (lq [22,35,37,40]) [.c 6 (some 3)]
instance AEG:Good JL:=gdX func133
def Xc:=k0 JL
def YG:Inn JL Xc 44:=inX ntmps133
abbrev Jr:=mX 169 f169 24 ([20]++[300016]) [.t 4]
instance AGO:Good Jr:=gdX func169
def ZP:=k0 Jr
def Z0:Inn Jr ZP 24:=inX ntmps169
def LX:List (Nat×PT):=[(8,pO (Rg 0 10++[11,12,13,15]) (.alt 10 (pD ([14]++Rg 16 6)) (.alt 14 (pO [16] (.alt 10 (pD (Rg 17 5)) (.alt 17 (pD [18,10,19,20,21]) .done))) .done))),(11,pO (Rg 0 12++Rg 13 8) (.alt 12 (pD (Rg 21 6)) (.alt 21 (pD ([12]++Rg 22 5)) .done)))]
abbrev HG:=mX 170 f170 115 ([5]++lq [85,96,106]) [.t 8]
instance yI:Good HG:=gdX func170
def UQ:=k0 HG LX
def Ue:Inn HG UQ 115:=inX ntmps170 LX
abbrev HD:=mX 171 f171 22 [] [.t 4]
instance yG:Good HD:=gdX func171
def UL:=k0 HD
def Ub:Inn HD UL 22:=inX ntmps171
abbrev JK:=mX 172 f172 12 [] [.t 6]
instance AEF:Good JK:=gdX func172
def Xb:=k0 JK
def YF:Inn JK Xb 12:=inX ntmps172
abbrev JH:=mX 173 f173 25 [300018] [.t 6]
instance AEC:Good JH:=gdX func173
def OG:=C8 JH [] fun c a=>G c [a]
def UM:=lpC 0 (OG .skip)
def X7:=(OG UM).1
def YC:Inn JH X7 25:=inX ntmps173
def PO:List (Nat×PT):=[(6,pO (Rg 0 6++Rg 7 6++[14,18,22,25]) (.alt 6 (pD [13,15,16,17,19,20,21,23,24,26,27]) (.alt 13 (pO [15,16] (.alt 6 (pD [17,19,20,21,23,24,26,27]) (.alt 17 (pO [19,20] (.alt 6 (pD [21,23,24,26,27]) (.alt 21 (pO [23] (.alt 6 (pD [24,26,27]) (.alt 24 (pD [6,26,27]) .done))) .done))) .done))) .done)))]
abbrev Jo:=mX 174 f174 80 (lq [19,37,48]) [.t 6]
instance AGK:Good Jo:=gdX func174
def PI:=C8 Jo PO fun c a=>G c [a]
def VP:=lpC 0 (PI .skip)
def ZM:=(PI VP).1
def ZW:Inn Jo ZM 80:=inX ntmps174 PO
def OR:List (Nat×PT):=[(3,pD (Rg 0 9++Rg 10 6++[9,16,17])),(10,pD (Rg 0 10++[12,10,11,13]))]
abbrev JI:=mX 175 f175 117 (lq [24,49,67,79,106,109]) [.t 6]
instance AED:Good JI:=gdX func175
def OH:=C8 JI OR fun c a=>G c [a]
def UO:=lpC 0 (OH .skip)
def X8:=(OH UO).1
def YD:Inn JI X8 117:=inX ntmps175 OR
def LW:List (Nat×PT):=[(4,pD (Rg 0 6++[7,8,9,6,10,11]))]
abbrev HF:=mX 176 f176 43 (lq [10,20,30]) [.t 6]
instance yH:Good HF:=gdX func176
def LK:=C8 HF LW fun c a=>G c [a]
def QI:=lpC 0 (LK .skip)
def UP:=(LK QI).1
def Ud:Inn HF UP 43:=inX ntmps176 LW
def KY:List (Nat×PT):=[(1,pD [0,1,2,4,5,6,3,7,8,9]),(2,pD (Rg 0 5++Rg 6 5++[5,11,12,13])),(23,pO (Rg 0 6++[7,8,9]) (.alt 6 (pD [10,11]) (.alt 10 (pD [6,11]) .done)))]
abbrev EY:=mX 177 f177 101 (lq [40,80,91]) [.t 6]
instance vM:Good EY:=gdX func177
def KM:=C8 EY KY fun c a=>G c [a]
def IN:=lpC 0 (KM .skip)
def Sc:=(KM IN).1
def TH:Inn EY Sc 101:=inX ntmps177 KY
def Mf:List (Nat×PT):=[(4,pO (Rg 0 4++Rg 5 6) (.alt 4 (pD [11,12,13]) (.alt 11 (pD [4,12,13]) .done))),(7,pD (Rg 0 9++Rg 10 4++[9,14,15])),(8,pO (Rg 0 4++Rg 5 4) (.alt 4 (pD [9,10,11]) (.alt 9 (pD [4,10,11]) .done))),(10,pD (Rg 0 9++[10,11,12,9,13,14])),(12,pD (Rg 0 9++[10,9,11])),(16,pO (Rg 0 4++Rg 5 4) (.alt 4 (pD [9,10,11]) (.alt 9 (pD [4,10,11]) .done))),(17,pD (Rg 0 4++[5,6,4,7,8,9])),(19,pO (Rg 0 7++Rg 8 7++[19]) (.alt 7 (pD (Rg 15 4++[20])) (.alt 15 (pO [16] (.alt 7 (pD [17,18,20]) (.alt 17 (pD [7,18,20]) .done))) .done)))]
abbrev IC:=mX 178 f178 168 (lq [14,19,26,31,43,51,64,69,80,92,102,116,121,126,141,151,156]) [.t 6]
instance ACE:Good IC:=gdX func178
def Wf:=k0 IC Mf
def EG:Inn IC Wf 168:=inX ntmps178 Mf
abbrev Ha:=mX 179 f179 19 [] [.t 4]
instance AAN:Good Ha:=gdX func179
def Lt:=C8 Ha [] fun c a=>G c [a]
def RU:=lpC 0 (Lt .skip)
def VK:=(Lt RU).1
def V8:Inn Ha VK 19:=inX ntmps179
abbrev ED:=mX 180 f180 19 [] [.t 4]
instance fH:Good ED:=gdX func180
def Ge:=C8 ED [] fun c a=>G c [a]
def Kf:=lpC 0 (Ge .skip)
def MW:=(Ge Kf).1
def M1:Inn ED MW 19:=inX ntmps180
abbrev G8:=mX 181 f181 28 [2,5,6,7] [.t 4]
instance vQ:Good G8:=gdX func181
def KQ:=C8 G8 [] fun c a=>G c [a]
def P3:=lpC 0 (KQ .skip)
def Si:=(KQ P3).1
def TL:Inn G8 Si 28:=inX ntmps181
abbrev Kr:=mX 182 f182 8 [5] [.t 2]
instance AHZ:Good Kr:=gdX func182
def Zy:=k0 Kr
def aZ:Inn Kr Zy 8:=inX ntmps182
abbrev Jp:=mX 206 f206 22 [] [.t 4,.t 5]
instance AGM:Good Jp:=gdX func206
def PJ:=C8 Jp [] fun c a=>G c [a]
def VT:=lpC 0 (PJ .skip)
def ZN:=(PJ VT).1
def ZY:Inn Jp ZN 22:=inX ntmps206
abbrev Fq:=mX 207 f207 8 [300005] [.t 3]
instance uI:Good Fq:=gdX func207
def RZ:=k0 Fq
def Rk:Inn Fq RZ 8:=inX ntmps207
abbrev Ft:=mX 208 f208 25 [300018] [.t 6]
instance uK:Good Ft:=gdX func208
def J2:=C8 Ft [] fun c a=>G c [a]
def O5:=lpC 0 (J2 .skip)
def R4:=(J2 O5).1
def Rm:Inn Ft R4 25:=inX ntmps208
abbrev G7:=mX 209 f209 27 (lq [8,12,17,19,22]) [.t 6]
instance vP:Good G7:=gdX func209
def Sf:=k0 G7
def TK:Inn G7 Sf 27:=inX ntmps209
abbrev Dp:=mX 210 f210 50 [] []
instance QU:Good Dp:=gdX func210
def Il:=C8 Dp [] fun c a=>G c [a]
def HR:=lpC 0 (Il .skip)
def QL:=(Il HR).1
def Q1:Inn Dp QL 50:=inX ntmps210
end
structure Nd where
 k:Int
 n:Int
 ar:List Nat
 p:Nat
variable {c l':List Nd} {x y:Nd}
def Nd.row (x:Nd):List I:=[.d (.int .i64 x.k),.d (.int .i64 x.n),.d (.sl (x.ar.map Ba)),.d (.int .i64 (x.p:Int))]
def ndC (l:List Nd):List I:=(l.map Nd.row).flatten
abbrev tkN:Nat:=255
def ndV (l:List Nd) (j:Nat):I:=match l with
 |[]=>.Ac
 |_::_=>.ms j l.length 4 tkN
def Ef {l:List Nd} (h:l≠[]) (j:Nat):ndV l j= .ms j l.length 4 tkN:=by
 cases l with
 |nil=>exact absurd rfl h
 |cons x l=>rfl
def AVX (l m:List Nd):ndC (l++m)=ndC l++ndC m:=by simp [ndC]
def Yr:∀l:List Nd,(ndC l).length=l.length * 4
 |[]=>rfl
 |x::l=>by
  have:=Yr l;simp only [ndC,AB,BO,A0,AT] at this ⊢;rw [this];simp [Nd.row];omega
def TR:∀ {l:List Nd} {i:Nat} {x:Nd},l[i]?=some x->(ndC l)[i * 4]?=some (.d (.int .i64 x.k))/\(ndC l)[i * 4+1]?=some (.d (.int .i64 x.n))/\(ndC l)[i * 4+2]?=some (.d (.sl (x.ar.map Ba)))/\(ndC l)[i * 4+3]?=some (.d (.int .i64 (x.p:Int)))
 |y::l,0,x,h=>by
  simp only [A7,AP] at h;subst h;exact ⟨rfl,rfl,rfl,rfl⟩
 |y::l,i+1,x,h=>by
  have:=TR (l:=l) (i:=i) (x:=x) (by simpa using h)
  have a:∀j,(ndC (y::l))[(i+1) * 4+j]?=(ndC l)[i * 4+j]?:=fun j=>by
   grind [ndC,BO,BY,Nd.row]
  have b:=a 0
  grind
def RK (d:Nat->Nat) (l c:List Nd):Prop:=∀(i:Nat) (x y:Nd),l[i]?=some x->c[i]?=some y->(y.p=i/\x.p=i)\/(y.p≠i/\x.p≠i/\d y.p < d i/\∃z,l[y.p]?=some z/\z.p=x.p)
structure Rep (l c:List Nd):Prop where
 len:c.length=l.length
 sh:∀(i:Nat) (x y:Nd),l[i]?=some x->c[i]?=some y->y.k=x.k/\y.n=x.n/\y.ar=x.ar
 rk:∃d,RK d l c
structure E8 (l:List Nd):Prop where
 p:∀(i:Nat) (x:Nd),l[i]?=some x->∃z,l[x.p]?=some z/\z.p=x.p
 ar:∀(i:Nat) (x:Nd),l[i]?=some x->∀a∈x.ar,a < l.length
def Rep.at {l:List Nd} (h:Rep l c) {i:Nat} (a:l[i]?=some x):∃y,c[i]?=some y/\y.k=x.k/\y.n=x.n/\y.ar=x.ar:=by
 have:i < c.length:=by rw [h.len];exact (AG.1 a).1
 exact ⟨c[i],by simp [this],h.sh i x _ a (by simp [this])⟩
def Rep.nil:Rep [] []:=⟨rfl,fun i x y h=>by simp at h,fun _=>0,fun i x y h=>by simp at h⟩
def E8.nil:E8 []:=⟨fun i x h=>by simp at h,fun i x h=>by simp at h⟩
def Nv {α:Type} {l:List α} {a x:α} {i:Nat} (h:(l++[a])[i]?=some x):l[i]?=some x\/(i=l.length/\x=a):=by
 grind
theorem Ic {α:Type} {l:List α} {x:α} {i:Nat} (h:l[i]?=some x) (m:List α):(l++m)[i]?=some x:=by
 grind
def qW {α:Type} (l:List α) (x:α):(l++[x])[l.length]?=some x:=by simp
def E8.add {l:List Nd} (h:E8 l) (k n:Int) (ar:List Nat) (d:∀a∈ar,a < l.length):E8 (l++[⟨k,n,ar,l.length⟩]):=by
 refine ⟨fun i x b=>?_,fun i x b a c=>?_⟩
 . rcases Nv b with b|⟨rfl,rfl⟩
   . obtain ⟨z,f,e⟩:=h.p i x b
     grind
   grind
 . simp only [A0,Ci];rcases Nv b with b|⟨rfl,rfl⟩
   . have:=h.ar i x b a c;omega
   grind
def Rep.add {l:List Nd} (h:Rep l c) (k n:Int) (ar:List Nat):Rep (l++[⟨k,n,ar,l.length⟩]) (c++[⟨k,n,ar,l.length⟩]):=by
 obtain ⟨d,m⟩:=h.rk;refine ⟨by simp [h.len],fun i x y g f=>?_,d,fun i x y g f=>?_⟩
 . rcases Nv g with g|⟨rfl,rfl⟩
   . rcases Nv f with f|⟨rfl,rfl⟩
     . exact h.sh i x y g f
     . have:=(AG.1 g).1;have:=h.len;omega
   . rcases Nv f with f|⟨_,rfl⟩
     . have:=(AG.1 f).1;have:=h.len;omega
     grind
 . rcases Nv g with g|⟨rfl,rfl⟩
   . rcases Nv f with f|⟨rfl,rfl⟩
     . rcases m i x y g f with j|⟨a,b,e,z,p,o⟩
       . exact .inl j
       grind
     . have:=(AG.1 g).1;have:=h.len;omega
   . rcases Nv f with f|⟨_,rfl⟩
     . have:=(AG.1 f).1;have:=h.len;omega
     grind
def RK.AKL {d:Nat->Nat} {l:List Nd} (b:RK d l c) {i:Nat} {z:Nd} (h:c[i]?=some y) (m:y.p≠i) (r:c[y.p]?=some z):RK d l (c.set i { y with p:=z.p}):=by
 have f:i < c.length:=(AG.1 h).1;intro j x w g a;by_cases e:i=j
 . subst e;rw [Bq f] at a;cases a;rcases b i x y g h with ⟨k,_⟩|⟨_,v,B,u,o,D⟩
   . grind
   . rcases b _ u z o r with ⟨k,s⟩|⟨_,_,t,E,q,n⟩
     . grind
     grind
 . rw [Bv e] at a;exact b j x w g a
def Rep.AKL {l c:List Nd} (h:Rep l c) {i:Nat} {y z:Nd} (g:c[i]?=some y) (f:y.p≠i) (n:c[y.p]?=some z):Rep l (c.set i { y with p:=z.p}):=by
 obtain ⟨d,m⟩:=h.rk;have b:i < c.length:=(AG.1 g).1;refine ⟨by simp [h.len],fun j x w k a=>?_,d,m.AKL g f n⟩;by_cases e:i=j
 . subst e;rw [Bq b] at a;cases a;exact h.sh i x y k g
 . rw [Bv e] at a;exact h.sh j x w k a
def Ji (a b:Nat) (l:List Nd):List Nd:=l.map fun x=>if x.p=a then { x with p:=b} else x
def MJ (a b:Nat) (l:List Nd):(Ji a b l).length=l.length:=by simp [Ji]
def nZ {l:List Nd} {i:Nat} (h:(Ji a b l)[i]?=some x):∃y,l[i]?=some y/\x.k=y.k/\x.n=y.n/\x.ar=y.ar/\x.p=if y.p=a then b else y.p:=by
 unfold Ji at h
 grind
theorem AWT {l:List Nd} {i:Nat} (h:l[i]?=some y):(Ji a b l)[i]?=some (if y.p=a then { y with p:=b} else y):=by
 unfold Ji;grind
def K0 {l:List Nd} {i:Nat} (h:l[i]?=some y):∃z,(Ji a b l)[i]?=some z/\z.k=y.k/\z.n=y.n/\z.ar=y.ar/\z.p=if y.p=a then b else y.p:=by
 grind [AWT]
theorem E8.uni {l:List Nd} (h:E8 l) (n:l[b]?=some x) (s:x.p=b) (m:a≠b):E8 (Ji a b l):=by
 refine ⟨fun i y g=>?_,fun i y g c o=>?_⟩
 . obtain ⟨z,k,_,_,_,d⟩:=nZ g;by_cases e:z.p=a
   . rw [if_pos e] at d;rw [d];obtain ⟨u,p,_,_,_,j⟩:=K0 (a:=a) (b:=b) n
     grind
   . rw [if_neg e] at d;rw [d];obtain ⟨w,q,r⟩:=h.p i z k;obtain ⟨u,p,_,_,_,j⟩:=K0 (a:=a) (b:=b) q
     grind
 . obtain ⟨z,k,_,_,f,_⟩:=nZ g;rw [MJ];exact h.ar i z k c (f ▸ o)
theorem Rep.uni {l:List Nd} (h:Rep l c) {xb:Nd} (B:l[a]?=some x) (G:x.p=a) (E:l[b]?=some xb) (K:xb.p=b) (D:a≠b) (t:c[a]?=some y):Rep (Ji a b l) (c.set a { y with p:=b}):=by
 obtain ⟨d,F⟩:=h.rk;have i:a < c.length:=(AG.1 t).1;refine ⟨by simp [h.len,MJ],fun j u w o f=>?_,fun j=>(if (l[j]?.map Nd.p)=some a then d j+d b+1 else d j),fun j u w o f=>?_⟩
 . obtain ⟨v,g,m,n,s,_⟩:=nZ o;rw [m,n,s];by_cases e:a=j
   . subst e;rw [Bq i] at f;cases f;exact h.sh a v y g t
   . rw [Bv e] at f;exact h.sh j v w g f
 . obtain ⟨v,g,_,_,_,r⟩:=nZ o;by_cases e:a=j
   . subst e;rw [Bq i] at f;cases f;rw [B] at g;cases g;rw [if_pos G] at r;right;obtain ⟨P,q,_,_,_,k⟩:=K0 (a:=a) (b:=b) E
     grind
   . rw [Bv e] at f;rcases F j v w g f with ⟨m,n⟩|⟨m,n,s,z,L,N⟩
     . grind
     . right;obtain ⟨P,q,_,_,_,k⟩:=K0 (a:=a) (b:=b) L
       grind
structure SN (A:X) (i:Nat) (l:List Nd) (fl:Bool) (rest:List I) (j:Nat):Prop where
 C:A.C i=some (ndV l j::.d (.bool fl)::rest)
 Gn:E8 l
 nd:l≠[]->j≠i/\∃c,Rep l c/\A.C j=some (ndC c)
structure Fr (A:X) (i:Nat) (l:List Nd) (j:Nat) (H:X) (l':List Nd) (j':Nat):Prop where
 C:∀k,k≠i->(l≠[]->k≠j)->A.C k≠none->H.C k=A.C k
 ii:A.C i≠none->H.C i≠none
 nw:l'≠[]->(l≠[]/\j'=j)\/A.C j'=none
 gt:H.gt=A.gt
 tok:∀t,A.tok t=true->H.tok t=true
 bt:∀k x,A.bt k=some x->H.bt k=some x
theorem Fr.refl (A:X) (i:Nat) (l:List Nd) (j:Nat):Fr A i l j A l j:=⟨fun _ _ _ _=>rfl,fun h=>h,fun h=>.inl ⟨h,rfl⟩,rfl,fun _ h=>h,fun _ _ h=>h⟩
theorem Fr.trans {A H σ'':X} {i j j' j'':Nat} {l l' l'':List Nd} (h:Fr A i l j H l' j') (k:Fr H i l' j' σ'' l'' j'') (r:A.C i≠none):Fr A i l j σ'' l'' j'':=by
 have s:∀x,x≠i->(l≠[]->x≠j)->A.C x≠none->(l'≠[]->x≠j'):=fun x g c f m e=>by
  rcases h.nw m with ⟨a,b⟩|a
  . exact c a (e.trans b)
  . rw [<- e] at a;exact f a
 refine ⟨fun x g c f=>?_,fun q=>k.ii (h.ii q),fun m=>?_,k.gt.trans h.gt,fun t u=>k.tok t (h.tok t u),fun y z v=>k.bt y z (h.bt y z v)⟩
 . have e:=h.C x g c f;rw [k.C x g (s x g c f) (by rw [e];exact f),e]
 . rcases k.nw m with ⟨a,rfl⟩|a
   . exact h.nw a
   . by_cases d:l≠[]/\j''=j
     . exact .inl d
     . right;cases o:A.C j'' with
       |none=>rfl
       |some cs=>
        exfalso;by_cases e:j''=i
        . subst e;exact h.ii r a
        . have:=h.C j'' e (fun n p=>d ⟨n,p⟩) (by rw [o];simp);rw [a,o] at this;cases this
def rtN (l:List Nd) (a:Nat):Nat:=((l[a]?).map Nd.p).getD l.length
theorem Iq {l:List Nd} {i:Nat} (h:l[i]?=some x):rtN l i=x.p:=by simp [rtN,h]
def L3 (l:List Nd) (k n:Int) (ar:List Nat):List Nd:=l++[⟨k,n,ar,l.length⟩]
theorem Hh (l:List Nd) (k n:Int) (ar:List Nat):(L3 l k n ar).length=l.length+1:=by simp [L3]
def xS {α:Type} {p q:α->Bool}:∀ {l:List α},(∀x∈l,q x=true->p x=true)->∀ {a:α},a∈l->p a=true->q a=false->l.countP q < l.countP p
 |x::l,h,a,b,d,f=>by
  rw [List.countP_cons,List.countP_cons];have g:l.countP q<=l.countP p:=List.countP_mono_left fun y c e=>h y (AZ _ c) e;rcases Ah.1 b with rfl|b
  . grind
  . have:=xS (fun y c=>h y (AZ _ c)) b d f
    grind
def rts (l:List Nd):Nat:=(Aj l.length).countP fun i=>decide (rtN l i=i)
def Oe (l:List Nd):rts l<=l.length:=by
 grind [WL,decide,rtN,Aj,rts]
def AWF {l:List Nd} (h:l[a]?=some x) (b:x.p=a):0 < rts l:=by
 unfold rts;rw [List.countP_pos_iff];exact ⟨a,Cr.2 (AG.1 h).1,by simp [Iq h,b]⟩
def AK7 {l:List Nd} {xb:Nd} (c:l[a]?=some x) (f:x.p=a) (o:l[b]?=some xb) (n:xb.p=b) (h:a≠b):rts (Ji a b l) < rts l:=by
 unfold rts;rw [MJ];refine xS (fun i j e=>?_) (a:=a) (Cr.2 (AG.1 c).1) (by simp [Iq c,f]) ?_
 . have k:=Cr.1 j;have m:l[i]?=some l[i]:=by grind
   obtain ⟨z,g,_,_,_,d⟩:=K0 (a:=a) (b:=b) m;simp only [decide_eq_true_eq] at e ⊢
   grind [Iq]
 . obtain ⟨z,g,_,_,_,d⟩:=K0 (a:=a) (b:=b) c;rw [Iq g,d,if_pos f]
   grind
abbrev SS:=List Nd×Bool
def K1:Nat->SS->Nat->Nat->SS
 |0,s,_,_=>s
 |k+1,s,a,b=>
  if rtN s.1 a=rtN s.1 b then s else
  match s.1[rtN s.1 a]?,s.1[rtN s.1 b]? with
  |some x,some y=>
   if x.k=0 then (Ji (rtN s.1 a) (rtN s.1 b) s.1,s.2)
                                   else if y.k=0 then (Ji (rtN s.1 b) (rtN s.1 a) s.1,s.2)
                                   else if x.k=y.k/\x.n=y.n/\x.ar.length=y.ar.length then (x.ar.zip y.ar).foldl (fun s p=>K1 k s p.1 p.2) (Ji (rtN s.1 a) (rtN s.1 b) s.1,s.2)
                                   else (s.1,true)
  |_,_=>(s.1,true)
def iD {α:Type} (f:SS->α->SS) (h:∀s x,(f s x).1.length=s.1.length):∀(l:List α) (s:SS),(l.foldl f s).1.length=s.1.length
 |[],s=>rfl
 |x::l,s=>by rw [BD,iD f h l,h]
def kB:∀(k:Nat) (s:SS) (a b:Nat),(K1 k s a b).1.length=s.1.length
 |0,s,a,b=>rfl
 |k+1,s,a,b=>by
  rw [K1];split
  . rfl
  . split
    . split
      . exact MJ _ _ _
      . split
        . exact MJ _ _ _
        . split
          . rw [iD (fun (s:SS) (x:Nat×Nat)=>K1 k s x.1 x.2) (fun s x=>kB k s x.1 x.2)];exact MJ _ _ _
          . rfl
    . rfl
def uni (s:SS) (a b:Nat):SS:=K1 s.1.length s a b
def AB1 (s:SS) (a b:Nat):(uni s a b).1.length=s.1.length:=kB _ _ _ _
mutual
def Eo (ar:List Nat):List Nd->Ty->Nat×List Nd
 |l,.mk k n us=>if k=4 then (ar.getD n.toNat 0,l) else let r:=Bi ar l us;(r.2.length,L3 r.2 k n r.1)
def Bi (ar:List Nat):List Nd->List Ty->List Nat×List Nd
 |l,[]=>([],l)
 |l,t::ts=>let r:=Eo ar l t;let q:=Bi ar r.2 ts;(r.1::q.1,q.2)
end
def E9 (l:List Nd):Nat->List Nd
 |0=>l
 |n+1=>L3 (E9 l n) 0 0 []
def LC (l:List Nd):∀n,(E9 l n).length=l.length+n
 |0=>rfl
 |n+1=>by rw [E9,Hh,LC l n];omega
mutual
def Vx (n:Nat):Ty->Bool
 | .mk k m us=>if k=4 then decide (0<=m/\m < (n:Int)) else ML n us
def ML (n:Nat):List Ty->Bool
 |[]=>true
 |t::ts=>Vx n t&&ML n ts
end
def Uw {n:Nat}:∀ {ts:List Ty},ML n ts=true->∀t∈ts,Vx n t=true
 |t::ts,h,u,a=>by
  rw [ML,AM] at h;rcases Ah.1 a with rfl|a
  . exact h.1
  . exact Uw h.2 u a
structure AaW (l m:List Nd) (c:Nat):Prop where
 le:l.length<=m.length
 hi:m.length<=l.length+c
mutual
def dU (ar:List Nat):∀(l:List Nd) (t:Ty),AaW l (Eo ar l t).2 t.size
 |l,.mk k n us=>by
  rw [Eo];split
  . exact ⟨AW _,by simp⟩
  . have h:=NG ar l us;refine ⟨?_,?_⟩
    . simp only [Hh];have:=h.le;omega
    . simp only [Hh,Ty.size];have:=h.hi;omega
def NG (ar:List Nat):∀(l:List Nd) (ts:List Ty),AaW l (Bi ar l ts).2 (Ty.AQ ts)
 |l,[]=>⟨AW _,by simp [Bi]⟩
 |l,t::ts=>by
  have a:=dU ar l t;have b:=NG ar (Eo ar l t).2 ts;simp only [Bi];exact ⟨Ai a.le b.le,by have:=a.hi;have:=b.hi;simp only [Ty.AQ];omega⟩
end
theorem If (ar:List Nat):∀(l:List Nd) (ts:List Ty),(Bi ar l ts).1.length=ts.length
 |l,[]=>rfl
 |l,t::ts=>by simp only [Bi,AT,If ar _ ts]
mutual
def rR {ar:List Nat}:∀ {l:List Nd} {t:Ty},Vx ar.length t=true->(∀a∈ar,a < l.length)->(Eo ar l t).1 < (Eo ar l t).2.length
 |l,.mk k n us,h,b=>by
  rw [Vx] at h;rw [Eo];split
  . simp_all
  . simp only [Hh];omega
def Yo {ar:List Nat}:∀ {l:List Nd} {ts:List Ty},ML ar.length ts=true->(∀a∈ar,a < l.length)->∀a∈(Bi ar l ts).1,a < (Bi ar l ts).2.length
 |l,[],h,d,a,c=>by simp [Bi] at c
 |l,t::ts,h,d,a,c=>by
  rw [ML,AM] at h;have g:=rR h.1 d;have f:=(dU ar l t).le;have e:=(NG ar (Eo ar l t).2 ts).le;simp only [Bi,Ah] at c ⊢;rcases c with rfl|c
  . omega
  . exact Yo h.2 (fun b i=>by grind) a c
end
def kY (ar:List Nat) (t:Ty):∀(ts:List Ty) (l:List Nd),Bi ar l (ts++[t])=((Bi ar l ts).1++[(Eo ar (Bi ar l ts).2 t).1],(Eo ar (Bi ar l ts).2 t).2)
 |[],l=>rfl
 |u::ts,l=>by
  rw [AU,Bi];simp only [kY ar t ts];simp only [Bi,AU]
def AE8 (l:List Nd) (j:Nat):(ndV l j).Bo=true/\(ndV l j).BS=true/\(ndV l j).cells=[ndV l j]/\(∀k,(ndV l j).Cp k=false)/\Vh (ndV l j)=some (.d (.int .i64 l.length)):=by
 cases l<;>exact ⟨rfl,rfl,rfl,fun _=>rfl,rfl⟩
theorem B9 (A:X) (i k:Nat):(A.CM i).C k=if k=i then none else A.C k:=rfl
def JU.nd {K:CV} {F:Fm} {L:Lm} {A:X} {d:Option Nat} {i j bytes:Nat} {l:List Nd} {fl:Bool} {rest:List I} {x:I} {k n:Int} {ar:List Nat} (h:SN A i l fl rest j)
 (B:x.rows=some [[.int .i64 k,.int .i64 n,.sl (ar.map Ba),.int .i64 (l.length:Int)]]) (E:l.length<=900000000) (y:∀a∈ar,a < l.length) (z:bytes<=10000)
 (v:∀j' V,V.C i=some (ndV l j::.d (.bool fl)::rest)->SN (V.AI i (.ms j' (l.length+1) 4 tkN::.d (.bool fl)::rest)) i (L3 l k n ar) fl rest j'->
   Fr A i l j (V.AI i (.ms j' (l.length+1) 4 tkN::.d (.bool fl)::rest)) (L3 l k n ar) j'->K (BW d (.ms j' (l.length+1) 4 tkN) F) L V):JU tkN 4 bytes (ndV l j) x d K F L A:=by
 have f:=h.C;have u:L3 l k n ar≠[]:=by simp [L3]
 have w:∀j',ndV (L3 l k n ar) j'= .ms j' (l.length+1) 4 tkN:=fun j'=>by rw [Ef u,Hh]
 by_cases m:l=[]
 . subst m;refine JU.mk (n:=0) (cs:=[]) (σ1:=A) rfl B (by simp) (by simp) (by simp) z (fun j' g=>?_);have b:j'≠i:=fun e=>by rw [e,f] at g;cases g
   refine v j' _ (by rw [AD,if_neg (A5 b)];exact f) ⟨by rw [AD,if_pos rfl,w],h.Gn.add k n ar y,fun _=>⟨b,_,Rep.nil.add k n ar,?_⟩⟩ ⟨fun D r _ t=>?_,fun _=>by simp [AD],fun _=>.inr g,rfl,fun _ h=>h,fun _ _ h=>h⟩
   . rw [AD,if_neg b,AD,if_pos rfl];simp [BL,ndC,Nd.row]
   . rw [AD,if_neg r,AD,if_neg (fun e=>t (by rw [e];exact g))]
 . obtain ⟨p,c,o,q⟩:=h.nd m;rw [Ef m];refine JU.mk (n:=l.length) (cs:=ndC c) (σ1:=A.CM j) (by simp [M6,q,Yr,o.len]) B (by simp) (by simp) (by simp;omega) z (fun j' g=>?_);have b:j'≠i:=fun e=>by rw [e,f] at g;cases g
   refine v j' _ (by rw [AD,if_neg (A5 b),B9,if_neg (A5 p)];exact f) ⟨by rw [AD,if_pos rfl,w],h.Gn.add k n ar y,fun _=>⟨b,_,o.add k n ar,?_⟩⟩ ⟨fun D r s t=>?_,fun _=>by simp [AD],fun _=>.inr g,rfl,fun _ h=>h,fun _ _ h=>h⟩
   . rw [AD,if_neg b,AD,if_pos rfl,AVX];simp [BL,ndC,Nd.row]
   . rw [AD,if_neg r,AD,if_neg (fun e=>t (by rw [e];exact g)),B9,if_neg (s m)]
def SNQ (A:X) (i:Nat) (l:List Nd) (rest:List I) (j:Nat) (s:SS) (v0:I) (v:I) (H:X):Prop:=v=v0/\∃j',SN H i s.1 s.2 rest j'/\Fr A i l j H s.1 j'
def nA (n:Nat):I:= .d (.int .i64 (n:Int))
structure DG (v:I) (rows:List (List DV)):Prop where
 dv:v.dv=some (.sl rows)
 cell:v.Bo=true
 BS:v.BS=true
 cells:v.cells=[v]
 Cp:∀k,v.Cp k=false
def DG.d (rows:List (List DV)):DG (.d (.sl rows)) rows:=⟨rfl,rfl,rfl,rfl,fun _=>rfl⟩
def DG.Ac:DG .Ac []:=⟨rfl,rfl,rfl,rfl,fun _=>rfl⟩
def KT (i j:Nat) (l:List Nd) (fl:Bool) (rest:List I) (A:X) (k n:Int) (v:I) (ar:List Nat) (h:SN A i l fl rest j) (b:DG v (ar.map Ba)) (q:∀a∈ar,a < l.length) (r:l.length<=900000000):
 AS Tzp 169 [.gp i 0,.agg [.d (.int .i64 k),.d (.int .i64 n),v]] A (SNQ A i l rest j (L3 l k n ar,fl) (nA l.length)):=by
 have c:=h.C;obtain ⟨d,c2,e,f,g⟩:=AE8 l j;refine Z0.go ?_;(repeat' refine wP ?_<;>simp only [c,d,g,b.dv,b.cell,go_sem]);refine JU.nd h rfl r q (by omega) (fun j' V m o p=>?_);simp only [m,go_sem];(repeat' refine wP ?_<;>simp only [go_sem]);exact ⟨rfl,j',o,p⟩
def Fv (i j:Nat) (l:List Nd) (fl:Bool) (rest:List I) (A:X) (h:SN A i l fl rest j) (c:l.length<=900000000):
 AS Tzp 120 [.gp i 0] A (SNQ A i l rest j (L3 l 0 0 [],fl) (nA l.length)):=by
 refine Wy.go ?_;(repeat' refine wP ?_<;>simp only [go_sem]);refine AN.mk rfl (KT i j l fl rest A 0 0 .Ac [] h DG.Ac (by simp) c) ?_;rintro _ H ⟨rfl,j',a,b⟩;simp only [nA];simp only [go_sem];(repeat' refine wP ?_<;>simp only [go_sem]);exact ⟨rfl,j',a,b⟩
def CH (i j:Nat) (l:List Nd) (fl:Bool) (rest:List I) (A:X) (k:Int) (v:I) (ar:List Nat) (h:SN A i l fl rest j) (b:DG v (ar.map Ba)) (e:∀a∈ar,a < l.length) (f:l.length<=900000000):
 AS Tzp 172 [.gp i 0,.d (.int .i64 k),v] A (SNQ A i l rest j (L3 l k 0 ar,fl) (nA l.length)):=by
 refine YF.go ?_;(repeat' refine wP ?_<;>simp only [b.cell,b.cells,go_sem]);refine AN.mk (by simp [I.BS]) (KT i j l fl rest A k 0 v ar h b e f) ?_;rintro _ H ⟨rfl,j',c,d⟩;simp only [nA];simp only [go_sem];(repeat' refine wP ?_<;>simp only [go_sem]);exact ⟨rfl,j',c,d⟩
def ltT (h:a < b):((a:Int) < (b:Int))=True:=by simp [h]
def AJJ (h:c[n]?=some y) (p:Nat):(ndC c).take (n * 4+3)++[.d (.int .i64 (p:Int))]++(ndC c).drop (n * 4+3+1)=ndC (c.set n { y with p:=p}):=by
 induction c generalizing n with
 |nil=>simp at h
 |cons x c a=>
  cases n with
  |zero=>
   simp only [A7,AP] at h;subst h;rfl
  |succ n=>
   have:=a (n:=n) (by simpa using h);simp only [C7];rw [show ndC (x::c)=x.row++ndC c from by simp [ndC],show ndC (x::c.set n { y with p:=p})=x.row++ndC (c.set n { y with p:=p}) from by simp [ndC],<- this,show (n+1) * 4+3=x.row.length+(n * 4+3) from by simp [Nd.row];omega];rw [Zr,show x.row.length+(n * 4+3)+1=x.row.length+(n * 4+3+1) from by omega,HM];simp
def Gt (i j:Nat) (l:List Nd) (fl:Bool) (rest:List I) (A:X) (n:Nat) (h:SN A i l fl rest j) (hn:n < l.length) (hl:l.length<=900000000):
 AS Tzp 125 [.gp i 0,nA n] A (SNQ A i l rest j (l,fl) (nA (rtN l n))):=by
 have q:l≠[]:=fun e=>by rw [e] at hn;cases hn
 refine YE.go ?_;rw [B4];simp only [nA];(repeat' refine wQ ?_<;>simp only [go_sem]);refine W.PL ?_;obtain ⟨K,c0,v,S⟩:=h.nd q;obtain ⟨d0,h4⟩:=v.rk
 refine W.SB ((fun (a0:I)=>fun (y:Nat×List Nd×X×(Nat->Nat))=>put 0 a0 (put 1 (A1 y.1) U)) _) (fun _=>E) (fun y=>y.2.2.1)
  (fun y=>y.1 < l.length/\rtN l y.1=rtN l n/\Rep l y.2.1/\y.2.2.1.C j=some (ndC y.2.1)/\y.2.2.1.C i=A.C i/\(∀k,k≠i->k≠j->y.2.2.1.C k=A.C k)/\y.2.2.1.gt=A.gt/\y.2.2.1.tok=A.tok/\y.2.2.1.bt=A.bt/\
    RK y.2.2.2 l y.2.1)
  (fun y=>y.2.2.2 y.1) ?_ (n,c0,A,d0) ⟨hn,rfl,v,S,rfl,fun _ _ _=>rfl,rfl,rfl,rfl,h4⟩
 rintro ⟨m,c,V,d⟩ ⟨L,P,a,B,b,s,G,w,F,Q⟩ ih;simp only at L P a B b s G w F Q;rw [h.C,Ef q] at b;obtain ⟨y,Z,hf⟩:=a.at (show l[m]?=some l[m] by simp [L]);obtain ⟨y1,y2,y3,y4⟩:=TR Z;have T:=ltT L;have f:=Q m _ y (show l[m]?=some l[m] by simp [L]) Z;by_cases g:y.p=m
 . have hb:((y.p:Int) != (m:Int))=false:=by simp [g]
   (repeat' refine wP ?_<;>simp only [b,B,y4,T,hb,go_sem])
   have hr:rtN l n=m:=by
    rw [<- P,Iq (show l[m]?=some l[m] by simp [L])];rcases f with o|o
    . exact o.2
    . exact absurd g o.1
   refine ⟨by rw [hr],j,⟨by rw [b,Ef q],h.Gn,fun _=>⟨K,c,a,B⟩⟩,⟨fun k hk D _=>s k hk (D q),fun _=>by rw [b];simp,fun _=>.inl ⟨q,rfl⟩,G,fun t ht=>by rw [w];exact ht,fun k x hx=>by rw [F];exact hx⟩⟩
 . have hb:((y.p:Int) != (m:Int))=true:=by simpa using fun e=>g (by omega)
   obtain ⟨z0,r,h0⟩:=(f.resolve_left (fun o=>g o.1)).2.2.2;obtain ⟨z,R,_⟩:=a.at r;have Y:y.p < l.length:=(AG.1 r).1;obtain ⟨_,_,_,z4⟩:=TR R;have h6:=ltT Y;have h7:m < c.length:=by rw [a.len];exact L
   have N:=a.AKL Z g R;have he:(c.set m { y with p:=z.p})[m]?=some { y with p:=z.p}:=by simp [h7]
   obtain ⟨_,_,_,w4⟩:=TR he;have h8:∀cs,(V.AI j cs).C i=some (I.ms j l.length 4 tkN::I.d (DV.bool fl)::rest):=fun cs=>by rw [AD,if_neg (A5 K),b]
   have h9:∀cs,(V.AI j cs).C j=some cs:=fun cs=>BB;have h5:(m * 4+3+1<=(ndC c).length)=True:=by rw [Yr,a.len];simp;omega
   have ha:=AJJ Z z.p;(repeat' refine wQ ?_<;>simp only [b,B,y4,T,hb,h6,z4,h8,h9,w4,h5,ha,go_sem]);refine ih ⟨z.p,c.set m { y with p:=z.p},V.AI j (ndC (c.set m { y with p:=z.p})),d⟩ ⟨?_,?_,N,BB,by rw [AD,if_neg (A5 K),b,h.C,Ef q],fun k hk D=>by rw [AD,if_neg D,s k hk D],G,w,F,Q.AKL Z g R⟩ ?_
   . rcases Q _ z0 z r R with ⟨o,_⟩|⟨_,_,_,u,hu,_⟩
     . simp only;rw [o];exact Y
     . exact (AG.1 hu).1
   . simp only;rw [<- P,Iq (show l[m]?=some l[m] by simp [L])];rcases Q _ z0 z r R with ⟨o,h2⟩|⟨_,_,_,u,hu,hc⟩
     . rw [o,Iq r,h0]
     . rw [Iq hu,hc,h0]
   . simp only;have o:=(f.resolve_left (fun o=>g o.1)).2.2.1;rcases Q _ z0 z r R with ⟨h2,_⟩|⟨_,_,h3,_⟩
     . rw [h2];exact o
     . omega
def UNQ (A:X) (i:Nat) (l:List Nd) (rest:List I) (j:Nat) (s:SS) (H:X):Prop:=(∃j',SN H i s.1 s.2 rest j'/\Fr A i l j H s.1 j')/\rts s.1<=rts l
def E8.root {l:List Nd} (h:E8 l) (c:a < l.length):∃x,l[rtN l a]?=some x/\x.p=rtN l a:=by
 have b:l[a]?=some l[a]:=by simp [c]
 obtain ⟨z,e,d⟩:=h.p a _ b;rw [Iq b];exact ⟨z,e,d⟩
def AIL:∀ {l:List Nd} {i:Nat} {x:Nd},l[i]?=some x->((ndC l).drop (i * 4)).take 3=[.d (.int .i64 x.k),.d (.int .i64 x.n),.d (.sl (x.ar.map Ba))]
 |y::l,0,x,h=>by
  simp only [A7,AP] at h;subst h;rfl
 |y::l,i+1,x,h=>by
  have:=AIL (l:=l) (i:=i) (x:=x) (by simpa using h);rw [show ndC (y::l)=y.row++ndC l from by simp [ndC],show (i+1) * 4=y.row.length+i * 4 from by simp [Nd.row];omega,HM];exact this
def AR4 {l:List Nd} {i:Nat} (h:l[i]?=some x):(i * 4+3<=(ndC l).length)=True:=by
 have:=(AG.1 h).1;rw [Yr];simp;omega
theorem SN.uni {A:X} {i j a b:Nat} {l c:List Nd} {fl:Bool} {rest:List I} {x y xc:Nd} (h:SN A i l fl rest j) (m:Rep l c) (t:A.C j=some (ndC c)) (f:j≠i) (o:l[a]?=some x) (r:x.p=a) (s:l[b]?=some y) (hyp:y.p=b) (g:a≠b) (q:c[a]?=some xc):
 SN (A.AI j (ndC (c.set a { xc with p:=b}))) i (Ji a b l) fl rest j/\Fr A i l j (A.AI j (ndC (c.set a { xc with p:=b}))) (Ji a b l) j:=by
 have d:l≠[]:=fun e=>by rw [e] at o;simp at o
 have n:Ji a b l≠[]:=fun e=>d (Ay (by rw [<- MJ a b l,e];rfl));refine ⟨⟨?_,h.Gn.uni s hyp g,fun _=>⟨f,_,m.uni o r s hyp g q,BB⟩⟩,⟨fun k _ u _=>by rw [AD,if_neg (u d)],fun v=>by rw [AD,if_neg (A5 f)];exact v,fun _=>.inl ⟨d,rfl⟩,rfl,fun _ h=>h,fun _ _ h=>h⟩⟩;rw [AD,if_neg (A5 f),h.C,Ef d,Ef n,MJ]
def SN.fail {i:Nat} {l:List Nd} {fl:Bool} {rest:List I} (h:SN A i l fl rest j):
 SN (A.AI i (ndV l j::.d (.bool true)::rest)) i l true rest j/\Fr A i l j (A.AI i (ndV l j::.d (.bool true)::rest)) l j:=by
 refine ⟨⟨BB,h.Gn,fun b=>?_⟩,⟨fun k e _ _=>by rw [AD,if_neg e],fun _=>by simp [AD],fun b=>.inl ⟨b,rfl⟩,rfl,fun _ h=>h,fun _ _ h=>h⟩⟩;obtain ⟨a,c,f,d⟩:=h.nd b;exact ⟨a,c,f,by rw [AD,if_neg a];exact d⟩
def C9 (i:Nat) (rest:List I):∀(k:Nat) (l:List Nd) (fl:Bool) (j a b:Nat) (A:X),rts l<=k->SN A i l fl rest j->a < l.length->b < l.length->l.length<=900000000->
 AS Tzp 123 [.gp i 0,nA a,nA b] A (fun _ H=>UNQ A i l rest j (K1 k (l,fl) a b) H):=by
 intro k
 induction k with
 |zero=>
  intro l fl j a b A hk h ha t hl;obtain ⟨x,D,hp⟩:=h.Gn.root ha;have:=AWF D hp;omega
 |succ k ihk=>
 intro l fl j a b A hk h ha t hl;have Y:l≠[]:=fun e=>by rw [e] at ha;cases ha
 have d:A.C i≠none:=by rw [h.C];simp
 obtain ⟨x,D,G⟩:=h.Gn.root ha;obtain ⟨y,R,hyp⟩:=h.Gn.root t;generalize h0:rtN l a=ra at D G;generalize h5:rtN l b=rb at R hyp;generalize o:UNQ A i l rest j (K1 (k+1) (l,fl) a b)=Q;refine XA (by simp) ?_;rw [DN];simp only [nA];(repeat' (refine sP ?_<;>try simp only [go_sem]));refine AN.mk rfl (Gt i j l fl rest A a h ha hl) ?_;rintro _ σ1 ⟨rfl,j1,h1,f1⟩;simp only [nA,h0];simp only [go_sem];refine AN.mk rfl (Gt i j1 l fl rest σ1 b h1 t hl) ?_;rintro _ σ2 ⟨rfl,j2,h2,f2⟩;simp only [nA,h5];have f12:=f1.trans f2 d;clear f1 f2 h1;simp only [go_sem];by_cases m:ra=rb
 . subst m;(repeat' (refine sP ?_<;>try simp only [beq_self_eq_true,go_sem]));rw [<- o,K1,h0,h5,if_pos rfl];exact ⟨⟨j2,h2,f12⟩,AW _⟩
 . have ht:((ra:Int)==(rb:Int))=false:=by simpa using fun e=>m (by omega)
   (repeat' (refine sP ?_<;>try simp only [ht,go_sem]));obtain ⟨h9,c,n,f⟩:=h2.nd Y;have g:=h2.C;rw [Ef Y] at g;obtain ⟨xc,F,xk,xn,xa⟩:=n.at D;obtain ⟨yc,K,yk,yn,ya⟩:=n.at R;have ho:=AIL F;have hr:=AIL K;have cs:=AR4 F;have hyl:=AR4 K;rw [xk,xn,xa] at ho;rw [yk,yn,ya] at hr;have Z:=ltT (AG.1 D).1;have hc:=ltT (AG.1 R).1;refine W.Gs mixed ?_;simp only [g,f,ho,hr,cs,hyl,Z,hc,go_sem];have hq:=AJJ F rb;have hyw:=AJJ K ra;have hn:(ra * 4+3+1<=(ndC c).length)=True:=by have:=(AG.1 F).1;rw [Yr];simp;omega
   have hys:(rb * 4+3+1<=(ndC c).length)=True:=by have:=(AG.1 K).1;rw [Yr];simp;omega
   obtain ⟨hg,hi⟩:=h2.uni n f h9 D G R hyp m F;obtain ⟨fs,ds⟩:=h2.uni n f h9 R hyp D G (A5 m) K;obtain ⟨h7,h8⟩:=h2.fail;rw [Ef Y] at h7 h8;have he:=AK7 D G R hyp m;have al:=AK7 R hyp D G (A5 m);rw [K1] at o;simp only [h0,h5,if_neg m,D,R] at o;by_cases P:x.k=0
   . have t:(x.k==0)=true:=by simpa using P
     rw [if_pos P] at o;(repeat' (refine sP ?_<;>try simp only [t,g,f,Z,hn,hq,go_sem]));rw [<- o];exact ⟨⟨j2,hg,f12.trans hi d⟩,Nat.le_of_lt he⟩
   have t:(x.k==0)=false:=by simpa using P
   rw [if_neg P] at o;by_cases S:y.k=0
   . have r:(y.k==0)=true:=by simpa using S
     rw [if_pos S] at o;(repeat' (refine wP ?_<;>try simp only [t,r,g,f,hc,hys,hyw,go_sem]));rw [<- o];exact ⟨⟨j2,fs,f12.trans ds d⟩,Nat.le_of_lt al⟩
   have r:(y.k==0)=false:=by simpa using S
   rw [if_neg S] at o;by_cases h6:x.k=y.k/\x.n=y.n/\x.ar.length=y.ar.length
   . obtain ⟨e1,e2,e3⟩:=h6;have b1:(x.k != y.k)=false:=by simpa using e1
     have b2:(x.n != y.n)=false:=by simpa using e2
     have b3:((x.ar.length:Int) != (y.ar.length:Int))=false:=by simp [e3]
     rw [if_pos ⟨e1,e2,e3⟩] at o;(repeat' (refine wP ?_<;>try simp only [t,r,b1,b2,b3,g,f,Z,hn,hq,AA,go_sem]));refine W.cell 6 2 rfl rfl (fun nm=>?_);simp only [I.Ep,AA] at nm;refine W.PL ?_;have hzl:(x.ar.zip y.ar).length=x.ar.length:=by simp [<- e3]
     have B:∀p,(((x.ar.zip y.ar).take p).foldl (fun s q=>K1 k s q.1 q.2) (Ji ra rb l,fl)).1.length=l.length:=fun p=>by
      rw [iD (fun (s:SS) (x:Nat×Nat)=>K1 k s x.1 x.2) (fun s x=>kB k s x.1 x.2)];exact MJ _ _ _
     refine W.SB ((fun (a0:I) (a6:I) (a7:I) (hs:I)=>fun (z:Nat×X)=>put 0 a0 (put 6 a6 (put 7 a7 (put 93 hs (put 94 (.d (.int .i64 z.1)) U))))) _ _ _ _) (fun _=>CN 6 [.d (.int .i64 x.k),.d (.int .i64 x.n),.d (.sl (x.ar.map Ba))] (CN 7 [.d (.int .i64 y.k),.d (.int .i64 y.n),.d (.sl (y.ar.map Ba))] E)) (fun z=>z.2)
      (fun z=>z.1<=x.ar.length/\UNQ A i l rest j (((x.ar.zip y.ar).take z.1).foldl (fun s q=>K1 k s q.1 q.2) (Ji ra rb l,fl)) z.2/\rts (((x.ar.zip y.ar).take z.1).foldl (fun s q=>K1 k s q.1 q.2) (Ji ra rb l,fl)).1<=k)
      (fun z=>x.ar.length - z.1) ?_ (0,_) ⟨by simp,⟨⟨j2,hg,f12.trans hi d⟩,Nat.le_of_lt he⟩,by simp only [CD,List.foldl_nil];omega⟩
     rintro ⟨p,V⟩ ⟨hp,N,T⟩ ih;simp only at hp N T;by_cases L:p < x.ar.length
     . obtain ⟨u,hu⟩:=Ak L;obtain ⟨v,hv⟩:=Ak (show p < y.ar.length by omega);have hj:=Au (J:=Ba) hu;have hm:=Au (J:=Ba) hv;have us:IntKind.i64.wrap ((p:Int)+1)=((p+1:Nat):Int):=by rw [B2 (by omega) (by omega)];omega
       have sc:=h.Gn.ar _ _ D u (AE hu);have vs:=h.Gn.ar _ _ R v (AE hv);simp only [Ba] at hj hm;obtain ⟨⟨j3,h3,f3⟩,ns⟩:=N;(repeat' (refine sQ ?_<;>try simp only [BI L,hj,hm,go_sem]));refine AN.mk rfl (ihk _ _ j3 u v V T h3 (by rw [B];exact sc) (by rw [B];exact vs) (by rw [B];exact hl)) ?_;rintro v' σ3 ⟨⟨j4,h4,f4⟩,hd⟩;simp only [go_sem];(repeat' (refine sQ ?_<;>try simp only [us,go_sem]));have hz:(x.ar.zip y.ar)[p]?=some (u,v):=by rw [List.getElem?_zip_eq_some];exact ⟨hu,hv⟩
       have hf:=Aa hz;refine ih (p+1,σ3) ⟨L,?_,?_⟩ (by simp only;omega)
       . simp only [hf,Cv,BD,List.foldl_nil];exact ⟨⟨j4,h4,f3.trans f4 d⟩,Ai hd ns⟩
       . simp only [hf,Cv,BD,List.foldl_nil];exact Ai hd T
     . have ks:p=x.ar.length:=by omega
       subst ks;(repeat' (refine wP ?_<;>try simp only [B5 L,go_sem]));rw [AR (by omega),o] at N;exact W.fin Wo rfl (fun _ _ h=>h) (X.le_refl _) N
   . rw [if_neg h6] at o;have w:Q (σ2.AI i (.ms j2 l.length 4 tkN::.d (.bool true)::rest)):=by rw [<- o];exact ⟨⟨j2,h7,f12.trans h8 d⟩,AW _⟩
     by_cases e1:x.k=y.k
     . have b1:(x.k != y.k)=false:=by simpa using e1
       by_cases e2:x.n=y.n
       . have b2:(x.n != y.n)=false:=by simpa using e2
         have b3:((x.ar.length:Int) != (y.ar.length:Int))=true:=by simpa using fun e=>h6 ⟨e1,e2,by omega⟩
         (repeat' (refine wP ?_<;>try simp only [t,r,b1,b2,b3,g,AA,go_sem]));exact w
       . have b2:(x.n != y.n)=true:=by simpa using e2
         (repeat' (refine wP ?_<;>try simp only [t,r,b1,b2,g,go_sem]));exact w
     . have b1:(x.k != y.k)=true:=by simpa using e1
       (repeat' (refine wP ?_<;>try simp only [t,r,b1,g,go_sem]));exact w
def tkA:I->Option Nat
 | .own t _ _ _=>some t
 |_=>none
def kE (v w:I):Prop:=∀t,tkA v=some t->tkA w≠some t
def kE.symm {w:I} (h:kE v w):kE w v:=fun t a b=>h t b a
def oQ (w:I):kE .Ac w:=fun t h=>by cases h
theorem Bn.Ee {O:X} {s:Nat} {rows:List (List DV)} {w:I} (h:Bn O e s rows w A) (a:O.le H) (q:∀t,tkA w=some t->A.tok t=true->H.tok t=true):Bn O e s rows w H:=by
 obtain ⟨⟨σ1,b,p⟩,_,g,i,j,k,l,m,n⟩:=h;refine ⟨?_,a,g,i,j,k,l,m,n⟩;unfold MT at b ⊢;split at b
 . cases b;exact ⟨H,rfl,a⟩
 . rename_i t x y d;split at b
   . rename_i o;cases b;obtain ⟨r,u,v⟩:=o;refine ⟨H.Bh t,by rw [if_pos ⟨r,u,q t rfl v⟩],⟨a.C,fun t' f=>?_,a.gt,a.bt⟩⟩
     have c:t'≠t:=fun e=>by
      have:=p.tok t' f;simp [X.Bh,e] at this
     simp [X.Bh,c,a.tok t' f]
   . cases b
 . cases b
def DH.AZL {cx:Cx} {K:Fm->Lm->X->Prop} {F:Fm} {L:Lm} {A O:X} {d:Option Nat} {e size bytes:Nat} {s x:I} {rows srows:List (List DV)} (o:Bn O e size rows s A) (l:x.rows=some srows)
 (z:∀r∈srows,r.length=size) (E:rows.length+srows.length<=1000000000) (G:bytes<=10000)
 (h:∀v H,Bn O e size (rows++srows) v H->(∀i,H.C i=A.C i)->(∀k q b w,Bn O k q b w A->kE s w->Bn O k q b w H/\kE v w)->K (BW d v F) L H):DH e size bytes s x d K F L A:=by
 obtain ⟨σ1,a,B⟩:=o.app
 have c:∀i,σ1.C i=A.C i:=fun i=>by
  unfold MT at a;split at a
  . cases a;rfl
  . split at a
    . cases a;rfl
    . cases a
  . cases a
 have j:∀t,tkA s≠some t->A.tok t=true->σ1.tok t=true:=fun t n g=>by
  unfold MT at a;split at a
  . cases a;exact g
  . rename_i ts Q R p;split at a
    . cases a;have:t≠ts:=fun e=>n (by rw [e];rfl);simp [X.Bh,this,g]
    . cases a
  . cases a
 refine DH.mk a l z (by simp only [maxLen];omega) ?_ (fun t g=>h _ _ (Bn.own B o.le g) (fun i=>by rw [Pw];exact c i) (fun k q b w D m=>?_))
 . calc (rows.length+srows.length) * bytes<=1000000000 * 10000:=Tm E G
    _<=140737488355328:=by decide
 . have P:∀t',tkA w=some t'->A.tok t'=true:=fun t' u=>by
    obtain ⟨_,N,_⟩:=D.app;cases w<;>simp only [tkA] at u<;>try cases u
    grind [MT]
   have f:=Bn.own (e:=e) (s:=size) (rows:=rows++srows) B o.le g;refine ⟨D.Ee f.le (fun t' y l=>?_),fun t' y z=>?_⟩
   . have:=j t' (fun e=>m t' e y) l;simp [X.BV,this]
   grind [tkA,AP]
def nbH (A:X):X:= { A with C:=fun _=>none}
def Fr.nb2 {i:Nat} {l:List Nd} (h:Fr V i l j τ' l' j') (a:(nbH A).le V):(nbH A).le τ':=
 ⟨fun _ _ h=>(by cases h),fun t b=>h.tok t (a.tok t b),a.gt.trans h.gt.symm,fun i x c=>h.bt i x (a.bt i x c)⟩
def IW (A:X):(nbH A).le A:=⟨fun _ _ h=>(by cases h),fun _ h=>h,rfl,fun _ _ h=>h⟩
def Bn.fr {O:X} {i s:Nat} {l:List Nd} {rows:List (List DV)} (a:Bn (nbH O) e s rows v V) (h:Fr V i l j τ' l' j'):Bn (nbH O) e s rows v τ':=
 a.Ee (h.nb2 a.le) (fun t _ b=>h.tok t b)
def Fr.own {σ'':X} {i:Nat} {l:List Nd} (h:Fr A i l j H l' j') (c:∀k,σ''.C k=H.C k) (b:(nbH A).le σ''):Fr A i l j σ'' l' j':=
 ⟨fun k a d e=>by rw [c];exact h.C k a d e,fun a=>by rw [c];exact h.ii a,h.nw,b.gt.symm,fun t f=>b.tok t f,fun k x g=>b.bt k x g⟩
def SN.own {i:Nat} {l:List Nd} {fl:Bool} {rest:List I} (h:SN A i l fl rest j) (e:∀k,H.C k=A.C k):SN H i l fl rest j:=
 ⟨by rw [e];exact h.C,h.Gn,fun f=>by obtain ⟨a,c,b,d⟩:=h.nd f;grind⟩
def ANU (e s:Nat):Bn (nbH A) e s [] .Ac A:=⟨⟨A,rfl,IW A⟩,IW A,rfl,rfl,rfl,rfl,fun _=>rfl,rfl,rfl⟩
def H5 {l:List Nat} {i:Nat} (h:l[i]?=some a):(l.map Ba)[i]?=some [.int .i64 (a:Int)]:=by rw [Az,h];rfl
theorem Bn.row {O:X} {rows:List (List DV)} (h:Bn O e 1 rows v A):DG v rows:=⟨h.dv,h.cell,h.BS,h.cells,h.Cp⟩
def AJO (i:Nat) (rest:List I) (ar:List Nat) (t:Ty):Prop:=∀(l:List Nd) (fl:Bool) (j:Nat) (A:X),(∀a∈ar,a < l.length)->l.length+t.size<=900000000->SN A i l fl rest j->
 AS Tzp 209 [.gp i 0,tyA t,.d (.sl (ar.map Ba))] A (SNQ A i l rest j ((Eo ar l t).2,fl) (nA (Eo ar l t).1))
def Ty.EJ {t:Ty}:∀ {ts:List Ty},t∈ts->t.size<=Ty.AQ ts
 |u::ts,h=>by
  simp only [Ty.AQ];rcases Ah.1 h with rfl|h
  . omega
  . have:=Ty.EJ h;omega
theorem Ty.LO (ts us:List Ty):Ty.AQ (ts++us)=Ty.AQ ts+Ty.AQ us:=by
 induction ts with
 |nil=>simp [Ty.AQ]
 |cons t ts a=>grind [Ty.AQ]
def Ty.CL:∀ts:List Ty,ts.length<=Ty.AQ ts
 |[]=>AW _
 |t::ts=>by have:=Ty.CL ts;have:=bU t;simp only [AT,Ty.AQ];omega
def Jh (i:Nat) (rest:List I) (ar:List Nat) (ts:List Ty) (K:∀t∈ts,AJO i rest ar t) (l:List Nd) (fl:Bool) (j:Nat) (A:X) (L:∀a∈ar,a < l.length) (hl:l.length+Ty.AQ ts<=900000000) (h:SN A i l fl rest j):
 AS Tzp 208 [.gp i 0,.d (.sl (ts.map Ty.J)),.d (.sl (ar.map Ba))] A (fun v H=>Bn (nbH A) 3 1 ((Bi ar l ts).1.map Ba) v H/\∃j',SN H i (Bi ar l ts).2 fl rest j'/\Fr A i l j H (Bi ar l ts).2 j'):=by
 have f:A.C i≠none:=by rw [h.C];simp
 have T:=Ty.CL ts;refine Rm.go ?_;(repeat' refine wQ ?_<;>simp only [AA,go_sem])
 refine lpK (fun (z:Nat×I×X)=>[(12,A1 z.1),(7,z.2.1)]) (fun z=>z.2.2)
  (fun z=>z.1<=ts.length/\Bn (nbH A) 3 1 ((Bi ar l (ts.take z.1)).1.map Ba) z.2.1 z.2.2/\∃j',SN z.2.2 i (Bi ar l (ts.take z.1)).2 fl rest j'/\Fr A i l j z.2.2 (Bi ar l (ts.take z.1)).2 j')
  (fun z=>ts.length - z.1) ?_ (0,.Ac,A) ⟨by simp,by simpa [Bi] using ANU 3 1,j,by simpa [Bi] using h,by simpa [Bi] using Fr.refl A i l j⟩
 rintro ⟨p,v,V⟩ ⟨Q,m,j',x,s⟩ U;simp only at Q m x s;by_cases c:p < ts.length
 . obtain ⟨t,o⟩:=Ak c;have F:=Au (J:=Ty.J) o;have y:=wS p;have g:=NG ar l (ts.take p)
   have S:Ty.AQ (ts.take p)+t.size<=Ty.AQ ts:=by
    have D:Ty.AQ (ts.take p++[t])<=Ty.AQ ts:=by
     rw [<- Aa o]
     conv=>rhs;rw [<- Am (p+1) ts,Ty.LO]
     omega
    rw [Ty.LO] at D;simpa [Ty.AQ] using D
   have E:=K t (AE o) _ fl j' V (fun a P=>by have:=L a P;have:=g.le;omega) (by have:=g.hi;omega) x;have d:=kY ar t (ts.take p) l;rw [<- Aa o] at d;generalize N:(Bi ar l (ts.take p))=q at *;have w:q.1.length=p:=by grind [If]
   generalize R:Eo ar q.2 t=r at *;obtain ⟨k,n,us⟩:=t;simp only [Ty.J,tyA,AB,AJ] at F E;(repeat' refine sQ ?_<;>simp only [BI c,F,m.w4,go_sem]);refine AN.mk rfl E ?_;rintro _ h0 ⟨rfl,Y,G,f1⟩;simp only [nA];simp only [go_sem];refine DH.own (m.fr f1) rfl (by simp) (by simp [w];omega) (by omega) (fun Z B b e=>?_);(repeat' refine sQ ?_<;>simp only [y,go_sem]);refine U ⟨p+1,Z,B⟩ ⟨c,?_,Y,?_,?_⟩ (by simp only;omega)
   . simp only [d];rw [A4];exact b
   . simp only [d];exact G.own e
   . simp only [d];exact (s.trans f1 f).own e b.le
 . have u:p=ts.length:=by omega
   subst u;rw [Ar] at m x s;(repeat' refine wR ?_<;>simp only [B5 c,m.w4,go_sem])
   grind
def H7 (i:Nat) (rest:List I) (ar:List Nat):∀(N:Nat) (t:Ty),t.size<=N->Vx ar.length t=true->AJO i rest ar t:=by
 intro N
 induction N with
 |zero=>intro t h;have:=bU t;omega
 |succ N q=>
 rintro ⟨k,n,us⟩ g a l fl j A r y h;simp only [Ty.size] at g y;refine TK.go ?_;rw [DN];rw [Vx] at a;rw [Eo];by_cases d:k=4
 . subst d;rw [if_pos rfl] at a ⊢;simp only [decide_eq_true_eq] at a;obtain ⟨m,rfl⟩:=E0 a.1;obtain ⟨u,c⟩:=Ak (show m < ar.length by omega);have o:=H5 c;(repeat' refine wP ?_<;>simp only [o,beq_self_eq_true,go_sem]);exact ⟨by simp [nA,c],j,h,Fr.refl A i l j⟩
 . have b:A.C i≠none:=by rw [h.C];simp
   have x:(k==4)=false:=by simpa using d
   rw [if_neg d] at a ⊢;(repeat' refine wP ?_<;>simp only [x,go_sem]);rw [Ty.BQ];have p:=Uw a;refine AN.mk rfl (Jh i rest ar us (fun u c=>q u (by have:=Ty.EJ c;omega) (p u c)) l fl j A r (by omega) h) ?_;rintro v σ1 ⟨f,z,s,f1⟩;simp only [f.w4,go_sem];have e:=NG ar l us;refine AN.mk (by simp [I.BS]) (KT i z _ fl rest σ1 k n _ _ s f.row (Yo a r) (by have:=e.hi;omega)) ?_;rintro _ σ2 ⟨rfl,B,w,f2⟩;simp only [nA];simp only [go_sem];(repeat' refine wP ?_<;>simp only [go_sem]);exact ⟨rfl,B,w,f1.trans f2 b⟩
def DI (ts:List Nat):List I:=ts.map fun (t:Nat)=>.d (.int .i64 (t:Int))
def AJ1:∀ts:List Nat,dvs (DI ts)=some (ts.map fun (t:Nat)=>DV.int .i64 (t:Int))
 |[]=>rfl
 |x::l=>by
  have:=AJ1 l;simp only [DI,AB,dvs,I.dv,AX,Jt] at this ⊢;rw [this];rfl
theorem xM:∀ts:List Nat,chunk 1 ts.length (ts.map fun (t:Nat)=>DV.int .i64 (t:Int))=ts.map Ba
 |[]=>rfl
 |x::l=>by
  have:=xM l
  grind [AT,chunk,Ba]
def SC {l:List Nat} {i:Nat} {x:Nat} (h:l[i]?=some x):(DI l)[i]?=some (.d (.int .i64 (x:Int))):=by simp [DI,h]
def FzT (v w:I) (F F':Fm):Prop:=∀s,F' s=F s\/(F s=v/\F' s=w)
theorem FzT.refl (v w:I) (F:Fm):FzT v w F F:=fun _=>.inl rfl
def FzT.skip {w:I} (h:FzT v w F F') (s:Nat) (x:I):FzT v w (put s x F) (put s x F'):=fun a=>by
 by_cases e:a=s
 . subst e;exact .inl (by simp [put])
 . rcases h a with h|h
   . exact .inl (by simp [put,e,h])
   . exact .inr (by simp [put,e,h])
def FzT.here {w:I} (h:FzT v w F F') (s:Nat):FzT v w (put s v F) (put s w F'):=fun a=>by
 by_cases e:a=s
 . subst e;exact .inr (by simp [put])
 . rcases h a with h|h
   . exact .inl (by simp [put,e,h])
   . exact .inr (by simp [put,e,h])
def W.nrz {KK:I->X->Prop} {k:List CI} {ts:List Nat} (g:ts.length=n) (c:V.C j=some (DI ts)) (f:n<=1000000000) (b:FzT (.ms j n 1 3) (.d (.sl (ts.map Ba))) F F') (a:W cx KK k F' L (V.CM j)):W cx KK k F L V:=by
 refine W.freeze (i:=j) (n:=n) (size:=1) (cs:=DI ts) (ds:=ts.map fun (t:Nat)=>DV.int .i64 (t:Int)) (H:=V.CM j) (L':=L) (F':=F') c (AJ1 ts) (by simp [DI,g]) (Ai f (show (1000000000:Nat)<=maxLen by decide+kernel)) (fun t=>?_) (fun k cs d=>⟨cs,d,.inl rfl⟩) (fun r cs' a=>?_) (fun t h=>h) a
 . rcases b t with e|⟨l,m⟩
   . exact .inl e
   grind [xM,frz]
 . rw [B9] at a
   grind
def SN.del {i:Nat} {l:List Nd} {fl:Bool} {rest:List I} (h:SN A i l fl rest j) (f:k≠i) (g:l≠[]->k≠j):SN (A.CM k) i l fl rest j:=by
 refine ⟨by rw [B9,if_neg (A5 f)];exact h.C,h.Gn,fun e=>?_⟩;obtain ⟨a,c,b,d⟩:=h.nd e;exact ⟨a,c,b,by rw [B9,if_neg (A5 (g e))];exact d⟩
theorem SN.set {i:Nat} {l:List Nd} {fl:Bool} {rest:List I} (h:SN A i l fl rest j) (f:k≠i) (g:l≠[]->k≠j):SN (A.AI k cs) i l fl rest j:=by
 refine ⟨by rw [AD,if_neg (A5 f)];exact h.C,h.Gn,fun e=>?_⟩;obtain ⟨a,c,b,d⟩:=h.nd e;exact ⟨a,c,b,by rw [AD,if_neg (A5 (g e))];exact d⟩
def Fr.del {i:Nat} {l:List Nd} (h:Fr A i l j H l' j') (f:k≠i):Fr (A.CM k) i l j (H.CM k) l' j':=by
 refine ⟨fun m b e c=>?_,fun d=>?_,fun g=>?_,h.gt,h.tok,h.bt⟩
 . rw [B9] at c ⊢;rw [B9];split at c
   . grind
   . rename_i a;rw [if_neg a,if_neg a];exact h.C m b e c
 . rw [B9,if_neg (A5 f)] at d ⊢;exact h.ii d
 . rcases h.nw g with b|b
   . exact .inl b
   grind [B9]
def p7 (A:X) (k:Nat) (cs:List I):(A.AI k cs).CM k=A.CM k:=by
 unfold X.AI X.CM
 grind
def X.ext' (a:A.C=V.C) (b:A.tok=V.tok) (c:A.gt=V.gt) (d:A.bt=V.bt):A=V:=by
 cases A;cases V;simp_all
def AP5 (h:A.C k=none):A.CM k=A:=by
 refine X.ext' ?_ rfl rfl rfl
 grind [B9]
def Fr.apart {i:Nat} {l:List Nd} (h:Fr A i l j H l' j') (f:l≠[]->k≠j) (d:A.C k≠none):l'≠[]->k≠j':=fun b e=>by
 rcases h.nw b with ⟨a,c⟩|a
 . grind
 grind
def AVW (l:List Nat) (n p a:Nat) (b:l.length=p) (c:p < n):(DI (l++AH (n - p) 0)).take p++[.d (.int .i64 (a:Int))]++(DI (l++AH (n - p) 0)).drop (p+1)=DI ((l++[a])++AH (n - (p+1)) 0):=by
 subst b;rw [show n - l.length=(n - (l.length+1))+1 from by omega,Bg];simp [DI,A4,List.drop_append]
def eV (n:Nat):(AH n [I.d (.int .i64 0)]).flatten=DI (AH n 0):=by
 induction n with
 |zero=>rfl
 |succ n a=>rw [Bg,BO,a,Bg];rfl
def Dr (i j:Nat) (l:List Nd) (fl:Bool) (rest:List I) (A:X) (n:Nat) (h:SN A i l fl rest j) (Q:n<=1000000) (t:l.length+n<=900000000):
 AS Tzp 119 [.gp i 0,nA n] A (SNQ A i l rest j (E9 l n,fl) (.d (.sl ((Af l.length n).map Ba)))):=by
 have m:A.C i≠none:=by rw [h.C];simp
 refine Rl.go ?_;rw [B4];simp only [nA];(repeat' refine sQ ?_<;>simp only [go_sem]);refine K8.mk n (by omega) (by omega) (fun k a=>?_);rw [eV];have f:k≠i:=fun e=>by rw [e] at a;exact m a
 (repeat' refine sQ ?_<;>simp only [go_sem])
 refine lpK (fun (z:Nat×X)=>[(11,A1 z.1)]) (fun z=>z.2)
  (fun z=>z.1<=n/\z.2.C k=some (DI (Af l.length z.1++AH (n - z.1) 0))/\∃j',SN z.2 i (E9 l z.1) fl rest j'/\Fr A i l j (z.2.CM k) (E9 l z.1) j'/\(E9 l z.1≠[]->k≠j'))
  (fun z=>n - z.1) ?_ (0,A.AI k (DI (AH n 0))) ⟨by simp,?_,j,?_,?_,?_⟩
 rotate_left
 . simp only [AD,if_true];simp
 . refine h.set f (fun t e=>?_);obtain ⟨_,c,_,d⟩:=h.nd t;rw [<- e,a] at d;cases d
 . simp only;rw [p7,AP5 a];exact Fr.refl A i l j
 . intro t e;obtain ⟨_,c,_,d⟩:=h.nd t;rw [<- e,a] at d;cases d
 rintro ⟨p,V⟩ ⟨L,o,j',E,v,g⟩ N;simp only at L o E v g;by_cases b:p < n
 . have F:=wS p;have q:=LC l p;(repeat' refine sQ ?_<;>simp only [BI b,go_sem]);refine AN.mk rfl (Fv i j' _ fl rest V E (by rw [q];omega)) ?_;rintro _ s ⟨rfl,P,K,f1⟩;simp only [nA];have u:s.C k=some (DI (Af l.length p++AH (n - p) 0)):=by rw [f1.C k f g (by rw [o];simp),o]
   have x:(p+1<=(DI (Af l.length p++AH (n - p) 0)).length)=True:=by simp [DI];omega
   have G:=AVW (Af l.length p) n p (E9 l p).length (by simp) b;have B:=ltT b;simp only [u,B,x,G,Ag,go_sem];(repeat' refine sQ ?_<;>simp only [F,go_sem]);have D:Af l.length p++[(E9 l p).length]=Af l.length (p+1):=by rw [q,List.range'_concat];simp
   rw [D];have r:=f1.apart g (by rw [o];simp);have w:=(v.trans (f1.del f) m);refine N ⟨p+1,s.AI k (DI (Af l.length (p+1)++AH (n - (p+1)) 0))⟩ ⟨b,by simp only [AD,if_true],P,?_,?_,r⟩ (by simp only;omega)
   . exact K.set f r
   . simp only;rw [p7];exact w
 . have y:p=n:=by omega
   subst y;rw [Nat.sub_self,List.replicate_zero,Aw] at o;(repeat' refine wQ ?_<;>simp only [B5 b,go_sem]);refine W.nrz (j:=k) (n:=p) (ts:=Af l.length p) (by simp) o (by omega) (FzT.here (FzT.refl _ _ _) 4) ?_;(repeat' refine wP ?_<;>simp only [go_sem]);exact ⟨rfl,j',E.del f g,v⟩
structure SX (ext:Nat->Option (List I)) (A:X) (i:Nat) (l:List Nd) (fl:Bool) (rest:List I) (j js:Nat) (cs:List I):Prop where
 sn:SN A i l fl rest j
 row:A.C js=some cs
 x:∀k c,ext k=some c->A.C k=some c
 xi:ext i=none
 xj:l≠[]->ext j=none
 xs:ext js=none
 si:js≠i
 sj:l≠[]->js≠j
def SX.step {ext:Nat->Option (List I)} {i js:Nat} {l:List Nd} {fl fl':Bool} {rest:List I} (h:SX ext A i l fl rest j js cs) (q:SN H i l fl' rest j') (fr:Fr A i l j H l j'):SX ext H i l fl' rest j' js cs:=by
 have g:∀k c,k≠i->(l≠[]->k≠j)->A.C k=some c->H.C k=some c/\(l≠[]->k≠j'):=fun k c n f b=>
  ⟨by rw [fr.C k n f (by rw [b];simp),b],fr.apart f (by rw [b];simp)⟩
 have m:∀k c,ext k=some c->H.C k=some c/\(l≠[]->k≠j'):=fun k c a=>
  g k c (fun e=>by rw [e,h.xi] at a;cases a) (fun d e=>by rw [e,h.xj d] at a;cases a) (h.x k c a)
 obtain ⟨o,p⟩:=g js cs h.si h.sj h.row;refine ⟨q,o,fun k c a=>(m k c a).1,h.xi,fun d=>?_,h.xs,h.si,p⟩;cases a:ext j' with
 |none=>rfl
 |some c=>exact absurd rfl ((m j' c a).2 d)
theorem SX.set {ext:Nat->Option (List I)} {A:X} {i j js:Nat} {l:List Nd} {fl:Bool} {rest cs:List I} (h:SX ext A i l fl rest j js cs) (cs':List I):SX ext (A.AI js cs') i l fl rest j js cs':=
 ⟨h.sn.set h.si h.sj,BB,fun k c a=>by rw [AD,if_neg (fun e=>by rw [e,h.xs] at a;cases a)];exact h.x k c a,h.xi,h.xj,h.xs,h.si,h.sj⟩
def HO (l:List Nd):Nat->List Nat->Nat->Bool×List Nat
 |0,st,_=>(true,st)
 |k+1,st,n=>
  let r:=rtN l n
  if st[r]?=some 0 then
   let q:=(((l[r]?).map Nd.ar).getD []).foldl (fun (q:Bool×List Nat) a=>if q.1 then HO l k q.2 a else q) (true,st.set r 1)
   (q.1,if q.1 then q.2.set r 2 else q.2)
     else (decide (st[r]?=some 2),st)
def zs (st:List Nat):Nat:=st.countP (·==0)
def AJN {st:List Nat} {r v:Nat} (h:st[r]?=some 0) (a:v≠0):zs (st.set r v)+1=zs st:=by
 grind [A7,AP,zs]
def AcQ {st:List Nat} {r v:Nat} (a:v≠0):zs (st.set r v)<=zs st:=by
 by_cases h:st[r]?=some 0
 . have:=AJN h a;omega
 . induction st generalizing r with
   |nil=>simp [zs]
   |cons x st c=>
    cases r with
    |zero=>
     have b:(v==0)=false:=by simpa using a
     simp only [zs,List.set_cons_zero,List.countP_cons,b,As,if_false];omega
    |succ r=>
     grind [zs]
def SK (st st':List Nat):Prop:=st'.length=st.length/\zs st'<=zs st
theorem SK.refl (st:List Nat):SK st st:=⟨rfl,AW _⟩
theorem SK.trans {a b c:List Nat} (h:SK a b) (k:SK b c):SK a c:=⟨k.1.trans h.1,Ai k.2 h.2⟩
theorem SK.set (st:List Nat) (r:Nat) {v:Nat} (a:v≠0):SK st (st.set r v):=⟨by simp,AcQ a⟩
def dJ (l:List Nd):∀(k:Nat) (st:List Nat) (n:Nat),SK st (HO l k st n).2
 |0,st,n=>SK.refl st
 |k+1,st,n=>by
  rw [HO];simp only;split
  . have d:∀(us:List Nat) (q:Bool×List Nat),SK q.2 (us.foldl (fun (q:Bool×List Nat) a=>if q.1 then HO l k q.2 a else q) q).2:=by
     intro us
     induction us with
     |nil=>intro q;exact SK.refl _
     |cons a us e=>
      intro q;rw [BD];refine SK.trans ?_ (e _);split
      . exact dJ l k q.2 a
      . exact SK.refl _
    have c:=d (((l[rtN l n]?).map Nd.ar).getD []) (true,st.set (rtN l n) 1);have b:=(SK.set st (rtN l n) (show (1:Nat)≠0 by decide)).trans c;split
    . exact b.trans (SK.set _ _ (by decide))
    . exact b
  . exact SK.refl st
def sG (l:List Nat):(DI l).length=l.length:=by simp [DI]
def eM {l:List Nat} {r v:Nat} (h:r < l.length):(DI l).take r++[.d (.int .i64 (v:Int))]++(DI l).drop (r+1)=DI (l.set r v):=by
 induction l generalizing r with
 |nil=>cases h
 |cons x l a=>
  cases r with
  |zero=>simp [DI]
  |succ r=>
   grind [DI]
def D9 (h:(nbH A).le V) (k:(nbH V).le υ):(nbH A).le υ:=
 ⟨fun _ _ h=>(by cases h),fun t a=>k.tok t (h.tok t a),h.gt.trans k.gt,fun i x b=>k.bt i x (h.bt i x b)⟩
def AML (l:List Nd) (k:Nat) (q:Bool×List Nat) (us:List Nat) (a:Nat):(us++[a]).foldl (fun (q:Bool×List Nat) a=>if q.1 then HO l k q.2 a else q) q=
 if (us.foldl (fun (q:Bool×List Nat) a=>if q.1 then HO l k q.2 a else q) q).1 then HO l k (us.foldl (fun (q:Bool×List Nat) a=>if q.1 then HO l k q.2 a else q) q).2 a else us.foldl (fun (q:Bool×List Nat) a=>if q.1 then HO l k q.2 a else q) q:=by
 grind
def iB (l:List Nd) (k:Nat) (st:List Nat):∀us:List Nat,us.foldl (fun (q:Bool×List Nat) a=>if q.1 then HO l k q.2 a else q) (false,st)=(false,st)
 |[]=>rfl
 |a::us=>by rw [BD];exact iB l k st us
def AD3 (ext:Nat->Option (List I)) (i:Nat) (rest:List I) (l:List Nd) (fl:Bool) (U Y j4 js:Nat) (hm:l.length<=900000000) (h1:ext U=some [.gp i 0]) (h3:ext Y=some [.ms js l.length 1 3]) (h4:ext j4=some [.fn 124 [] [.gp U 0,.gp Y 0,.gp j4 0]]):
 ∀(k:Nat) (st:List Nat) (j:Nat) (A:X) (n:Nat),zs st < k->st.length=l.length->n < l.length->SX ext A i l fl rest j js (DI st)->
 AS Tzp 124 [nA n,.gp U 0,.gp Y 0,.gp j4 0] A (fun v H=>v= .d (.bool (HO l k st n).1)/\(nbH A).le H/\∃j',SX ext H i l fl rest j' js (DI (HO l k st n).2)):=by
 intro k
 induction k with
 |zero=>intro st j A n h;omega
 |succ k sc=>
 intro st j A n hz vs hn T;have P:l≠[]:=fun e=>by grind
 refine TJ.go ?_;rw [Ka];have t:=T.x _ _ h1;have g:=T.x _ _ h3;obtain ⟨x,hx,us⟩:=T.sn.Gn.root hn;have ht:=(AG.1 hx).1;rw [HO];simp only [nA];generalize hr:rtN l n=r at *;(repeat' refine sQ ?_<;>simp only [t,go_sem]);refine AN.mk rfl (Gt i j l fl rest A n T.sn hn hm) ?_;rintro _ σ1 ⟨rfl,j5,hi,L⟩;rw [hr];simp only [nA];simp only [go_sem];have b:=T.step hi L;have E:=L.nb2 (IW A);clear T hi L t g;have t:=b.x _ _ h1;have g:=b.x _ _ h3;have F:=b.x _ _ h4;have u:=b.row;obtain ⟨v,hv⟩:=Ak (show r < st.length by omega);have hg:=SC hv;have R:=ltT ht;have h7:(r+1<=(DI st).length)=True:=by grind
 by_cases h0:v=0
 . subst h0;have hb:(((0:Nat):Int)==0)=true:=rfl;rw [if_pos hv];have hf:(DI st).take r++[A1 1]++(DI st).drop (r+1)=DI (st.set r 1):=eM (v:=1) (show r < st.length by omega);obtain ⟨ds,c,h9,h6⟩:=b.sn.nd P;have N:=b.sn.C;rw [Ef P] at N;obtain ⟨y,hy,yk,yn,ya⟩:=h9.at hx;obtain ⟨_,_,y3,_⟩:=TR hy;rw [ya] at y3;have d1:(U=js)=False:=by grind
   have d3:(Y=js)=False:=by grind
   have di:(i=js)=False:=by simp only [eq_iff_iff,iff_false];exact fun e=>b.si e.symm
   have dj:(j5=js)=False:=by simp only [eq_iff_iff,iff_false];exact fun e=>b.sj P e.symm
   have hd:=b.set (DI (st.set r 1));have K:(nbH A).le (σ1.AI js (DI (st.set r 1))):=⟨fun _ _ h=>(by cases h),E.tok,E.gt,E.bt⟩;(repeat' first|(refine sQ ?_<;>try simp only [t,g,u,hg,R,Ag,h7,hf,N,h6,y3,d1,di,dj,AA,go_sem])|(constructor<;>intro h<;>first|(cases h;done)|try simp only [h])|fail);simp only [hx,Ap,BH];generalize σ1.AI js (DI (st.set r 1))=σ2 at hd K ⊢;clear b t g F u N h6;have nm:zs (st.set r 1) < k:=by have:=AJN hv (show (1:Nat)≠0 by decide);omega
   have hc:(st.set r 1).length=l.length:=by grind
   generalize st.set r 1=d at *;refine W.slot 32 (fun ns=>?_);simp only [DR,reduceIte,HW,I.Ep,AA] at ns
   refine lpK (fun (z:Nat×X)=>[(34,A1 z.1)]) (fun z=>z.2)
    (fun z=>z.1<=x.ar.length/\(nbH A).le z.2/\((x.ar.take z.1).foldl (fun (q:Bool×List Nat) a=>if q.1 then HO l k q.2 a else q) (true,d)).1=true/\SK d ((x.ar.take z.1).foldl (fun (q:Bool×List Nat) a=>if q.1 then HO l k q.2 a else q) (true,d)).2/\
      ∃j',SX ext z.2 i l fl rest j' js (DI ((x.ar.take z.1).foldl (fun (q:Bool×List Nat) a=>if q.1 then HO l k q.2 a else q) (true,d)).2))
    (fun z=>x.ar.length - z.1) ?_ (0,σ2) ⟨by simp,K,rfl,SK.refl _,j5,hd⟩
   rintro ⟨p,V⟩ ⟨hp,s,G,o,j6,f⟩ ih;simp only at hp s G o f;have F:=f.x _ _ h4;by_cases D:p < x.ar.length
   . obtain ⟨a,ha⟩:=Ak D;have h5:=H5 ha;have hk:=f.sn.Gn.ar _ _ hx a (AE ha);have m:=AML l k (true,d) (x.ar.take p) a;rw [<- Aa ha] at m;have al:IntKind.i64.wrap ((p:Int)+1)=((p+1:Nat):Int):=by grind [B2]
     rw [if_pos G] at m;have B:=sc _ j6 V a (Nat.lt_of_le_of_lt o.2 nm) (o.1.trans hc) hk f;have hl:=dJ l k ((x.ar.take p).foldl (fun (q:Bool×List Nat) a=>if q.1 then HO l k q.2 a else q) (true,d)).2 a;generalize hq:(x.ar.take p).foldl (fun (q:Bool×List Nat) a=>if q.1 then HO l k q.2 a else q) (true,d)=q at *;generalize hw:HO l k q.2 a=w at *;obtain ⟨wb,ws⟩:=w;cases wb with
     |true=>
      (repeat' refine wQ ?_<;>simp only [BI D,h5,F,go_sem]);refine ⟨124,[],[.gp U 0,.gp Y 0,.gp j4 0],rfl,by kernel_rfl,AN.mk rfl B ?_⟩;rintro _ hj ⟨rfl,Q,j8,he⟩;simp only [go_sem];(repeat' refine wQ ?_<;>simp only [al,go_sem]);exact ih ⟨p+1,hj⟩ ⟨D,D9 s Q,by grind,by simp only [m];exact o.trans hl,j8,by grind⟩ (by grind)
     |false=>
      (repeat' refine wQ ?_<;>simp only [BI D,h5,F,go_sem]);refine ⟨124,[],[.gp U 0,.gp Y 0,.gp j4 0],rfl,by kernel_rfl,AN.mk rfl B ?_⟩;rintro _ hj ⟨rfl,Q,j8,he⟩;simp only [go_sem];(repeat' refine wP ?_<;>simp only [go_sem])
      have Z:x.ar.foldl (fun (q:Bool×List Nat) a=>if q.1 then HO l k q.2 a else q) (true,d)=(false,ws):=by
       conv=>lhs;rw [<- Am (p+1) x.ar,Cv,m]
       exact iB l k ws _
      simp only [Z];exact ⟨trivial,D9 s Q,j8,he⟩
   . have ho:p=x.ar.length:=by omega
     subst ho;rw [Ar] at G o f;have g:=f.x _ _ h3;have u:=f.row;have fs:=o.1.trans hc;generalize hq:x.ar.foldl (fun (q:Bool×List Nat) a=>if q.1 then HO l k q.2 a else q) (true,d)=q at *;have h8:(r+1<=(DI q.2).length)=True:=by rw [sG];simp;omega
     have S:(DI q.2).take r++[A1 2]++(DI q.2).drop (r+1)=DI (q.2.set r 2):=eM (v:=2) (by omega);have ks:=f.set (DI (q.2.set r 2));simp only [G,if_true];(repeat' refine sP ?_<;>simp only [B5 D,g,R,Ag,u,h8,S,go_sem]);exact ⟨⟨fun _ _ h=>(by cases h),s.tok,s.gt,s.bt⟩,j6,ks⟩
 . have hb:((v:Int) != 0)=true:=by grind
   rw [if_neg (by grind)];have h2:decide (st[r]?=some 2)=((v:Int)==2):=by grind
   rw [h2];(repeat' refine sP ?_<;>simp only [g,u,hg,R,Ag,hb,go_sem])
   grind
def AHR (l:List Nd):Nat->List Nat->List Nat->Bool
 |_,_,[]=>true
 |k,st,n::ns=>if (HO l k st n).1 then AHR l k (HO l k st n).2 ns else false
def qD (l:List Nd):Bool:=AHR l (l.length+1) (AH l.length 0) (Aj l.length)
def AT1 (n:Nat):zs (AH n 0)<=n:=by
 grind [WL,AH,zs]
def BE (A:X) (i:Nat) (x:Nat×TypeId) (k:Nat):(A.BM i x).C k=A.C k:=rfl
structure Mo (A V:X):Prop where
 C:∀k c,A.C k=some c->V.C k=some c
 nb:(nbH A).le V
theorem Mo.refl (A:X):Mo A A:=⟨fun _ _ h=>h,IW A⟩
def Mo.new (h:Mo A V) (d:V.C j=none) (cs:List I):Mo A (V.AI j cs):=
 ⟨fun k c b=>by have a:=h.C k c b;rw [AD,if_neg (fun e=>by grind)];exact a,⟨fun _ _ h=>(by cases h),h.nb.tok,h.nb.gt,h.nb.bt⟩⟩
def Mo.AFA (h:Mo A V) (i:V.C j=none/\V.bt j=none) (cs cs':List I) (x:Nat×TypeId):Mo A (((V.AI j cs).BM j x).AI j cs'):=
 ⟨fun k c d=>by
   have b:=h.C k c d;have a:k≠j:=fun e=>by grind
   rw [AD,if_neg a,BE,AD,if_neg a];exact b,⟨fun _ _ h=>(by cases h),h.nb.tok,h.nb.gt,fun k y f=>by
   have g:=h.nb.bt k y f;show (if k=j then some x else V.bt k)=some y
   grind⟩⟩
def Mo.AS2 (h:Mo A V) (b:A.C j=none) (cs:List I):Mo A (V.AI j cs):=
 ⟨fun k c a=>by rw [AD,if_neg (fun e=>by grind)];exact h.C k c a,⟨fun _ _ h=>(by cases h),h.nb.tok,h.nb.gt,h.nb.bt⟩⟩
def Mo.ne (h:Mo A V) (a:V.C j=none):A.C j=none:=by
 cases b:A.C j with
 |none=>rfl
 |some c=>rw [h.C j c b] at a;cases a
theorem Mo.trans (h:Mo A V) (k:Mo V υ):Mo A υ:=⟨fun x c a=>k.C x c (h.C x c a),D9 h.nb k.nb⟩
def exT (i j js:Nat) (V:X) (k:Nat):Option (List I):=if k=i\/k=j\/k=js then none else V.C k
def KE {i js:Nat} {c:List I} (h:V.C k=some c) (a:k≠i) (b:k≠j) (d:k≠js):exT i j js V k=some c:=by
 unfold exT;grind
def AYW {i js:Nat} {c:List I} (h:exT i j js V k=some c):V.C k=some c:=by
 grind [exT]
def SX.mk' {i js:Nat} {l:List Nd} {fl:Bool} {rest:List I} (h:SN A i l fl rest j) (q:l≠[]) (m:Mo A V) (r:V.C js=some cs) (n:A.C js=none):SX (exT i j js V) V i l fl rest j js cs:=by
 obtain ⟨d,o,b,a⟩:=h.nd q;have f:js≠i:=fun e=>by rw [e,h.C] at n;cases n
 have g:js≠j:=fun e=>by grind
 exact ⟨⟨m.C _ _ h.C,h.Gn,fun _=>⟨d,o,b,m.C _ _ a⟩⟩,r,fun k c p=>AYW p,by simp [exT],fun _=>by simp [exT],by simp [exT],f,fun _=>g⟩
def SX.out {i js:Nat} {l:List Nd} {fl:Bool} {rest:List I} (b:l≠[]) (m:Mo A V) (r:A.C js=none) (h:SX (exT i j js V) τ' i l fl rest j' js cs) (a:(nbH A).le τ'):SN τ' i l fl rest j'/\Fr A i l j τ' l j':=by
 refine ⟨h.sn,⟨fun k f g q=>?_,fun _=>by rw [h.sn.C];simp,fun _=>?_,a.gt.symm,a.tok,a.bt⟩⟩
 . cases o:A.C k with
   |none=>grind
   |some c=>exact h.x k c (KE (m.C k c o) f (g b) (fun e=>by grind))
 . obtain ⟨n,_⟩:=h.sn.nd b;have d:=h.xj b;have p:=h.sj b;by_cases e:j'=j
   . grind
   . right;unfold exT at d;rw [if_neg (by grind)] at d;exact m.ne d
def jW (i:Nat) (rest:List I) (l:List Nd) (fl:Bool) (j:Nat) (A:X) (o:l≠[]) (h3:l.length<=900000000) (h:SN A i l fl rest j):
 AS Tzp 68 [.gp i 0] A (SNQ A i l rest j (l,fl) (.d (.bool (qD l)))):=by
 have L:=h.C;rw [Ef o] at L;obtain ⟨hb,c0,h9,h8⟩:=h.nd o;refine Vd.go ?_;(repeat' refine sQ ?_<;>simp only [go_sem]);intro d h1;have Z:=(Mo.refl A).new h1 [I.gp i 0];have f1:(A.AI d [I.gp i 0]).C d=some [I.gp i 0]:=BB;generalize A.AI d [I.gp i 0]=E at *;have y:=Z.C _ _ L;(repeat' refine sQ ?_<;>simp only [y,f1,go_sem]);refine K8.mk l.length (by omega) (by omega) (fun js Q=>?_);rw [eV];have m2:=(Mo.refl E).new Q (DI (AH l.length 0));have f2:(E.AI js (DI (AH l.length 0))).C js=some (DI (AH l.length 0)):=BB;generalize E.AI js (DI (AH l.length 0))=g at *;simp only [go_sem];intro b N;simp only [BE,go_sem];have G:=(Mo.refl g).AFA N [I.Ac] [I.ms js l.length 1 3] (1,39);have f3:(((g.AI b [I.Ac]).BM b (1,39)).AI b [I.ms js l.length 1 3]).C b=some [I.ms js l.length 1 3]:=BB;generalize ((g.AI b [I.Ac]).BM b (1,39)).AI b [I.ms js l.length 1 3]=F at *;(repeat' refine sQ ?_<;>simp only [go_sem]);intro a P;have m4:=(Mo.refl F).AFA P [I.Jd] [.fn 124 [] [.gp d 0,.gp b 0,.gp a 0]] (1,251);have f4:(((F.AI a [I.Jd]).BM a (1,251)).AI a [.fn 124 [] [.gp d 0,.gp b 0,.gp a 0]]).C a=some [.fn 124 [] [.gp d 0,.gp b 0,.gp a 0]]:=BB;have g1:=G.C _ _ (m2.C _ _ f1)
 have b1:=G.C _ _ (m2.C _ _ y);have n1:d≠a:=fun e=>by grind
 have n3:b≠a:=fun e=>by grind
 have ni:i≠a:=fun e=>by grind
 have h6:(d=a)=False:=by simp [n1]
 have h7:(i=a)=False:=by simp [ni]
 (repeat' refine sQ ?_<;>simp only [BE,h6,h7,g1,b1,go_sem]);generalize ((F.AI a [I.Jd]).BM a (1,251)).AI a [.fn 124 [] [.gp d 0,.gp b 0,.gp a 0]]=x at *;have t:Mo A x:=((Z.trans m2).trans G).trans m4;have c1:=m4.C _ _ g1;have c3:=m4.C _ _ f3;have cs:=m4.C _ _ (G.C _ _ f2);have n:A.C js=none:=Z.ne Q;have hs:=SX.mk' h o t cs n;have f:∀k c,x.C k=some c->A.C k=none->k≠i/\k≠j:=fun k c _ h2=>⟨fun e=>(by grind),fun e=>(by grind)⟩;have T:A.C d=none:=by grind
 have U:A.C b=none:=(Z.trans m2).ne N.1;have Y:A.C a=none:=((Z.trans m2).trans G).ne P.1;have s1:d≠js:=fun e=>by grind
 have s3:b≠js:=fun e=>by grind
 have s4:a≠js:=fun e=>by have:=G.C _ _ f2;grind
 have x1:=KE (js:=js) c1 (f _ _ c1 T).1 (f _ _ c1 T).2 s1;have x3:=KE (js:=js) c3 (f _ _ c3 U).1 (f _ _ c3 U).2 s3;have x4:=KE (js:=js) f4 (f _ _ f4 Y).1 (f _ _ f4 Y).2 s4;have S:=AD3 _ i rest l fl d b a js h3 x1 x3 x4 (l.length+1)
 refine lpK (fun (z:Nat×X×List Nat)=>[(18,A1 z.1)]) (fun z=>z.2.1)
  (fun z=>z.1<=l.length/\qD l=AHR l (l.length+1) z.2.2 (Af z.1 (l.length - z.1))/\SK (AH l.length 0) z.2.2/\(nbH A).le z.2.1/\∃j',SX (exT i j js x) z.2.1 i l fl rest j' js (DI z.2.2))
  (fun z=>l.length - z.1) ?_ (0,x,AH l.length 0) ⟨by simp,by simp [qD,List.range_eq_range'],SK.refl _,t.nb,j,hs⟩
 rintro ⟨p,V,st⟩ ⟨hp,r,s,u,j6,v⟩ ih;simp only at hp r s u v;have K:=v.x _ _ x4;by_cases q:p < l.length
 . have h5:=wS p;rw [show l.length - p=(l.length - (p+1))+1 from by omega,List.range'_succ,AHR] at r;have hz:=AT1 l.length;have R:st.length=l.length:=by rw [s.1];simp
   have m:=S st j6 V p (by have:=s.2;omega) R q v;have h0:=dJ l (l.length+1) st p;generalize HO l (l.length+1) st p=w at *;obtain ⟨wb,ws⟩:=w;cases wb with
   |true=>
    (repeat' refine wQ ?_<;>simp only [BI q,K,go_sem]);refine ⟨124,[],[.gp d 0,.gp b 0,.gp a 0],rfl,by kernel_rfl,AN.mk rfl m ?_⟩;rintro _ g ⟨rfl,B,j8,D⟩;simp only [go_sem];(repeat' refine wQ ?_<;>simp only [h5,go_sem]);exact ih ⟨p+1,g,ws⟩ ⟨q,by grind,s.trans h0,D9 u B,j8,D⟩ (by grind)
   |false=>
    (repeat' refine wQ ?_<;>simp only [BI q,K,go_sem]);refine ⟨124,[],[.gp d 0,.gp b 0,.gp a 0],rfl,by kernel_rfl,AN.mk rfl m ?_⟩;rintro _ g ⟨rfl,B,j8,D⟩;simp only [go_sem];(repeat' refine wP ?_<;>simp only [go_sem]);have hf:qD l=false:=by grind
    exact ⟨by rw [hf],j8,D.out o t n (D9 u B)⟩
 . have h4:p=l.length:=by omega
   subst h4;rw [Nat.sub_self,List.range'_zero,AHR] at r;(repeat' refine wP ?_<;>simp only [B5 q,go_sem]);exact ⟨by rw [r],j6,v.out o t n u⟩
structure FR (l:List Nd) (d:Nat->Nat):Prop where
 lt:∀r x,l[r]?=some x->x.p=r->∀a∈x.ar,d (rtN l a) < d r
 le:∀r,d r<=l.length
def szF (l:List Nd):Nat->Nat->Nat
 |0,_=>0
 |k+1,r=>(((l[r]?).map Nd.ar).getD []).foldl (fun s a=>min (s+szF l k (rtN l a)) 201) 1
def foldl_congr {α β:Type} {f g:β->α->β}:∀ {l:List α} {b:β},(∀a∈l,∀b,f b a=g b a)->l.foldl f b=l.foldl g b
 |[],b,_=>rfl
 |a::l,b,h=>by
  rw [BD,BD,h a (AY)];exact foldl_congr fun x c=>h x (AZ _ c)
def tL {l:List Nd} {d:Nat->Nat} (j:E8 l) (h:FR l d):∀(n r k c:Nat),d r<=n->(∃x,l[r]?=some x/\x.p=r)->d r < k->d r < c->szF l k r=szF l c r:=by
 intro n
 induction n with
 |zero=>
  intro r k c p ⟨x,e,i⟩ o g;obtain ⟨k,rfl⟩:∃m,k=m+1:=⟨k - 1,by omega⟩;obtain ⟨c,rfl⟩:∃m,c=m+1:=⟨c - 1,by omega⟩;rw [szF,szF,e];simp only [Ap,BH];refine foldl_congr fun a f b=>?_;have:=h.lt r x e i a f;omega
 |succ n q=>
  intro r k c p ⟨x,e,i⟩ o g;obtain ⟨k,rfl⟩:∃m,k=m+1:=⟨k - 1,by omega⟩;obtain ⟨c,rfl⟩:∃m,c=m+1:=⟨c - 1,by omega⟩;rw [szF,szF,e];simp only [Ap,BH];refine foldl_congr fun a f b=>?_;have s:=h.lt r x e i a f;rw [q (rtN l a) k c (by omega) (j.root (j.ar r x e a f)) (by omega) (by omega)]
def AB0 {f:Nat->Nat}:∀ {us:List Nat} {s:Nat},1<=s->s<=201->1<=us.foldl (fun s a=>min (s+f a) 201) s/\us.foldl (fun s a=>min (s+f a) 201) s<=201
 |[],s,b,c=>⟨b,c⟩
 |a::us,s,b,c=>by rw [BD];exact AB0 (by omega) (by omega)
theorem ABX (l:List Nd) (k r:Nat):1<=szF l (k+1) r/\szF l (k+1) r<=201:=by
 rw [szF];exact AB0 (by omega) (by omega)
def szN (l:List Nd) (n:Nat):Nat:=szF l (l.length+1) (rtN l n)
def KN (l:List Nd) (kn:List Nat):Prop:=kn.length=l.length/\∀r v,kn[r]?=some v->v=0\/v=szF l (l.length+1) r
def AI3 (ext:Nat->Option (List I)) (i:Nat) (rest:List I) (l:List Nd) (d:Nat->Nat) (hd:FR l d) (fl:Bool) (j1 j3 j4 js:Nat) (hln:l.length<=900000000) (h1:ext j1=some [.gp i 0]) (h3:ext j3=some [.ms js l.length 1 3]) (h4:ext j4=some [.fn 126 [] [.gp j1 0,.gp j3 0,.gp j4 0]]):
 ∀(k:Nat) (kn:List Nat) (j:Nat) (A:X) (n:Nat),d (rtN l n) < k->KN l kn->n < l.length->SX ext A i l fl rest j js (DI kn)->
 AS Tzp 126 [nA n,.gp j1 0,.gp j3 0,.gp j4 0] A (fun v H=>v=nA (szN l n)/\(nbH A).le H/\∃kn' j',KN l kn'/\SX ext H i l fl rest j' js (DI kn')):=by
 intro k
 induction k with
 |zero=>intro kn j A n h;omega
 |succ k ihk=>
 intro kn j A n hdk hkn hn hs;have hl0:l≠[]:=fun e=>by rw [e] at hn;cases hn
 refine Ug (by simp) ?_;rw [Ka];have hb1:=hs.x _ _ h1;obtain ⟨x,hx,hxp⟩:=hs.sn.Gn.root hn;have hrl:=(AG.1 hx).1;rw [szN];simp only [nA];generalize hr:rtN l n=r at *;(repeat' (refine sQ ?_<;>try simp only [hb1,go_sem]));refine AN.mk rfl (Gt i j l fl rest A n hs.sn hn hln) ?_;rintro _ σ1 ⟨rfl,j5,sn5,fr5⟩;rw [hr];simp only [nA];simp only [go_sem];have hs5:=hs.step sn5 fr5;have hnb5:=fr5.nb2 (IW A);clear hs sn5 fr5 hb1;have hb1:=hs5.x _ _ h1;have hb3:=hs5.x _ _ h3;have hbs:=hs5.row;obtain ⟨v,hv⟩:=Ak (show r < kn.length by rw [hkn.1];exact hrl);have hva:=SC hv;have hrT:=ltT hrl;by_cases h0:v=0
 . subst h0;have hb:(((0:Nat):Int)==0)=true:=rfl;obtain ⟨hji,c,hrep,hbj⟩:=hs5.sn.nd hl0;have hbi:=hs5.sn.C;rw [Ef hl0] at hbi;obtain ⟨y,hy,yk,yn,ya⟩:=hrep.at hx;obtain ⟨_,_,y3,_⟩:=TR hy;rw [ya] at y3;(repeat' (refine sQ ?_<;>try simp only [hb1,hb3,hbs,hva,hrT,Ag,hb,hbi,hbj,y3,AA,go_sem]));refine W.slot 25 (fun hsl=>?_);simp only [DR,reduceIte,HW,I.Ep,AA] at hsl
   refine lpK (fun (z:Nat×X)=>[(27,.d (.int .i64 z.1)),(6,.d (.int .i64 (((x.ar.take z.1).foldl (fun s a=>min (s+szF l (l.length+1) (rtN l a)) 201) 1:Nat):Int)))]) (fun z=>z.2)
    (fun z=>z.1<=x.ar.length/\(nbH A).le z.2/\∃kn' j',KN l kn'/\SX ext z.2 i l fl rest j' js (DI kn'))
    (fun z=>x.ar.length - z.1) ?_ (0,σ1) ⟨by simp,hnb5,kn,j5,hkn,hs5⟩
   clear hkn hv hva hb1 hb3 hbs hbi hbj hs5 hrep hy y3;rintro ⟨p,V⟩ ⟨hp,hnb,kn',j6,hkn,hs7⟩ ih;simp only at hp hnb hs7;have hb4:=hs7.x _ _ h4;by_cases hlt:p < x.ar.length
   . obtain ⟨a,ha⟩:=Ak hlt;have har:=H5 ha;have ham:=AE ha;have hal:=hs7.sn.Gn.ar _ _ hx a ham;have hda:=hd.lt r x hx hxp a ham
     have hstep:(x.ar.take (p+1)).foldl (fun s a=>min (s+szF l (l.length+1) (rtN l a)) 201) 1=min ((x.ar.take p).foldl (fun s a=>min (s+szF l (l.length+1) (rtN l a)) 201) 1+szF l (l.length+1) (rtN l a)) 201:=by
      rw [Aa ha,Cv];rfl
     have hbd:=AB0 (f:=fun a=>szF l (l.length+1) (rtN l a)) (us:=x.ar.take p) (s:=1) (by omega) (by omega);have hsa:=ABX l l.length (rtN l a);have hw1:IntKind.i64.wrap ((p:Int)+1)=((p+1:Nat):Int):=by rw [B2 (by omega) (by omega)];omega
     have hcall:=ihk kn' j6 V a (by omega) hkn hal hs7;rw [szN] at hcall;generalize hfs:(x.ar.take p).foldl (fun s a=>min (s+szF l (l.length+1) (rtN l a)) 201) 1=s at hbd hstep;generalize szF l (l.length+1) (rtN l a)=sa at hstep hsa hcall;have hw2:IntKind.i64.wrap ((s:Int)+(sa:Int))=((s+sa:Nat):Int):=by rw [B2 (by omega) (by omega)];omega
     (repeat' (refine sQ ?_<;>try simp only [BI hlt,har,hb4,go_sem]));refine ⟨126,[],[.gp j1 0,.gp j3 0,.gp j4 0],rfl,by kernel_rfl,AN.mk rfl hcall ?_⟩;rintro _ τ2 ⟨rfl,hn2,kn2,j8,hkn2,hs8⟩;simp only [nA]
     have hmm:mmA false (.d (.int .i64 ((s+sa:Nat):Int))) (.d (.int .i64 201))=some (.d (.int .i64 ((min (s+sa) 201:Nat):Int))):=by
      simp [mmA];omega
     simp only [hw2,hmm,go_sem];(repeat' (refine sQ ?_<;>try simp only [hw1,go_sem]));have hi:=ih ⟨p+1,τ2⟩ ⟨hlt,D9 hnb hn2,kn2,j8,hkn2,hs8⟩ (by simp only;omega);simp only [hstep] at hi;exact hi
   . have hpe:p=x.ar.length:=by omega
     subst hpe;have hb3:=hs7.x _ _ h3;have hbs:=hs7.row
     have hsz:szF l (l.length+1) r=x.ar.foldl (fun s a=>min (s+szF l (l.length+1) (rtN l a)) 201) 1:=by
      have h0:=hd.le r;rw [szF,hx];simp only [Ap,BH];refine foldl_congr fun a ha b=>?_;have h1:=hd.lt r x hx hxp a ha;rw [tL hs7.sn.Gn hd (d (rtN l a)) (rtN l a) l.length (l.length+1) (AW _) (hs7.sn.Gn.root (hs7.sn.Gn.ar r x hx a ha)) (by omega) (by omega)]
     have hle2:(r+1<=(DI kn').length)=True:=by rw [sG,hkn.1];simp;omega
     have hset:=eM (l:=kn') (v:=szF l (l.length+1) r) (show r < kn'.length by rw [hkn.1];exact hrl)
     have hk2:KN l (kn'.set r (szF l (l.length+1) r)):=by
      refine ⟨by simp [hkn.1],fun m v hm=>?_⟩;rw [CT] at hm;split at hm
      . rename_i e;subst e;split at hm
        . cases hm;exact .inr rfl
        . cases hm
      . exact hkn.2 m v hm
     have hat:(DI (kn'.set r (szF l (l.length+1) r)))[r]?=some (.d (.int .i64 ((szF l (l.length+1) r:Nat):Int))):=SC (by rw [Bq (by rw [hkn.1];exact hrl)]);have hs9:=hs7.set (DI (kn'.set r (szF l (l.length+1) r)));have d3:(j3=js)=False:=by simp only [eq_iff_iff,iff_false];intro e;rw [e,hs7.xs] at h3;cases h3
     simp only [Ar,<- hsz];(repeat' (refine sP ?_<;>try simp only [B5 hlt,hb3,hrT,Ag,hbs,hle2,hset,hat,d3,go_sem]));exact ⟨⟨fun _ _ h=>(by cases h),hnb.tok,hnb.gt,hnb.bt⟩,_,j6,hk2,hs9⟩
 . have hb:((v:Int)==0)=false:=by simpa using h0
   have hvz:v=szF l (l.length+1) r:=(hkn.2 r v hv).resolve_left h0;(repeat' (refine sP ?_<;>try simp only [hb3,hbs,hva,hrT,Ag,hb,go_sem]));rw [<- hvz];exact ⟨rfl,hnb5,kn,j5,hkn,hs5⟩
def AX0 {f:Nat->Nat}:∀ {us:List Nat} {s:Nat},s<=201->s<=us.foldl (fun s a=>min (s+f a) 201) s
 |[],s,_=>AW _
 |a::us,s,h=>by
  rw [BD];exact Ai (by omega) (AX0 (us:=us) (s:=min (s+f a) 201) (by omega))
def ATF {f:Nat->Nat}:∀ {us:List Nat} {s:Nat},s<=201->us.foldl (fun s a=>min (s+f a) 201) s<=200->s+(us.map f).sum<=200
 |[],s,_,h=>by simpa using h
 |a::us,s,d,h=>by
  rw [BD] at h;have b:=AX0 (f:=f) (us:=us) (s:=min (s+f a) 201) (by omega);have c:=ATF (us:=us) (s:=min (s+f a) 201) (by omega) h
  grind
theorem ALC {f:Nat->Nat}:∀ {us:List Nat} {a:Nat},a∈us->f a<=(us.map f).sum
 |b::us,a,h=>by
  rw [AB,Em];rcases Ah.1 h with rfl|h
  . omega
  . have:=ALC (f:=f) h;omega
theorem ALB {f:Nat->Nat}:∀ {us:List Nat},(∀a∈us,1<=f a)->us.length<=(us.map f).sum
 |[],_=>AW _
 |b::us,h=>by
  rw [AB,Em,AT];have:=h b (AY);have:=ALB (f:=f) (us:=us) (fun a c=>h a (AZ _ c));omega
def ABY {l:List Nd} {d:Nat->Nat} (b:E8 l) (h:FR l d) (e:l[rtN l n]?=some x) (i:x.p=rtN l n) (c:szN l n<=200):1+(x.ar.map (szN l)).sum<=200:=by
 rw [szN,szF,e] at c;simp only [Ap,BH] at c;have g:=ATF (by omega) c
 have:x.ar.map (szN l)=x.ar.map (fun a=>szF l l.length (rtN l a)):=Gk fun a f=>by
  have g:=h.lt _ x e i a f;have j:=h.le (rtN l n);exact tL b h (d (rtN l a)) (rtN l a) (l.length+1) l.length (AW _) (b.root (b.ar _ x e a f)) (by omega) (by omega)
 grind
def tM {l:List Nd} {d:Nat->Nat} (b:E8 l) (h:FR l d) (f:l[rtN l n]?=some x) (c:x.p=rtN l n) (e:szN l n<=200):x.ar.length<=199/\∀a∈x.ar,szN l a<=200:=by
 have g:=ABY b h f c e
 grind [ALB,szN,ABX,rtN,ALC]
def ATE {l:List Nd} {d:Nat->Nat} (c:E8 l) (h:FR l d) (e:l[rtN l n]?=some x) (k:x.p=rtN l n) (f:szN l n<=200):szN l n=1+(x.ar.map (szN l)).sum:=by
 have i:=ABY c h e k f
 have m:szN l n=x.ar.foldl (fun s a=>min (s+szN l a) 201) 1:=by
  rw [szN,szF,e];simp only [Ap,BH];refine foldl_congr fun a j b=>?_;have i:=h.lt _ x e k a j;have p:=h.le (rtN l n);rw [szN,tL c h (d (rtN l a)) (rtN l a) l.length (l.length+1) (AW _) (c.root (c.ar _ x e a j)) (by omega) (by omega)]
 have o:∀(us:List Nat) (s:Nat),s+(us.map (szN l)).sum<=200->us.foldl (fun s a=>min (s+szN l a) 201) s=s+(us.map (szN l)).sum:=by
  intro us
  induction us with
  |nil=>intro s _;simp
  |cons a us g=>
   intro s f;rw [AB,Em] at f ⊢;rw [BD,show min (s+szN l a) 201=s+szN l a from by omega,g _ (by omega)];omega
 rw [m,o _ _ i]
def rdF (l:List Nd) (es:List (Int×Int)):Nat->Nat->Ty
 |0,_=>.mk 3 0 []
 |k+1,r=>match l[r]? with
  |none=>.mk 3 0 []
  |some x=>if x.k=0 then (match es.lookup (r:Int) with
   |some i=>.mk 4 i []
   |none=>.mk 3 0 []) else .mk x.k x.n (x.ar.map fun a=>rdF l es k (rtN l a))
def rdN (l:List Nd) (es:List (Int×Int)) (n:Nat):Ty:=rdF l es (l.length+1) (rtN l n)
def ASP {l:List Nd} {d:Nat->Nat} (i:E8 l) (h:FR l d):∀(n r k b:Nat),d r<=n->(∃x,l[r]?=some x/\x.p=r)->d r < k->d r < b->rdF l es k r=rdF l es b r:=by
 intro n
 induction n with
 |zero=>
  intro r k b o ⟨x,c,g⟩ j f;obtain ⟨k,rfl⟩:∃m,k=m+1:=⟨k - 1,by omega⟩;obtain ⟨b,rfl⟩:∃m,b=m+1:=⟨b - 1,by omega⟩;rw [rdF,rdF,c];simp only;split
  . rfl
  . congr 1;refine Gk fun a e=>?_;have:=h.lt r x c g a e;omega
 |succ n p=>
  intro r k b o ⟨x,c,g⟩ j f;obtain ⟨k,rfl⟩:∃m,k=m+1:=⟨k - 1,by omega⟩;obtain ⟨b,rfl⟩:∃m,b=m+1:=⟨b - 1,by omega⟩;rw [rdF,rdF,c];simp only;split
  . rfl
  . congr 1;refine Gk fun a e=>?_;have q:=h.lt r x c g a e;exact p (rtN l a) k b (by omega) (i.root (i.ar r x c a e)) (by omega) (by omega)
def bR {l:List Nd} {d:Nat->Nat} (b:E8 l) (h:FR l d) (c:l[rtN l n]?=some x) (f:x.p=rtN l n):
 rdN l es n=if x.k=0 then (match es.lookup (rtN l n:Int) with
  |some i=>.mk 4 i []
  |none=>.mk 3 0 []) else .mk x.k x.n (x.ar.map (rdN l es)):=by
 rw [rdN,rdF,c];simp only;split
 . rfl
 . congr 1;refine Gk fun a e=>?_;have j:=h.lt _ x c f a e;have g:=h.le (rtN l n);exact ASP b h (d (rtN l a)) (rtN l a) l.length (l.length+1) (AW _) (b.root (b.ar _ x c a e)) (by omega) (by omega)
def Ty.zG {α:Type} (f:α->Ty):∀us:List α,Ty.AQ (us.map f)=(us.map fun a=>(f a).size).sum
 |[]=>rfl
 |a::us=>by rw [AB,Ty.AQ,Ty.zG f us];rfl
def ATC {f g:Nat->Nat}:∀ {us:List Nat},(∀a∈us,f a<=g a)->(us.map f).sum<=(us.map g).sum
 |[],_=>AW _
 |b::us,h=>by
  rw [AB,AB,Em,Em];have:=h b (AY);have:=ATC (f:=f) (g:=g) (us:=us) (fun a c=>h a (AZ _ c));omega
def AFJ {l:List Nd} {d:Nat->Nat} (c:E8 l) (h:FR l d):∀(N n:Nat),n < l.length->d (rtN l n)<=N->szN l n<=200->(rdN l es n).size<=szN l n:=by
 intro N
 induction N with
 |zero=>
  intro n k q i;obtain ⟨x,b,e⟩:=c.root k;have m:=ABX l l.length (rtN l n);rw [bR c h b e]
  have u:x.ar=[]:=by
   cases r:x.ar with
   |nil=>rfl
   |cons a _=>have:=h.lt _ x b e a (by grind);omega
  grind [szN,Ty.size,Ty.AQ]
 |succ N s=>
  intro n k q i;obtain ⟨x,b,e⟩:=c.root k;have m:=ABX l l.length (rtN l n);change 1<=szN l n/\_ at m;rw [bR c h b e];split
  . grind [Ty.size,Ty.AQ]
  . have t:=ABY c h b e i;have o:=(tM c h b e i).2;have p:=ATE c h b e i;rw [p,Ty.size,Ty.zG];have:=ATC (f:=fun a=>(rdN l es a).size) (g:=szN l) (us:=x.ar) (fun a j=>s a (c.ar _ x b a j) (by have:=h.lt _ x b e a j;omega) (o a j));omega
def szC (j1 j3 j4:Nat):I:= .fn 126 [] [.gp j1 0,.gp j3 0,.gp j4 0]
def KN.zero (l:List Nd):KN l (AH l.length 0):=⟨by simp,fun r v h=>by
 grind⟩
def nF (i:Nat) (rest:List I) (l:List Nd) (fl:Bool) (j:Nat) (A:X) (n:l≠[]) (U:l.length<=900000000) (h:SN A i l fl rest j):
 AS Tzp 69 [.gp i 0] A (fun v H=>∃d b a js,v=szC d b a/\Mo A H/\A.C js=none/\SX (exT i j js H) H i l fl rest j js (DI (AH l.length 0))/\
  exT i j js H d=some [.gp i 0]/\exT i j js H b=some [.ms js l.length 1 3]/\exT i j js H a=some [szC d b a]):=by
 have q:=h.C;rw [Ef n] at q;obtain ⟨T,c0,R,Q⟩:=h.nd n;refine Wz.go ?_;(repeat' refine sQ ?_<;>simp only [go_sem]);intro d N;have B:=(Mo.refl A).new N [I.gp i 0];have f1:(A.AI d [I.gp i 0]).C d=some [I.gp i 0]:=BB;generalize A.AI d [I.gp i 0]=o at *;have r:=B.C _ _ q;(repeat' refine sQ ?_<;>simp only [r,f1,go_sem]);refine K8.mk l.length (by omega) (by omega) (fun js u=>?_);rw [eV];have F:=(Mo.refl o).new u (DI (AH l.length 0));have f2:(o.AI js (DI (AH l.length 0))).C js=some (DI (AH l.length 0)):=BB;generalize o.AI js (DI (AH l.length 0))=p at *;simp only [go_sem];intro b s;simp only [BE,go_sem];have D:=(Mo.refl p).AFA s [I.Ac] [I.ms js l.length 1 3] (1,39);have f3:(((p.AI b [I.Ac]).BM b (1,39)).AI b [I.ms js l.length 1 3]).C b=some [I.ms js l.length 1 3]:=BB;generalize ((p.AI b [I.Ac]).BM b (1,39)).AI b [I.ms js l.length 1 3]=g at *;(repeat' refine sQ ?_<;>simp only [go_sem]);intro a t;have G:=(Mo.refl g).AFA t [I.Jd] [szC d b a] (1,193);have f4:(((g.AI a [I.Jd]).BM a (1,193)).AI a [szC d b a]).C a=some [szC d b a]:=BB;have P:=D.C _ _ (F.C _ _ f1);(repeat' refine sP ?_<;>simp only [BE,go_sem])
 have S:(((g.AI a [I.Jd]).BM a (1,193)).AI a [.fn 126 [] [.gp d 0,.gp b 0,.gp a 0]])=(((g.AI a [I.Jd]).BM a (1,193)).AI a [szC d b a]):=rfl;rw [S];generalize ((g.AI a [I.Jd]).BM a (1,193)).AI a [szC d b a]=E at *;have w:Mo A E:=((B.trans F).trans D).trans G;have K:=G.C _ _ P;have L:=G.C _ _ f3;have cs:=G.C _ _ (D.C _ _ f2);have m:A.C js=none:=B.ne u;have Y:=SX.mk' h n w cs m;have f:∀k c,E.C k=some c->A.C k=none->k≠i/\k≠j:=fun k c _ h2=>⟨fun e=>(by grind),fun e=>(by grind)⟩;have x:A.C d=none:=by assumption
 have y:A.C b=none:=(B.trans F).ne s.1;have z:A.C a=none:=((B.trans F).trans D).ne t.1;have s1:d≠js:=fun e=>by grind
 have Z:b≠js:=fun e=>by grind
 have s4:a≠js:=fun e=>by have:=D.C _ _ f2;grind
 exact ⟨d,b,a,js,rfl,w,m,Y,KE (js:=js) K (f _ _ K x).1 (f _ _ K x).2 s1,KE (js:=js) L (f _ _ L y).1 (f _ _ L y).2 Z,KE (js:=js) f4 (f _ _ f4 z).1 (f _ _ f4 z).2 s4⟩
structure En where
 t:Nat
 f:Int
 ar:List Nat
structure Sch where
 vars:Int
 params:List Ty
 res:Ty
structure GC where
 fs:List FE
 dt:List Dat
 sch:List Sch
 mem:List Bool
 ps:List (List Nat)
 rs:List Nat
structure GS where
 s:SS
 en:List En
variable {g:GS}
def GS.add (g:GS) (k n:Int) (ar:List Nat):GS:= { g with s:=(L3 g.s.1 k n ar,g.s.2)}
def GS.uni (g:GS) (a b:Nat):GS:= { g with s:=Go.Ab.uni g.s a b}
def GS.nx (g:GS):Nat:=g.s.1.length
def GS.frs (g:GS) (n:Nat):GS:= { g with s:=(E9 g.s.1 n,g.s.2)}
def GS.Ur (g:GS) (at_:Nat) (f:En->En):GS:= { g with en:=g.en.modify at_ f}
abbrev Env:=List (M×Nat)
def Mb:Env->M->Option Nat
 |[],_=>none
 |x::e,s=>if x.1=s then some x.2 else Mb e s
def Cy:Env->List M->List Nat->Env
 |e,s::ss,t::ts=>Cy (if s=[] then e else (s,t)::e) ss ts
 |e,_,_=>e
def AY5 (ar:List Nat) (ps:List Ty) (r:Ty) (g:GS):Nat×GS:=
 let p:=Bi ar g.s.1 ps
 let q:=Eo ar p.2 r
 (q.2.length, { g with s:=(L3 q.2 9 0 (p.1++[q.1]),g.s.2)})
def AWE (G:GC) (f at_:Nat) (g:GS):Nat×GS:=
 if G.mem.getD f false then (g.nx,g.add 9 0 ((G.ps.getD f [])++[G.rs.getD f 0]))
                                               else match G.sch[f]? with
  |none=>(0,g)
  |some s=>AY5 (Af g.nx s.vars.toNat) s.params s.res ((g.frs s.vars.toNat).Ur at_ fun e=> { e with ar:=Af g.nx s.vars.toNat})
def fD (G:GC) (env:Env) (nm:M) (at_:Nat) (g:GS):Nat×GS:=
 match Mb env nm with
 |some t=>(t,g)
 |none=>AWE G ((Dz (DB G.fs) nm).getD 0) at_ (g.Ur at_ fun e=> { e with f:=(((Dz (DB G.fs) nm).getD 0:Nat):Int)})
def ADF (o:Int):Int:=if o=2 then 2 else if o=3 then 1 else 3
def eT (n:Int) (b:Nat):List Nat×Nat:=
 if n=1 then ([b,b+1],b+2) else if n=2 then ([b+2,b],b+1) else if n=3 then ([b+2,b,b+1],b+4) else if n=4 then ([b+2],b)
                                                                                                                else if n=5 then ([b+1],b+3) else if n=6 then ([b+3],b+1) else if n=7 then ([b+3,b+1],b+4) else ([],b+4)
mutual
def BN (G:GC):Ex->Env->GS->Nat×GS
 | .mk o nm nu ns ks al,env,g0=>
  let at_:=g0.en.length
  let g:GS:= { g0 with en:=g0.en++[⟨0,-1,[]⟩]}
  let r:Nat×GS:=
   if o=4 then fD G env nm at_ g
    else if o=1\/o=2\/o=3\/o=15 then (g.nx,g.add (ADF o) 0 [])
    else if o=5 then (let q:=De G ks env g;(q.2.nx,q.2.add 6 0 q.1))
    else if o=6 then (match Dy G.dt nm with
    |none=>(0,g)
    |some (d,c)=>match G.dt[d]? with
     |none=>(0,g)
     |some D=>
      let ar:=Af g.nx D.vars.toNat
      let g:=E3 G ks env 0 (fun i r s=>let q:=Eo ar s.1 (((D.cons[c]?).map Con.args).getD []|>.getD i (.mk 0 0 []));Go.Ab.uni (q.2,s.2) r q.1) (g.frs D.vars.toNat)
      (g.nx,g.add 5 d ar))
        else if o=10 then (match al with
    |[]=>(0,g)
    |a::_=>match Dy G.dt a.con with
     |none=>(0,g)
     |some (d,_)=>match G.dt[d]? with
      |none=>(0,g)
      |some D=>
       let ar:=Af g.nx D.vars.toNat
       let g:=YS G ks env (g.frs D.vars.toNat)
       let r:=g.1
       let g:=(g.2.add 5 d ar).uni r g.2.nx
       let t:=g.nx
       (t,cH G al env D ar t (g.add 0 0 [])))
                               else if o=12 then
    (let q:=De G ks env g
     let t:=q.2.nx
     let g:=(q.2.add 0 0 []).add 9 0 (q.1.tail++[t])
     (t,g.uni (q.1.headD 0) (t+1)))
                              else if o=13 then
    (let g:=E3 G ks env 0 (fun _ r s=>Go.Ab.uni (L3 s.1 1 0 [],s.2) r s.1.length) g
     (g.nx,g.add (if 6<=nu/\nu<=8 then 2 else 1) 0 []))
                   else if o=14 then
    (let b:=g.nx
     let g:=((((g.add 1 0 []).add 0 0 []).add 7 0 [b+1]).add 8 0 [b+1]).add 3 0 []
     let g:=E3 G ks env 0 (fun i r s=>Go.Ab.uni s r ((eT nu b).1.getD i 0)) g
     ((eT nu b).2,g))
        else if o=16 then
    (let q:=YS G ks env g
     let g:=(q.2.add 1 0 []).uni q.1 q.2.nx
     (g.nx,g.add 0 0 []))
       else if o=7 then (let q:=YS G ks env g;AEW G ks (Cy env [nm] [q.1]) q.2)
       else if o=8 then
    (let parts:=Af g.nx ns.length
     let q:=YS G ks env (g.frs ns.length)
     AEW G ks (Cy env ns parts) ((q.2.add 6 0 parts).uni q.1 q.2.nx))
                                   else if o=9 then
    (let q:=YS G ks env g
     let q1:=AEW G ks env ((q.2.add 2 0 []).uni q.1 q.2.nx)
     let q2:=AbP G ks env q1.2
     (q1.1,q2.2.uni q2.1 q1.1))
       else if o=11 then
    (let params:=Af g.nx ns.length
     let q:=YS G ks (Cy env ns params) (g.frs ns.length)
     (q.2.nx,q.2.add 9 0 (params++[q.1])))
                           else
    (let q:=YS G ks env g
     let r:=AEW G ks (Cy env [nm] [q.2.nx]) (q.2.add 1 0 [])
     (q.1,r.2.uni r.1 q.1))
  (r.1,r.2.Ur at_ fun e=> { e with t:=r.1})
def De (G:GC):List Ex->Env->GS->List Nat×GS
 |[],_,g=>([],g)
 |k::ks,env,g=>let r:=BN G k env g;let q:=De G ks env r.2;(r.1::q.1,q.2)
def YS (G:GC):List Ex->Env->GS->Nat×GS
 |[],_,g=>(0,g)
 |k::_,env,g=>BN G k env g
def AEW (G:GC):List Ex->Env->GS->Nat×GS
 |[],_,g=>(0,g)
 |_::ks,env,g=>YS G ks env g
def AbP (G:GC):List Ex->Env->GS->Nat×GS
 |[],_,g=>(0,g)
 |_::ks,env,g=>AEW G ks env g
def E3 (G:GC):List Ex->Env->Nat->(Nat->Nat->SS->SS)->GS->GS
 |[],_,_,_,g=>g
 |k::ks,env,i,f,g=>let r:=BN G k env g;E3 G ks env (i+1) f { r.2 with s:=f i r.1 r.2.s}
def cH (G:GC):List Al->Env->Dat->List Nat->Nat->GS->GS
 |[],_,_,_,_,g=>g
 | .mk c vs b::al,env,D,ar,t,g=>
  let cc:=((Dy G.dt c).map (·.2)).getD 0
  let q:=Bi ar g.s.1 (((D.cons[cc]?).map Con.args).getD [])
  let r:=BN G b (Cy env vs q.1) { g with s:=(q.2,g.s.2)}
  cH G al env D ar t (r.2.uni r.1 t)
end
def J8:Env->DV
 |[]=>.Dt
 |x::e=>.ptr [.str x.1,.int .i64 (x.2:Int),J8 e]
def xU (s:M) (t:Nat) (e:Env):J8 ((s,t)::e)= .ptr [.str s,.int .i64 (t:Int),J8 e]:=rfl
structure PlV (x:I) (v:DV):Prop where
 dv:x.dv=some v
 cell:x.Bo=true
 BS:x.BS=true
 cells:x.cells=[x]
 Cp:∀k,x.Cp k=false
 plain:x.plain= .d v
def PlV.d (v:DV):PlV (.d v) v:=⟨rfl,rfl,rfl,rfl,fun _=>rfl,K6 v⟩
def PlV.Dt:PlV .Dt .Dt:=⟨rfl,rfl,rfl,rfl,fun _=>rfl,Vr⟩
def zN:∀(ns:List M) (ts:List Nat) (e:Env) (s:M) (t:Nat),ns.length=ts.length->Cy e (ns++[s]) (ts++[t])=if s=[] then Cy e ns ts else (s,t)::Cy e ns ts
 |[],[],e,s,t,_=>rfl
 |[],_::_,_,_,_,h=>by simp at h
 |_::_,[],_,_,_,h=>by simp at h
 |n::ns,u::ts,e,s,t,h=>by
  simp only [AU,Cy];exact zN ns ts _ s t (by simpa using h)
def KR (x:I) (env:Env) (g:PlV x (J8 env)) (ns:List M) (ts:List Nat) (q:ns.length=ts.length) (A:X):
 AS Tzp 122 [x,.d (.sl (ns.map CG)),.d (.sl (ts.map Ba))] A (fun v H=>v= .d (J8 (Cy env ns ts))/\H=A):=by
 refine ZZ.go ?_;rw [DN];refine W.slot 1 (fun j=>?_);simp only [DR,reduceIte,HW,I.Ep,AA] at j;(repeat' refine wQ ?_<;>simp only [AA,go_sem]);refine lpK (fun (z:Nat×I)=>[(11,A1 z.1),(0,z.2)]) (fun _=>A) (fun z=>z.1<=ns.length/\PlV z.2 (J8 (Cy env (ns.take z.1) (ts.take z.1)))) (fun z=>ns.length - z.1) ?_ (0,x) ⟨by simp,by simpa [Cy] using g⟩;rintro ⟨p,y⟩ ⟨r,b⟩ n;simp only at r b;by_cases c:p < ns.length
 . obtain ⟨s,l⟩:=Ak c;obtain ⟨t,m⟩:=Ak (show p < ts.length by omega);have d:(ns.map CG)[p]?=some [.str s]:=by rw [Az,l];rfl
   have e:=H5 m;have f:IntKind.i64.wrap ((p:Int)+1)=((p+1:Nat):Int):=by grind [B2]
   have a:=zN (ns.take p) (ts.take p) env s t (by simp;omega);rw [<- Aa l,<- Aa m] at a;by_cases i:s=[]
   . subst i;rw [if_pos rfl] at a;(repeat' first|((first|refine wQ ?_|(refine Dq rfl ?_ ?_<;>intro h<;>try (cases h;done))|fail)<;>try simp only [BI c,d,f,beq_self_eq_true,go_sem])|(constructor<;>intro h<;>first|(cases h;done)|try simp only [h])|fail);exact n (p+1,y) ⟨c,by grind⟩ (by simp only;omega)
   . rw [if_neg i] at a;have o:(s==[])=false:=by simpa using i
     (repeat' refine sQ ?_<;>simp only [BI c,d,e,f,o,b.dv,b.cell,b.cells,go_sem]);exact n (p+1,_) ⟨c,by simp only;rw [a];exact PlV.d _⟩ (by simp only;omega)
 . have k:p=ns.length:=by omega
   rw [k,Ar,q,Ar] at b;(repeat' refine wP ?_<;>simp only [B5 c,b.BS,b.plain,go_sem])
def ARP:Option Nat->I
 |some t=>.tup [.d (.int .i64 (t:Int)),.d (.bool true)]
 |none=>.tup [.d (.int .i64 0),.d (.bool false)]
def wK (env:Env) (s:M) (A:X):
 AS Tzp 206 [.d (J8 env),.d (.str s)] A (fun v H=>v=ARP (Mb env s)/\H=A):=by
 refine ZY.go ?_;(repeat' refine wQ ?_<;>simp only [go_sem]);refine lpK (fun (e:Env)=>[(0,.d (J8 e))]) (fun _=>A) (fun e=>Mb e s=Mb env s) (fun e=>e.length) ?_ env rfl;rintro e a c;cases e with
 |nil=>
  rw [<- a];(repeat' refine wP ?_<;>simp only [J8,go_sem]);rfl
 |cons x e=>
  obtain ⟨n,t⟩:=x;rw [Mb] at a;simp only at a;by_cases h:n=s
  . have b:(n==s)=true:=by simpa using h
    rw [if_pos h] at a;rw [<- a];(repeat' refine sP ?_<;>simp only [xU,b,go_sem]);rfl
  . have b:(n==s)=false:=by simpa using h
    rw [if_neg h] at a;(repeat' refine sQ ?_<;>simp only [xU,b,go_sem]);exact c e a (by simp)
section
section rows
variable {α:Type} (r:α->List I) (s:Nat) (hr:∀x,(r x).length=s)
def rwC (l:List α):List I:=(l.map r).flatten
include hr
theorem Dd (l:List α):(rwC r l).length=l.length * s:=by
 induction l with
 |nil=>simp [rwC]
 |cons x l a=>
  simp only [rwC,AB,BO,A0,AT] at a ⊢
  grind
omit hr in
def AWG (l m:List α):rwC r (l++m)=rwC r l++rwC r m:=by simp [rwC]
omit hr in
def FU (x:α) (l:List α):rwC r (x::l)=r x++rwC r l:=by simp [rwC]
def tA:∀ {l:List α} {i:Nat} {x:α} (o:Nat),l[i]?=some x->o < s->(rwC r l)[i * s+o]?=(r x)[o]?
 |y::l,0,x,o,h,a=>by
  simp only [A7,AP] at h;subst h;rw [FU,To,Av,Di (by rw [hr];exact a)]
 |y::l,i+1,x,o,h,a=>by
  have:=tA (l:=l) (i:=i) (x:=x) o (by simpa using h) a;rw [FU,BY (by rw [hr,Cj];omega),hr,<- this];congr 1;rw [Cj];omega
def YZ:∀ {l:List α} {i:Nat} {x:α},l[i]?=some x->((rwC r l).drop (i * s)).take s=r x
 |y::l,0,x,h=>by
  simp only [A7,AP] at h;subst h;rw [FU,To,N9,List.take_left' (hr _)]
 |y::l,i+1,x,h=>by
  have:=YZ (l:=l) (i:=i) (x:=x) (by simpa using h);rw [FU,show (i+1) * s=(r y).length+i * s from by rw [hr,Cj];omega,HM];exact this
def Of (o:Nat) (v:I) (f:α->α):∀ {l:List α} {i:Nat} {x:α},l[i]?=some x->o < s->(r x).take o++[v]++(r x).drop (o+1)=r (f x)->(rwC r l).take (i * s+o)++[v]++(rwC r l).drop (i * s+o+1)=rwC r (l.modify i f)
 |y::l,0,x,h,a,e=>by
  simp only [A7,AP] at h;subst h;rw [show (y::l).modify 0 f=f y::l from rfl,FU,FU,<- e,To,Av,XM (by rw [hr];omega),List.drop_append_of_le_length (by rw [hr];omega)];simp
 |y::l,i+1,x,h,a,e=>by
  have:=Of (l:=l) (i:=i) (x:=x) o v f (by simpa using h) a e
  rw [show (y::l).modify (i+1) f=y::l.modify i f from rfl,FU,FU,<- this,show (i+1) * s+o=(r y).length+(i * s+o) from by grind,Zr,
   show (r y).length+(i * s+o)+1=(r y).length+(i * s+o+1) from by omega,HM]
  simp
end rows
def En.row (x:En):List I:=[.d (.int .i64 (x.t:Int)),.d (.int .i64 x.f),.d (.sl (x.ar.map Ba))]
theorem En.Bj (x:En):x.row.length=3:=rfl
abbrev enC:=rwC En.row
abbrev tkE:Nat:=260
def enV (en:List En) (jc:Nat):I:=match en with
 |[]=>.Ac
 |_::_=>.ms jc en.length 3 tkE
def Xf {en:List En} (h:en≠[]) (j:Nat):enV en j= .ms j en.length 3 tkE:=by
 cases en with
 |nil=>exact absurd rfl h
 |cons x l=>rfl
def U0 (l:List En) (j:Nat):(enV l j).Bo=true/\(enV l j).BS=true/\(enV l j).cells=[enV l j]/\(∀k,(enV l j).Cp k=false)/\Vh (enV l j)=some (.d (.int .i64 l.length)):=by
 cases l<;>exact ⟨rfl,rfl,rfl,fun _=>rfl,rfl⟩
def Sch.row (x:Sch):List I:=[.d (.int .i64 x.vars),.d (.sl (x.params.map Ty.J)),.d (.int .i64 x.res.kind),.d (.int .i64 x.res.num),.d (.sl (x.res.args.map Ty.J))]
theorem Sch.Bj (x:Sch):x.row.length=5:=rfl
abbrev Vu:=rwC Sch.row
def psC (l:List (List Nat)):List I:=l.map fun a=>.d (.sl (a.map Ba))
abbrev eMm:Nat:=4
abbrev ePp:Nat:=39
abbrev eEe:Nat:=258
abbrev eSs:Nat:=92
structure GB where
 i:Nat
 je:Nat
 jm:Nat
 jp:Nat
 jr:Nat
 js:Nat
 ext:Nat->Option (List I)
 G:GC
 ds:List DE
 cur:Nat
 es:List I
def GB.rest (B:GB):List I:=[.d (.sl (B.ds.map DE.J)),.d (.sl (B.G.fs.map FE.J)),dsA B.G.dt,.ms B.js B.G.sch.length 5 eSs,.ms B.jm B.G.mem.length 1 eMm,.ms B.jp B.G.ps.length 1 ePp,.ms B.jr B.G.rs.length 1 3,.ms B.je B.es.length 1 eEe,.d (.int .i64 (B.cur:Int))]
structure HU (B:GB):Prop where
 ie:B.i≠B.je
 xi:B.ext B.i=none
 xe:B.ext B.je=none
 m:B.ext B.jm=some (BP B.G.mem)
 p:B.ext B.jp=some (psC B.G.ps)
 r:B.ext B.jr=some (DI B.G.rs)
 s:B.ext B.js=some (Vu B.G.sch)
 cur:B.cur < B.es.length
 lm:B.G.mem.length=B.G.fs.length
 lp:B.G.ps.length=B.G.fs.length
 lr:B.G.rs.length=B.G.fs.length
 ls:B.G.sch.length=B.G.fs.length
 lf:B.G.fs.length<=100
structure GI (G:GC) (g:GS):Prop where
 pos:0 < g.nx
 en:∀x∈g.en,x.t < g.nx/\-1<=x.f/\x.f < (G.fs.length:Int)/\∀a∈x.ar,a < g.nx
 ps:∀l∈G.ps,∀a∈l,a < g.nx
 rs:∀a∈G.rs,a < g.nx
structure GX (B:GB) (A:X) (g:GS) (j jc:Nat):Prop where
 sn:SN A B.i g.s.1 g.s.2 B.rest j
 e:A.C B.je=some (B.es.set B.cur (enV g.en jc))
 c:g.en≠[]->A.C jc=some (enC g.en)/\jc≠B.i/\jc≠B.je/\B.ext jc=none/\jc≠j
 x:∀k cs,B.ext k=some cs->A.C k=some cs
 jj:B.ext j=none/\j≠B.je
 gi:GI B.G g
def GX.ne {B:GB} (h:GX B A g j jc):g.s.1≠[]:=fun e=>by have:=h.gi.pos;rw [GS.nx,e] at this;cases this
def GI.step {G:GC} (h:GI G g) {s:SS} (e:g.nx<=s.1.length):GI G { g with s:=s}:=
 ⟨Be h.pos e,fun x j=>by obtain ⟨a,b,c,d⟩:=h.en x j;exact ⟨Be a e,b,c,fun y k=>Be (d y k) e⟩,fun l i a f=>Be (h.ps l i a f) e,fun a f=>Be (h.rs a f) e⟩
def GX.step {B:GB} (q:HU B) {A H:X} {g:GS} {j jc j':Nat} {s:SS} (h:GX B A g j jc) (z:SN H B.i s.1 s.2 B.rest j') (fr:Fr A B.i g.s.1 j H s.1 j') (m:g.nx<=s.1.length):GX B H { g with s:=s} j' jc:=by
 have n:=h.ne;have x:=(h.sn.nd n).1;have o:s.1≠[]:=fun e=>by have:=h.gi.pos;rw [e] at m;simp at m;omega
 have a:∀k cs,k≠B.i->k≠j->A.C k=some cs->H.C k=some cs/\k≠j':=fun k cs w p i=>by
  refine ⟨by rw [fr.C k w (fun _=>p) (by rw [i];simp),i],fun e=>?_⟩;rcases fr.nw o with ⟨_,f⟩|f
  . exact p (e.trans f)
  . rw [<- e,i] at f;cases f
 have d:∀k cs,B.ext k=some cs->H.C k=some cs/\k≠j':=fun k cs b=>
  a k cs (fun e=>by rw [e,q.xi] at b;cases b) (fun e=>by rw [e,h.jj.1] at b;cases b) (h.x k cs b)
 have c:=a B.je _ (A5 q.ie) (A5 h.jj.2) h.e;refine ⟨z,c.1,fun l=>?_,fun k cs b=>(d k cs b).1,⟨?_,A5 c.2⟩,h.gi.step m⟩
 . obtain ⟨r,c2,t,u,v⟩:=h.c l;obtain ⟨d1,d2⟩:=a jc _ c2 v r;exact ⟨d1,c2,t,u,d2⟩
 . cases y:B.ext j' with
   |none=>rfl
   |some cs=>exact absurd rfl (d j' cs y).2
end
variable {B:GB}
def AZX {α:Type} {l:List α} (h:n < l.length) (a b:α):(l.set n a).take n++[b]++(l.set n a).drop (n+1)=l.set n b:=by
 induction l generalizing n with
 |nil=>cases h
 |cons x l c=>
  cases n with
  |zero=>simp
  |succ n=>
   grind
def JU.en {K:CV} {F:Fm} {L:Lm} {A:X} {d:Option Nat} {B:GB} (Q:HU B) {g:GS} {j jc bytes:Nat} {x:I} {t:Nat} {f:Int} {ar:List Nat} (h:GX B A g j jc)
 (l:x.rows=some [[.int .i64 (t:Int),.int .i64 f,.sl (ar.map Ba)]]) (hl:g.en.length<=900000000) (R:bytes<=10000) (hn:t < g.nx/\-1<=f/\f < (B.G.fs.length:Int)/\∀a∈ar,a < g.nx)
 (hK:∀b V,V.C B.i=A.C B.i->V.C B.je=A.C B.je->GX B (V.AI B.je (B.es.set B.cur (.ms b (g.en.length+1) 3 tkE))) { g with en:=g.en++[⟨t,f,ar⟩]} j b->(nbH A).le V->
   K (BW d (.ms b (g.en.length+1) 3 tkE) F) L V):JU tkE 3 bytes (enV g.en jc) x d K F L A:=by
 have G:=(h.sn.nd h.ne).1;obtain ⟨T,D,r⟩:=(h.sn.nd h.ne).2
 have E:GI B.G { g with en:=g.en++[⟨t,f,ar⟩]}:=⟨h.gi.pos,fun y p=>by
  rcases A2.1 p with p|p
  . exact h.gi.en y p
  . simp only [A9] at p;subst p;exact hn,h.gi.ps,h.gi.rs⟩
 have hV:∀j',enV (g.en++[⟨t,f,ar⟩]) j'= .ms j' (g.en.length+1) 3 tkE:=fun j'=>by rw [Xf (by simp)];simp
 -- the old block j0 goes, jc' comes
 have key:∀(b:Nat) (V:X),A.C b=none->(∀k,k≠b->(g.en≠[]->k≠jc)->V.C k=A.C k)->V.C b=some (enC (g.en++[⟨t,f,ar⟩]))->(nbH A).le V->K (BW d (.ms b (g.en.length+1) 3 tkE) F) L V:=fun b V i w hc N=>by
  have S:B.i≠b:=fun e=>by rw [<- e,h.sn.C] at i;cases i
  have m:B.je≠b:=fun e=>by rw [<- e,h.e] at i;cases i
  have s:j≠b:=fun e=>by rw [<- e,r] at i;cases i
  have v:B.ext b=none:=by
   cases l:B.ext b with
   |none=>rfl
   |some cs=>rw [h.x _ _ l] at i;cases i
  have P:V.C B.i=A.C B.i:=w _ S (fun c=>A5 (h.c c).2.1);have Y:V.C B.je=A.C B.je:=w _ m (fun c=>A5 (h.c c).2.2.1);have Z:V.C j=A.C j:=w _ s (fun c=>A5 (h.c c).2.2.2.2);refine hK b V P Y ⟨⟨?_,h.sn.Gn,fun _=>⟨G,T,D,?_⟩⟩,?_,fun _=>⟨?_,A5 S,A5 m,v,A5 s⟩,fun k cs l=>?_,h.jj,E⟩ N
  . rw [AD,if_neg Q.ie,P,h.sn.C]
  . rw [AD,if_neg h.jj.2,Z,r]
  . rw [AD,if_pos rfl,hV]
  . rw [AD,if_neg (A5 m),hc]
  . have q:k≠B.je:=fun e=>by rw [e,Q.xe] at l;cases l
    have z:k≠b:=fun e=>by rw [e,v] at l;cases l
    rw [AD,if_neg q,w k z (fun c e=>by rw [e,(h.c c).2.2.2.1] at l;cases l),h.x k cs l]
 have u:BL [[.int .i64 (t:Int),.int .i64 f,.sl (ar.map Ba)]]=enC [⟨t,f,ar⟩]:=by simp [BL,rwC,En.row]
 by_cases o:g.en=[]
 . rw [o];refine JU.mk (n:=0) (cs:=[]) (σ1:=A) rfl l (by simp) (by simp) (by simp) R (fun j' i=>?_)
   have:=key j' (A.AI j' ([]++BL [[.int .i64 (t:Int),.int .i64 f,.sl (ar.map Ba)]])) i (fun k q _=>by rw [AD,if_neg q]) (by rw [AD,if_pos rfl,o,u];rfl)
    ⟨fun _ _ h=>(by cases h),fun _ h=>h,rfl,fun _ _ h=>h⟩
   rw [o] at this;exact this
 . obtain ⟨U,c2,c3,c4,c5⟩:=h.c o;rw [Xf o];refine JU.mk (n:=g.en.length) (cs:=enC g.en) (σ1:=A.CM jc) (by simp [M6,U,Dd En.row 3 En.Bj]) l (by simp) (by simp) (by simp;omega) R (fun j' i=>?_);refine key j' ((A.CM jc).AI j' (enC g.en++BL [[.int .i64 (t:Int),.int .i64 f,.sl (ar.map Ba)]])) i (fun k q z=>by rw [AD,if_neg q,B9,if_neg (z o)]) (by rw [AD,if_pos rfl,u,<- AWG]) ⟨fun _ _ h=>(by cases h),fun _ h=>h,rfl,fun _ _ h=>h⟩
def GX.mod (D:HU B) {at_:Nat} (h:GX B A g j jc) (f:En->En) {x:En} (p:g.en[at_]?=some x) (v:(f x).t < g.nx/\-1<=(f x).f/\(f x).f < (B.G.fs.length:Int)/\∀a∈(f x).ar,a < g.nx):
 GX B (A.AI jc (enC (g.en.modify at_ f))) (g.Ur at_ f) j jc:=by
 show GX B _ { g with en:=g.en.modify at_ f} j jc;have c:g.en≠[]:=fun e=>by rw [e] at p;simp at p
 obtain ⟨z,c2,r,s,t⟩:=h.c c;have n:=(h.sn.nd h.ne).1;obtain ⟨u,l,i⟩:=(h.sn.nd h.ne).2;have b:(g.en.modify at_ f).length=g.en.length:=by simp
 have d:g.en.modify at_ f≠[]:=fun e=>c (Ay (by rw [<- b,e];rfl))
 refine ⟨⟨?_,h.sn.Gn,fun _=>⟨n,u,l,?_⟩⟩,?_,fun _=>⟨?_,c2,r,s,t⟩,fun k cs o=>?_,h.jj,⟨h.gi.pos,fun y w=>?_,h.gi.ps,h.gi.rs⟩⟩
 . rw [AD,if_neg (A5 c2),h.sn.C]
 . rw [AD,if_neg (A5 t),i]
 . rw [AD,if_neg (A5 r),h.e,Xf c,Xf d,b]
 . rw [AD,if_pos rfl]
 . rw [AD,if_neg (fun e=>by rw [e,s] at o;cases o),h.x k cs o]
 . obtain ⟨m,E,rfl⟩:=CJ w;rw [List.getElem_modify];split
   . rename_i e;subst e
     have q:x=g.en[at_]:=by
      have:=(AG.1 p).2;exact this.symm
     rw [<- q];exact v
   . exact h.gi.en _ (Fa _)
structure ES (sc:List M) (env:Env) (g:GS):Prop where
 sc:∀s,s≠[]->((Mb env s).isSome=sc.contains s)
 lt:∀x∈env,x.2 < g.nx
def ES.le {env:Env} {g':GS} (h:ES sc env g) (a:g.nx<=g'.nx):ES sc env g':=⟨h.sc,fun x b=>Be (h.lt x b) a⟩
def OkE (G:GC) (e:Ex) (sc:List M):Prop:=∀x∈Bl e sc,M4 G.fs G.dt x.1 x.2=0/\nb1 x.1
structure GD (G:GC):Prop where
 dt:∀d∈G.dt,0<=d.vars/\d.vars<=1000/\d.cons.length<=1000000/\∀c∈d.cons,ML d.vars.toNat c.args=true/\Ty.AQ c.args<=100000
 sch:∀s∈G.sch,0<=s.vars/\s.vars<=100000/\ML s.vars.toNat s.params=true/\Vx s.vars.toNat s.res=true/\Ty.AQ s.params<=100000/\s.res.size<=100000
 nn:∀l∈G.ps,l.length<=1000
structure RQ (B:GB) (A:X) (g:GS) (n c m:Nat) (g':GS) (H:X):Prop where
 nb:(nbH A).le H
 gx:∃j jc,GX B H g' j jc
 lt:n < g'.nx
 le:g.nx<=g'.nx
 hi:g'.nx+500000<=g.nx+c
 en:g'.en.length=g.en.length+m
def ExC (B:GB) (e:Ex):Prop:=∀(sc:List M) (env:Env) (g:GS) (A:X) (j jc:Nat),OkE B.G e sc->ES sc env g->g.nx+1000000 * e.size<=900000000->g.en.length+e.size<=900000000->GX B A g j jc->
 AS Tzp 121 [.gp B.i 0,exA e,.d (J8 env)] A (fun v H=>v=nA (BN B.G e env g).1/\RQ B A g (BN B.G e env g).1 (1000000 * e.size) e.size (BN B.G e env g).2 H)
section
def fN (o:CP Tzp fid=true) (f:Ae.all I.BS=true) (p:Nat->Bool) (Q04:X->Prop) (l:List Nat) (s:∀x∈l,∀V,Q04 V->AS Tzp fid (nA x::Ae) V (fun v H=>v= .d (.bool (p x))/\Q04 H)) (A:X) (r:Q04 A):
 AS Tzp 179 [.d (.sl (l.map Ba)),.fn fid [] Ae] A (fun v H=>v= .d (.int .i64 (Hq (l.findIdx? p)))/\Q04 H):=by
 refine V8.go ?_;rw [B4];refine W.slot 0 (fun k=>?_);simp only [DR,if_true,I.Ep,AA] at k;(repeat' refine wQ ?_<;>simp only [AA,go_sem]);refine lpK (fun (z:Nat×X)=>[(8,A1 z.1)]) (fun z=>z.2) (fun z=>z.1<=l.length/\(∀x∈l.take z.1,p x=false)/\Q04 z.2) (fun z=>l.length - z.1) ?_ (0,A) ⟨by simp,by simp,r⟩;rintro ⟨i,V⟩ ⟨t,b,n⟩ u;simp only at t b n;by_cases a:i < l.length
 . obtain ⟨x,j⟩:=Ak a;have q:=H5 j;have d:IntKind.i64.wrap ((i:Int)+1)=((i+1:Nat):Int):=by grind [B2]
   have e:=s x (AE j) V n;simp only [nA] at e;cases h:p x with
   |true=>
    rw [h] at e;(repeat' refine wP ?_<;>simp only [BI a,q,go_sem]);refine ⟨fid,[],Ae,rfl,o,AN.mk (by simp [f,Je]) e ?_⟩;rintro _ g ⟨rfl,c⟩;simp only [go_sem];(repeat' refine wP ?_<;>simp only [go_sem]);exact ⟨by rw [Cn b j h];rfl,c⟩
   |false=>
    rw [h] at e;(repeat' refine wQ ?_<;>simp only [BI a,q,go_sem]);refine ⟨fid,[],Ae,rfl,o,AN.mk (by simp [f,Je]) e ?_⟩;rintro _ g ⟨rfl,c⟩;simp only [go_sem];(repeat' refine wQ ?_<;>simp only [d,go_sem]);exact u ⟨i+1,g⟩ ⟨a,Ea b j h,c⟩ (by simp only;omega)
 . have m:i=l.length:=by omega
   subst m;rw [Ar] at b;(repeat' refine wP ?_<;>simp only [B5 a,go_sem]);exact ⟨by rw [Co b];rfl,n⟩
def Oy (c:CP Tzp fid=true) (a:Ae.all I.BS=true) (p:Nat->Bool) (Q04:X->Prop) (l:List Nat) (d:∀x∈l,∀V,Q04 V->AS Tzp fid (nA x::Ae) V (fun v H=>v= .d (.bool (p x))/\Q04 H)) (A:X) (b:Q04 A):
 AS Tzp 128 [.d (.sl (l.map Ba)),.fn fid [] Ae] A (fun v H=>v= .d (.bool (l.any p))/\Q04 H):=by
 refine Rf.go ?_;(repeat' refine wQ ?_<;>simp only [go_sem]);refine AN.mk rfl (fN c a p Q04 l d A b) ?_;rintro _ V ⟨rfl,e⟩;simp only [go_sem];(repeat' refine wP ?_<;>simp only [go_sem])
 grind [N0,Fy]
def JZ (ext:Nat->Option (List I)) (O:X) (i:Nat) (rest:List I) (l:List Nd) (fl:Bool) (js:Nat) (V:X):Prop:=(nbH O).le V/\∃kn j',KN l kn/\SX ext V i l fl rest j' js (DI kn)
structure JE (ext:Nat->Option (List I)) (i:Nat) (l:List Nd) (d:Nat->Nat) (js j1 j3 j4:Nat):Prop where
 ln:l.length<=900000000
 fr:FR l d
 x1:ext j1=some [.gp i 0]
 x3:ext j3=some [.ms js l.length 1 3]
 x4:ext j4=some [szC j1 j3 j4]
variable {ext:Nat->Option (List I)} {O:X} {i:Nat} {rest:List I} {l:List Nd} {d:Nat->Nat} {fl:Bool} {js j1 j3 j4:Nat}
def AOC (a:JE ext i l d js j1 j3 j4) (n:Nat) (m:n < l.length) (V:X) (j:JZ ext O i rest l fl js V):
 AS Tzp 126 [nA n,.gp j1 0,.gp j3 0,.gp j4 0] V (fun v H=>v=nA (szN l n)/\JZ ext O i rest l fl js H):=by
 obtain ⟨b,q,j',k,o⟩:=j;refine (AI3 ext i rest l d a.fr fl j1 j3 j4 js a.ln a.x1 a.x3 a.x4 (d (rtN l n)+1) q j' V n (by omega) k m o).mono ?_;rintro v H ⟨e,f,c,p,g,h⟩;exact ⟨e,D9 b f,c,p,g,h⟩
def mY (l:List Nd) (n:Nat):Bool:=decide (200 < (szN l n:Int))
def P6 (f:JE ext i l d js j1 j3 j4) (j:ext j5=some [szC j1 j3 j4]) (n:Nat) (g:n < l.length) (V:X) (c:JZ ext O i rest l fl js V):
 AS Tzp 127 [nA n,.gp j5 0] V (fun v H=>v= .d (.bool (mY l n))/\JZ ext O i rest l fl js H):=by
 have b:=AOC f n g V c;have e:V.C j5=some [szC j1 j3 j4]:=by obtain ⟨_,_,_,_,h⟩:=c;exact h.x _ _ j
 refine TF.go ?_;rw [B4];simp only [nA] at b ⊢;(repeat' refine wQ ?_<;>simp only [e,go_sem]);refine ⟨126,[],[.gp j1 0,.gp j3 0,.gp j4 0],rfl,by kernel_rfl,AN.mk rfl b ?_⟩;rintro _ k ⟨rfl,a⟩;simp only [go_sem];(repeat' refine wP ?_<;>simp only [go_sem]);exact ⟨rfl,a⟩
def ARD (l:List Nd) (e:En):Bool:=mY l e.t||e.ar.any (mY l)
def enA (e:En):I:= .agg e.row
def AAJ (p:JE ext i l d js j1 j3 j4) {j7:Nat} (s:ext j5=some [szC j1 j3 j4]) (y:ext j7=some [.fn 127 [] [.gp j5 0]]) (e:En) (r:e.t < l.length) (o:∀a∈e.ar,a < l.length) (V:X) (g:JZ ext O i rest l fl js V):
 AS Tzp 130 [enA e,.gp j7 0] V (fun v H=>v= .d (.bool (ARD l e))/\JZ ext O i rest l fl js H):=by
 have n:∀V,JZ ext O i rest l fl js V->V.C j7=some [.fn 127 [] [.gp j5 0]]:=fun V g=>by obtain ⟨_,_,_,_,u⟩:=g;exact u.x _ _ y
 have h:=n V g;have j:=P6 p s e.t r V g;refine TG.go ?_;rw [B4];obtain ⟨t,f,ar⟩:=e;simp only [enA,En.row,nA] at r o j ⊢;simp only [ARD];cases q:mY l t with
 |true=>
  rw [q] at j;(repeat' refine wQ ?_<;>simp only [h,go_sem]);refine ⟨127,[],[.gp j5 0],rfl,by kernel_rfl,AN.mk rfl j ?_⟩;rintro _ c ⟨rfl,b⟩;simp only [go_sem];(repeat' refine wP ?_<;>simp only [go_sem]);exact b
 |false=>
  rw [q] at j;(repeat' refine wQ ?_<;>simp only [h,go_sem]);refine ⟨127,[],[.gp j5 0],rfl,by kernel_rfl,AN.mk rfl j ?_⟩;rintro _ c ⟨rfl,b⟩;have k:=n c b;simp only [k,go_sem];refine AN.mk rfl (Oy (fid:=127) (Ae:=[.gp j5 0]) (by kernel_rfl) rfl (mY l) (JZ ext O i rest l fl js) ar (fun x w V g=>P6 p s x (o x w) V g) c b) ?_;rintro _ z ⟨rfl,m⟩;simp only [go_sem];(repeat' refine wP ?_<;>simp only [go_sem]);exact m
def lO (y:CP Tzp fid=true) (j:Ae.all I.BS=true) (p:En->Bool) (Q04:X->Prop) (en:List En) (jc:Nat) (u:en≠[]->∀V,Q04 V->V.C jc=some (enC en)) (P:en.length<=900000000) (K:∀x∈en,∀V,Q04 V->AS Tzp fid (enA x::Ae) V (fun v H=>v= .d (.bool (p x))/\Q04 H)) (A:X) (G:Q04 A):
 AS Tzp 180 [enV en jc,.fn fid [] Ae] A (fun v H=>v= .d (.int .i64 (Hq (en.findIdx? p)))/\Q04 H):=by
 refine M1.go ?_;rw [B4];obtain ⟨D,E,F,w4,N⟩:=U0 en jc;(repeat' refine wQ ?_<;>simp only [N,go_sem]);refine lpK (fun (z:Nat×X)=>[(8,A1 z.1)]) (fun z=>z.2) (fun z=>z.1<=en.length/\(∀x∈en.take z.1,p x=false)/\Q04 z.2) (fun z=>en.length - z.1) ?_ (0,A) ⟨by simp,by simp,G⟩;rintro ⟨i,V⟩ ⟨L,b,o⟩ B;simp only at L b o;by_cases a:i < en.length
 . obtain ⟨x,r⟩:=Ak a;have k:en≠[]:=fun e=>by grind
   rw [Xf k] at B ⊢;have g:=u k V o;have d:=YZ En.row 3 En.Bj r;have m:(i * 3+3<=(enC en).length)=True:=by rw [Dd En.row 3 En.Bj];simp;omega
   have l:=ltT a;have w:=wS i;have h:=K x (AE r) V o;obtain ⟨t,f,ar⟩:=x;simp only [enA,En.row] at h d;cases q:p ⟨t,f,ar⟩ with
   |true=>
    rw [q] at h;(repeat' refine wP ?_<;>simp only [g,d,m,l,go_sem]);refine ⟨fid,[],Ae,rfl,y,AN.mk (by simp [j,CY]) h ?_⟩;rintro _ n ⟨rfl,c⟩;simp only [go_sem];(repeat' refine wP ?_<;>simp only [go_sem]);exact ⟨by rw [Cn b r q];rfl,c⟩
   |false=>
    rw [q] at h;(repeat' refine wQ ?_<;>simp only [g,d,m,l,go_sem]);refine ⟨fid,[],Ae,rfl,y,AN.mk (by simp [j,CY]) h ?_⟩;rintro _ n ⟨rfl,c⟩;simp only [go_sem];(repeat' refine wQ ?_<;>simp only [w,go_sem]);exact B ⟨i+1,n⟩ ⟨a,Ea b r q,c⟩ (by simp only;omega)
 . have s:i=en.length:=by omega
   subst s;rw [Ar] at b;(repeat' refine wP ?_<;>simp only [B5 a,go_sem]);exact ⟨by rw [Co b];rfl,o⟩
def Zo (e:CP Tzp fid=true) (a:Ae.all I.BS=true) (p:En->Bool) (Q04:X->Prop) (en:List En) (jc:Nat) (b:en≠[]->∀V,Q04 V->V.C jc=some (enC en)) (g:en.length<=900000000) (f:∀x∈en,∀V,Q04 V->AS Tzp fid (enA x::Ae) V (fun v H=>v= .d (.bool (p x))/\Q04 H)) (A:X) (d:Q04 A):
 AS Tzp 129 [enV en jc,.fn fid [] Ae] A (fun v H=>v= .d (.bool (en.any p))/\Q04 H):=by
 obtain ⟨h,c,i,w4,j⟩:=U0 en jc;refine Kl.go ?_;(repeat' refine wQ ?_<;>simp only [go_sem]);refine AN.mk (by simp [c,eN]) (lO e a p Q04 en jc b g f A d) ?_;rintro _ V ⟨rfl,k⟩;simp only [go_sem];(repeat' refine wP ?_<;>simp only [go_sem])
 grind [N0,Fy]
end
def GX.nbo (h:GX B A g j jc) (a:∀k,H.C k=A.C k):GX B H g j jc:=
 ⟨h.sn.own a,by rw [a];exact h.e,fun b=>by rw [a];exact h.c b,fun k cs c=>by rw [a];exact h.x k cs c,h.jj,h.gi⟩
def BJ (h:(nbH A).le V) (k:(nbH V).le υ):(nbH A).le υ:=
 ⟨fun _ _ h=>(by cases h),fun t a=>k.tok t (h.tok t a),h.gt.trans k.gt,fun i x b=>k.bt i x (h.bt i x b)⟩
def Bn.nb {O:X} {s:Nat} {rows:List (List DV)} (a:Bn (nbH O) e s rows v V) (h:(nbH V).le τ'):Bn (nbH O) e s rows v τ':=
 a.Ee (BJ a.le h) (fun t _ b=>h.tok t b)
def QQ (G:GC):∀(ks:List Ex) (env:Env) (g:GS),(De G ks env g).1.length=ks.length
 |[],_,_=>rfl
 |k::ks,env,g=>by simp only [De,AT,QQ G ks]
def kT (G:GC) (k:Ex) (env:Env):∀(ks:List Ex) (g:GS),De G (ks++[k]) env g=((De G ks env g).1++[(BN G k env (De G ks env g).2).1],(BN G k env (De G ks env g).2).2)
 |[],g=>rfl
 |u::ks,g=>by
  rw [AU,De];simp only [kT G k env ks];simp only [De,AU]
theorem Ex.LO (a b:List Ex):Ex.AQ (a++b)=Ex.AQ a+Ex.AQ b:=by
 induction a with
 |nil=>simp [Ex.AQ]
 |cons x a c=>grind [Ex.AQ]
def Ex.Ck {p:Nat} {k:Ex} (h:ks[p]?=some k):Ex.AQ (ks.take (p+1))=Ex.AQ (ks.take p)+k.size/\Ex.AQ (ks.take p)+k.size<=Ex.AQ ks:=by
 have a:Ex.AQ (ks.take (p+1))=Ex.AQ (ks.take p)+k.size:=by rw [Aa h,Ex.LO];simp [Ex.AQ]
 grind [Am,Ex.LO]
structure RSn (B:GB) (A:X) (g:GS) (l:List Nat) (ks:List Ex) (g':GS) (H:X):Prop where
 nb:(nbH A).le H
 gx:∃j jc,GX B H g' j jc
 lt:∀a∈l,a < g'.nx
 le:g.nx<=g'.nx
 hi:g'.nx+500000 * ks.length<=g.nx+1000000 * Ex.AQ ks
 en:g'.en.length=g.en.length+Ex.AQ ks
def AD1 (B:GB) (ks:List Ex) (hk:∀k∈ks,ExC B k) (sc:List M) (env:Env) (g:GS) (A:X) (j jc:Nat) (F:∀k∈ks,OkE B.G k sc) (x:ES sc env g) (h1:g.nx+1000000 * Ex.AQ ks<=900000000) (Y:g.en.length+Ex.AQ ks<=900000000) (Z:GX B A g j jc):
 AS Tzp 173 [.gp B.i 0,.d (.sl (ks.map Ex.J)),.d (J8 env)] A (fun v H=>Bn (nbH A) 3 1 ((De B.G ks env g).1.map Ba) v H/\RSn B A g (De B.G ks env g).1 ks (De B.G ks env g).2 H):=by
 have h0:=Ex.CL ks;refine YC.go ?_;(repeat' refine wQ ?_<;>simp only [AA,go_sem])
 refine lpK (fun (z:Nat×I×X)=>[(12,A1 z.1),(7,z.2.1)]) (fun z=>z.2.2)
  (fun z=>z.1<=ks.length/\Bn (nbH A) 3 1 ((De B.G (ks.take z.1) env g).1.map Ba) z.2.1 z.2.2/\RSn B A g (De B.G (ks.take z.1) env g).1 (ks.take z.1) (De B.G (ks.take z.1) env g).2 z.2.2)
  (fun z=>ks.length - z.1) ?_ (0,.Ac,A) ⟨by simp,by simpa [De] using ANU 3 1,by simp only [CD,De];exact ⟨IW A,⟨j,jc,Z⟩,by simp,AW _,by simp [Ex.AQ],by simp [Ex.AQ]⟩⟩
 rintro ⟨p,v,V⟩ ⟨hp,m,h⟩ ih;simp only at hp m h;by_cases d:p < ks.length
 . obtain ⟨k,c⟩:=Ak d;have T:=Au (J:=Ex.J) c;have N:=wS p;obtain ⟨h4,h5⟩:=Ex.Ck c;have i:=kT B.G k env (ks.take p) g;rw [<- Aa c] at i;have K:(De B.G (ks.take p) env g).1.length=p:=by rw [QQ];simp;omega
   generalize De B.G (ks.take p) env g=q at *;obtain ⟨j1,P,y⟩:=h.gx;have E:=h.hi;have t:=h.le;have U:=h.en;have L:(ks.take p).length=p:=by simp;omega
   rw [L] at E;have e:=AE c;have S:=hk k e sc env q.2 V j1 P (F k e) (x.le t) (by omega) (by omega) y;generalize BN B.G k env q.2=r at *;obtain ⟨o,n,u,ns,kk,al⟩:=k;simp only [Ex.A6,exA,AB,AJ] at T S;(repeat' refine sQ ?_<;>simp only [BI d,T,m.w4,go_sem]);refine AN.mk rfl S ?_;rintro _ h6 ⟨rfl,s⟩;simp only [nA];simp only [go_sem];refine DH.own (m.nb s.nb) rfl (by simp) (by simp [K];omega) (by omega) (fun v' R b w=>?_);(repeat' refine sQ ?_<;>simp only [N,go_sem]);obtain ⟨j2,Q,D⟩:=s.gx;have f:=s.le;have h3:=s.hi;have h2:=s.en;refine ih ⟨p+1,v',R⟩ ⟨d,?_,?_⟩ (by simp only;omega)
   . simp only [i];rw [A4];exact b
   . simp only [i];refine ⟨b.le,⟨j2,Q,D.nbo w⟩,fun a l=>?_,Ai t f,?_,?_⟩
     . rcases A2.1 l with l|l
       . exact Be (h.lt a l) f
       . simp only [A9] at l;subst l;exact s.lt
     . grind
     . omega
 . have G:p=ks.length:=by omega
   subst G;rw [Ar] at m h;(repeat' refine wR ?_<;>simp only [B5 d,m.w4,go_sem]);exact ⟨m,h⟩
def VA (l:List Nat) (A:X) (m:l.length<=1000000):AS Tzp 182 [.d (.sl (l.map Ba))] A (fun v H=>Bn (nbH A) 3 1 (l.map Ba) v H/\∀k,H.C k=A.C k):=by
 refine aZ.go ?_;(repeat' refine wQ ?_<;>simp only [go_sem]);have d:∀t,A.tok t=false->Bn (nbH A) 3 1 [] (.own t 3 1 []) (A.BV t):=fun t g=>Bn.own (IW A) (IW A) g;have e:∀r∈l.map Ba,r.length=1:=fun r i=>by obtain ⟨a,_,rfl⟩:=BR.1 i;rfl
 cases l with
 |nil=>
  refine XEx.AS8 rfl rfl (fun b=>?_);cases b with
  |true=>
   (repeat' first|((first|refine wR ?_|(refine Dq rfl ?_ ?_<;>intro h<;>try (cases h;done))|fail)<;>try simp only [go_sem])|(constructor<;>intro h<;>first|(cases h;done)|try simp only [h])|fail);exact ⟨ANU 3 1,by simp⟩
  |false=>
   (repeat' first|((first|refine wQ ?_|(refine Dq rfl ?_ ?_<;>intro h<;>try (cases h;done))|fail)<;>try simp only [go_sem])|(constructor<;>intro h<;>first|(cases h;done)|try simp only [h])|fail);refine WM.own rfl trivial (fun t g=>?_);simp only [go_sem];refine DH.own (d t g) rfl e (by simp) (by omega) (fun j V c f=>?_);(repeat' refine wR ?_<;>simp only [c.BS,go_sem]);exact ⟨c,fun k=>(f k).trans rfl⟩
 |cons a l=>
  refine XEx.wZ (b:=false) rfl rfl ?_;(repeat' first|((first|refine wQ ?_|(refine Dq rfl ?_ ?_<;>intro h<;>try (cases h;done))|fail)<;>try simp only [go_sem])|(constructor<;>intro h<;>first|(cases h;done)|try simp only [h])|fail);refine WM.own rfl trivial (fun t g=>?_);simp only [go_sem];refine DH.own (d t g) rfl e (by grind) (by omega) (fun j V c f=>?_);(repeat' refine wR ?_<;>simp only [c.BS,go_sem]);exact ⟨c,fun k=>(f k).trans rfl⟩
def Fr.nb {i:Nat} {l:List Nd} (h:Fr A i l j V l' j'):(nbH A).le V:=h.nb2 (IW A)
def GX.bi (h:GX B A g j jc):A.C B.i=some (.ms j g.s.1.length 4 tkN::.d (.bool g.s.2)::[.d (.sl (B.ds.map DE.J)),.d (.sl (B.G.fs.map FE.J)),dsA B.G.dt,.ms B.js B.G.sch.length 5 eSs,.ms B.jm B.G.mem.length 1 eMm,.ms B.jp B.G.ps.length 1 ePp,.ms B.jr B.G.rs.length 1 3,.ms B.je B.es.length 1 eEe,.d (.int .i64 (B.cur:Int))]):=by
 rw [h.sn.C,Ef h.ne];rfl
def GX.add (a:HU B) {k n:Int} {ar:List Nat} {v0:I} (h:GX B A g j jc) (q:SNQ A B.i g.s.1 B.rest j (L3 g.s.1 k n ar,g.s.2) v0 v H):v=v0/\(nbH A).le H/\∃j',GX B H (g.add k n ar) j' jc:=by
 obtain ⟨e,j',b,fr⟩:=q;exact ⟨e,fr.nb,j',h.step a (s:=(L3 g.s.1 k n ar,g.s.2)) b fr (by simp [Hh,GS.nx])⟩
theorem DD (g:GS) (k n:Int) (ar:List Nat):(g.add k n ar).nx=g.nx+1:=by simp [GS.add,GS.nx,Hh]
def AAH (g:GS) (k n:Int) (ar:List Nat):(g.add k n ar).en=g.en:=rfl
def NK (g:GS) (a b:Nat):(g.uni a b).nx=g.nx:=by simp [GS.uni,GS.nx,AB1]
def AQB (g:GS) (a b:Nat):(g.uni a b).en=g.en:=rfl
def bM (g:GS) (n:Nat):(g.frs n).nx=g.nx+n:=by simp [GS.frs,GS.nx,LC]
def AHP (g:GS) (n:Nat):(g.frs n).en=g.en:=rfl
def GX.frs (a:HU B) {v0:I} (h:GX B A g j jc) (q:SNQ A B.i g.s.1 B.rest j (E9 g.s.1 n,g.s.2) v0 v H):v=v0/\(nbH A).le H/\∃j',GX B H (g.frs n) j' jc:=by
 obtain ⟨e,j',b,fr⟩:=q;exact ⟨e,fr.nb,j',h.step a (s:=(E9 g.s.1 n,g.s.2)) b fr (by simp [LC,GS.nx])⟩
theorem GX.uni {B:GB} (c:HU B) {A H:X} {g:GS} {j jc a b:Nat} (h:GX B A g j jc) (q:UNQ A B.i g.s.1 B.rest j (K1 g.s.1.length g.s a b) H):(nbH A).le H/\∃j',GX B H (g.uni a b) j' jc:=by
 obtain ⟨⟨j',d,fr⟩,_⟩:=q;exact ⟨fr.nb,j',h.step c (s:=Go.Ab.uni g.s a b) d fr (by rw [AB1];exact AW _)⟩
def ADI (B:GB) (p:HU B) (o:Int) (g:GS) (A:X) (j jc:Nat) (i:g.nx<=900000000) (l:GX B A g j jc):
 AS Tzp 171 [.gp B.i 0,.d (.int .i64 o)] A (fun v H=>v=nA g.nx/\(nbH A).le H/\∃j',GX B H (g.add (ADF o) 0 []) j' jc):=by
 have f:=fun k=>CH B.i j g.s.1 g.s.2 B.rest A k .Ac [] l.sn DG.Ac (by simp) i;refine Ub.go ?_;rw [B4];have a:∀k,ADF o=k->∀v H,SNQ A B.i g.s.1 B.rest j (L3 g.s.1 k 0 [],g.s.2) (nA g.s.1.length) v H->v=nA g.nx/\(nbH A).le H/\∃j',GX B H (g.add (ADF o) 0 []) j' jc:=fun k e v H q=>by rw [e];exact l.add p q
 by_cases c:o=2
 . subst c;(repeat' refine wP ?_<;>simp only [go_sem]);refine AN.mk rfl (f 2) ?_;intro v H q;have b:=q.1;subst b;have:=a 2 rfl _ _ q;simp only [nA];simp only [go_sem];(repeat' refine wP ?_<;>simp only [go_sem]);exact this
 by_cases d:o=3
 . subst d;(repeat' first|((first|refine wP ?_|(refine Dq rfl ?_ ?_<;>intro h<;>try (cases h;done))|fail)<;>try simp only [go_sem])|(constructor<;>intro h<;>first|(cases h;done)|try simp only [h])|fail);refine AN.mk rfl (f 1) ?_;intro v H q;have b:=q.1;subst b;have:=a 1 rfl _ _ q;simp only [nA];simp only [go_sem];(repeat' refine wP ?_<;>simp only [go_sem]);exact this
 . have m:(o==2)=false:=by simpa using c
   have n:(o==3)=false:=by simpa using d
   (repeat' refine wP ?_<;>simp only [m,n,go_sem]);refine AN.mk rfl (f 3) ?_;intro v H q;have b:=q.1;subst b;have:=a 3 (by simp [ADF,c,d]) _ _ q;simp only [nA];simp only [go_sem];(repeat' refine wP ?_<;>simp only [go_sem]);exact this
def xC (f:FE) (s:M) (j:Nat) (A:X) (a:A.C j=some [.d (.str s)]):AS Tzp 207 [feA f,.gp j 0] A (fun v H=>v= .d (.bool (f.name==s))/\H=A):=by
 refine Rk.go ?_;rw [B4];obtain ⟨nm,b,o,n,u,ns,ks,al⟩:=f;simp only [FE.J,Ex.A6,feA,AB,AJ];(repeat' refine wP ?_<;>simp only [a,CZ,go_sem])
def yO:∀ {e:Env} {s:M} {t:Nat},Mb e s=some t->(s,t)∈e
 |x::e,s,t,h=>by
  obtain ⟨n,u⟩:=x;rw [Mb] at h;split at h
  . rename_i a;simp only at a h;cases h;rw [a];exact AY
  . exact AZ _ (yO h)
def AAX:∀ {l:List M} {s:M} {k:Nat},Dz l s=some k->k < l.length
 |[],s,k,h=>by simp [Dz] at h
 |x::l,s,k,h=>by
  rw [Dz] at h;split at h
  . cases h;simp
  . cases a:Dz l s with
    |none=>grind
    |some m=>
     rw [a] at h;simp only [Ap,AP] at h;subst h;have:=AAX a;simp;omega
def GX.new (r:HU B) (h:GX B A g j jc) (q:A.C k=none):GX B (A.AI k cs) g j jc:=by
 obtain ⟨i,o,f,d⟩:=h.sn.nd h.ne;have c:∀m x,A.C m=some x->m≠k:=fun m x l e=>by rw [e,q] at l;cases l
 refine ⟨⟨by rw [AD,if_neg (c _ _ h.sn.C),h.sn.C],h.sn.Gn,fun _=>⟨i,o,f,by rw [AD,if_neg (c _ _ d),d]⟩⟩,by rw [AD,if_neg (c _ _ h.e),h.e],fun p=>?_,fun m x n=>by rw [AD,if_neg (c _ _ (h.x m x n)),h.x m x n],h.jj,h.gi⟩;obtain ⟨a,b⟩:=h.c p;exact ⟨by rw [AD,if_neg (c _ _ a),a],b⟩
def oV {l:List Bool} {i:Nat} {b:Bool} (h:l[i]?=some b):(BP l)[i]?=some (.d (.bool b)):=by simp [BP,h]
def sV {l:List (List Nat)} {i:Nat} {x:List Nat} (h:l[i]?=some x):(psC l)[i]?=some (.d (.sl (x.map Ba))):=by simp [psC,h]
def ATJ (k n:Int) (l:List Ty):tyA (.mk k n l)= .agg [.d (.int .i64 k),.d (.int .i64 n),.d (.sl (l.map Ty.J))]:=by simp [tyA,Ty.J,Ty.BQ]
def AF4 (B:GB) (m:HU B) (hD:GD B.G) (sc:List M) (env:Env) (nm:M) (at_:Nat) (g:GS) (A:X) (j jc:Nat) (hnm:nm≠[]) (hv:M4 B.G.fs B.G.dt (.mk 4 nm 0 [] [] []) sc=0) (hes:ES sc env g) (Q:at_ < g.en.length) (hnx:g.nx+1000000<=900000000) (hg:GX B A g j jc):
 AS Tzp 170 [.gp B.i 0,.d (.str nm),.d (J8 env),nA at_] A (fun v H=>v=nA (fD B.G env nm at_ g).1/\RQ B A g (fD B.G env nm at_ g).1 1000000 0 (fD B.G env nm at_ g).2 H):=by
 have hbi:=hg.bi;refine Ue.go ?_;rw [Ka];simp only [nA];(repeat' refine wQ ?_<;>simp only [go_sem]);intro jn hjn;have u:=hg.new m (k:=jn) (cs:=[I.d (.str nm)]) hjn;have i:(nbH A).le (A.AI jn [I.d (.str nm)]):=⟨fun _ _ h=>(by cases h),fun _ h=>h,rfl,fun _ _ h=>h⟩;have T:(A.AI jn [I.d (.str nm)]).C jn=some [I.d (.str nm)]:=BB;generalize A.AI jn [I.d (.str nm)]=σ1 at u i T ⊢;have hf:=wK env nm σ1;cases N:Mb env nm with
 |some t=>
  rw [N] at hf;simp only [ARP] at hf;have hvar:fD B.G env nm at_ g=(t,g):=by rw [fD,N]
  rw [hvar];(repeat' (first|refine wP ?_|refine AN.det (hf) ?_|fail)<;>try simp only [go_sem]);exact ⟨i,⟨j,jc,u⟩,hes.lt _ (yO N),AW _,by omega,rfl⟩
 |none=>
  rw [N] at hf;simp only [ARP] at hf;have hsc:=hes.sc nm hnm;rw [N] at hsc;rw [M4,if_pos (show (Ex.mk 4 nm 0 [] [] []).op=4 from rfl)] at hv;simp only [Ex.name,<- hsc,cE,N6,Fe] at hv
  obtain ⟨f,hk⟩:∃f,Dz (DB B.G.fs) nm=some f:=by
   cases h:Dz (DB B.G.fs) nm with
   |none=>rw [h] at hv;simp at hv
   |some f=>exact ⟨f,rfl⟩
  have w:f < B.G.fs.length:=by have:=AAX hk;simpa [DB] using this
  have h9:=u.bi;have h4:=GM (fid:=207) (Ae:=[.gp jn 0]) (by kernel_rfl) rfl (fun x=>x.name==nm) B.G.fs σ1 (fun x _=>xC x nm jn _ T);rw [YH,hk] at h4;simp only [Hq] at h4;have us:g.en≠[]:=fun e=>by rw [e] at Q;cases Q
  obtain ⟨c1,c2,c3,c4,c5⟩:=u.c us;have hl:=u.e;rw [Xf us] at hl;have al:=ltT m.cur;have ns:(B.es.set B.cur (I.ms jc g.en.length 3 tkE))[B.cur]?=some (I.ms jc g.en.length 3 tkE):=by simp [m.cur]
  have h8:=ltT Q;obtain ⟨x,hx⟩:=Ak Q;have hle:(at_ * 3+1+1<=(enC g.en).length)=True:=by rw [Dd En.row 3 En.Bj];simp;omega
  have hwr:=Of En.row 3 En.Bj 1 (A1 f) (fun e=> { e with f:=(f:Int)}) hx (by omega) rfl;obtain ⟨q1,q2,q3,q4⟩:=u.gi.en x (AE hx);have d:=u.mod m (at_:=at_) (fun e=> { e with f:=(f:Int)}) hx ⟨q1,by simp only;omega,by simp only;omega,q4⟩;have hmem:=Ak (show f < B.G.mem.length by rw [m.lm];exact w);obtain ⟨b,hb⟩:=hmem;have ks:=oV hb
  have hjm:∀cs,(σ1.AI jc cs).C B.jm=some (BP B.G.mem):=fun cs=>by
   rw [AD,if_neg (fun e=>by rw [<- e,m.m] at c4;cases c4),u.x _ _ m.m]
  have hjb:∀cs,(σ1.AI jc cs).C B.i=σ1.C B.i:=fun cs=>by rw [AD,if_neg (A5 c2)]
  have hfm:=ltT (show f < B.G.mem.length by rw [m.lm];exact w)
  have hvp:fD B.G env nm at_ g=AWE B.G f at_ (g.Ur at_ fun e=> { e with f:=(f:Int)}):=by
   rw [fD,N,hk];rfl
  rw [hvp];clear hvp;have hnx2:(g.Ur at_ fun e=> { e with f:=(f:Int)}).nx=g.nx:=rfl;have K:(g.Ur at_ fun e=> { e with f:=(f:Int)}).en.length=g.en.length:=by simp [GS.Ur]
  generalize (g.Ur at_ fun e=> { e with f:=(f:Int)})=c at d hnx2 K ⊢;have hmg:B.G.mem.getD f false=b:=by simp [hb]
  rw [AWE,hmg];cases b
  . simp only [As,if_false];have hfs:=ltT (show f < B.G.sch.length by rw [m.ls];exact w);obtain ⟨s,hs⟩:=Ak (show f < B.G.sch.length by rw [m.ls];exact w)
    have hjs:∀cs,(σ1.AI jc cs).C B.js=some (Vu B.G.sch):=fun cs=>by
     rw [AD,if_neg (fun e=>by rw [<- e,m.s] at c4;cases c4),u.x _ _ m.s]
    have hst:=YZ Sch.row 5 Sch.Bj hs;have hsl:(f * 5+5<=(Vu B.G.sch).length)=True:=by have:=(AG.1 hs).1;rw [Dd Sch.row 5 Sch.Bj];simp;omega
    (repeat' (first|refine sQ ?_|refine AN.det (hf) ?_|refine AN.det (h4) ?_|fail)<;>try simp only [h9,hl,al,ns,Ag,h8,c1,hle,hwr,hjb,hjm,hfm,ks,hfs,hjs,hst,hsl,Sch.row,go_sem]);have D:(nbH A).le (σ1.AI jc (enC (g.en.modify at_ fun e=> { e with f:=(f:Int)}))):=⟨fun _ _ h=>(by cases h),i.tok,i.gt,i.bt⟩;generalize σ1.AI jc (enC (g.en.modify at_ fun e=> { e with f:=(f:Int)}))=V at d D ⊢;obtain ⟨s1,s2,s3,s4,s5,s6⟩:=hD.sch s (AE hs);obtain ⟨vs,P,rs⟩:=s;obtain ⟨n,rfl⟩:=E0 s1;obtain ⟨rk,rn,ra⟩:=rs;simp only [hs,BX] at s2 s3 s4 s5 s6 ⊢;simp only [Ty.kind,Ty.num,Ty.args];have hnl:n<=100000:=by omega
    have hn2:c.s.1.length=c.nx:=rfl;refine AN.mk rfl (Dr B.i j c.s.1 c.s.2 B.rest V n d.sn (by omega) (by omega)) ?_;intro v3 F q;obtain ⟨rfl,hnb3,j3,h3⟩:=d.frs m q;clear q;rw [hn2];have R:at_ < c.en.length:=by rw [K];exact Q
    obtain ⟨y,hy⟩:=Ak R;obtain ⟨d1,d2,d3,d4,d5⟩:=h3.c (fun e=>by rw [show (c.frs n).en=c.en from rfl] at e;rw [e] at R;cases R);rw [AHP] at d1;have hle2:(at_ * 3+2+1<=(enC c.en).length)=True:=by rw [Dd En.row 3 En.Bj];simp;omega
    have hwr2:=Of En.row 3 En.Bj 2 (BU ((Af c.nx n).map Ba)) (fun e=> { e with ar:=Af c.nx n}) hy (by omega) rfl;have U:∀a∈Af c.nx n,a < c.nx+n:=fun a o=>by rw [List.mem_range'_1] at o;omega
    obtain ⟨y1,y2,y3,y4⟩:=d.gi.en y (AE hy);have L:=h3.mod m (at_:=at_) (fun e=> { e with ar:=Af c.nx n}) (x:=y) hy ⟨by rw [bM];simp only;omega,y2,y3,fun a o=>by rw [bM];exact U a o⟩;rw [AHP] at L;simp only [d1,hle2,hwr2,go_sem];(repeat' refine sQ ?_<;>simp only [go_sem])
    have he:(nbH A).le (F.AI jc (enC (c.en.modify at_ fun e=> { e with ar:=Af c.nx n}))):=by
     have h0:=BJ D hnb3;exact ⟨fun _ _ h=>(by cases h),h0.tok,h0.gt,h0.bt⟩
    generalize F.AI jc (enC (c.en.modify at_ fun e=> { e with ar:=Af c.nx n}))=p at L he ⊢
    have h7:((c.frs n).Ur at_ fun e=> { e with ar:=Af c.nx n}).en[at_]?=some { y with ar:=Af c.nx n}:=by
     show (c.en.modify at_ _)[at_]?=_;rw [List.getElem?_modify_eq,hy];rfl
    have hi:((c.frs n).Ur at_ fun e=> { e with ar:=Af c.nx n}).nx=c.nx+n:=bM c n;have hd:((c.frs n).Ur at_ fun e=> { e with ar:=Af c.nx n}).en.length=g.en.length:=by simp [GS.Ur,AHP,K]
    generalize ((c.frs n).Ur at_ fun e=> { e with ar:=Af c.nx n})=r at L h7 hi hd ⊢;have ds:(enC r.en)[at_ * 3+2]?=some (BU ((Af c.nx n).map Ba)):=tA En.row 3 En.Bj 2 h7 (by omega);have fs:r.en≠[]:=fun e=>by rw [e] at h7;simp at h7
    have f1:=(L.c fs).1;have h6:(Af c.nx n).length=n:=by simp
    have hn4:r.s.1.length=c.nx+n:=hi;generalize har:Af c.nx n=ar at *;have hinT:∀t∈P,AJO B.i B.rest ar t:=fun t ht=>H7 B.i B.rest ar t.size t (AW _) (by rw [h6];exact Uw s3 t ht);have Y:∀a∈ar,a < r.s.1.length:=fun a o=>by rw [hn4];exact U a o
    have G:=NG ar r.s.1 P;have z:=dU ar (Bi ar r.s.1 P).2 (.mk rk rn ra);have hlt1:=Yo (ar:=ar) (l:=r.s.1) (ts:=P) (by rw [h6];exact s3) Y;have hlt2:=rR (ar:=ar) (l:=(Bi ar r.s.1 P).2) (t:= .mk rk rn ra) (by rw [h6];exact s4) (fun a o=>Be (Y a o) G.le);have hplen:=Ty.CL P;have hll:=If ar r.s.1 P;rw [AY5];simp only;refine W.Gs mixed ?_;simp only [f1,ds,go_sem];refine ⟨?_,?_⟩<;>
    . refine AN.mk rfl (Jh B.i B.rest ar P hinT r.s.1 r.s.2 j3 p Y (by omega) L.sn) ?_;rintro cv hp ⟨ho,j5,sn5,fr5⟩;have hg5:=L.step m (s:=((Bi ar r.s.1 P).2,r.s.2)) sn5 fr5 G.le;have f5:=(hg5.c fs).1;simp only [f5,ds,go_sem];have hic:=H7 B.i B.rest ar _ (.mk rk rn ra) (AW _) (by rw [h6];exact s4) (Bi ar r.s.1 P).2 r.s.2 j5 hp (fun a o=>Be (Y a o) G.le) (by have:=G.hi;omega) sn5;rw [ATJ] at hic;refine AN.mk rfl hic ?_;rintro _ τ4 ⟨rfl,j6,sn6,hr⟩;simp only [nA];simp only [go_sem];refine DH.own (ho.fr hr) rfl (by simp) (by simp [hll];omega) (by omega) (fun v2 τ5 E Z=>?_);simp only [go_sem];have h5:Bn (nbH p) 3 1 (((Bi ar r.s.1 P).1++[(Eo ar (Bi ar r.s.1 P).2 (.mk rk rn ra)).1]).map Ba) v2 τ5:=by rw [A4];exact E
      have hg6:=(hg5.step m (s:=((Eo ar (Bi ar r.s.1 P).2 (.mk rk rn ra)).2,r.s.2)) sn6 hr z.le).nbo Z;refine AN.mk (by simp [E.BS,Pl,Je]) (CH B.i j6 _ r.s.2 B.rest τ5 9 v2 _ hg6.sn h5.row (fun a o=>?_) (by have:=G.hi;have:=z.hi;simp only;omega)) ?_
      . rcases A2.1 o with o|o
        . exact Be (hlt1 a o) z.le
        . simp only [A9] at o;subst o;exact hlt2
      intro v7 τ7 q;obtain ⟨e,h1,j7,h2⟩:=hg6.add m q;clear q;subst e;simp only [nA];simp only [go_sem];(repeat' refine wP ?_<;>simp only [go_sem]);refine ⟨BJ (BJ he E.le) h1,⟨j7,jc,h2⟩,?_,?_,?_,hd⟩
      . show _ < (L3 _ 9 0 _).length;rw [Hh];omega
      . show _<=(L3 _ 9 0 _).length;rw [Hh];have:=G.le;have:=z.le;omega
      . show (L3 _ 9 0 _).length+500000<=_;rw [Hh];have:=G.hi;have:=z.hi;omega
  . simp only [if_true];(repeat' (first|refine sQ ?_|refine AN.det (hf) ?_|refine AN.det (h4) ?_|fail)<;>try simp only [h9,hl,al,ns,Ag,h8,c1,hle,hwr,hjb,hjm,hfm,ks,go_sem]);have D:(nbH A).le (σ1.AI jc (enC (g.en.modify at_ fun e=> { e with f:=(f:Int)}))):=⟨fun _ _ h=>(by cases h),i.tok,i.gt,i.bt⟩;generalize σ1.AI jc (enC (g.en.modify at_ fun e=> { e with f:=(f:Int)}))=V at d D ⊢;have hc:=d.bi;obtain ⟨pl,hm⟩:=Ak (show f < B.G.ps.length by rw [m.lp];exact w);obtain ⟨rf,hn⟩:=Ak (show f < B.G.rs.length by rw [m.lr];exact w);have hp2:=d.x _ _ m.p;have hr2:=d.x _ _ m.r;have hpa:=sV hm;have U:=SC hn;have hfp:=ltT (show f < B.G.ps.length by rw [m.lp];exact w);have hfr:=ltT (show f < B.G.rs.length by rw [m.lr];exact w);have hj:=AE hm;have hpln:=hD.nn pl hj;simp only [BG,hm,hn,BH]
    have hfin:∀(cv:I) (F:X) (v:I) (p:X),(∀k,F.C k=V.C k)->Bn (nbH V) 3 1 ((pl++[rf]).map Ba) cv F->SNQ F B.i c.s.1 B.rest j (L3 c.s.1 9 0 (pl++[rf]),c.s.2) (nA c.s.1.length) v p->RQ B A g c.nx 1000000 0 (c.add 9 0 (pl++[rf])) p:=fun cv F v p S ho q=>by
     obtain ⟨_,h1,j',h2⟩:=(d.nbo S).add m q;exact ⟨BJ (BJ D ho.le) h1,⟨j',jc,h2⟩,by rw [DD];omega,by rw [DD];omega,by rw [DD];omega,by rw [AAH,K];rfl⟩
    refine W.Gs mixed ?_;simp only [hc,hp2,hr2,hpa,U,hfp,hfr,Ag,go_sem];refine ⟨?_,?_,?_⟩<;>
    . refine AN.mk rfl (VA pl V (by omega)) ?_;rintro cv F ⟨ho,S⟩;simp only [S,hc,hr2,U,hfr,Ag,go_sem];refine DH.own ho rfl (by simp) (by simp;omega) (by omega) (fun v2 p E Z=>?_);simp only [go_sem];have h3:=(d.nbo S).nbo Z;have hb3:∀k,p.C k=V.C k:=fun k=>(Z k).trans (S k);have h5:Bn (nbH V) 3 1 ((pl++[rf]).map Ba) v2 p:=by rw [A4];exact E
      refine AN.mk (by simp [E.BS,Pl,Je]) (CH B.i j c.s.1 c.s.2 B.rest p 9 v2 (pl++[rf]) h3.sn h5.row (fun a o=>?_) (by have:c.s.1.length=c.nx:=rfl;omega)) ?_
      . rcases A2.1 o with o|o
        . exact d.gi.ps pl hj a o
        . simp only [A9] at o;subst o;exact d.gi.rs _ (AE hn)
      intro v3 hp q;have hq:=hfin v2 p v3 hp hb3 h5 q;obtain ⟨e,_⟩:=q;subst e;simp only [nA];simp only [go_sem];(repeat' refine wP ?_<;>simp only [go_sem]);exact ⟨rfl,hq⟩
def SX.AW4 {ext ext':Nat->Option (List I)} {i js:Nat} {l:List Nd} {fl:Bool} {rest:List I} (h:SX ext' A i l fl rest j js cs) (e:∀k c,ext k=some c->ext' k=some c):SX ext A i l fl rest j js cs:=by
 have a:∀k,ext' k=none->ext k=none:=fun k b=>by
  cases f:ext k with
  |none=>rfl
  |some c=>grind
 exact ⟨h.sn,h.row,fun k c b=>h.x k c (e k c b),a _ h.xi,fun d=>a _ (h.xj d),a _ h.xs,h.si,h.sj⟩
def Hj (ext:Nat->Option (List I)) (m:Nat) (cs:List I) (k:Nat):Option (List I):=if k=m then some cs else ext k
def SX.more {ext:Nat->Option (List I)} {i js m:Nat} {l:List Nd} {fl:Bool} {rest cm:List I} (o:l≠[]) (h:SX ext A i l fl rest j js cs) (mo:Mo A V) (b:A.C m=none) (s:V.C m=some cm):SX (Hj ext m cm) V i l fl rest j js cs/\∀k c,ext k=some c->Hj ext m cm k=some c:=by
 obtain ⟨g,p,f,d⟩:=h.sn.nd o;have q:i≠m:=fun e=>by rw [<- e,h.sn.C] at b;cases b
 have r:j≠m:=fun e=>by grind
 have t:js≠m:=fun e=>by rw [<- e,h.row] at b;cases b
 have n:∀k c,ext k=some c->k≠m:=fun k c n e=>by have:=h.x k c n;grind
 refine ⟨⟨⟨mo.C _ _ h.sn.C,h.sn.Gn,fun _=>⟨g,p,f,mo.C _ _ d⟩⟩,mo.C _ _ h.row,fun k c a=>?_,by rw [Hj,if_neg q];exact h.xi,fun o=>by rw [Hj,if_neg r];exact h.xj o,by rw [Hj,if_neg t];exact h.xs,h.si,h.sj⟩,fun k c a=>by rw [Hj,if_neg (n k c a)];exact a⟩;unfold Hj at a;split at a
 . grind
 . exact mo.C _ _ (h.x k c a)
def qC (ext:Nat->Option (List I)) (m:Nat) (cs:List I):Hj ext m cs m=some cs:=by simp [Hj]
def aO (l:List Nd) (pl:List Nat) (rf:Nat) (en:List En):Bool:=(pl.any (mY l)||mY l rf)||en.any (ARD l)
def AHQ (B:GB) (ext:Nat->Option (List I)) (O:X) (l:List Nd) (d:Nat->Nat) (fl:Bool) (js m n o:Nat) (y:l≠[]) (F:JE ext B.i l d js m n o) (f jc:Nat) (es:List I) (pl:List Nat) (rf:Nat) (en:List En)
 (xp:ext B.jp=some (psC B.G.ps)) (xr:ext B.jr=some (DI B.G.rs)) (xe:ext B.je=some es) (hd:es.length=B.es.length) (xc:en≠[]->ext jc=some (enC en))
 (R:B.G.ps[f]?=some pl) (T:B.G.rs[f]?=some rf) (h4:es[f]?=some (enV en jc)) (h7:en.length<=900000000)
 (hp:∀a∈pl,a < l.length) (hr:rf < l.length) (ht:∀x∈en,x.t < l.length/\∀a∈x.ar,a < l.length) (V:X) (r:JZ ext O B.i B.rest l fl js V):
 AS Tzp 70 [.gp B.i 0,.d (.int .i64 (f:Int)),szC m n o] V (fun v H=>v= .d (.bool (aO l pl rf en))/\JZ ext O B.i B.rest l fl js H):=by
 obtain ⟨Q,kn,j0,P,hs⟩:=r;refine Vc.go ?_;(repeat' refine sQ ?_<;>simp only [szC,go_sem]);intro j5 L;have m5:=(Mo.refl V).new L [szC m n o];have f5:(V.AI j5 [szC m n o]).C j5=some [szC m n o]:=BB;obtain ⟨U,w5⟩:=hs.more y m5 L f5;have h9:V.AI j5 [I.fn 126 [] [.gp m 0,.gp n 0,.gp o 0]]=V.AI j5 [szC m n o]:=rfl;rw [h9];generalize V.AI j5 [szC m n o]=z at *;(repeat' refine sQ ?_<;>simp only [go_sem]);intro p N;simp only [BE,go_sem];have m7:=(Mo.refl z).AFA N [I.Jd] [.fn 127 [] [.gp j5 0]] (1,251);have f7:(((z.AI p [I.Jd]).BM p (1,251)).AI p [.fn 127 [] [.gp j5 0]]).C p=some [.fn 127 [] [.gp j5 0]]:=BB;obtain ⟨Y,w7⟩:=U.more y m7 N.1 f7;generalize ((z.AI p [I.Jd]).BM p (1,251)).AI p [.fn 127 [] [.gp j5 0]]=D at *;have j:∀k c,ext k=some c->Hj (Hj ext j5 [szC m n o]) p [.fn 127 [] [.gp j5 0]] k=some c:=fun k c h=>w7 k c (w5 k c h);have x5:Hj (Hj ext j5 [szC m n o]) p [.fn 127 [] [.gp j5 0]] j5=some [szC m n o]:=w7 _ _ (qC _ _ _);have x7:=qC (Hj ext j5 [szC m n o]) p [.fn 127 [] [.gp j5 0]];generalize Hj (Hj ext j5 [szC m n o]) p [.fn 127 [] [.gp j5 0]]=i at *;have s:JE i B.i l d js m n o:=⟨F.ln,F.fr,j _ _ F.x1,j _ _ F.x3,j _ _ F.x4⟩
 have r:JZ i O B.i B.rest l fl js D:=⟨D9 (D9 Q m5.nb) m7.nb,kn,j0,P,Y⟩;have q:∀g,JZ i O B.i B.rest l fl js g->JZ ext O B.i B.rest l fl js g:=fun g ⟨a,b,c,e,f⟩=>⟨a,b,c,e,f.AW4 j⟩;clear hs U Y m5 m7 Q P
 have look:∀g,JZ i O B.i B.rest l fl js g->(∃j',g.C B.i=some (.ms j' l.length 4 tkN::D1 fl::[BU (B.ds.map DE.J),BU (B.G.fs.map FE.J),dsA B.G.dt,.ms B.js B.G.sch.length 5 eSs,.ms B.jm B.G.mem.length 1 eMm,.ms B.jp B.G.ps.length 1 ePp,.ms B.jr B.G.rs.length 1 3,.ms B.je B.es.length 1 eEe,A1 B.cur]))/\
  g.C B.jp=some (psC B.G.ps)/\g.C B.jr=some (DI B.G.rs)/\g.C B.je=some es/\g.C p=some [.fn 127 [] [.gp j5 0]]:=fun g ⟨_,_,j',_,h⟩=>
  ⟨⟨j',by rw [h.sn.C,Ef y];rfl⟩,h.x _ _ (j _ _ xp),h.x _ _ (j _ _ xr),h.x _ _ (j _ _ xe),h.x _ _ x7⟩
 obtain ⟨⟨jn,k1⟩,k2,k3,k4,Z⟩:=look D r;have h8:=sV R;have S:=SC T;have h6:=ltT (AG.1 R).1;have G:=ltT (AG.1 T).1;have h5:((f:Int) < (B.es.length:Int))=True:=by grind
 obtain ⟨q1,q2,q3,q4,q5⟩:=U0 en jc;have h3:=fun (g:X) (t:JZ i O B.i B.rest l fl js g)=>Oy (fid:=127) (Ae:=[.gp j5 0]) (by kernel_rfl) rfl (mY l) (JZ i O B.i B.rest l fl js) pl (fun x hx V r=>P6 s x5 x (hp x hx) V r) g t;have h2:=fun (g:X) (t:JZ i O B.i B.rest l fl js g)=>Zo (fid:=130) (Ae:=[.gp p 0]) (by kernel_rfl) rfl (ARD l) (JZ i O B.i B.rest l fl js) en jc (fun h V ⟨_,_,_,_,hh⟩=>hh.x _ _ (j _ _ (xc h))) h7 (fun x hx V r=>AAJ s x5 x7 x (ht x hx).1 (ht x hx).2 V r) g t;rw [aO];(repeat' refine wQ ?_<;>simp only [k1,k2,Z,h8,h6,Ag,go_sem]);refine AN.mk rfl (h3 D r) ?_;rintro _ h0 ⟨rfl,u⟩;obtain ⟨⟨hf,k1⟩,k2,k3,k4,Z⟩:=look h0 u;cases hc:pl.any (mY l) with
 |true=>
  simp only [go_sem];(repeat' refine wP ?_<;>simp only [go_sem]);exact q _ u
 |false=>
  simp only [k1,k3,Z,S,G,Ag,go_sem];have E:=P6 s x5 rf hr h0 u;simp only [nA] at E;refine ⟨127,[],[.gp j5 0],rfl,by kernel_rfl,AN.mk rfl E ?_⟩;rintro _ h1 ⟨rfl,w⟩;obtain ⟨⟨hg,k1⟩,k2,k3,k4,Z⟩:=look h1 w;cases ha:mY l rf with
  |true=>
   simp only [go_sem];(repeat' refine wP ?_<;>simp only [go_sem]);exact q _ w
  |false=>
   simp only [go_sem];(repeat' refine wQ ?_<;>simp only [k1,k4,h4,h5,Ag,q1,go_sem]);refine AN.mk (by simp [q2,eN]) (h2 h1 w) ?_;rintro _ hb ⟨rfl,K⟩;simp only [go_sem];(repeat' refine wP ?_<;>simp only [go_sem]);exact q _ K
def JT (l:List Nd):Nat->List Bool×List Nat->Nat->List Bool×List Nat
 |0,s,_=>s
 |k+1,s,n=>
  let r:=rtN l n
  if s.1[r]?=some false then
   (((l[r]?).map Nd.ar).getD []).foldl (fun s a=>JT l k s a) (s.1.set r true,if ((l[r]?).map Nd.k)=some 0 then s.2++[r] else s.2)
                                                                                   else s
def fz (sn:List Bool):Nat:=sn.countP (·==false)
def AHX {sn:List Bool} {r:Nat} (h:sn[r]?=some false):fz (sn.set r true)+1=fz sn:=by
 grind [A7,AP,fz]
def oW {l:List Bool} {r:Nat} (b:Bool) (h:r < l.length):(BP l).take r++[.d (.bool b)]++(BP l).drop (r+1)=BP (l.set r b):=by
 induction l generalizing r with
 |nil=>cases h
 |cons x l a=>
  cases r with
  |zero=>simp [BP]
  |succ r=>
   grind [BP]
structure UX (ext:Nat->Option (List I)) (σb A:X) (i:Nat) (l:List Nd) (fl:Bool) (rest:List I) (j js j5:Nat) (s:List Bool×List Nat) (v:I):Prop where
 sx:SX ext A i l fl rest j js (BP s.1)
 row:A.C j5=some [v]
 x5:ext j5=none
 ei:j5≠i
 ej:l≠[]->j5≠j
 es:j5≠js
 own:Bn (nbH σb) 3 1 (s.2.map Ba) v A
 len:s.1.length=l.length
 bd:s.2.length+fz s.1<=l.length
def UX.step {ext:Nat->Option (List I)} {σb A H:X} {i j j' js j5:Nat} {l:List Nd} {fl:Bool} {rest:List I} {s:List Bool×List Nat} {v:I} (h:UX ext σb A i l fl rest j js j5 s v) (a:SN H i l fl rest j') (fr:Fr A i l j H l j'):UX ext σb H i l fl rest j' js j5 s v:=
 ⟨h.sx.step a fr,by rw [fr.C j5 h.ei h.ej (by rw [h.row];simp),h.row],h.x5,h.ei,fr.apart h.ej (by rw [h.row];simp),h.es,h.own.fr fr,h.len,h.bd⟩
def UX.see {ext:Nat->Option (List I)} {σb:X} {i js r:Nat} {l:List Nd} {fl:Bool} {rest:List I} {s:List Bool×List Nat} (h:UX ext σb A i l fl rest j js j5 s v) (a:s.1[r]?=some false):UX ext σb (A.AI js (BP (s.1.set r true))) i l fl rest j js j5 (s.1.set r true,s.2) v:=by
 have:=AHX a;exact ⟨h.sx.set _,by rw [AD,if_neg h.es,h.row],h.x5,h.ei,h.ej,h.es,h.own.Ee ⟨fun _ _ h=>(by cases h),h.own.le.tok,h.own.le.gt,h.own.le.bt⟩ (fun _ _ h=>h),by simp [h.len],by have:=h.bd;simp only;omega⟩
theorem UX.put {ext:Nat->Option (List I)} {σb:X} {i js r:Nat} {l:List Nd} {fl:Bool} {rest:List I} {sn:List Bool} {out:List Nat} {v':I} (h:UX ext σb A i l fl rest j js j5 (sn,out) v) (f:∀k,H.C k=A.C k) (d:Bn (nbH σb) 3 1 ((out++[r]).map Ba) v' H) (m:out.length+1+fz sn<=l.length):UX ext σb (H.AI j5 [v']) i l fl rest j js j5 (sn,out++[r]) v':=by
 have a:=h.sx;have g:∀k c,ext k=some c->k≠j5:=fun k c b e=>by rw [e,h.x5] at b;cases b
 refine ⟨⟨(a.sn.own f).set h.ei h.ej,by rw [AD,if_neg (A5 h.es),f];exact a.row,fun k c b=>by rw [AD,if_neg (g k c b),f];exact a.x k c b,a.xi,a.xj,a.xs,a.si,a.sj⟩,BB,h.x5,h.ei,h.ej,h.es,d.Ee ⟨fun _ _ h=>(by cases h),d.le.tok,d.le.gt,d.le.bt⟩ (fun _ _ h=>h),h.len,by simp;omega⟩
def xA (ext:Nat->Option (List I)) (F:X) (i:Nat) (rest:List I) (l:List Nd) (fl:Bool) (j2 j6 j5 j7 js:Nat) (ht:l.length<=900000000) (h2:ext j2=some [.gp i 0]) (h6:ext j6=some [.ms js l.length 1 eMm]) (h7:ext j7=some [.fn 210 [] [.gp j2 0,.gp j6 0,.gp j5 0,.gp j7 0]]):
 ∀(k:Nat) (s:List Bool×List Nat) (v:I) (j:Nat) (A:X) (n:Nat),fz s.1 < k->n < l.length->UX ext F A i l fl rest j js j5 s v->
 AS Tzp 210 [nA n,.gp j2 0,.gp j6 0,.gp j5 0,.gp j7 0] A (fun _ H=>fz (JT l k s n).1<=fz s.1/\∃S j',UX ext F H i l fl rest j' js j5 (JT l k s n) S):=by
 intro k
 induction k with
 |zero=>intro s v j A n h;omega
 |succ k fs=>
 intro s v j A n hz hn hs;have w:l≠[]:=fun e=>by grind
 obtain ⟨g,out⟩:=s;refine Q1 (by simp) ?_;rw [show Px [nA n,.gp j2 0,.gp j6 0,.gp j5 0,.gp j7 0]=put 0 (nA n) (put 1 (.gp j2 0) (put 2 (.gp j6 0) (put 3 (.gp j5 0) (put 4 (.gp j7 0) U)))) from oT _ _ _ _ _];have t:=hs.sx.x _ _ h2;obtain ⟨x,hx,hxp⟩:=hs.sx.sn.Gn.root hn;have ns:=(AG.1 hx).1;rw [JT];simp only [nA];generalize hr:rtN l n=r at *;(repeat' (refine sQ ?_<;>try simp only [t,go_sem]));refine AN.mk rfl (Gt i j l fl rest A n hs.sx.sn hn ht) ?_;rintro _ σ1 ⟨rfl,j8,hg,h3⟩;rw [hr];simp only [nA];simp only [go_sem];have f:=hs.step hg h3;clear hs hg h3 t;have t:=f.sx.x _ _ h2;have T:=f.sx.x _ _ h6;have G:=f.sx.row;have hlen:g.length=l.length:=f.len;obtain ⟨b,hb⟩:=Ak (show r < g.length by omega);have Y:=oV hb;have N:=ltT ns;cases b with
 |true=>
  rw [hb];simp only [AP,Bool.true_eq_false,if_false];(repeat' (refine sP ?_<;>try simp only [T,G,Y,N,Ag,go_sem]))
  grind
 |false=>
  rw [if_pos hb];have Q:(r+1<=(BP g).length)=True:=by grind
  have R:=oW true (show r < g.length by omega);have o:=f.see hb;have hz9:=AHX hb;have d2:(j2=js)=False:=by grind
  have di:(i=js)=False:=by simp only [eq_iff_iff,iff_false];exact fun e=>f.sx.si e.symm
  have dj:(j8=js)=False:=by simp only [eq_iff_iff,iff_false];exact fun e=>f.sx.sj w e.symm
  have d5:(j5=js)=False:=by simp only [eq_iff_iff,iff_false];exact f.es
  obtain ⟨hji,c,hd,h8⟩:=f.sx.sn.nd w;have Z:=f.sx.sn.C;rw [Ef w] at Z;obtain ⟨y,hy,yk,yn,ya⟩:=hd.at hx;obtain ⟨y1,_,y3,_⟩:=TR hy;rw [yk] at y1;rw [ya] at y3;have he:=f.row;have hq:=f.bd;simp only at hz hq o;have hbs':σ1.C js=some (BP g):=G
  -- behind the test
  have D:∀(V:X) (v4:I) (j9:Nat) (d:List Nat),UX ext F V i l fl rest j9 js j5 (g.set r true,d) v4->
   W Dp (fun _ H=>fz (x.ar.foldl (fun s a=>JT l k s a) (g.set r true,d)).1<=fz g/\∃S j',UX ext F H i l fl rest j' js j5 (x.ar.foldl (fun s a=>JT l k s a) (g.set r true,d)) S)
    [.code (.loop HR),.C 0] (put 4 (.gp j7 0) (put 40 (.d (.sl (x.ar.map Ba))) (put 41 (.d (.int .i64 (x.ar.length:Int))) (put 42 (.d (.int .i64 0)) U)))) E V:=by
   intro V v4 j9 d hu;refine W.slot 40 (fun al=>?_);simp only [DR,reduceIte,HW,I.Ep,AA] at al
   refine lpK (fun (z:Nat×X)=>[(42,.d (.int .i64 z.1))]) (fun z=>z.2)
    (fun z=>z.1<=x.ar.length/\fz ((x.ar.take z.1).foldl (fun s a=>JT l k s a) (g.set r true,d)).1+1<=fz g/\∃S j',UX ext F z.2 i l fl rest j' js j5 ((x.ar.take z.1).foldl (fun s a=>JT l k s a) (g.set r true,d)) S)
    (fun z=>x.ar.length - z.1) ?_ (0,V) ⟨by simp,by grind,v4,j9,hu⟩
   rintro ⟨p,us⟩ ⟨hp,hc,v5,hf,q⟩ ih;simp only at hp hc q;have ho:=q.sx.x _ _ h7;by_cases L:p < x.ar.length
   . obtain ⟨a,ha⟩:=Ak L;have hm:=H5 ha;have hl:=q.sx.sn.Gn.ar _ _ hx a (AE ha)
     have hst:(x.ar.take (p+1)).foldl (fun s a=>JT l k s a) (g.set r true,d)=JT l k ((x.ar.take p).foldl (fun s a=>JT l k s a) (g.set r true,d)) a:=by
      rw [Aa ha,Cv];rfl
     have nm:IntKind.i64.wrap ((p:Int)+1)=((p+1:Nat):Int):=by grind [B2]
     have u:=fs _ v5 hf us a (by omega) hl q;simp only [nA] at u;(repeat' (refine sQ ?_<;>try simp only [BI L,hm,ho,go_sem]));refine ⟨210,[],[.gp j2 0,.gp j6 0,.gp j5 0,.gp j7 0],rfl,by kernel_rfl,AN.mk rfl u ?_⟩;rintro v6 cs ⟨hz6,v7,ds,hu6⟩;simp only [go_sem];(repeat' (refine sQ ?_<;>try simp only [nm,go_sem]));exact ih ⟨p+1,cs⟩ ⟨L,by grind,v7,ds,by grind⟩ (by simp only;omega)
   . have hv:p=x.ar.length:=by omega
     subst hv;rw [Ar] at hc q;(repeat' (refine sQ ?_<;>try simp only [B5 L,go_sem]));exact W.fin QU rfl (fun _ _ h=>h) (X.le_refl _) ⟨by omega,v5,hf,q⟩
  simp only [hx,Ap,BH,AP];by_cases K:x.k=0
  . rw [if_pos K];have h0:(x.k==0)=true:=by simpa using K
    have m:=o.own;(repeat' (refine sQ ?_<;>try simp only [T,G,Y,N,Ag,Q,R,d2,di,dj,d5,t,Z,h8,y1,h0,he,m.cell,go_sem]));refine DH.own m rfl (by simp) (by simp;omega) (by omega) (fun S hj B h4=>?_);have hk:hj.C j5=some [v]:=by rw [h4];exact o.row
    simp only [B.cells,B.cell,hk,go_sem];have hu:=o.put (r:=r) h4 (by rw [A4];exact B) (by omega);have h5:=hu.sx.x _ _ h2;obtain ⟨_,c',h1,h9⟩:=hu.sx.sn.nd w;have P:=hu.sx.sn.C;rw [Ef w] at P;obtain ⟨y',sc,_,_,vs⟩:=h1.at hx;obtain ⟨_,_,hi,_⟩:=TR sc;rw [vs] at hi;have ks:=D _ S j8 _ hu;generalize hj.AI j5 [S]=τ4 at *;(repeat' (refine sQ ?_<;>try simp only [h5,N,P,h9,hi,AA,go_sem]));exact ks
  . rw [if_neg K];have h0:(x.k==0)=false:=by simpa using K
    have m:=o.own;(repeat' (refine sQ ?_<;>try simp only [T,G,Y,N,Ag,Q,R,d2,di,dj,t,Z,h8,y1,y3,h0,AA,go_sem]));exact D _ v j8 _ o
def Vg (G:GC) (k:Ex) (env:Env) (f:Nat->Nat->SS->SS):∀(ks:List Ex) (i:Nat) (g:GS),E3 G (ks++[k]) env i f g= { (BN G k env (E3 G ks env i f g)).2 with s:=f (i+ks.length) (BN G k env (E3 G ks env i f g)).1 (BN G k env (E3 G ks env i f g)).2.s}
 |[],i,g=>by simp [E3]
 |u::ks,i,g=>by
  rw [AU,E3];simp only [Vg G k env f ks];simp only [E3,AT];rw [show i+1+ks.length=i+(ks.length+1) from by omega]
structure KS (B:GB) (A:X) (g:GS) (ks:List Ex) (g':GS) (H:X):Prop where
 nb:(nbH A).le H
 gx:∃j jc,GX B H g' j jc
 le:g.nx<=g'.nx
 hi:g'.nx<=g.nx+1000000 * Ex.AQ ks
 en:g'.en.length=g.en.length+Ex.AQ ks
def KS.nil {B:GB} {A:X} {g:GS} {j jc:Nat} (h:GX B A g j jc):KS B A g [] g A:=⟨IW A,⟨j,jc,h⟩,AW _,by simp [Ex.AQ],by simp [Ex.AQ]⟩
theorem KS.snoc {g1 g2 g3:GS} {p:Nat} {k:Ex} (b:ks[p]?=some k) (h:KS B A g (ks.take p) g1 V) (q:RQ B V g1 n (1000000 * k.size) k.size g2 τ') {τ2:X} (c:(nbH τ').le τ2) (a:GX B τ2 g3 j jc) (r:g2.nx<=g3.nx) (s:g3.nx<=g2.nx+500000) (t:g3.en.length=g2.en.length):KS B A g (ks.take (p+1)) g3 τ2:=by
 obtain ⟨d,e⟩:=Ex.Ck b;have a1:=h.le;have f:=h.hi;have i:=h.en;have l:=q.le;have m:=q.hi;have o:=q.en;exact ⟨BJ (BJ h.nb q.nb) c,⟨j,jc,a⟩,by omega,by omega,by omega⟩
def opF:Nat->Nat->SS->SS:=fun _ r s=>Go.Ab.uni (L3 s.1 1 0 [],s.2) r s.1.length
def AFD (B:GB) (N:HU B) (nm:M) (nu:Int) (ns:List M) (ks:List Ex) (al:List Al) (hk:∀k∈ks,ExC B k) (sc:List M) (env:Env) (g:GS) (A:X) (j jc:Nat) (U:∀k∈ks,OkE B.G k sc) (Q:ES sc env g) (h7:g.nx+1000000 * (1+Ex.AQ ks)<=900000000) (h5:g.en.length+Ex.AQ ks<=900000000) (hg:GX B A g j jc):
 AS Tzp 176 [.gp B.i 0,exA (.mk 13 nm nu ns ks al),.d (J8 env)] A (fun v H=>v=nA (E3 B.G ks env 0 opF g).nx/\RQ B A g (E3 B.G ks env 0 opF g).nx (1000000 * (1+Ex.AQ ks)) (Ex.AQ ks) ((E3 B.G ks env 0 opF g).add (if 6<=nu/\nu<=8 then 2 else 1) 0 []) H):=by
 have h6:=Ex.CL ks;refine Ud.go ?_;rw [DN];simp only [exA,Ex.A6,AB,AJ];(repeat' refine wQ ?_<;>simp only [AA,go_sem])
 refine lpK (fun (z:Nat×X)=>[(12,A1 z.1)]) (fun z=>z.2)
  (fun z=>z.1<=ks.length/\KS B A g (ks.take z.1) (E3 B.G (ks.take z.1) env 0 opF g) z.2)
  (fun z=>ks.length - z.1) ?_ (0,A) ⟨by simp,by simp only [CD,E3];exact KS.nil hg⟩
 rintro ⟨p,V⟩ ⟨hp,a⟩ ih;simp only at hp a;by_cases c:p < ks.length
 . obtain ⟨k,b⟩:=Ak c;have he:=Au (J:=Ex.J) b;have Z:=wS p;obtain ⟨ha,hd⟩:=Ex.Ck b;have K:=Vg B.G k env opF (ks.take p) 0 g;rw [<- Aa b] at K;generalize E3 B.G (ks.take p) env 0 opF g=q at *;obtain ⟨L,w,d⟩:=a.gx;have S:=a.hi;have G:=a.le;have i:=a.en;have m:=AE b;have y:=hk k m sc env q V L w (U k m) (Q.le G) (by omega) (by omega) d;generalize BN B.G k env q=r at *;have F:=b;obtain ⟨o,n,u,hi,kk,h4⟩:=k;simp only [Ex.A6,exA,AB,AJ] at he y;(repeat' refine sQ ?_<;>simp only [BI c,he,go_sem]);refine AN.mk rfl y ?_;rintro _ h0 ⟨rfl,t⟩;simp only [nA];simp only [go_sem];obtain ⟨j2,hf,E⟩:=t.gx;have h3:=t.le;have h8:=t.hi;have hb:r.2.s.1.length=r.2.nx:=rfl;refine AN.mk rfl (CH B.i j2 r.2.s.1 r.2.s.2 B.rest h0 1 .Ac [] E.sn DG.Ac (by simp) (by omega)) ?_;intro v3 h1 f;obtain ⟨x,s,j3,e⟩:=E.add N f;subst x;simp only [nA];simp only [go_sem];refine AN.mk rfl (C9 B.i B.rest _ _ (r.2.add 1 0 []).s.2 j3 r.1 r.2.s.1.length h1 (Oe (r.2.add 1 0 []).s.1) e.sn (by have:=t.lt;grind [DD,GS.nx]) (by grind [DD,GS.nx]) (by grind [DD,GS.nx])) ?_;intro v4 h2 q4;obtain ⟨T,j4,R⟩:=e.uni N q4;simp only [go_sem];(repeat' refine sQ ?_<;>simp only [Z,go_sem]);refine ih ⟨p+1,h2⟩ ⟨c,?_⟩ (by simp only;omega)
   simp only [K];exact a.snoc F t (BJ s T) R (show _<=((r.2.add 1 0 []).uni r.1 r.2.s.1.length).nx from by rw [NK,DD];omega) (show ((r.2.add 1 0 []).uni r.1 r.2.s.1.length).nx<=_ from by rw [NK,DD];omega) rfl
 . have Y:p=ks.length:=by omega
   subst Y;rw [Ar] at a;obtain ⟨L,w,d⟩:=a.gx;have S:=a.hi;have G:=a.le;have i:=a.en;generalize E3 B.G ks env 0 opF g=q at *;have h9:q.s.1.length=q.nx:=rfl;have D:=fun k=>CH B.i L q.s.1 q.s.2 B.rest V k .Ac [] d.sn DG.Ac (by simp) (by omega)
   have l:∀k v H,SNQ V B.i q.s.1 B.rest L (L3 q.s.1 k 0 [],q.s.2) (nA q.s.1.length) v H->RQ B A g q.nx (1000000 * (1+Ex.AQ ks)) (Ex.AQ ks) (q.add k 0 []) H:=fun k v H f=>by
    obtain ⟨x,s,j3,e⟩:=d.add N f;exact ⟨BJ a.nb s,⟨j3,w,e⟩,by rw [DD];omega,by rw [DD];omega,by rw [DD];omega,i⟩
   by_cases y:6<=nu/\nu<=8
   . rw [if_pos y];have P:nu=6\/nu=7\/nu=8:=by omega
     rcases P with rfl|rfl|rfl<;>
     . (repeat' first|((first|refine wP ?_|(refine Dq rfl ?_ ?_<;>intro h<;>try (cases h;done))|fail)<;>try simp only [B5 c,go_sem])|(constructor<;>intro h<;>first|(cases h;done)|try simp only [h])|fail);refine AN.mk rfl (D 2) ?_;intro v H f;have t:=l 2 v H f;obtain ⟨x,_⟩:=f;subst x;simp only [nA];simp only [go_sem]
       grind
   . rw [if_neg y];have b6:(nu==6)=false:=by simp;omega
     have b7:(nu==7)=false:=by simp;omega
     have b8:(nu==8)=false:=by simp;omega
     (repeat' refine wP ?_<;>simp only [B5 c,b6,b7,b8,go_sem]);refine AN.mk rfl (D 1) ?_;intro v H f;have t:=l 1 v H f;obtain ⟨x,_⟩:=f;subst x;simp only [nA];simp only [go_sem]
     grind
def prF (nu:Int) (b:Nat):Nat->Nat->SS->SS:=fun i r s=>Go.Ab.uni s r ((eT nu b).1.getD i 0)
def AK5 {nu:Int} :(∀a∈(eT nu b).1,a < b+5)/\(eT nu b).2 < b+5:=by
 grind [eT]
def AN1 (B:GB) (hB:HU B) (nm:M) (nu:Int) (ns:List M) (ks:List Ex) (al:List Al) (hk:∀k∈ks,ExC B k) (sc:List M) (env:Env) (b:Nat) (g:GS) (A:X) (j jc:Nat) (hb:g.nx=b+5) (hl:ks.length<=(eT nu b).1.length) (y:∀k∈ks,OkE B.G k sc) (s:ES sc env g) (h4:g.nx+1000000 * Ex.AQ ks<=900000000) (h1:g.en.length+Ex.AQ ks<=900000000) (hg:GX B A g j jc)
 (Q:I->X->Prop) (hQ:∀H,KS B A g ks (E3 B.G ks env 0 (prF nu b) g) H->Q (nA (eT nu b).2) H):
 W EY Q [.code (.loop IN),.C 1,.code (.seq (.reg [⟨some 100,.mv (.t 12),none⟩,⟨some 6,.mv (.t 100),none⟩] [6]) .ret)]
  (put 0 (.gp B.i 0) (put 2 (.d (J8 env)) (put 11 (.d (.sl ((eT nu b).1.map Ba))) (put 12 (nA (eT nu b).2) (put 80 (.d (.sl (ks.map Ex.J))) (put 81 (.d (.int .i64 (ks.length:Nat))) (put 82 (.d (.int .i64 0)) U))))))) E A:=by
 have h3:=Ex.CL ks
 refine lpK (fun (z:Nat×X)=>[(82,A1 z.1)]) (fun z=>z.2)
  (fun z=>z.1<=ks.length/\KS B A g (ks.take z.1) (E3 B.G (ks.take z.1) env 0 (prF nu b) g) z.2)
  (fun z=>ks.length - z.1) ?_ (0,A) ⟨by simp,by simp only [CD,E3];exact KS.nil hg⟩
 rintro ⟨p,V⟩ ⟨hp,e⟩ Z;simp only at hp e;by_cases c:p < ks.length
 . obtain ⟨k,a⟩:=Ak c;have R:=Au (J:=Ex.J) a;have G:=wS p;obtain ⟨h8,h9⟩:=Ex.Ck a;have l:=Vg B.G k env (prF nu b) (ks.take p) 0 g;rw [<- Aa a] at l;generalize E3 B.G (ks.take p) env 0 (prF nu b) g=q at *;obtain ⟨j1,K,t⟩:=e.gx;have h2:=e.hi;have w:=e.le;have S:=e.en;have d:=AE a;have P:=hk k d sc env q V j1 K (y k d) (s.le w) (by omega) (by omega) t;generalize BN B.G k env q=r at *;obtain ⟨u,Y⟩:=Ak (show p < (eT nu b).1.length by omega);have m:=H5 Y;have h7:=(AK5 (nu:=nu) (b:=b)).1 u (AE Y);have h:=a;obtain ⟨o,n,u',hd,kk,h0⟩:=k;simp only [Ex.A6,exA,AB,AJ] at R P;simp only [nA] at Z ⊢;(repeat' refine sQ ?_<;>simp only [BI c,R,go_sem]);refine W.Gs mixed ?_;simp only [m,go_sem];refine ⟨?_,?_⟩<;>
   . refine AN.mk rfl P ?_;rintro _ L ⟨rfl,i⟩;simp only [nA];simp only [go_sem];obtain ⟨j2,ha,f⟩:=i.gx;have T:=i.le;have h5:=i.hi;have h6:r.2.s.1.length=r.2.nx:=rfl;refine AN.mk rfl (C9 B.i B.rest _ _ r.2.s.2 j2 r.1 u L (Oe r.2.s.1) f.sn i.lt (by omega) (by omega)) ?_;intro v4 N q4;obtain ⟨x,j4,v⟩:=f.uni hB q4;simp only [go_sem];(repeat' refine wQ ?_<;>simp only [G,go_sem]);refine Z ⟨p+1,N⟩ ⟨c,?_⟩ (by simp only;omega);have F:prF nu b (0+(ks.take p).length) r.1 r.2.s=Go.Ab.uni r.2.s r.1 u:=by grind [prF]
     simp only [l,F];exact e.snoc h i x v (show _<=(r.2.uni r.1 u).nx from by rw [NK];omega) (show (r.2.uni r.1 u).nx<=_ from by rw [NK];omega) rfl
 . have D:p=ks.length:=by omega
   subst D;rw [Ar] at e;have:=hQ V e;simp only [nA] at this ⊢;(repeat' refine wP ?_<;>simp only [B5 c,go_sem]);exact this
def prG (g:GS):GS:=((((g.add 1 0 []).add 0 0 []).add 7 0 [g.nx+1]).add 8 0 [g.nx+1]).add 3 0 []
def AZK (g:GS):(prG g).nx=g.nx+5:=by simp [prG,DD]
def YV (G:GC) (nu:Int) (ks:List Ex) (env:Env) (g:GS):Nat×GS:=((eT nu g.nx).2,E3 G ks env 0 (prF nu g.nx) (prG g))
def AJC (B:GB) (d:HU B) (nm:M) (nu:Int) (ns:List M) (ks:List Ex) (al:List Al) (T:∀k∈ks,ExC B k) (sc:List M) (env:Env) (g:GS) (A:X) (j jc:Nat) (Z:1<=nu/\nu<=7) (Y:ks.length=eS nu) (y:∀k∈ks,OkE B.G k sc) (t:ES sc env g) (h0:g.nx+1000000 * (1+Ex.AQ ks)<=900000000) (s:g.en.length+Ex.AQ ks<=900000000) (G:GX B A g j jc):
 AS Tzp 177 [.gp B.i 0,exA (.mk 14 nm nu ns ks al),.d (J8 env)] A (fun v H=>v=nA (YV B.G nu ks env g).1/\RQ B A g (YV B.G nu ks env g).1 (1000000 * (1+Ex.AQ ks)) (Ex.AQ ks) (YV B.G nu ks env g).2 H):=by
 have U:=Ex.CL ks;generalize S:(fun v H=>v=nA (YV B.G nu ks env g).1/\RQ B A g (YV B.G nu ks env g).1 (1000000 * (1+Ex.AQ ks)) (Ex.AQ ks) (YV B.G nu ks env g).2 H)=Q;have n1:=DD g 1 0 [];have n2:=DD (g.add 1 0 []) 0 0 [];have n3:=DD ((g.add 1 0 []).add 0 0 []) 7 0 [g.nx+1];have n4:=DD (((g.add 1 0 []).add 0 0 []).add 7 0 [g.nx+1]) 8 0 [g.nx+1];have l0:g.s.1.length=g.nx:=rfl;refine TH.go ?_;rw [DN];simp only [exA,Ex.A6,AB,AJ];(repeat' refine wP ?_<;>simp only [go_sem]);refine AN.mk rfl (CH B.i j g.s.1 g.s.2 B.rest A 1 .Ac [] G.sn DG.Ac (by simp) (by omega)) ?_;intro v z q;obtain ⟨rfl,K,j1,f⟩:=G.add d q;clear q;rw [l0];simp only [nA];simp only [go_sem];have l1:(g.add 1 0 []).s.1.length=g.nx+1:=n1;refine AN.mk rfl (Fv B.i j1 (g.add 1 0 []).s.1 (g.add 1 0 []).s.2 B.rest z f.sn (by omega)) ?_;intro v D q;obtain ⟨rfl,L,j2,i⟩:=f.add d q;clear q;rw [l1];simp only [nA];simp only [go_sem];(repeat' refine wP ?_<;>simp only [go_sem]);have l2:((g.add 1 0 []).add 0 0 []).s.1.length=g.nx+2:=n2.trans (by omega);have c:DG (BU [[.int .i64 ((g.nx+1:Nat):Int)]]) ([g.nx+1].map Ba):=DG.d _
 refine AN.mk rfl (CH B.i j2 _ ((g.add 1 0 []).add 0 0 []).s.2 B.rest D 7 _ [g.nx+1] i.sn c (by grind) (by omega)) ?_;intro v E q;obtain ⟨rfl,N,j3,l⟩:=i.add d q;clear q;rw [l2];simp only [nA];simp only [go_sem];have l3:(((g.add 1 0 []).add 0 0 []).add 7 0 [g.nx+1]).s.1.length=g.nx+3:=by grind [GS.nx]
 refine AN.mk rfl (CH B.i j3 _ (((g.add 1 0 []).add 0 0 []).add 7 0 [g.nx+1]).s.2 B.rest E 8 _ [g.nx+1] l.sn c (by grind) (by omega)) ?_;intro v F q;obtain ⟨rfl,P,j4,m⟩:=l.add d q;clear q;rw [l3];simp only [nA];simp only [go_sem];(repeat' refine wP ?_<;>simp only [go_sem]);have l4:((((g.add 1 0 []).add 0 0 []).add 7 0 [g.nx+1]).add 8 0 [g.nx+1]).s.1.length=g.nx+4:=by grind [GS.nx]
 refine AN.mk rfl (CH B.i j4 _ ((((g.add 1 0 []).add 0 0 []).add 7 0 [g.nx+1]).add 8 0 [g.nx+1]).s.2 B.rest F 3 .Ac [] m.sn DG.Ac (by simp) (by omega)) ?_;intro v a q;obtain ⟨rfl,R,j5,u⟩:=m.add d q;clear q;rw [l4];simp only [nA];simp only [go_sem];have x:(nbH A).le a:=BJ (BJ (BJ (BJ K L) N) P) R;have n:GX B a (prG g) j5 jc:=u;have o:=AZK g;have w:=fun h Q' p=>AN1 B d nm nu ns ks al T sc env g.nx (prG g) a j5 jc o h y (t.le (by omega)) (by omega) s n Q' p
 have e:∀H,KS B a (prG g) ks (E3 B.G ks env 0 (prF nu g.nx) (prG g)) H->Q (nA (eT nu g.nx).2) H:=fun H h=>by
  rw [<- S];have a1:=h.le;have a2:=h.hi;have a3:=(AK5 (nu:=nu) (b:=g.nx)).2;exact ⟨rfl,BJ x h.nb,h.gx,by simp only [YV];omega,by simp only [YV];omega,by simp only [YV];omega,h.en⟩
 have r:nu=1\/nu=2\/nu=3\/nu=4\/nu=5\/nu=6\/nu=7:=by omega
 rcases r with rfl|rfl|rfl|rfl|rfl|rfl|rfl<;>
 . have:=w (by rw [Y];simp [eS,eT]) Q e;(repeat' first|((first|refine wQ ?_|(refine Dq rfl ?_ ?_<;>intro h<;>try (cases h;done))|fail)<;>try simp only [AA,go_sem])|(constructor<;>intro h<;>first|(cases h;done)|try simp only [h])|fail);exact this
def AHI (ar:List Nat) (ts:List Ty):Nat->Nat->SS->SS:=fun i r s=>Go.Ab.uni ((Eo ar s.1 (ts.getD i (.mk 0 0 []))).2,s.2) r (Eo ar s.1 (ts.getD i (.mk 0 0 []))).1
def AL6 (G:GC) (D:Dat) (ts:List Ty) (d:Nat) (ks:List Ex) (env:Env) (g:GS):Nat×GS:=
 let h:=E3 G ks env 0 (AHI (Af g.nx D.vars.toNat) ts) (g.frs D.vars.toNat)
 (h.nx,h.add 5 d (Af g.nx D.vars.toNat))
def AJB (B:GB) (hB:HU B) (hD:GD B.G) (nm:M) (nu:Int) (ns:List M) (ks:List Ex) (al:List Al) (hk:∀k∈ks,ExC B k) (sc:List M) (env:Env) (d c:Nat) (D:Dat) (con:Con) (h9:Dy B.G.dt nm=some (d,c)) (h0:B.G.dt[d]?=some D) (G:D.cons[c]?=some con) (hn:ks.length=con.args.length)
 (g:GS) (A:X) (j jc:Nat) (hv:∀k∈ks,OkE B.G k sc) (hb:ES sc env g) (hnx:g.nx+1000000 * (1+Ex.AQ ks)<=900000000) (hen:g.en.length+Ex.AQ ks<=900000000) (hg:GX B A g j jc):
 AS Tzp 174 [.gp B.i 0,exA (.mk 6 nm nu ns ks al),.d (J8 env)] A (fun v H=>v=nA (AL6 B.G D con.args d ks env g).1/\RQ B A g (AL6 B.G D con.args d ks env g).1 (1000000 * (1+Ex.AQ ks)) (Ex.AQ ks) (AL6 B.G D con.args d ks env g).2 H):=by
 have hkl:=Ex.CL ks;obtain ⟨v1,v2,v3,v4⟩:=hD.dt D (AE h0);obtain ⟨c1,c2⟩:=v4 con (AE G);have x:=NX h0;have K:=Yg G;obtain ⟨Dn,Dv,Dc⟩:=D;obtain ⟨cn,ts⟩:=con;obtain ⟨n,rfl⟩:=E0 v1;simp only [BX,Ty.BQ] at v1 v2 v3 v4 c1 c2 x K G hn ⊢;simp only [AL6,BX];have hnl:n<=1000:=by omega
 have w:=Lb B.G.dt (fun d hd=>(hD.dt d hd).2.2.1) nm A;rw [h9] at w;simp only [pW] at w;have Y:=hg.bi;refine ZW.go ?_;rw [DN];simp only [exA,Ex.A6,AB,AJ];simp only [dsA] at Y w;(repeat' (first|refine sQ ?_|refine AN.det (w) ?_|fail)<;>try simp only [Y,x,go_sem]);refine AN.mk rfl (Dr B.i j g.s.1 g.s.2 B.rest A n hg.sn (by omega) (by have:g.s.1.length=g.nx:=rfl;omega)) ?_;intro v h7 q;obtain ⟨rfl,h4,j0,hf⟩:=hg.frs hB q;clear q;have l0:g.s.1.length=g.nx:=rfl;rw [l0];simp only [go_sem];(repeat' refine sQ ?_<;>simp only [AA,go_sem]);have hn0:=bM g n;have har:∀a∈Af g.nx n,a < g.nx+n:=fun a ha=>by grind
 have hrl:(Af g.nx n).length=n:=by simp
 generalize Af g.nx n=ar at *;have hg0e:(g.frs n).en.length=g.en.length:=rfl;generalize g.frs n=S at *
 refine lpK (fun (z:Nat×X)=>[(39,A1 z.1)]) (fun z=>z.2)
  (fun z=>z.1<=ks.length/\KS B h7 S (ks.take z.1) (E3 B.G (ks.take z.1) env 0 (AHI ar ts) S) z.2)
  (fun z=>ks.length - z.1) ?_ (0,h7) ⟨by simp,by simp only [CD,E3];exact KS.nil hf⟩
 rintro ⟨p,V⟩ ⟨hp,b⟩ ih;simp only at hp b;by_cases E:p < ks.length
 . obtain ⟨k,f⟩:=Ak E;have he:=Au (J:=Ex.J) f;have fs:=wS p;obtain ⟨hz1,hz2⟩:=Ex.Ck f;have h5:=Vg B.G k env (AHI ar ts) (ks.take p) 0 S;rw [<- Aa f] at h5;generalize E3 B.G (ks.take p) env 0 (AHI ar ts) S=q at *;obtain ⟨j1,Q,e⟩:=b.gx;have hj:=b.hi;have hl:=b.le;have h1:=b.en;have F:=AE f;have hc:=hk k F sc env q V j1 Q (hv k F) (hb.le (by omega)) (by omega) (by omega) e;generalize BN B.G k env q=r at *;obtain ⟨t,ht⟩:=Ak (show p < ts.length by omega);have P:=Au (J:=Ty.J) ht;have h6:=AE ht;have htv:=Uw c1 t h6;have hts:=Ai (Ty.EJ h6) c2;have h3:=f;have Z:=e.bi;simp only [dsA] at Z;obtain ⟨o,n',u',ns',kk,al'⟩:=k;obtain ⟨h,u,i⟩:=t;simp only [Ex.A6,exA,AB,AJ] at he hc;have hy:(Ty.mk h u i).J=[.int .i64 h,.int .i64 u,.sl (i.map Ty.J)]:=by simp [Ty.J,Ty.BQ]
   rw [hy] at P;(repeat' refine sQ ?_<;>simp only [BI E,he,go_sem]);refine W.Gs mixed ?_;simp only [Z,x,K,P,go_sem]
   have h8:∀(s:SS) (m:Nat),AHI ar ts (0+(ks.take p).length) m s=Go.Ab.uni ((Eo ar s.1 (.mk h u i)).2,s.2) m (Eo ar s.1 (.mk h u i)).1:=fun s m=>by
    grind [AHI]
   refine ⟨?_,?_,?_,?_,?_⟩<;>
   . refine AN.mk rfl hc ?_;rintro _ vs ⟨rfl,hq⟩;simp only [nA];obtain ⟨j2,jc2,L⟩:=hq.gx;have hql':=hq.le;have hqh:=hq.hi;have U:=L.bi;simp only [dsA] at U;simp only [U,x,K,P,go_sem];have hrn:r.2.s.1.length=r.2.nx:=rfl;have T:∀a∈ar,a < r.2.s.1.length:=fun a ha=>by grind
     have h2:=H7 B.i B.rest ar _ (.mk h u i) (AW _) (by grind) r.2.s.1 r.2.s.2 j2 vs T (by omega) L.sn;rw [ATJ] at h2;refine AN.mk rfl h2 ?_;rintro _ us ⟨rfl,j3,ds,R⟩;simp only [nA];simp only [go_sem];have N:=dU ar r.2.s.1 (.mk h u i);have hm:=rR (ar:=ar) (l:=r.2.s.1) (t:= .mk h u i) (by grind) T;have hlo:=N.le;have hlh:=N.hi;have y:=L.step hB (s:=((Eo ar r.2.s.1 (.mk h u i)).2,r.2.s.2)) ds R N.le;have hqt:=hq.lt;refine AN.mk rfl (C9 B.i B.rest _ _ r.2.s.2 j3 r.1 _ us (Oe _) y.sn (by grind) hm (by grind)) ?_;intro v4 cs q4;obtain ⟨hs,j4,hi⟩:=y.uni hB q4;simp only [go_sem];(repeat' refine sQ ?_<;>simp only [fs,go_sem]);refine ih ⟨p+1,cs⟩ ⟨E,?_⟩ (by simp only;omega);simp only [h5,h8];have hlu:=AB1 ((Eo ar r.2.s.1 (.mk h u i)).2,r.2.s.2) r.1 (Eo ar r.2.s.1 (.mk h u i)).1;refine b.snoc h3 hq (BJ R.nb hs) hi ?_ ?_ rfl
     . grind [Go.Ab.uni,GS.nx]
     grind [Go.Ab.uni,GS.nx]
 . have hx:p=ks.length:=by omega
   subst hx;rw [Ar] at b;obtain ⟨j1,Q,e⟩:=b.gx;have hj:=b.hi;have hl:=b.le;have h1:=b.en;generalize E3 B.G ks env 0 (AHI ar ts) S=q at *;have hql:q.s.1.length=q.nx:=rfl;(repeat' refine sQ ?_<;>simp only [B5 E,go_sem]);refine AN.mk rfl (KT B.i j1 q.s.1 q.s.2 B.rest V 5 d (BU (ar.map Ba)) ar e.sn (DG.d _) (fun a ha=>by grind) (by omega)) ?_;intro v H q3;obtain ⟨rfl,ho,j3,y⟩:=e.add hB q3;simp only [nA];simp only [go_sem];(repeat' refine sP ?_<;>simp only [go_sem]);exact ⟨rfl,BJ (BJ h4 b.nb) ho,⟨j3,Q,y⟩,by rw [DD];omega,by rw [DD];omega,by rw [DD];omega,by rw [AAH];omega⟩
def WkT (F F':Fm):Prop:=∀s,F' s=F s\/((F s).BS=true/\F' s=(F s).plain)
def W.AX3 {KK:I->X->Prop} {k:List CI} (l:WkT F F') (h:W cx KK k F' L A):W cx KK k F L A:=by
 intro d base g lam j a o w b f i c m n;refine h d base g lam j a o w b f i ⟨fun s=>?_,c.sz,c.df,c.loc,c.inj,c.npr,c.rel⟩ m n;rcases l s with e|e
 . rw [e];exact c.tm s
 . rw [e.2];exact SV.FT (SV.vr e.1 (c.tm s)).plain
theorem WkT.refl (F:Fm):WkT F F:=fun _=>.inl rfl
def WkT.skip (h:WkT F F') (s:Nat) (x:I):WkT (put s x F) (put s x F'):=fun a=>by
 by_cases e:a=s
 . subst e;exact .inl (by simp [put])
 . rcases h a with h|h
   . exact .inl (by simp [put,e,h])
   . exact .inr (by simp [put,e,h])
def WkT.here (h:WkT F F') (s:Nat) {w:I} (b:v.BS=true) (c:v.plain=w):WkT (put s v F) (put s w F'):=fun a=>by
 by_cases e:a=s
 . grind [put]
 . rcases h a with h|h
   . exact .inl (by simp [put,e,h])
   . exact .inr (by simp [put,e,h])
def bI:∀(ns:List M) (ts:List Nat) (env:Env) (s:M),ns.length=ts.length->s≠[]->(Mb (Cy env ns ts) s).isSome=((Mb env s).isSome||ns.contains s)
 |[],[],env,s,_,_=>by simp [Cy]
 |[],_::_,_,_,h,_=>by simp at h
 |_::_,[],_,_,h,_=>by simp at h
 |n::ns,t::ts,env,s,h,b=>by
  rw [Cy,bI ns ts _ s (by simpa using h) b];by_cases a:n=[]
  . subst a;simp [b]
  . rw [if_neg a,Mb]
    grind
def AE3:∀ {ns:List M} {ts:List Nat} {env:Env} {x:M×Nat},x∈Cy env ns ts->x∈env\/x.2∈ts
 |[],ts,env,x,h=>by simp only [Cy] at h;exact .inl h
 |_::_,[],env,x,h=>by simp only [Cy] at h;exact .inl h
 |n::ns,t::ts,env,x,h=>by
  rw [Cy] at h;rcases AE3 h with h|h
  . grind
  grind
def ES.with {sc:List M} {env:Env} {g:GS} (h:ES sc env g) {ns:List M} {ts:List Nat} (d:ns.length=ts.length) {g':GS} (b:g.nx<=g'.nx) (e:∀t∈ts,t < g'.nx):ES (sc++ns) (Cy env ns ts) g':=by
 refine ⟨fun s c=>?_,fun x a=>?_⟩
 . rw [bI ns ts env s d c,h.sc s c,N8]
 . rcases AE3 a with a|a
   . exact Be (h.lt x a) b
   . exact e _ a
def ACS (G:GC) (D:Dat) (env:Env) (ar:List Nat) (t:Nat) (g:GS):Al->GS
 | .mk c vs b=>
  let q:=Bi ar g.s.1 (((D.cons[((Dy G.dt c).map (·.2)).getD 0]?).map Con.args).getD [])
  let r:=BN G b (Cy env vs q.1) { g with s:=(q.2,g.s.2)}
  r.2.uni r.1 t
def oO (G:GC) (D:Dat) (env:Env) (ar:List Nat) (t:Nat):∀(al:List Al) (g:GS),cH G al env D ar t g=al.foldl (ACS G D env ar t) g
 |[],g=>by simp [cH]
 | .mk c vs b::al,g=>by rw [cH,oO G D env ar t al];rfl
theorem Al.LO (a b:List Al):Al.AQ (a++b)=Al.AQ a+Al.AQ b:=by
 induction a with
 |nil=>simp [Al.AQ]
 |cons x a c=>grind [Al.AQ]
def Al.Ck {ks:List Al} {p:Nat} {k:Al} (h:ks[p]?=some k):Al.AQ (ks.take (p+1))=Al.AQ (ks.take p)+k.size/\Al.AQ (ks.take p)+k.size<=Al.AQ ks:=by
 have a:Al.AQ (ks.take (p+1))=Al.AQ (ks.take p)+k.size:=by rw [Aa h,Al.LO];simp [Al.AQ]
 grind [Am,Al.LO]
def Al.NI:∀ks:List Al,ks.length<=Al.AQ ks
 |[]=>AW _
 | .mk _ _ b::ks=>by have:=Al.NI ks;have:=Ex.size_pos b;simp only [AT,Al.AQ,Al.size];omega
structure KA (B:GB) (A:X) (g:GS) (al:List Al) (g':GS) (H:X):Prop where
 nb:(nbH A).le H
 gx:∃j jc,GX B H g' j jc
 le:g.nx<=g'.nx
 hi:g'.nx<=g.nx+1000000 * Al.AQ al
 en:g'.en.length=g.en.length+Al.AQ al
def KA.nil {B:GB} {A:X} {g:GS} {j jc:Nat} (h:GX B A g j jc):KA B A g [] g A:=⟨IW A,⟨j,jc,h⟩,AW _,by simp [Al.AQ],by simp [Al.AQ]⟩
def it0:Int.toNat 0=0:=rfl
def it1:Int.toNat 1=1:=rfl
def it2:Int.toNat 2=2:=rfl
def il0:((0:Int)<=0)=True:=by simp
def il1:((0:Int)<=1)=True:=by simp
def il2:((0:Int)<=2)=True:=by simp
def ANI (G:GC) (D:Dat) (d:Nat) (ks:List Ex) (al:List Al) (env:Env) (g:GS):Nat×GS:=
 let ar:=Af g.nx D.vars.toNat
 let q:=YS G ks env (g.frs D.vars.toNat)
 let h:=(q.2.add 5 d ar).uni q.1 q.2.nx
 (h.nx,cH G al env D ar h.nx (h.add 0 0 []))
def AFZ (B:GB) (U:HU B) (hD:GD B.G) (nm:M) (nu:Int) (ns:List M) (k:Ex) (al:List Al) (hk:ExC B k) (hka:∀a∈al,ExC B a.body) (sc:List M) (env:Env) (d:Nat) (D:Dat) (h9:B.G.dt[d]?=some D) (hne:al≠[])
 (K:∀a∈al,∃c con,Dy B.G.dt a.con=some (d,c)/\D.cons[c]?=some con/\a.vars.length=con.args.length)
 (g:GS) (A:X) (j jc:Nat) (hok:OkE B.G k sc) (ks:∀a∈al,OkE B.G a.body (sc++a.vars)) (hf:ES sc env g) (hnx:g.nx+1000000 * (1+Ex.AQ [k]+Al.AQ al)<=900000000) (hen:g.en.length+(Ex.AQ [k]+Al.AQ al)<=900000000) (hg:GX B A g j jc):
 AS Tzp 175 [.gp B.i 0,exA (.mk 10 nm nu ns [k] al),.d (J8 env)] A (fun v H=>v=nA (ANI B.G D d [k] al env g).1/\RQ B A g (ANI B.G D d [k] al env g).1 (1000000 * (1+Ex.AQ [k]+Al.AQ al)) (Ex.AQ [k]+Al.AQ al) (ANI B.G D d [k] al env g).2 H):=by
 have hkl:=Al.NI al;obtain ⟨v1,v2,v3,v4⟩:=hD.dt D (AE h9);have L:=NX h9;have hsk:Ex.AQ [k]=k.size:=by simp [Ex.AQ]
 rw [hsk] at hnx hen ⊢;obtain ⟨R,Dv,Q⟩:=D;obtain ⟨n,rfl⟩:=E0 v1;simp only [BX] at v1 v2 v3 v4 L K;simp only [ANI,BX,YS];have hnl:n<=1000:=by omega
 have h7:=fun (s:M) (V:X)=>Lb B.G.dt (fun d hd=>(hD.dt d hd).2.2.1) s V
 obtain ⟨S,Z,rfl⟩:∃a l,al=a::l:=by
  cases al with
  |nil=>grind
  |cons a l=>grind
 obtain ⟨c0,con0,ha0,_,_⟩:=K S (AY);have e:=h7 S.con A;rw [ha0] at e;simp only [pW,dsA] at e;have h2:((S::Z).map Al.J)[0]?=some S.J:=rfl;generalize hall:S::Z=al at *;have h3:=hg.bi;obtain ⟨an,av,ab⟩:=S;obtain ⟨ao,an2,anu,ans,aks,aal⟩:=ab;simp only [Al.A6,Al.con] at h2 e;refine YD.go ?_;rw [DN];obtain ⟨o,n',u',us,kk,h0⟩:=k;simp only [exA,Ex.A6,AB,AJ];simp only [dsA] at h3;(repeat' (first|refine sQ ?_|refine AN.det (e) ?_|fail)<;>try simp only [h3,L,h2,il0,it0,go_sem]);refine AN.mk rfl (Dr B.i j g.s.1 g.s.2 B.rest A n hg.sn (by omega) (by have:g.s.1.length=g.nx:=rfl;omega)) ?_;intro v τ0 q;obtain ⟨rfl,hx,j0,hg0⟩:=hg.frs U q;clear q;have l0:g.s.1.length=g.nx:=rfl;rw [l0];simp only [go_sem];have hn0:=bM g n;have har:∀a∈Af g.nx n,a < g.nx+n:=fun a ha=>by grind
 have fs:(Af g.nx n).length=n:=by simp
 generalize Af g.nx n=ar at *;have hg0e:(g.frs n).en.length=g.en.length:=rfl;generalize g.frs n=g0 at *;have hc:=hk sc env g0 τ0 j0 jc hok (hf.le (by omega)) (by omega) (by omega) hg0;generalize BN B.G _ env g0=r at *;simp only [Ex.A6,exA,AB,AJ] at hc;have hk0:([Ex.J (.mk o n' u' us kk h0)])[0]?=some [.int .i64 o,.str n',.int .i64 u',.sl (us.map CG),.sl (kk.map Ex.J),.sl (h0.map Al.J)]:=by rw [Ex.A6];rfl
 (repeat' refine sQ ?_<;>simp only [il0,it0,go_sem]);refine AN.mk rfl hc ?_;rintro _ τ1 ⟨rfl,Y⟩;simp only [nA];simp only [go_sem];obtain ⟨j2,jc2,hl⟩:=Y.gx;have hql':=Y.le;have hqh:=Y.hi;have hqe:=Y.en;have hqt:=Y.lt;have hrn:r.2.s.1.length=r.2.nx:=rfl;refine AN.mk rfl (KT B.i j2 r.2.s.1 r.2.s.2 B.rest τ1 5 d (BU (ar.map Ba)) ar hl.sn (DG.d _) (fun a ha=>by grind) (by omega)) ?_;intro v τ2 q;obtain ⟨rfl,hn3,j3,hm⟩:=hl.add U q;clear q;simp only [nA];simp only [go_sem];have hna:=DD r.2 5 d ar;have hna':(r.2.add 5 d ar).s.1.length=r.2.nx+1:=hna;refine AN.mk rfl (C9 B.i B.rest _ _ (r.2.add 5 d ar).s.2 j3 r.1 r.2.s.1.length τ2 (Oe _) hm.sn (by omega) (by omega) (by omega)) ?_;intro v40 τ3 q4;obtain ⟨hn4,j4,N⟩:=hm.uni U q4;clear q4;rw [hrn] at N;simp only [go_sem];have hnu:=NK (r.2.add 5 d ar) r.1 r.2.nx;have heu:((r.2.add 5 d ar).uni r.1 r.2.nx).en.length=r.2.en.length:=rfl;generalize (r.2.add 5 d ar).uni r.1 r.2.nx=h at *;have hhl:h.s.1.length=h.nx:=rfl;(repeat' refine sQ ?_<;>simp only [go_sem]);refine AN.mk rfl (Fv B.i j4 h.s.1 h.s.2 B.rest τ3 N.sn (by omega)) ?_;intro v cs q;obtain ⟨rfl,hn5,j5,hg5⟩:=N.add U q;clear q;rw [hhl];simp only [nA];simp only [go_sem];have hnh:=DD h 0 0 []
 have heh:(h.add 0 0 []).en.length=h.en.length:=rfl;generalize h.add 0 0 []=T at *;have ht:h.nx < T.nx:=by omega
 generalize h.nx=t at *;rw [oO];(repeat' refine sQ ?_<;>simp only [AA,go_sem])
 refine lpK (fun (z:Nat×X)=>[(69,A1 z.1)]) (fun z=>z.2)
  (fun z=>z.1<=al.length/\KA B cs T (al.take z.1) ((al.take z.1).foldl (ACS B.G ⟨R,n,Q⟩ env ar t) T) z.2)
  (fun z=>al.length - z.1) ?_ (0,cs) ⟨by simp,by simp only [CD,List.foldl_nil];exact KA.nil hg5⟩
 rintro ⟨p,V⟩ ⟨hp,m⟩ ih;simp only at hp m;by_cases y:p < al.length
 . obtain ⟨a,w⟩:=Ak y;have he:=Au (J:=Al.J) w;have hw1:=wS p;obtain ⟨hz1,hz2⟩:=Al.Ck w
   have ds:(al.take (p+1)).foldl (ACS B.G ⟨R,n,Q⟩ env ar t) T=ACS B.G ⟨R,n,Q⟩ env ar t ((al.take p).foldl (ACS B.G ⟨R,n,Q⟩ env ar t) T) a:=by
    rw [Aa w,Cv];rfl
   generalize (al.take p).foldl (ACS B.G ⟨R,n,Q⟩ env ar t) T=q at *;obtain ⟨j1,jc1,P⟩:=m.gx;have hhi:=m.hi;have hle:=m.le;have hb:=m.en;have u:=AE w;obtain ⟨cb,con,h5,F,hvl⟩:=K a u;have h6:=Yg F;obtain ⟨c1,c2⟩:=v4 con (AE F);have vs:=hka a u;have hy:=ks a u;have f:=h7 a.con V;rw [h5] at f;have h4:=P.bi;simp only [pW,dsA] at f h4;obtain ⟨cn,ts⟩:=con;obtain ⟨ac,b,bd⟩:=a;simp only [Al.con,Al.vars,Al.body,Al.size,Ty.BQ] at h5 h6 hvl vs hy f c1 c2 hz1 hz2;have hqn:q.s.1.length=q.nx:=rfl;have E:∀a∈ar,a < q.s.1.length:=fun a ha=>by grind
   have hs:∀t∈ts,AJO B.i B.rest ar t:=fun t ht=>H7 B.i B.rest ar t.size t (AW _) (by rw [fs];exact Uw c1 t ht);have x:=NG ar q.s.1 ts;have hlo:=x.le;have hlh:=x.hi;have hv:=Yo (ar:=ar) (l:=q.s.1) (ts:=ts) (by rw [fs];exact c1) E;have hll:=If ar q.s.1 ts;have hst:ACS B.G ⟨R,n,Q⟩ env ar t q (.mk ac b bd)=((BN B.G bd (Cy env b (Bi ar q.s.1 ts).1) { q with s:=((Bi ar q.s.1 ts).2,q.s.2)}).2.uni (BN B.G bd (Cy env b (Bi ar q.s.1 ts).1) { q with s:=((Bi ar q.s.1 ts).2,q.s.2)}).1 t):=by grind [ACS]
   rw [hst] at ds;have hsp:=Ex.size_pos bd;obtain ⟨bo,bn,bu,bns,bks,bal⟩:=bd;rw [Al.A6] at he;(repeat' (first|refine sQ ?_|refine AN.det (f) ?_|fail)<;>try simp only [BI y,he,h4,L,h6,go_sem]);refine AN.mk rfl (Jh B.i B.rest ar ts hs q.s.1 q.s.2 j1 V E (by omega) P.sn) ?_;rintro v5 τ5 ⟨ho,j6,sn6,h1⟩;simp only [go_sem];refine W.AX3 (WkT.skip (WkT.skip (WkT.skip (WkT.skip (WkT.skip (WkT.skip (WkT.here (WkT.refl _) 17 ho.BS ho.plain) _ _) _ _) _ _) _ _) _ _) _ _) ?_;have hq6:=P.step U (s:=((Bi ar q.s.1 ts).2,q.s.2)) sn6 h1 x.le;have hwc:=KR (.d (J8 env)) env (PlV.d _) b (Bi ar q.s.1 ts).1 (by grind) τ5;have hee:({ q with s:=((Bi ar q.s.1 ts).2,q.s.2)}:GS).en.length=q.en.length:=rfl;have hen6:({ q with s:=((Bi ar q.s.1 ts).2,q.s.2)}:GS).nx=(Bi ar q.s.1 ts).2.length:=rfl;have hi:=(hf.le (show g.nx<=q.nx by omega)).with (ns:=b) (ts:=(Bi ar q.s.1 ts).1) (g':= { q with s:=((Bi ar q.s.1 ts).2,q.s.2)}) (by grind) x.le hv;generalize ({ q with s:=((Bi ar q.s.1 ts).2,q.s.2)}:GS)=q6 at *;have h8:=vs (sc++b) (Cy env b (Bi ar q.s.1 ts).1) q6 τ5 j6 jc1 hy hi (by omega) (by omega) hq6;generalize BN B.G _ (Cy env b (Bi ar q.s.1 ts).1) q6=G at *;simp only [exA,Ex.A6,AB,AJ] at h8
   (repeat' (first|refine sQ ?_|refine AN.det (hwc) ?_|fail)<;>try simp only [go_sem]);refine AN.mk rfl h8 ?_;rintro _ τ7 ⟨rfl,i⟩;simp only [nA];simp only [go_sem];obtain ⟨j8,jc8,hn⟩:=i.gx;have h7l:=i.le;have h7h:=i.hi;have h7e:=i.en;have h7n:G.2.s.1.length=G.2.nx:=rfl;refine AN.mk rfl (C9 B.i B.rest _ _ G.2.s.2 j8 G.1 t τ7 (Oe _) hn.sn i.lt (by omega) (by omega)) ?_;intro v8 τ8 q8;obtain ⟨hn8,j9,hg9⟩:=hn.uni U q8;simp only [go_sem];(repeat' refine sQ ?_<;>simp only [hw1,go_sem]);have hnu9:=NK G.2 G.1 t;have hj:=AQB G.2 G.1 t;refine ih ⟨p+1,τ8⟩ ⟨y,?_⟩ (by simp only;omega);simp only [ds];exact ⟨BJ (BJ (BJ m.nb h1.nb) i.nb) hn8,⟨j9,jc8,hg9⟩,by omega,by omega,by rw [hj];omega⟩
 . have hpe:p=al.length:=by omega
   subst hpe;rw [Ar] at m;have hhi:=m.hi;have hle:=m.le;have hb:=m.en;(repeat' refine sP ?_<;>simp only [B5 y,go_sem]);exact ⟨BJ (BJ (BJ (BJ (BJ (BJ hx Y.nb) hn3) hn4) hn5) (IW _)) m.nb,m.gx,by omega,by omega,by omega,by omega⟩
def AF0 (l:List Nd) (ts:List Nat):List Nat:=(ts.foldl (fun s a=>JT l (l.length+1) s a) (AH l.length false,[])).2
def exU (i j js j5:Nat) (V:X) (k:Nat):Option (List I):=if k=j5 then none else exT i j js V k
theorem AHW (n:Nat):fz (AH n false)<=n:=by
 grind [WL,AH,fz]
def xI (n:Nat):(AH n [I.d (.bool false)]).flatten=BP (AH n false):=by
 induction n with
 |zero=>rfl
 |succ n a=>rw [Bg,BO,a,Bg];rfl
def dH {i js:Nat} {c:List I} (h:V.C k=some c) (a:k≠i) (b:k≠j) (d:k≠js) (e:k≠j5):exU i j js j5 V k=some c:=by
 rw [exU,if_neg e];exact KE h a b d
def SX.Ac7 {i js:Nat} {l:List Nd} {fl:Bool} {rest:List I} (b:l≠[]) (m:Mo A V) (t:A.C js=none) (r:A.C j5=none) (h:SX (exU i j js j5 V) τ' i l fl rest j' js cs) (a:(nbH A).le τ') (p:j5≠j'):SN τ' i l fl rest j'/\Fr A i l j τ' l j':=by
 refine ⟨h.sn,⟨fun k g n o=>?_,fun _=>by rw [h.sn.C];simp,fun _=>?_,a.gt.symm,a.tok,a.bt⟩⟩
 . cases f:A.C k with
   |none=>exact absurd f o
   |some c=>exact h.x k c (dH (m.C k c f) g (n b) (fun e=>by grind) (fun e=>by grind))
 . obtain ⟨q,_⟩:=h.sn.nd b;have d:=h.xj b;have s:=h.sj b;by_cases e:j'=j
   . grind
   . right;unfold exU exT at d;rw [if_neg (A5 p),if_neg (by grind)] at d;exact m.ne d
def bT (i:Nat) (rest:List I) (l:List Nd) (fl:Bool) (j:Nat) (A:X) (ts:List Nat) (v:I) (hv1:v.BS=true) (hv2:v.plain= .d (.sl (ts.map Ba))) (hts:∀a∈ts,a < l.length) (hl0:l≠[]) (hln:l.length<=900000000) (h:SN A i l fl rest j):
 AS Tzp 181 [.gp i 0,v] A (SNQ A i l rest j (l,fl) (.d (.sl ((AF0 l ts).map Ba)))):=by
 have hbi:=h.C;rw [Ef hl0] at hbi;obtain ⟨hji,c0,hc0,hbj⟩:=h.nd hl0;refine TL (by simp) ?_;rw [B4];refine W.AX3 (WkT.skip (WkT.here (WkT.refl _) 1 hv1 hv2) _ _) ?_;clear hv1 hv2 v;(repeat' (refine sQ ?_<;>try simp only [go_sem]));intro j2 hj2;have m2:=(Mo.refl A).new hj2 [I.gp i 0];have f2:(A.AI j2 [I.gp i 0]).C j2=some [I.gp i 0]:=BB;generalize A.AI j2 [I.gp i 0]=τ2 at *;(repeat' (refine sQ ?_<;>try simp only [go_sem]));intro j5 hj5;have m5:=(Mo.refl τ2).AFA hj5 [I.Ac] [I.Ac] (1,39);have f5:(((τ2.AI j5 [I.Ac]).BM j5 (1,39)).AI j5 [I.Ac]).C j5=some [I.Ac]:=BB;have he5:((τ2.AI j5 [I.Ac]).BM j5 (1,39))=(((τ2.AI j5 [I.Ac]).BM j5 (1,39)).AI j5 [I.Ac]):=(Ir (by rw [BE,AD,if_pos rfl])).symm;rw [he5];generalize ((τ2.AI j5 [I.Ac]).BM j5 (1,39)).AI j5 [I.Ac]=τ5 at *;have hbi5:=m5.C _ _ (m2.C _ _ hbi);have f25:=m5.C _ _ f2;(repeat' (refine sQ ?_<;>try simp only [hbi5,f25,go_sem]));refine K8.mk l.length (by omega) (by omega) (fun js hjs=>?_);rw [xI];have ms:=(Mo.refl τ5).new hjs (BP (AH l.length false));have fs:(τ5.AI js (BP (AH l.length false))).C js=some (BP (AH l.length false)):=BB;generalize τ5.AI js (BP (AH l.length false))=τs at *;simp only [go_sem]
 intro j6 hj6;simp only [BE,go_sem];have m6:=(Mo.refl τs).AFA hj6 [I.Ac] [I.ms js l.length 1 eMm] (1,189);have f6:(((τs.AI j6 [I.Ac]).BM j6 (1,189)).AI j6 [I.ms js l.length 1 eMm]).C j6=some [I.ms js l.length 1 eMm]:=BB;have he6:(((τs.AI j6 [I.Ac]).BM j6 (1,189)).AI j6 [I.ms js l.length 1 4])=(((τs.AI j6 [I.Ac]).BM j6 (1,189)).AI j6 [I.ms js l.length 1 eMm]):=rfl;rw [he6];generalize ((τs.AI j6 [I.Ac]).BM j6 (1,189)).AI j6 [I.ms js l.length 1 eMm]=τ6 at *;(repeat' (refine sQ ?_<;>try simp only [go_sem]));intro j7 hj7;have m7:=(Mo.refl τ6).AFA hj7 [I.Jd] [.fn 210 [] [.gp j2 0,.gp j6 0,.gp j5 0,.gp j7 0]] (1,77);have f7:(((τ6.AI j7 [I.Jd]).BM j7 (1,77)).AI j7 [.fn 210 [] [.gp j2 0,.gp j6 0,.gp j5 0,.gp j7 0]]).C j7=some [.fn 210 [] [.gp j2 0,.gp j6 0,.gp j5 0,.gp j7 0]]:=BB;(repeat' (refine wQ ?_<;>try simp only [BE,AA,go_sem]));generalize ((τ6.AI j7 [I.Jd]).BM j7 (1,77)).AI j7 [.fn 210 [] [.gp j2 0,.gp j6 0,.gp j5 0,.gp j7 0]]=τ7 at *;have hmo:Mo A τ7:=((((m2.trans m5).trans ms).trans m6).trans m7);have c2:=m7.C _ _ (m6.C _ _ (ms.C _ _ f25));have c5:=m7.C _ _ (m6.C _ _ (ms.C _ _ f5));have cs:=m7.C _ _ (m6.C _ _ fs);have c6:=m7.C _ _ f6
 have j5n:A.C j5=none:=m2.ne hj5.1;have jsn:A.C js=none:=(m2.trans m5).ne hjs;have j6n:A.C j6=none:=((m2.trans m5).trans ms).ne hj6.1;have j7n:A.C j7=none:=(((m2.trans m5).trans ms).trans m6).ne hj7.1;have hne:∀k,A.C k=none->k≠i/\k≠j:=fun k h2=>⟨fun e=>(by rw [e,h.C] at h2;cases h2),fun e=>(by rw [e,hbj] at h2;cases h2)⟩;have a25:j2≠j5:=fun e=>by rw [e,hj5.1] at f2;cases f2
 have a2s:j2≠js:=fun e=>by rw [e,hjs] at f25;cases f25
 have a5s:j5≠js:=fun e=>by rw [e,hjs] at f5;cases f5
 have a6s:j6≠js:=fun e=>by rw [<- e,hj6.1] at fs;cases fs
 have a65:j6≠j5:=fun e=>by have:=ms.C _ _ f5;rw [<- e,hj6.1] at this;cases this
 have a7s:j7≠js:=fun e=>by have:=m6.C _ _ fs;rw [<- e,hj7.1] at this;cases this
 have a75:j7≠j5:=fun e=>by have:=m6.C _ _ (ms.C _ _ f5);rw [<- e,hj7.1] at this;cases this
 have x2:=dH (js:=js) (j5:=j5) c2 (hne _ hj2).1 (hne _ hj2).2 a2s a25;have x6:=dH (js:=js) (j5:=j5) c6 (hne _ j6n).1 (hne _ j6n).2 a6s a65;have x7:=dH (js:=js) (j5:=j5) f7 (hne _ j7n).1 (hne _ j7n).2 a7s a75;have hsx:=(SX.mk' h hl0 hmo cs jsn).AW4 (ext:=exU i j js j5 τ7) (fun k c hk=>by unfold exU at hk;split at hk;cases hk;exact hk);have hu:UX (exU i j js j5 τ7) A τ7 i l fl rest j js j5 (AH l.length false,[]) .Ac:=⟨hsx,c5,by simp [exU],(hne _ j5n).1,fun _=>(hne _ j5n).2,a5s,(ANU 3 1).Ee hmo.nb (fun t h=>by cases h),by simp,by have:=AHW l.length;simp only [A8];omega⟩;have hvis:=xA _ A i rest l fl j2 j6 j5 j7 js hln x2 x6 x7 (l.length+1);refine W.slot 17 (fun hsl=>?_);simp only [DR,reduceIte,HW,I.Ep,AA] at hsl
 refine lpK (fun (z:Nat×X)=>[(19,.d (.int .i64 z.1))]) (fun z=>z.2)
  (fun z=>z.1<=ts.length/\fz ((ts.take z.1).foldl (fun s a=>JT l (l.length+1) s a) (AH l.length false,[])).1<=l.length/\∃v' j',UX (exU i j js j5 τ7) A z.2 i l fl rest j' js j5 ((ts.take z.1).foldl (fun s a=>JT l (l.length+1) s a) (AH l.length false,[])) v')
  (fun z=>ts.length - z.1) ?_ (0,τ7) ⟨by simp,AHW _,.Ac,j,hu⟩
 rintro ⟨p,V⟩ ⟨hp,hfz,v5,j10,hu5⟩ ih;simp only at hp hfz hu5;have hb7:=hu5.sx.x _ _ x7;by_cases hlt:p < ts.length
 . obtain ⟨a,ha⟩:=Ak hlt;have har:=H5 ha;have hal:=hts a (AE ha)
   have hst:(ts.take (p+1)).foldl (fun s a=>JT l (l.length+1) s a) (AH l.length false,[])=JT l (l.length+1) ((ts.take p).foldl (fun s a=>JT l (l.length+1) s a) (AH l.length false,[])) a:=by
    rw [Aa ha,Cv];rfl
   have hw1:IntKind.i64.wrap ((p:Int)+1)=((p+1:Nat):Int):=by rw [B2 (by omega) (by omega)];omega
   have hcall:=hvis _ v5 j10 V a (by omega) hal hu5;simp only [nA] at hcall;(repeat' (refine sQ ?_<;>try simp only [BI hlt,har,hb7,go_sem]));refine ⟨210,[],[.gp j2 0,.gp j6 0,.gp j5 0,.gp j7 0],rfl,by kernel_rfl,AN.mk rfl hcall ?_⟩;rintro v6 τ8 ⟨hz6,v7,j11,hu6⟩;simp only [go_sem];(repeat' (refine sQ ?_<;>try simp only [hw1,go_sem]));exact ih ⟨p+1,τ8⟩ ⟨hlt,by simp only [hst];omega,v7,j11,by simp only [hst];exact hu6⟩ (by simp only;omega)
 . have hpe:p=ts.length:=by omega
   subst hpe;rw [Ar] at hfz hu5;have hr5:=hu5.row;have ho:=hu5.own;(repeat' (refine wP ?_<;>try simp only [B5 hlt,hr5,ho.w4,ho.plain,go_sem]));exact ⟨rfl,j10,hu5.sx.Ac7 hl0 hmo jsn j5n ho.le (hu5.ej hl0)⟩
def Fr.pre {i:Nat} {l:List Nd} (h:Fr V i l j τ' l' j') (a:∀k,V.C k=A.C k) (c:(nbH A).le V):Fr A i l j τ' l' j':=
 ⟨fun k b d e=>by rw [h.C k b d (by rw [a];exact e),a],fun b=>h.ii (by rw [a];exact b),fun f=>by have:=h.nw f;rw [a] at this;exact this,h.gt.trans c.gt.symm,fun t g=>h.tok t (c.tok t g),fun k x m=>h.bt k x (c.bt k x m)⟩
def DX (l:List Nd) (pl:List Nat) (rf:Nat):List Nat:=AF0 l (pl++[rf])
def AB5 (B:GB) (l:List Nd) (fl:Bool) (j:Nat) (A:X) (f:Nat) (e:List Nat) (s:Nat) (o:l≠[]) (w:l.length<=900000000) (h:SN A B.i l fl B.rest j)
 (K:A.C B.jp=some (psC B.G.ps)) (E:A.C B.jr=some (DI B.G.rs)) (p:B.G.ps[f]?=some e) (r:B.G.rs[f]?=some s) (F:e.length<=1000) (Q:∀a∈e,a < l.length) (R:s < l.length):
 AS Tzp 131 [.gp B.i 0,.d (.int .i64 (f:Int))] A (SNQ A B.i l B.rest j (l,fl) (.d (.sl ((DX l e s).map Ba)))):=by
 have b:=h.C;rw [Ef o] at b;rw [GB.rest] at b;refine TI.go ?_;rw [B4];have x:=sV p;have q:=SC r;have v:=ltT (AG.1 p).1;have n:=ltT (AG.1 r).1;(repeat' refine sQ ?_<;>simp only [go_sem]);refine W.Gs mixed ?_;simp only [b,K,E,x,q,v,n,Ag,go_sem];refine ⟨?_,?_,?_⟩<;>
 . refine AN.mk rfl (VA e A (by omega)) ?_;rintro cv L ⟨z,i⟩;simp only [i,b,E,q,n,Ag,go_sem];refine DH.own z rfl (by simp) (by simp;omega) (by omega) (fun D g c u=>?_);simp only [go_sem];have m:∀k,g.C k=A.C k:=fun k=>(u k).trans (i k);have d:Bn (nbH A) 3 1 ((e++[s]).map Ba) D g:=by rw [A4];exact c
   refine AN.mk (by simp [c.BS,Pl]) (bT B.i B.rest l fl j g (e++[s]) D d.BS d.plain (fun a P=>?_) o w (h.own m)) ?_
   . grind
   rintro _ N ⟨rfl,G,y,t⟩;simp only [go_sem];(repeat' refine wP ?_<;>simp only [go_sem]);exact ⟨rfl,G,y,t.pre m d.le⟩
def dT (nm:M) (sc:List M):List M:=if nm=[] then sc else sc++[nm]
def ES.AF7 {env:Env} (h:ES sc env g) (nm:M) {t:Nat} {g':GS} (a:g.nx<=g'.nx) (b:t < g'.nx):ES (dT nm sc) (Cy env [nm] [t]) g':=by
 unfold dT;split
 . rename_i e;subst e;simp only [Cy,if_true];exact h.le a
 . exact h.with (by simp) a (by simpa using b)
def AF8 (x:I) (env:Env) (a:PlV x (J8 env)) (nm:M) (t:Nat) (A:X):
 AS Tzp 122 [x,.d (.sl [[.str nm]]),.d (.sl [[.int .i64 (t:Int)]])] A (fun v H=>v= .d (J8 (Cy env [nm] [t]))/\H=A):=KR x env a [nm] [t] rfl A
def ANG (G:GC) (nm:M) (k0 k1:Ex) (env:Env) (g:GS):Nat×GS:=BN G k1 (Cy env [nm] [(BN G k0 env g).1]) (BN G k0 env g).2
def AOP (B:GB) (nm:M) (nu:Int) (ns:List M) (k0 k1:Ex) (al:List Al) (p:ExC B k0) (q:ExC B k1) (sc:List M) (env:Env) (g:GS) (A:X) (j jc:Nat) (r:OkE B.G k0 sc) (s:OkE B.G k1 (dT nm sc)) (i:ES sc env g) (N:g.nx+1000000 * (1+(k0.size+k1.size))<=900000000) (K:g.en.length+(k0.size+k1.size)<=900000000) (L:GX B A g j jc):
 AS Tzp 178 [.gp B.i 0,exA (.mk 7 nm nu ns [k0,k1] al),.d (J8 env)] A (fun v H=>v=nA (ANG B.G nm k0 k1 env g).1/\RQ B A g (ANG B.G nm k0 k1 env g).1 (1000000 * (1+(k0.size+k1.size))) (k0.size+k1.size) (ANG B.G nm k0 k1 env g).2 H):=by
 refine EG.go ?_;rw [DN];rw [ANG];have f:=p sc env g A j jc r i (by omega) (by omega) L;generalize BN B.G k0 env g=b at *;have x:=Ex.size_pos k1;have d:=fun V l c (h:b.1 < b.2.nx) (D:g.nx<=b.2.nx) (Y:b.2.nx+500000<=g.nx+1000000 * k0.size) (Z:b.2.en.length=g.en.length+k0.size) (Q:GX B V b.2 l c)=>q (dT nm sc) (Cy env [nm] [b.1]) b.2 V l c s (i.AF7 nm D h) (by omega) (by omega) Q;generalize BN B.G k1 (Cy env [nm] [b.1]) b.2=r1 at *;obtain ⟨o,n',u',S,kk,z⟩:=k0;obtain ⟨o1,n1,u1,T,R,y⟩:=k1;simp only [exA,Ex.A6,AB,AJ] at f d ⊢;(repeat' refine sQ ?_<;>simp only [il0,it0,go_sem]);refine AN.mk rfl f ?_;rintro _ k ⟨rfl,e⟩;simp only [nA];simp only [go_sem];obtain ⟨l,c,n⟩:=e.gx;have w:=e.le;have u:=e.hi;have t:=e.en;have m:=d k l c e.lt w u t n;have P:=AF8 (.d (J8 env)) env (PlV.d _) nm b.1 k;(repeat' refine sQ ?_<;>simp only [go_sem]);refine W.Gs mixed ?_;simp only [il1,it1,go_sem];refine ⟨?_,?_⟩<;>
 . refine AN.det P ?_;simp only [go_sem];refine AN.mk rfl m ?_;rintro _ U ⟨rfl,a⟩;simp only [nA];simp only [go_sem];(repeat' refine wP ?_<;>simp only [go_sem]);have G:=a.le;have F:=a.hi;have E:=a.en;exact ⟨BJ e.nb a.nb,a.gx,a.lt,by omega,by omega,by omega⟩
def AOS (G:GC) (ns:List M) (k0 k1:Ex) (env:Env) (g:GS):Nat×GS:=
 let parts:=Af g.nx ns.length
 let q:=BN G k0 env (g.frs ns.length)
 BN G k1 (Cy env ns parts) ((q.2.add 6 0 parts).uni q.1 q.2.nx)
def AOR (B:GB) (F:HU B) (nm:M) (nu:Int) (ns:List M) (k0 k1:Ex) (al:List Al) (N:ExC B k0) (P:ExC B k1) (sc:List M) (env:Env) (g:GS) (A:X) (j jc:Nat) (hp:ns.length<=1000) (T:OkE B.G k0 sc) (U:OkE B.G k1 (sc++ns)) (s:ES sc env g) (hs:g.nx+1000000 * (1+(k0.size+k1.size))<=900000000) (hm:g.en.length+(k0.size+k1.size)<=900000000) (hg:GX B A g j jc):
 AS Tzp 178 [.gp B.i 0,exA (.mk 8 nm nu ns [k0,k1] al),.d (J8 env)] A (fun v H=>v=nA (AOS B.G ns k0 k1 env g).1/\RQ B A g (AOS B.G ns k0 k1 env g).1 (1000000 * (1+(k0.size+k1.size))) (k0.size+k1.size) (AOS B.G ns k0 k1 env g).2 H):=by
 refine EG.go ?_;rw [DN];rw [AOS];have hc:=Ex.size_pos k1;have hb:=Ex.size_pos k0;have ho:=bM g ns.length;have hf:(g.frs ns.length).en.length=g.en.length:=rfl;have l:=Dr B.i j g.s.1 g.s.2 B.rest A ns.length hg.sn (by omega) (by have:g.s.1.length=g.nx:=rfl;omega);have k:=fun v H q=>hg.frs F (H:=H) (v0:=BU ((Af g.s.1.length ns.length).map Ba)) (v:=v) (n:=ns.length) q;have l0:g.s.1.length=g.nx:=rfl;rw [l0] at l k;have hl:∀a∈Af g.nx ns.length,a < g.nx+ns.length:=fun a ha=>by grind
 have y:(Af g.nx ns.length).length=ns.length:=by simp
 generalize Af g.nx ns.length=ar at *;generalize g.frs ns.length=p at *;have r:=fun V i z=>N sc env p V i jc T (s.le (by omega)) (by omega) (by omega) z;generalize BN B.G k0 env p=c at *;have S:=DD c.2 6 0 ar;have hr:=NK (c.2.add 6 0 ar) c.1 c.2.nx;have hn:((c.2.add 6 0 ar).uni c.1 c.2.nx).en.length=c.2.en.length:=rfl;have h5:=fun (V h6:X) i e (z:GX B V (c.2.add 6 0 ar) i e)=>GX.uni (a:=c.1) (b:=c.2.nx) (H:=h6) F z;have f:=fun V i e (h1:p.nx<=c.2.nx) (h2:c.2.nx+500000<=p.nx+1000000 * k0.size) (h3:c.2.en.length=p.en.length+k0.size) (z:GX B V ((c.2.add 6 0 ar).uni c.1 c.2.nx) i e)=>P (sc++ns) (Cy env ns ar) ((c.2.add 6 0 ar).uni c.1 c.2.nx) V i e U (s.with y.symm (by omega) (fun t ht=>by grind)) (by omega) (by omega) z;generalize (c.2.add 6 0 ar).uni c.1 c.2.nx=g1 at *;generalize BN B.G k1 (Cy env ns ar) g1=r1 at *;obtain ⟨o,n',u',ks,kk,he⟩:=k0;obtain ⟨o1,n1,u1,fs,hy,hd⟩:=k1;simp only [exA,Ex.A6,AB,AJ] at r f ⊢;(repeat' first|(refine sQ ?_<;>try simp only [AA,go_sem])|(constructor<;>intro h<;>first|(cases h;done)|try simp only [h])|fail);refine AN.mk rfl l ?_;intro v D q;obtain ⟨rfl,x,j0,K⟩:=k v D q;clear q l k;simp only [go_sem];(repeat' refine sQ ?_<;>simp only [il0,it0,go_sem])
 refine AN.mk rfl (r D j0 K) ?_;rintro _ h7 ⟨rfl,m⟩;simp only [nA];simp only [go_sem];obtain ⟨i,e,u⟩:=m.gx;have h0:=m.le;have Z:=m.hi;have Y:=m.en;have hv:=m.lt;have h4:c.2.s.1.length=c.2.nx:=rfl;refine AN.mk rfl (CH B.i i c.2.s.1 c.2.s.2 B.rest h7 6 _ ar u.sn (DG.d _) (fun a ha=>by grind) (by omega)) ?_;intro v h8 q;obtain ⟨rfl,Q,j3,w⟩:=u.add F q;clear q;rw [h4];simp only [nA];simp only [go_sem];have h9:(c.2.add 6 0 ar).s.1.length=c.2.nx+1:=S;refine AN.mk rfl (C9 B.i B.rest _ _ (c.2.add 6 0 ar).s.2 j3 c.1 c.2.nx h8 (Oe _) w.sn (by omega) (by omega) (by omega)) ?_;intro v4 E q4;obtain ⟨R,j4,L⟩:=h5 _ _ _ _ w q4;clear q4;simp only [go_sem];have G:=f E j4 e h0 Z Y L;have hw:=KR (.d (J8 env)) env (PlV.d _) ns ar y.symm E;(repeat' refine sQ ?_<;>simp only [go_sem]);refine W.Gs mixed ?_;simp only [il1,it1,go_sem];refine ⟨?_,?_⟩<;>
 . refine AN.det hw ?_;simp only [go_sem];refine AN.mk rfl G ?_;rintro _ ds ⟨rfl,d⟩;simp only [nA];simp only [go_sem];(repeat' refine wP ?_<;>simp only [go_sem]);have hk:=d.le;have hj:=d.hi;have hi:=d.en;exact ⟨BJ (BJ (BJ (BJ x m.nb) Q) R) d.nb,d.gx,d.lt,by omega,by omega,by omega⟩
def AM9 (G:GC) (k0 k1 k2:Ex) (env:Env) (g:GS):Nat×GS:=
 let q:=BN G k0 env g
 let q1:=BN G k1 env ((q.2.add 2 0 []).uni q.1 q.2.nx)
 let q2:=BN G k2 env q1.2
 (q1.1,q2.2.uni q2.1 q1.1)
def ATL (B:GB) (N:HU B) (nm:M) (nu:Int) (ns:List M) (k0 k1 i:Ex) (al:List Al) (U:ExC B k0) (Y:ExC B k1) (Z:ExC B i) (sc:List M) (env:Env) (g:GS) (A:X) (j jc:Nat) (h7:OkE B.G k0 sc) (h8:OkE B.G k1 sc) (h9:OkE B.G i sc) (r:ES sc env g) (hnx:g.nx+1000000 * (1+(k0.size+(k1.size+i.size)))<=900000000) (cs:g.en.length+(k0.size+(k1.size+i.size))<=900000000) (hg:GX B A g j jc):
 AS Tzp 178 [.gp B.i 0,exA (.mk 9 nm nu ns [k0,k1,i] al),.d (J8 env)] A (fun v H=>v=nA (AM9 B.G k0 k1 i env g).1/\RQ B A g (AM9 B.G k0 k1 i env g).1 (1000000 * (1+(k0.size+(k1.size+i.size)))) (k0.size+(k1.size+i.size)) (AM9 B.G k0 k1 i env g).2 H):=by
 refine EG.go ?_;rw [DN];rw [AM9];have hp:=Ex.size_pos k0;have hr:=Ex.size_pos k1;have hs:=Ex.size_pos i;have u:=U sc env g A j jc h7 r (by omega) (by omega) hg;generalize BN B.G k0 env g=c at *;have h6:=DD c.2 2 0 [];have hnu:=NK (c.2.add 2 0 []) c.1 c.2.nx;have heu:((c.2.add 2 0 []).uni c.1 c.2.nx).en.length=c.2.en.length:=rfl;have hc:=fun (V he:X) k d (F:GX B V (c.2.add 2 0 []) k d)=>GX.uni (a:=c.1) (b:=c.2.nx) (H:=he) N F;generalize (c.2.add 2 0 []).uni c.1 c.2.nx=s at *;have n:=fun V k d (h1:g.nx<=c.2.nx) (h2:c.2.nx+500000<=g.nx+1000000 * k0.size) (h3:c.2.en.length=g.en.length+k0.size) (F:GX B V s k d)=>Y sc env s V k d h8 (r.le (by omega)) (by omega) (by omega) F;generalize BN B.G k1 env s=l at *;have p:=fun V k d (h1:g.nx<=c.2.nx) (h2:c.2.nx+500000<=g.nx+1000000 * k0.size) (h3:c.2.en.length=g.en.length+k0.size) (h1:s.nx<=l.2.nx) (h2:l.2.nx+500000<=s.nx+1000000 * k1.size) (h3:l.2.en.length=s.en.length+k1.size) (F:GX B V l.2 k d)=>Z sc env l.2 V k d h9 (r.le (by omega)) (by omega) (by omega) F;generalize BN B.G i env l.2=m at *;have ho:=NK m.2 m.1 l.1;have hm:(m.2.uni m.1 l.1).en.length=m.2.en.length:=rfl;obtain ⟨o,n',u',ns',kk,hv⟩:=k0;obtain ⟨o1,n1,u1,ns1,kk1,ht⟩:=k1
 obtain ⟨o2,n2,u2,ns2,kk2,hy⟩:=i;simp only [exA,Ex.A6,AB,AJ] at u n p ⊢;(repeat' first|((first|refine wQ ?_|(refine Dq rfl ?_ ?_<;>intro h<;>try (cases h;done))|fail)<;>try simp only [il0,it0,go_sem])|(constructor<;>intro h<;>first|(cases h;done)|try simp only [h])|fail);refine AN.mk rfl u ?_;rintro _ hf ⟨rfl,t⟩;simp only [nA];simp only [go_sem];obtain ⟨k,d,w⟩:=t.gx;have E:=t.le;have D:=t.hi;have z:=t.en;have hqt:=t.lt;have hb:c.2.s.1.length=c.2.nx:=rfl;refine AN.mk rfl (CH B.i k c.2.s.1 c.2.s.2 B.rest hf 2 .Ac [] w.sn DG.Ac (by simp) (by omega)) ?_;intro v hi q;obtain ⟨rfl,h0,j3,x⟩:=w.add N q;clear q;rw [hb];simp only [nA];simp only [go_sem];have hn:(c.2.add 2 0 []).s.1.length=c.2.nx+1:=h6;refine AN.mk rfl (C9 B.i B.rest _ _ (c.2.add 2 0 []).s.2 j3 c.1 c.2.nx hi (Oe _) x.sn (by omega) (by omega) (by omega)) ?_;intro v4 hj q4;obtain ⟨h4,j4,R⟩:=hc _ _ _ _ x q4;clear q4;simp only [go_sem];have P:=n hj j4 d E D z R;(repeat' refine wQ ?_<;>simp only [il1,it1,go_sem]);refine AN.mk rfl P ?_;rintro _ hk ⟨rfl,e⟩;simp only [nA];simp only [go_sem];obtain ⟨j5,ha,S⟩:=e.gx;have L:=e.le;have K:=e.hi;have G:=e.en;have Q:=p hk j5 ha E D z L K G S;(repeat' refine wQ ?_<;>simp only [il2,it2,go_sem])
 refine AN.mk rfl Q ?_;rintro _ hl ⟨rfl,f⟩;simp only [nA];simp only [go_sem];obtain ⟨j6,hd,y⟩:=f.gx;have vs:=f.le;have ds:=f.hi;have fs:=f.en;have ks:=e.lt;have us:m.2.s.1.length=m.2.nx:=rfl;refine AN.mk rfl (C9 B.i B.rest _ _ m.2.s.2 j6 m.1 l.1 hl (Oe _) y.sn f.lt (by omega) (by omega)) ?_;intro v7 τ6 q7;obtain ⟨h5,j7,T⟩:=y.uni N q7;simp only [go_sem];(repeat' refine wP ?_<;>simp only [go_sem]);exact ⟨BJ (BJ (BJ (BJ (BJ t.nb h0) h4) e.nb) f.nb) h5,⟨j7,hd,T⟩,by omega,by omega,by omega,by omega⟩
def fnQ (G:GC) (ns:List M) (k0:Ex) (env:Env) (g:GS):Nat×GS:=
 let params:=Af g.nx ns.length
 let q:=BN G k0 (Cy env ns params) (g.frs ns.length)
 (q.2.nx,q.2.add 9 0 (params++[q.1]))
def ATK (B:GB) (R:HU B) (nm:M) (nu:Int) (ns:List M) (k0:Ex) (al:List Al) (E:ExC B k0) (sc:List M) (env:Env) (g:GS) (A:X) (j jc:Nat) (h6:ns.length<=1000) (G:OkE B.G k0 (sc++ns)) (x:ES sc env g) (h7:g.nx+1000000 * (1+k0.size)<=900000000) (h3:g.en.length+k0.size<=900000000) (S:GX B A g j jc):
 AS Tzp 178 [.gp B.i 0,exA (.mk 11 nm nu ns [k0] al),.d (J8 env)] A (fun v H=>v=nA (fnQ B.G ns k0 env g).1/\RQ B A g (fnQ B.G ns k0 env g).1 (1000000 * (1+k0.size)) k0.size (fnQ B.G ns k0 env g).2 H):=by
 refine EG.go ?_;rw [DN];rw [fnQ];have U:=Ex.size_pos k0;have h4:=bM g ns.length;have h0:(g.frs ns.length).en.length=g.en.length:=rfl;have e:=Dr B.i j g.s.1 g.s.2 B.rest A ns.length S.sn (by omega) (by have:g.s.1.length=g.nx:=rfl;omega);have d:=fun v H q=>S.frs R (H:=H) (v0:=BU ((Af g.s.1.length ns.length).map Ba)) (v:=v) (n:=ns.length) q;have l0:g.s.1.length=g.nx:=rfl;rw [l0] at e d;have h1:∀a∈Af g.nx ns.length,a < g.nx+ns.length:=fun a ha=>by grind
 have p:(Af g.nx ns.length).length=ns.length:=by simp
 generalize Af g.nx ns.length=ar at *;generalize g.frs ns.length=Q at *;have k:=fun V N hx=>E (sc++ns) (Cy env ns ar) Q V N jc G (x.with p.symm (by omega) (fun t ht=>by grind)) (by omega) (by omega) hx;generalize BN B.G k0 (Cy env ns ar) Q=b at *;have h5:=DD b.2 9 0 (ar++[b.1]);have h2:(b.2.add 9 0 (ar++[b.1])).en.length=b.2.en.length:=rfl;obtain ⟨o,n',u',hd,kk,Z⟩:=k0;simp only [exA,Ex.A6,AB,AJ] at k ⊢;(repeat' first|(refine sQ ?_<;>try simp only [AA,go_sem])|(constructor<;>intro h<;>first|(cases h;done)|try simp only [h])|fail);refine AN.mk rfl e ?_;intro v f q;obtain ⟨rfl,m,j0,y⟩:=d v f q;clear q e d;simp only [go_sem];have hw:=KR (.d (J8 env)) env (PlV.d _) ns ar p.symm f;(repeat' refine sQ ?_<;>simp only [go_sem]);refine W.Gs mixed ?_;simp only [il0,it0,go_sem];refine ⟨?_,?_⟩<;>
 . refine AN.det hw ?_;simp only [go_sem];refine AN.mk rfl (k f j0 y) ?_;rintro _ r ⟨rfl,i⟩;simp only [nA];simp only [go_sem];obtain ⟨N,P,z⟩:=i.gx;have hb:=i.le;have h9:=i.hi;have h8:=i.en;have hc:=i.lt;have L:b.2.s.1.length=b.2.nx:=rfl;(repeat' refine wQ ?_<;>simp only [go_sem]);refine AN.mk rfl (VA ar r (by omega)) ?_;rintro cv he ⟨T,u⟩;simp only [go_sem];refine DH.own T rfl (by simp) (by simp;omega) (by omega) (fun Y s c w=>?_);simp only [go_sem];have l:=(z.nbo u).nbo w;have K:Bn (nbH r) 3 1 ((ar++[b.1]).map Ba) Y s:=by rw [A4];exact c
   refine AN.mk (by simp [c.BS,Pl,Je]) (CH B.i N b.2.s.1 b.2.s.2 B.rest s 9 Y (ar++[b.1]) l.sn K.row (fun a ha=>?_) (by omega)) ?_
   . grind
   intro v4 hf q;obtain ⟨rfl,F,j4,D⟩:=l.add R q;clear q;rw [L];simp only [nA];simp only [go_sem];(repeat' refine wP ?_<;>simp only [go_sem]);exact ⟨BJ (BJ (BJ m i.nb) c.le) F,⟨j4,P,D⟩,by omega,by omega,by omega,by omega⟩
def AOO (G:GC) (nm:M) (k0 k1:Ex) (env:Env) (g:GS):Nat×GS:=
 let q:=BN G k0 env g
 let r:=BN G k1 (Cy env [nm] [q.2.nx]) (q.2.add 1 0 [])
 (q.1,r.2.uni r.1 q.1)
def AOQ (B:GB) (Z:HU B) (nm:M) (nu:Int) (ns:List M) (k0 k1:Ex) (al:List Al) (y:ExC B k0) (z:ExC B k1) (sc:List M) (env:Env) (g:GS) (A:X) (j jc:Nat) (F:OkE B.G k0 sc) (G:OkE B.G k1 (dT nm sc)) (m:ES sc env g) (hj:g.nx+1000000 * (1+(k0.size+k1.size))<=900000000) (hf:g.en.length+(k0.size+k1.size)<=900000000) (hg:GX B A g j jc):
 AS Tzp 178 [.gp B.i 0,exA (.mk 17 nm nu ns [k0,k1] al),.d (J8 env)] A (fun v H=>v=nA (AOO B.G nm k0 k1 env g).1/\RQ B A g (AOO B.G nm k0 k1 env g).1 (1000000 * (1+(k0.size+k1.size))) (k0.size+k1.size) (AOO B.G nm k0 k1 env g).2 H):=by
 refine EG.go ?_;rw [DN];rw [AOO];have h6:=Ex.size_pos k0;have h7:=Ex.size_pos k1;have l:=y sc env g A j jc F m (by omega) (by omega) hg;generalize BN B.G k0 env g=a at *;have hi:=DD a.2 1 0 [];have he:(a.2.add 1 0 []).en.length=a.2.en.length:=rfl;have u:=fun (V T:X) i c (v:I) (R:GX B V a.2 i c)=>GX.add (k:=1) (n:=0) (ar:=[]) (H:=T) (v0:=nA a.2.s.1.length) (v:=v) Z R;generalize a.2.add 1 0 []=t at *;have e:=fun V i c (h0:a.1 < a.2.nx) (h1:g.nx<=a.2.nx) (h2:a.2.nx+500000<=g.nx+1000000 * k0.size) (h3:a.2.en.length=g.en.length+k0.size) (R:GX B V t i c)=>z (dT nm sc) (Cy env [nm] [a.2.nx]) t V i c G (m.AF7 nm (by omega) (by omega)) (by omega) (by omega) R;generalize BN B.G k1 (Cy env [nm] [a.2.nx]) t=d at *;have h5:=NK d.2 d.1 a.1;have h4:(d.2.uni d.1 a.1).en.length=d.2.en.length:=rfl;obtain ⟨o,n',u',hl,kk,h9⟩:=k0;obtain ⟨o1,n1,u1,hm,hk,h8⟩:=k1;simp only [exA,Ex.A6,AB,AJ] at l e ⊢;(repeat' first|(refine sQ ?_<;>try simp only [il0,it0,go_sem])|(constructor<;>intro h<;>first|(cases h;done)|try simp only [h])|fail);refine AN.mk rfl l ?_;rintro _ U ⟨rfl,f⟩;simp only [nA];simp only [go_sem];obtain ⟨i,c,p⟩:=f.gx;have N:=f.le;have L:=f.hi;have K:=f.en;have P:=f.lt
 have Q:a.2.s.1.length=a.2.nx:=rfl;(repeat' refine sQ ?_<;>simp only [go_sem]);refine W.Gs mixed ?_;simp only [il1,it1,go_sem];refine ⟨?_,?_⟩<;>
 (refine AN.mk rfl (CH B.i i a.2.s.1 a.2.s.2 B.rest U 1 .Ac [] p.sn DG.Ac (by simp) (by omega)) ?_
  intro v s q;obtain ⟨rfl,D,j3,w⟩:=u _ _ _ _ _ p q;clear q;rw [Q];simp only [nA];simp only [go_sem];have hw:=AF8 (.d (J8 env)) env (PlV.d _) nm a.2.nx s)
 rotate_left;refine ⟨?_,?_⟩
 all_goals
  refine AN.det hw ?_;simp only [go_sem];refine AN.mk rfl (e s j3 c P N L K w) ?_;rintro _ Y ⟨rfl,b⟩;simp only [nA];simp only [go_sem];obtain ⟨j5,S,r⟩:=b.gx;have ha:=b.le;have hc:=b.hi;have hb:=b.en;have hd:d.2.s.1.length=d.2.nx:=rfl;refine AN.mk rfl (C9 B.i B.rest _ _ d.2.s.2 j5 d.1 a.1 Y (Oe _) r.sn b.lt (by omega) (by omega)) ?_;intro v7 hn q7;obtain ⟨E,j7,x⟩:=r.uni Z q7;simp only [go_sem];(repeat' refine wP ?_<;>simp only [go_sem]);exact ⟨BJ (BJ (BJ f.nb D) b.nb) E,⟨j7,S,x⟩,by omega,by omega,by omega,by omega⟩
def Pj {o:Int} {n:M} {ns sc:List M} {x:Ex×List M}:∀ {l:List Ex} {i m:Nat} {k:Ex},l[m]?=some k->x∈Bl k (Ct o n ns sc (i+m))->x∈CA o n ns sc i l
 |y::l,i,0,k,h,a=>by
  simp only [A7,AP] at h;subst h;rw [CA,A2];exact .inl a
 |y::l,i,m+1,k,h,a=>by
  rw [CA,A2];exact .inr (Pj (m:=m) (by simpa using h) (by rw [show i+1+m=i+(m+1) from by omega];exact a))
theorem Ph {sc:List M} {x:Ex×List M} {a:Al}:∀ {l:List Al},a∈l->x∈Bl a.body (sc++a.vars)->x∈Cw sc l
 |y::l,h,d=>by
  rw [Cw,A2];rcases Ah.1 h with rfl|h
  . left;obtain ⟨c,vs,b⟩:=a;exact d
  . exact .inr (Ph h d)
def OkE.kid {G:GC} {o:Int} {n:M} {u:Int} {ns:List M} {al:List Al} (h:OkE G (.mk o n u ns ks al) sc) {i:Nat} {k:Ex} (a:ks[i]?=some k):OkE G k (Ct o n ns sc i):=fun x b=>h x (by
 rw [Bl,Ah,A2];exact .inr (.inl (Pj (i:=0) a (by grind))))
def OkE.alt {G:GC} {o:Int} {n:M} {u:Int} {ns:List M} {al:List Al} (h:OkE G (.mk o n u ns ks al) sc) {a:Al} (b:a∈al):OkE G a.body (sc++a.vars):=fun x c=>h x (by
 grind [Bl,Ph])
def OkE.me {G:GC} {e:Ex} (h:OkE G e sc):M4 G.fs G.dt e sc=0/\nb1 e:=h (e,sc) (by obtain ⟨o,n,u,ns,ks,al⟩:=e;rw [Bl];grind)
def AMG (B:GB) (k:HU B) (g:GS) (V:X) (j jc at_ t:Nat) (Q:I->X->Prop) (d:GX B V g j jc) (a:at_ < g.en.length) (u:t < g.nx)
 (s:∀H,(nbH V).le H->(∃j jc,GX B H (g.Ur at_ fun e=> { e with t:=t}) j jc)->Q (nA t) H):
 W DO Q [.C 0,.code (.seq (.reg [⟨some 155,.mv (.t 0),none⟩,⟨some 156,.nck (.t 155),none⟩,⟨some 157,.fld (.t 156) 9,none⟩,⟨some 158,.ld (.t 157) none,none⟩,⟨some 159,.mv (.t 0),none⟩,⟨some 160,.nck (.t 159),none⟩,⟨some 161,.fld (.t 160) 10,none⟩,⟨some 162,.ld (.t 161) none,none⟩,⟨some 163,.ix (.t 158) (.t 162) 1,none⟩,⟨some 164,.ld (.t 163) none,none⟩,⟨some 165,.mv (.t 7),none⟩,⟨some 166,.mv (.t 8),none⟩,⟨some 167,.ix (.t 164) (.t 165) 3,none⟩,⟨some 168,.fld (.t 167) 0,none⟩,⟨none,.st (.t 168) (.t 166) 1,none⟩] [8]) (.seq (.reg [⟨some 169,.mv (.t 8),none⟩,⟨some 6,.mv (.t 169),none⟩] [6]) .ret))] (put 0 (.gp B.i 0) (put 7 (.d (.int .i64 (at_:Int))) (put 8 (.d (.int .i64 (t:Int))) U))) E V:=by
 have l:=d.bi;have c:g.en≠[]:=fun e=>by grind
 obtain ⟨r,c2,z,D,F⟩:=d.c c;have f:=d.e;rw [Xf c] at f;have n:=ltT k.cur;have m:(B.es.set B.cur (I.ms jc g.en.length 3 tkE))[B.cur]?=some (I.ms jc g.en.length 3 tkE):=by simp [k.cur]
 have b:=ltT a;obtain ⟨x,q⟩:=Ak a;have p:(at_ * 3+1<=(enC g.en).length)=True:=by rw [Dd En.row 3 En.Bj];simp;omega
 have i:=Of En.row 3 En.Bj 0 (A1 t) (fun e=> { e with t:=t}) q (by omega) rfl;simp only [CC] at i;obtain ⟨G,v,w,y⟩:=d.gi.en x (AE q);have o:=d.mod k (at_:=at_) (fun e=> { e with t:=t}) q ⟨u,v,w,y⟩;have:=s (V.AI jc (enC (g.en.modify at_ fun e=> { e with t:=t}))) ⟨fun _ _ h=>(by cases h),fun _ h=>h,rfl,fun _ _ h=>h⟩ ⟨j,jc,o⟩;(repeat' refine wP ?_<;>simp only [l,f,n,m,Ag,b,r,p,i,go_sem]);exact this
def Pp:Q01->Q01
 | .seq _ b=>b
 |c=>c
noncomputable def PB:Q01:=Pp (Pp (Pp BT))
def GS.push (g:GS):GS:= { g with en:=g.en++[⟨0,-1,[]⟩]}
def REn (B:GB) (A:X) (g:GS) (j:Nat) (F0:Fm) (L0:Lm) (F:Fm) (L:Lm) (V:X):Prop:=Ee [0,2,4,7] F=F0/\GK [0,2,4,7] L=L0/\(nbH A).le V/\∃jc,GX B V g.push j jc
def AMF (B:GB) (m:HU B) (e:Ex) (env:Env) (g:GS) (A:X) (j jc:Nat) (q:g.en.length<=900000000) (p:GX B A g j jc) (Q:I->X->Prop)
 (h:∀V a,(nbH A).le V->GX B V g.push j a->W DO Q [.code PB] (put 0 (.gp B.i 0) (put 2 (.d (J8 env)) (put 4 (.lp 4 0) (put 7 (.d (.int .i64 (g.en.length:Int))) U)))) (CN 4 (e.J.map I.d) E) V):
 AS Tzp 121 [.gp B.i 0,exA e,.d (J8 env)] A Q:=by
 have c:=p.bi;have k:=p.e;have d:=ltT m.cur;obtain ⟨v,w,x,w4,y⟩:=U0 g.en jc;have l:(B.es.set B.cur (enV g.en jc))[B.cur]?=some (enV g.en jc):=by simp [m.cur]
 obtain ⟨o,n,u,ns,ks,al⟩:=e;refine ZX.go ?_;rw [DN];simp only [exA,Ex.A6,AB,AJ] at h ⊢;(repeat' refine sQ ?_<;>simp only [c,k,d,l,Ag,v,y,go_sem]);refine W.WX mixed (REn B A g j (put 0 (.gp B.i 0) (put 2 (.d (J8 env)) (put 4 (.lp 4 0) (put 7 (A1 g.en.length) U)))) (CN 4 [A1 o,Gb n,A1 u,BU (ns.map CG),BU (ks.map Ex.J),BU (al.map Al.J)] E)) ?_ ?_
 . simp only [c,k,d,l,Ag,v,go_sem];refine ⟨⟨?_,?_⟩,⟨?_,?_⟩,?_⟩<;>
   . refine JU.en m p (t:=0) (f:=-1) (ar:=[]) rfl q (by omega) ⟨p.gi.pos,by omega,by omega,by simp⟩ (fun a V z D i b=>?_);have f1:=z.trans c;have f2:=D.trans k;have r:(B.cur+1<=(B.es.set B.cur (enV g.en jc)).length)=True:=by grind
     have s:=AZX m.cur (enV g.en jc) (.ms a (g.en.length+1) 3 tkE);simp only [f1,f2,d,Ag,r,s,go_sem];refine ⟨?_,?_,⟨fun _ _ h=>(by cases h),b.tok,b.gt,b.bt⟩,a,i⟩<;>simp only [go_sem]
 . rintro F' L' V ⟨F,G,b,a,i⟩;rw [F,G];exact h V a b i
end Go.Ab
