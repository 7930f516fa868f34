/- Part Nt. Conditions: none. -/
import Derived.Lib.ItoaNum
import Derived.Test.YtojbfmeeomhkoaaGreatDoorXVh
set_option linter.unusedSimpArgs false
set_option linter.unusedVariables false
set_option maxRecDepth 100000
set_option maxHeartbeats 40000000
set_option linter.defProp false
open Go.Proofs.Tryz renaming prog→Tzp
open List renaming range'→Af,mem_cons→Ah,mem_cons_self→AY,mem_cons_of_mem→AZ,all_eq_true→Ao,map_cons→AB,map_nil→AJ,getElem_of_mem→CJ,mem_map→BR,take_of_length_le→AR,map_append→A4,mem_append→A2,mem_map_of_mem→CU,eq_nil_of_length_eq_zero→Ay,length_eq_one_iff→Ti,ext_getElem?→Dw,getElem?_set→CT,getElem?_eq_some_iff→AG,mem_of_getElem?→AE,replicate→AH,length_map→AA,foldl_append→Cv,take_length→Ar,cons_append→AU,length_cons→AT,foldl_cons→BD,getElem?_set_self→Bq,getElem?_set_ne→Bv,length_append→A0,length_singleton→Ci,nodup_append→Tj,mem_singleton→A9,length_nil→A8,getElem?_eq_getElem→An,flatMap_cons→G9,sum_cons→Em,mem_append_left→I6,getElem_mem→Fa,getElem?_append_left→Di,getElem?_append_right→BY,contains_append→N8,getElem?_modify→I5,getElem?_of_mem→Na,append_nil→Aw,nil_append→A3,append_assoc→Ax,countP_le_length→WL,getElem?_cons_zero→A7,range→Aj,mem_range→Cr,all_append→ZB,take→Ew,drop→E1,length_take→Bs,getD_eq_getElem?_getD→BG,getElem?_map→Az,getElem?_range→Ev,getElem?_eq_none→FO,length_set→Ld,pairwise_cons→BZ,range_succ→Cq,filter_append→RJ,length_filter_le→MQ,mem_or_eq_of_mem_set→fP,set_cons_succ→C7,map_congr_left→Gk,find?_eq_none→cD,take_zero→CD,take_length_add_append→Zr,drop_length_add_append→HM,length_pos_iff→Ds,length_replicate→MR,all_cons→BK,take_append_of_le_length→XM,take_succ_cons→CK,getElem?_cons_succ→Bz,contains_iff_mem→B8,getElem?_take→F9,contains_cons→RH
open Bool renaming and_eq_true→AM,and_eq_false_iff→WE,eq_false_iff→M5,eq_iff_iff→C2,or_eq_false_iff→XJ,or_eq_true→EH,true_and→Fe,and_true→Cu,not_not→OS,false_or→MP
open Option renaming map_some→Ap,getD_some→BH,isSome_iff_exists→Pv,isSome_none→cE,isSome_some→cF
open Option.some renaming injEq→AP
open Prod.mk renaming injEq→B3
open Except renaming map→F7
open Nat renaming add_zero→CC,le_refl→AW,mul_one→Ag,strongRecOn→DK,le_trans→Ai,zero_add→Av,zero_le→D7,eq_zero_or_pos→RL,min_eq_left→I4,mul_le_mul_right→CW,zero_mul→To,add_mul→Cj,reduceEqDiff→HW
open Ne renaming symm→A5
open Int renaming eq_ofNat_of_zero_le→E0,toNat_natCast→BX,reduceBEq→Ad
open And renaming intro→DF
open List.cons renaming injEq→FJ
namespace Go.Ab
open Go.Proofs
variable {D:Dat} {F:Fm} {L:List (Ex×List M)} {R ls:List Bool} {b c j1 j3 j4 jn js k m nv v:Nat} {cx:Cx} {e:Ex} {fe:FE} {g:List (List Nat)} {g':GS} {l':List (M×Int)} {s':SS} {ts vs:List Nat} {x:Ex×List M} {y:Nd} {α:Type}
def P7 (g:GS) (r:Nat×GS):Nat×GS:=(r.1,r.2.Ur g.en.length fun e=> { e with t:=r.1})
theorem AJ6 (G:GC) (nm:M) (u:Int) (ns:List M) (ks:List Ex) (al:List Al) (env:Env) (g:GS):BN G (.mk 4 nm u ns ks al) env g=P7 g (fD G env nm g.en.length g.push):=rfl
theorem dI (G:GC) {o:Int} (a:o=1\/o=2\/o=3\/o=15) (nm:M) (u:Int) (ns:List M) (ks:List Ex) (al:List Al) (env:Env) (g:GS):BN G (.mk o nm u ns ks al) env g=P7 g (g.push.nx,g.push.add (ADF o) 0 []):=by
 rcases a with rfl|rfl|rfl|rfl<;>rfl
def Ab5 (G:GC) (ks:List Ex) (env:Env) (g:GS):Nat×GS:=((De G ks env g).2.nx,(De G ks env g).2.add 6 0 (De G ks env g).1)
theorem AJ7 (G:GC) (nm:M) (u:Int) (ns:List M) (ks:List Ex) (al:List Al) (env:Env) (g:GS):BN G (.mk 5 nm u ns ks al) env g=P7 g (Ab5 G ks env g.push):=rfl
theorem AJ8 (G:GC) (nm:M) (u:Int) (ns:List M) (ks:List Ex) (al:List Al) (env:Env) (g:GS) {d:Nat} {con:Con} (a:Dy G.dt nm=some (d,c)) (b:G.dt[d]?=some D) (e:D.cons[c]?=some con):BN G (.mk 6 nm u ns ks al) env g=P7 g (AL6 G D con.args d ks env g.push):=by
 have:BN G (.mk 6 nm u ns ks al) env g=P7 g (match Dy G.dt nm with
  |none=>(0,g.push)
  |some (d,c)=>match G.dt[d]? with
   |none=>(0,g.push)
   |some D=>
    let ar:=Af g.push.nx D.vars.toNat
    let h:=E3 G ks env 0 (fun i r s=>let q:=Eo ar s.1 (((D.cons[c]?).map Con.args).getD []|>.getD i (.mk 0 0 []));Go.Ab.uni (q.2,s.2) r q.1) (g.push.frs D.vars.toNat)
    (h.nx,h.add 5 d ar)):=rfl
 rw [this,a];simp only [b,e];rfl
theorem ADU (G:GC) (nm:M) (u:Int) (ns:List M) (ks:List Ex) (a:Al) (al:List Al) (env:Env) (g:GS) {d:Nat} (b:Dy G.dt a.con=some (d,c)) (e:G.dt[d]?=some D):BN G (.mk 10 nm u ns ks (a::al)) env g=P7 g (ANI G D d ks (a::al) env g.push):=by
 have:BN G (.mk 10 nm u ns ks (a::al)) env g=P7 g (match Dy G.dt a.con with
  |none=>(0,g.push)
  |some (d,_)=>match G.dt[d]? with
   |none=>(0,g.push)
   |some D=>
    let ar:=Af g.push.nx D.vars.toNat
    let h:=YS G ks env (g.push.frs D.vars.toNat)
    let r:=h.1
    let h:=(h.2.add 5 d ar).uni r h.2.nx
    let t:=h.nx
    (t,cH G (a::al) env D ar t (h.add 0 0 []))):=rfl
 rw [this,b];simp only [e];rfl
def Aa4 (G:GC) (ks:List Ex) (env:Env) (g:GS):Nat×GS:=
 let q:=De G ks env g
 (q.2.nx,((q.2.add 0 0 []).add 9 0 (q.1.tail++[q.2.nx])).uni (q.1.headD 0) (q.2.nx+1))
theorem ADW (G:GC) (nm:M) (u:Int) (ns:List M) (ks:List Ex) (al:List Al) (env:Env) (g:GS):BN G (.mk 12 nm u ns ks al) env g=P7 g (Aa4 G ks env g.push):=rfl
theorem ADX (G:GC) (nm:M) (u:Int) (ns:List M) (ks:List Ex) (al:List Al) (env:Env) (g:GS):BN G (.mk 13 nm u ns ks al) env g=P7 g ((E3 G ks env 0 opF g.push).nx,(E3 G ks env 0 opF g.push).add (if 6<=u/\u<=8 then 2 else 1) 0 []):=rfl
theorem ADY (G:GC) (nm:M) (u:Int) (ns:List M) (ks:List Ex) (al:List Al) (env:Env) (g:GS):BN G (.mk 14 nm u ns ks al) env g=P7 g (YV G u ks env g.push):=rfl
def AbW (G:GC) (k:Ex) (env:Env) (g:GS):Nat×GS:=
 let q:=BN G k env g
 (((q.2.add 1 0 []).uni q.1 q.2.nx).nx,((q.2.add 1 0 []).uni q.1 q.2.nx).add 0 0 [])
theorem ADZ (G:GC) (nm:M) (u:Int) (ns:List M) (k:Ex) (al:List Al) (env:Env) (g:GS):BN G (.mk 16 nm u ns [k] al) env g=P7 g (AbW G k env g.push):=rfl
theorem AJ9 (G:GC) (nm:M) (u:Int) (ns:List M) (k0 k1:Ex) (al:List Al) (env:Env) (g:GS):BN G (.mk 7 nm u ns [k0,k1] al) env g=P7 g (ANG G nm k0 k1 env g.push):=rfl
theorem AKA (G:GC) (nm:M) (u:Int) (ns:List M) (k0 k1:Ex) (al:List Al) (env:Env) (g:GS):BN G (.mk 8 nm u ns [k0,k1] al) env g=P7 g (AOS G ns k0 k1 env g.push):=rfl
theorem AKB (G:GC) (nm:M) (u:Int) (ns:List M) (k0 k1 a:Ex) (al:List Al) (env:Env) (g:GS):BN G (.mk 9 nm u ns [k0,k1,a] al) env g=P7 g (AM9 G k0 k1 a env g.push):=rfl
theorem ADV (G:GC) (nm:M) (u:Int) (ns:List M) (k0:Ex) (al:List Al) (env:Env) (g:GS):BN G (.mk 11 nm u ns [k0] al) env g=P7 g (fnQ G ns k0 env g.push):=rfl
theorem AD0 (G:GC) (nm:M) (u:Int) (ns:List M) (k0 k1:Ex) (al:List Al) (env:Env) (g:GS):BN G (.mk 17 nm u ns [k0,k1] al) env g=P7 g (AOO G nm k0 k1 env g.push):=rfl
theorem RQ.cast {B:GB} {A H:X} {g:GS} {n c' m':Nat} (h:RQ B A g n c m g' H) (a:c=c') (b:m=m'):RQ B A g n c' m' g' H:=by grind
theorem AZI {nk:Nat} {o u:Int} (h:nkB o u nk=true):1<=o/\o<=17:=by
 grind [nkB]
theorem AFB {nk:Nat} {o u:Int} (h:nkB o u nk=true):o=1\/o=2\/o=3\/o=4\/o=5\/o=6\/o=7\/o=8\/o=9\/o=10\/o=11\/o=12\/o=13\/o=14\/o=15\/o=16\/o=17:=by
 have:=AZI h;omega
theorem GA (B:GB) (c:HU B) (e:Ex) (env:Env) (g:GS) (A a:X) (b:(nbH A).le a) (r:Nat×GS) (i:BN B.G e env g=P7 g r) (S:Nat) (k:e.size=1+S) (V:X) (q:RQ B a g.push r.1 (1000000 * (1+S)) S r.2 V):
 W DO (fun v H=>v=nA (BN B.G e env g).1/\RQ B A g (BN B.G e env g).1 (1000000 * e.size) e.size (BN B.G e env g).2 H) [.C 0,.code (.seq (.reg [⟨some 155,.mv (.t 0),none⟩,⟨some 156,.nck (.t 155),none⟩,⟨some 157,.fld (.t 156) 9,none⟩,⟨some 158,.ld (.t 157) none,none⟩,⟨some 159,.mv (.t 0),none⟩,⟨some 160,.nck (.t 159),none⟩,⟨some 161,.fld (.t 160) 10,none⟩,⟨some 162,.ld (.t 161) none,none⟩,⟨some 163,.ix (.t 158) (.t 162) 1,none⟩,⟨some 164,.ld (.t 163) none,none⟩,⟨some 165,.mv (.t 7),none⟩,⟨some 166,.mv (.t 8),none⟩,⟨some 167,.ix (.t 164) (.t 165) 3,none⟩,⟨some 168,.fld (.t 167) 0,none⟩,⟨none,.st (.t 168) (.t 166) 1,none⟩] [8]) (.seq (.reg [⟨some 169,.mv (.t 8),none⟩,⟨some 6,.mv (.t 169),none⟩] [6]) .ret))] (put 0 (.gp B.i 0) (put 7 (.d (.int .i64 (g.en.length:Int))) (put 8 (.d (.int .i64 (r.1:Int))) U))) E V:=by
 obtain ⟨j,jc,d⟩:=q.gx;have m:=q.en;have n:=q.le;have o:=q.hi;have p:g.push.en.length=g.en.length+1:=by simp [GS.push]
 have h:g.push.nx=g.nx:=rfl;refine AMG B c r.2 V j jc g.en.length r.1 _ d (by omega) q.lt (fun H f l=>?_);rw [i,k];refine ⟨rfl,BJ (BJ b q.nb) f,l,q.lt,?_,?_,?_⟩
 . show g.nx<=r.2.nx;omega
 . show r.2.nx+500000<=_;omega
 . show (r.2.en.modify _ _).length=_
   grind
theorem EI {o:Int} {n:M} {u:Int} {ns:List M} {ks:List Ex} {al:List Al} (h:nb1 (.mk o n u ns ks al)):nmB o n=true/\nuB o u=true/\nsB o ns=true/\asB o al=true/\nkB o u ks.length=true:=by
 unfold nb1 J3 at h;simp only [Ex.op,Ex.name,Ex.num,Ex.names,Ex.kids,Ex.alts,AM] at h
 grind
theorem pT:∀ {l:List Con} {s:M} {k:Nat},KD l s=some k->∃c,l[k]?=some c
 |[],s,k,h=>by cases h
 |c::l,s,k,h=>by
  rw [KD] at h;split at h
  . cases h;exact ⟨c,rfl⟩
  . cases a:KD l s with
    |none=>rw [a] at h;cases h
    |some m=>
     rw [a] at h;simp only [Ap,AP] at h;subst h;obtain ⟨x,b⟩:=pT a;exact ⟨x,by simpa using b⟩
theorem UW:∀ {dt:List Dat} {s:M} {d c:Nat},Dy dt s=some (d,c)->∃D con,dt[d]?=some D/\D.cons[c]?=some con
 |[],s,d,c,h=>by cases h
 |D::dt,s,d,c,h=>by
  rw [Dy] at h;cases b:KD D.cons s with
  |some k=>
   rw [b] at h;simp only [AP,B3] at h;obtain ⟨rfl,rfl⟩:=h;obtain ⟨x,i⟩:=pT b;exact ⟨D,x,rfl,i⟩
  |none=>
   rw [b] at h;cases a:Dy dt s with
   |none=>rw [a] at h;cases h
   |some y=>
    obtain ⟨j,c'⟩:=y;rw [a] at h;simp only [Ap,AP,B3] at h;obtain ⟨rfl,rfl⟩:=h;obtain ⟨e,con,f,g⟩:=UW a;exact ⟨e,con,by simpa using f,g⟩
theorem ACW {dt:List Dat} {d:Nat} {con:Con} (a:dt[d]?=some D) (b:D.cons[c]?=some con):arity dt (d,c)=con.args.length:=by
 simp only [arity,a,b]
theorem Ab8 {fs:List FE} {dt:List Dat} {nm:M} {u:Int} {ns sc:List M} {ks:List Ex} {al:List Al} (g:M4 fs dt (.mk 6 nm u ns ks al) sc=0):∃d c D con,Dy dt nm=some (d,c)/\dt[d]?=some D/\D.cons[c]?=some con/\ks.length=con.args.length:=by
 have a:(match Dy dt nm with
  |none=>(3:Int)
  |some x=>if ks.length≠arity dt x then 5 else 0)=0:=g
 cases b:Dy dt nm with
 |none=>grind
 |some x=>
  obtain ⟨d,c⟩:=x;rw [b] at a;obtain ⟨D,con,e,f⟩:=UW b;simp only at a;rw [ACW e f] at a
  grind
theorem Mi {dt:List Dat}:∀ {l:List Al} {xs:List (Nat×Nat)},Ce dt l= .ok xs->∀a∈l,∃x∈xs,Dy dt a.con=some x/\a.vars.length=arity dt x
 |[],xs,h,a,d=>by simp at d
 | .mk c vs b::l,xs,h,a,d=>by
  rw [Ce] at h;cases f:Dy dt c with
  |none=>rw [f] at h;cases h
  |some x=>
   rw [f] at h;simp only at h;split at h
   . cases h
   . rename_i k;split at h
     . cases h
     . cases g:Ce dt l with
       |error e=>rw [g] at h;cases h
       |ok ys=>
        rw [g] at h;cases h;rcases Ah.1 d with rfl|d
        . exact ⟨x,AY,f,by simpa [Al.vars] using k⟩
        . obtain ⟨y,m,i,j⟩:=Mi g a d;exact ⟨y,AZ _ m,i,j⟩
theorem kH {dt:List Dat} {a:Al} {l:List Al} (h:Nc dt (a::l)=0):∃d,∀b∈a::l,∃c,Dy dt b.con=some (d,c)/\b.vars.length=arity dt (d,c):=by
 unfold Nc at h;cases f:Ce dt (a::l) with
 |error e=>
  rw [f] at h;simp only at h;subst h;exfalso
  have:∀l:List Al,Ce dt l≠.error 0:=by
   intro l
   induction l with
   |nil=>intro h;cases h
   |cons a l m=>
    intro h;obtain ⟨c,vs,b⟩:=a;rw [Ce] at h;split at h
    . simp at h
    . split at h
      . simp at h
      . split at h
        . simp at h
        . cases j:Ce dt l with
          |error e=>
           grind [F7]
          |ok ys=>rw [j] at h;cases h
  exact this _ f
 |ok i=>
  rw [f] at h;simp only at h;cases i with
  |nil=>
   grind [Mi,AY]
  |cons x i=>
   split at h
   . rename_i g;unfold Xg at g;simp only [AM,Ao] at g;refine ⟨x.1,fun b k=>?_⟩
     grind [Mi]
   . cases h
def ExT (B:GB) (e:Ex):Prop:=∀(sc:List M) (env:Env) (g:GS) (A V:X) (j jc:Nat),OkE B.G e sc->ES sc env g.push->g.nx+1000000 * e.size<=900000000->g.en.length+e.size<=900000000->(nbH A).le V->GX B V g.push j jc->
 W DO (fun v H=>v=nA (BN B.G e env g).1/\RQ B A g (BN B.G e env g).1 (1000000 * e.size) e.size (BN B.G e env g).2 H) [.code PB] (put 0 (.gp B.i 0) (put 2 (.d (J8 env)) (put 4 (.lp 4 0) (put 7 (.d (.int .i64 (g.en.length:Int))) U)))) (CN 4 (e.J.map I.d) E) V
theorem IY (g:GS):g.push.nx=g.nx:=rfl
theorem IX (g:GS):g.push.en.length=g.en.length+1:=by simp [GS.push]
theorem AcX (B:GB) (m:HU B) (n:GD B.G) (nm:M) (u:Int) (ns:List M):ExT B (.mk 4 nm u ns [] []):=by
 intro sc env g A V j jc f b v p c s;obtain ⟨x,t⟩:=f.me;have y:=IY g;have w:=IX g;have h:(Ex.mk 4 nm u ns [] []).size=1+0:=by simp [Ex.size,Ex.AQ,Al.AQ]
 have d:nm≠[]:=by
  intro e;subst e;have:=(EI t).1;revert this;decide
 have i:M4 B.G.fs B.G.dt (.mk 4 nm 0 [] [] []) sc=0:=x;have o:=AF4 B m n sc env nm g.en.length g.push V j jc d i b (by omega) (by omega) s;have a:=fun k q=>GA B m _ env g A V c _ (AJ6 B.G nm u ns [] [] env g) 0 h k q;generalize fD B.G env nm g.en.length g.push=r at *;simp only [Ex.A6,AB,AJ];unfold PB BT;simp only [Pp];(repeat' refine wQ ?_<;>simp only [go_sem]);refine AN.mk rfl o ?_;rintro _ l ⟨rfl,q⟩;simp only [nA];simp only [go_sem]
 trace_state
 exact a l q
theorem AAY (o:Int) (n:M) (ns sc:List M) (h:o≠11):Ct o n ns sc 0=sc:=by
 unfold Ct;simp [h]
theorem AH7 {o:Int} (h:o≠7/\o≠8/\o≠11/\o≠17) (n:M) (ns sc:List M) (i:Nat):Ct o n ns sc i=sc:=by
 grind [Ct]
theorem Gg {o:Int} (h:o≠10) {al:List Al} (a:asB o al=true):al=[]:=by
 unfold asB at a
 grind
theorem OkE.all {G:GC} {o:Int} {n:M} {u:Int} {ns:List M} {ks:List Ex} {al:List Al} {sc:List M} (h:OkE G (.mk o n u ns ks al) sc) (c:o≠7/\o≠8/\o≠11/\o≠17):∀k∈ks,OkE G k sc:=fun k b=>by
 obtain ⟨i,a,rfl⟩:=CJ b;have:=h.kid (i:=i) (k:=ks[i]) (by simp [a])
 rwa [AH7 c] at this
theorem size_mk (o:Int) (n:M) (u:Int) (ns:List M) (ks:List Ex) (al:List Al):(Ex.mk o n u ns ks al).size=1+(Ex.AQ ks+Al.AQ al):=by simp only [Ex.size];omega
theorem ABU (a b:Ex):Ex.AQ [a,b]=a.size+b.size:=by simp [Ex.AQ]
theorem ALA (a:Ex):Ex.AQ [a]=a.size:=by simp [Ex.AQ]
theorem AWM (a b c:Ex):Ex.AQ [a,b,c]=a.size+(b.size+c.size):=by simp [Ex.AQ]
theorem AcZ (B:GB) (w:HU B) (z:GD B.G) (nm:M) (u:Int) (ns:List M) (ks:List Ex) (al:List Al) (G:∀k∈ks,ExC B k):ExT B (.mk 6 nm u ns ks al):=by
 intro sc env g A V j jc e l n i m F;obtain ⟨N,K⟩:=e.me;obtain ⟨R,S,T,P,U⟩:=EI K;have Q:=IY g;have L:=IX g;have E:=Gg (by decide) P;subst E;have a:=size_mk 6 nm u ns ks [];simp only [Al.AQ,CC] at a;rw [a] at n i;have f:=e.all (by decide);obtain ⟨d,c,D,con,s,t,v,y⟩:=Ab8 N;have x:=AJB B w z nm u ns ks [] G sc env d c D con s t v y g.push V j jc f l (by omega) (by omega) F;have b:=fun o q=>GA B w _ env g A V m _ (AJ8 B.G nm u ns ks [] env g s t v) (Ex.AQ ks) a o q;generalize AL6 B.G D con.args d ks env g.push=r at *;simp only [exA,Ex.A6,AB,AJ] at x ⊢;unfold PB BT;simp only [Pp];(repeat' first|((first|refine wQ ?_|(refine Dq rfl ?_ ?_<;>intro h<;>try (cases h;done))|fail)<;>try simp only [go_sem])|(constructor<;>intro h<;>first|(cases h;done)|try simp only [h])|fail);refine AN.mk rfl x ?_;rintro _ p ⟨rfl,q⟩;simp only [nA];simp only [go_sem];exact b p (q.cast (by omega) (by omega))
theorem AbB (B:GB) (o:HU B) (z:GD B.G) (nm:M) (u:Int) (ns:List M) (ks:List Ex) (al:List Al) (v:∀k∈ks,ExC B k):ExT B (.mk 13 nm u ns ks al):=by
 intro sc env g A V j jc c f l e i t;obtain ⟨E,w⟩:=c.me;obtain ⟨F,G,K,y,L⟩:=EI w;have D:=IY g;have x:=IX g;have s:=Gg (by decide) y;subst s;have a:=size_mk 13 nm u ns ks [];simp only [Al.AQ,CC] at a;rw [a] at l e;have d:=c.all (by decide);have p:=AFD B o nm u ns ks [] v sc env g.push V j jc d f (by omega) (by omega) t;have b:=fun m q=>GA B o _ env g A V i _ (ADX B.G nm u ns ks [] env g) (Ex.AQ ks) a m q;generalize E3 B.G ks env 0 opF g.push=r at *;simp only [exA,Ex.A6,AB,AJ] at p ⊢;unfold PB BT;simp only [Pp];(repeat' first|((first|refine wQ ?_|(refine Dq rfl ?_ ?_<;>intro h<;>try (cases h;done))|fail)<;>try simp only [go_sem])|(constructor<;>intro h<;>first|(cases h;done)|try simp only [h])|fail);refine AN.mk rfl p ?_;rintro _ n ⟨rfl,q⟩;simp only [nA];simp only [go_sem];exact b n (q.cast (by omega) (by omega))
theorem AbC (B:GB) (o:HU B) (G:GD B.G) (nm:M) (u:Int) (ns:List M) (ks:List Ex) (al:List Al) (v:∀k∈ks,ExC B k):ExT B (.mk 14 nm u ns ks al):=by
 intro sc env g A V j jc c f l e i t;obtain ⟨L,x⟩:=c.me;obtain ⟨N,D,P,E,F⟩:=EI x;have K:=IY g;have y:=IX g;have s:=Gg (by decide) E;subst s;have a:=size_mk 14 nm u ns ks [];simp only [Al.AQ,CC] at a;rw [a] at l e;have d:=c.all (by decide);have z:1<=u/\u<=7:=by simpa [nuB] using D
 have w:ks.length=eS u:=by simpa [nkB] using F
 have p:=AJC B o nm u ns ks [] v sc env g.push V j jc z w d f (by omega) (by omega) t;have b:=fun m q=>GA B o _ env g A V i _ (ADY B.G nm u ns ks [] env g) (Ex.AQ ks) a m q;generalize YV B.G u ks env g.push=r at *;simp only [exA,Ex.A6,AB,AJ] at p ⊢;unfold PB BT;simp only [Pp];(repeat' first|((first|refine wQ ?_|(refine Dq rfl ?_ ?_<;>intro h<;>try (cases h;done))|fail)<;>try simp only [go_sem])|(constructor<;>intro h<;>first|(cases h;done)|try simp only [h])|fail);refine AN.mk rfl p ?_;rintro _ n ⟨rfl,q⟩;simp only [nA];simp only [go_sem];exact b n (q.cast (by omega) (by omega))
theorem Aa8 (B:GB) (F:HU B) (L:GD B.G) (nm:M) (u:Int) (ns:List M) (k:Ex) (a:Al) (al:List Al) (Q:ExC B k) (s:∀b∈a::al,ExC B b.body):ExT B (.mk 10 nm u ns [k] (a::al)):=by
 intro sc env g A V j jc e p v o t P;obtain ⟨T,R⟩:=e.me;obtain ⟨Z,n2,n3,n4,n5⟩:=EI R;have Y:=IY g;have S:=IX g;have m:=size_mk 10 nm u ns [k] (a::al);rw [m] at v o;have i:=e.all (by decide) k (by simp);have l:=fun (b:Al) (G:b∈a::al)=>e.alt G;obtain ⟨d,N⟩:=kH (show Nc B.G.dt (a::al)=0 from T);obtain ⟨U,z,_⟩:=N a (AY);obtain ⟨D,y,E,_⟩:=UW z
 have n:∀b∈a::al,∃c con,Dy B.G.dt b.con=some (d,c)/\D.cons[c]?=some con/\b.vars.length=con.args.length:=fun b G=>by
  grind [UW,ACW]
 have K:=AFZ B F L nm u ns k (a::al) Q s sc env d D E (by simp) n g.push V j jc i l p (by omega) (by omega) P;have f:=fun w q=>GA B F _ env g A V t _ (ADU B.G nm u ns [k] a al env g z E) (Ex.AQ [k]+Al.AQ (a::al)) m w q;generalize ANI B.G D d [k] (a::al) env g.push=r at *;simp only [exA,Ex.A6,AB,AJ] at K ⊢;unfold PB BT;simp only [Pp];(repeat' first|((first|refine wQ ?_|(refine Dq rfl ?_ ?_<;>intro h<;>try (cases h;done))|fail)<;>try simp only [go_sem])|(constructor<;>intro h<;>first|(cases h;done)|try simp only [h])|fail);refine AN.mk rfl K ?_;rintro _ x ⟨rfl,q⟩;simp only [nA];simp only [go_sem];exact f x (q.cast (by omega) (by omega))
theorem Ac0 (B:GB) (w:HU B) (F:GD B.G) (nm:M) (u:Int) (ns:List M) (k0 k1:Ex) (al:List Al) (f:ExC B k0) (l:ExC B k1):ExT B (.mk 7 nm u ns [k0,k1] al):=by
 intro sc env g A V j jc a e n d m y;obtain ⟨K,z⟩:=a.me;obtain ⟨L,N,P,E,Q⟩:=EI z;have G:=IY g;have D:=IX g;have x:=Gg (by decide) E;subst x;have b:=size_mk 7 nm u ns [k0,k1] [];simp only [Al.AQ,CC,ABU] at b;rw [b] at n d;have o:OkE B.G k0 sc:=by have:=a.kid (i:=0) (k:=k0) rfl;rwa [AAY _ _ _ _ (by decide)] at this
 have p:OkE B.G k1 (dT nm sc):=by have:=a.kid (i:=1) (k:=k1) rfl;simpa [Ct,dT] using this
 have v:=AOP B nm u ns k0 k1 [] f l sc env g.push V j jc o p e (by omega) (by omega) y;have c:=fun s q=>GA B w _ env g A V m _ (AJ9 B.G nm u ns k0 k1 [] env g) (k0.size+k1.size) b s q;generalize ANG B.G nm k0 k1 env g.push=r at *;simp only [exA,Ex.A6,AB,AJ] at v ⊢;unfold PB BT;simp only [Pp];(repeat' first|((first|refine wQ ?_|(refine Dq rfl ?_ ?_<;>intro h<;>try (cases h;done))|fail)<;>try simp only [go_sem])|(constructor<;>intro h<;>first|(cases h;done)|try simp only [h])|fail);refine AN.mk rfl v ?_;rintro _ t ⟨rfl,q⟩;simp only [nA];simp only [go_sem];exact c t (q.cast (by omega) (by omega))
theorem AbE (B:GB) (v:HU B) (F:GD B.G) (nm:M) (u:Int) (ns:List M) (k0 k1:Ex) (al:List Al) (f:ExC B k0) (l:ExC B k1):ExT B (.mk 17 nm u ns [k0,k1] al):=by
 intro sc env g A V j jc a e n d m y;obtain ⟨K,z⟩:=a.me;obtain ⟨L,N,P,E,Q⟩:=EI z;have G:=IY g;have D:=IX g;have x:=Gg (by decide) E;subst x;have b:=size_mk 17 nm u ns [k0,k1] [];simp only [Al.AQ,CC,ABU] at b;rw [b] at n d;have o:OkE B.G k0 sc:=by have:=a.kid (i:=0) (k:=k0) rfl;rwa [AAY _ _ _ _ (by decide)] at this
 have p:OkE B.G k1 (dT nm sc):=by have:=a.kid (i:=1) (k:=k1) rfl;simpa [Ct,dT] using this
 have w:=AOQ B v nm u ns k0 k1 [] f l sc env g.push V j jc o p e (by omega) (by omega) y;have c:=fun s q=>GA B v _ env g A V m _ (AD0 B.G nm u ns k0 k1 [] env g) (k0.size+k1.size) b s q;generalize AOO B.G nm k0 k1 env g.push=r at *;simp only [exA,Ex.A6,AB,AJ] at w ⊢;unfold PB BT;simp only [Pp];(repeat' first|((first|refine wQ ?_|(refine Dq rfl ?_ ?_<;>intro h<;>try (cases h;done))|fail)<;>try simp only [go_sem])|(constructor<;>intro h<;>first|(cases h;done)|try simp only [h])|fail);refine AN.mk rfl w ?_;rintro _ t ⟨rfl,q⟩;simp only [nA];simp only [go_sem];exact c t (q.cast (by omega) (by omega))
theorem Ac1 (B:GB) (w:HU B) (K:GD B.G) (nm:M) (u:Int) (ns:List M) (k0 k1:Ex) (al:List Al) (f:ExC B k0) (l:ExC B k1):ExT B (.mk 8 nm u ns [k0,k1] al):=by
 intro sc env g A V j jc a e o d m z;obtain ⟨N,D⟩:=a.me;obtain ⟨P,Q,F,G,R⟩:=EI D;have L:=IY g;have E:=IX g;have y:=Gg (by decide) G;subst y;have b:=size_mk 8 nm u ns [k0,k1] [];simp only [Al.AQ,CC,ABU] at b;rw [b] at o d;have p:OkE B.G k0 sc:=by have:=a.kid (i:=0) (k:=k0) rfl;grind [AAY]
 have s:OkE B.G k1 (sc++ns):=by have:=a.kid (i:=1) (k:=k1) rfl;simpa [Ct] using this
 have n:ns.length<=1000:=by
  simp [nsB] at F;omega
 have x:=AOR B w nm u ns k0 k1 [] f l sc env g.push V j jc n p s e (by omega) (by omega) z;have c:=fun t q=>GA B w _ env g A V m _ (AKA B.G nm u ns k0 k1 [] env g) (k0.size+k1.size) b t q;generalize AOS B.G ns k0 k1 env g.push=r at *;simp only [exA,Ex.A6,AB,AJ] at x ⊢;unfold PB BT;simp only [Pp];(repeat' first|((first|refine wQ ?_|(refine Dq rfl ?_ ?_<;>intro h<;>try (cases h;done))|fail)<;>try simp only [go_sem])|(constructor<;>intro h<;>first|(cases h;done)|try simp only [h])|fail);refine AN.mk rfl x ?_;rintro _ v ⟨rfl,q⟩;simp only [nA];simp only [go_sem];exact c v (q.cast (by omega) (by omega))
theorem Aa9 (B:GB) (t:HU B) (F:GD B.G) (nm:M) (u:Int) (ns:List M) (k0:Ex) (al:List Al) (f:ExC B k0):ExT B (.mk 11 nm u ns [k0] al):=by
 intro sc env g A V j jc c e n d l x;obtain ⟨K,y⟩:=c.me;obtain ⟨L,N,D,E,P⟩:=EI y;have G:=IY g;have z:=IX g;have w:=Gg (by decide) E;subst w;have a:=size_mk 11 nm u ns [k0] [];simp only [Al.AQ,CC,ALA] at a;rw [a] at n d;have o:OkE B.G k0 (sc++ns):=by have:=c.kid (i:=0) (k:=k0) rfl;simpa [Ct] using this
 have m:ns.length<=1000:=by
  simp [nsB] at D;omega
 have v:=ATK B t nm u ns k0 [] f sc env g.push V j jc m o e (by omega) (by omega) x;have b:=fun p q=>GA B t _ env g A V l _ (ADV B.G nm u ns k0 [] env g) (k0.size) a p q;generalize fnQ B.G ns k0 env g.push=r at *;simp only [exA,Ex.A6,AB,AJ] at v ⊢;unfold PB BT;simp only [Pp];(repeat' first|((first|refine wQ ?_|(refine Dq rfl ?_ ?_<;>intro h<;>try (cases h;done))|fail)<;>try simp only [go_sem])|(constructor<;>intro h<;>first|(cases h;done)|try simp only [h])|fail);refine AN.mk rfl v ?_;rintro _ s ⟨rfl,q⟩;simp only [nA];simp only [go_sem];exact b s (q.cast (by omega) (by omega))
theorem Ac2 (B:GB) (x:HU B) (K:GD B.G) (nm:M) (u:Int) (ns:List M) (k0 k1 b:Ex) (al:List Al) (k:ExC B k0) (l:ExC B k1) (m:ExC B b):ExT B (.mk 9 nm u ns [k0,k1,b] al):=by
 intro sc env g A V j jc e i o f n D;obtain ⟨N,E⟩:=e.me;obtain ⟨P,Q,R,G,S⟩:=EI E;have L:=IY g;have F:=IX g;have z:=Gg (by decide) G;subst z;have c:=size_mk 9 nm u ns [k0,k1,b] [];simp only [Al.AQ,CC,AWM] at c;rw [c] at o f;have a:=e.all (by decide);have p:=a k0 (by simp);have s:=a k1 (by simp);have t:=a b (by simp);have y:=ATL B x nm u ns k0 k1 b [] k l m sc env g.push V j jc p s t i (by omega) (by omega) D;have d:=fun v q=>GA B x _ env g A V n _ (AKB B.G nm u ns k0 k1 b [] env g) (k0.size+(k1.size+b.size)) c v q;generalize AM9 B.G k0 k1 b env g.push=r at *;simp only [exA,Ex.A6,AB,AJ] at y ⊢;unfold PB BT;simp only [Pp];(repeat' first|((first|refine wQ ?_|(refine Dq rfl ?_ ?_<;>intro h<;>try (cases h;done))|fail)<;>try simp only [go_sem])|(constructor<;>intro h<;>first|(cases h;done)|try simp only [h])|fail);refine AN.mk rfl y ?_;rintro _ w ⟨rfl,q⟩;simp only [nA];simp only [go_sem];exact d w (q.cast (by omega) (by omega))
theorem AU1 (B:GB) (m:HU B) (o:Int) (n:o=1\/o=2\/o=3\/o=15) (nm:M) (u:Int) (ns:List M):ExT B (.mk o nm u ns [] []):=by
 intro sc env g A V j jc t r k f i s;have x:=IY g;have v:=IX g;have c:(Ex.mk o nm u ns [] []).size=1+0:=by simp [Ex.size,Ex.AQ,Al.AQ]
 rw [c] at k f;have p:=ADI B m o g.push V j jc (by omega) s;have b:=fun l q=>GA B m _ env g A V i _ (dI B.G n nm u ns [] [] env g) 0 c l q
 have w:∀a j',(nbH V).le a->GX B a (g.push.add (ADF o) 0 []) j' jc->RQ B V g.push g.push.nx (1000000 * (1+0)) 0 (g.push.add (ADF o) 0 []) a:=fun a j' d e=>
  ⟨d,⟨j',jc,e⟩,by rw [DD];omega,by rw [DD];omega,by rw [DD];omega,rfl⟩
 simp only [Ex.A6,AB,AJ];unfold PB BT;simp only [Pp];rcases n with rfl|rfl|rfl|rfl<;>
 . (repeat' first|((first|refine wQ ?_|(refine Dq rfl ?_ ?_<;>intro h<;>try (cases h;done))|fail)<;>try simp only [go_sem])|(constructor<;>intro h<;>first|(cases h;done)|try simp only [h])|fail);refine AN.mk rfl p ?_;rintro _ a ⟨rfl,d,j',e⟩;simp only [nA];simp only [go_sem];exact b a (w a j' d e)
theorem AcY (B:GB) (z:HU B) (nm:M) (u:Int) (ns:List M) (ks:List Ex) (al:List Al) (L:∀k∈ks,ExC B k):ExT B (.mk 5 nm u ns ks al):=by
 intro sc env g A V j jc d i o f n G;obtain ⟨Z,P⟩:=d.me;obtain ⟨n1,n2,n3,U,n5⟩:=EI P;have Y:=IY g;have Q:=IX g;have F:=Gg (by decide) U;subst F;have b:=size_mk 5 nm u ns ks [];simp only [Al.AQ,CC] at b;rw [b] at o f;have e:=d.all (by decide);have D:=AD1 B ks L sc env g.push V j jc e i (by omega) (by omega) G;have a:=fun w q=>GA B z _ env g A V n _ (AJ7 B.G nm u ns ks [] env g) (Ex.AQ ks) b w q;rw [Ab5] at a;generalize De B.G ks env g.push=r at *;simp only [Ex.A6,AB,AJ] at D ⊢;unfold PB BT;simp only [Pp];(repeat' first|((first|refine wQ ?_|(refine Dq rfl ?_ ?_<;>intro h<;>try (cases h;done))|fail)<;>try simp only [go_sem])|(constructor<;>intro h<;>first|(cases h;done)|try simp only [h])|fail);refine AN.mk rfl D ?_;rintro v x ⟨p,q⟩;simp only [go_sem];obtain ⟨S,t,c⟩:=q.gx;have N:=q.le;have K:=q.hi;have R:=q.en;have s:r.2.s.1.length=r.2.nx:=rfl;refine AN.mk (by simp [p.BS,Pl,Je]) (CH B.i S r.2.s.1 r.2.s.2 B.rest x 6 v r.1 c.sn p.row q.lt (by omega)) ?_;intro v3 y E;obtain ⟨rfl,m,T,l⟩:=c.add z E;clear E;rw [s];simp only [nA];simp only [go_sem];exact a y ⟨BJ q.nb m,⟨T,t,l⟩,by rw [DD];simp only;omega,by rw [DD];omega,by rw [DD];omega,by rw [AAH];omega⟩
theorem AbD (B:GB) (m:HU B) (nm:M) (u:Int) (ns:List M) (k:Ex) (al:List Al) (hk:ExC B k):ExT B (.mk 16 nm u ns [k] al):=by
 intro sc env g A V j jc i p D n z hg;obtain ⟨hv,hn⟩:=i.me;obtain ⟨n1,n2,n3,n4,n5⟩:=EI hn;have hp:=IY g;have h4:=IX g;have Z:=Gg (by decide) n4;subst Z;have b:=size_mk 16 nm u ns [k] [];simp only [Al.AQ,CC,ALA] at b;rw [b] at D n;have h7:=Ex.size_pos k;have l:=i.all (by decide) k (by simp);have Q:=hk sc env g.push V j jc l p (by omega) (by omega) hg;have a:=fun G q=>GA B m _ env g A V z _ (ADZ B.G nm u ns k [] env g) k.size b G q;rw [AbW] at a;generalize BN B.G k env g.push=r at *;obtain ⟨o,n',u',h8,kk,Y⟩:=k;simp only [exA,Ex.A6,AB,AJ] at Q ⊢;unfold PB BT;simp only [Pp];(repeat' first|((first|refine wQ ?_|(refine Dq rfl ?_ ?_<;>intro h<;>try (cases h;done))|fail)<;>try simp only [il0,it0,go_sem])|(constructor<;>intro h<;>first|(cases h;done)|try simp only [h])|fail);refine AN.mk rfl Q ?_;rintro _ K ⟨rfl,q⟩;simp only [nA];simp only [go_sem];obtain ⟨j2,F,c⟩:=q.gx;have h2:=q.le;have h1:=q.hi;have h5:=q.en;have h6:=q.lt;have E:r.2.s.1.length=r.2.nx:=rfl;have y:=DD r.2 1 0 [];refine AN.mk rfl (CH B.i j2 r.2.s.1 r.2.s.2 B.rest K 1 .Ac [] c.sn DG.Ac (by simp) (by omega)) ?_;intro v3 L S;obtain ⟨rfl,v,j3,d⟩:=c.add m S;clear S;rw [E];simp only [nA];simp only [go_sem]
 have R:(r.2.add 1 0 []).s.1.length=r.2.nx+1:=y;refine AN.mk rfl (C9 B.i B.rest _ _ (r.2.add 1 0 []).s.2 j3 r.1 r.2.nx L (Oe _) d.sn (by omega) (by omega) (by omega)) ?_;intro v4 N T;obtain ⟨w,j4,e⟩:=d.uni m T;clear T;simp only [go_sem];have h3:=NK (r.2.add 1 0 []) r.1 r.2.nx;have h0:((r.2.add 1 0 []).uni r.1 r.2.nx).en.length=r.2.en.length:=rfl;generalize (r.2.add 1 0 []).uni r.1 r.2.nx=h at *;have t:h.s.1.length=h.nx:=rfl;(repeat' refine wQ ?_<;>simp only [go_sem]);refine AN.mk rfl (Fv B.i j4 h.s.1 h.s.2 B.rest N e.sn (by omega)) ?_;intro v5 P U;obtain ⟨rfl,x,j5,s⟩:=e.add m U;clear U;rw [t];simp only [nA];simp only [go_sem];have f:=DD h 0 0 [];exact a P ⟨BJ (BJ (BJ q.nb v) w) x,⟨j5,F,s⟩,by grind,by rw [f];omega,by rw [f];omega,by rw [AAH];omega⟩
theorem ALU (G:GC) (k0:Ex) (ks:List Ex) (env:Env) (g:GS):Aa4 G (k0::ks) env g=
 let r:=BN G k0 env g
 let q:=De G ks env r.2
 (q.2.nx,((q.2.add 0 0 []).add 9 0 (q.1++[q.2.nx])).uni r.1 (q.2.nx+1)):=rfl
theorem Ab2 (e:Ex) (l:List Ex):Z3 (e.J::l.map Ex.J) (some (.d (.int .i64 1))) none none 6=some (.d (.sl (l.map Ex.J))):=by
 have b:Y4 (e.J::l.map Ex.J) 6=true:=by
  unfold Y4;rw [Ao];intro r a
  have:∃x:Ex,x.J=r:=by
   rcases Ah.1 a with rfl|a
   . exact ⟨e,rfl⟩
   . obtain ⟨x,_,rfl⟩:=BR.1 a;exact ⟨x,rfl⟩
  obtain ⟨⟨o,n,u,ns,ks,al⟩,rfl⟩:=this;simp [Ex.A6]
 simp [Z3,b,fZ,Vm];rw [AR (by simp)]
theorem AbA (B:GB) (K:HU B) (nm:M) (u:Int) (ns:List M) (k0:Ex) (ks:List Ex) (al:List Al) (Z:ExC B k0) (hk:∀k∈ks,ExC B k):ExT B (.mk 12 nm u ns (k0::ks) al):=by
 intro sc env g A V j jc f m hb R h9 hg;obtain ⟨hv,hn⟩:=f.me;obtain ⟨n1,n2,n3,n4,n5⟩:=EI hn;have hp:=IY g;have hpe:=IX g;have l:=Gg (by decide) n4;subst l;have i:=size_mk 12 nm u ns (k0::ks) [];simp only [Al.AQ,CC,Ex.AQ] at i;rw [i] at hb R;have hsk:=Ex.size_pos k0;have vs:=Ex.CL ks;have y:=f.all (by decide) k0 (by simp);have x:=fun k (h:k∈ks)=>f.all (by decide) k (AZ _ h);have hc:=Z sc env g.push V j jc y m (by omega) (by omega) hg;have d:=fun e q=>GA B K _ env g A V h9 _ (ADW B.G nm u ns (k0::ks) [] env g) (k0.size+Ex.AQ ks) i e q;rw [ALU] at d;simp only at d;generalize BN B.G k0 env g.push=r at *;have Q:=fun e j1 D (h1:g.push.nx<=r.2.nx) (h2:r.2.nx+500000<=g.push.nx+1000000 * k0.size) (h3:r.2.en.length=g.push.en.length+k0.size) (hx:GX B e r.2 j1 D)=>AD1 B ks hk sc env r.2 e j1 D x (m.le h1) (by omega) (by omega) hx;have h4:=QQ B.G ks env r.2;generalize De B.G ks env r.2=b at *;have h5:=DD b.2 0 0 [];have us:=DD (b.2.add 0 0 []) 9 0 (b.1++[b.2.nx]);have cs:=NK ((b.2.add 0 0 []).add 9 0 (b.1++[b.2.nx])) r.1 (b.2.nx+1);have ds:(((b.2.add 0 0 []).add 9 0 (b.1++[b.2.nx])).uni r.1 (b.2.nx+1)).en.length=b.2.en.length:=rfl;obtain ⟨o,n',u',hl,kk,L⟩:=k0;simp only [exA,Ex.A6,AB,AJ] at hc ⊢
 unfold PB BT;simp only [Pp];(repeat' first|(refine sQ ?_<;>try simp only [il0,it0,go_sem])|(constructor<;>intro h<;>first|(cases h;done)|try simp only [h])|fail);refine AN.mk rfl hc ?_;rintro _ F ⟨rfl,q⟩;simp only [nA];simp only [go_sem];obtain ⟨j2,hi,S⟩:=q.gx;have h0:=q.le;have Y:=q.hi;have hf:=q.en;have hqt:=q.lt;have z:=Ab2 (.mk o n' u' hl kk L) ks;rw [Ex.A6] at z;(repeat' refine sQ ?_<;>simp only [z,go_sem]);refine AN.mk rfl (Q F j2 hi h0 Y hf S) ?_;rintro v hm ⟨w,E⟩;simp only [go_sem];obtain ⟨j3,hj,n⟩:=E.gx;have fs:=E.le;have hy:=E.hi;have ht:=E.en;have N:b.2.s.1.length=b.2.nx:=rfl;(repeat' refine wQ ?_<;>simp only [go_sem]);refine AN.mk rfl (Fv B.i j3 b.2.s.1 b.2.s.2 B.rest hm n.sn (by omega)) ?_;intro v4 τ4 q4;obtain ⟨rfl,h6,j4,T⟩:=n.add K q4;clear q4;rw [N];simp only [nA];simp only [go_sem];have hd:=w.nb h6;(repeat' refine wQ ?_<;>simp only [w.w4,go_sem]);refine DH.own hd rfl (by simp) (by simp [h4];omega) (by omega) (fun v5 G c P=>?_);simp only [go_sem];have p:=T.nbo P;have he:Bn (nbH F) 3 1 ((b.1++[b.2.nx]).map Ba) v5 G:=by rw [A4];exact c
 have t:(b.2.add 0 0 []).s.1.length=b.2.nx+1:=h5;refine AN.mk (by simp [c.BS,Pl,Je]) (CH B.i j4 (b.2.add 0 0 []).s.1 (b.2.add 0 0 []).s.2 B.rest G 9 v5 (b.1++[b.2.nx]) p.sn he.row (fun a l=>?_) (by omega)) ?_
 . rcases A2.1 l with l|l
   . have:=E.lt a l;omega
   grind
 intro v7 hq q7;obtain ⟨rfl,h7,j7,s⟩:=p.add K q7;clear q7;rw [t];simp only [nA];simp only [go_sem];have hs:((b.2.add 0 0 []).add 9 0 (b.1++[b.2.nx])).s.1.length=b.2.nx+2:=by grind [GS.nx]
 refine AN.mk rfl (C9 B.i B.rest _ _ ((b.2.add 0 0 []).add 9 0 (b.1++[b.2.nx])).s.2 j7 r.1 (b.2.nx+1) hq (Oe _) s.sn (by omega) (by omega) (by omega)) ?_;intro v8 hr q8;obtain ⟨h8,j8,U⟩:=s.uni K q8;clear q8;simp only [go_sem];exact d hr ⟨BJ (BJ (BJ q.nb c.le) h7) h8,⟨j8,hj,U⟩,by omega,by omega,by omega,by omega⟩
theorem AVK {l:List Ex} (h:l.length=2):∃a b,l=[a,b]:=by
 match l,h with
 |[a,b],_=>exact ⟨a,b,rfl⟩
theorem AbQ {l:List Ex} (h:l.length=3):∃a b c,l=[a,b,c]:=by
 match l,h with
 |[a,b,c],_=>exact ⟨a,b,c,rfl⟩
theorem AU2 (B:GB) (m:HU B) (q:GD B.G):∀(N:Nat) (e:Ex),e.size<=N->ExC B e:=by
 intro N
 induction N with
 |zero=>intro e h;have:=Ex.size_pos e;omega
 |succ N y=>
 intro e Q
 have key:∀sc,OkE B.G e sc->ExT B e:=by
  intro sc f;obtain ⟨o,nm,u,ns,ks,al⟩:=e;obtain ⟨S,P⟩:=f.me;obtain ⟨T,U,Y,D,d⟩:=EI P;have R:=size_mk o nm u ns ks al
  have i:∀k∈ks,ExC B k:=fun k i=>y k (by
   have:k.size<=Ex.AQ ks:=by
    rw [Ex.JS];exact rZ (CU i)
   omega)
  have L:∀a∈al,ExC B a.body:=fun a F=>y a.body (by
   have:a.size<=Al.AQ al:=by
    rw [Al.JS];exact rZ (CU F)
   obtain ⟨c,vs,b⟩:=a
   grind [Al.size,Al.body])
  have z:∀ {l:List Ex},l.length=0->l=[]:=fun h=>Ay h;have n:ks.length=1->∃k,ks=[k]:=fun h=>Ti.1 h;have p:ks.length=2->∃a b,ks=[a,b]:=fun h=>AVK h;have E:ks.length=3->∃a b c,ks=[a,b,c]:=fun h=>AbQ h;have G:o≠10->al=[]:=fun h=>Gg h D;rcases AFB d with rfl|rfl|rfl|rfl|rfl|rfl|rfl|rfl|rfl|rfl|rfl|rfl|rfl|rfl|rfl|rfl|rfl<;>simp [nkB] at d
  . grind [AU1]
  . grind [AU1]
  . grind [AU1]
  . grind [AcX]
  . exact AcY B m nm u ns ks al i
  . exact AcZ B m q nm u ns ks al i
  . obtain ⟨a,b,rfl⟩:=p d
    grind [Ac0]
  . obtain ⟨a,b,rfl⟩:=p d
    grind [Ac1]
  . obtain ⟨a,b,c,rfl⟩:=E d
    grind [Ac2]
  . obtain ⟨a,rfl⟩:=n d;cases al with
    |nil=>simp [asB] at D
    |cons b al=>grind [Aa8]
  . obtain ⟨a,rfl⟩:=n d
    grind [Aa9]
  . cases ks with
    |nil=>simp at d
    |cons a ks=>grind [AbA,AZ]
  . exact AbB B m q nm u ns ks al i
  . exact AbC B m q nm u ns ks al i
  . grind [AU1]
  . obtain ⟨a,rfl⟩:=n d
    grind [AbD]
  . obtain ⟨a,b,rfl⟩:=p d
    grind [AbE]
 intro sc env g A j jc f s w r K;exact AMF B m e env g A j jc (by omega) K _ (fun V x v t=>key sc f sc env g A V j x f (s.le (AW _)) w r v t)
structure PG (B:GB) (c0:Nat) (A:X) (s:SS) (j:Nat):Prop where
 sn:SN A B.i s.1 s.2 [.d (.sl (B.ds.map DE.J)),.d (.sl (B.G.fs.map FE.J)),dsA B.G.dt,.ms B.js B.G.sch.length 5 eSs,.ms B.jm B.G.mem.length 1 eMm,.ms B.jp B.G.ps.length 1 ePp,.ms B.jr B.G.rs.length 1 3,.ms B.je B.es.length 1 eEe,.d (.int .i64 (c0:Int))] j
 e:A.C B.je=some B.es
 nil:B.es[B.cur]?=some .Ac
 x:∀k cs,B.ext k=some cs->A.C k=some cs
 jj:B.ext j=none/\j≠B.je
 gi:GI B.G ⟨s,[]⟩
theorem PG.gx {B:GB} (c:HU B) {c0:Nat} {A:X} {s:SS} {j:Nat} (h:PG B c0 A s j) (jc:Nat):GX B (A.AI B.i (ndV s.1 j::.d (.bool s.2)::B.rest)) ⟨s,[]⟩ j jc:=by
 have i:s.1≠[]:=fun e=>by have:=h.gi.pos;grind [GS.nx]
 obtain ⟨a,b,f,d⟩:=h.sn.nd i;refine ⟨⟨BB,h.sn.Gn,fun _=>⟨a,b,f,by rw [AD,if_neg a];exact d⟩⟩,?_,fun n=>absurd rfl n,fun k cs g=>?_,h.jj,h.gi⟩
 . rw [AD,if_neg (A5 c.ie),h.e];congr 1;have l:=c.cur;refine Dw fun m=>?_;rw [CT];split
   . rename_i e;subst e;rw [h.nil];simp [enV]
   . rfl
 . rw [AD,if_neg (fun e=>by rw [e,c.xi] at g;cases g)];exact h.x k cs g
def Sm (G:GC) (fe:FE) (pl:List Nat) (rf:Nat) (s:SS):GS:=
 let r:=BN G fe.body (Cy [] fe.params pl) ⟨s,[]⟩
 r.2.uni r.1 rf
theorem tP (B:GB) (g:HU B) (hD:GD B.G) (a:FE) (b:List Nat) (d:Nat) (p:B.G.fs[B.cur]?=some a) (y:B.G.ps[B.cur]?=some b) (D:B.G.rs[B.cur]?=some d) (t:a.params.length=b.length) (T:OkE B.G a.body a.params) (c0:Nat) (s:SS) (A:X) (j:Nat) (w:s.1.length+1000000 * a.body.size<=900000000) (h:PG B c0 A s j):
 AS Tzp 67 [.gp B.i 0,.d (.int .i64 (B.cur:Int))] A (fun _ H=>(nbH A).le H/\(∃j jc,GX B H (Sm B.G a b d s) j jc)/\s.1.length<=(Sm B.G a b d s).nx/\(Sm B.G a b d s).nx<=s.1.length+1000000 * a.body.size/\(Sm B.G a b d s).en.length=a.body.size):=by
 have F:=h.gx g 0;have E:s.1≠[]:=fun e=>by have:=h.gi.pos;grind [GS.nx]
 have i:=h.sn.C;rw [Ef E] at i;have v:(nbH A).le (A.AI B.i (ndV s.1 j::D1 s.2::B.rest)):=⟨fun _ _ h=>(by cases h),fun _ h=>h,rfl,fun _ _ h=>h⟩;refine Uc.go ?_;(repeat' refine sQ ?_<;>simp only [i,go_sem]);have h5:(A.AI B.i (.ms j s.1.length 4 tkN::D1 s.2::[BU (B.ds.map DE.J),BU (B.G.fs.map FE.J),dsA B.G.dt,.ms B.js B.G.sch.length 5 eSs,.ms B.jm B.G.mem.length 1 eMm,.ms B.jp B.G.ps.length 1 ePp,.ms B.jr B.G.rs.length 1 3,.ms B.je B.es.length 1 eEe,A1 B.cur]))=A.AI B.i (ndV s.1 j::D1 s.2::B.rest):=by rw [Ef E];rfl
 rw [h5];generalize A.AI B.i (ndV s.1 j::D1 s.2::B.rest)=V at *;have k:=F.bi;have U:=F.x _ _ g.p;have he:=F.x _ _ g.r;have Y:=sV y;have h3:=SC D;have G:=(AG.1 p).1;have m:=ltT G;have K:=ltT (show B.cur < B.G.ps.length by grind);have L:=ltT (show B.cur < B.G.rs.length by grind);have f:=Au (J:=FE.J) p;have hw:=KR .Dt [] PlV.Dt a.params b t V
 have N:ES a.params (Cy [] a.params b) ⟨s,[]⟩:=by
  have h0:ES [] [] (⟨s,[]⟩:GS):=⟨fun s _=>by simp [Mb],fun x hx=>by simp at hx⟩;have:=h0.with (ns:=a.params) (ts:=b) t (g':=⟨s,[]⟩) (AW _) (h.gi.ps b (AE y));simpa using this
 have hc:=AU2 B g hD a.body.size a.body (AW _) a.params (Cy [] a.params b) ⟨s,[]⟩ V j 0 T N w (by grind) F;have h4:=h.gi.rs d (AE D);rw [Sm];generalize hr:BN B.G a.body (Cy [] a.params b) ⟨s,[]⟩=r at *;obtain ⟨fn,fp,o,n,u,ns,ks,al⟩:=a;simp only [FE.J,Ex.A6,exA,AB,AJ] at f hc hw;have hb:s.1.length+1000000 * (Ex.mk o n u ns ks al).size<=900000000:=w;refine W.Gs mixed ?_;simp only [k,U,Y,f,K,Ag,go_sem];refine ⟨⟨?_,?_⟩,?_⟩<;>
 . refine AN.det hw ?_;simp only [k,f,go_sem];refine AN.mk rfl hc ?_;rintro _ h7 ⟨rfl,q⟩;simp only [nA];simp only [go_sem];obtain ⟨j1,h6,c⟩:=q.gx;have l:=c.bi;have h2:=c.x _ _ g.r;have R:=q.le;have Q:=q.hi;have Z:=q.en;have h9:s.1.length<=r.2.nx:=R;have h8:r.2.nx+500000<=s.1.length+1000000 * (Ex.mk o n u ns ks al).size:=Q;have z:r.2.en.length=(Ex.mk o n u ns ks al).size:=by rw [Z];simp
   have ha:d < s.1.length:=h4;have h1:=q.lt;have hf:r.2.s.1.length=r.2.nx:=rfl;have hd:=NK r.2 r.1 d;(repeat' refine wQ ?_<;>simp only [l,h2,h3,L,Ag,go_sem]);refine AN.mk rfl (C9 B.i B.rest _ _ r.2.s.2 j1 r.1 d h7 (Oe _) c.sn h1 (by omega) (by omega)) ?_;intro v2 hi q2;obtain ⟨S,j2,P⟩:=c.uni g q2;simp only [go_sem];refine W.fin U1 rfl (fun _ _ h=>h) (X.le_refl _) ⟨BJ (BJ v q.nb) S,⟨j2,h6,P⟩,by omega,by omega,?_⟩;rw [AQB,z]
structure NGH (A V:X) (n:Nat) (ds:DV) (fs:DV) (dt:I) (sc:I) (i jm jp jr je:Nat):Prop where
 mo:Mo A V
 fr:A.C i=none/\A.C jm=none/\A.C jp=none/\A.C jr=none/\A.C je=none
 nd:i≠jm/\i≠jp/\i≠jr/\i≠je/\jm≠jp/\jm≠jr/\jm≠je/\jp≠jr/\jp≠je/\jr≠je
 bi:V.C i=some [.Ac,.d (.bool false),.d ds,.d fs,dt,sc,.ms jm n 1 eMm,.ms jp n 1 ePp,.ms jr n 1 3,.ms je n 1 eEe,.d (.int .i64 0)]
 bm:V.C jm=some (AH n [I.d (.bool false)]).flatten
 bp:V.C jp=some (AH n [I.Ac]).flatten
 br:V.C jr=some (AH n [I.d (.int .i64 0)]).flatten
 be:V.C je=some (AH n [I.Ac]).flatten
theorem AFP (A:X) (i:Nat) (cs:List I):(A.AI i cs).C i=some cs:=BB
theorem K8.mo {P:Program} {K:CV} {L:Lm} {A:X} {d:Option Nat} {e s:Nat} {z:List I} (n:Nat) (c:b * n<=281474976710656) (f:n<=9223372036854775807) (h:∀i V,A.C i=none->Mo A V->V.C i=some (AH n z).flatten->K (BW d (.ms i n s e) F) L V):
 K8 e s b z (.d (.int .i64 n)) (.d (.int .i64 n)) d K F L A:=K8.mk n c f fun i a=>h i _ a ((Mo.refl A).new a _) (AFP A i _)
theorem sH {V:X} {a:Nat} {c:List I} (d:V.C a=some c) (f:V.C b=none):a≠b:=fun e=>by grind
theorem yR (n:Nat):(AH n [I.Ac]).flatten=AH n .Ac:=by
 simp_all
def RNG (A:X) (n:Nat) (ds fs:DV) (dt sc:I) (F0:Nat->Fm) (L0:Lm) (F:Fm) (L:Lm) (V:X):Prop:=
 ∃i jm jp jr je,NGH A V n ds fs dt sc i jm jp jr je/\Ee [3,4,10] F=F0 i/\GK [3,4,10] L=L0
noncomputable def ngR:Q01:=Pp (Pp (Pp Lo))
theorem wO (A:X) (fs:List FE) (ds:List DE) (dt:List Dat) (js:Nat) (ns:Nat) (mem:List Nat) (Q:I->X->Prop) (L:fs.length<=1000)
 (h:∀V i o jp p je,NGH A V fs.length (.sl (ds.map DE.J)) (.sl (fs.map FE.J)) (dsA dt) (.ms js ns 5 eSs) i o jp p je->
   W I3 Q [.code ngR] (put 3 (.d (.sl (mem.map Ba))) (put 4 (.lp 4 0) (put 10 (.gp i 0) U))) (CN 4 [.d (.sl (ds.map DE.J)),.d (.sl (fs.map FE.J))] E) V):
 AS Tzp 66 [.agg [.d (.sl (ds.map DE.J)),.d (.sl (fs.map FE.J))],dsA dt,.ms js ns 5 eSs,.d (.sl (mem.map Ba))] A Q:=by
 refine dS.go ?_;rw [Ka,dsA];(repeat' refine sQ ?_<;>simp only [AA,go_sem]);refine W.WX mixed (RNG A fs.length (.sl (ds.map DE.J)) (.sl (fs.map FE.J)) (dsA dt) (.ms js ns 5 eSs) (fun i=>put 3 (BU (mem.map Ba)) (put 4 (.lp 4 0) (put 10 (.gp i 0) U))) (CN 4 [BU (ds.map DE.J),BU (fs.map FE.J)] E)) ?_ ?_
 . simp only [go_sem];refine ⟨?_,?_,?_,?_⟩<;>
   (refine K8.mo (P:=Tzp) fs.length (by omega) (by omega) (fun a D K f f1=>?_)
    simp only [go_sem];refine ⟨?_,?_,?_⟩<;>
    (refine K8.mo (P:=Tzp) fs.length (by omega) (by omega) (fun b F u g f2=>?_)
     simp only [go_sem];refine ⟨?_,?_⟩<;>
     (refine K8.mo (P:=Tzp) fs.length (by omega) (by omega) (fun c G m j f3=>?_)
      simp only [go_sem];refine K8.mo (P:=Tzp) fs.length (by omega) (by omega) (fun d q l k f4=>?_);simp only [go_sem];intro i e;have r:=g.C _ _ f1;have s:=j.C _ _ r;have v:=k.C _ _ s;have t:=j.C _ _ f2;have w:=k.C _ _ t;have x:=k.C _ _ f3;have R:=sH f1 u;have S:=sH r m;have T:=sH s l;have Y:=sH v e;have Z:=sH f2 m;have n6:=sH t l;have n7:=sH w e;have n8:=sH f3 l;have n9:=sH x e;have N:=sH f4 e;have sb:=f.ne u;have sc:=(f.trans g).ne m;have sd:=((f.trans g).trans j).ne l;have B:=(((f.trans g).trans j).trans k).ne e;unfold RNG;refine ⟨i,_,_,_,_,⟨(((f.trans g).trans j).trans k).new e _,⟨B,?_,?_,?_,?_⟩,⟨?_,?_,?_,?_,?_,?_,?_,?_,?_,?_⟩,AFP q i _,?_,?_,?_,?_⟩,?_,?_⟩
      all_goals first
       |assumption
       |exact A5 (by assumption)
       |(rw [AD,if_neg (by assumption)];assumption)
       |simp only [go_sem])))
 . rintro F' L' V ⟨i,o,jp,p,je,n,y,z⟩;rw [y,z];exact h V i o jp p je n
section
def pcV:Option (List Nat)->I
 |none=>.Ac
 |some l=>.d (.sl (l.map Ba))
structure NGs where
 mem:List Bool
 ps:List (Option (List Nat))
 rs:List Nat
 l:List Nd
def bN (fs:List FE) (f:Nat):Nat:=((fs[f]?).map fun x=>x.params.length).getD 0
def ngS (fs:List FE) (s:NGs) (f:Nat):NGs:=
 ⟨s.mem.set f true,s.ps.set f (some (Af s.l.length (bN fs f))),s.rs.set f (s.l.length+bN fs f),L3 (E9 s.l (bN fs f)) 0 0 []⟩
def ng0 (n:Nat):NGs:=⟨AH n false,AH n none,AH n 0,[]⟩
abbrev AR6 (n:Nat) (ds fs:DV) (dt sc:I) (jm jp jr je:Nat):List I:=[.d ds,.d fs,dt,sc,.ms jm n 1 eMm,.ms jp n 1 ePp,.ms jr n 1 3,.ms je n 1 eEe,.d (.int .i64 0)]
structure NGI (A V:X) (n:Nat) (ds fs:DV) (dt sc:I) (i jm jp jr je j:Nat) (s:NGs):Prop where
 mo:Mo A V
 fr:A.C i=none/\A.C jm=none/\A.C jp=none/\A.C jr=none/\A.C je=none
 nd:i≠jm/\i≠jp/\i≠jr/\i≠je/\jm≠jp/\jm≠jr/\jm≠je/\jp≠jr/\jp≠je/\jr≠je
 sn:SN V i s.l false (AR6 n ds fs dt sc jm jp jr je) j
 bm:V.C jm=some (BP s.mem)
 bp:V.C jp=some (s.ps.map pcV)
 br:V.C jr=some (DI s.rs)
 be:V.C je=some (AH n .Ac)
 jx:s.l≠[]->A.C j=none/\jm≠j/\jp≠j/\jr≠j/\je≠j
 len:s.mem.length=n/\s.ps.length=n/\s.rs.length=n
variable {A V:X} {n:Nat} {ds fs:DV} {dt sc:I} {i jm jp jr je j:Nat} {s:NGs}
theorem NGH.start (h:NGH A V n ds fs dt sc i jm jp jr je) (j:Nat):NGI A V n ds fs dt sc i jm jp jr je j (ng0 n):=
 ⟨h.mo,h.fr,h.nd,⟨h.bi,E8.nil,fun a=>absurd rfl a⟩,by rw [h.bm,xI];rfl,by rw [h.bp,yR];simp [ng0,pcV],by rw [h.br,eV];rfl,by rw [h.be,yR],fun a=>absurd rfl a,by simp [ng0]⟩
theorem NGI.step (h:NGI A V n ds fs dt sc i jm jp jr je j s) {τ':X} {l':List Nd} {j':Nat} (v:SN τ' i l' false (AR6 n ds fs dt sc jm jp jr je) j') (fr:Fr V i s.l j τ' l' j'):NGI A τ' n ds fs dt sc i jm jp jr je j' { s with l:=l'}:=by
 obtain ⟨d1,d2,d3,d4,_⟩:=h.nd
 have f:∀k c,k≠i->(s.l≠[]->k≠j)->V.C k=some c->τ'.C k=some c/\(l'≠[]->k≠j'):=fun k c o m p=>
  ⟨by rw [fr.C k o m (by rw [p];simp),p],fr.apart m (by rw [p];simp)⟩
 have r:=f jm _ (A5 d1) (fun a=>(h.jx a).2.1) h.bm;have t:=f jp _ (A5 d2) (fun a=>(h.jx a).2.2.1) h.bp;have u:=f jr _ (A5 d3) (fun a=>(h.jx a).2.2.2.1) h.br;have q:=f je _ (A5 d4) (fun a=>(h.jx a).2.2.2.2) h.be
 have g:∀k c,A.C k=some c->τ'.C k=some c:=fun k c d=>by
  have o:k≠i:=fun e=>by rw [e,h.fr.1] at d;cases d
  have m:s.l≠[]->k≠j:=fun a e=>by rw [e,(h.jx a).1] at d;cases d
  exact (f k c o m (h.mo.C k c d)).1
 refine ⟨⟨g,D9 h.mo.nb (fr.nb2 (IW V))⟩,h.fr,h.nd,v,r.1,t.1,u.1,q.1,fun b=>⟨?_,r.2 b,t.2 b,u.2 b,q.2 b⟩,h.len⟩;rcases fr.nw b with ⟨a,e⟩|e
 . rw [e];exact (h.jx a).1
 . exact h.mo.ne e
theorem NGI.AdA (h:NGI A V n ds fs dt sc i jm jp jr je j s) (m:List Bool) (b:m.length=n):NGI A (V.AI jm (BP m)) n ds fs dt sc i jm jp jr je j { s with mem:=m}:=by
 obtain ⟨d1,d2,d3,d4,d5,d6,d7,d8,d9,d10⟩:=h.nd;exact ⟨h.mo.AS2 h.fr.2.1 _,h.fr,h.nd,h.sn.set (A5 d1) (fun a=>(h.jx a).2.1),BB,by rw [AD,if_neg (A5 d5)];exact h.bp,by rw [AD,if_neg (A5 d6)];exact h.br,by rw [AD,if_neg (A5 d7)];exact h.be,h.jx,⟨b,h.len.2⟩⟩
theorem NGI.AdB (h:NGI A V n ds fs dt sc i jm jp jr je j s) (m:List (Option (List Nat))) (b:m.length=n):NGI A (V.AI jp (m.map pcV)) n ds fs dt sc i jm jp jr je j { s with ps:=m}:=by
 obtain ⟨d1,d2,d3,d4,d5,d6,d7,d8,d9,d10⟩:=h.nd;exact ⟨h.mo.AS2 h.fr.2.2.1 _,h.fr,h.nd,h.sn.set (A5 d2) (fun a=>(h.jx a).2.2.1),by rw [AD,if_neg d5];exact h.bm,BB,by rw [AD,if_neg (A5 d8)];exact h.br,by rw [AD,if_neg (A5 d9)];exact h.be,h.jx,⟨h.len.1,b,h.len.2.2⟩⟩
theorem NGI.AS0 (h:NGI A V n ds fs dt sc i jm jp jr je j s) (m:List Nat) (b:m.length=n):NGI A (V.AI jr (DI m)) n ds fs dt sc i jm jp jr je j { s with rs:=m}:=by
 obtain ⟨d1,d2,d3,d4,d5,d6,d7,d8,d9,d10⟩:=h.nd;exact ⟨h.mo.AS2 h.fr.2.2.2.1 _,h.fr,h.nd,h.sn.set (A5 d3) (fun a=>(h.jx a).2.2.2.1),by rw [AD,if_neg d6];exact h.bm,by rw [AD,if_neg d8];exact h.bp,BB,by rw [AD,if_neg (A5 d10)];exact h.be,h.jx,⟨h.len.1,h.len.2.1,b⟩⟩
theorem AZM {l:List (Option (List Nat))} {r:Nat} (v:List Nat) (h:r < l.length):(l.map pcV).take r++[.d (.sl (v.map Ba))]++(l.map pcV).drop (r+1)=(l.set r (some v)).map pcV:=by
 induction l generalizing r with
 |nil=>cases h
 |cons x l a=>
  cases r with
  |zero=>simp [pcV]
  |succ r=>
   grind
end
def pgl (ps:List (Option (List Nat))):List (List Nat):=ps.map fun o=>o.getD []
theorem ANW (a:List (Option (List Nat))):I.C3 (a.map pcV)=psC (pgl a):=by
 induction a with
 |nil=>simp [I.C3,psC,pgl]
 |cons o a b=>
  simp only [AB,I.C3];rw [b];cases o with
  |none=>simp [pcV,pgl,psC,H6]
  |some l=>simp [pcV,pgl,psC,K6]
theorem AE9 (A:X) (fs:List FE) (ds:List DE) (dt:List Dat) (js:Nat) (ns:Nat) (mem:List Nat) (hn:fs.length<=1000) (hm:∀f∈mem,f < fs.length) (hq:mem.length<=1000) (T:∀f∈fs,f.params.length<=1000):
 AS Tzp 66 [.agg [.d (.sl (ds.map DE.J)),.d (.sl (fs.map FE.J))],dsA dt,.ms js ns 5 eSs,.d (.sl (mem.map Ba))] A (fun v H=>∃i Z jp jr je j V,v= .gp i 0/\
  NGI A V fs.length (.sl (ds.map DE.J)) (.sl (fs.map FE.J)) (dsA dt) (.ms js ns 5 eSs) i Z jp jr je j (mem.foldl (ngS fs) (ng0 fs.length))/\H=V.AI jp (psC (pgl (mem.foldl (ngS fs) (ng0 fs.length)).ps))):=by
 refine wO A fs ds dt js ns mem _ hn (fun hj i Z jp jr je h0=>?_);unfold ngR Lo;simp only [Pp];(repeat' refine wQ ?_<;>simp only [AA,go_sem])
 refine lpK (fun (z:Nat×X)=>[(31,A1 z.1)]) (fun z=>z.2)
  (fun z=>z.1<=mem.length/\((mem.take z.1).foldl (ngS fs) (ng0 fs.length)).l.length<=2000 * z.1/\∃j,NGI A z.2 fs.length (.sl (ds.map DE.J)) (.sl (fs.map FE.J)) (dsA dt) (.ms js ns 5 eSs) i Z jp jr je j ((mem.take z.1).foldl (ngS fs) (ng0 fs.length)))
  (fun z=>mem.length - z.1) ?_ (0,hj) ⟨by simp,by simp [ng0],0,h0.start 0⟩
 rintro ⟨p,V⟩ ⟨hp,h8,j,a⟩ ih;simp only at hp h8 a;by_cases h:p < mem.length
 . obtain ⟨f,hf⟩:=Ak h;have h6:=H5 hf;have g:=hm f (AE hf);have hd:=wS p
   have ha:(mem.take (p+1)).foldl (ngS fs) (ng0 fs.length)=ngS fs ((mem.take p).foldl (ngS fs) (ng0 fs.length)) f:=by
    rw [Aa hf,Cv];rfl
   generalize (mem.take p).foldl (ngS fs) (ng0 fs.length)=s at *;obtain ⟨fe,G⟩:=Ak g;have F:=Au (J:=FE.J) G;have hb:=T fe (AE G);have U:bN fs f=fe.params.length:=by simp [bN,G]
   obtain ⟨fn,k,o,n,u,hr,ks,al⟩:=fe;simp only [FE.J,Ex.A6] at F hb U;have d:=ltT g;have h3:=a.sn.C;have h4:=a.bm;obtain ⟨c1,c2,c3,c4,c5⟩:=AE8 s.l j;have Q:(f+1<=(BP s.mem).length)=True:=by rw [Tr,a.len.1];simp;omega
   have Y:=oW true (show f < s.mem.length by rw [a.len.1];exact g);have b:=a.AdA (s.mem.set f true) (by simp [a.len.1]);(repeat' refine sQ ?_<;>simp only [BI h,h6,h3,h4,d,Ag,Q,Y,go_sem]);generalize V.AI Z (BP (s.mem.set f true))=hk at b ⊢;have q:=b.sn.C;have y:=b.bp;simp only at q y;have R:(f+1<=(s.ps.map pcV).length)=True:=by rw [AA,a.len.2.1];simp;omega
   have S:(f+1<=(DI s.rs).length)=True:=by rw [sG,a.len.2.2];simp;omega
   have N:=AZM (Af s.l.length k.length) (show f < s.ps.length by grind);have P:=eM (l:=s.rs) (v:=s.l.length+k.length) (show f < s.rs.length by rw [a.len.2.2];exact g);have h5:=LC s.l k.length;refine W.Gs mixed ?_;simp only [q,F,AA,go_sem];refine ⟨?_,?_⟩<;>
   (refine AN.mk rfl (Dr i j s.l false _ hk k.length b.sn (by omega) (by omega)) ?_
    rintro _ hl ⟨rfl,j2,he,h1⟩;have K:=b.step he h1;have r:=K.sn.C;have B:=K.bp;simp only at r B;have c:=K.AdB (s.ps.set f (some (Af s.l.length k.length))) (by simp [a.len.2.1]);simp only [r,B,d,Ag,R,N,go_sem];generalize hl.AI jp ((s.ps.set f (some (Af s.l.length k.length))).map pcV)=ho at c ⊢;have w:=c.sn.C;have D:=c.br;simp only at w D;refine W.Gs mixed ?_;simp only [w,go_sem];refine ⟨?_,?_⟩<;>
    (refine AN.mk rfl (Fv i j2 (E9 s.l k.length) false _ ho c.sn (by omega)) ?_
     rintro _ hs ⟨rfl,j4,hi,h2⟩;have L:=c.step hi h2;have x:=L.sn.C;have E:=L.br;simp only at x E;have h7:=L.AS0 (s.rs.set f (s.l.length+k.length)) (by simp [a.len.2.2]);rw [h5];simp only [nA];simp only [x,E,d,Ag,S,P,go_sem];(repeat' refine wQ ?_<;>simp only [hd,go_sem]);refine ih ⟨p+1,_⟩ ⟨h,?_,j4,?_⟩ (by simp only;omega)
     . grind [ngS,Hh]
     . simp only [ha,ngS,U];exact h7))
 . have h9:p=mem.length:=by omega
   subst h9;rw [Ar] at a;(repeat' refine wQ ?_<;>simp only [B5 h,go_sem]);refine W.AF6 (H:=V.AI jp (psC (pgl (mem.foldl (ngS fs) (ng0 fs.length)).ps))) (fun m cs' hc=>?_) (fun t ht=>ht) ?_
   . rw [AD] at hc;split at hc
     . rename_i e;subst e;cases hc;exact ⟨_,a.bp,.inr (ANW _).symm⟩
     grind
   (repeat' refine wP ?_<;>simp only [go_sem])
   grind
abbrev eTy:Nat:=42
theorem AVY {c:List Nd} {r:Nat} (h:c[r]?=some y):((ndC c).drop (r * 4)).take 3=[.d (.int .i64 y.k),.d (.int .i64 y.n),.d (.sl (y.ar.map Ba))]:=by
 obtain ⟨a,b,d,_⟩:=TR h;refine Dw fun m=>?_
 grind
def smE (es:List (Int×Int)):Prop:=∀n x,es.lookup n=some x->0<=x/\x<=1000000000
def RdC (i:Nat) (rest:List I) (l:List Nd) (es:List (Int×Int)) (n:Nat):Prop:=∀(fl:Bool) (j t:Nat) (A:X),SN A i l fl rest j->A.tok t=true->
 AS Tzp 133 [.gp i 0,nA n,.om t (mI es)] A (SNQ A i l rest j (l,fl) (tyA (rdN l es n)))
def RdQ (A:X) (i:Nat) (l:List Nd) (fl:Bool) (rest:List I) (j:Nat) (es:List (Int×Int)) (us:List Nat) (v:I) (H:X):Prop:=
 Bn (nbH A) eTy 3 ((us.map (rdN l es)).map Ty.J) v H/\∃j',SN H i l fl rest j'/\Fr A i l j H l j'
theorem Qh (i:Nat) (rest:List I) (l:List Nd) (es:List (Int×Int)) (us:List Nat) (y:∀u∈us,RdC i rest l es u) (F:us.length<=900000000) (fl:Bool) (j t:Nat) (A:X) (h:SN A i l fl rest j) (E:A.tok t=true):
 AS Tzp 132 [.gp i 0,.d (.sl (us.map Ba)),.om t (mI es)] A (RdQ A i l fl rest j es us):=by
 have e:A.C i≠none:=by rw [h.C];simp
 refine Uf.go ?_;(repeat' refine wQ ?_<;>simp only [AA,go_sem])
 refine lpK (fun (z:Nat×I×X)=>[(12,A1 z.1),(7,z.2.1)]) (fun z=>z.2.2)
  (fun z=>z.1<=us.length/\Bn (nbH A) eTy 3 (((us.take z.1).map (rdN l es)).map Ty.J) z.2.1 z.2.2/\∃j',SN z.2.2 i l fl rest j'/\Fr A i l j z.2.2 l j')
  (fun z=>us.length - z.1) ?_ (0,.Ac,A) ⟨by simp,by simpa using ANU eTy 3,j,h,Fr.refl A i l j⟩
 rintro ⟨p,v,V⟩ ⟨D,c,j',m,f⟩ G;simp only at D c m f;by_cases b:p < us.length
 . obtain ⟨u,q⟩:=Ak b;have B:=H5 q;have r:=wS p;have w:=y u (AE q) fl j' t V m (f.tok t E);have o:(us.take (p+1)).map (rdN l es)=(us.take p).map (rdN l es)++[rdN l es u]:=by rw [Aa q,A4];rfl
   generalize rdN l es u=T at *;obtain ⟨k,n,ts⟩:=T;simp only [nA,Ty.J,tyA,AB,AJ] at w;(repeat' refine sQ ?_<;>simp only [BI b,B,go_sem]);refine AN.mk rfl w ?_;rintro _ N ⟨rfl,K,x,f1⟩;simp only [go_sem];refine DH.own (c.fr f1) rfl (by simp) (by simp;omega) (by omega) (fun L s a d=>?_);(repeat' refine sQ ?_<;>simp only [r,go_sem]);refine G ⟨p+1,L,s⟩ ⟨b,?_,K,?_,?_⟩ (by simp only;omega)
   . simp only [o];rw [A4];exact a
   . exact x.own d
   . exact (f.trans f1 e).own d a.le
 . have g:p=us.length:=by omega
   subst g;rw [Ar] at c;(repeat' refine wR ?_<;>simp only [B5 b,c.w4,go_sem]);exact ⟨c,j',m,f⟩
theorem AWC (i:Nat) (rest:List I) (l:List Nd) (es:List (Int×Int)) (P:smE es) (d:Nat->Nat) (L:FR l d) (Q:l.length<=900000000):∀(N n:Nat),d (rtN l n)<=N->n < l.length->(szN l n<=200\/∃x,l[rtN l n]?=some x/\x.k=0)->RdC i rest l es n:=by
 intro N
 induction N using DK with
 |ind N Y=>
 intro n h0 hn T fl j t A h ht;have E:l≠[]:=fun e=>by grind
 have D:A.C i≠none:=by rw [h.C];simp
 obtain ⟨x,B,w⟩:=h.Gn.root hn;have S:=(AG.1 B).1;have heq:=bR (es:=es) h.Gn L B w
 have f:x.k≠0->x.ar.length<=199/\∀a∈x.ar,RdC i rest l es a:=fun b=>by
  have hs:szN l n<=200:=T.resolve_right fun ⟨y,U,e⟩=>by grind
  have hk:=tM h.Gn L B w hs;refine ⟨hk.1,fun a K=>?_⟩;have z:=L.lt _ x B w a K;exact Y (d (rtN l a)) (by omega) a (AW _) (h.Gn.ar _ x B a K) (.inl (hk.2 a K))
 refine YG.go ?_;rw [DN];simp only [nA];(repeat' refine sQ ?_<;>simp only [eF,go_sem]);refine AN.mk rfl (Gt i j l fl rest A n h hn Q) ?_;rintro _ σ1 ⟨rfl,Z,z,f1⟩;simp only [nA];generalize hr:rtN l n=r at *;obtain ⟨h3,c,F,p⟩:=z.nd E;have k:=z.C;rw [Ef E] at k;obtain ⟨y,U,yk,yn,ya⟩:=F.at B;obtain ⟨y1,y2,y3,y4⟩:=TR U;rw [yk] at y1;rw [yn] at y2;rw [ya] at y3;have s:=ltT S;have g:(r * 4+3<=(ndC c).length)=True:=by grind
 have u:=f1.tok t ht;have o:=AVY U;rw [yk,yn,ya] at o;by_cases b:x.k=0
 . have G:(x.k==0)=true:=by simpa using b
   rw [heq,if_pos b];cases q:es.lookup (r:Int) with
   |some m=>
    have hm:=P _ _ q;(repeat' refine sQ ?_<;>simp only [k,p,s,g,o,G,eF,go_sem]);refine XEx.AbS u hm q ?_;(repeat' refine sP ?_<;>simp only [go_sem]);exact ⟨rfl,Z,z,f1⟩
   |none=>
    (repeat' refine sQ ?_<;>simp only [k,p,s,g,o,G,eF,go_sem]);refine XEx.AbR u q ?_;(repeat' refine sP ?_<;>simp only [go_sem]);exact ⟨rfl,Z,z,f1⟩
 . have G:(x.k==0)=false:=by simpa using b
   obtain ⟨h4,f⟩:=f b;rw [heq,if_neg b];(repeat' refine sQ ?_<;>simp only [k,p,s,g,o,G,eF,go_sem]);refine AN.mk rfl (Qh i rest l es x.ar f (by omega) fl Z t σ1 z u) ?_;rintro v σ2 ⟨R,j2,h2,f2⟩;simp only [R.w4,go_sem];(repeat' refine wP ?_<;>simp only [R.plain,go_sem]);exact ⟨by simp only [Ty.BQ],j2,h2,f1.trans f2 D⟩
def sK (vs:List Nat) (k:Nat):List (Int×Int):=(vs.zipIdx k).map fun p=>((p.1:Int),(p.2:Int))
def DW (vs:List Nat):List (Int×Int):=sK vs 0
theorem Yt (v:Nat) (vs:List Nat) (k:Nat):sK (v::vs) k=((v:Int),(k:Int))::sK vs (k+1):=by simp [sK,List.zipIdx_cons]
theorem yT (v:Nat):∀(vs:List Nat) (k:Nat),sK (vs++[v]) k=sK vs k++[((v:Int),((k+vs.length:Nat):Int))]
 |[],k=>by simp [sK]
 |u::vs,k=>by
  rw [AU,Yt,yT v vs (k+1),Yt,AU];simp only [AT];rw [show k+1+vs.length=k+(vs.length+1) from by omega]
theorem ANS (v:Nat) (vs:List Nat):DW (vs++[v])=DW vs++[((v:Int),(vs.length:Int))]:=by
 rw [DW,yT];simp [DW]
theorem AFC (vs:List Nat):(DW vs).length=vs.length:=by simp [DW,sK]
theorem yS {v:Nat}:∀ {vs:List Nat} (k:Nat),v ∉ vs->(sK vs k).lookup (v:Int)=none
 |[],k,_=>rfl
 |u::vs,k,h=>by
  rw [Yt,List.lookup_cons]
  have a:((v:Int)==(u:Int))=false:=by
   have:v≠u:=fun e=>h (by rw [e];exact AY);rw [beq_eq_false_iff_ne];omega
  rw [a];exact yS (k+1) fun b=>h (AZ _ b)
theorem yU {n:Int} {x:Int}:∀ {vs:List Nat} {k:Nat},(sK vs k).lookup n=some x->∃i:Nat,x=((k+i:Nat):Int)/\∃v,vs[i]?=some v/\n=(v:Int)
 |[],k,h=>by simp [sK] at h
 |u::vs,k,h=>by
  rw [Yt,List.lookup_cons] at h;by_cases e:n=(u:Int)
  . subst e
    grind
  . have:(n==(u:Int))=false:=by simpa using e
    rw [this] at h;obtain ⟨i,c,v,a,b⟩:=yU h;exact ⟨i+1,by omega,v,by simpa using a,b⟩
theorem jN {n x:Int} (h:(DW vs).lookup n=some x):∃i:Nat,x=(i:Int)/\∃v,vs[i]?=some v/\n=(v:Int):=by
 obtain ⟨i,a,b⟩:=yU h
 grind
theorem ANR (h:v ∉ vs):(DW vs).lookup (v:Int)=none:=yS 0 h
structure UI (l:List Nd) (N:Nat) (s:List Bool×List Nat):Prop where
 nd:s.2.Nodup
 sn:∀r∈s.2,s.1[r]?=some true
 rt:∀r∈s.2,∃x,l[r]?=some x/\x.p=r/\x.k=0
 bd:s.2.length+fz s.1<=N
theorem AF2 {l:List Nd} {N:Nat} (m:E8 l):∀(k:Nat) (s:List Bool×List Nat) (n:Nat),s.1.length=l.length->n < l.length->UI l N s->UI l N (JT l k s n)/\(JT l k s n).1.length=l.length
 |0,s,n,i,_,h=>⟨h,i⟩
 |k+1,s,n,i,y,h=>by
  rw [JT];obtain ⟨x,t,z⟩:=m.root y;split
  . rename_i j;have D:=AHX j;have f:rtN l n < s.1.length:=(AG.1 j).1
    have w:∀(us:List Nat) (q:List Bool×List Nat),(∀a∈us,a < l.length)->q.1.length=l.length->UI l N q->UI l N (us.foldl (fun s a=>JT l k s a) q)/\(us.foldl (fun s a=>JT l k s a) q).1.length=l.length:=by
     intro us
     induction us with
     |nil=>intro q _ p h;exact ⟨h,p⟩
     |cons a us B=>
      intro q u p h;rw [BD];have:=AF2 m k q a p (u a (AY)) h;exact B _ (fun b g=>u b (AZ _ g)) this.2 this.1
    simp only [t,Ap,BH];refine w _ _ (m.ar _ x t) (by simp [i]) ?_
    have d:∀r∈s.2,(s.1.set (rtN l n) true)[r]?=some true:=fun r c=>by
     by_cases e:rtN l n=r
     . rw [<- e,Bq f]
     . rw [Bv e];exact h.sn r c
    split
    . rename_i o;have o:x.k=0:=by simpa using o
      refine ⟨?_,fun r c=>?_,fun r c=>?_,by simp only [A0,Ci];have:=h.bd;omega⟩
      . refine Tj.2 ⟨h.nd,by simp,fun a v b g=>?_⟩;simp only [A9] at g;subst g;intro e;subst e;have:=h.sn _ v;rw [j] at this;cases this
      . rcases A2.1 c with c|c
        . exact d r c
        . simp only [A9] at c;subst c;exact Bq f
      . rcases A2.1 c with c|c
        . exact h.rt r c
        . simp only [A9] at c;subst c;exact ⟨x,t,z,o⟩
    . exact ⟨h.nd,d,h.rt,by simp only;have:=h.bd;omega⟩
  . exact ⟨h,i⟩
theorem tQ {l:List Nd} (d:E8 l) (c:∀a∈ts,a < l.length):(AF0 l ts).Nodup/\(AF0 l ts).length<=l.length/\∀r∈AF0 l ts,∃x,l[r]?=some x/\x.p=r/\x.k=0:=by
 have b:∀(us:List Nat) (q:List Bool×List Nat),(∀a∈us,a < l.length)->q.1.length=l.length->UI l l.length q->UI l l.length (us.foldl (fun s a=>JT l (l.length+1) s a) q):=by
  intro us
  induction us with
  |nil=>grind
  |cons a us e=>
   grind [AF2,AY,AZ]
 have:=b ts (AH l.length false,[]) c (by simp) ⟨by simp,by simp,by simp,by grind [AHW,A8]⟩;exact ⟨this.nd,by have:=this.bd;unfold AF0;omega,this.rt⟩
section
theorem W.Ac8 {KK:I->X->Prop} {k:List CI} {L L':Lm} {A:X} (t:∀q cs',L' q=some cs'->∃cs,L q=some cs/\(cs'=cs\/cs'=I.C3 cs)) (h:W cx KK k F L' A):W cx KK k F L A:=by
 intro d base g lam o a D w b f j c u y;refine h d base g lam o a D w b f j ⟨c.tm,c.sz,c.df,fun q cs' z=>?_,c.inj,c.npr,c.rel⟩ u y;obtain ⟨cs,x,n⟩:=t q cs' z;obtain ⟨e,p,vs,ty,l,r,s,m⟩:=c.loc q cs x;refine ⟨?_,p,vs,ty,l,r,s,?_⟩
 . rcases n with rfl|rfl
   . exact e
   . simp only [BA,Ao] at e ⊢;intro v B;obtain ⟨i,E,rfl⟩:=CJ B;have l:=NL cs i
     grind [An,AP,bO,AE]
 . rcases n with rfl|rfl
   . exact m
   . exact m.plain
structure TX (B:GB) (ext:Nat->Option (List I)) (l:List Nd) (fl:Bool) (j:Nat) (V:X):Prop where
 sn:SN V B.i l fl B.rest j
 x:∀k cs,ext k=some cs->V.C k=some cs
 xi:ext B.i=none
 xj:ext j=none
variable {B:GB} {ext:Nat->Option (List I)} {l:List Nd} {fl:Bool} {j j':Nat} {V τ':X}
theorem TX.step (d:l≠[]) (h:TX B ext l fl j V) (g:SN τ' B.i l fl B.rest j') (fr:Fr V B.i l j τ' l j'):TX B ext l fl j' τ':=by
 have f:∀k cs,ext k=some cs->τ'.C k=some cs:=fun k cs a=>by
  have b:=h.x k cs a;rw [fr.C k (fun e=>by rw [e,h.xi] at a;cases a) (fun _ e=>by rw [e,h.xj] at a;cases a) (by rw [b];simp),b]
 refine ⟨g,f,h.xi,?_⟩;rcases fr.nw d with ⟨_,e⟩|e
 . rw [e];exact h.xj
 . cases c:ext j' with
   |none=>rfl
   |some cs=>rw [h.x _ _ c] at e;cases e
theorem TX.own (h:TX B ext l fl j V) (a:∀k,τ'.C k=V.C k):TX B ext l fl j τ':=⟨h.sn.own a,fun k cs b=>by rw [a];exact h.x k cs b,h.xi,h.xj⟩
structure RF (B:GB) (ext:Nat->Option (List I)) (l:List Nd) (f jc:Nat) (es:List I) (pl:List Nat) (rf:Nat) (en:List En):Prop where
 xm:ext B.jm=some (BP B.G.mem)
 xp:ext B.jp=some (psC B.G.ps)
 xr:ext B.jr=some (DI B.G.rs)
 xe:ext B.je=some es
 hes:es.length=B.es.length
 xc:en≠[]->ext jc=some (enC en)
 hpl:B.G.ps[f]?=some pl
 hrf:B.G.rs[f]?=some rf
 hen:es[f]?=some (enV en jc)
 ln:en.length<=900000000
 ps:∀q∈B.G.ps,q.length<=1000/\∀a∈q,a < l.length
 rs:∀a∈B.G.rs,a < l.length
 lm:B.G.mem.length=B.G.fs.length
 lp:B.G.ps.length=B.G.fs.length
 lr:B.G.rs.length=B.G.fs.length
 ent:∀x∈en,x.t < l.length/\-1<=x.f/\x.f < (B.G.fs.length:Int)/\∀a∈x.ar,a < l.length
 szp:∀a∈pl,szN l a<=200
 szr:szN l rf<=200
 sze:∀x∈en,szN l x.t<=200/\∀a∈x.ar,szN l a<=200
 la:∀x∈en,x.ar.length<=900000000
def sF (G:GC) (l:List Nd) (e:En):List Nat:=if 0<=e.f/\G.mem.getD e.f.toNat false=true then DX l (G.ps.getD e.f.toNat []) (G.rs.getD e.f.toNat 0) else e.ar
def PN (G:GC) (l:List Nd) (es:List (Int×Int)) (e:En):Ty×List Ty:=(rdN l es e.t,(sF G l e).map (rdN l es))
def Cf (n:Ty×List Ty):List DV:=n.1.J++[.sl (n.2.map Ty.J)]
def Ro (l:List Nd) (es:List (Int×Int)) (pl:List Nat) (rf n:Nat):Sch:=⟨(n:Int),pl.map (rdN l es),rdN l es rf⟩
abbrev eNt:Nat:=105
def ASW (B:GB) (l:List Nd) (pl:List Nat) (rf:Nat) (en:List En):I:=
 .tup [.agg (Sch.row (Ro l (DW (DX l pl rf)) pl rf (DX l pl rf).length)),.d (.sl ((en.map (PN B.G l (DW (DX l pl rf)))).map Cf))]
theorem ASB {l:List Nd} (h:vs.length<=900000000):smE (DW vs):=fun n x a=>by
 grind [jN,AG]
def AIW (l:List Nd) (es:List (Int×Int)) (us:List Nat):List (List DV):=(us.map (rdN l es)).map Ty.J
def RSG (B:GB) (ext:Nat->Option (List I)) (l:List Nd) (τ0:X) (t:Nat) (rows:List (List DV)) (F0:Fm) (L0:I->Lm) (fl:Bool) (F:Fm) (L:Lm) (V:X):Prop:=
 ∃v j,v.plain= .d (.sl rows)/\Ee [0,1,4,6,9] F=F0/\GK [0,1,4,6,9] L=L0 v/\(nbH τ0).le V/\V.tok t=true/\TX B ext l fl j V
theorem ABQ (B:GB) (ext:Nat->Option (List I)) (l:List Nd) (fl:Bool) (f jc:Nat) (es:List I) (pl:List Nat) (rf:Nat) (en:List En) (h:RF B ext l f jc es pl rf en) (y:l≠[]) (hln:l.length<=900000000)
 (nm:List (Int×Int)) (hk:∀n,n < l.length->(szN l n<=200\/∃x,l[rtN l n]?=some x/\x.k=0)->RdC B.i B.rest l nm n)
 (fs:∀(g:Nat) (q:List Nat) (r:Nat),B.G.ps[g]?=some q->B.G.rs[g]?=some r->∀j' τ',TX B ext l fl j' τ'->AS Tzp 131 [.gp B.i 0,.d (.int .i64 (g:Int))] τ' (SNQ τ' B.i l B.rest j' (l,fl) (.d (.sl ((DX l q r).map Ba)))))
 (sc:∀(g:Nat) (q:List Nat) (r:Nat),B.G.ps[g]?=some q->B.G.rs[g]?=some r->(DX l q r).Nodup/\(DX l q r).length<=l.length/\∀u∈DX l q r,∃x,l[u]?=some x/\x.p=u/\x.k=0)
 (c0 c1 c2 c3 c4:DV) (ds d:X) (j1 t:Nat) (ns:(nbH ds).le d) (ht:d.tok t=true) (i:TX B ext l fl j1 d) (Q:I->X->Prop)
 (hQ:∀H j',(nbH ds).le H->TX B ext l fl j' H->Q (.tup [.agg [.d c0,.d c1,.d c2,.d c3,.d c4],.d (.sl ((en.map (PN B.G l nm)).map Cf))]) H):
 W F6 Q [.code (.loop KC),.C 2,.code (.seq (.reg [⟨some 104,.ldl (.t 9) (some 5),none⟩,⟨some 105,.mv (.t 10),none⟩,⟨none,.st (.t 4) (.t 104) 5,none⟩,⟨some 5,.mv (.t 105),none⟩] [4,5]) .ret)]
  (put 0 (.gp B.i 0) (put 4 (.lp 4 0) (put 6 (.om t (mI nm)) (put 9 (.lp 9 0) (put 10 .Ac (put 61 (enV en jc) (put 62 (.d (.int .i64 en.length)) (put 63 (.d (.int .i64 0)) U))))))))
  (CN 4 [.d (.int .i64 0),.Ac,.d (.int .i64 0),.d (.int .i64 0),.Ac] (CN 9 [.d c0,.d c1,.d c2,.d c3,.d c4] E)) d:=by
 have look:∀j' τ',TX B ext l fl j' τ'->(τ'.C B.i=some (.ms j' l.length 4 tkN::D1 fl::[BU (B.ds.map DE.J),BU (B.G.fs.map FE.J),dsA B.G.dt,.ms B.js B.G.sch.length 5 eSs,.ms B.jm B.G.mem.length 1 eMm,.ms B.jp B.G.ps.length 1 ePp,.ms B.jr B.G.rs.length 1 3,.ms B.je B.es.length 1 eEe,A1 B.cur]))/\
  τ'.C B.jm=some (BP B.G.mem):=fun j' τ' hx=>
  ⟨by rw [hx.sn.C,Ef y];rfl,hx.x _ _ h.xm⟩
 have hbi0:∀j' τ',TX B ext l fl j' τ'->τ'.C B.i≠none:=fun j' τ' hx=>by grind
 obtain ⟨q1,q2,q3,q4,q5⟩:=U0 en jc;have hlen:=h.ln;obtain ⟨τs,h4⟩:∃x,x=d:=⟨_,rfl⟩;rw [<- h4] at ns ht
 refine lpK (fun (z:Nat×I×X)=>[(63,A1 z.1),(10,z.2.1)]) (fun z=>z.2.2)
  (fun z=>z.1<=en.length/\Bn (nbH τs) eNt 4 (((en.take z.1).map (PN B.G l nm)).map Cf) z.2.1 z.2.2/\∃j',TX B ext l fl j' z.2.2)
  (fun z=>en.length - z.1) ?_ (0,.Ac,d) ⟨by simp,by rw [h4];simpa using ANU (A:=d) eNt 4,j1,i⟩
 clear h4 i d j1;rintro ⟨p,v,d⟩ ⟨hp,k,j1,i⟩ ih;simp only at hp k i;by_cases j:p < en.length
 . obtain ⟨e,he⟩:=Ak j;have hi:=AE he;have al:en≠[]:=fun e=>by grind
   have hv:=Xf al jc;rw [hv] at ih ⊢;have hg:=i.x _ _ (h.xc al);have hf:=YZ En.row 3 En.Bj he;have hl:(p * 3+3<=(enC en).length)=True:=by grind [Dd,En.row,En.Bj]
   have hj:=ltT j;have hm:=wS p;have P:=h.ent e hi;have R:=h.sze e hi;have Z:=h.la e hi;have S:(en.take (p+1)).map (PN B.G l nm)=(en.take p).map (PN B.G l nm)++[PN B.G l nm e]:=by rw [Aa he,A4];rfl
   have hd:PN B.G l nm e=(rdN l nm e.t,(sF B.G l e).map (rdN l nm)):=rfl;have L:=hk e.t P.1 (.inl R.1);unfold RdC at L;rw [sF] at hd;obtain ⟨et,ef,hn⟩:=e;simp only [En.row] at hf P R hd L Z;rw [hd] at S;clear hd;generalize rdN l nm et=T at S L;obtain ⟨Tk,Tn,Tu⟩:=T;simp only [tyA,Ty.J,Ty.BQ,AB,AJ] at L;obtain ⟨k1,k2⟩:=look j1 d i;by_cases h0:0<=ef
   . have hb:decide (ef>=0)=true:=decide_eq_true h0;have N:decide (0<=ef)=true:=decide_eq_true h0;obtain ⟨m,rfl⟩:=E0 h0;have hc:m < B.G.mem.length:=by rw [h.lm];omega
     obtain ⟨mb,hmb⟩:=Ak hc;have ks:=oV hmb;have hy:=ltT hc;have cs:B.G.mem.getD m false=mb:=by grind
     simp only [BX,cs] at S;cases mb with
     |true=>
      obtain ⟨q,hq⟩:=Ak (show m < B.G.ps.length by rw [h.lp,<- h.lm];exact hc);obtain ⟨r,hr⟩:=Ak (show m < B.G.rs.length by rw [h.lr,<- h.lm];exact hc);obtain ⟨un,ul,ur⟩:=sc m q r hq hr;rw [if_pos ⟨h0,rfl⟩,show B.G.ps.getD m []=q by simp [hq],show B.G.rs.getD m 0=r by simp [hr]] at S;(repeat' refine wQ ?_<;>simp only [hg,hf,hl,hj,k.w4,k1,k2,ks,hy,Ag,go_sem]);refine AN.mk rfl (fs m q r hq hr j1 d i) ?_;rintro _ h7 ⟨rfl,j2,sn2,hs⟩;have G:=i.step y sn2 hs;have D:=k.fr hs;simp only [go_sem];(repeat' refine wQ ?_<;>simp only [go_sem]);generalize DX l q r=us at *;have h1:us.length<=900000000:=by omega
      have h2:∀a∈us,RdC B.i B.rest l nm a:=fun a ha=>by
       grind [AG,Iq]
      refine AN.mk rfl (L fl j2 t h7 G.sn (D.le.tok t ht)) ?_;rintro _ h8 ⟨rfl,j3,h5,o⟩;have K:=G.step y h5 o;have F:=D.fr o;simp only [go_sem];refine AN.mk rfl (Qh B.i B.rest l nm us h2 h1 fl j3 t h8 K.sn (F.le.tok t ht)) ?_;rintro w vs ⟨b,j4,h6,s⟩;have h3:=K.step y h6 s;simp only [b.cells,b.cell,b.dv,go_sem];refine DH.own (F.fr s) rfl (by simp) (by simp;omega) (by omega) (fun v' h9 c Y=>?_);(repeat' refine wQ ?_<;>simp only [hm,go_sem]);refine ih ⟨p+1,v',h9⟩ ⟨j,?_,j4,h3.own Y⟩ (by grind)
      grind [Cf,Ty.J,Ty.BQ]
     |false=>
      rw [if_neg (by simp)] at S;(repeat' refine wQ ?_<;>simp only [hg,hf,hl,hj,k.w4,k1,k2,ks,hy,Ag,go_sem]);generalize d=h7,j1=j2 at *;have G:=i;have D:=k;generalize hn=us at *;have h1:us.length<=900000000:=Z;have h2:∀a∈us,RdC B.i B.rest l nm a:=fun a ha=>hk a (P.2.2.2 a ha) (.inl (R.2 a ha));refine AN.mk rfl (L fl j2 t h7 G.sn (D.le.tok t ht)) ?_;rintro _ h8 ⟨rfl,j3,h5,o⟩;have K:=G.step y h5 o;have F:=D.fr o;simp only [go_sem];refine AN.mk rfl (Qh B.i B.rest l nm us h2 h1 fl j3 t h8 K.sn (F.le.tok t ht)) ?_;rintro w vs ⟨b,j4,h6,s⟩;have h3:=K.step y h6 s;simp only [b.cells,b.cell,b.dv,go_sem];refine DH.own (F.fr s) rfl (by simp) (by simp;omega) (by omega) (fun v' h9 c Y=>?_);(repeat' refine wQ ?_<;>simp only [hm,go_sem]);refine ih ⟨p+1,v',h9⟩ ⟨j,?_,j4,h3.own Y⟩ (by grind)
      grind [Cf,Ty.J,Ty.BQ]
   . have hb:decide (ef>=0)=false:=decide_eq_false h0;have N:decide (0<=ef)=false:=decide_eq_false h0;rw [if_neg (fun e=>h0 e.1)] at S;(repeat' refine wQ ?_<;>simp only [hg,hf,hl,hj,k.w4,hb,go_sem]);generalize d=h7,j1=j2 at *;have G:=i;have D:=k;generalize hn=us at *;have h1:us.length<=900000000:=Z;have h2:∀a∈us,RdC B.i B.rest l nm a:=fun a ha=>hk a (P.2.2.2 a ha) (.inl (R.2 a ha));refine AN.mk rfl (L fl j2 t h7 G.sn (D.le.tok t ht)) ?_;rintro _ h8 ⟨rfl,j3,h5,o⟩;have K:=G.step y h5 o;have F:=D.fr o;simp only [go_sem];refine AN.mk rfl (Qh B.i B.rest l nm us h2 h1 fl j3 t h8 K.sn (F.le.tok t ht)) ?_;rintro w vs ⟨b,j4,h6,s⟩;have h3:=K.step y h6 s;simp only [b.cells,b.cell,b.dv,go_sem];refine DH.own (F.fr s) rfl (by simp) (by simp;omega) (by omega) (fun v' h9 c Y=>?_);(repeat' refine wQ ?_<;>simp only [hm,go_sem]);refine ih ⟨p+1,v',h9⟩ ⟨j,?_,j4,h3.own Y⟩ (by grind)
     grind [Cf,Ty.J,Ty.BQ]
 . have hpe:p=en.length:=by omega
   subst hpe;rw [Ar] at k;(repeat' refine wP ?_<;>simp only [B5 j,k.w4,k.plain,go_sem]);exact hQ d j1 (D9 ns k.le) i
theorem AN6 (B:GB) (ext:Nat->Option (List I)) (l:List Nd) (d:Nat->Nat) (hd:FR l d) (fl:Bool) (j:Nat) (V:X) (f jc:Nat) (es:List I) (D:List Nat) (m:Nat) (en:List En) (h:RF B ext l f jc es D m en) (o:TX B ext l fl j V) (w:l≠[]) (h5:l.length<=900000000):
 AS Tzp 71 [.gp B.i 0,.d (.int .i64 (f:Int))] V (fun v H=>v=ASW B l D m en/\(nbH V).le H/\∃j',TX B ext l fl j' H):=by
 have hbi0:∀τ',TX B ext l fl j τ'->τ'.C B.i≠none:=fun τ' o=>by rw [o.sn.C];simp
 have hf:=h.ps D (AE h.hpl);have hg:=h.rs m (AE h.hrf);have h4:=o.sn.Gn
 have look:∀j' τ',TX B ext l fl j' τ'->(τ'.C B.i=some (.ms j' l.length 4 tkN::D1 fl::[BU (B.ds.map DE.J),BU (B.G.fs.map FE.J),dsA B.G.dt,.ms B.js B.G.sch.length 5 eSs,.ms B.jm B.G.mem.length 1 eMm,.ms B.jp B.G.ps.length 1 ePp,.ms B.jr B.G.rs.length 1 3,.ms B.je B.es.length 1 eEe,A1 B.cur]))/\
  τ'.C B.jm=some (BP B.G.mem)/\τ'.C B.jp=some (psC B.G.ps)/\τ'.C B.jr=some (DI B.G.rs)/\τ'.C B.je=some es:=fun j' τ' o=>
  ⟨by rw [o.sn.C,Ef w];rfl,o.x _ _ h.xm,o.x _ _ h.xp,o.x _ _ h.xr,o.x _ _ h.xe⟩
 have Y:∀(g:Nat) (q:List Nat) (r:Nat),B.G.ps[g]?=some q->B.G.rs[g]?=some r->∀j' τ',TX B ext l fl j' τ'->AS Tzp 131 [.gp B.i 0,A1 g] τ' (SNQ τ' B.i l B.rest j' (l,fl) (BU ((DX l q r).map Ba))):=fun g q r P hr j' τ' o=>
  AB5 B l fl j' τ' g q r w h5 o.sn (o.x _ _ h.xp) (o.x _ _ h.xr) P hr (h.ps q (AE P)).1 (h.ps q (AE P)).2 (h.rs r (AE hr))
 have S:∀(g:Nat) (q:List Nat) (r:Nat),B.G.ps[g]?=some q->B.G.rs[g]?=some r->(DX l q r).Nodup/\(DX l q r).length<=l.length/\∀u∈DX l q r,∃x,l[u]?=some x/\x.p=u/\x.k=0:=fun g q r P hr=>tQ h4 fun a L=>by
  rcases A2.1 L with L|L
  . exact (h.ps q (AE P)).2 a L
  . simp only [A9] at L;subst L;exact h.rs _ (AE hr)
 obtain ⟨hnd,hvl,hvr⟩:=S f D m h.hpl h.hrf
 have h7:∀n,n < l.length->(szN l n<=200\/∃x,l[rtN l n]?=some x/\x.k=0)->RdC B.i B.rest l (DW (DX l D m)) n:=fun n hn hs=>
  AWC B.i B.rest l _ (ASB (l:=l) (by omega)) d hd h5 (d (rtN l n)) n (AW _) hn hs
 have hroot:∀u x,l[u]?=some x->x.p=u->x.k=0->u < l.length/\∃x,l[rtN l u]?=some x/\x.k=0:=fun u x hu hp hk=>⟨(AG.1 hu).1,x,by rw [Iq hu,hp];exact hu,hk⟩;have hvc:=fun j' τ' o=>Y f D m h.hpl h.hrf j' τ' o;rw [ASW];generalize hvs:DX l D m=vs at *;refine Wx.go ?_;(repeat' refine wQ ?_<;>simp only [go_sem]);refine XEx.mmk (fun t0 y=>?_);simp only [go_sem];have h9:TX B ext l fl j (V.BV t0):=o.own fun k=>Pw _ _ _;(repeat' refine wQ ?_<;>simp only [go_sem]);refine AN.mk rfl (hvc j _ h9) ?_;rintro _ b ⟨rfl,G,ks,K⟩;have c:=h9.step w ks K;have hj:b.tok t0=true:=K.tok t0 (by simp [X.BV]);have R:(nbH V).le b:=K.nb2 ⟨fun _ _ h=>(by cases h),fun t F=>by simp only [X.BV];split;rfl;exact F,rfl,fun _ _ h=>h⟩;simp only [AA,go_sem];(repeat' refine wQ ?_<;>simp only [AA,go_sem]);refine W.PL ?_
 refine W.SB ((fun (a0:I) (a1:I) (a4:I) (al:I) (nm:I)=>fun (z:Nat×Nat×X)=>put 0 a0 (put 1 a1 (put 4 a4 (put 6 (.om z.2.1 (mI (DW (vs.take z.1)))) (put 17 al (put 18 nm (put 19 (A1 z.1) U))))))) _ _ _ _ _) (fun _=>CN 4 [A1 0,.Ac,A1 0,A1 0,.Ac] E) (fun z=>z.2.2)
  (fun z=>z.1<=vs.length/\z.2.2.tok z.2.1=true/\V.tok z.2.1=false/\(nbH V).le z.2.2/\∃j',TX B ext l fl j' z.2.2)
  (fun z=>vs.length - z.1) ?_ (0,t0,b) ⟨by simp,hj,y,R,G,c⟩
 clear c hj R ks K h9 y t0 G b;rintro ⟨p,t,b⟩ ⟨hp,F,y,i,G,c⟩ ih;simp only at hp F y i c;by_cases N:p < vs.length
 . obtain ⟨v,hv⟩:=Ak N;have hy:=H5 hv;have hw1:=wS p
   have hno:v ∉ vs.take p:=fun hm=>by
    have h1:=hnd.sublist (List.take_sublist (p+1) vs);rw [Aa hv] at h1
    grind
   have hsn:DW (vs.take (p+1))=DW (vs.take p)++[((v:Int),(p:Int))]:=by
    rw [Aa hv,ANS];simp;omega
   (repeat' refine sQ ?_<;>simp only [BI N,hy,go_sem]);refine Z7.mk F (ANR hno) (fun t' ht'=>?_);simp only [go_sem];(repeat' refine sQ ?_<;>simp only [hw1,go_sem]);have hne:∀s,V.tok s=true->s≠t:=fun s hs e=>by grind
   have htf:V.tok t'=false:=by
    cases h:V.tok t' with
    |false=>rfl
    |true=>have:=i.tok t' h;grind
   have hc:(nbH V).le ((b.Bh t).BV t'):=⟨fun _ _ h=>(by cases h),fun s hs=>by
    have h1:=i.tok s hs;simp only [X.BV,X.Bh,if_neg (hne s hs)]
    grind,i.gt,i.bt⟩
   have hi:=ih ⟨p+1,t',(b.Bh t).BV t'⟩ ⟨N,by simp [X.BV],htf,hc,G,c.own fun k=>rfl⟩ (by grind);simp only [hsn] at hi;exact hi
 . have hpe:p=vs.length:=by omega
   subst hpe;clear ih;have fs:(DW vs).length<=1000000000:=by rw [AFC];omega
   (repeat' refine sQ ?_<;>simp only [B5 N,Ar,go_sem]);refine W.WX mixed (RSG B ext l V t (AIW l (DW vs) D) (put 0 (.gp B.i 0) (put 1 (A1 f) (put 4 (.lp 4 0) (put 6 (.om t (mI (DW vs))) (put 9 (.lp 9 0) U))))) (fun v=>CN 4 [A1 0,.Ac,A1 0,A1 0,.Ac] (CN 9 [A1 ((DW vs).length:Int),v,A1 (rdN l (DW vs) m).kind,A1 (rdN l (DW vs) m).num,BU ((rdN l (DW vs) m).args.map Ty.J)] E)) fl) ?_ ?_
   . obtain ⟨k1,k2,k3,k4,k5⟩:=look G b c;have he:=sV h.hpl;have h6:=SC h.hrf;have hb:=ltT (AG.1 h.hpl).1;have h3:=ltT (AG.1 h.hrf).1;simp only [k1,k3,k4,he,h6,hb,h3,Ag,go_sem];have Q:=h7 m hg (.inl h.szr);unfold RdC at Q;generalize rdN l (DW vs) m=T at Q ⊢;obtain ⟨Tk,Tn,Tu⟩:=T;simp only [tyA,Ty.J,Ty.BQ,AB,AJ] at Q;have sc:=Qh B.i B.rest l (DW vs) D (fun a L=>h7 a (hf.2 a L) (.inl (h.szp a L))) (by omega) fl G t b c.sn F
     (repeat' first
       |(refine XEx.AIH F fs ?_
         simp only [k1,k3,k4,he,h6,hb,h3,Ag,go_sem])
       |(refine AN.mk rfl sc ?_
         rintro v ns ⟨ho,j2,sn2,Z⟩;have h8:=c.step w sn2 Z;have hl:=Z.tok t F;have cs:=Z.nb2 i;obtain ⟨q1,q2,q3,q4,q5⟩:=look j2 ns h8;simp only [q1,q4,h6,h3,Ag,go_sem];refine AN.mk rfl (Q fl j2 t ns h8.sn hl) ?_;rintro _ τ3 ⟨rfl,j3,sn3,h0⟩;simp only [ho.w4,go_sem];unfold RSG;refine ⟨v,j3,ho.plain,(by simp only [go_sem]),(by simp only [Ty.kind,Ty.num,Ty.args,go_sem]),h0.nb2 cs,h0.tok t hl,h8.step w sn3 h0⟩)
       |refine DF ?_ ?_)
   . clear i F y c b G;rintro F' L' b ⟨v,G,hv,e1,e2,i,F,c⟩;rw [e1,e2];clear e1 e2 F' L';refine W.Ac8 (L':=CN 4 [A1 0,.Ac,A1 0,A1 0,.Ac] (CN 9 [A1 ((DW vs).length:Int),BU (AIW l (DW vs) D),A1 (rdN l (DW vs) m).kind,A1 (rdN l (DW vs) m).num,BU ((rdN l (DW vs) m).args.map Ty.J)] E)) (fun q cs' P=>?_) ?_
     . by_cases q4:q=4
       . subst q4;exact ⟨cs',by simpa [CN] using P,.inl rfl⟩
       . by_cases q9:q=9
         . subst q9;refine ⟨[A1 ((DW vs).length:Int),v,A1 (rdN l (DW vs) m).kind,A1 (rdN l (DW vs) m).num,BU ((rdN l (DW vs) m).args.map Ty.J)],by simp [CN],.inr ?_⟩;simp only [CN,if_neg q4,if_true,AP] at P
           grind [I.C3,K6]
         . simp [CN,q4,q9,E] at P
     obtain ⟨k1,k2,k3,k4,k5⟩:=look G b c;have ds:=h.hen;have us:((f:Int) < (B.es.length:Int))=True:=by rw [<- h.hes];exact ltT (AG.1 h.hen).1
     obtain ⟨q1,q2,q3,q4,q5⟩:=U0 en jc;(repeat' refine wQ ?_<;>simp only [k1,k5,ds,us,Ag,q1,q5,go_sem]);refine ABQ B ext l fl f jc es D m en h w h5 (DW vs) h7 Y S _ _ _ _ _ V b G t i F c _ (fun H j' h1 h2=>⟨?_,h1,j',h2⟩);simp only [Sch.row,Ro,AFC,AIW]
end
def lvF (l:List Nd):Nat->Nat->List Nat
 |0,_=>[]
 |k+1,r=>(if (l[r]?).map Nd.k=some 0 then [r] else [])++(((l[r]?).map Nd.ar).getD []).flatMap fun a=>lvF l k (rtN l a)
def lvN (l:List Nd) (n:Nat):List Nat:=lvF l (l.length+1) (rtN l n)
theorem NY {α β:Type} {f g:α->List β}:∀ {l:List α},(∀a∈l,f a=g a)->l.flatMap f=l.flatMap g
 |[],_=>rfl
 |a::l,h=>by rw [G9,G9,h a (AY),NY fun x b=>h x (AZ _ b)]
theorem ARU {l:List Nd} {d:Nat->Nat} (i:E8 l) (h:FR l d):∀(n r k b:Nat),d r<=n->(∃x,l[r]?=some x/\x.p=r)->d r < k->d r < b->lvF l k r=lvF l b r:=by
 intro n
 induction n with
 |zero=>
  intro r k b o ⟨x,c,g⟩ j f;obtain ⟨k,rfl⟩:∃m,k=m+1:=⟨k - 1,by omega⟩;obtain ⟨b,rfl⟩:∃m,b=m+1:=⟨b - 1,by omega⟩;rw [lvF,lvF,c];simp only [Ap,BH];congr 1;refine NY fun a e=>?_;have:=h.lt r x c g a e;omega
 |succ n p=>
  intro r k b o ⟨x,c,g⟩ j f;obtain ⟨k,rfl⟩:∃m,k=m+1:=⟨k - 1,by omega⟩;obtain ⟨b,rfl⟩:∃m,b=m+1:=⟨b - 1,by omega⟩;rw [lvF,lvF,c];simp only [Ap,BH];congr 1;refine NY fun a e=>?_;have q:=h.lt r x c g a e;exact p (rtN l a) k b (by omega) (i.root (i.ar r x c a e)) (by omega) (by omega)
theorem ARV {l:List Nd} {d:Nat->Nat} (b:E8 l) (h:FR l d) {n:Nat} {x:Nd} (c:l[rtN l n]?=some x) (f:x.p=rtN l n):lvN l n=(if x.k=0 then [rtN l n] else [])++x.ar.flatMap (lvN l):=by
 rw [lvN,lvF,c];simp only [Ap,BH,AP];congr 1;refine NY fun a e=>?_;have i:=h.lt _ x c f a e;have g:=h.le (rtN l n);exact ARU b h (d (rtN l a)) (rtN l a) l.length (l.length+1) (AW _) (b.root (b.ar _ x c a e)) (by omega) (by omega)
theorem Xi {f:Nat->List Nat} {g:Nat->Nat}:∀ {us:List Nat},(∀a∈us,(f a).length<=g a)->(us.flatMap f).length<=(us.map g).sum
 |[],_=>AW _
 |a::us,h=>by
  rw [G9,A0,AB,Em];have:=h a (AY);have:=Xi (f:=f) (g:=g) (us:=us) fun x b=>h x (AZ _ b);omega
theorem AVV {l:List Nd} {d:Nat->Nat} (b:E8 l) (h:FR l d):∀(N n:Nat),n < l.length->d (rtN l n)<=N->szN l n<=200->(lvN l n).length<=szN l n:=by
 intro N
 induction N using DK with
 |_ N m=>
 intro n k r j;obtain ⟨x,c,e⟩:=b.root k;rw [ARV b h c e,ATE b h c e j,A0];have o:(if x.k=0 then [rtN l n] else []).length<=1:=by split<;>simp
 have p:=Xi (f:=lvN l) (g:=szN l) (us:=x.ar) fun a i=>by
  have q:=h.lt _ x c e a i;exact m (d (rtN l a)) (by omega) a (b.ar _ x c a i) (AW _) ((tM b h c e j).2 a i)
 omega
def Tp (acc us:List Nat):List Nat:=us.foldl (fun acc u=>if u∈acc then acc else acc++[u]) acc
theorem oL (a us vs:List Nat):Tp a (us++vs)=Tp (Tp a us) vs:=by simp [Tp,Cv]
theorem fT:∀ {us acc:List Nat} {u:Nat},u∈acc->u∈Tp acc us
 |[],acc,u,h=>h
 |v::us,acc,u,h=>by
  rw [Tp,BD];refine fT (us:=us) ?_;split
  . exact h
  . exact I6 _ h
theorem ACQ:∀ {us acc:List Nat} {u:Nat},u∈us->u∈Tp acc us
 |v::us,acc,u,h=>by
  rw [Tp,BD];rcases Ah.1 h with rfl|h
  . refine fT (us:=us) ?_
    grind
  . exact ACQ (us:=us) h
theorem ACR:∀ {us acc:List Nat},(∀u∈us,u∈acc)->Tp acc us=acc
 |[],acc,_=>rfl
 |v::us,acc,h=>by
  rw [Tp,BD,if_pos (h v (AY))];exact ACR (us:=us) fun u a=>h u (AZ _ a)
theorem ACP:∀(us a:List Nat),(Tp a us).length<=a.length+us.length
 |[],a=>by simp [Tp]
 |v::us,a=>by
  rw [Tp,BD];have:=ACP us (if v∈a then a else a++[v]);rw [Tp] at this;refine Ai this ?_;simp only [AT];split
  . omega
  . simp only [A0,Ci];omega
structure US (l:List Nd) (d:Nat->Nat) (D:Nat) (s:List Bool×List Nat):Prop where
 dn:∀r,s.1[r]?=some true->d r < D->∀u∈lvF l (l.length+1) r,u∈s.2
 sn:∀u∈s.2,s.1[u]?=some true
theorem ALE {l:List Nd} {d:Nat->Nat} (B:E8 l) (h:FR l d):∀(k:Nat) (s:List Bool×List Nat) (n D:Nat),d (rtN l n) < k->d (rtN l n) < D->n < l.length->s.1.length=l.length->US l d D s->
 (JT l k s n).2=Tp s.2 (lvN l n)/\US l d D (JT l k s n)/\(∀r,(JT l k s n).1[r]?=some true->s.1[r]?=some true\/d r<=d (rtN l n))/\(JT l k s n).1.length=l.length
 |0,s,n,D,hk,_,_,_,_=>by omega
 |k+1,s,n,D,hk,hD,hn,S,g=>by
  obtain ⟨x,t,L⟩:=B.root hn;have h1:=(AG.1 t).1;have heq:=ARV B h t L;have R:lvN l n=lvF l (l.length+1) (rtN l n):=rfl;rw [JT];generalize F:rtN l n=r at *;by_cases o:s.1[r]?=some false
  . rw [if_pos o];simp only [t,Ap,BH,AP];have P:r < s.1.length:=by omega
    -- the arguments
    have hf:∀(us:List Nat) (q:List Bool×List Nat) (E:Nat),(∀a∈us,a < l.length/\d (rtN l a) < E/\d (rtN l a) < k)->q.1.length=l.length->US l d E q->
     (us.foldl (fun s a=>JT l k s a) q).2=Tp q.2 (us.flatMap (lvN l))/\US l d E (us.foldl (fun s a=>JT l k s a) q)/\(∀r,(us.foldl (fun s a=>JT l k s a) q).1[r]?=some true->q.1[r]?=some true\/d r < E)/\(us.foldl (fun s a=>JT l k s a) q).1.length=l.length:=by
     intro us
     induction us with
     |nil=>intro q E _ N g;exact ⟨rfl,g,fun r F=>.inl F,N⟩
     |cons a us ih=>
      intro q E p N g;obtain ⟨a1,T,U⟩:=p a (AY);obtain ⟨Y,Z,g3,g4⟩:=ALE B h k q a E U T a1 N g;rw [BD,G9,oL,<- Y];obtain ⟨f1,f2,f3,f4⟩:=ih _ E (fun b z=>p b (AZ _ z)) g4 Z;refine ⟨f1,f2,fun r F=>?_,f4⟩;rcases f3 r F with e|e
      . rcases g3 r e with e|e
        . exact .inl e
        . exact .inr (by omega)
      . exact .inr e
    have K:r ∉ s.2:=fun j=>by have:=g.sn r j;rw [o] at this;cases this
    have m:∀r':Nat,(s.1.set r true)[r']?=some true->r'=r\/s.1[r']?=some true:=fun r' c=>by
     by_cases e:r=r'
     . exact .inl e.symm
     . rw [Bv e] at c;exact .inr c
    have w:(if x.k=0 then s.2++[r] else s.2)=Tp s.2 (if x.k=0 then [r] else []):=by
     split
     . simp [Tp,K]
     . rfl
    have y:∀u∈s.2,u∈(if x.k=0 then s.2++[r] else s.2):=fun u g=>by
     split
     . exact I6 _ g
     . exact g
    have i:∀r':Nat,s.1[r']?=some true->(s.1.set r true)[r']?=some true:=fun r' c=>by
     have G:r≠r':=fun e=>by rw [e,c] at o;cases o
     rw [Bv G];exact c
    have Q:US l d (d r) (s.1.set r true,if x.k=0 then s.2++[r] else s.2):=by
     refine ⟨fun r' c v u f=>?_,fun u j=>?_⟩
     . rcases m r' c with e|e
       . subst e;omega
       . exact y u (g.dn r' e (by omega) u f)
     . simp only at j ⊢;split at j
       . rcases A2.1 j with j|j
         . exact i u (g.sn u j)
         . simp only [A9] at j;subst j;exact Bq P
       . exact i u (g.sn u j)
    obtain ⟨f1,f2,f3,f4⟩:=hf x.ar (s.1.set r true,if x.k=0 then s.2++[r] else s.2) (d r) (fun a p=>⟨B.ar _ x t a p,h.lt r x t L a p,by have:=h.lt r x t L a p;omega⟩) (by simp [S]) Q;simp only at f1 f3;generalize x.ar.foldl (fun s a=>JT l k s a) (s.1.set r true,if x.k=0 then s.2++[r] else s.2)=s' at *;rw [w,<- oL,<- heq] at f1;refine ⟨f1,⟨fun r' c v u f=>?_,f2.sn⟩,fun r' c=>?_,f4⟩
    . rcases f3 r' c with e|e
      . rcases m r' e with e|e
        . subst e;rw [f1];exact ACQ (by rw [R];exact f)
        . rw [f1];exact fT (g.dn r' e v u f)
      . exact f2.dn r' c e u f
    . rcases f3 r' c with e|e
      . rcases m r' e with e|e
        . subst e;exact .inr (AW _)
        . exact .inl e
      . exact .inr (by omega)
  . rw [if_neg o]
    have hs:s.1[r]?=some true:=by
     obtain ⟨b,z⟩:=Ak (show r < s.1.length by omega);cases b with
     |true=>exact z
     |false=>exact absurd z o
    refine ⟨(ACR fun u f=>?_).symm,g,fun r' c=>.inl c,S⟩;rw [R] at f;exact g.dn r hs hD u f
theorem AWU {l:List Nd} {d:Nat->Nat} (f:E8 l) (h:FR l d) (c:∀a∈ts,a < l.length):AF0 l ts=Tp [] (ts.flatMap (lvN l)):=by
 have b:∀(us:List Nat) (q:List Bool×List Nat),(∀a∈us,a < l.length)->q.1.length=l.length->US l d (l.length+1) q->(us.foldl (fun s a=>JT l (l.length+1) s a) q).2=Tp q.2 (us.flatMap (lvN l)):=by
  intro us
  induction us with
  |nil=>intro q _ _ _;rfl
  |cons a us m=>
   intro q k g j;have e:=h.le (rtN l a)
   grind [ALE,AY,oL,AZ]
 refine b ts (AH l.length false,[]) c (by simp) ⟨fun r i=>?_,by simp⟩
 grind
theorem AF1 {l:List Nd} {d:Nat->Nat} (c:E8 l) (h:FR l d) (i:∀a∈ts,a < l.length) (e:∀a∈ts,szN l a<=200):(AF0 l ts).length<=ts.length * 200:=by
 rw [AWU c h i];have j:=ACP (ts.flatMap (lvN l)) [];have k:=Xi (f:=lvN l) (g:=fun _=>200) (us:=ts) fun a b=>Ai (AVV c h (d (rtN l a)) a (i a b) (AW _) (e a b)) (e a b)
 have m:∀us:List Nat,(us.map fun _=>200).sum=us.length * 200:=by
  intro us
  induction us with
  |nil=>rfl
  |cons a us n=>grind
 grind
section
def shp (dt:List Dat) (k n:Int) (m:Nat):Prop:=
 ((k=0\/k=1\/k=2\/k=3)/\n=0/\m=0)\/(k=5/\∃D,0<=n/\dt[n.toNat]?=some D/\(m:Int)=D.vars)\/(k=6/\n=0/\2<=m/\m<=6)\/((k=7\/k=8)/\n=0/\m=1)\/(k=9/\n=0/\1<=m/\m<=7)
def NV (dt:List Dat) (l:List Nd):Prop:=∀x∈l,shp dt x.k x.n x.ar.length
mutual
def Ty.sh (dt:List Dat):Ty->Prop
 | .mk k n us=>(k=4\/shp dt k n us.length)/\Ty.shs dt us
def Ty.shs (dt:List Dat):List Ty->Prop
 |[]=>True
 |t::ts=>Ty.sh dt t/\Ty.shs dt ts
end
theorem Ty.nX {dt:List Dat}:∀ {l:List Ty},Ty.shs dt l↔∀t∈l,t.sh dt
 |[]=>by simp [Ty.shs]
 |t::l=>by rw [Ty.shs,Ty.nX];simp
variable {dt:List Dat}
theorem NV.nil:NV dt []:=fun x h=>by simp at h
theorem NV.add {l:List Nd} (h:NV dt l) {k n:Int} {ar:List Nat} (b:shp dt k n ar.length):NV dt (L3 l k n ar):=fun x a=>by
 rw [L3] at a;rcases A2.1 a with a|a
 . exact h x a
 grind
theorem eZ (dt:List Dat):shp dt 0 0 0:= .inl ⟨.inl rfl,rfl,rfl⟩
theorem NV.V5 {l:List Nd} (h:NV dt l):∀n,NV dt (E9 l n)
 |0=>h
 |n+1=>by rw [E9];exact (NV.V5 h n).add (eZ dt)
theorem NV.Ji {l:List Nd} (h:NV dt l) (a b:Nat):NV dt (Ji a b l):=fun x c=>by
 unfold Go.Ab.Ji at c;obtain ⟨y,d,rfl⟩:=BR.1 c;split<;>exact h y d
def hdN (l:List Nd) (a:Nat):Option (Int×Int×Nat):=match l[a]? with
 |none=>none
 |some x=>(l[x.p]?).map fun y=>(y.k,y.n,y.ar.length)
theorem Nw {l:List Nd} {a:Nat} {h:Int×Int×Nat}:hdN l a=some h↔∃x y,l[a]?=some x/\l[x.p]?=some y/\(y.k,y.n,y.ar.length)=h:=by
 unfold hdN
 grind
def HP (l m:List Nd):Prop:=∀a h,hdN l a=some h->h.1≠0->hdN m a=some h
theorem HP.app (l m:List Nd):HP l (l++m):=fun a h e _=>by
 grind [Nw,Ic]
theorem qY (l:List Nd) (k n:Int) (ar:List Nat):hdN (L3 l k n ar) l.length=some (k,n,ar.length):=Nw.2 ⟨_,_,qW _ _,qW _ _,rfl⟩
theorem AQ2 {l:List Nd} {a ra rb:Nat} {x:Nd} (d:l[a]?=some x) (c:x.p=ra) (e:l[rb]?=some y):hdN (Ji ra rb l) a=some (y.k,y.n,y.ar.length):=by
 obtain ⟨z,k,_,_,_,f⟩:=K0 (a:=ra) (b:=rb) d;obtain ⟨w,j,g,h,i,_⟩:=K0 (a:=ra) (b:=rb) e;rw [if_pos c] at f
 grind [Nw]
theorem HP.Ji {l:List Nd} {ra rb:Nat} {x:Nd} (q:l[ra]?=some x) (r:l[rb]?=some y) (h:x.k=0\/(x.k=y.k/\x.n=y.n/\x.ar.length=y.ar.length)):HP l (Ji ra rb l):=fun c e d o=>by
 obtain ⟨u,v,g,i,rfl⟩:=Nw.1 d;by_cases f:u.p=ra
 . grind [AQ2,absurd]
 . obtain ⟨z,s,_,_,_,j⟩:=K0 (a:=ra) (b:=rb) g;obtain ⟨w,p,k,m,n,_⟩:=K0 (a:=ra) (b:=rb) i;rw [if_neg f] at j
   grind [Nw]
structure Sx (dt:List Dat) (s s':SS):Prop where
 nv:NV dt s.1->NV dt s'.1
 hp:HP s.1 s'.1
 fl:s'.2=false->s.2=false
theorem Sx.refl (s:SS):Sx dt s s:=⟨id,fun _ _ h _=>h,id⟩
theorem Sx.trans {s t u:SS} (h:Sx dt s t) (k:Sx dt t u):Sx dt s u:=⟨fun n=>k.nv (h.nv n),fun a e x y=>k.hp a e (h.hp a e x y) y,fun f=>h.fl (k.fl f)⟩
theorem Sx.fold {f:SS->Nat×Nat->SS} (b:∀s x,Sx dt s (f s x)):∀(a:List (Nat×Nat)) (q:SS),Sx dt q (a.foldl f q)
 |[],q=>.refl q
 |p::a,q=>(b q p).trans (Sx.fold b a (f q p))
theorem Sx.K1:∀(k:Nat) (s:SS) (a b:Nat),Sx dt s (K1 k s a b)
 |0,s,a,b=>.refl s
 |k+1,s,a,b=>by
  rw [Go.Ab.K1];split
  . exact .refl s
  split
  . rename_i x y c d;split
    . exact ⟨fun h=>h.Ji _ _,.Ji c d (.inl ‹_›),id⟩
    split
    . exact ⟨fun h=>h.Ji _ _,.Ji d c (.inl ‹_›),id⟩
    split
    . exact Sx.trans (t:=(Go.Ab.Ji (rtN s.1 a) (rtN s.1 b) s.1,s.2)) ⟨fun h=>h.Ji _ _,.Ji c d (.inr ‹_›),id⟩ (Sx.fold (fun s p=>Sx.K1 k s p.1 p.2) _ _)
    . exact ⟨id,fun _ _ h _=>h,fun h=>by cases h⟩
  . exact ⟨id,fun _ _ h _=>h,fun h=>by cases h⟩
theorem Sx.uni (s:SS) (a b:Nat):Sx dt s (Go.Ab.uni s a b):=Sx.K1 _ _ _ _
theorem ATO {s:SS} {a:Nat} {h:Int×Int×Nat} (d:(uni s a b).2=false) (q:hdN s.1 b=some h) (g:h.1≠0):hdN (uni s a b).1 a=some h:=by
 obtain ⟨v,w,j,f,rfl⟩:=Nw.1 q;unfold uni at d ⊢;obtain ⟨k,r⟩:∃k,s.1.length=k+1:=⟨s.1.length - 1,by grind⟩;rw [r] at d ⊢;have i:=Iq j;have t:=(AG.1 f).1;rw [K1,i,f] at d ⊢;cases c:s.1[a]? with
 |none=>
  have u:rtN s.1 a=s.1.length:=by simp [rtN,c]
  grind
 |some m=>
  rw [Iq c] at d ⊢;split at d
  . rename_i e;rw [if_pos e];exact Nw.2 ⟨m,w,c,by grind,rfl⟩
  rename_i e;rw [if_neg e];cases l:s.1[m.p]? with
  |none=>grind
  |some x=>
   rw [l] at d;simp only at d ⊢;have n:=AQ2 c rfl f;split
   . exact n
   rename_i o;rw [if_neg o,if_neg g] at d
   try rw [if_neg g]
   split
   . exact (Sx.fold (dt:=[]) (fun s p=>Sx.K1 k s p.1 p.2) _ (Go.Ab.Ji m.p v.p s.1,s.2)).hp a _ n g
   grind
theorem Sx.add {s:SS} {k n:Int} {ar:List Nat} (h:shp dt k n ar.length):Sx dt s (L3 s.1 k n ar,s.2):=⟨fun g=>g.add h,HP.app _ _,id⟩
theorem Sx.V5 (s:SS):∀n,Sx dt s (E9 s.1 n,s.2)
 |0=>.refl s
 |n+1=>(Sx.V5 s n).trans (Sx.add (s:=(E9 s.1 n,s.2)) (eZ dt))
mutual
theorem Sx.Eo (ar:List Nat):∀(s:SS) (t:Ty),t.sh dt->Sx dt s ((Eo ar s.1 t).2,s.2)
 |s,.mk k n us,a=>by
  rw [Ty.sh] at a;rw [Go.Ab.Eo];split
  . exact .refl s
  . rename_i b;exact (Sx.Bi ar s us a.2).trans (Sx.add (s:=((Go.Ab.Bi ar s.1 us).2,s.2)) (by grind [If]))
theorem Sx.Bi (ar:List Nat):∀(s:SS) (ts:List Ty),Ty.shs dt ts->Sx dt s ((Bi ar s.1 ts).2,s.2)
 |s,[],_=>.refl s
 |s,t::ts,a=>by
  rw [Ty.shs] at a;exact (Sx.Eo ar s t a.1).trans (Sx.Bi ar ((Go.Ab.Eo ar s.1 t).2,s.2) ts a.2)
end
structure GVv (G:GC):Prop where
 vr:∀D∈G.dt,0<=D.vars
 dt:∀D∈G.dt,∀c∈D.cons,Ty.shs G.dt c.args
 sch:∀s∈G.sch,Ty.shs G.dt s.params/\s.res.sh G.dt/\s.params.length<=6/\s.vars<=100000
 ps:∀l∈G.ps,l.length<=6
 ls:G.sch.length=G.fs.length
def EA (en:List En):Prop:=∀x∈en,x.ar.length<=100000
theorem EA.mod {en:List En} (h:EA en) (i:Nat) {f:En->En} (a:∀x,x.ar.length<=100000->(f x).ar.length<=100000):EA (en.modify i f):=fun y b=>by
 obtain ⟨m,c,rfl⟩:=CJ b;rw [List.getElem_modify];split
 . exact a _ (h _ (Fa _))
 . exact h _ (Fa _)
def Wn (dt:List Dat) (e:Ex) (sc:List M) (j:Nat) (k n:Int) (m:Nat):Prop:=
 (e.op=4/\sc.contains e.name=false/\j=0/\k=9/\n=0/\m=1)\/(e.op=8/\j=1/\k=6/\n=0/\m=e.names.length)\/
 (e.op=10/\j=1/\k=5/\m=0/\∃a d c,e.alts.head?=some a/\Dy dt a.con=some (d,c)/\n=(d:Nat))\/(e.op=11/\j=0/\k=9/\n=0/\m=e.names.length+1)
theorem Wn.k0 {dt:List Dat} {sc:List M} {j:Nat} {k n:Int} (h:Wn dt e sc j k n m):k≠0/\k≠4:=by
 rcases h with h|h|h|h<;>omega
def NF (dt:List Dat) (l:List Nd) (en:List En) (i:Nat) (e:Ex) (sc:List M):Prop:=∀j k n m,Wn dt e sc j k n m->∃x q,en[i+j]?=some x/\hdN l x.t=some (k,n,q)/\m<=q
structure Vi (dt:List Dat) (g:GS) (c:Nat) (L:List (Ex×List M)) (g':GS):Prop where
 s:Sx dt g.s g'.s
 ln:g'.en.length=g.en.length+c+L.length
 en:∀(i:Nat) (x:En),g.en[i]?=some x->g'.en[i]?=some x
 ea:EA g.en->EA g'.en
 nf:g'.s.2=false->∀(i:Nat) (x:Ex×List M),L[i]?=some x->NF dt g'.s.1 g'.en (g.en.length+c+i) x.1 x.2
theorem NF.mono {dt:List Dat} {l m:List Nd} {en en':List En} {i:Nat} {sc:List M} (h:NF dt l en i e sc) (g:HP l m) (f:∀j x,i<=j->en[j]?=some x->en'[j]?=some x):NF dt m en' i e sc:=fun j k n c w=>by
 obtain ⟨x,q,a,b,d⟩:=h j k n c w;exact ⟨x,q,f _ _ (by omega) a,g _ _ b w.k0.1,d⟩
theorem Vi.step {dt:List Dat} {g:GS} (h:Sx dt g.s s'):Vi dt g 0 [] { g with s:=s'}:=⟨h,rfl,fun _ _ h=>h,id,fun _ i x h=>by simp at h⟩
theorem Vi.trans {dt:List Dat} {g g' g'':GS} {c:Nat} {L Q05:List (Ex×List M)} (h:Vi dt g c L g') (k:Vi dt g' 0 Q05 g''):Vi dt g c (L++Q05) g'':=by
 refine ⟨h.s.trans k.s,by rw [k.ln,h.ln,A0];omega,fun i x e=>k.en i x (h.en i x e),fun e=>k.ea (h.ea e),fun b i x a=>?_⟩;by_cases d:i < L.length
 . rw [Di d] at a;exact (h.nf (k.s.fl b) i x a).mono k.s.hp fun j x _ e=>k.en j x e
 . rw [BY (by omega)] at a;have:=k.nf b _ _ a
   rwa [h.ln,show g.en.length+c+L.length+0+(i - L.length)=g.en.length+c+i by omega] at this
theorem Vi.cast {dt:List Dat} {g:GS} {Q05:List (Ex×List M)} (h:Vi dt g c L g') (e:L=Q05):Vi dt g c Q05 g':=e ▸ h
theorem Vi.more {dt:List Dat} {g:GS} (h:Vi dt g c L g') (k:Sx dt g'.s s'):Vi dt g c L { g' with s:=s'}:=by
 have:=h.trans (.step k)
 grind
def EN (sc:List M) (env:Env):Prop:=∀s,s≠[]->(Mb env s).isSome=sc.contains s
theorem EN.with {sc:List M} {env:Env} (h:EN sc env) {ns:List M} (b:ns.length=ts.length):EN (sc++ns) (Cy env ns ts):=fun s a=>by
 rw [bI ns ts env s b a,h s a,N8]
theorem EN.AF7 {sc:List M} {env:Env} (h:EN sc env) (nm:M) (t:Nat):EN (dT nm sc) (Cy env [nm] [t]):=by
 unfold dT;split
 . rename_i e;subst e;exact h
 . exact h.with rfl
def PEv (G:GC) (e:Ex) (sc:List M):Prop:=∀env g,EN sc env->Vi G.dt g 0 (Bl e sc) (BN G e env g).2/\∃x,(BN G e env g).2.en[g.en.length]?=some x/\x.t=(BN G e env g).1
variable {G:GC} {o:Int} {nm:M} {ns sc:List M}
theorem sL (a:∀i,Ct o nm ns sc i=sc):∀ {ks:List Ex} (i:Nat),(∀k∈ks,PEv G k sc)->∀env g,EN sc env->Vi G.dt g 0 (CA o nm ns sc i ks) (De G ks env g).2
 |[],_,_,env,g,_=>.step (.refl _)
 |k::ks,i,b,env,g,h=>by
  rw [De,CA,a];exact (b k (AY) env g h).1.trans (sL a (i+1) (fun x c=>b x (AZ _ c)) env _ h)
theorem nU (b:∀i,Ct o nm ns sc i=sc) {f:Nat->Nat->SS->SS} (a:∀i r s,Sx G.dt s (f i r s)):∀ {ks:List Ex} (i:Nat),(∀k∈ks,PEv G k sc)->∀(env:Env) (d:Nat) (g:GS),EN sc env->Vi G.dt g 0 (CA o nm ns sc i ks) (E3 G ks env d f g)
 |[],_,_,env,_,g,_=>.step (.refl _)
 |k::ks,i,c,env,d,g,h=>by
  rw [E3,CA,b];exact ((c k (AY) env g h).1.more (a _ _ _)).trans (nU b a (i+1) (fun x e=>c x (AZ _ e)) env _ _ h)
theorem AKZ (e:GVv G) {D:Dat} (d:D∈G.dt):∀ {al:List Al},(∀a∈al,PEv G a.body (sc++a.vars)/\a.vars.length=(((D.cons[((Dy G.dt a.con).map (·.2)).getD 0]?).map Con.args).getD []).length)->∀(env:Env) (ar:List Nat) (t:Nat) (g:GS),EN sc env->Vi G.dt g 0 (Cw sc al) (cH G al env D ar t g)
 |[],_,env,ar,t,g,_=>.step (.refl _)
 | .mk c vs b::al,f,env,ar,t,g,h=>by
  rw [cH,Cw,Um];obtain ⟨j,k⟩:=f _ (AY);refine (((Vi.step (Sx.Bi ar g.s _ ?_)).trans (j _ _ (h.with (k.trans (If ar g.s.1 _).symm))).1).more (Sx.uni _ _ _)).trans (AKZ e d (fun x m=>f x (AZ _ m)) env ar t _ h);cases l:D.cons[((Dy G.dt c).map (·.2)).getD 0]? with
  |none=>simp [Ty.shs]
  |some i=>exact e.dt D d i (AE l)
theorem YT (f:En->En) (x:En):∀l:List En,(l++[x]).modify l.length f=l++[f x]
 |[]=>rfl
 |y::l=>by rw [AU,AT,List.modify_succ_cons,YT f x l];rfl
theorem Vi.ent {dt:List Dat} (g:GS) (x:En) (b:x.ar.length<=100000) (h:Sx dt g.s s'):Vi dt g 1 [] ⟨s',g.en++[x]⟩:=
 ⟨h,by simp,fun i y e=>Ic e _,fun e y a=>(A2.1 a).elim (e y) fun a=>by grind,fun _ i x h=>by simp at h⟩
theorem AZJ (a:GVv G) (env:Env) (nm:M) (g:GS):Vi G.dt g 1 [] (fD G env nm g.en.length g.push).2/\(Mb env nm=none->(Dz (DB G.fs) nm).isSome=true->∃q,hdN (fD G env nm g.en.length g.push).2.s.1 (fD G env nm g.en.length g.push).1=some (9,0,q+1)):=by
 unfold fD;cases Mb env nm with
 |some t=>exact ⟨.ent g _ (by simp) (.refl _),fun h=>by cases h⟩
 |none=>
  simp only
  have c:(Dz (DB G.fs) nm).isSome=true->(Dz (DB G.fs) nm).getD 0 < G.sch.length:=fun h=>by
   obtain ⟨i,d⟩:=Pv.1 h;have:=AAX d;rw [DB,AA] at this;rw [d,a.ls];exact this
  generalize (Dz (DB G.fs) nm).getD 0=f at c ⊢;have b:(g.push.Ur g.en.length fun e=> { e with f:=(f:Int)})=⟨g.s,g.en++[⟨0,f,[]⟩]⟩:=by simp only [GS.Ur,GS.push,YT]
  rw [b];unfold AWE;split
  . refine ⟨.ent g _ (by simp) (.add (.inr (.inr (.inr (.inr ⟨rfl,rfl,by simp,?_⟩))))),fun _ _=>⟨(G.ps.getD f []).length,(qY _ _ _ _).trans (by simp)⟩⟩;cases j:G.ps[f]? with
    |none=>simp [j]
    |some l=>have:=a.ps l (AE j);grind
  . split
    . rename_i h;exact ⟨.ent g _ (by simp) (.refl _),fun _ k=>by grind⟩
    . rename_i s k;obtain ⟨m,n,o,p⟩:=a.sch s (AE k);have b:((⟨g.s,g.en++[⟨0,f,[]⟩]⟩:GS).frs s.vars.toNat).Ur g.en.length (fun e=> { e with ar:=Af (⟨g.s,g.en++[⟨0,f,[]⟩]⟩:GS).nx s.vars.toNat})=⟨(E9 g.s.1 s.vars.toNat,g.s.2),g.en++[⟨0,f,Af g.nx s.vars.toNat⟩]⟩:=by simp only [GS.Ur,GS.frs,YT];rfl
      rw [b];unfold AY5;refine ⟨.ent g _ (by simp;omega) ((((Sx.V5 g.s _).trans (Sx.Bi _ (_,_) _ m)).trans (Sx.Eo _ (_,_) _ n)).trans (Sx.add (s:=(_,_)) (.inr (.inr (.inr (.inr ⟨rfl,rfl,by simp,?_⟩)))))),fun _ _=>⟨s.params.length,(qY _ _ _ _).trans (by simp [If])⟩⟩
      grind [A0,If]
theorem AYX {dt:List Dat} {g:GS} {r:Nat×GS} (h:Vi dt g 1 L r.2)
 (u:r.2.s.2=false->∀j k n m,Wn dt e sc j k n m->(j=0/\∃q,hdN r.2.s.1 r.1=some (k,n,q)/\m<=q)\/(j=1/\∃x q,r.2.en[g.en.length+1]?=some x/\hdN r.2.s.1 x.t=some (k,n,q)/\m<=q)):
 Vi dt g 0 ((e,sc)::L) (P7 g r).2/\∃x,(P7 g r).2.en[g.en.length]?=some x/\x.t=(P7 g r).1:=by
 have v:=h.ln;have d:g.en.length < r.2.en.length:=by omega
 have f:∀j,j≠g.en.length->(P7 g r).2.en[j]?=r.2.en[j]?:=fun j p=>by
  show (r.2.en.modify _ _)[j]?=_;rw [I5];simp [A5 p]
 have l:(P7 g r).2.en[g.en.length]?=some { r.2.en[g.en.length] with t:=r.1}:=by
  show (r.2.en.modify _ _)[g.en.length]?=_;rw [I5,An d];simp
 refine ⟨⟨h.s,?_,fun i x e=>?_,fun e=>(h.ea e).mod _ fun x a=>a,fun o i x a=>?_⟩,⟨_,l,rfl⟩⟩
 . show (r.2.en.modify _ _).length=_;rw [List.length_modify,AT];omega
 . have:=(AG.1 e).1;rw [f i (by omega)];exact h.en i x e
 . cases i with
   |zero=>
    cases a;intro j k n m w;rcases u o j k n m w with ⟨rfl,q,b,c⟩|⟨rfl,y,q,b,c,s⟩
    . exact ⟨_,q,l,b,c⟩
    . exact ⟨y,q,(f _ (by omega)).trans b,c,s⟩
   |succ i=>
    have:=h.nf o i x a;rw [show g.en.length+0+(i+1)=g.en.length+1+i by omega];exact this.mono (fun _ _ h _=>h) fun j y p e=>(f j (by omega)).trans e
theorem AV0 (R:GVv G):∀(N:Nat) (e:Ex) (sc:List M),e.size<=N->OkE G e sc->PEv G e sc:=by
 intro N
 induction N with
 |zero=>grind [Ex.size_pos]
 |succ N ih=>
 rintro ⟨o,nm,nu,ns,ks,al⟩ sc h7 K env g B
 have l:∀i k,ks[i]?=some k->PEv G k (Ct o nm ns sc i):=fun i k E=>by
  refine ih k _ ?_ (K.kid E);have:=Ex.MA (AE E);simp only [Ex.size] at h7;omega
 have h4:∀a∈al,PEv G a.body (sc++a.vars):=fun a u=>by
  refine ih a.body _ ?_ (K.alt u);have:=Al.MA u;obtain ⟨c,vs,b⟩:=a
  grind [Ex.size,Al.size,Al.body]
 obtain ⟨Z,hn⟩:=K.me;obtain ⟨n1,n2,n3,n4,y⟩:=EI hn
 have p:(o≠7/\o≠8/\o≠11/\o≠17)->∀k∈ks,PEv G k sc:=fun h k hk=>by
  grind [Na,AH7]
 have E:=fun h=>AH7 (o:=o) h nm ns sc;have P:o≠11->EN (Ct o nm ns sc 0) env:=fun h=>by rw [AAY _ _ _ _ h];exact B
 have v:Vi G.dt g 1 [] g.push:= .ent g _ (by simp) (.refl _)
 have fin:∀r:Nat×GS,BN G (.mk o nm nu ns ks al) env g=P7 g r->Vi G.dt g 1 (CA o nm ns sc 0 ks++Cw sc al) r.2->
  (r.2.s.2=false->∀j k n m,Wn G.dt (.mk o nm nu ns ks al) sc j k n m->(j=0/\∃q,hdN r.2.s.1 r.1=some (k,n,q)/\m<=q)\/(j=1/\∃x q,r.2.en[g.en.length+1]?=some x/\hdN r.2.s.1 x.t=some (k,n,q)/\m<=q))->
  Vi G.dt g 0 (Bl (.mk o nm nu ns ks al) sc) (BN G (.mk o nm nu ns ks al) env g).2/\∃x,(BN G (.mk o nm nu ns ks al) env g).2.en[g.en.length]?=some x/\x.t=(BN G (.mk o nm nu ns ks al) env g).1:=fun r e h hn=>by rw [e,Bl];exact AYX h hn
 have f:(o≠4/\o≠8/\o≠10/\o≠11)->∀r:Nat×GS,BN G (.mk o nm nu ns ks al) env g=P7 g r->Vi G.dt g 1 (CA o nm ns sc 0 ks) r.2->_:=fun h r e hq=>fin r e (by grind [Gg,Cw]) fun _ j k n m w=>by
  exfalso;rcases w with w|w|w|w<;>grind [Ex.op]
 rcases AFB y with rfl|rfl|rfl|rfl|rfl|rfl|rfl|rfl|rfl|rfl|rfl|rfl|rfl|rfl|rfl|rfl|rfl<;>simp [nkB] at y
 . subst y;exact f (by decide) _ (dI G (by decide) nm nu ns [] al env g) (v.more (.add (.inl ⟨by decide,rfl,rfl⟩)))
 . subst y;exact f (by decide) _ (dI G (by decide) nm nu ns [] al env g) (v.more (.add (.inl ⟨by decide,rfl,rfl⟩)))
 . subst y;exact f (by decide) _ (dI G (by decide) nm nu ns [] al env g) (v.more (.add (.inl ⟨by decide,rfl,rfl⟩)))
 . subst y;obtain ⟨h1,F⟩:=AZJ R env nm g;refine fin _ (AJ6 G nm nu ns [] al env g) (by rw [Gg (by decide) n4];exact h1) fun _ j k n m w=>?_;rcases w with ⟨_,w,rfl,rfl,rfl,rfl⟩|w|w|w
   . have h6:nm≠[]:=AE6 (by simpa [nmB] using n1);have hl:Mb env nm=none:=by have:=B nm h6;rw [show sc.contains nm=false from w] at this;simpa using this
     obtain ⟨q,hq⟩:=F hl (by
      have h8:(if !sc.contains nm&&(Dz (DB G.fs) nm).isNone then (3:Int) else 0)=0:=Z;rw [show sc.contains nm=false from w] at h8
      grind)
     grind
   all_goals simp [Ex.op] at w
 . refine f (by decide) _ (AJ7 G nm nu ns ks al env g) ((v.trans (sL (E (by decide)) 0 (p (by decide)) env g.push B)).more (.add (.inr (.inr (.inl ⟨rfl,rfl,?_,?_⟩)))))<;>rw [QQ]<;>omega
 . obtain ⟨d,c,D,con,h1,F,h3,_⟩:=Ab8 Z;have Q:=AE F;have Z:=R.vr D Q;have ht:=Ty.nX.1 (R.dt D Q con (AE h3));refine f (by decide) _ (AJ8 G nm nu ns ks al env g h1 F h3) (((v.more (Sx.V5 _ _)).trans (nU (E (by decide)) (fun i r s=>(Sx.Eo _ s _ ?_).trans (Sx.uni _ _ _)) 0 (p (by decide)) env 0 _ B)).more (.add (.inr (.inl ⟨rfl,D,by omega,by grind,by simp;omega⟩))))
   grind [Ty.sh,Ty.shs,eZ,AE]
 . obtain ⟨a,b,rfl⟩:=AVK y;have u:=l 0 a rfl env g.push (P (by decide));have z:=l 1 b rfl _ (BN G a env g.push).2 (by simpa [Ct,dT] using B.AF7 nm (BN G a env g.push).1);exact f (by decide) _ (AJ9 G nm nu ns a b al env g) (by exact Vi.cast ((v.trans u.1).trans z.1) (by simp only [CA,Av,Aw,A3]))
 . obtain ⟨a,b,rfl⟩:=AVK y;simp [nsB] at n3;have u:=l 0 a rfl env (g.push.frs ns.length) (P (by decide));have z:=l 1 b rfl _ (((BN G a env (g.push.frs ns.length)).2.add 6 0 (Af g.push.nx ns.length)).uni (BN G a env (g.push.frs ns.length)).1 (BN G a env (g.push.frs ns.length)).2.nx) (by simpa [Ct] using B.with (ns:=ns) (ts:=Af g.push.nx ns.length) (by simp));obtain ⟨x,T,L⟩:=u.2;rw [show (g.push.frs ns.length).en.length=g.en.length+1 by simp [GS.push,GS.frs]] at T
   refine fin _ (AKA G nm nu ns a b al env g) (by
    rw [Gg (by decide) n4];exact Vi.cast ((((((v.more (Sx.V5 _ _)).trans u.1).more (.add (.inr (.inr (.inl ⟨rfl,rfl,by simp;omega,by simp;omega⟩))))).more (Sx.uni _ _ _)).trans z.1)) (by simp only [CA,Av,Cw,Aw,A3])) fun U j k n m w=>?_
   rcases w with w|⟨_,rfl,rfl,rfl,rfl⟩|w|w
   . simp [Ex.op] at w
   . refine .inr ⟨rfl,x,ns.length,z.1.en _ _ T,z.1.s.hp _ _ ?_ (by simp),AW _⟩;rw [L];exact ATO (z.1.s.fl U) ((qY _ _ _ _).trans (by simp)) (by simp)
   . simp [Ex.op] at w
   . simp [Ex.op] at w
 . obtain ⟨a,b,c,rfl⟩:=AbQ y;have u:=l 0 a rfl env g.push (P (by decide));have z:=l 1 b rfl env (((BN G a env g.push).2.add 2 0 []).uni (BN G a env g.push).1 (BN G a env g.push).2.nx) (by grind);have S:=l 2 c rfl env (BN G b env (((BN G a env g.push).2.add 2 0 []).uni (BN G a env g.push).1 (BN G a env g.push).2.nx)).2 (by grind)
   exact f (by decide) _ (AKB G nm nu ns a b c al env g) (by
    exact Vi.cast ((((((v.trans u.1).more (.add (.inl ⟨by decide,rfl,rfl⟩))).more (Sx.uni _ _ _)).trans z.1).trans S.1).more (Sx.uni _ _ _)) (by simp only [CA,Av,Nat.reduceAdd,Aw,A3,Ax]))
 . obtain ⟨a,rfl⟩:=Ti.1 y;cases al with
   |nil=>simp [asB] at n4
   |cons b al=>
   obtain ⟨d,hd⟩:=kH (show Nc G.dt (b::al)=0 from Z);obtain ⟨c,S,_⟩:=hd b (AY);obtain ⟨D,con,F,_⟩:=UW S;have Q:=AE F;have h9:=R.vr D Q;have u:=l 0 a rfl env (g.push.frs D.vars.toNat) (P (by decide));obtain ⟨x,T,L⟩:=u.2;rw [show (g.push.frs D.vars.toNat).en.length=g.en.length+1 by simp [GS.push,GS.frs]] at T
   have z:=fun t=>AKZ (sc:=sc) R Q (al:=b::al) (fun e h5=>⟨h4 e h5,by
    grind [arity]⟩) env (Af g.push.nx D.vars.toNat) t (GS.add (((BN G a env (g.push.frs D.vars.toNat)).2.add 5 d (Af g.push.nx D.vars.toNat)).uni (BN G a env (g.push.frs D.vars.toNat)).1 (BN G a env (g.push.frs D.vars.toNat)).2.nx) 0 0 []) B
   have Y:=Vi.trans (.step (Sx.add (eZ _))) (z (((BN G a env (g.push.frs D.vars.toNat)).2.add 5 d (Af g.push.nx D.vars.toNat)).uni (BN G a env (g.push.frs D.vars.toNat)).1 (BN G a env (g.push.frs D.vars.toNat)).2.nx).nx)
   refine fin _ (ADU G nm nu ns [a] b al env g S F) (by
    exact Vi.cast ((((((v.more (Sx.V5 _ _)).trans u.1).more (.add (.inr (.inl ⟨rfl,D,by omega,by grind,by simp;omega⟩)))).more (Sx.uni _ _ _)).trans Y)) (by simp only [CA,Aw,A3])) fun U j k n m w=>?_
   rcases w with w|w|⟨_,rfl,rfl,rfl,a',d',c',e1,e2,rfl⟩|w
   . simp [Ex.op] at w
   . simp [Ex.op] at w
   . cases e1;rw [S] at e2;cases e2;refine .inr ⟨rfl,x,D.vars.toNat,Y.en _ _ T,Y.s.hp _ _ ?_ (by simp),D7 _⟩;rw [L];exact ATO (Y.s.fl U) ((qY _ _ _ _).trans (by simp)) (by simp)
   . simp [Ex.op] at w
 . obtain ⟨a,rfl⟩:=Ti.1 y;simp [nsB] at n3;have u:=l 0 a rfl _ (g.push.frs ns.length) (by simpa [Ct] using B.with (ns:=ns) (ts:=Af g.push.nx ns.length) (by simp))
   refine fin _ (ADV G nm nu ns a al env g) (by
    rw [Gg (by decide) n4];exact Vi.cast (((v.more (Sx.V5 _ _)).trans u.1).more (.add (.inr (.inr (.inr (.inr ⟨rfl,rfl,by simp,by simp;omega⟩)))))) (by simp only [CA,Cw,Aw,A3])) fun U j k n m w=>?_
   rcases w with w|w|w|⟨_,rfl,rfl,rfl,rfl⟩
   . simp [Ex.op] at w
   . simp [Ex.op] at w
   . simp [Ex.op] at w
   . exact .inl ⟨rfl,_,(qY _ _ _ _).trans (by simp [Ex.names]),AW _⟩
 . refine f (by decide) _ (ADW G nm nu ns ks al env g) (((((v.trans (sL (E (by decide)) 0 (p (by decide)) env g.push B)).more (.add (eZ _))).more (.add (.inr (.inr (.inr (.inr ⟨rfl,rfl,by simp,?_⟩)))))).more (Sx.uni _ _ _)));simp [QQ];omega
 . refine f (by decide) _ (ADX G nm nu ns ks al env g) ((v.trans (nU (E (by decide)) (fun i r s=>(Sx.add (s:=s) (k:=1) (n:=0) (ar:=[]) (.inl ⟨by decide,rfl,rfl⟩)).trans (Sx.uni _ _ _)) 0 (p (by decide)) env 0 g.push B)).more (.add (.inl ⟨?_,rfl,rfl⟩)))
   grind
 . exact f (by decide) _ (ADY G nm nu ns ks al env g) ((((((v.more (.add (.inl ⟨by decide,rfl,rfl⟩))).more (.add (eZ _))).more (.add (.inr (.inr (.inr (.inl ⟨by decide,rfl,rfl⟩)))))).more (.add (.inr (.inr (.inr (.inl ⟨by decide,rfl,rfl⟩)))))).more (.add (.inl ⟨by decide,rfl,rfl⟩))).trans (nU (E (by decide)) (fun i r s=>Sx.uni _ _ _) 0 (p (by decide)) env 0 _ B))
 . subst y;exact f (by decide) _ (dI G (by decide) nm nu ns [] al env g) (v.more (.add (.inl ⟨by decide,rfl,rfl⟩)))
 . obtain ⟨a,rfl⟩:=Ti.1 y
   exact f (by decide) _ (ADZ G nm nu ns a al env g) (by
    exact Vi.cast ((((v.trans (l 0 a rfl env g.push (P (by decide))).1).more (.add (.inl ⟨by decide,rfl,rfl⟩))).more (Sx.uni _ _ _)).more (.add (eZ _))) (by simp only [CA,Aw,A3]))
 . obtain ⟨a,b,rfl⟩:=AVK y;have u:=l 0 a rfl env g.push (P (by decide));have z:=l 1 b rfl _ ((BN G a env g.push).2.add 1 0 []) (by simpa [Ct,dT] using B.AF7 nm (BN G a env g.push).2.nx)
   exact f (by decide) _ (AD0 G nm nu ns a b al env g) (by
    exact Vi.cast (((((v.trans u.1).more (.add (.inl ⟨by decide,rfl,rfl⟩))).trans z.1).more (Sx.uni _ _ _))) (by simp only [CA,Av,Aw,A3]))
end
theorem Ym (l:List Nd):∀(k:Nat) (st:List Nat) (n x v:Nat),st[x]?=some v->v≠0->(HO l k st n).2[x]?=some v
 |0,st,n,x,v,h,_=>h
 |k+1,st,n,x,v,h,f=>by
  rw [HO];simp only;split
  . rename_i c;have b:rtN l n≠x:=fun e=>by rw [e,h] at c;simp at c;exact f c
    have g:∀(us:List Nat) (q:Bool×List Nat),q.2[x]?=some v->(us.foldl (fun (q:Bool×List Nat) a=>if q.1 then HO l k q.2 a else q) q).2[x]?=some v:=by
     intro us
     induction us with
     |nil=>intro q h;exact h
     |cons a us i=>
      intro q h;rw [BD];refine i _ ?_;split
      . exact Ym l k q.2 a x v h f
      . exact h
    have d:=g (((l[rtN l n]?).map Nd.ar).getD []) (true,st.set (rtN l n) 1) (by rw [Bv b];exact h);split
    . rw [Bv b];exact d
    . exact d
  . exact h
def c2 (st:List Nat):Nat:=st.countP (·==2)
theorem Aa7 (st:List Nat):c2 st<=st.length:=WL
theorem AYN {st:List Nat} {r:Nat} (h:st[r]?=some v) (a:v≠2):c2 (st.set r 2)=c2 st+1:=by
 grind [A7,AP,c2]
theorem AUL {st:List Nat} {r:Nat} (h:st[r]?=some 0):c2 (st.set r 1)=c2 st:=by
 grind [A7,AP,c2]
structure ACJ (l:List Nd) (st:List Nat) (d:Nat->Nat):Prop where
 len:st.length=l.length
 rk:∀r,st[r]?=some 2->d r<=c2 st/\∃x,l[r]?=some x/\x.p=r/\∀a∈x.ar,st[rtN l a]?=some 2/\d (rtN l a) < d r
theorem xX {l:List Nd} (z:E8 l):∀(k:Nat) (st:List Nat) (n:Nat) (d:Nat->Nat),zs st < k->ACJ l st d->n < l.length->(HO l k st n).1=true->
 ∃P,ACJ l (HO l k st n).2 P/\(∀x,st[x]?=some 2->P x=d x)/\(HO l k st n).2[rtN l n]?=some 2
 |0,st,n,d,hz,_,_,_=>by omega
 |k+1,st,n,d,hz,R,hn,j=>by
  obtain ⟨x,o,N⟩:=z.root hn;rw [HO] at j ⊢;simp only at j ⊢;generalize hr:rtN l n=r at *;by_cases s:st[r]?=some 0
  . rw [if_pos s] at j ⊢;simp only [o,Ap,BH] at j ⊢;have L:r < st.length:=(AG.1 s).1;have h6:=AJN s (show (1:Nat)≠0 by decide)
    have B:ACJ l (st.set r 1) d:=by
     refine ⟨by simp [R.len],fun m f=>?_⟩;have F:r≠m:=fun e=>by grind
     rw [Bv F] at f;obtain ⟨t,y,T,hyp,Q⟩:=R.rk m f;refine ⟨by rw [AUL s];exact t,y,T,hyp,fun a w=>?_⟩;obtain ⟨h3,v⟩:=Q a w;exact ⟨by grind,v⟩
    have u:(st.set r 1)[r]?=some 1:=Bq L
    have Z:∀(us:List Nat) (q:List Nat) (e:Nat->Nat),(∀a∈us,a < l.length)->zs q < k->ACJ l q e->q[r]?=some 1->(us.foldl (fun (q:Bool×List Nat) a=>if q.1 then HO l k q.2 a else q) (true,q)).1=true->
     ∃g,ACJ l (us.foldl (fun (q:Bool×List Nat) a=>if q.1 then HO l k q.2 a else q) (true,q)).2 g/\(∀x:Nat,q[x]?=some 2->g x=e x)/\(∀x:Nat,q[x]?=some 2->(us.foldl (fun (q:Bool×List Nat) a=>if q.1 then HO l k q.2 a else q) (true,q)).2[x]?=some 2)/\
      (∀a∈us,(us.foldl (fun (q:Bool×List Nat) a=>if q.1 then HO l k q.2 a else q) (true,q)).2[rtN l a]?=some 2)/\(us.foldl (fun (q:Bool×List Nat) a=>if q.1 then HO l k q.2 a else q) (true,q)).2[r]?=some 1:=by
     intro us
     induction us with
     |nil=>grind
     |cons a us ih=>
      intro q e S p hq t h;rw [BD,if_pos rfl] at h ⊢;have E:=dJ l k q a;have h5:=fun x o=>Ym l k q a x 2 o (by decide);have D:=Ym l k q a r 1 t (by decide);have i:=xX z k q a e p hq (S a (AY));change (us.foldl _ (HO l k q a)).1=true at h;generalize hw:HO l k q a=wp at *;obtain ⟨wb,ws⟩:=wp
      . cases wb with
        |false=>rw [iB] at h;cases h
        |true=>
         obtain ⟨d1,U,g2,g3⟩:=i rfl;obtain ⟨g,f1,f2,f3,f4,f5⟩:=ih ws d1 (fun b Y=>S b (AZ _ Y)) (Nat.lt_of_le_of_lt E.2 p) U D h
         grind
    have c:(x.ar.foldl (fun (q:Bool×List Nat) a=>if q.1 then HO l k q.2 a else q) (true,st.set r 1)).1=true:=j;obtain ⟨g,f1,f2,f3,f4,f5⟩:=Z x.ar (st.set r 1) d (z.ar r x o) (by omega) B u c;generalize x.ar.foldl (fun (q:Bool×List Nat) a=>if q.1 then HO l k q.2 a else q) (true,st.set r 1)=q at *;rw [if_pos c];have K:r < q.2.length:=(AG.1 f5).1;have hc:=AYN f5 (show (1:Nat)≠2 by decide);refine ⟨fun m=>if m=r then c2 q.2+1 else g m,⟨by simp [f1.len],fun m f=>?_⟩,fun m f=>?_,Bq K⟩
    . by_cases e:m=r
      . subst e;refine ⟨by grind,x,o,N,fun a w=>?_⟩;have v:=f4 a w;have G:rtN l a≠m:=fun e=>by grind
        refine ⟨by grind,?_⟩;simp only [if_neg G,if_true];have:=(f1.rk _ v).1;omega
      . rw [Bv (A5 e)] at f;obtain ⟨t,y,T,hyp,Q⟩:=f1.rk m f
        grind
    grind
  grind
theorem xW {l:List Nd} (i:E8 l):∀(us:List Nat) (st:List Nat) (d:Nat->Nat),(∀a∈us,a < l.length)->zs st<=l.length->ACJ l st d->AHR l (l.length+1) st us=true->
 ∃b e,ACJ l b e/\(∀x:Nat,st[x]?=some 2->b[x]?=some 2)/\∀a∈us,b[rtN l a]?=some 2
 |[],st,d,_,_,f,_=>⟨st,d,f,fun _ h=>h,fun a c=>by simp at c⟩
 |n::us,st,d,j,p,f,h=>by
  rw [AHR] at h;split at h
  . rename_i m;obtain ⟨d1,k,q,r⟩:=xX i (l.length+1) st n d (by omega) f (j n (AY)) m;have g:=dJ l (l.length+1) st n;obtain ⟨b,e,f1,f2,f3⟩:=xW i us _ d1 (fun a c=>j a (AZ _ c)) (Ai g.2 p) k h;refine ⟨b,e,f1,fun x o=>f2 x (Ym l _ st n x 2 o (by decide)),fun a c=>?_⟩
    grind
  . cases h
theorem AQO {l:List Nd} (p:E8 l) (h:qD l=true):∃d,FR l d:=by
 have g:ACJ l (AH l.length 0) (fun _=>0):=⟨by simp,fun r b=>by
  rw [List.getElem?_replicate] at b;split at b<;>cases b⟩
 obtain ⟨st,d,c,_,k⟩:=xW p (Aj l.length) _ _ (fun a f=>Cr.1 f) (AT1 l.length) g h;refine ⟨fun r=>if st[r]?=some 2 then d r else 0,fun r x i q a f=>?_,fun r=>?_⟩
 . have b:st[r]?=some 2:=by
    have:=k r (Cr.2 (AG.1 i).1)
    rwa [Iq i,q] at this
   obtain ⟨_,y,j,_,m⟩:=c.rk r b;rw [i] at j;cases j;obtain ⟨n,o⟩:=m a f;simp only [if_pos b,if_pos n];exact o
 . by_cases e:st[r]?=some 2
   . simp only [if_pos e];have:=(c.rk r e).1;have:=Aa7 st;have:=c.len;omega
   . simp only [if_neg e];omega
open Go.Proofs.Tryz
set_option maxRecDepth 100000
set_option maxHeartbeats 40000000
noncomputable section
abbrev Yb:=mX 4 f4 99 ([3]++lq [13,18,23,30,35,41,46,53,58,63,69,76,83,88,94]) [.t 2]
instance FK:Good Yb:=gdX func4
def OA:=C8 Yb [] fun c a b d e=>G c [a,b,d,e]
def Lg:=lpC 0 (OA .skip .skip .skip .skip)
def Py:=lpC 1 (OA Lg .skip .skip .skip)
def XU:=lpC 2 (OA Lg Py .skip .skip)
def oY:=lpC 3 (OA Lg Py XU .skip)
def AC1:=(OA Lg Py XU oY).1
theorem AEI:Inn Yb AC1 99:=inX ntmps4
abbrev Vz:=mX 7 f7 27 [] [.t 4]
instance AU8:Good Vz:=gdX func7
def dV:=C8 Vz [] fun c a=>G c [a]
def lU:=lpC 0 (dV .skip)
def z8:=(dV lU).1
theorem AAU:Inn Vz z8 27:=inX ntmps7
abbrev Ql:=mX 8 f8 36 (lq [17,23,29]) [.t 4]
instance Lp:Good Ql:=gdX func8
def YN:=C8 Ql [] fun c a=>G c [a]
def cO:=lpC 0 (YN .skip)
def o3:=(YN cO).1
theorem qZ:Inn Ql o3 36:=inX ntmps8
abbrev Yc:=mX 9 f9 91 (lq [18,24,30,36,42,48,57,63,72,82]) [.t 4]
instance FL:Good Yc:=gdX func9
def YM:=C8 Yc [] fun c a b=>G c [a,b]
def XV:=lpC 0 (YM .skip .skip)
def oZ:=lpC 1 (YM XV .skip)
def AC2:=(YM XV oZ).1
theorem AEJ:Inn Yc AC2 91:=inX ntmps9
end
def jL (l:List M):Bool:=l.all fun s=>decide (s.length<=40)
theorem R9 (n:Nat):decide ((40:Int) < (n:Int))=decide (40 < n):=decide_eq_decide.2 (by omega)
theorem AH4 (n:Nat):decide ((10:Int) < (n:Int))=decide (10 < n):=decide_eq_decide.2 (by omega)
theorem AVJ (n:Nat):decide ((n:Int)<=(10:Int))=decide (n<=10):=decide_eq_decide.2 (by omega)
theorem N1 (l:List M) (A:X):AS Tzp 7 [.d (.sl (l.map CG)),.d (.int .i64 10)] A (fun v H=>v= .d (.bool (decide (l.length<=10)&&jL l))/\H=A):=by
 refine AAU.go ?_;rw [B4];refine W.slot 0 (fun g=>?_);simp only [DR,if_true,I.Ep,AA] at g;(repeat' refine wQ ?_<;>simp only [go_sem]);refine lpK (fun (i:Nat)=>[(5,A1 i)]) (fun _=>A) (fun i=>i<=l.length/\i<=11/\jL (l.take i)=true) (fun i=>l.length - i) ?_ 0 ⟨by simp,by simp,by simp [jL]⟩;rintro i ⟨q,n,e⟩ p;by_cases a:i < l.length
 . obtain ⟨x,k⟩:=Ak a;have f:=Au (J:=CG) k;simp only [CG] at f;have c:IntKind.i64.wrap ((i:Int)+1)=((i+1:Nat):Int):=by grind [B2]
   by_cases b:i<=10
   . by_cases m:40 < x.length
     . have o:(decide (l.length<=10)&&jL l)=false:=by
        rw [WE];right;rw [M5];intro h;rw [jL,Ao] at h;have:=h x (AE k);rw [decide_eq_true_eq] at this;omega
       (repeat' refine wP ?_<;>simp only [BI a,f,AVJ,decide_eq_true b,R9,decide_eq_true m,AA,go_sem]);rw [o]
     . (repeat' refine wQ ?_<;>simp only [BI a,f,c,AVJ,decide_eq_true b,R9,decide_eq_false m,AA,go_sem])
       exact p (i+1) ⟨by omega,by omega,by
        rw [Aa k,jL,ZB];rw [jL] at e
        grind⟩ (by omega)
   . have j:decide (l.length<=10)=false:=decide_eq_false (by omega);(repeat' refine wP ?_<;>simp only [BI a,AVJ,decide_eq_false b,AA,j,go_sem])
     try rw [Bool.false_and]
 . have d:i=l.length:=by omega
   subst d;rw [AR (by omega)] at e;(repeat' refine wP ?_<;>simp only [B5 a,AVJ,AA,go_sem])
   grind
mutual
def TE.sm:TE->Prop
 | .mk _ n l=>n.length<=40/\TE.sms l
def TE.sms:List TE->Prop
 |[]=>True
 |t::l=>t.sm/\TE.sms l
end
def AIN (l:List M):Prop:=l.length<=10/\∀s∈l,s.length<=40
mutual
def Ex.sm:Ex->Prop
 | .mk _ n _ ns ks al=>n.length<=40/\AIN ns/\Ex.sms ks/\Al.sms al
def Ex.sms:List Ex->Prop
 |[]=>True
 |t::l=>t.sm/\Ex.sms l
def Al.sm:Al->Prop
 | .mk c vs b=>c.length<=40/\AIN vs/\b.sm
def Al.sms:List Al->Prop
 |[]=>True
 |t::l=>t.sm/\Al.sms l
end
theorem TE.SE:∀ {l:List TE},TE.sms l↔∀t∈l,t.sm
 |[]=>by simp [TE.sms]
 |t::l=>by simp [TE.sms,TE.SE (l:=l)]
theorem Ex.SE:∀ {l:List Ex},Ex.sms l↔∀t∈l,t.sm
 |[]=>by simp [Ex.sms]
 |t::l=>by simp [Ex.sms,Ex.SE (l:=l)]
theorem Al.SE:∀ {l:List Al},Al.sms l↔∀t∈l,t.sm
 |[]=>by simp [Al.sms]
 |t::l=>by simp [Al.sms,Al.SE (l:=l)]
theorem ABF {l:List M} (h:(decide (l.length<=10)&&jL l)=true):AIN l:=by
 simp only [jL,AM,decide_eq_true_eq,Ao] at h;exact h
theorem GQ {p:α->Prop} {l:List α} {i:Nat} {x:α} (h:∀t∈l.take i,p t) (b:l[i]?=some x) (c:p x):∀t∈l.take (i+1),p t:=by
 intro t a;rw [Aa b,A2,A9] at a
 grind
theorem TE.D3 {l:List TE} {i:Nat} {x:TE} (h:l[i]?=some x):TE.AQ (l.take (i+1))=TE.AQ (l.take i)+x.size:=by
 rw [Aa h,TE.CF];simp [TE.AQ]
theorem Ex.D3 {l:List Ex} {i:Nat} {x:Ex} (h:l[i]?=some x):Ex.AQ (l.take (i+1))=Ex.AQ (l.take i)+x.size:=by
 rw [Aa h,Ex.CF];simp [Ex.AQ]
theorem Al.D3 {l:List Al} {i:Nat} {x:Al} (h:l[i]?=some x):Al.AQ (l.take (i+1))=Al.AQ (l.take i)+x.size:=by
 rw [Aa h,Al.CF];simp [Al.AQ]
def AUA (Gn:Prop) (size q:Nat) (b:Bool) (z:Int):Prop:=b=true->Gn/\∃q':Nat,z=q'/\size+q'=q
theorem sI {q:Nat}:decide ((q:Int) < 0)=false:=decide_eq_false (by omega)
theorem mW (j:Nat):∀(N:Nat) (t:TE) (q:Nat) (A:X),t.size<=N->q<=1000->A.C j=some [.d (.int .i64 q)]->
 AS Tzp 8 [teA t,.gp j 0] A (fun v H=>∃b z,(v= .d (.bool b)/\H=A.AI j [.d (.int .i64 z)])/\AUA t.sm t.size q b z):=by
 intro N
 induction N with
 |zero=>intro t q A h;have:=TE.size_pos t;omega
 |succ N G=>
 rintro ⟨k,n,l⟩ q A U hq B;simp only [TE.size] at U;refine qZ.go ?_;rw [B4,teA,TE.A6];simp only [AB,AJ];generalize u:(fun (v:I) (H:X)=>∃b z,(v=D1 b/\H=A.AI j [A1 z])/\AUA (TE.mk k n l).sm (TE.mk k n l).size q b z)=Q;have e:∀z,Q (D1 false) (A.AI j [A1 z]):=fun z=>by rw [<- u];exact ⟨false,z,⟨rfl,rfl⟩,fun h=>by cases h⟩
 have R:∀c:Nat,n.length<=40->(∀t∈l,t.sm)->1+TE.AQ l+c=q->Q (D1 true) (A.AI j [A1 c]):=fun c h1 h2 T=>by
  rw [<- u];exact ⟨true,c,⟨rfl,rfl⟩,fun _=>⟨by grind [TE.sm,TE.SE],c,rfl,by rw [TE.size];exact T⟩⟩
 clear u;rcases RL q with rfl|Z
 . have a:IntKind.i64.wrap (((0:Nat):Int) - 1)=-1:=by decide
   have E:decide ((-1:Int) < 0)=true:=by decide
   (repeat' (first|refine wQ ?_|(refine W.By Lp (X.le_refl _) ?_)|fail)<;>try simp only [B,a,E,AD,Ew,E1,A3,go_sem]);exact e _
 obtain ⟨q,rfl⟩:∃m,q=m+1:=⟨q - 1,by omega⟩;have a:IntKind.i64.wrap (((q+1:Nat):Int) - 1)=(q:Int):=by grind [B2]
 by_cases g:40 < n.length
 . (repeat' (first|refine wQ ?_|(refine W.By Lp (X.le_refl _) ?_)|fail)<;>try simp only [B,a,sI,R9,decide_eq_true g,AD,Ew,E1,A3,go_sem]);exact e _
 (repeat' refine wQ ?_<;>simp only [B,a,sI,R9,decide_eq_false g,AD,Ew,E1,A3,go_sem])
 refine lpK (fun (y:Nat×Nat)=>[(5,A1 y.1)]) (fun y=>A.AI j [A1 y.2])
  (fun y=>y.1<=l.length/\(∀t∈l.take y.1,t.sm)/\TE.AQ (l.take y.1)+y.2=q) (fun y=>l.length - y.1) ?_ (0,q) ⟨by simp,by simp,by simp [TE.AQ]⟩
 rintro ⟨i,c⟩ ⟨P,f,r⟩ ih;simp only at P f r;have w:=TE.CL (l.take i);rw [Bs,I4 P] at w;by_cases d:i < l.length
 . obtain ⟨x,s⟩:=Ak d;have L:=Au (J:=TE.J) s;have F:=wS i;have h4:=TE.MA (AE s);have K:=G x c (A.AI j [A1 c]) (by omega) (by omega) BB;have h0:=TE.D3 s;have D:=fun Y=>GQ (p:=TE.sm) f s Y;obtain ⟨xk,xn,xl⟩:=x;simp only [teA,TE.A6,AB,AJ] at L K;(repeat' (first|refine wQ ?_|(refine AN.mk rfl K ?_;rintro v H ⟨b,z,⟨rfl,rfl⟩,o⟩;cases b<;>rw [C4])|(refine W.By Lp (X.le_refl _) ?_)|fail)<;>try simp only [BI d,L,F,AA,go_sem])
   . exact e z
   . obtain ⟨S,q2,rfl,g2⟩:=o rfl;exact ih (i+1,q2) ⟨by grind,D S,by grind⟩ (by grind)
 . rw [AR (by omega)] at f r;(repeat' (first|refine wQ ?_|(refine W.By Lp (X.le_refl _) ?_)|fail)<;>try simp only [B5 d,AA,go_sem])
   grind
theorem AA1 (j:Nat):∀(N:Nat) (e:Ex) (q:Nat) (A:X),e.size<=N->q<=1000->A.C j=some [.d (.int .i64 q)]->
 AS Tzp 9 [exA e,.gp j 0] A (fun v H=>∃b z,(v= .d (.bool b)/\H=A.AI j [.d (.int .i64 z)])/\AUA e.sm e.size q b z):=by
 intro N
 induction N with
 |zero=>intro t q A h;have:=Ex.size_pos t;omega
 |succ N h6=>
 rintro ⟨o,n,u,ns,ks,al⟩ q A hN hq R;simp only [Ex.size] at hN;refine AEJ.go ?_;rw [B4,exA,Ex.A6];simp only [AB,AJ];generalize hQ:(fun (v:I) (H:X)=>∃b z,(v=D1 b/\H=A.AI j [A1 z])/\AUA (Ex.mk o n u ns ks al).sm (Ex.mk o n u ns ks al).size q b z)=Q;have c:∀z,Q (D1 false) (A.AI j [A1 z]):=fun z=>by rw [<- hQ];exact ⟨false,z,⟨rfl,rfl⟩,fun h=>by cases h⟩
 have hd:∀w:Nat,n.length<=40->AIN ns->(∀t∈ks,t.sm)->(∀t∈al,t.sm)->1+Ex.AQ ks+Al.AQ al+w=q->Q (D1 true) (A.AI j [A1 w]):=fun w h1 h2 h3 h4 h5=>by
  rw [<- hQ];exact ⟨true,w,⟨rfl,rfl⟩,fun _=>⟨by grind [Ex.sm,Ex.SE,Al.SE],w,rfl,by rw [Ex.size];exact h5⟩⟩
 clear hQ;have f:=fun A=>N1 ns A;rcases RL q with rfl|hf
 . have d:IntKind.i64.wrap (((0:Nat):Int) - 1)=-1:=by decide
   have h8:decide ((-1:Int) < 0)=true:=by decide
   (repeat' (first|refine wQ ?_|(refine W.By FL (X.le_refl _) ?_)|fail)<;>try simp only [R,d,h8,AD,Ew,E1,A3,go_sem]);exact c _
 obtain ⟨q,rfl⟩:∃m,q=m+1:=⟨q - 1,by omega⟩;have d:IntKind.i64.wrap (((q+1:Nat):Int) - 1)=(q:Int):=by grind [B2]
 by_cases g:40 < n.length
 . (repeat' (first|refine wQ ?_|(refine W.By FL (X.le_refl _) ?_)|fail)<;>try simp only [R,d,sI,R9,decide_eq_true g,AD,Ew,E1,A3,go_sem]);exact c _
 cases T:(decide (ns.length<=10)&&jL ns) with
 |false=>
  rw [T] at f;(repeat' (first|refine wQ ?_|(refine W.By FL (X.le_refl _) ?_)|refine AN.det (f _) ?_|fail)<;>try simp only [R,d,sI,R9,decide_eq_false g,AD,Ew,E1,A3,go_sem]);exact c _
 |true=>
 rw [T] at f;by_cases l:10 < ks.length
 . (repeat' (first|refine wQ ?_|(refine W.By FL (X.le_refl _) ?_)|refine AN.det (f _) ?_|fail)<;>try simp only [R,d,sI,R9,decide_eq_false g,AH4,AA,decide_eq_true l,AD,Ew,E1,A3,go_sem]);exact c _
 by_cases E:10 < al.length
 . (repeat' (first|refine wQ ?_|(refine W.By FL (X.le_refl _) ?_)|refine AN.det (f _) ?_|fail)<;>try simp only [R,d,sI,R9,decide_eq_false g,AH4,AA,decide_eq_false l,decide_eq_true E,AD,Ew,E1,A3,go_sem]);exact c _
 (repeat' (first|refine wQ ?_|refine AN.det (f _) ?_|fail)<;>try simp only [R,d,sI,R9,decide_eq_false g,AH4,AA,decide_eq_false l,decide_eq_false E,AD,Ew,E1,A3,go_sem])
 refine lpK (fun (y:Nat×Nat)=>[(5,A1 y.1)]) (fun y=>A.AI j [A1 y.2])
  (fun y=>y.1<=ks.length/\(∀t∈ks.take y.1,t.sm)/\Ex.AQ (ks.take y.1)+y.2=q) (fun y=>ks.length - y.1) ?_ (0,q) ⟨by simp,by simp,by simp [Ex.AQ]⟩
 rintro ⟨i,w⟩ ⟨hi,L,Y⟩ ih;simp only at hi L Y;by_cases a:i < ks.length
 . obtain ⟨x,D⟩:=Ak a;have G:=Au (J:=Ex.J) D;have P:=wS i;have h0:=Ex.MA (AE D);have S:=h6 x w (A.AI j [A1 w]) (by omega) (by omega) BB;have U:=Ex.D3 D;have K:=fun hp=>GQ (p:=Ex.sm) L D hp;obtain ⟨xo,xn,xu,ha,hb,h9⟩:=x;simp only [exA,Ex.A6,AB,AJ] at G S;(repeat' (first|refine wQ ?_|(refine AN.mk rfl S ?_;rintro v H ⟨b,z,⟨rfl,rfl⟩,r⟩;cases b<;>rw [C4])|(refine W.By FL (X.le_refl _) ?_)|fail)<;>try simp only [BI a,G,P,AA,go_sem])
   . exact c z
   . obtain ⟨g1,q2,rfl,g2⟩:=r rfl;exact ih (i+1,q2) ⟨by grind,K g1,by grind⟩ (by grind)
 . rw [AR (by omega)] at L Y;clear ih;(repeat' refine wQ ?_<;>simp only [B5 a,AA,go_sem])
   refine lpK (fun (y:Nat×Nat)=>[(6,A1 y.1)]) (fun y=>A.AI j [A1 y.2])
    (fun y=>y.1<=al.length/\(∀t∈al.take y.1,t.sm)/\Al.AQ (al.take y.1)+y.2=w) (fun y=>al.length - y.1) ?_ (0,w) ⟨by simp,by simp,by simp [Al.AQ]⟩
   rintro ⟨i2,q2⟩ ⟨h7,s,F⟩ ih;simp only at h7 s F;by_cases a:i2 < al.length
   . obtain ⟨x,D⟩:=Ak a;have G:=Au (J:=Al.J) D;have P:=wS i2;have h0:=Al.MA (AE D);have U:=Al.D3 D;have K:=fun hp=>GQ (p:=Al.sm) s D hp;obtain ⟨xc,xvs,xb⟩:=x;rw [Al.size] at h0 U;have S:=h6 xb q2 (A.AI j [A1 q2]) (by omega) (by omega) BB;have B:=fun A=>N1 xvs A;obtain ⟨xo,xn,xu,ha,hb,h9⟩:=xb;simp only [exA,Al.A6,Ex.A6,AB,AJ] at G S;by_cases k:40 < xc.length
     . (repeat' (first|refine wQ ?_|(refine W.By FL (X.le_refl _) ?_)|fail)<;>try simp only [BI a,G,R9,decide_eq_true k,AA,go_sem]);exact c _
     cases Z:(decide (xvs.length<=10)&&jL xvs) with
     |false=>
      rw [Z] at B;(repeat' (first|refine wQ ?_|(refine W.By FL (X.le_refl _) ?_)|refine AN.det (B _) ?_|fail)<;>try simp only [BI a,G,R9,decide_eq_false k,AA,go_sem]);exact c _
     |true=>
     rw [Z] at B;(repeat' (first|refine wQ ?_|(refine AN.mk rfl S ?_;rintro v H ⟨b,z,⟨rfl,rfl⟩,r⟩;cases b<;>rw [C4])|(refine W.By FL (X.le_refl _) ?_)|refine AN.det (B _) ?_|fail)<;>try simp only [BI a,G,P,R9,decide_eq_false k,AA,go_sem])
     . exact c z
     . obtain ⟨g1,q3,rfl,g2⟩:=r rfl;exact ih (i2+1,q3) ⟨by grind,K (by grind [Al.sm,ABF]),by grind⟩ (by grind)
   . rw [AR (by omega)] at s F;(repeat' (first|refine wQ ?_|(refine W.By FL (X.le_refl _) ?_)|fail)<;>try simp only [B5 a,AA,go_sem])
     grind [ABF]
def CE.sm (c:CE):Prop:=c.name.length<=40/\c.args.length<=10/\∀t∈c.args,t.sm/\t.size<=200
def DE.sm (d:DE):Prop:=d.name.length<=40/\AIN d.vars/\d.cons.length<=10/\∀c∈d.cons,c.sm
def FE.sm (f:FE):Prop:=f.name.length<=40/\AIN f.params/\f.body.sm/\f.body.size<=200
def Pg.sm (p:Pg):Prop:=(p.data.length<=14/\∀d∈p.data,d.sm)/\p.Ca.length<=26/\∀f∈p.Ca,f.sm
theorem AY2 (n:Nat):decide ((14:Int) < (n:Int))=decide (14 < n):=decide_eq_decide.2 (by omega)
theorem AbL (n:Nat):decide ((26:Int) < (n:Int))=decide (26 < n):=decide_eq_decide.2 (by omega)
def Ut (fs:List FE):Nat:=(fs.map fun f=>f.body.size).sum
theorem AOL {fs:List FE} {i:Nat} {f:FE} (h:fs[i]?=some f):Ut (fs.take (i+1))=Ut (fs.take i)+f.body.size:=by
 rw [Aa h,Ut,A4,List.sum_append];simp [Ut]
theorem wH (p:Pg) (A:X):AS Tzp 4 [pgA p] A (fun v H=>∃b,(v= .d (.bool b)/\H=A)/\(b=true->p.sm/\Ut p.Ca<=200)):=by
 refine AEI.go ?_;rw [Dx];obtain ⟨ds,fs⟩:=p;simp only [pgA,Pg.J,AB,AJ];generalize hQ:(fun (v:I) (H:X)=>∃b,(v=D1 b/\H=A)/\(b=true->Pg.sm ⟨ds,fs⟩/\Ut fs<=200))=Q;have g:Q (D1 false) A:=by grind
 have h8:Pg.sm ⟨ds,fs⟩->Ut fs<=200->Q (D1 true) A:=fun h h'=>by grind
 clear hQ;by_cases G:14 < ds.length
 . (repeat' refine sR ?_<;>simp only [AA,AY2,decide_eq_true G,go_sem]);exact g
 by_cases U:26 < fs.length
 . (repeat' refine sR ?_<;>simp only [AA,AY2,decide_eq_false G,AbL,decide_eq_true U,go_sem]);exact g
 (repeat' refine sQ ?_<;>simp only [AA,AY2,decide_eq_false G,AbL,decide_eq_false U,go_sem]);rintro j ⟨hj,hb⟩;obtain ⟨s,Z⟩:=AYG (z:=[I.d (.int .i64 0)]) (x:=(1,3)) ⟨hj,hb⟩;generalize hk:(A.AI j [I.d (.int .i64 0)]).BM j (1,3)=n at s Z ⊢;have m:∀q:Nat,A.le (n.AI j [A1 q]):=fun q=>B6 s hj;have h3:∀q:Nat,(n.AI j [A1 q]).C j=some [A1 q]:=fun q=>BB;clear hk;simp only [Z,E1,go_sem];(repeat' refine sQ ?_<;>simp only [AA,go_sem])
 refine lpK (fun (y:Nat×Nat)=>[(25,A1 y.1)]) (fun y=>n.AI j [A1 y.2])
  (fun y=>y.1<=ds.length/\y.2<=200/\∀d∈ds.take y.1,d.sm) (fun y=>ds.length - y.1) ?_ (0,200) ⟨by simp,by simp,by simp⟩
 rintro ⟨i,q⟩ ⟨hi,hq,R⟩ ih;simp only at hi hq R;by_cases w:i < ds.length
 . obtain ⟨d,hd⟩:=Ak w;have N:=Au (J:=DE.J) hd;have h2:=wS i;have h1:=fun hp=>GQ (p:=DE.sm) R hd hp;obtain ⟨dn,E,D⟩:=d;simp only [DE.J] at N;have k:=fun A=>N1 E A;by_cases l:40 < dn.length
   . (repeat' (first|refine sQ ?_|(refine W.By FK (σ2:=A) (m _) ?_)|fail)<;>try simp only [BI w,N,R9,decide_eq_true l,go_sem]);exact g
   cases r:(decide (E.length<=10)&&jL E) with
   |false=>
    rw [r] at k;(repeat' (first|refine sQ ?_|(refine W.By FK (σ2:=A) (m _) ?_)|refine AN.det (k _) ?_|fail)<;>try simp only [BI w,N,R9,decide_eq_false l,go_sem]);exact g
   |true=>
   rw [r] at k;by_cases T:10 < D.length
   . (repeat' (first|refine sQ ?_|(refine W.By FK (σ2:=A) (m _) ?_)|refine AN.det (k _) ?_|fail)<;>try simp only [BI w,N,R9,decide_eq_false l,AH4,decide_eq_true T,AA,go_sem]);exact g
   (repeat' (first|refine sQ ?_|refine AN.det (k _) ?_|fail)<;>try simp only [BI w,N,R9,decide_eq_false l,AH4,decide_eq_false T,AA,go_sem])
   refine lpK (fun (y:Nat×Nat)=>[(48,A1 y.1)]) (fun y=>n.AI j [A1 y.2])
    (fun y=>y.1<=D.length/\y.2<=200/\∀d∈D.take y.1,d.sm) (fun y=>D.length - y.1) ?_ (0,q) ⟨by simp,hq,by simp⟩
   rintro ⟨i1,q1⟩ ⟨h0,B,e⟩ hl;simp only at h0 B e;by_cases a:i1 < D.length
   . obtain ⟨c,hc⟩:=Ak a;have P:=Au (J:=CE.J) hc;have ha:=wS i1;have h5:=fun hp=>GQ (p:=CE.sm) e hc hp;obtain ⟨cn,ar⟩:=c;simp only [CE.J] at P;by_cases o:40 < cn.length
     . (repeat' (first|refine sQ ?_|(refine W.By FK (σ2:=A) (m _) ?_)|fail)<;>try simp only [BI a,P,R9,decide_eq_true o,go_sem]);exact g
     by_cases S:10 < ar.length
     . (repeat' (first|refine sQ ?_|(refine W.By FK (σ2:=A) (m _) ?_)|fail)<;>try simp only [BI a,P,R9,decide_eq_false o,AH4,decide_eq_true S,AA,go_sem]);exact g
     (repeat' refine sQ ?_<;>simp only [BI a,P,R9,decide_eq_false o,AH4,decide_eq_false S,AA,go_sem])
     refine lpK (fun (y:Nat×Nat)=>[(65,A1 y.1)]) (fun y=>n.AI j [A1 y.2])
      (fun y=>y.1<=ar.length/\y.2<=200/\∀t∈ar.take y.1,t.sm/\t.size<=200) (fun y=>ar.length - y.1) ?_ (0,q1) ⟨by simp,B,by simp⟩
     rintro ⟨i2,q2⟩ ⟨h9,h7,u⟩ hm;simp only at h9 h7 u;by_cases K:i2 < ar.length
     . obtain ⟨x,hx⟩:=Ak K;have h4:=Au (J:=TE.J) hx;have hg:=wS i2;have h6:=fun hp=>GQ (p:=fun t=>TE.sm t/\t.size<=200) u hx hp;have F:=mW j x.size x q2 (n.AI j [A1 q2]) (AW _) (by omega) (h3 q2);obtain ⟨xk,xn,xl⟩:=x;simp only [teA,TE.A6,AB,AJ] at h4 F;(repeat' (first|refine sQ ?_|(refine AN.mk rfl F ?_;rintro v H ⟨b,z,⟨rfl,rfl⟩,L⟩;cases b<;>rw [C4])|(refine W.By FK (σ2:=A) (B6 s hj) ?_)|fail)<;>try simp only [BI K,h4,hg,go_sem])
       . exact g
       . obtain ⟨g1,q3,rfl,g2⟩:=L rfl;exact hm (i2+1,q3) ⟨by simp only;omega,by simp only;omega,h6 ⟨g1,by omega⟩⟩ (by simp only;omega)
     . rw [AR (by omega)] at u;(repeat' refine sQ ?_<;>simp only [B5 K,ha,go_sem]);exact hl (i1+1,q2) ⟨by simp only;omega,h7,h5 ⟨by simp only;omega,by simp only;omega,u⟩⟩ (by simp only;omega)
   . rw [AR (by omega)] at e;(repeat' refine sQ ?_<;>simp only [B5 a,h2,go_sem]);exact ih (i+1,q1) ⟨by simp only;omega,B,h1 ⟨by simp only;omega,ABF r,by simp only;omega,e⟩⟩ (by simp only;omega)
 . rw [AR (by omega)] at R;clear ih;(repeat' refine sQ ?_<;>simp only [B5 w,AA,go_sem])
   refine lpK (fun (y:Nat×Nat)=>[(78,A1 y.1)]) (fun y=>n.AI j [A1 y.2])
    (fun y=>y.1<=fs.length/\y.2+Ut (fs.take y.1)<=200/\∀d∈fs.take y.1,d.sm) (fun y=>fs.length - y.1) ?_ (0,q) ⟨by simp,by simpa [Ut] using hq,by simp⟩
   rintro ⟨i1,q1⟩ ⟨h0,B,e⟩ ih;simp only at h0 B e;by_cases a:i1 < fs.length
   . obtain ⟨f,hf⟩:=Ak a;have N:=Au (J:=FE.J) hf;have h2:=wS i1;have h1:=fun hp=>GQ (p:=FE.sm) e hf hp;have hn:=AOL hf;obtain ⟨fn,Y,fb⟩:=f;have k:=fun A=>N1 Y A;have F:=AA1 j fb.size fb q1 (n.AI j [A1 q1]) (AW _) (by omega) (h3 q1);obtain ⟨xo,xn,xu,hs,hr,ho⟩:=fb;simp only [FE.J,exA,Ex.A6,AB,AJ] at N F;by_cases l:40 < fn.length
     . (repeat' (first|refine sQ ?_|(refine W.By FK (σ2:=A) (m _) ?_)|fail)<;>try simp only [BI a,N,R9,decide_eq_true l,go_sem]);exact g
     cases r:(decide (Y.length<=10)&&jL Y) with
     |false=>
      rw [r] at k;(repeat' (first|refine sQ ?_|(refine W.By FK (σ2:=A) (m _) ?_)|refine AN.det (k _) ?_|fail)<;>try simp only [BI a,N,R9,decide_eq_false l,go_sem]);exact g
     |true=>
     rw [r] at k;(repeat' (first|refine sQ ?_|(refine AN.mk rfl F ?_;rintro v H ⟨b,z,⟨rfl,rfl⟩,L⟩;cases b<;>rw [C4])|(refine W.By FK (σ2:=A) (B6 s hj) ?_)|refine AN.det (k _) ?_|fail)<;>try simp only [BI a,N,h2,R9,decide_eq_false l,go_sem])
     . exact g
     . obtain ⟨g1,q3,rfl,g2⟩:=L rfl;exact ih (i1+1,q3) ⟨by simp only;omega,by grind,h1 ⟨by simp only;omega,ABF r,g1,by simp only;omega⟩⟩ (by simp only;omega)
   . rw [AR (by omega)] at e;(repeat' (first|refine sQ ?_|(refine W.By FK (σ2:=A) (m _) ?_)|fail)<;>try simp only [B5 a,go_sem]);rw [AR (by omega)] at B;exact h8 ⟨⟨by simp only;omega,R⟩,by simp only;omega,e⟩ (by omega)
theorem AR2 (n:Nat):Ba n=[.int .i64 (n:Int)]:=rfl
def YY (r:List Nat):List DV:=[.sl (r.map Ba)]
theorem AST (r:List Nat):YY r=[.sl (r.map Ba)]:=rfl
inductive Reach (g:List (List Nat)):Nat->Nat->Prop
 |refl (v:Nat):Reach g v v
 |step {v w k:Nat} (h:w∈g.getD v []) (hr:Reach g w k):Reach g v k
theorem Reach.trans {a:Nat} (h:Reach g a b) (k:Reach g b c):Reach g a c:=by
 induction h with
 |refl=>exact k
 |step h _ d=>exact .step h (d k)
def oD (g:List (List Nat)):Prop:=∀l∈g,∀w∈l,w < g.length
theorem oD.at {g:List (List Nat)} (h:oD g) {v w:Nat} (a:w∈g.getD v []):w < g.length:=by
 rw [BG] at a;cases b:g[v]? with
 |none=>grind
 |some l=>rw [b] at a;exact h l (AE b) w a
open Classical in
noncomputable def rB (g:List (List Nat)) (i k:Nat):Bool:=decide (Reach g i k)
theorem YX {i:Nat}:rB g i k=true↔Reach g i k:=by simp [rB]
noncomputable def AFO (g:List (List Nat)) (i:Nat):List Bool:=(Aj g.length).map (rB g i)
structure AGQ (g:List (List Nat)) (v:Nat) (R R':List Bool):Prop where
 len:R'.length=R.length
 mono:∀k:Nat,R[k]?=some true->R'[k]?=some true
 self:R'[v]?=some true
 new:∀k:Nat,R'[k]?=some true->R[k]?=some true\/(Reach g v k/\∀w∈g.getD k [],R'[w]?=some true)
theorem AGQ.skip (h:R[v]?=some true):AGQ g v R R:=⟨rfl,fun _ h=>h,h,fun _ h=>.inl h⟩
structure zR (g:List (List Nat)) (v:Nat) (ws:List Nat) (R R':List Bool):Prop where
 len:R'.length=R.length
 mono:∀k:Nat,R[k]?=some true->R'[k]?=some true
 self:R'[v]?=some true
 done:∀w∈ws,R'[w]?=some true
 new:∀k:Nat,R'[k]?=some true->R[k]?=some true\/k=v\/(Reach g v k/\∀w∈g.getD k [],R'[w]?=some true)
theorem zR.start (h:v < R.length):zR g v [] R (R.set v true):=by
 refine ⟨by simp,fun k a=>?_,by simp [h],by simp,fun k a=>?_⟩
 . grind
 grind
theorem zR.next {w:Nat} {ws:List Nat} {R1 R2:List Bool} (h:zR g v ws R R1) (i:w∈g.getD v []) (k:AGQ g w R1 R2):zR g v (ws++[w]) R R2:=by
 refine ⟨k.len.trans h.len,fun q d=>k.mono q (h.mono q d),k.mono v h.self,fun x a=>?_,fun q d=>?_⟩
 . rcases A2.1 a with a|a
   . exact k.mono x (h.done x a)
   . simp at a;subst a;exact k.self
 . rcases k.new q d with b|⟨b,e⟩
   . rcases h.new q b with c|c|⟨c,f⟩
     . grind
     . grind
     . exact .inr (.inr ⟨c,fun x a=>k.mono x (f x a)⟩)
   . exact .inr (.inr ⟨.step i b,e⟩)
theorem zR.fin {R':List Bool} (h:zR g v (g.getD v []) R R'):AGQ g v R R':=by
 refine ⟨h.len,h.mono,h.self,fun k b=>?_⟩;rcases h.new k b with a|a|a
 . grind
 . subst a;exact .inr ⟨.refl k,h.done⟩
 grind
theorem AUV (o:oD g) {i:Nat} (q:i < g.length) {R':List Bool} (h:AGQ g i (AH g.length false) R'):R'=AFO g i:=by
 have r:R'.length=g.length:=by rw [h.len];simp
 have p:∀k:Nat,(AH g.length false)[k]?≠some true:=fun k f=>by
  grind
 have l:∀a b,Reach g a b->R'[a]?=some true->R'[b]?=some true:=fun a b d=>by
  induction d with
  |refl=>exact id
  |step s _ t=>
   intro j;rcases h.new _ j with e|⟨_,n⟩
   . grind
   grind
 apply Dw;intro k;by_cases f:k < g.length
 . have c:R'[k]?=some R'[k]:=by grind
   rw [AFO,Az,Ev f,Ap,c];congr 1;rw [C2,YX];constructor
   . intro m;rw [m] at c;rcases h.new k c with e|e
     . grind
     grind
   . intro d;have:=l i k d h.self
     grind
 grind [FO,AFO]
def unm (R:List Bool):Nat:=(R.filter (fun b=>!b)).length
theorem ALG:∀ {R:List Bool} {v:Nat},R[v]?=some false->unm (R.set v true)+1=unm R
 |[],v,h=>by simp at h
 |b::R,0,h=>by simp at h;subst h;simp [unm]
 |b::R,v+1,h=>by
  have:=ALG (R:=R) (v:=v) (by simpa using h);cases b<;>simp [unm] at this ⊢<;>omega
theorem AJE:∀ {R R':List Bool},R'.length=R.length->(∀k:Nat,R[k]?=some true->R'[k]?=some true)->unm R'<=unm R
 |[],[],_,_=>AW _
 |[],_::_,h,_=>by simp at h
 |_::_,[],h,_=>by simp at h
 |b::R,c::R',h,a=>by
  have:=AJE (R:=R) (R':=R') (by grind) (fun k e=>by simpa using a (k+1) (by grind));have d:=a 0
  grind [unm]
structure CB (g:List (List Nat)) (j1 j4 j5 j6 jr jw i:Nat) (cells:List I) (R:List Bool) (V:X):Prop where
 b1:V.C j1=some [.d (.sl (g.map YY))]
 b4:V.C j4=some [.ms jr g.length 1 189]
 b5:V.C j5=some [.d (.int .i64 i)]
 b6:V.C j6=some [.fn 166 [] [.gp j4 0,.gp j5 0,.gp j1 0,.gp j6 0]]
 br:V.C jr=some cells
 cl:cells.length=g.length
 ci:cells[i]?=some (.ms jw g.length 1 4)
 il:i < g.length
 bw:V.C jw=some (BP R)
 rl:R.length=g.length
 n1:jw≠j1
 n4:jw≠j4
 n5:jw≠j5
 n6:jw≠j6
 nr:jw≠jr
theorem CB.set {j5 j6 jr jw i:Nat} {cells:List I} {V:X} (h:CB g j1 j4 j5 j6 jr jw i cells R V) (R':List Bool) (a:R'.length=R.length):CB g j1 j4 j5 j6 jr jw i cells R' (V.AI jw (BP R')):=
 ⟨by rw [AD,if_neg (A5 h.n1)];exact h.b1,by rw [AD,if_neg (A5 h.n4)];exact h.b4,by rw [AD,if_neg (A5 h.n5)];exact h.b5,by rw [AD,if_neg (A5 h.n6)];exact h.b6,
   by rw [AD,if_neg (A5 h.nr)];exact h.br,h.cl,h.ci,h.il,BB,a.trans h.rl,h.n1,h.n4,h.n5,h.n6,h.nr⟩
theorem xJ {l:List Bool} (x:Bool) (h:k < l.length):Ew k (BP l)++[I.d (.bool x)]++E1 (k+1) (BP l)=BP (l.set k x):=by
 have:=cK x h;simpa only [wr,AT,A8,Av] using this
theorem ACZ {l:List Bool} (h:k < l.length):(k+1<=(BP l).length)=True:=by rw [Tr];simp;omega
theorem APU (g:List (List Nat)) (hg:oD g) (h0:g.length<=1000) (G:∀l∈g,l.length<=1000) (Q S j5 T jr u i:Nat) (cells:List I):∀(N:Nat) (R:List Bool) (v:Nat) (V:X),unm R=N->v < g.length->CB g Q S j5 T jr u i cells R V->
 AS Tzp 166 [.d (.int .i64 v),.gp S 0,.gp j5 0,.gp Q 0,.gp T 0] V (fun av H=>∃R',av= .tup []/\H=V.AI u (BP R')/\AGQ g v R R'):=by
 intro N
 induction N using DK with
 |_ N P=>
 intro R v V hN Y a;obtain ⟨x,t⟩:=Ak (show v < R.length by rw [a.rl];exact Y);have j:=Gl t;have p:((i:Int) < (g.length:Int))=True:=by simp only [eq_iff_iff,iff_true];have:=a.il;omega
 have r:((v:Int) < (g.length:Int))=True:=by grind
 refine Xw.go ?_;rw [oT];cases x with
 |true=>
  (repeat' (first|refine wQ ?_|(refine W.By Nr (X.le_refl _) ?_)|fail)<;>try simp only [a.b4,a.b5,a.br,a.bw,a.ci,p,r,j,Ag,go_sem]);exact ⟨R,(Ir a.bw).symm,AGQ.skip t⟩
 |false=>
  have d:v < R.length:=(AG.1 t).1;have w1:=xJ true d;have d1:=ACZ d;obtain ⟨l,U⟩:=Ak Y;have n:=Au (J:=YY) U;rw [AST] at n;have E:g.getD v []=l:=by grind
  have h3:=G l (AE U);have z:=a.set (R.set v true) (by simp);(repeat' refine wQ ?_<;>simp only [a.b4,a.b5,a.br,a.bw,a.ci,p,r,j,Ag,d1,w1,z.b1,n,AA,go_sem])
  refine lpK (fun (y:Nat×List Bool)=>[(26,A1 y.1)]) (fun y=>V.AI u (BP y.2))
   (fun y=>y.1<=l.length/\zR g v (l.take y.1) R y.2) (fun y=>l.length - y.1) ?_ (0,R.set v true) ⟨by simp,zR.start d⟩
  rintro ⟨q,f⟩ ⟨hq,b⟩ ih;simp only at hq b;by_cases c:q < l.length
  . obtain ⟨w,Z⟩:=Ak c;have o:=Au (J:=Ba) Z;rw [AR2] at o;have L:=wS q;have s:w∈g.getD v []:=by grind
    have m:=a.set f b.len
    have K:unm f < N:=by
     have h1:=ALG t
     have h2:=AJE (R:=R.set v true) (R':=f) (by rw [b.len];simp) (fun k F=>by
      rw [CT] at F;split at F
      . rename_i e;subst e;exact b.self
      . exact b.mono k F)
     omega
    have B:=P _ K f w (V.AI u (BP f)) rfl (hg.at s) m;(repeat' (first|refine wQ ?_|(refine ⟨_,[],[.gp S 0,.gp j5 0,.gp Q 0,.gp T 0],rfl,by kernel_rfl,AN.mk rfl B ?_⟩;rintro _ _ ⟨R2,rfl,rfl,D⟩;rw [C4])|fail)<;>try simp only [BI c,o,m.b6,L,go_sem]);exact ih (q+1,R2) ⟨by simp only;omega,by simp only;rw [Aa Z];exact b.next s D⟩ (by simp only;omega)
  . rw [AR (by omega)] at b;(repeat' refine wQ ?_<;>simp only [B5 c,go_sem]);refine W.fin Nr (v:= .tup []) rfl (fun _ _ h=>h) (X.le_refl _) ?_;exact ⟨f,rfl,rfl,by rw [<- E] at b;exact b.fin⟩
structure RS (A:X) (g:List (List Nat)) (j1 j3 j4 jr:Nat) (i m:Nat) (cells:List I) (V:X):Prop where
 b1:V.C j1=some [.d (.sl (g.map YY))]
 b3:V.C j3=some [.d (.int .i64 g.length)]
 b4:V.C j4=some [.ms jr g.length 1 189]
 br:V.C jr=some cells
 cl:cells.length=g.length
 rows:∀k,k < i->∃jk,cells[k]?=some (.ms jk g.length 1 4)/\V.C jk=some (BP (AFO g k))/\jk≠jr
 rest:∀k,m<=k->k < g.length->cells[k]?=some .Ac
 le:A.le V
 nr:A.C jr=none
 n1:jr≠j1
 n3:jr≠j3
 n4:jr≠j4
theorem X.le.none {A V:X} (h:A.le V) {j:Nat} (a:V.C j=none):A.C j=none:=by
 cases b:A.C j with
 |none=>rfl
 |some c=>rw [h.C j c b] at a;cases a
theorem RS.new {A V:X} {jr i:Nat} {cells:List I} (h:RS A g j1 j3 j4 jr i m cells V) {j:Nat} (e:A.C j=none) (l:j≠j1) (n:j≠j3) (o:j≠j4) (p:j≠jr) (f:∀k jk,k < i->cells[k]?=some (.ms jk g.length 1 4)->jk≠j) (cs:List I):RS A g j1 j3 j4 jr i m cells (V.AI j cs):=
 ⟨by rw [AD,if_neg (A5 l)];exact h.b1,by rw [AD,if_neg (A5 n)];exact h.b3,by rw [AD,if_neg (A5 o)];exact h.b4,by rw [AD,if_neg (A5 p)];exact h.br,h.cl,
   fun k a=>by
    obtain ⟨jk,b,c,d⟩:=h.rows k a;exact ⟨jk,b,by rw [AD,if_neg (f k jk a b)];exact c,d⟩,h.rest,B6 h.le e,h.nr,h.n1,h.n3,h.n4⟩
theorem RS.fresh {A V:X} {jr i:Nat} {cells:List I} (h:RS A g j1 j3 j4 jr i m cells V) {j:Nat} (a:V.C j=none):A.C j=none/\j≠j1/\j≠j3/\j≠j4/\j≠jr/\∀k jk,k < i->cells[k]?=some (.ms jk g.length 1 4)->jk≠j:=by
 refine ⟨h.le.none a,fun e=>?_,fun e=>?_,fun e=>?_,fun e=>?_,fun k jk b l e=>?_⟩
 . rw [e,h.b1] at a;cases a
 . rw [e,h.b3] at a;cases a
 . rw [e,h.b4] at a;cases a
 . rw [e,h.br] at a;cases a
 . obtain ⟨c,d,f,_⟩:=h.rows k b
   grind
theorem RS.bt {A V:X} {jr i:Nat} {cells:List I} (h:RS A g j1 j3 j4 jr i m cells V) {j:Nat} {x:Nat×TypeId} (a:V.bt j=none):RS A g j1 j3 j4 jr i m cells (V.BM j x):=
 ⟨h.b1,h.b3,h.b4,h.br,h.cl,h.rows,h.rest,dX h.le a,h.nr,h.n1,h.n3,h.n4⟩
theorem Kn {V:X} {j:Nat} {x:List I} (h:V.C j=some x) (a:V.C k=none) (cs:List I):(V.AI k cs).C j=some x:=by
 rw [AD,if_neg (fun e=>by grind)];exact h
def AUB (F0:Fm) (V:X) (jr n i:Nat) (cells:List I) (F:Fm) (L:Lm) (τ':X):Prop:=
 ∃jw,V.C jw=none/\Ee [1,3,4,5,18,19] F=F0/\GK [1,3,4,5,18,19] L=E/\τ'=(V.AI jw (BP (AH n false))).AI jr (cells.set i (.ms jw n 1 4))
theorem AUB.mk {F0:Fm} {V:X} {jr n i:Nat} {cells:List I} {L:Lm} {τ':X} (a:Nat) (b:V.C a=none) (c:Ee [1,3,4,5,18,19] F=F0) (d:GK [1,3,4,5,18,19] L=E) (e:τ'=(V.AI a (BP (AH n false))).AI jr (cells.set i (.ms a n 1 4))):AUB F0 V jr n i cells F L τ':=⟨a,b,c,d,e⟩
theorem AUN (Q:I->X->Prop) (rest:List CI) (g:List (List Nat)) (hg:oD g) (hr:g.length<=1000) (ks:∀l∈g,l.length<=1000) (o Z p w:Nat) (A V:X) (cells:List I) (h:RS A g o Z p w 0 0 cells V)
 (h9:∀K ho,RS A g o Z p w g.length g.length K ho->W C6 Q rest (put 1 (.gp o 0) (put 3 (.gp Z 0) (put 4 (.gp p 0) (put 18 (.d (.int .i64 g.length)) (put 19 (.d (.int .i64 g.length)) (put 20 (.d (.bool false)) U)))))) E ho):
 W C6 Q (.code (.loop F4)::.C 0::rest) (put 1 (.gp o 0) (put 3 (.gp Z 0) (put 4 (.gp p 0) (put 18 (.d (.int .i64 g.length)) (put 19 (.d (.int .i64 0)) U))))) E V:=by
 refine lpK (fun (y:Nat×List I×X)=>[(19,A1 y.1)]) (fun y=>y.2.2)
  (fun y=>y.1<=g.length/\RS A g o Z p w y.1 y.1 y.2.1 y.2.2) (fun y=>g.length - y.1) ?_ (0,cells,V) ⟨by simp,h⟩
 clear h;rintro ⟨i,cells,V⟩ ⟨hi,h⟩ ih;simp only at hi h;by_cases s:i < g.length
 . have hj:=wS i;have hb:((i:Int) < (g.length:Int))=True:=by simp only [eq_iff_iff,iff_true];omega
   (repeat' refine sQ ?_<;>simp only [BI s,go_sem]);rintro j5 ⟨ha,T⟩;obtain ⟨f1,f2,f3,f4,f5,f6⟩:=h.fresh ha;have b:=((h.new f1 f2 f3 f4 f5 f6 [A1 0]).bt (x:=(1,3)) T).new f1 f2 f3 f4 f5 f6 [A1 i];have q:((((V.AI j5 [I.d (.int .i64 0)]).BM j5 (1,3))).AI j5 [A1 i]).C j5=some [A1 i]:=BB;have r:∀(V:X) (x:Nat×TypeId),(V.BM j5 x).C=V.C:=fun _ _=>rfl;simp only [r,AD,go_sem];generalize ((V.AI j5 [I.d (.int .i64 0)]).BM j5 (1,3)).AI j5 [I.d (.int .i64 i)]=t at b q ⊢;clear r h ha T;have S:(i+1<=cells.length)=True:=by rw [b.cl];simp;omega
   have hm:∀x:I,Ew i cells++[x]++E1 (i+1) cells=cells.set i x:=fun x=>wr1 x (by rw [b.cl];exact s);refine ctQ rfl ?_;refine W.WX mixed (AUB (put 1 (.gp o 0) (put 3 (.gp Z 0) (put 4 (.gp p 0) (put 5 (.gp j5 0) (put 18 (A1 g.length) (put 19 (A1 i) U)))))) t w g.length i cells) ?_ ?_
   . simp only [b.b3,b.b4,q,and_true,go_sem];(repeat' first|refine DF ?_ ?_|(refine K8.mk (n:=g.length) (by omega) (by omega) (fun c a=>?_);simp only [Yd,Kn b.b4 a,Kn q a,Kn b.br a,hb,S,hm,Ag,and_true,go_sem];try (refine AUB.mk c a (by simp only [go_sem]) (by simp only [go_sem]) ?_;rfl)))
   . rintro F L G ⟨c,a,hF,hL,rfl⟩;rw [hF,hL];clear hF hL;have v:c≠w:=fun e=>by rw [e,b.br] at a;cases a
     have h2:RS A g o Z p w i (i+1) (cells.set i (.ms c g.length 1 4)) ((t.AI c (BP (AH g.length false))).AI w (cells.set i (.ms c g.length 1 4))):=by
      have hs:∀j x,t.C j=some x->j≠w->((t.AI c (BP (AH g.length false))).AI w (cells.set i (.ms c g.length 1 4))).C j=some x:=fun j x hx ns=>by
       rw [AD,if_neg ns];exact Kn hx a _
      refine ⟨hs _ _ b.b1 (A5 b.n1),hs _ _ b.b3 (A5 b.n3),hs _ _ b.b4 (A5 b.n4),BB,by rw [Ld];exact b.cl,fun k hk=>?_,fun k hk hy=>?_,B6 (B6 b.le (b.le.none a)) b.nr,b.nr,b.n1,b.n3,b.n4⟩
      . obtain ⟨jk,g1,g2,g3⟩:=b.rows k hk;exact ⟨jk,by rw [CT,if_neg (by omega)];exact g1,hs _ _ g2 g3,g3⟩
      . rw [CT,if_neg (by omega)];exact b.rest k (by omega) hy
     have N:((t.AI c (BP (AH g.length false))).AI w (cells.set i (.ms c g.length 1 4))).C c=some (BP (AH g.length false)):=by
      rw [AD,if_neg v,AD,if_pos rfl]
     have u:((t.AI c (BP (AH g.length false))).AI w (cells.set i (.ms c g.length 1 4))).C j5=some [A1 i]:=by
      rw [AD,if_neg f5];exact Kn q a _
     have h0:(cells.set i (I.ms c g.length 1 4))[i]?=some (.ms c g.length 1 4):=by rw [CT,if_pos rfl,if_pos (by rw [b.cl];exact s)]
     have hl:c≠j5:=fun e=>by rw [e,q] at a;cases a
     have D:c≠o/\c≠Z/\c≠p:=⟨fun e=>(by rw [e,b.b1] at a;cases a),fun e=>(by rw [e,b.b3] at a;cases a),fun e=>(by rw [e,b.b4] at a;cases a)⟩
     have hf:∀k jk,k < i->(cells.set i (I.ms c g.length 1 4))[k]?=some (.ms jk g.length 1 4)->jk≠c:=fun k jk hk hc e=>by
      rw [CT,if_neg (by omega)] at hc;obtain ⟨al,g1,g2,_⟩:=b.rows k hk;rw [hc] at g1;cases g1;rw [e,a] at g2;cases g2
     have he:=b.le.none a;generalize (t.AI c (BP (AH g.length false))).AI w (cells.set i (.ms c g.length 1 4))=G at h2 N u ⊢;clear b q S hm a;generalize cells.set i (I.ms c g.length 1 4)=f at h2 h0 hf;(repeat' refine sQ ?_<;>simp only [go_sem]);rintro d ⟨z,Y⟩;obtain ⟨e1,e2,e3,e4,e5,e6⟩:=h2.fresh z;have h7:=(h2.new e1 e2 e3 e4 e5 e6 [.Jd]).bt (x:=(1,77)) Y;have hn:j5≠d:=fun e=>by rw [<- e,u] at z;cases z
     have h5:c≠d:=fun e=>by rw [<- e,N] at z;cases z
     have r:∀(V:X) (x:Nat×TypeId),(V.BM d x).C=V.C:=fun _ _=>rfl;have R:((G.AI d [I.Jd]).BM d (1,77)).C d=some [.Jd]:=by rw [r,AD,if_pos rfl]
     have m:((G.AI d [I.Jd]).BM d (1,77)).C j5=some [A1 i]:=by rw [r,AD,if_neg hn];exact u
     have P:((G.AI d [I.Jd]).BM d (1,77)).C c=some (BP (AH g.length false)):=by rw [r,AD,if_neg h5];exact N
     generalize (G.AI d [I.Jd]).BM d (1,77)=h6 at h7 R m P ⊢;clear r h2 N u z Y;have h3:=h7.new e1 e2 e3 e4 e5 e6 [.fn 166 [] [.gp p 0,.gp j5 0,.gp o 0,.gp d 0]];replace m:(h6.AI d [.fn 166 [] [.gp p 0,.gp j5 0,.gp o 0,.gp d 0]]).C j5=some [A1 i]:=by rw [AD,if_neg hn];exact m
     replace P:(h6.AI d [.fn 166 [] [.gp p 0,.gp j5 0,.gp o 0,.gp d 0]]).C c=some (BP (AH g.length false)):=by rw [AD,if_neg h5];exact P
     have h8:(h6.AI d [.fn 166 [] [.gp p 0,.gp j5 0,.gp o 0,.gp d 0]]).C d=some [.fn 166 [] [.gp p 0,.gp j5 0,.gp o 0,.gp d 0]]:=BB;have hp:CB g o p j5 d w c i f (AH g.length false) _:=⟨h3.b1,h3.b4,m,h8,h3.br,h3.cl,h0,s,P,by simp,D.1,D.2.2,hl,h5,v⟩;have hq:=APU g hg hr ks o p j5 d w c i f _ (AH g.length false) i _ rfl s hp;(repeat' (first|refine sQ ?_|(refine ⟨_,[],[.gp p 0,.gp j5 0,.gp o 0,.gp d 0],rfl,by kernel_rfl,AN.mk rfl hq ?_⟩;rintro _ _ ⟨R2,rfl,rfl,hd⟩)|fail)<;>try simp only [R,E1,h8,m,hj,go_sem]);have hR:=AUV hg s hd;subst hR;refine ih (i+1,f,_) ⟨by simp only;omega,?_⟩ (by simp only;omega);have B:=h3.new he D.1 D.2.1 D.2.2 v hf (BP (AFO g i));refine ⟨B.b1,B.b3,B.b4,B.br,B.cl,fun k hk=>?_,B.rest,B.le,B.nr,B.n1,B.n3,B.n4⟩;by_cases hv:k=i
     . subst hv;exact ⟨c,h0,if_pos rfl,v⟩
     . exact B.rows k (by omega)
 . have ht:i=g.length:=by omega
   subst ht;have:=h9 cells V h;(repeat' refine wQ ?_<;>simp only [B5 s,go_sem]);exact this
def lsB (ls:List Bool) (k:Nat):Bool:=ls.getD k false
noncomputable def JQ (g:List (List Nat)) (i k:Nat):Bool:=rB g i k&&rB g k i
noncomputable def vR (g:List (List Nat)) (i:Nat):List Nat:=(Aj g.length).filter (JQ g i)
noncomputable def wU (g:List (List Nat)) (ls:List Bool) (i:Nat):Bool:=(Aj g.length).all fun j=>!((rB g i j&& !rB g j i)&& !lsB ls j)
noncomputable def jK (g:List (List Nat)) (i:Nat) (ls:List Bool) (j:Nat):List Bool:=(Aj g.length).map fun k=>lsB ls k||(decide (k < j)&&JQ g i k)
noncomputable def bL (g:List (List Nat)) (i:Nat) (ls:List Bool):List Bool:=jK g i ls g.length
noncomputable def pP (g:List (List Nat)) (ls:List Bool) (i:Nat):Bool:=!lsB ls i&&wU g ls i
noncomputable def ABG (g:List (List Nat)) (ls:List Bool):Option Nat:=(Aj g.length).find? (pP g ls)
noncomputable def Ki (g:List (List Nat)):Nat->List Bool->List (List Nat)
 |0,_=>[]
 |f+1,ls=>match ABG g ls with
  |none=>[]
  |some i=>vR g i::Ki g f (bL g i ls)
noncomputable def Rw (g:List (List Nat)):List (List Nat):=Ki g (g.length+1) (AH g.length false)
theorem Qd (g:List (List Nat)) (i:Nat) (ls:List Bool) (j:Nat):(jK g i ls j).length=g.length:=by simp [jK]
theorem Qc (g:List (List Nat)) (i:Nat) (ls:List Bool) (j:Nat) (a:k < g.length):(jK g i ls j)[k]?=some (lsB ls k||(decide (k < j)&&JQ g i k)):=by
 rw [jK,Az,Ev a];rfl
theorem ANN {i:Nat} (h:ls.length=g.length):jK g i ls 0=ls:=by
 apply Dw
 grind [Qc,lsB,FO,Qd]
theorem ANM {i:Nat} {j:Nat} (c:j < g.length):jK g i ls (j+1)=if JQ g i j then (jK g i ls j).set j true else jK g i ls j:=by
 apply Dw;intro k;by_cases b:k < g.length
 . rw [Qc g i ls _ b];cases d:JQ g i j with
   |true=>
    rw [if_pos rfl,CT];by_cases a:j=k
    . subst a;rw [if_pos rfl,if_pos (by rw [Qd];exact c)];simp [d]
    . rw [if_neg a,Qc g i ls _ b];have:decide (k < j+1)=decide (k < j):=decide_eq_decide.2 (by omega);rw [this]
   |false=>
    rw [if_neg (by simp),Qc g i ls _ b];by_cases a:j=k
    . grind
    . have:decide (k < j+1)=decide (k < j):=decide_eq_decide.2 (by omega);rw [this]
 grind [JQ,jK,set,Ld,Qd,FO]
theorem ANO (g:List (List Nat)) (i:Nat):JQ g i i=true:=by
 simp [JQ,YX.2 (Reach.refl i)]
theorem Vk {b:Bool} (h:ls[k]?=some b):lsB ls k=b:=by simp [lsB,BG,h]
theorem ATP:∀ {R R':List Bool} {v:Nat},R'.length=R.length->(∀k:Nat,R[k]?=some true->R'[k]?=some true)->R[v]?=some false->R'[v]?=some true->unm R' < unm R
 |[],R',v,h,d,e,_=>by simp at e
 |b::R,[],v,h,_,_,_=>by simp at h
 |b::R,c::R',0,h,d,e,a=>by
  simp at e a;subst e;subst a;have:=AJE (R:=R) (R':=R') (by grind) (fun k f=>by simpa using d (k+1) (by grind));simp [unm] at this ⊢;omega
 |b::R,c::R',v+1,h,d,e,a=>by
  have:=ATP (R:=R) (R':=R') (v:=v) (by grind) (fun k f=>by simpa using d (k+1) (by grind)) (by grind) (by grind);have g:=d 0
  grind [unm]
theorem ALF {i:Nat} (f:ls.length=g.length) (b:i < g.length) (h:lsB ls i=false):unm (bL g i ls) < unm ls:=by
 have a:ls[i]?=some false:=by
  have d:ls[i]?=some ls[i]:=by simp [f,b]
  have:=Vk d;rw [d,<- this,h]
 refine ATP (v:=i) (by rw [bL,Qd,f]) (fun k e=>?_) a ?_
 . have c:k < g.length:=by have:=(AG.1 e).1;omega
   rw [bL,Qc g i ls _ c,Vk e];rfl
 . rw [bL,Qc g i ls _ b,h,ANO];simp [b]
theorem AU5 {p:Nat->Bool} {n i:Nat} (a:i < n) (c:p i=true) (b:∀k,k < i->p k=false):(Aj n).find? p=some i:=by
 simp_all
theorem AMO {p:Nat->Bool} {n:Nat} (a:∀k,k < n->p k=false):(Aj n).find? p=none:=by
 grind
structure Ow where
 e:Nat
 s:Nat
 rows:List (List DV)
 v:I
def HX (O:X) (l:List Ow) (V:X):Prop:=(∀x∈l,Bn O x.e x.s x.rows x.v V)/\l.Pairwise fun a b=>kE a.v b.v
theorem HX.perm {O V:X} {l m:List Ow} (h:HX O l V) (b:l.Perm m):HX O m V:=
 ⟨fun x c=>h.1 x (b.mem_iff.2 c),(b.pairwise_iff (fun a=>a.symm)).1 h.2⟩
theorem HX.front {O V:X} {l m:List Ow} {x:Ow} (h:HX O (l++x::m) V):HX O (x::(l++m)) V:=h.perm List.perm_middle
theorem HX.back {O V:X} {l m:List Ow} {x:Ow} (h:HX O (x::(l++m)) V):HX O (l++x::m) V:=h.perm List.perm_middle.symm
theorem HX.head {O V:X} {l:List Ow} {x:Ow} (h:HX O (x::l) V):Bn O x.e x.s x.rows x.v V:=h.1 x (AY ..)
theorem HX.tail {O V:X} {l:List Ow} {x:Ow} (h:HX O (x::l) V):HX O l V:=⟨fun y a=>h.1 y (AZ _ a),(BZ.1 h.2).2⟩
theorem HX.nil {O V:X} {l:List Ow} (h:HX O l V) (a:O.le V) (e s:Nat):HX O (⟨e,s,[],.Ac⟩::l) V:=
 ⟨fun y b=>by
   rcases Ah.1 b with rfl|b
   . exact ⟨⟨V,rfl,a⟩,a,rfl,rfl,rfl,rfl,fun _=>rfl,rfl,rfl⟩
   . exact h.1 y b,BZ.2 ⟨fun y _=>oQ y.v,h.2⟩⟩
theorem DH.AV2 {cx:Cx} {K:Fm->Lm->X->Prop} {F:Fm} {L:Lm} {A O:X} {d:Option Nat} {e size bytes:Nat} {s x:I} {rows srows:List (List DV)} {l:List Ow} (b:HX O (⟨e,size,rows,s⟩::l) A) (j:x.rows=some srows)
 (k:∀r∈srows,r.length=size) (m:rows.length+srows.length<=1000000000) (n:bytes<=10000)
 (h:∀v H,HX O (⟨e,size,rows++srows,v⟩::l) H->(∀i,H.C i=A.C i)->K (BW d v F) L H):DH e size bytes s x d K F L A:=
 DH.AZL (cx:=cx) b.head j k m n (fun v H g c f=>h v H ⟨fun y a=>by
  rcases Ah.1 a with rfl|a
  . exact g
  . exact (f _ _ _ _ (b.tail.1 y a) ((BZ.1 b.2).1 y a)).1,
  BZ.2 ⟨fun y a=>(f _ _ _ _ (b.tail.1 y a) ((BZ.1 b.2).1 y a)).2,(BZ.1 b.2).2⟩⟩ c)
theorem eW {i:Nat} (a:k < g.length):(AFO g i)[k]?=some (rB g i k):=by
 rw [AFO,Az,Ev a];rfl
theorem RS.at {A V:X} {jr:Nat} {cells:List I} (h:RS A g j1 j3 j4 jr g.length g.length cells V) {i:Nat} (b:i < g.length):∃a,cells[i]?=some (.ms a g.length 1 4)/\V.C a=some (BP (AFO g i)):=by
 obtain ⟨a,c,d,_⟩:=h.rows i b
 grind
theorem ilT {i n:Nat} (h:i < n):((i:Int) < (n:Int))=True:=by grind
theorem APV (g:List (List Nat)) (G:g.length<=1000) (P D E Q F jl:Nat) (A V:X) (cells:List I) (h:RS A g P D E Q g.length g.length cells V) (ls:List Bool) (L:ls.length=g.length) (y:V.C F=some [.ms jl g.length 1 4]) (B:V.C jl=some (BP ls)) (i:Nat) (u:i < g.length):
 AS Tzp 167 [.d (.int .i64 i),.gp D 0,.gp E 0,.gp F 0] V (fun v H=>v= .d (.bool (wU g ls i))/\H=V):=by
 obtain ⟨U,d,b⟩:=h.at u;have f:=ilT u;refine Xx.go ?_;(repeat' refine wQ ?_<;>simp only [h.b3,go_sem]);refine lpK (fun (j:Nat)=>[(8,A1 j)]) (fun _=>V) (fun j=>j<=g.length/\∀k,k < j->((rB g i k&& !rB g k i)&& !lsB ls k)=false) (fun j=>g.length - j) ?_ 0 ⟨by simp,fun k K=>by omega⟩;rintro j ⟨T,N⟩ x;by_cases a:j < g.length
 . obtain ⟨Y,e,c⟩:=h.at a;have l:=ilT a;have m:=wS j;have o:=Gl (eW (i:=i) a);have q:=Gl (eW (i:=j) u);obtain ⟨R,s⟩:=Ak (show j < ls.length by omega);have r:=Gl s;rw [<- Vk s] at r
   have n:((rB g i j&& !rB g j i)&& !lsB ls j)=false->∀k,k < j+1->((rB g i k&& !rB g k i)&& !lsB ls k)=false:=fun S k K=>by
    grind
   cases p:rB g i j with
   |false=>
    rw [p] at o;(repeat' refine wQ ?_<;>simp only [h.b4,h.br,d,b,f,l,o,m,Ag,go_sem]);exact x (j+1) ⟨by omega,n (by rw [p];rfl)⟩ (by omega)
   |true=>
   rw [p] at o;cases c2:rB g j i with
   |true=>
    rw [c2] at q;(repeat' refine wQ ?_<;>simp only [h.b4,h.br,d,b,e,c,f,l,o,q,m,Ag,go_sem]);exact x (j+1) ⟨by omega,n (by rw [p,c2];rfl)⟩ (by omega)
   |false=>
   rw [c2] at q;cases t:lsB ls j with
   |true=>
    rw [t] at r;(repeat' refine wQ ?_<;>simp only [h.b4,h.br,d,b,e,c,y,B,f,l,o,q,r,m,Ag,go_sem]);exact x (j+1) ⟨by omega,n (by grind)⟩ (by omega)
   |false=>
    rw [t] at r
    have w:wU g ls i=false:=by
     rw [wU,M5];intro z;rw [Ao] at z;have:=z j (Cr.2 a);rw [p,c2,t] at this;cases this
    (repeat' refine wR ?_<;>simp only [h.b4,h.br,d,b,e,c,y,B,f,l,o,q,r,Ag,go_sem]);rw [w]
 . have w:wU g ls i=true:=by grind [wU,Ao]
   (repeat' refine wR ?_<;>simp only [B5 a,go_sem]);rw [w]
theorem RS.tok {A V τ':X} {jr i:Nat} {cells:List I} (h:RS A g j1 j3 j4 jr i m cells V) (a:∀q,τ'.C q=V.C q) (b:A.le τ'):RS A g j1 j3 j4 jr i m cells τ':=
 ⟨(a j1).trans h.b1,(a j3).trans h.b3,(a j4).trans h.b4,(a jr).trans h.br,h.cl,fun k c=>by
   obtain ⟨jk,d,e,f⟩:=h.rows k c
   grind,h.rest,b,h.nr,h.n1,h.n3,h.n4⟩
theorem HX.set {O V:X} {l:List Ow} (h:HX O l V) {j:Nat} (a:O.C j=none) (cs:List I):HX O l (V.AI j cs):=⟨fun x b=>(h.1 x b).set a cs,h.2⟩
structure LS (A:X) (g:List (List Nat)) (j1 j3 j4 jr j7 jl:Nat) (cells:List I) (ls:List Bool) (V:X):Prop where
 rs:RS A g j1 j3 j4 jr g.length g.length cells V
 b7:V.C j7=some [.ms jl g.length 1 4]
 bl:V.C jl=some (BP ls)
 ll:ls.length=g.length
 nl:A.C jl=none
 n1:jl≠j1
 n3:jl≠j3
 n4:jl≠j4
 nr:jl≠jr
 n7:jl≠j7
 nk:∀k jk,k < g.length->cells[k]?=some (.ms jk g.length 1 4)->jk≠jl
theorem LS.set {A:X} {jr j7 jl:Nat} {cells:List I} {V:X} (h:LS A g j1 j3 j4 jr j7 jl cells ls V) (a:List Bool) (b:a.length=g.length):LS A g j1 j3 j4 jr j7 jl cells a (V.AI jl (BP a)):=
 ⟨h.rs.new h.nl h.n1 h.n3 h.n4 h.nr h.nk _,by rw [AD,if_neg (A5 h.n7)];exact h.b7,BB,b,h.nl,h.n1,h.n3,h.n4,h.nr,h.n7,h.nk⟩
theorem LS.tok {A:X} {g:List (List Nat)} {j1 j3 j4 jr j7 jl:Nat} {cells:List I} {ls:List Bool} {V τ':X} (h:LS A g j1 j3 j4 jr j7 jl cells ls V) (a:∀q,τ'.C q=V.C q) (b:A.le τ'):LS A g j1 j3 j4 jr j7 jl cells ls τ':=
 ⟨h.rs.tok a b,(a j7).trans h.b7,(a jl).trans h.bl,h.ll,h.nl,h.n1,h.n3,h.n4,h.nr,h.n7,h.nk⟩
theorem AUO (Q:I->X->Prop) (rest:List CI) (g:List (List Nat)) (h8:g.length<=1000) (j1 L N jr P jl:Nat) (A V:X) (cells:List I) (ls:List Bool) (h:LS A g j1 L N jr P jl cells ls V) (i:Nat) (hi:i < g.length) (r c:I) (e:List (List DV)) (ho:HX A [⟨39,1,e,c⟩] V) (m:∀k,r.Cp k=false)
 (G:∀T p,LS A g j1 L N jr P jl cells (bL g i ls) p->HX A [⟨3,1,(vR g i).map Ba,T⟩,⟨39,1,e,c⟩] p->W C6 Q rest (put 3 (.gp L 0) (put 4 (.gp N 0) (put 7 (.gp P 0) (put 8 r (put 9 c (put 10 (.d (.int .i64 i)) (put 11 T (put 50 (.d (.int .i64 g.length)) (put 51 (.d (.int .i64 g.length)) (put 52 (.d (.bool false)) U)))))))))) E p):
 W C6 Q (.code (.loop Hp)::.C 4::rest) (put 3 (.gp L 0) (put 4 (.gp N 0) (put 7 (.gp P 0) (put 8 r (put 9 c (put 10 (.d (.int .i64 i)) (put 11 .Ac (put 50 (.d (.int .i64 g.length)) (put 51 (.d (.int .i64 0)) U))))))))) E V:=by
 have f:=fun k=>ho.head.Cp k;simp only at f;have w:=ilT hi
 refine lpK (fun (y:Nat×I×X)=>[(51,A1 y.1),(11,y.2.1)]) (fun y=>y.2.2)
  (fun y=>y.1<=g.length/\LS A g j1 L N jr P jl cells (jK g i ls y.1) y.2.2/\HX A [⟨3,1,((Aj y.1).filter (JQ g i)).map Ba,y.2.1⟩,⟨39,1,e,c⟩] y.2.2) (fun y=>g.length - y.1) ?_ (0,.Ac,V) ⟨by simp,by rw [ANN h.ll];exact h,ho.nil h.rs.le _ _⟩
 rintro ⟨j,T,V⟩ ⟨hj,d,B⟩ ih;simp only at hj d B;have n:=B.head;simp only at n;by_cases b:j < g.length
 . obtain ⟨ji,u,s⟩:=d.rs.at hi;obtain ⟨jj,v,t⟩:=d.rs.at b;have o:=ilT b;have q:=wS j;have D:=Gl (eW (i:=i) b);have S:=Gl (eW (i:=j) hi);have h5:=ANM (i:=i) (ls:=ls) b
   have h3:(Aj (j+1)).filter (JQ g i)=if JQ g i j then (Aj j).filter (JQ g i)++[j] else (Aj j).filter (JQ g i):=by
    rw [Cq,RJ];cases x:JQ g i j<;>simp [x]
   have a:=fun Y p h1 h2=>ih (j+1,Y,p) ⟨by simp only;omega,h1,h2⟩ (by simp only;omega);simp only at a;rw [h5,h3] at a;cases R:rB g i j with
   |false=>
    have x:JQ g i j=false:=by simp [JQ,R]
    rw [R] at D;rw [x] at a;(repeat' refine wQ ?_<;>simp only [d.rs.b4,d.rs.br,u,s,w,o,D,q,Ag,go_sem]);exact a _ _ d B
   |true=>
   rw [R] at D;cases c2:rB g j i with
   |false=>
    have x:JQ g i j=false:=by simp [JQ,c2]
    rw [c2] at S;rw [x] at a;(repeat' refine wQ ?_<;>simp only [d.rs.b4,d.rs.br,u,s,v,t,w,o,D,S,q,Ag,go_sem]);exact a _ _ d B
   |true=>
    have x:JQ g i j=true:=by simp [JQ,R,c2]
    rw [c2] at S;rw [x] at a;simp only [if_true] at a
    have h0:(((Aj j).filter (JQ g i)).map Ba).length<=1000:=by
     have:=MQ (JQ g i) (Aj j);rw [List.length_range] at this;rw [AA];omega
    have K:j < (jK g i ls j).length:=by rw [Qd];exact b
    have h6:=d.b7;have h7:=d.bl;have w1:=xJ true K;have d1:=ACZ K;(repeat' (first|refine wQ ?_|(refine DH.AV2 (cx:=C6) B rfl (by simp) (by simp only [AT,A8];omega) (by decide) (fun v2 h9 z Z=>?_))|fail)<;>try simp only [d.rs.b4,d.rs.br,u,s,v,t,w,o,D,S,Ag,go_sem]);have l:=d.tok Z z.head.le;have F:=z.head.Cp;simp only at F;simp only [l.b7,l.bl,o,w1,d1,Ag,go_sem];(repeat' refine wQ ?_<;>simp only [q,go_sem])
    exact a _ _ (l.set _ (by rw [Ld,Qd])) (by
     rw [A4];exact z.set d.nl _)
 . have h4:j=g.length:=by omega
   subst h4;have:=G T V d B;(repeat' refine wQ ?_<;>simp only [B5 b,go_sem]);exact this
theorem AUP (Q:I->X->Prop) (rest:List CI) (g:List (List Nat)) (P:g.length<=1000) (Y n o Z p jl:Nat) (A V:X) (cells:List I) (h:LS A g Y n o Z p jl cells (AH g.length false) V)
 (N:∀c B,A.le B->Bn A 39 1 ((Rw g).map YY) c B->W C6 Q rest (put 3 (.gp n 0) (put 4 (.gp o 0) (put 7 (.gp p 0) (put 8 (.fn 167 [] [.gp n 0,.gp o 0,.gp p 0]) (put 9 c (put 10 (.d (.int .i64 g.length)) (put 37 (.d (.bool false)) U))))))) E B):
 W C6 Q (.code (.loop M7)::.C 2::rest) (put 3 (.gp n 0) (put 4 (.gp o 0) (put 7 (.gp p 0) (put 8 (.fn 167 [] [.gp n 0,.gp o 0,.gp p 0]) (put 9 .Ac (put 10 (.d (.int .i64 0)) U)))))) E V:=by
 refine lpK (fun (y:Nat×List Bool×List (List Nat)×Nat×I×X)=>[(10,A1 y.1),(9,y.2.2.2.2.1)]) (fun y=>y.2.2.2.2.2)
  (fun y=>y.1<=g.length/\LS A g Y n o Z p jl cells y.2.1 y.2.2.2.2.2/\Bn A 39 1 (y.2.2.1.map YY) y.2.2.2.2.1 y.2.2.2.2.2/\Rw g=y.2.2.1++Ki g y.2.2.2.1 y.2.1/\unm y.2.1 < y.2.2.2.1/\y.2.2.1.length+unm y.2.1<=g.length/\∀k,k < y.1->pP g y.2.1 k=false)
  (fun y=>unm y.2.1 * (g.length+1)+(g.length - y.1)) ?_ (0,AH g.length false,[],g.length+1,.Ac,V) ⟨by simp,h,⟨⟨V,rfl,h.rs.le⟩,h.rs.le,rfl,rfl,rfl,rfl,fun _=>rfl,rfl,rfl⟩,rfl,by simp [unm],by simp [unm],fun k hk=>by grind⟩
 clear h;rintro ⟨i,ls,out,f,c,V⟩ ⟨hi,d,r,m,hf,S,t⟩ ih;simp only at hi d r m hf S t;by_cases a:i < g.length
 . have s:=ilT a;have z:=wS i;obtain ⟨b,hb⟩:=Ak (show i < ls.length by rw [d.ll];exact a);have D:=Gl hb;rw [<- Vk hb] at D
   have e:pP g ls i=false->_:=fun hc=>ih (i+1,ls,out,f,c,V) ⟨by simp only;omega,d,r,m,hf,S,fun k hk=>by
    grind⟩ (by simp only;omega)
   simp only at e;cases l:lsB ls i with
   |true=>
    rw [l] at D;(repeat' refine wQ ?_<;>simp only [d.rs.b3,d.b7,d.bl,s,D,z,Ag,go_sem]);exact e (by simp [pP,l])
   |false=>
   rw [l] at D;have q:=APV g P Y n o Z p jl A V cells d.rs ls d.ll d.b7 d.bl i a;cases T:wU g ls i with
   |false=>
    rw [T] at q;(repeat' (first|refine wQ ?_|(refine ⟨_,[],[.gp n 0,.gp o 0,.gp p 0],rfl,by kernel_rfl,AN.det q ?_⟩)|fail)<;>try simp only [d.rs.b3,d.b7,d.bl,s,D,z,Ag,go_sem]);exact e (by simp [pP,T])
   |true=>
    rw [T] at q;have K:pP g ls i=true:=by simp [pP,l,T]
    have u:ABG g ls=some i:=AU5 a K t;obtain ⟨f,rfl⟩:∃f',f=f'+1:=⟨f - 1,by omega⟩
    have L:Rw g=(out++[vR g i])++Ki g f (bL g i ls):=by
     rw [m,Ki,u];simp
    have h2:=ALF d.ll a l;have R:IntKind.i64.wrap ((-1:Int)+1)=((0:Nat):Int):=by decide
    (repeat' (first|refine wQ ?_|(refine ⟨_,[],[.gp n 0,.gp o 0,.gp p 0],rfl,by kernel_rfl,AN.det q ?_⟩)|fail)<;>try simp only [d.rs.b3,d.b7,d.bl,s,D,Ag,go_sem]);refine AUO Q _ g P Y n o Z p jl A V cells ls d i a _ c (out.map YY) ⟨fun x hx=>by grind,List.pairwise_singleton _ _⟩ (fun _=>rfl) (fun gv h4 h0 F=>?_);have j:=F.head;have v:=F.tail.head;simp only at j v;(repeat' (first|refine wQ ?_|(refine DH.own v rfl (by simp) (by simp;omega) (by decide) (fun v4 h3 w G=>?_))|fail)<;>try simp only [R,j.cell,j.cells,j.dv,go_sem]);(repeat' refine wQ ?_<;>simp only [R,w.Cp,go_sem]);refine ih (0,bL g i ls,out++[vR g i],f,v4,h3) ⟨by simp,h0.tok G w.le,by simp only [A4];exact w,L,by simp only;omega,by grind,fun k hk=>by grind⟩ ?_;simp only;have:(unm (bL g i ls)+1) * (g.length+1)<=unm ls * (g.length+1):=CW _ h2
    grind
 . have h1:i=g.length:=by omega
   subst h1;obtain ⟨f,rfl⟩:∃f',f=f'+1:=⟨f - 1,by omega⟩;have u:ABG g ls=none:=AMO t;rw [Ki,u,Aw] at m;have:=N c V r.le (by rw [m];exact r);(repeat' refine wQ ?_<;>simp only [B5 a,d.rs.b3,go_sem]);exact this
theorem AR8 (n:Nat):(AH n [I.Ac]).flatten=AH n I.Ac:=by
 simp_all
theorem Z2 (g:List (List Nat)) (hg:oD g) (h0:g.length<=1000) (ha:∀l∈g,l.length<=1000) (A:X):
 AS Tzp 117 [.d (.sl (g.map YY))] A (fun v H=>v= .d (.sl ((Rw g).map YY))/\H=A):=by
 refine aX.go ?_;rw [Dx];generalize hQ:(fun (v:I) (H:X)=>v=BU ((Rw g).map YY)/\H=A)=Q;have hd:Q (BU ((Rw g).map YY)) A:=by grind
 clear hQ;have c:∀(V:X) (j:Nat) (x:Nat×TypeId) (q:Nat),(V.BM j x).C q=V.C q:=fun _ _ _ _=>rfl;(repeat' refine sQ ?_<;>simp only [go_sem]);intro z h9;have d:=Bf (cs:=[I.d (.sl (g.map YY))]) h9;have D:(A.AI z [I.d (.sl (g.map YY))]).C z=some [I.d (.sl (g.map YY))]:=BB;generalize A.AI z [I.d (.sl (g.map YY))]=G at d D ⊢;(repeat' refine sQ ?_<;>simp only [D,AA,go_sem]);rintro b ⟨hb,h1⟩;have K:=d.none hb;have h4:z≠b:=fun e=>by grind
 have f:A.le (((G.AI b [I.d (.int .i64 0)]).BM b (1,3)).AI b [A1 g.length]):=B6 (dX (B6 d K) h1) K;have p:(((G.AI b [I.d (.int .i64 0)]).BM b (1,3)).AI b [A1 g.length]).C z=some [I.d (.sl (g.map YY))]:=by rw [AD,if_neg h4,c,AD,if_neg h4];exact D
 have E:(((G.AI b [I.d (.int .i64 0)]).BM b (1,3)).AI b [A1 g.length]).C b=some [A1 g.length]:=BB;simp only [c,AD,go_sem];generalize ((G.AI b [I.d (.int .i64 0)]).BM b (1,3)).AI b [I.d (.int .i64 g.length)]=Y at f p E ⊢;clear D d;(repeat' (first|refine wQ ?_|(refine K8.mk (n:=g.length) (by omega) (by omega) (fun o F=>?_))|fail)<;>try simp only [E,go_sem]);rw [AR8];have N:=f.none F;have he:o≠z:=fun e=>by grind
 have hf:o≠b:=fun e=>by grind
 rintro m ⟨t,w⟩;replace t:(Y.AI o (AH g.length I.Ac)).C m=none:=by rw [AD];exact t
 have h:=B6 (cs:=AH g.length I.Ac) f N;have r:=Kn p F (AH g.length I.Ac);have s:=Kn E F (AH g.length I.Ac);have S:(Y.AI o (AH g.length I.Ac)).C o=some (AH g.length I.Ac):=BB;generalize Y.AI o (AH g.length I.Ac)=h7 at h r s S t w ⊢;clear p E f F;have L:=h.none t;have h5:z≠m:=fun e=>by grind
 have h6:b≠m:=fun e=>by grind
 have U:o≠m:=fun e=>by grind
 have a:RS A g z b m o 0 0 (AH g.length I.Ac) (((h7.AI m [I.Ac]).BM m (1,294)).AI m [I.ms o g.length 1 189]):=
  ⟨by rw [AD,if_neg h5,c,AD,if_neg h5];exact r,by rw [AD,if_neg h6,c,AD,if_neg h6];exact s,BB,by rw [AD,if_neg U,c,AD,if_neg U];exact S,by simp,fun k hk=>by omega,fun k _ hk=>by simp [hk],B6 (dX (B6 h L) w) L,N,he,hf,U⟩
 simp only [c,AD,go_sem];generalize ((h7.AI m [I.Ac]).BM m (1,294)).AI m [I.ms o g.length 1 189]=hi at a ⊢;clear h r s S t w;(repeat' refine wQ ?_<;>simp only [a.b4,a.b3,a.b1,go_sem]);refine AUN Q _ g hg h0 ha z b m o A hi _ a (fun cells Z a=>?_);(repeat' (first|refine wQ ?_|(refine K8.mk (n:=g.length) (by omega) (by omega) (fun jl h2=>?_))|fail)<;>try simp only [a.b3,go_sem]);rw [Yd];obtain ⟨f1,f2,f3,f4,f5,f6⟩:=a.fresh h2;have i:=a.new f1 f2 f3 f4 f5 f6 (BP (AH g.length false));rintro B ⟨u,y⟩;replace u:(Z.AI jl (BP (AH g.length false))).C B=none:=by rw [AD];exact u
 have R:(Z.AI jl (BP (AH g.length false))).C jl=some (BP (AH g.length false)):=BB;generalize Z.AI jl (BP (AH g.length false))=h8 at i R u y ⊢;obtain ⟨e1,e2,e3,e4,e5,e6⟩:=i.fresh u;have T:jl≠B:=fun e=>by grind
 have P:=((i.new e1 e2 e3 e4 e5 e6 [.Ac]).bt (x:=(1,189)) y).new e1 e2 e3 e4 e5 e6 [I.ms jl g.length 1 4]
 have h3:LS A g z b m o B jl cells (AH g.length false) (((h8.AI B [I.Ac]).BM B (1,189)).AI B [I.ms jl g.length 1 4]):=
  ⟨P,BB,by rw [AD,if_neg T,c,AD,if_neg T];exact R,by simp,f1,f2,f3,f4,f5,T,f6⟩
 simp only [c,AD,go_sem];generalize ((h8.AI B [I.Ac]).BM B (1,189)).AI B [I.ms jl g.length 1 4]=hj at h3 ⊢;clear a i P R h2 u y;(repeat' refine wQ ?_<;>simp only [go_sem]);refine AUP Q _ g h0 z b m o B jl A hj cells h3 (fun hl hm hc ho=>?_);(repeat' (first|refine wQ ?_|(refine W.By aS (σ2:=A) hc ?_)|fail)<;>try simp only [go_sem]);simp only [ho.BS,ho.plain,go_sem];exact hd
theorem AC4 {fs:List FE} {f:FE}:(c7 fs f).length<=fs.length/\∀w∈c7 fs f,w < fs.length:=by
 grind [c7,Ai,MQ]
theorem AC5 (p:Pg):oD (J7 p):=by
 intro l a w b;unfold J7 at a ⊢;split at a
 . rename_i h;rw [if_pos h,AA];obtain ⟨f,_,rfl⟩:=BR.1 a;exact AC4.2 w b
 . cases a
theorem kN (l:List (List Nat)):QN l= .d (.sl (l.map YY)):=rfl
theorem AC6 (p:Pg):(J7 p).length<=24:=by
 by_cases a:(R5 p).1=0
 . have:=(VY a).1;unfold J7
   grind
 . unfold J7;grind
theorem AAD (p:Pg):∀l∈J7 p,l.length<=24:=by
 intro l b;by_cases a:(R5 p).1=0
 . have:=(VY a).1;unfold J7 at b;rw [if_pos a] at b;obtain ⟨f,_,rfl⟩:=BR.1 b;exact Ai AC4.1 this
 . unfold J7 at b;grind
noncomputable def Lq (p:Pg):List (List Nat):=Rw (J7 p)
theorem nE (p:Pg) (A:X) (h:∀d∈p.data,N4 d):AS Tzp 65 [pgA p] A (fun v H=>v=QN (Lq p)/\H=A):=by
 have a:=fun A=>tB p A h;have b:=fun A=>Z2 (J7 p) (AC5 p) (Ai (AC6 p) (by decide)) (fun l c=>Ai (AAD p l c) (by decide)) A;refine rE.go ?_;rw [Dx];rw [Lq,kN];simp only [kN] at a;obtain ⟨ds,fs⟩:=p;simp only [pgA,Pg.J,AB,AJ] at a ⊢;(repeat' (first|refine wR ?_|refine AN.det (a _) ?_|refine AN.det (b _) ?_|fail)<;>try simp only [go_sem])
abbrev Nt:=Ty×List Ty
abbrev DZ:=List Sch×List (List Nt)
variable {r:DZ}
structure IG where
 s:SS
 en:List (List En)
def igF (G:GC) (st:IG) (f:Nat):IG:=match G.fs[f]? with
 |none=>st
 |some fe=>⟨(Sm G fe (G.ps.getD f []) (G.rs.getD f 0) st.s).s,st.en.set f (Sm G fe (G.ps.getD f []) (G.rs.getD f 0) st.s).en⟩
def ngP (fs:List FE) (ms:List Nat):NGs:=ms.foldl (ngS fs) (ng0 fs.length)
def gcP (fs:List FE) (dt:List Dat) (sch:List Sch) (ms:List Nat):GC:=⟨fs,dt,sch,(ngP fs ms).mem,pgl (ngP fs ms).ps,(ngP fs ms).rs⟩
def ig0 (fs:List FE) (ms:List Nat):IG:=⟨((ngP fs ms).l,false),AH fs.length []⟩
def Jf (G:GC) (l:List Nd) (en:List (List En)) (r:DZ) (f:Nat):DZ:=
 let vs:=DX l (G.ps.getD f []) (G.rs.getD f 0)
 (r.1.set f (Ro l (DW vs) (G.ps.getD f []) (G.rs.getD f 0) vs.length),r.2.set f ((en.getD f []).map (PN G l (DW vs))))
def Uv (fs:List FE) (dt:List Dat) (r:DZ) (ms:List Nat):Except (Int×Nat) DZ:=
 let G:=gcP fs dt r.1 ms
 let st:=ms.foldl (igF G) (ig0 fs ms)
 if st.s.2=true\/qD st.s.1=false then .error (6,ms.headD 0)
                                              else match ms.find? (fun f=>aO st.s.1 (G.ps.getD f []) (G.rs.getD f 0) (st.en.getD f [])) with
  |some f=>.error (9,f)
  |none=>.ok (ms.foldl (Jf G st.s.1 st.en) r)
def jV:Sch:=⟨0,[],.mk 0 0 []⟩
def GH (fs:List FE) (dt:List Dat):List (List Nat)->DZ->Except (Int×Nat) DZ
 |[],r=>.ok r
 |ms::gs,r=>match Uv fs dt r ms with
  | .error e=>.error e
  | .ok r'=>GH fs dt gs r'
noncomputable def Dj (p:Pg):Except Dg DZ:=
 if (R5 p).1≠0 then .error (R5 p) else
 match Fc p with
 | .error d=>.error d
 | .ok dt=>match GH p.Ca dt (Lq p) (AH p.Ca.length jV,AH p.Ca.length []) with
  | .error e=>.error (e.1,(e.2:Int),0)
  | .ok r=>.ok r
structure AX5 (fs:List FE) (dn:List Nat) (s:NGs):Prop where
 len:s.mem.length=fs.length/\s.ps.length=fs.length/\s.rs.length=fs.length
 ps:∀q,some q∈s.ps->q.length<=6/\∀a∈q,a < s.l.length
 rs:∀a∈s.rs,a=0\/a < s.l.length
 cell:∀f∈dn,∃q,s.ps[f]?=some (some q)/\q.length=bN fs f
 nv:∀dt,NV dt s.l
 lo:dn.length<=s.l.length
 hi:s.l.length<=10 * dn.length
theorem AXW {fs:List FE} (p:∀f∈fs,f.params.length<=6):∀(c:List Nat) (rest:List Nat) (s:NGs),(∀f∈rest,f < fs.length)->AX5 fs c s->AX5 fs (c++rest) (rest.foldl (ngS fs) s)
 |c,[],s,_,h=>by simpa using h
 |c,f::rest,s,r,h=>by
  have u:=r f (AY)
  have n:bN fs f<=6:=by
   obtain ⟨t,m⟩:=Ak u;simp only [bN,m,Ap,BH];exact p t (AE m)
  have o:(L3 (E9 s.l (bN fs f)) 0 0 []).length=s.l.length+bN fs f+1:=by rw [Hh,LC]
  rw [BD,show c++f::rest=(c++[f])++rest from by simp];refine AXW p (c++[f]) rest _ (fun x k=>r x (AZ _ k)) ?_;obtain ⟨v,w,y⟩:=h.len;refine ⟨⟨by simp [ngS,v],by simp [ngS,w],by simp [ngS,y]⟩,fun q j=>?_,fun a l=>?_,fun g d=>?_,fun dt=>((h.nv dt).V5 _).add (eZ dt),?_,?_⟩
  . simp only [ngS,o] at j ⊢;rcases fP j with j|j
    . obtain ⟨a,b⟩:=h.ps q j;exact ⟨a,fun x k=>by have:=b x k;omega⟩
    . cases j;refine ⟨by simp;exact n,fun x k=>?_⟩;rw [List.mem_range'] at k;obtain ⟨i,z,B⟩:=k;omega
  . simp only [ngS,o] at l ⊢;rcases fP l with l|l
    . rcases h.rs a l with e|e
      . exact .inl e
      . right;omega
    . right;omega
  . simp only [ngS];rw [CT];split
    . rename_i e;subst e;rw [if_pos (by omega)];exact ⟨_,rfl,by simp⟩
    . rename_i e;rcases A2.1 d with d|d
      . exact h.cell g d
      . simp only [A9] at d;exact absurd d.symm e
  . simp only [ngS,o,A0,Ci];have:=h.lo;omega
  . simp only [ngS,o,A0,Ci];have:=h.hi;omega
theorem AZH {fs:List FE} (e:∀f∈fs,f.params.length<=6) {ms:List Nat} (d:∀f∈ms,f < fs.length):AX5 fs ms (ngP fs ms):=by
 have:=AXW e [] ms (ng0 fs.length) d ⟨⟨by simp [ng0],by simp [ng0],by simp [ng0]⟩,fun q g=>by simp [ng0] at g,fun a b=>by simp [ng0] at b;exact .inl b.2,fun f c=>by simp at c,fun dt=>NV.nil,by simp [ng0],by simp [ng0]⟩;simpa [ngP] using this
theorem AJ5 {l:List Nd} {pl:List Nat} {rf:Nat} {en:List En} (h:aO l pl rf en=false):(∀a∈pl,szN l a<=200)/\szN l rf<=200/\∀x∈en,szN l x.t<=200/\∀a∈x.ar,szN l a<=200:=by
 have b:∀a,mY l a=false->szN l a<=200:=fun a h=>by
  rw [mY,decide_eq_false_iff_not] at h;omega
 simp only [aO,XJ] at h;obtain ⟨⟨f,c⟩,d⟩:=h;refine ⟨fun a g=>b a ?_,b rf c,fun x e=>?_⟩
 . grind
 . have:=List.any_eq_false.1 d x e;simp only [ARD,EH,not_or,Bool.not_eq_true] at this
   grind
theorem AZR {l:List Nd} {d:Nat->Nat} (e:E8 l) (h:FR l d) {dt:List Dat} (g:NV dt l) (vs:List Nat):∀(N n:Nat),n < l.length->d (rtN l n)<=N->Vx vs.length (rdN l (DW vs) n)=true/\(rdN l (DW vs) n).sh dt:=by
 intro N
 induction N using DK with
 |_ N u=>
 intro n q z;obtain ⟨x,c,o⟩:=e.root q;have b:=g x (AE c);rw [bR e h c o];split
 . split
   . rename_i i p;obtain ⟨k,rfl,v,r,_⟩:=jN p;have:=(AG.1 r).1;refine ⟨?_,?_⟩
     . rw [Vx,if_pos rfl];simp;omega
     . rw [Ty.sh];exact ⟨.inl rfl,by rw [Ty.shs];trivial⟩
   . exact ⟨by rw [Vx,if_neg (by decide)];rfl,by rw [Ty.sh];exact ⟨.inr (.inl ⟨by omega,rfl,rfl⟩),by rw [Ty.shs];trivial⟩⟩
 . have f:x.k≠4:=by
    rcases b with h|h|h|h|h<;>omega
   have m:∀a∈x.ar,Vx vs.length (rdN l (DW vs) a)=true/\(rdN l (DW vs) a).sh dt:=fun a j=>by
    have y:=h.lt _ x c o a j;exact u (d (rtN l a)) (by omega) a (e.ar _ x c a j) (AW _)
   have s:∀us:List Nat,(∀a∈us,Vx vs.length (rdN l (DW vs) a)=true)->ML vs.length (us.map (rdN l (DW vs)))=true:=by
    intro us
    induction us with
    |nil=>intro _;rfl
    |cons a us w=>grind [ML,AY,AZ]
   refine ⟨?_,?_⟩
   . rw [Vx,if_neg f];grind
   . rw [Ty.sh,AA];refine ⟨.inr b,Ty.nX.2 fun t B=>?_⟩
     grind
def ACO (dt:List Dat) (s:Sch):Prop:=(0<=s.vars/\s.vars<=100000/\ML s.vars.toNat s.params=true/\Vx s.vars.toNat s.res=true/\Ty.AQ s.params<=100000/\s.res.size<=100000)/\Ty.shs dt s.params/\s.res.sh dt/\s.params.length<=6
theorem AWI (dt:List Dat):ACO dt jV:=⟨⟨by decide,by decide,rfl,rfl,by decide,by decide⟩,by rw [jV,Ty.shs];trivial,by grind [jV,Ty.sh,eZ,Ty.shs],by simp [jV]⟩
theorem AF5 {n:Nat} {f:Nat->Ty}:∀ {us:List Nat},(∀a∈us,Vx n (f a)=true)->ML n (us.map f)=true
 |[],_=>rfl
 |a::us,h=>by rw [AB,ML,h a (AY),AF5 fun b c=>h b (AZ _ c)];rfl
theorem AWJ {l:List Nd} {d:Nat->Nat} (j:E8 l) (h:FR l d) {dt:List Dat} (f:NV dt l) {pl:List Nat} {rf:Nat} (r:∀a∈pl,a < l.length) (k:rf < l.length) (q:pl.length<=6) (c:(∀a∈pl,szN l a<=200)/\szN l rf<=200):ACO dt (Ro l (DW (DX l pl rf)) pl rf (DX l pl rf).length):=by
 have u:(DX l pl rf).length<=1400:=by grind [AF1,A9,DX,A0,Ci]
 have s:=fun n e=>AZR j h f (DX l pl rf) (d (rtN l n)) n e (AW _);have v:=fun n (e:n < l.length) c=>AFJ (es:=DW (DX l pl rf)) j h (d (rtN l n)) n e (AW _) c;generalize DX l pl rf=vs at *
 have g:∀us:List Nat,(∀a∈us,a < l.length/\szN l a<=200)->Ty.AQ (us.map (rdN l (DW vs)))<=us.length * 200:=by
  intro us
  induction us with
  |nil=>intro _;simp [Ty.AQ]
  |cons a us w=>
   intro h;obtain ⟨m,o⟩:=h a (AY);have:=w fun b p=>h b (AZ _ p)
   grind [Ty.AQ,AT]
 have m:=g pl fun a i=>⟨r a i,c.1 a i⟩;have o:=v rf k c.2;refine ⟨⟨by simp [Ro],by simp only [Ro];omega,?_,?_,by simp only [Ro];omega,by simp only [Ro];omega⟩,?_,(s rf k).2,by simp [Ro];exact q⟩
 . grind [Ro,BX,AF5]
 . grind [Ro,BX]
 . simp only [Ro];refine Ty.nX.2 fun t x=>?_
   grind
section
theorem ALD:∀(Q08:List Nat) (f:Nat),(Q08.set f 0).sum+Q08.getD f 0=Q08.sum
 |[],f=>by simp
 |w::Q08,0=>by simp [Nat.add_comm]
 |w::Q08,f+1=>by
  have:=ALD Q08 f;simp only [C7,Em,List.getD_cons_succ];omega
theorem ABZ:∀(dn:List Nat) (Q08:List Nat),dn.Nodup->(dn.map fun f=>Q08.getD f 0).sum<=Q08.sum
 |[],Q08,_=>by simp
 |f::dn,Q08,h=>by
  rw [List.nodup_cons] at h;have a:=ABZ dn (Q08.set f 0) h.2
  grind [ALD,Gk,Bv]
theorem Uk {ms:List Nat} {n:Nat} (h:ms.Nodup) (g:∀f∈ms,f < n):ms.length<=n:=by
 have b:=ABZ ms (AH n 1) h;have c:ms.map (fun f=>(AH n 1).getD f 0)=ms.map fun _=>1:=Gk fun f e=>by grind
 have d:∀l:List Nat,(l.map fun _=>1).sum=l.length:=by
  intro l
  induction l with
  |nil=>rfl
  |cons a l i=>grind
 rw [c,d] at b;simpa using b
def szM (fs:List FE) (dn:List Nat):Nat:=(dn.map fun f=>((fs.map fun f=>f.body.size).getD f 0)).sum
theorem ATD (fs:List FE) {dn:List Nat} (h:dn.Nodup):szM fs dn<=Ut fs:=ABZ dn _ h
theorem AFW (fs:List FE) (dn:List Nat) {f:Nat} (h:fs[f]?=some fe):szM fs (dn++[f])=szM fs dn+fe.body.size:=by
 simp [szM,h]
def GB.w (B:GB) (ext:Nat->Option (List I)) (c:Nat) (es:List I):GB:= { B with ext:=ext,cur:=c,es:=es}
structure MS (B:GB) (ext0:Nat->Option (List I)) (ms:List Nat):Prop where
 ie:B.i≠B.je
 m:ext0 B.jm=some (BP B.G.mem)
 p:ext0 B.jp=some (psC B.G.ps)
 r:ext0 B.jr=some (DI B.G.rs)
 s:ext0 B.js=some (Vu B.G.sch)
 lm:B.G.mem.length=B.G.fs.length
 lp:B.G.ps.length=B.G.fs.length
 lr:B.G.rs.length=B.G.fs.length
 ls:B.G.sch.length=B.G.fs.length
 lf:B.G.fs.length<=100
 gd:GD B.G
 gv:GVv B.G
 ok:∀(f:Nat) (fe:FE),B.G.fs[f]?=some fe->OkE B.G fe.body fe.params/\fe.body.size<=600
 cell:∀f∈ms,∃q,B.G.ps[f]?=some q/\q.length=bN B.G.fs f
 lt:∀f∈ms,f < B.G.fs.length
 nd:ms.Nodup
 sz:Ut B.G.fs<=200
def NFs (dt:List Dat) (l:List Nd) (en:List En) (fe:FE):Prop:=∀i x,(Bl fe.body fe.params)[i]?=some x->NF dt l en i x.1 x.2
structure MI (B:GB) (ext0:Nat->Option (List I)) (O V:X) (dn:List Nat) (c0:Nat) (es:List I) (ext:Nat->Option (List I)) (j:Nat) (st:IG):Prop where
 sn:SN V B.i st.s.1 st.s.2 (B.w ext c0 es).rest j
 e:V.C B.je=some es
 x:∀k cs,ext k=some cs->V.C k=some cs
 jj:ext j=none/\j≠B.je
 xi:ext B.i=none
 xe:ext B.je=none
 sub:∀k cs,ext0 k=some cs->ext k=some cs
 nb:(nbH O).le V
 el:es.length=B.G.fs.length
 cell:∀f∈dn,∃jc,es[f]?=some (enV (st.en.getD f []) jc)/\(st.en.getD f []≠[]->ext jc=some (enC (st.en.getD f [])))/\ext0 jc=none
 un:∀f,f < B.G.fs.length->f ∉ dn->es[f]?=some .Ac
 enl:st.en.length=B.G.fs.length
 gi:∀f∈dn,GI B.G ⟨st.s,st.en.getD f []⟩/\(st.en.getD f []).length<=600/\EA (st.en.getD f [])
 sz:∀f∈dn,∀fe,B.G.fs[f]?=some fe->(st.en.getD f []).length=fe.body.size
 gi0:GI B.G ⟨st.s,[]⟩
 hi:st.s.1.length<=1000+1000000 * szM B.G.fs dn
 nv:NV B.G.dt st.s.1
 nf:st.s.2=false->∀f∈dn,∀fe,B.G.fs[f]?=some fe->NFs B.G.dt st.s.1 (st.en.getD f []) fe
variable {B:GB} {ext0 ext:Nat->Option (List I)} {O V τ':X} {ms dn:List Nat} {c0 j j' jc f:Nat} {es:List I} {st:IG}
theorem MI.pg (a:MS B ext0 ms) (h:MI B ext0 O V dn c0 es ext j st) (b:f < B.G.fs.length) (c:f ∉ dn):HU (B.w ext f es)/\PG (B.w ext f es) c0 V st.s j:=
 ⟨⟨a.ie,h.xi,h.xe,h.sub _ _ a.m,h.sub _ _ a.p,h.sub _ _ a.r,h.sub _ _ a.s,by show f < es.length;rw [h.el];exact b,a.lm,a.lp,a.lr,a.ls,a.lf⟩,⟨h.sn,h.e,h.un f b c,h.x,h.jj,h.gi0⟩⟩
theorem GI.le {G:GC} {s:SS} {en:List En} (h:GI G ⟨s,en⟩) (a:s.1.length<=s'.1.length):GI G ⟨s',en⟩:=GI.step h a
theorem ABR {l:List α} {f:Nat} (h:f < l.length) (x d:α):(l.set f x).getD f d=x:=by simp [h]
theorem AI0 {l:List α} {f g:Nat} (h:f≠g) (x d:α):(l.set f x).getD g d=l.getD g d:=by grind
theorem MI.next (v:MS B ext0 ms) (h:MI B ext0 O V dn c0 es ext j st) (p:f < B.G.fs.length) (E:f∈ms) (hn:f ∉ dn) (l:B.G.fs[f]?=some fe) (K:(nbH V).le τ')
 (n:GX (B.w ext f es) τ' (Sm B.G fe (B.G.ps.getD f []) (B.G.rs.getD f 0) st.s) j' jc) (s:st.s.1.length<=(Sm B.G fe (B.G.ps.getD f []) (B.G.rs.getD f 0) st.s).nx)
 (Z:(Sm B.G fe (B.G.ps.getD f []) (B.G.rs.getD f 0) st.s).nx<=st.s.1.length+1000000 * fe.body.size) (Y:(Sm B.G fe (B.G.ps.getD f []) (B.G.rs.getD f 0) st.s).en.length=fe.body.size):
 ∃z ext',MI B ext0 O τ' (dn++[f]) f z ext' j' (igF B.G st f):=by
 have G:igF B.G st f=⟨(Sm B.G fe (B.G.ps.getD f []) (B.G.rs.getD f 0) st.s).s,st.en.set f (Sm B.G fe (B.G.ps.getD f []) (B.G.rs.getD f 0) st.s).en⟩:=by
  unfold igF;rw [l]
 obtain ⟨N,D,L,u⟩:NV B.G.dt (Sm B.G fe (B.G.ps.getD f []) (B.G.rs.getD f 0) st.s).s.1/\EA (Sm B.G fe (B.G.ps.getD f []) (B.G.rs.getD f 0) st.s).en/\((Sm B.G fe (B.G.ps.getD f []) (B.G.rs.getD f 0) st.s).s.2=false->NFs B.G.dt (Sm B.G fe (B.G.ps.getD f []) (B.G.rs.getD f 0) st.s).s.1 (Sm B.G fe (B.G.ps.getD f []) (B.G.rs.getD f 0) st.s).en fe)/\Sx B.G.dt st.s (Sm B.G fe (B.G.ps.getD f []) (B.G.rs.getD f 0) st.s).s:=by
  unfold Sm;obtain ⟨q,hq,h0⟩:=v.cell f E;have P:fe.params.length=(B.G.ps.getD f []).length:=by grind [bN]
  have y:=fun a=>(AV0 v.gv fe.body.size fe.body fe.params (AW _) (v.ok f fe l).1 (Cy [] fe.params (B.G.ps.getD f [])) ⟨st.s,[]⟩ (EN.with (sc:=[]) (env:=[]) (fun _ _=>rfl) P)).1.more (Sx.uni _ a (B.G.rs.getD f 0))
  exact ⟨(y _).s.nv h.nv,(y _).ea (fun x o=>by simp at o),fun p i x o=>by
   have h:=(y _).nf p i x o;simp only [A8,Av,CC] at h;exact h,(y _).s⟩
 rw [G];generalize Sm B.G fe (B.G.ps.getD f []) (B.G.rs.getD f 0) st.s=g at *;have F:g.en≠[]:=fun e=>by grind [Ex.size_pos,A8]
 have U:τ'.C jc=some (enC g.en)/\jc≠B.i/\jc≠B.je/\ext jc=none/\jc≠j':=n.c F;obtain ⟨c1,c2,S,R,T⟩:=U;have Q:(es.set f (enV g.en jc)).length=B.G.fs.length:=by simp [h.el]
 refine ⟨es.set f (enV g.en jc),fun k=>if k=jc then some (enC g.en) else ext k,⟨?_,n.e,fun k cs w=>?_,⟨?_,n.jj.2⟩,?_,?_,fun k cs w=>?_,D9 h.nb K,Q,fun d b=>?_,fun d b t=>?_,by simp [h.enl],fun d b=>?_,fun d b m c=>?_,?_,?_,N,fun r d b m c=>?_⟩⟩
 . have:=n.sn
   have hr:(B.w ext f es).rest=(B.w (fun k=>if k=jc then some (enC g.en) else ext k) f (es.set f (enV g.en jc))).rest:=by
    simp only [GB.rest,GB.w,Ld]
   rw [hr] at this;exact this
 . split at w
   . grind
   . exact n.x k cs w
 . rw [if_neg (A5 T)];exact n.jj.1
 . rw [if_neg (A5 c2)];exact h.xi
 . rw [if_neg (A5 S)];exact h.xe
 . have:=h.sub k cs w
   grind
 . by_cases e:f=d
   . subst e;refine ⟨jc,?_,fun _=>?_,?_⟩
     . rw [ABR (by rw [h.enl];exact p)];grind
     . grind
     . cases o:ext0 jc with
       |none=>rfl
       |some cs=>rw [h.sub _ _ o] at R;cases R
   . rcases A2.1 b with b|b
     . obtain ⟨h4,h1,h2,h3⟩:=h.cell d b
       grind
     grind
 . have e:f≠d:=fun e=>t (by simp [e]);rw [Bv e];exact h.un d b fun hm=>t (I6 _ hm)
 . by_cases e:f=d
   . subst e;simp only;rw [ABR (by rw [h.enl];exact p)];exact ⟨n.gi,by have:=(v.ok f fe l).2;omega,D⟩
   . rcases A2.1 b with b|b
     . simp only;rw [AI0 e];exact ⟨GI.le (h.gi d b).1 s,(h.gi d b).2⟩
     grind
 . by_cases e:f=d
   . subst e;simp only;rw [ABR (by rw [h.enl];exact p)]
     grind
   . rcases A2.1 b with b|b
     . simp only;rw [AI0 e];exact h.sz d b m c
     grind
 . exact GI.le h.gi0 s
 . simp only;rw [AFW _ _ l];have:=h.hi;have e:g.nx=g.s.1.length:=rfl;omega
 . simp only;by_cases e:f=d
   . subst e;rw [l] at c;cases c;rw [ABR (by rw [h.enl];exact p)];exact L r
   . rcases A2.1 b with b|b
     . rw [AI0 e];exact fun i x o=>(h.nf (u.fl r) d b m c i x o).mono u.hp fun _ _ _ h=>h
     grind
abbrev eNn:Nat:=71
abbrev LI (ds fs:DV) (js jn n:Nat):Lm:=CN 1 [.d ds,.d fs] (CN 2 [.Ac,.Ac] (CN 3 [.d (.int .i64 0),.d (.int .i64 0),.d (.int .i64 0)] (CN 7 [.ms js n 5 eSs,.ms jn n 1 eNn] E)))
theorem AEM (B:GB) (ext0:Nat->Option (List I)) (ms:List Nat) (a:MS B ext0 ms) (O:X) (Q:I->X->Prop) (k:List CI) (ds fs:DV) (jj jn n:Nat) (b:IG) (V:X) (es:List I) (j:Nat) (h0:MI B ext0 O V [] 0 es ext0 j b)
 (a5 t u w:DV)
 (hk:∀τ' c o ext' j',MI B ext0 O τ' ms c o ext' j' (ms.foldl (igF B.G) b)->W Bx Q k (put 1 (.lp 1 0) (put 2 (.lp 2 0) (put 3 (.lp 3 0) (put 5 (.d a5) (put 7 (.lp 7 0) (put 9 (.d (.sl (ms.map Ba))) (put 10 (.gp B.i 0) (put 40 (.d t) (put 41 (.d u) (put 42 (.d w) U)))))))))) (LI ds fs jj jn n) τ'):
 W Bx Q (.code (.loop Fz)::.C 2::k) (put 1 (.lp 1 0) (put 2 (.lp 2 0) (put 3 (.lp 3 0) (put 5 (.d a5) (put 7 (.lp 7 0) (put 9 (.d (.sl (ms.map Ba))) (put 10 (.gp B.i 0) (put 40 (.d t) (put 41 (.d u) (put 42 (.d w) (put 52 (.d (.sl (ms.map Ba))) (put 53 (.d (.int .i64 ms.length)) (put 54 (.d (.int .i64 0)) U))))))))))))) (LI ds fs jj jn n) V:=by
 have h4:ms.length<=100:=Ai (Uk a.nd a.lt) a.lf
 refine lpK (fun (z:Nat×X)=>[(54,A1 z.1)]) (fun z=>z.2)
  (fun z=>z.1<=ms.length/\∃c o ext' j',MI B ext0 O z.2 (ms.take z.1) c o ext' j' ((ms.take z.1).foldl (igF B.G) b))
  (fun z=>ms.length - z.1) ?_ (0,V) ⟨by simp,0,es,ext0,j,by simpa using h0⟩
 rintro ⟨p,G⟩ ⟨hp,c,x,l,j1,m⟩ ih;simp only at hp m;by_cases i:p < ms.length
 . obtain ⟨f,E⟩:=Ak i;have L:=H5 E;have s:=AE E;have e:=a.lt f s;have Y:=wS p
   have h5:(ms.take (p+1)).foldl (igF B.G) b=igF B.G ((ms.take p).foldl (igF B.G) b) f:=by
    rw [Aa E,Cv];rfl
   have D:f ∉ ms.take p:=fun hm=>by
    have m:=a.nd.sublist (List.take_sublist (p+1) ms);rw [Aa E] at m
    grind
   obtain ⟨fe,d⟩:=Ak e;obtain ⟨q,hq,S⟩:=a.cell f s;obtain ⟨r,hr⟩:=Ak (show f < B.G.rs.length by rw [a.lr];exact e);have g:B.G.ps.getD f []=q:=by simp [hq]
   have h:B.G.rs.getD f 0=r:=by simp [hr]
   have F:((ms.take p)++[f]).Nodup:=by rw [<- Aa E];exact a.nd.sublist (List.take_sublist _ _)
   have T:=ATD B.G.fs F;rw [AFW _ _ d] at T;have h6:=a.sz;have h3:=m.hi;obtain ⟨hB,hP⟩:=m.pg a e D;have hc:=tP (B.w l f x) hB a.gd fe q r d hq hr (by rw [S,bN,d];rfl) (a.ok f fe d).1 c _ G j1 (by omega) hP;generalize (ms.take p).foldl (igF B.G) b=st at *;(repeat' refine sQ ?_<;>simp only [BI i,L,go_sem]);refine AN.mk rfl hc ?_;rintro v Z ⟨N,⟨j2,jc,hg⟩,g1,g2,g3⟩;simp only [go_sem];(repeat' refine sQ ?_<;>simp only [Y,go_sem]);have P:=m.next a e s D d N (j':=j2) (jc:=jc) (by rw [g,h];exact hg) (by rw [g,h];exact g1) (by rw [g,h];exact g2) (by rw [g,h];exact g3);obtain ⟨K,y,h2⟩:=P;exact ih ⟨p+1,Z⟩ ⟨i,f,K,y,j2,by grind [Aa]⟩ (by simp only;omega)
 . have R:p=ms.length:=by omega
   subst R;rw [Ar] at m;(repeat' (first|refine sQ ?_|refine ctQ rfl ?_|fail)<;>try simp only [B5 i,go_sem]);refine W.Zh [1,2,3,5,7,9,10,40,41,42] ?_;have:=hk G c x l j1 m;simp only [go_sem];exact this
end
structure MF (B:GB) (ms:List Nat) (es:List I) (st:IG) (ext:Nat->Option (List I)):Prop where
 xm:ext B.jm=some (BP B.G.mem)
 xp:ext B.jp=some (psC B.G.ps)
 xr:ext B.jr=some (DI B.G.rs)
 xe:ext B.je=some es
 el:es.length=B.G.fs.length
 cell:∀f∈ms,∃jc,es[f]?=some (enV (st.en.getD f []) jc)/\(st.en.getD f []≠[]->ext jc=some (enC (st.en.getD f [])))
 gi:∀f∈ms,GI B.G ⟨st.s,st.en.getD f []⟩/\(st.en.getD f []).length<=600/\EA (st.en.getD f [])
 gi0:GI B.G ⟨st.s,[]⟩
theorem AEL (B:GB) (D:Nat->Option (List I)) (ms:List Nat) (o:MS B D ms) (y:Nat) (es:List I) (st:IG) (ext:Nat->Option (List I)) (F:MF B ms es st ext) (d:Nat->Nat) (O:X) (t j1 j3 j4:Nat) (h1:st.s.1≠[]) (he:JE ext B.i st.s.1 d t j1 j3 j4)
 (Q:I->X->Prop) (k:List CI) (ds fs:DV) (jj jn n:Nat) (a5 u v w:DV) (V:X) (s:JZ ext O B.i (B.w ext y es).rest st.s.1 st.s.2 t V)
 (G:∀f c k',ms.find? (fun f=>aO st.s.1 (B.G.ps.getD f []) (B.G.rs.getD f 0) (st.en.getD f []))=some f->JZ ext O B.i (B.w ext y es).rest st.s.1 st.s.2 t c->
   W Bx Q (.code .ret::k') (put 2 (.lp 2 0) (put 3 (.lp 3 0) U)) (CN 2 [.Ac,.Ac] (CN 3 [.d (.int .i64 9),.d (.int .i64 (f:Int)),.d (.int .i64 0)] E)) c)
 (hk:∀c,ms.find? (fun f=>aO st.s.1 (B.G.ps.getD f []) (B.G.rs.getD f 0) (st.en.getD f []))=none->JZ ext O B.i (B.w ext y es).rest st.s.1 st.s.2 t c->
   W Bx Q k (put 1 (.lp 1 0) (put 2 (.lp 2 0) (put 3 (.lp 3 0) (put 5 (.d a5) (put 7 (.lp 7 0) (put 9 (.d (.sl (ms.map Ba))) (put 10 (.gp B.i 0) (put 40 (.d u) (put 41 (.d v) (put 42 (.d w) U)))))))))) (LI ds fs jj jn n) c):
 W Bx Q (.code (.loop IL)::.C 4::k) (put 1 (.lp 1 0) (put 2 (.lp 2 0) (put 3 (.lp 3 0) (put 5 (.d a5) (put 7 (.lp 7 0) (put 9 (.d (.sl (ms.map Ba))) (put 10 (.gp B.i 0) (put 13 (szC j1 j3 j4) (put 40 (.d u) (put 41 (.d v) (put 42 (.d w) (put 83 (.d (.sl (ms.map Ba))) (put 84 (.d (.int .i64 ms.length)) (put 85 (.d (.int .i64 0)) U)))))))))))))) (LI ds fs jj jn n) V:=by
 have h8:ms.length<=100:=Ai (Uk o.nd o.lt) o.lf
 refine lpK (fun (z:Nat×X)=>[(85,A1 z.1)]) (fun z=>z.2)
  (fun z=>z.1<=ms.length/\(∀f∈ms.take z.1,aO st.s.1 (B.G.ps.getD f []) (B.G.rs.getD f 0) (st.en.getD f [])=false)/\JZ ext O B.i (B.w ext y es).rest st.s.1 st.s.2 t z.2)
  (fun z=>ms.length - z.1) ?_ (0,V) ⟨by simp,by simp,s⟩
 clear s;rintro ⟨p,N⟩ ⟨hp,j,s⟩ ih;simp only at hp j s;by_cases a:p < ms.length
 . obtain ⟨f,K⟩:=Ak a;have L:=H5 K;have e:=AE K;have h0:=o.lt f e;have h3:=wS p;obtain ⟨q,hq,h9⟩:=o.cell f e;obtain ⟨r,hr⟩:=Ak (show f < B.G.rs.length by rw [o.lr];exact h0);have h6:B.G.ps.getD f []=q:=by simp [hq]
   have h7:B.G.rs.getD f 0=r:=by simp [hr]
   obtain ⟨jc,T,Y⟩:=F.cell f e;obtain ⟨g,h5,h4⟩:=F.gi f e;have P:=AHQ (B.w ext y es) ext O st.s.1 d st.s.2 t j1 j3 j4 h1 he f jc es q r (st.en.getD f []) F.xp F.xr F.xe rfl Y hq hr T (by omega) (g.ps q (AE hq)) (g.rs r (AE hr)) (fun x R=>⟨(g.en x R).1,(g.en x R).2.2.2⟩) N s;have Z:∀b,aO st.s.1 q r (st.en.getD f [])=b->aO st.s.1 (B.G.ps.getD f []) (B.G.rs.getD f 0) (st.en.getD f [])=b:=fun b h=>by grind
   cases S:aO st.s.1 q r (st.en.getD f []) with
   |true=>
    rw [S] at P;(repeat' refine wQ ?_<;>simp only [BI a,L,go_sem]);refine AN.mk rfl P ?_;rintro _ l ⟨rfl,i⟩;simp only [go_sem];(repeat' refine wQ ?_<;>simp only [go_sem]);refine G f l _ ?_ i;rw [List.find?_eq_some_iff_getElem];refine ⟨Z _ S,p,a,(AG.1 K).2,fun m hm=>?_⟩;have:=j (ms[m]'(by omega)) (List.mem_take_iff_getElem.2 ⟨m,by omega,rfl⟩);rw [this];rfl
   |false=>
    rw [S] at P;(repeat' refine wQ ?_<;>simp only [BI a,L,go_sem]);refine AN.mk rfl P ?_;rintro _ l ⟨rfl,i⟩;simp only [go_sem];(repeat' refine wQ ?_<;>simp only [h3,go_sem]);refine ih ⟨p+1,l⟩ ⟨a,fun x R=>?_,i⟩ (by simp only;omega);rw [Aa K] at R
    grind
 . have h2:p=ms.length:=by omega
   subst h2;rw [Ar] at j;(repeat' refine wQ ?_<;>simp only [B5 a,go_sem]);refine W.Zh [1,2,3,5,7,9,10,40,41,42] ?_;have:=hk N (cD.2 fun f K=>by grind) s;simp only [go_sem];exact this
theorem AK8 {α:Type} (r:α->List I) (s:Nat) (a:∀x,(r x).length=s) (y:α):∀ {l:List α} {i:Nat},i < l.length->(rwC r l).take (i * s)++r y++(rwC r l).drop (i * s+s)=rwC r (l.set i y)
 |x::l,0,h=>by
  rw [List.set_cons_zero,FU,FU,To,Av,CD,A3];congr 1;exact List.drop_left' (a x)
 |x::l,i+1,h=>by
  have:=AK8 r s a y (l:=l) (i:=i) (by simpa using h);rw [C7,FU,FU,<- this,show (i+1) * s=(r x).length+i * s from by rw [a,Cj];omega,Zr,show (r x).length+i * s+s=(r x).length+(i * s+s) from by omega,HM];simp
def ntR (l:List Nt):I:= .d (.sl (l.map Cf))
def ntC (nts:List (List Nt)):List I:=nts.map ntR
theorem AVZ {nts:List (List Nt)} {f:Nat} (h:f < nts.length) (y:List Nt):(ntC nts).take f++[ntR y]++(ntC nts).drop (f+1)=ntC (nts.set f y):=by
 induction nts generalizing f with
 |nil=>cases h
 |cons x l a=>
  cases f with
  |zero=>simp [ntC]
  |succ f=>
   grind [ntC]
def exR (ext:Nat->Option (List I)) (js jn:Nat) (r:DZ) (k:Nat):Option (List I):=if k=js then some (Vu r.1) else if k=jn then some (ntC r.2) else ext k
theorem ADT {ext:Nat->Option (List I)} (h:exR ext js jn r k=none):k≠js/\k≠jn/\ext k=none:=by
 unfold exR at h
 grind
theorem AAI {ext:Nat->Option (List I)} (r:DZ) (a:k≠js) (b:k≠jn) (h:ext k=none):exR ext js jn r k=none:=by
 unfold exR;grind
theorem TX.exs {B:GB} {ext:Nat->Option (List I)} {l:List Nd} {fl:Bool} {j:Nat} {r':DZ} {V:X} (h:TX B (exR ext js jn r) l fl j V) (u:l≠[]) (v:js≠jn):TX B (exR ext js jn r') l fl j ((V.AI js (Vu r'.1)).AI jn (ntC r'.2)):=by
 obtain ⟨a,b,f⟩:=ADT h.xi;obtain ⟨d,e,g⟩:=ADT h.xj;have n:=DF a b;have o:=DF d e;obtain ⟨i,c,t,s⟩:=h.sn.nd u;refine ⟨⟨?_,h.sn.Gn,fun _=>⟨i,c,t,?_⟩⟩,fun k cs m=>?_,?_,?_⟩
 . rw [AD,if_neg n.2,AD,if_neg n.1];exact h.sn.C
 . rw [AD,if_neg o.2,AD,if_neg o.1];exact s
 . unfold exR at m;rw [AD,AD];split at m
   . grind
   . rename_i p;split at m
     . grind
     . rename_i q;rw [if_neg q,if_neg p];refine h.x k cs ?_;unfold exR
       grind
 . exact AAI r' a b f
 . exact AAI r' d e g
theorem AEN (B:GB) (N:Nat->Option (List I)) (ms:List Nat) (m:MS B N ms) (u:Nat) (es:List I) (st:IG) (ext:Nat->Option (List I)) (js jn:Nat) (D:js≠jn) (t:∀r,MF B ms es st (exR ext js jn r)) (d:Nat->Nat) (hd:FR st.s.1 d) (Z:st.s.1≠[]) (hj:st.s.1.length<=900000000)
 (hl:ms.find? (fun f=>aO st.s.1 (B.G.ps.getD f []) (B.G.rs.getD f 0) (st.en.getD f []))=none) (hn:∀q∈B.G.ps,q.length<=6)
 (Q:I->X->Prop) (k:List CI) (ds fs:DV) (a5 G K L:DV) (s:DZ) (ns:s.1.length=B.G.fs.length) (al:s.2.length=B.G.fs.length) (F V:X) (j:Nat) (a:(nbH F).le V) (o:TX (B.w ext u es) (exR ext js jn s) st.s.1 st.s.2 j V)
 (hk:∀E j',(nbH F).le E->TX (B.w ext u es) (exR ext js jn (ms.foldl (Jf B.G st.s.1 st.en) s)) st.s.1 st.s.2 j' E->
   W Bx Q k (put 1 (.lp 1 0) (put 2 (.lp 2 0) (put 3 (.lp 3 0) (put 5 (.d a5) (put 7 (.lp 7 0) (put 40 (.d G) (put 41 (.d K) (put 42 (.d L) U)))))))) (LI ds fs js jn B.G.fs.length) E):
 W Bx Q (.code (.loop Ln)::.C 6::k) (put 1 (.lp 1 0) (put 2 (.lp 2 0) (put 3 (.lp 3 0) (put 5 (.d a5) (put 7 (.lp 7 0) (put 10 (.gp B.i 0) (put 40 (.d G) (put 41 (.d K) (put 42 (.d L) (put 97 (.d (.sl (ms.map Ba))) (put 98 (.d (.int .i64 ms.length)) (put 99 (.d (.int .i64 0)) U)))))))))))) (LI ds fs js jn B.G.fs.length) V:=by
 have hy:ms.length<=100:=Ai (Uk m.nd m.lt) m.lf
 have y:∀(fs:List Nat) (r:DZ),(fs.foldl (Jf B.G st.s.1 st.en) r).1.length=r.1.length/\(fs.foldl (Jf B.G st.s.1 st.en) r).2.length=r.2.length:=by
  intro fs
  induction fs with
  |nil=>grind
  |cons f fs ih=>grind [Jf,Ld]
 refine lpK (fun (z:Nat×X)=>[(99,A1 z.1)]) (fun z=>z.2)
  (fun z=>z.1<=ms.length/\(nbH F).le z.2/\∃j',TX (B.w ext u es) (exR ext js jn ((ms.take z.1).foldl (Jf B.G st.s.1 st.en) s)) st.s.1 st.s.2 j' z.2)
  (fun z=>ms.length - z.1) ?_ (0,V) ⟨by simp,a,j,by simpa using o⟩
 clear a o;rintro ⟨p,h7⟩ ⟨hp,a,j1,o⟩ ih;simp only at hp a o;by_cases n:p < ms.length
 . obtain ⟨f,hf⟩:=Ak n;have hg:=H5 hf;have b:=AE hf;have S:=m.lt f b;have ho:=wS p
   have h6:(ms.take (p+1)).foldl (Jf B.G st.s.1 st.en) s=Jf B.G st.s.1 st.en ((ms.take p).foldl (Jf B.G st.s.1 st.en) s) f:=by
    rw [Aa hf,Cv];rfl
   obtain ⟨ht,hv⟩:=y (ms.take p) s;generalize (ms.take p).foldl (Jf B.G st.s.1 st.en) s=r at *;obtain ⟨q,hq,ks⟩:=m.cell f b;obtain ⟨w,hw⟩:=Ak (show f < B.G.rs.length by rw [m.lr];exact S);have T:B.G.ps.getD f []=q:=by simp [hq]
   have Y:B.G.rs.getD f 0=w:=by simp [hw]
   have t:=t r;obtain ⟨jc,h9,hb⟩:=t.cell f b;obtain ⟨v,hs,ha⟩:=t.gi f b;have P:=cD.1 hl f b;rw [T,Y] at P;obtain ⟨z1,z2,z3⟩:=AJ5 (by simpa using P);have h8:RF (B.w ext u es) (exR ext js jn r) st.s.1 f jc es q w (st.en.getD f []):=⟨t.xm,t.xp,t.xr,t.xe,rfl,hb,hq,hw,h9,by omega,fun q hq=>⟨by have:=hn q hq;omega,v.ps q hq⟩,v.rs,m.lm,m.lp,m.lr,v.en,z1,z2,z3,fun x o=>by have:=ha x o;omega⟩;have hc:=AN6 (B.w ext u es) (exR ext js jn r) st.s.1 d hd st.s.2 j1 h7 f jc es q w (st.en.getD f []) h8 o Z hj;rw [ASW] at hc;(repeat' refine sQ ?_<;>simp only [BI n,hg,go_sem])
   have h5:Jf B.G st.s.1 st.en r f=(r.1.set f (Ro st.s.1 (DW (DX st.s.1 q w)) q w (DX st.s.1 q w).length),r.2.set f ((st.en.getD f []).map (PN B.G st.s.1 (DW (DX st.s.1 q w))))):=by
    rw [<- T,<- Y];rfl
   rw [h5] at h6;have hi:(B.w ext u es).G=B.G:=rfl;rw [hi] at hc;have e:=AK8 Sch.row 5 Sch.Bj (Ro st.s.1 (DW (DX st.s.1 q w)) q w (DX st.s.1 q w).length) (show f < r.1.length by omega);have g:=AVZ (show f < r.2.length by omega) ((st.en.getD f []).map (PN B.G st.s.1 (DW (DX st.s.1 q w))));have R:=fun j2 l (i:TX (B.w ext u es) (exR ext js jn r) st.s.1 st.s.2 j2 l)=>i.exs (r':=(r.1.set f (Ro st.s.1 (DW (DX st.s.1 q w)) q w (DX st.s.1 q w).length),r.2.set f ((st.en.getD f []).map (PN B.G st.s.1 (DW (DX st.s.1 q w)))))) Z D;generalize Ro st.s.1 (DW (DX st.s.1 q w)) q w (DX st.s.1 q w).length=sc at *;generalize (st.en.getD f []).map (PN B.G st.s.1 (DW (DX st.s.1 q w)))=nt at *;simp only [Sch.row] at hc e;simp only [ntR] at g;have he:=ltT S;have h1:(f * 5+5<=(Vu r.1).length)=True:=by rw [Dd Sch.row 5 Sch.Bj];simp;omega
   have h0:(f+1<=(ntC r.2).length)=True:=by simp [ntC];omega
   have h3:(jn=js)=False:=by grind
   have h4:(js=jn)=False:=by simp;exact D
   refine W.Gs mixed ?_;simp only [go_sem]
   (repeat' first
     |(refine AN.mk rfl hc ?_
       rintro _ l ⟨rfl,h2,j2,i⟩;have b1:l.C js=some (Vu r.1):=i.x js _ (by simp [exR]);have b2:l.C jn=some (ntC r.2):=i.x jn _ (by simp [exR,A5 D]);have hr:=R j2 l i;have c:=D9 a h2;simp only [b1,b2,he,h1,h0,e,g,h3,Ag,go_sem];(repeat' (refine wQ ?_<;>simp only [ho,go_sem]));exact ih ⟨p+1,_⟩ ⟨n,⟨fun _ _ h=>(by cases h),c.tok,c.gt,c.bt⟩,j2,by simp only [h6];exact hr⟩ (by simp only;omega))
     |refine DF ?_ ?_)
 . have hm:p=ms.length:=by omega
   subst hm;rw [Ar] at o;(repeat' refine wQ ?_<;>simp only [B5 n,go_sem]);refine W.Zh [1,2,3,5,7,40,41,42] ?_;have:=hk h7 j1 a o;simp only [go_sem];exact this
structure PF (fs:List FE) (dt:List Dat):Prop where
 lf:fs.length<=24
 pr:∀f∈fs,f.params.length<=6
 sz:Ut fs<=200
 ok:∀(f:Nat) (fe:FE),fs[f]?=some fe->(∀x∈Bl fe.body fe.params,M4 fs dt x.1 x.2=0/\nb1 x.1)/\fe.body.size<=600
 dt1:∀d∈dt,0<=d.vars/\d.vars<=1000/\d.cons.length<=1000000/\∀c∈d.cons,ML d.vars.toNat c.args=true/\Ty.AQ c.args<=100000
 dt2:∀d∈dt,∀c∈d.cons,Ty.shs dt c.args
structure HI (dt:List Dat) (O V:X) (n js jn:Nat) (r:DZ):Prop where
 mo:Mo O V
 j1:O.C js=none
 j2:O.C jn=none
 ne:js≠jn
 b1:V.C js=some (Vu r.1)
 b2:V.C jn=some (ntC r.2)
 l1:r.1.length=n
 l2:r.2.length=n
 so:∀s∈r.1,ACO dt s
theorem Mo.le {A V:X} (h:Mo A V):A.le V:=⟨h.C,h.nb.tok,h.nb.gt,h.nb.bt⟩
def exN (i je j:Nat) (V:X) (k:Nat):Option (List I):=if k=i\/k=je\/k=j then none else V.C k
theorem dG {i je j:Nat} {V:X} {c:List I} (h:V.C k=some c) (a:k≠i) (b:k≠je) (d:k≠j):exN i je j V k=some c:=by
 unfold exN;grind
def gB (fs:List FE) (ds:List DE) (dt:List Dat) (r:DZ) (ms:List Nat) (i je jm jp jr js:Nat):GB:=⟨i,je,jm,jp,jr,js,fun _=>none,gcP fs dt r.1 ms,ds,0,AH fs.length .Ac⟩
theorem AR7 {fs:List FE} {ds:List DE} {dt:List Dat} {ms:List Nat} {i jm jp jr je j:Nat} {O V τ1:X} (p:PF fs dt) (n:HI dt O V fs.length js jn r) (N:∀f∈ms,f < fs.length) (y:ms.Nodup) (h0:ms≠[])
 (h:NGI V τ1 fs.length (.sl (ds.map DE.J)) (.sl (fs.map FE.J)) (dsA dt) (.ms js fs.length 5 eSs) i jm jp jr je j (ngP fs ms)):
 MS (gB fs ds dt r ms i je jm jp jr js) (exN i je j (τ1.AI jp (psC (pgl (ngP fs ms).ps)))) ms/\MI (gB fs ds dt r ms i je jm jp jr js) (exN i je j (τ1.AI jp (psC (pgl (ngP fs ms).ps)))) O (τ1.AI jp (psC (pgl (ngP fs ms).ps))) [] 0 (AH fs.length .Ac) (exN i je j (τ1.AI jp (psC (pgl (ngP fs ms).ps)))) j (ig0 fs ms)/\
  (∀k c,V.C k=some c->exN i je j (τ1.AI jp (psC (pgl (ngP fs ms).ps))) k=some c)/\(ig0 fs ms).s.1≠[]:=by
 have d:=AZH p.pr N
 have g:(ngP fs ms).l≠[]:=fun e=>by
  have:=d.lo;simp_all
 obtain ⟨f1,f2,f3,f4,f5⟩:=h.fr;obtain ⟨d1,d2,d3,d4,d5,d6,d7,d8,d9,d10⟩:=h.nd;obtain ⟨x1,x2,Q,x4,x5⟩:=h.jx g;have L:=(h.sn.nd g).1;obtain ⟨R,G,F⟩:=(h.sn.nd g).2;have z:(pgl (ngP fs ms).ps).length=fs.length:=by simp [pgl,d.len.2.1]
 have t:∀k c,V.C k=some c->exN i je j (τ1.AI jp (psC (pgl (ngP fs ms).ps))) k=some c:=fun k c B=>by
  have Z:=h.mo.C k c B;refine dG ?_ (fun e=>by grind) (fun e=>by grind) (fun e=>by grind);rw [AD,if_neg (fun e=>by grind)];exact Z
 have m:∀q∈pgl (ngP fs ms).ps,q.length<=6/\∀a∈q,a < (ngP fs ms).l.length:=fun q P=>by
  obtain ⟨o,ho,rfl⟩:=BR.1 P;cases o with
  |none=>grind
  |some q=>exact d.ps q ho
 have u:0 < (ngP fs ms).l.length:=Ds.2 g;have S:exN i je j (τ1.AI jp (psC (pgl (ngP fs ms).ps))) jm=some (BP (ngP fs ms).mem):=dG (by rw [AD,if_neg d5];exact h.bm) (A5 d1) d7 x2;have T:exN i je j (τ1.AI jp (psC (pgl (ngP fs ms).ps))) jp=some (psC (pgl (ngP fs ms).ps)):=dG BB (A5 d2) d9 Q;have U:exN i je j (τ1.AI jp (psC (pgl (ngP fs ms).ps))) jr=some (DI (ngP fs ms).rs):=dG (by rw [AD,if_neg (A5 d8)];exact h.br) (A5 d3) d10 x4;refine ⟨⟨d4,S,T,U,t _ _ n.b1,d.len.1,z,d.len.2.2,n.l1,by have:=p.lf;show fs.length<=100;omega,?_,?_,?_,?_,N,y,p.sz⟩,⟨⟨?_,h.sn.Gn,fun _=>⟨L,R,G,?_⟩⟩,?_,fun k cs B=>?_,⟨?_,A5 x5⟩,?_,?_,fun k cs B=>B,?_,by simp [gB,gcP],fun f b=>by simp at b,fun f b _=>?_,by simp [ig0,gB,gcP],fun f b=>by simp at b,fun f b=>by simp at b,?_,?_,d.nv dt,fun _ f b=>by simp at b⟩,t,g⟩
 . exact ⟨p.dt1,fun s w=>(n.so s w).1,fun l v=>by have:=(m l v).1;omega⟩
 . exact ⟨fun D hD=>(p.dt1 D hD).1,p.dt2,fun s w=>⟨(n.so s w).2.1,(n.so s w).2.2.1,(n.so s w).2.2.2,(n.so s w).1.2.1⟩,fun l v=>(m l v).1,n.l1⟩
 . exact fun f Y K=>p.ok f Y K
 . intro f b;obtain ⟨q,P,v⟩:=d.cell f b
   grind [gB,gcP,pgl]
 . have:=h.sn.C;rw [AD];show (if i=jp then _ else τ1.C i)=_;rw [if_neg d2,this];simp only [GB.rest,GB.w,gB,gcP,ig0,d.len.1,d.len.2.2,z,n.l1,MR];rfl
 . rw [AD,if_neg (A5 Q)];exact F
 . rw [AD];show (if je=jp then _ else _)=_;rw [if_neg (A5 d9)];exact h.be
 . grind [exN]
 . unfold exN;grind
 . unfold exN;exact if_pos (.inl rfl)
 . unfold exN;exact if_pos (.inr (.inl rfl))
 . exact D9 n.mo.nb (D9 h.mo.nb ⟨fun _ _ h=>(by cases h),fun _ h=>h,rfl,fun _ _ h=>h⟩)
 . simp only [gB,gcP] at b;simp [b]
 . refine ⟨u,fun x hx=>by simp at hx,fun l v a E=>(m l v).2 a E,fun a E=>?_⟩;rcases d.rs a E with e|e
   . rw [e];exact u
   . exact e
 . have:=d.hi;have:=Uk y N;have:=p.lf;simp only [ig0];omega
def fQ (fs:List FE) (dt:List Dat) (r:DZ) (f:Nat):Prop:=∃(l:List Nd) (d:Nat->Nat) (G:GC) (en:List En) (pl:List Nat) (rf:Nat),E8 l/\FR l d/\NV dt l/\r.1[f]?=some (Ro l (DW (DX l pl rf)) pl rf (DX l pl rf).length)/\r.2[f]?=some (en.map (PN G l (DW (DX l pl rf))))/\
 (∀a∈pl,a < l.length/\szN l a<=200)/\(rf < l.length/\szN l rf<=200)/\(∀x∈en,(x.t < l.length/\szN l x.t<=200)/\∀a∈sF G l x,a < l.length/\(szN l a<=200\/∃y,l[rtN l a]?=some y/\y.k=0))/\
 (∀fe,fs[f]?=some fe->pl.length=fe.params.length/\en.length=fe.body.size)/\(∀x∈en,(sF G l x).length<=900000000)/\∀fe,fs[f]?=some fe->NFs dt l en fe
theorem ABN (G:GC) (l:List Nd) (en:List (List En)):∀(ms:List Nat) (r:DZ) (f:Nat),ms.Nodup->(f ∉ ms->(ms.foldl (Jf G l en) r).1[f]?=r.1[f]?/\(ms.foldl (Jf G l en) r).2[f]?=r.2[f]?)/\
 (f∈ms->f < r.1.length->f < r.2.length->(ms.foldl (Jf G l en) r).1[f]?=(Jf G l en r f).1[f]?/\(ms.foldl (Jf G l en) r).2[f]?=(Jf G l en r f).2[f]?)
 |[],r,f,_=>⟨fun _=>⟨rfl,rfl⟩,fun h=>by simp at h⟩
 |g::ms,r,f,a=>by
  rw [List.nodup_cons] at a;obtain ⟨c,d⟩:=ABN G l en ms (Jf G l en r g) f a.2;rw [BD]
  have b:f≠g->(Jf G l en r g).1[f]?=r.1[f]?/\(Jf G l en r g).2[f]?=r.2[f]?:=fun e=>by
   simp only [Jf,Bv (A5 e),and_self]
  grind [AY,AZ,Jf,Bq]
theorem sY (G:GC) (l:List Nd) (en:List (List En)):∀(ms:List Nat) (r:DZ),(ms.foldl (Jf G l en) r).1.length=r.1.length/\(ms.foldl (Jf G l en) r).2.length=r.2.length
 |[],r=>⟨rfl,rfl⟩
 |f::ms,r=>by rw [BD];have:=sY G l en ms (Jf G l en r f);simp only [Jf,Ld] at this ⊢;exact this
theorem AFN (G:GC) (l:List Nd) (en:List (List En)) (P:Sch->Prop):∀(ms:List Nat) (r:DZ),(∀s∈r.1,P s)->(∀f∈ms,P (Ro l (DW (DX l (G.ps.getD f []) (G.rs.getD f 0))) (G.ps.getD f []) (G.rs.getD f 0) (DX l (G.ps.getD f []) (G.rs.getD f 0)).length))->∀s∈(ms.foldl (Jf G l en) r).1,P s
 |[],r,h,_=>h
 |f::ms,r,h,b=>by
  rw [BD];refine AFN G l en P ms _ (fun s c=>?_) fun g a=>b g (AZ _ a)
  grind [Jf,fP,AY]
theorem AQZ {fs:List FE} {ds:List DE} {dt:List Dat} {ms:List Nat} {i jm jp jr je c0 j:Nat} {O V:X} {ext0 ext:Nat->Option (List I)} {es:List I} {st:IG} {d:Nat->Nat} (hF:PF fs dt)
 (D:MS (gB fs ds dt r ms i je jm jp jr js) ext0 ms) (n:MI (gB fs ds dt r ms i je jm jp jr js) ext0 O V ms c0 es ext j st) (hd:FR st.s.1 d)
 (S:ms.find? (fun f=>aO st.s.1 ((gcP fs dt r.1 ms).ps.getD f []) ((gcP fs dt r.1 ms).rs.getD f 0) (st.en.getD f []))=none) (h1:r.1.length=fs.length) (h2:r.2.length=fs.length) (U:∀s∈r.1,ACO dt s) (R:st.s.1.length<=900000000) (Q:st.s.2=false):
 (∀s∈(ms.foldl (Jf (gcP fs dt r.1 ms) st.s.1 st.en) r).1,ACO dt s)/\∀f∈ms,fQ fs dt (ms.foldl (Jf (gcP fs dt r.1 ms) st.s.1 st.en) r) f:=by
 have P:=n.sn.Gn
 have p:∀f∈ms,∃q w v,(gcP fs dt r.1 ms).ps[f]?=some q/\(gcP fs dt r.1 ms).rs[f]?=some w/\(gcP fs dt r.1 ms).ps.getD f []=q/\(gcP fs dt r.1 ms).rs.getD f 0=w/\fs[f]?=some v/\q.length=v.params.length/\q.length<=6/\(∀a∈q,a < st.s.1.length/\szN st.s.1 a<=200)/\(w < st.s.1.length/\szN st.s.1 w<=200)/\
  (∀x∈st.en.getD f [],szN st.s.1 x.t<=200/\∀a∈x.ar,szN st.s.1 a<=200):=fun f e=>by
  have z:f < fs.length:=D.lt f e;obtain ⟨q,u,T⟩:=D.cell f e;obtain ⟨w,N⟩:=Ak (show f < (gcP fs dt r.1 ms).rs.length by have:=D.lr;simp only [gB] at this;rw [this];exact z);obtain ⟨v,g⟩:=Ak z;have E:=cD.1 S f e
  have F:(gcP fs dt r.1 ms).ps.getD f []=q:=by
   have u:(gcP fs dt r.1 ms).ps[f]?=some q:=u;simp [u]
  have G:(gcP fs dt r.1 ms).rs.getD f 0=w:=by simp [N]
  rw [F,G] at E;obtain ⟨z1,z2,z3⟩:=AJ5 (by simpa using E);have c:=(n.gi f e).1;refine ⟨q,w,v,u,N,F,G,g,?_,D.gv.ps q (AE u),fun a k=>⟨c.ps q (AE u) a k,z1 a k⟩,⟨c.rs w (AE N),z2⟩,z3⟩;rw [T];show bN fs f=_;simp [bN,g]
 refine ⟨AFN _ _ _ _ ms r U fun f e=>?_,fun f e=>?_⟩
 . obtain ⟨q,w,v,u,N,Z,e2,g,hl,K,t,B,Y⟩:=p f e;rw [Z,e2];exact AWJ P hd n.nv (fun a k=>(t a k).1) B.1 K ⟨fun a k=>(t a k).2,B.2⟩
 . obtain ⟨q,w,v,u,N,Z,e2,g,hl,K,t,B,Y⟩:=p f e;have z:f < fs.length:=D.lt f e;obtain ⟨a,b⟩:=(ABN (gcP fs dt r.1 ms) st.s.1 st.en ms r f D.nd).2 e (by omega) (by omega);have c:=(n.gi f e).1
   have L:∀x:En,∀b∈(gcP fs dt r.1 ms).ps.getD x.f.toNat []++[(gcP fs dt r.1 ms).rs.getD x.f.toNat 0],b < st.s.1.length:=fun x b l=>by
    generalize x.f.toNat=m at l;rcases A2.1 l with l|l
    . cases t:(gcP fs dt r.1 ms).ps[m]? with
      |none=>simp [t] at l
      |some q=>simp only [BG,t,BH] at l;exact c.ps q (AE t) b l
    . simp only [A9] at l;subst l;cases B:(gcP fs dt r.1 ms).rs[m]? with
      |none=>grind
      |some q=>simp only [BG,B,BH];exact c.rs q (AE B)
   refine ⟨st.s.1,d,gcP fs dt r.1 ms,st.en.getD f [],q,w,P,hd,n.nv,?_,?_,t,B,fun x h=>⟨⟨(c.en x h).1,(Y x h).1⟩,fun a k=>?_⟩,fun h0 o=>?_,fun x h=>?_,n.nf Q f e⟩
   . grind [Jf,Bq]
   . grind [Jf,Bq]
   . unfold sF at k;split at k
     . obtain ⟨y,hy,hyp,h3⟩:=(tQ P (L x)).2.2 a k
       grind [AG,Iq]
     . exact ⟨(c.en x h).2.2.2 a k,.inl ((Y x h).2 a k)⟩
   . rw [g] at o;cases o;exact ⟨hl,n.sz f e v g⟩
   . unfold sF;split
     . exact Ai (tQ P (L x)).2.1 R
     . exact Ai ((n.gi f e).2.2 x h) (by omega)
theorem AOA {dt:List Dat} {k n vars:Int} (h:shp dt k n m) (d:k≠0):DS dt vars k n m=true:=by
 unfold DS;rcases h with ⟨a,rfl,rfl⟩|⟨rfl,D,a,b,c⟩|⟨rfl,rfl,a,b⟩|⟨a,rfl,rfl⟩|⟨rfl,rfl,a,b⟩
 . grind
 . grind
 . grind
 . grind
 grind
theorem AFK {l:List Nd} {d:Nat->Nat} (f:E8 l) (h:FR l d) {dt:List Dat} (g:NV dt l) (vs:List Nat):∀(N n:Nat),n < l.length->d (rtN l n)<=N->C1 dt (vs.length:Int) (rdN l (DW vs) n)=true:=by
 intro N
 induction N using DK with
 |_ N y=>
 intro n t z;obtain ⟨x,c,o⟩:=f.root t;have j:=g x (AE c);rw [bR f h c o];split
 . split
   . rename_i i r;obtain ⟨k,rfl,v,w,_⟩:=jN r;have:=(AG.1 w).1;rw [C1,Bt];unfold DS
     grind
   . rw [C1,Bt];rfl
 . rename_i s;rw [C1,AA,AOA j s,Fe]
   have u:∀us:List Nat,(∀a∈us,a∈x.ar)->Bt dt (vs.length:Int) (us.map (rdN l (DW vs)))=true:=by
    intro us
    induction us with
    |nil=>intro _;rfl
    |cons a us m=>
     intro e;have q:=h.lt _ x c o a (e a (AY));rw [AB,Bt,y (d (rtN l a)) (by omega) a (f.ar _ x c a (e a (AY))) (AW _),m fun b p=>e b (AZ _ p)];rfl
   grind
abbrev Ed:=Int×List Ty
structure Bd where
 notes:List (Ty×List Ty)
 params:List Ty
 res:Ty
def Fg (dt:List Dat) (t:Ty):Bool:=decide (t.size<=200)&&C1 dt 0 t
def aP (args:List Ty) (t:Ty):Bool:=decide ((t.subst args).size<=200)
def GF (args l:List Ty):Bool:=l.all (aP args)
def mD (args:List Ty) (n:Ty×List Ty):Bool:=aP args n.1&&GF args n.2
def AFU (args:List Ty) (n:Ty×List Ty):Ty×List Ty:=(n.1.subst args,Ty.Df args n.2)
def M3 (dt:List Dat) (r:DZ) (x:Ed):Option Bd:=
 if 0<=x.1/\x.1 < r.1.length then
  match r.1[x.1.toNat]?,r.2[x.1.toNat]? with
  |some s,some nt=>
   if (x.2.length:Int)=s.vars/\x.2.all (Fg dt)=true/\GF x.2 s.params=true/\aP x.2 s.res=true/\nt.all (mD x.2)=true then
    some ⟨nt.map (AFU x.2),Ty.Df x.2 s.params,s.res.subst x.2⟩ else none
  |_,_=>none
         else none
def NT (dt:List Dat) (nt:List (Ty×List Ty)) (i:Nat) (e:Ex) (sc:List M):Prop:=∀j k n m,Wn dt e sc j k n m->∃us y,nt[i+j]?=some (.mk k n us,y)/\m<=us.length
def oG (dt:List Dat) (r:DZ) (fe:FE) (f:Nat):Prop:=∃s nt,r.1[f]?=some s/\r.2[f]?=some nt/\(∃m:Nat,s.vars=(m:Int)/\m<=100000)/\s.params.length=fe.params.length/\nt.length=fe.body.size/\
 (∀t∈s.params++[s.res],t.size<=200/\C1 dt s.vars t=true)/\(∀n∈nt,(n.1.size<=200/\C1 dt s.vars n.1=true)/\(∀a∈n.2,a.size<=200/\C1 dt s.vars a=true)/\n.2.length<=900000000)/\∀i x,(Bl fe.body fe.params)[i]?=some x->NT dt nt i x.1 x.2
theorem fQ.sp {fs:List FE} {dt:List Dat} {f:Nat} (h:fQ fs dt r f) (F:fs[f]?=some fe) (h8:fe.params.length<=6):oG dt r fe f:=by
 obtain ⟨l,d,G,en,v,B,g,D,L,P,Q,h4,h6,U,Z,Y,h3⟩:=h;obtain ⟨h5,T⟩:=Z fe F
 have e:∀a∈v++[B],a < l.length/\szN l a<=200:=fun a c=>by
  rcases A2.1 c with c|c
  . exact h4 a c
  . simp only [A9] at c;subst c;exact h6
 have o:=AF1 g D (ts:=v++[B]) (fun a c=>(e a c).1) (fun a c=>(e a c).2);change (DX l v B).length<=_ at o;generalize DX l v B=vs at *
 have p:∀a,a < l.length->szN l a<=200->(rdN l (DW vs) a).size<=200/\C1 dt (vs.length:Int) (rdN l (DW vs) a)=true:=fun a P Q=>
  ⟨Ai (AFJ g D (d (rtN l a)) a P (AW _) Q) Q,AFK g D L vs (d (rtN l a)) a P (AW _)⟩
 have K:(Ro l (DW vs) v B vs.length).params++[(Ro l (DW vs) v B vs.length).res]=(v++[B]).map (rdN l (DW vs)):=by simp [Ro]
 refine ⟨_,_,P,Q,⟨vs.length,rfl,by simp only [A0,Ci] at o;omega⟩,by simp [Ro,h5],by rw [AA,T],fun t ht=>?_,fun n hn=>?_,fun i x R j k n m w=>?_⟩
 . rw [K] at ht;obtain ⟨a,c,rfl⟩:=BR.1 ht;exact p a (e a c).1 (e a c).2
 . obtain ⟨x,R,rfl⟩:=BR.1 hn;obtain ⟨⟨g1,g2⟩,h0⟩:=U x R;refine ⟨p x.t g1 g2,fun a c=>?_,by simp only [PN,AA];exact Y x R⟩;obtain ⟨b,hb,rfl⟩:=BR.1 c;obtain ⟨k1,k2⟩:=h0 b hb;refine ⟨?_,AFK g D L vs (d (rtN l b)) b k1 (AW _)⟩;rcases k2 with k2|⟨y,S,h7⟩
   . exact (p b k1 k2).1
   . obtain ⟨z,E,s⟩:=g.root k1;rw [E] at S;cases S;rw [bR g D E s,if_pos h7];split<;>simp [Ty.size,Ty.AQ]
 . obtain ⟨y,q,S,hh,hm⟩:=h3 fe F i x R j k n m w;obtain ⟨u,z,hu,E,he⟩:=Nw.1 hh;obtain ⟨z',N,s⟩:=g.root (AG.1 hu).1;rw [Iq hu,E] at N;cases N;rw [<- Iq hu] at E;simp only [B3] at he;obtain ⟨rfl,rfl,rfl⟩:=he;refine ⟨z.ar.map (rdN l (DW vs)),(PN G l (DW vs) y).2,?_,by rw [AA];exact hm⟩;rw [Az,S];simp only [Ap,PN];rw [bR g D E s,if_neg w.k0.1]
theorem Q4 {dt:List Dat} {x:Ed} {b:Bd} (h:M3 dt r x=some b) (G:oG dt r fe x.1.toNat):
 (0<=x.1/\x.1 < r.1.length)/\(∀t∈x.2,Fg dt t=true)/\(∀t∈b.params,Fg dt t=true)/\Fg dt b.res=true/\∀n∈b.notes,Fg dt n.1=true/\∀a∈n.2,Fg dt a=true:=by
 obtain ⟨s,nt,o,B,⟨m,Q,_⟩,K,D,g,f,_⟩:=G;unfold M3 at h;rw [o,B] at h;simp only at h;split at h
 . rename_i L;split at h
   . rename_i E;obtain ⟨P,e,q,w,p⟩:=E;cases h
     have z:∀l:List Ty,l.all (Fg dt)=true->Bt dt 0 l=true:=fun l=>by
      induction l with
      |nil=>intro _;rfl
      |cons t l N=>
       intro d;simp only [BK,AM,Fg] at d;rw [Bt,d.1.2,N d.2];rfl
     have y:=fun t (o:C1 dt s.vars t=true)=>(AFV (v:=s.vars) (by omega) (z x.2 e) t.size).1 t (AW _) o
     have one:∀t,C1 dt s.vars t=true->aP x.2 t=true->Fg dt (t.subst x.2)=true:=fun t a b=>by
      unfold Fg;rw [y t a,Cu];exact b
     refine ⟨L,fun t j=>Ao.1 e t j,fun t j=>?_,one _ (g _ (by simp)).2 w,fun n F=>?_⟩
     . rw [FV] at j;obtain ⟨u,i,rfl⟩:=BR.1 j;exact one u (g u (by simp [i])).2 (Ao.1 q u i)
     . obtain ⟨k,c,rfl⟩:=BR.1 F;have:=Ao.1 p k c;unfold mD at this;rw [AM] at this;refine ⟨one k.1 (f k c).1.2 this.1,fun a d=>?_⟩;simp only [AFU,FV] at d;obtain ⟨u,i,rfl⟩:=BR.1 d;exact one u ((f k c).2.1 u i).2 (Ao.1 this.2 u i)
   . cases h
 . cases h
mutual
def wrT:Ty->M
 | .mk k n l=>(Lib.itoa k++[58]++Lib.itoa n++[40])++(HQ l++[41])
def HQ:List Ty->M
 |[]=>[]
 |t::l=>wrT t++HQ l
end
theorem tX:∀l m:List Ty,HQ (l++m)=HQ l++HQ m
 |[],m=>rfl
 |t::l,m=>by rw [AU,HQ,HQ,tX l m,Ax]
def Z1 (x:Ed):Int×M:=(x.1,HQ x.2)
def Ry (nt:List (Ty×List Ty)):List (Nat×Int)->List Ed->Except Dg (List Ed)
 |[],l=>.ok l
 |y::rs,l=>
  let x:Ed:=(y.2,(nt.getD y.1 (.mk 0 0 [],[])).2)
  if (l.map Z1).contains (Z1 x) then Ry nt rs l
                           else if 64<=l.length then .error (9,x.1,0) else Ry nt rs (l++[x])
def Rx (fs:List FE) (dt:List Dat) (r:DZ):Nat->Nat->List Ed->Except Dg (List Ed)
 |0,_,l=>.ok l
 |n+1,i,l=>match l[i]? with
  |none=>.ok l
  |some x=>match M3 dt r x,fs[x.1.toNat]? with
   |some b,some fe=>match Ry b.notes (eU fs fe) l with
    | .error e=>.error e
    | .ok l'=>Rx fs dt r n (i+1) l'
   |_,_=>.error (9,x.1,0)
def kQ (r:DZ):List Ed:=(Aj r.1.length).filterMap fun f=>match r.1[f]? with
 |some s=>if s.vars=0 then some ((f:Int),[]) else none
 |none=>none
noncomputable def u9 (p:Pg):Except Dg (List Ed):=match Dj p,Fc p with
 | .error d,_=>.error d
 | .ok r,.ok dt=>Rx p.Ca dt r 100 0 (kQ r)
 | .ok _,.error _=>.ok []
theorem UY {nt:List (Ty×List Ty)}:∀(a:List (Nat×Int)) {l l':List Ed},Ry nt a l= .ok l'->(∃m,l'=l++m)/\l'.length<=max l.length 64
 |[],l,l',h=>by cases h;exact ⟨⟨[],by simp⟩,by omega⟩
 |y::a,l,l',h=>by
  simp only [Ry] at h;split at h
  . exact UY a h
  . split at h
    . cases h
    . obtain ⟨⟨m,c⟩,b⟩:=UY a h
      grind
theorem hW {nt:List (Ty×List Ty)}:∀(a:List (Nat×Int)) {l l':List Ed},Ry nt a l= .ok l'->∀y∈a,Z1 (y.2,(nt.getD y.1 (.mk 0 0 [],[])).2)∈l'.map Z1
 |y::a,l,l',h,z,b=>by
  simp only [Ry] at h;split at h
  . rename_i c;rcases Ah.1 b with rfl|b
    . obtain ⟨⟨m,rfl⟩,_⟩:=UY a h
      grind
    . exact hW a h z b
  . split at h
    . cases h
    . rcases Ah.1 b with rfl|b
      . obtain ⟨⟨m,rfl⟩,_⟩:=UY a h;simp
      . exact hW a h z b
def DC (fs:List FE) (dt:List Dat) (r:DZ) (l:List Ed) (x:Ed):Prop:=∃b fe,M3 dt r x=some b/\fs[x.1.toNat]?=some fe/\∀y∈eU fs fe,Z1 (y.2,(b.notes.getD y.1 (.mk 0 0 [],[])).2)∈l.map Z1
theorem ADN {fs:List FE} {dt:List Dat} {r:DZ}:∀(n i:Nat) (l d:List Ed),Rx fs dt r n i l= .ok d->100<=n+i->i<=l.length->l.length<=64->(∀x∈l.take i,DC fs dt r l x)->(∀x∈d,DC fs dt r d x)/\d.length<=64
 |0,i,l,d,h,w,s,t,j=>by omega
 |n+1,i,l,d,h,w,s,t,j=>by
  rw [Rx] at h;cases a:l[i]? with
  |none=>
   grind
  |some x=>
   rw [a] at h;simp only at h;split at h
   . rename_i b e p q;split at h
     . cases h
     . rename_i E g;have v:=hW _ g;obtain ⟨⟨m,rfl⟩,f⟩:=UY _ g;have u:=(AG.1 a).1;refine ADN n (i+1) _ d h (by omega) (by simp;omega) (by omega) fun y c=>?_;rw [XM (by omega),Aa a] at c;rcases A2.1 c with c|c
       . obtain ⟨b,e,k,o,B⟩:=j y c;exact ⟨b,e,k,o,fun z D=>by grind⟩
       . simp only [A9] at c;subst c;exact ⟨b,e,p,q,v⟩
   . cases h
theorem AMB (r:DZ):(kQ r).length<=r.1.length:=by
 grind [List.length_filterMap_le,Aj,kQ]
def AZ3 (l:List UInt8):Nat:=l.foldl (fun a b=>10 * a+(b.toNat - 48)) 0
theorem ofNat_toNat {n:Nat} (h:n < 256):(UInt8.ofNat n).toNat=n:=by
 rw [UInt8.toNat_ofNat',Nat.mod_eq_of_lt h]
theorem AJZ (u:Nat):AZ3 (Lib.decDigits u)=u/\∀b∈Lib.decDigits u,48<=b.toNat/\b.toNat<=57:=by
 induction u using DK with
 |ind u a=>
  rw [Lib.decDigits];split
  . rename_i h;simp only [AZ3,BD,List.foldl_nil,A9,forall_eq];rw [ofNat_toNat (by omega)];omega
  grind [AZ3,ofNat_toNat,A9]
theorem rT {u:Int} (h:0<=u):Lib.itoa u=Lib.decDigits u.toNat:=by
 unfold Lib.itoa
 grind
theorem AFS {s:UInt8} (i:s.toNat < 48\/57 < s.toNat):∀ {a b r t:List UInt8},(∀x∈a,48<=x.toNat/\x.toNat<=57)->(∀x∈b,48<=x.toNat/\x.toNat<=57)->a++s::r=b++s::t->a=b/\r=t
 |[],[],r,t,_,_,h=>by simpa using h
 |[],y::b,r,t,_,d,h=>by
  simp only [A3,AU,FJ] at h;have:=d y (AY);rw [<- h.1] at this;omega
 |x::a,[],r,t,c,_,h=>by
  simp only [A3,AU,FJ] at h;have:=c x (AY);rw [h.1] at this;omega
 |x::a,y::b,r,t,c,d,h=>by
  simp only [AU,FJ] at h;obtain ⟨f,g⟩:=AFS i (a:=a) (b:=b) (fun x e=>c x (AZ _ e)) (fun x e=>d x (AZ _ e)) h.2;exact ⟨by rw [h.1,f],g⟩
theorem Y3 {dt:List Dat} {k n:Int} (h:DS dt 0 k n m=true):0<=k/\0<=n:=by
 unfold DS at h
 grind
theorem rU {u v:Int} (a:0<=u) (b:0<=v) {s:UInt8} (c:s.toNat < 48\/57 < s.toNat) {r t:M} (h:Lib.itoa u++s::r=Lib.itoa v++s::t):u=v/\r=t:=by
 rw [rT a,rT b] at h
 grind [AFS,AJZ]
theorem AGA {dt:List Dat} {t:Ty} (h:C1 dt 0 t=true) (s:M):∃c r,wrT t++s=c::r/\c≠41:=by
 obtain ⟨k,n,l⟩:=t;rw [C1,AM] at h;have a:=(AJZ k.toNat).2;have b:=Lib.decDigits_length k.toNat;have d:=Lib.nDigits_pos k.toNat;rw [wrT,rT (Y3 h.1).1];cases f:Lib.decDigits k.toNat with
 |nil=>grind
 |cons c r=>exact ⟨c,_,rfl,fun e=>by simp_all⟩
def WI (dt:List Dat) (t:Ty):Prop:=∀(u:Ty) (s s':M),C1 dt 0 t=true->C1 dt 0 u=true->wrT t++s=wrT u++s'->t=u/\s=s'
theorem AB6 {dt:List Dat}:∀(l:List Ty),(∀t∈l,WI dt t)->∀(m:List Ty) (s a:M),Bt dt 0 l=true->Bt dt 0 m=true->HQ l++41::s=HQ m++41::a->l=m/\s=a
 |[],_,[],s,a,_,_,h=>by simp_all
 |[],_,u::m,s,a,_,d,h=>by
  rw [Bt,AM] at d;obtain ⟨c,r,e,i⟩:=AGA d.1 (HQ m++41::a);rw [HQ,HQ,Ax,e] at h
  grind
 |t::l,_,[],s,a,b,_,h=>by
  rw [Bt,AM] at b;obtain ⟨c,r,e,i⟩:=AGA b.1 (HQ l++41::s);rw [HQ,HQ,Ax,e] at h
  grind
 |t::l,f,u::m,s,a,b,d,h=>by
  rw [Bt,AM] at b d;rw [HQ,HQ,Ax,Ax] at h;obtain ⟨rfl,g⟩:=f t (AY) u _ _ b.1 d.1 h;obtain ⟨rfl,k⟩:=AB6 l (fun x j=>f x (AZ _ j)) m _ _ b.2 d.2 g
  grind
theorem ALH {dt:List Dat}:∀(N:Nat) (t:Ty),t.size<=N->WI dt t
 |0,.mk _ _ _,h=>by simp only [Ty.size] at h;omega
 |N+1,.mk k n l,e=>by
  rintro ⟨j,m,f⟩ s g a b h;rw [C1,AM] at a b;simp only [wrT,Ax,AU,A3] at h;obtain ⟨rfl,c⟩:=rU (Y3 a.1).1 (Y3 b.1).1 (by decide) h;obtain ⟨rfl,d⟩:=rU (Y3 a.1).2 (Y3 b.1).2 (by decide) c
  obtain ⟨rfl,i⟩:=AB6 l (fun t h=>ALH N t (by
   have:=Ty.EJ h;simp only [Ty.size] at e;omega)) f s g a.2 b.2 d
  grind
theorem aW {dt:List Dat}:∀ {l:List Ty},(∀t∈l,Fg dt t=true)->Bt dt 0 l=true
 |[],_=>rfl
 |t::l,h=>by
  have:=h t (AY);rw [Fg,AM] at this;rw [Bt,this.2,aW fun u a=>h u (AZ _ a)];rfl
theorem key_inj {dt:List Dat} {x y:Ed} (a:∀t∈x.2,Fg dt t=true) (b:∀t∈y.2,Fg dt t=true) (h:Z1 x=Z1 y):x=y:=by
 simp only [Z1,B3] at h;exact Prod.ext h.1 (AB6 x.2 (fun t _=>ALH t.size t (AW _)) y.2 [] [] (aW a) (aW b) (by rw [h.2])).1
theorem AHN {fs:List FE} {dt:List Dat} {l:List Ed} (j:∀x∈l,DC fs dt r l x) (c:∀f a,fs[f]?=some a->oG dt r a f):
 ∀x∈l,∃b a,M3 dt r x=some b/\fs[x.1.toNat]?=some a/\∀y∈eU fs a,(y.2,(b.notes.getD y.1 (.mk 0 0 [],[])).2)∈l:=fun x o=>by
 obtain ⟨b,a,h,i,n⟩:=j x o;refine ⟨b,a,h,i,fun y p=>?_⟩;obtain ⟨z,k,e⟩:=BR.1 (n y p);obtain ⟨q,m,d,g,_⟩:=j z k;have s:=(Q4 h (c _ _ i)).2.2.2.2;rw [<- key_inj (dt:=dt) (Q4 d (c _ _ g)).2.1 (y:=(y.2,(b.notes.getD y.1 (.mk 0 0 [],[])).2)) (fun t u=>?_) e]
 . exact k
 grind
theorem AFL {fs:List FE}:∀ {L:List (Ex×List M)} {k i:Nat} {x:Ex×List M},L[i]?=some x->x.1.op=4->x.1.name ∉ x.2->(k+i,(match fs.findIdx? (fun f=>f.name==x.1.name) with|some i=>(i:Int)|none=>-1))∈FM fs k L
 |y::L,k,0,x,h,a,b=>by
  cases h;rw [FM,if_pos ⟨a,.inr b⟩];grind
 |y::L,k,i+1,x,h,a,b=>by
  have:=AFL (fs:=fs) (k:=k+1) (show L[i]?=some x from h) a b
  grind [FM,AZ]
theorem AM3 {dt:List Dat} {x:Ed} {b:Bd} (h:M3 dt r x=some b) (l:oG dt r fe x.1.toNat):∀i y,(Bl fe.body fe.params)[i]?=some y->NT dt b.notes i y.1 y.2:=by
 obtain ⟨s,nt,d,f,_,_,_,_,_,c⟩:=l;unfold M3 at h;rw [d,f] at h;simp only at h;split at h
 . split at h
   . cases h;intro i y o j k n m w;obtain ⟨us,a,e,g⟩:=c i y o j k n m w;refine ⟨Ty.Df x.2 us,Ty.Df x.2 a,?_,by rw [Vw];exact g⟩;rw [Az,e];simp only [Ap,AFU];rw [Ty.subst,if_neg fun e=>w.k0.2 e.1]
   . cases h
 . cases h
section
theorem AFH {o:Int} {n:M} {ns sc:List M} {k:Ex} {j:Nat} {x:Ex×List M}:∀ {ks:List Ex} {m i:Nat},ks[i]?=some k->(Bl k (Ct o n ns sc (m+i)))[j]?=some x->(CA o n ns sc m ks)[Ex.AQ (ks.take i)+j]?=some x
 |y::ks,m,0,a,h=>by
  cases a;rw [CA,CD,Ex.AQ,Av];exact Ic h _
 |y::ks,m,i+1,a,h=>by
  have:=AFH (m:=m+1) (show ks[i]?=some k from a) (by rw [show m+1+i=m+(i+1) by omega];exact h);rw [CA,CK,Ex.AQ,BY (by rw [Ip];omega),Ip]
  rwa [show y.size+Ex.AQ (ks.take i)+j - y.size=Ex.AQ (ks.take i)+j by omega]
theorem AFG {sc:List M} {a:Al} {j:Nat} {x:Ex×List M}:∀ {al:List Al} {i:Nat},al[i]?=some a->(Bl a.body (sc++a.vars))[j]?=some x->(Cw sc al)[Al.AQ (al.take i)+j]?=some x
 | .mk c vs b::al,0,d,h=>by
  cases d;rw [Cw,Um,CD,Al.AQ,Av];exact Ic h _
 | .mk c vs b::al,i+1,d,h=>by
  have:=AFG (show al[i]?=some a from d) h;rw [Cw,Um,CK,Al.AQ,Al.size,BY (by rw [Ip];omega),Ip]
  rwa [show b.size+Al.AQ (al.take i)+j - b.size=Al.AQ (al.take i)+j by omega]
theorem AV5 {o:Int} {n:M} {u:Int} {ns sc:List M} {ks:List Ex} {al:List Al} {i j:Nat} {k:Ex} (a:ks[i]?=some k) (h:(Bl k (Ct o n ns sc i))[j]?=some x):(Bl (.mk o n u ns ks al) sc)[1+Ex.AQ (ks.take i)+j]?=some x:=by
 rw [Bl,show 1+Ex.AQ (ks.take i)+j=Ex.AQ (ks.take i)+j+1 by omega,Bz];exact Ic (AFH a (by grind)) _
theorem AV4 {o:Int} {n:M} {u:Int} {ns sc:List M} {ks:List Ex} {al:List Al} {i j:Nat} {a:Al} (b:al[i]?=some a) (h:(Bl a.body (sc++a.vars))[j]?=some x):(Bl (.mk o n u ns ks al) sc)[1+Ex.AQ ks+Al.AQ (al.take i)+j]?=some x:=by
 rw [Bl,show 1+Ex.AQ ks+Al.AQ (al.take i)+j=Ex.AQ ks+(Al.AQ (al.take i)+j)+1 by omega,Bz,BY (by rw [JR];omega),JR];rw [show Ex.AQ ks+(Al.AQ (al.take i)+j) - Ex.AQ ks=Al.AQ (al.take i)+j by omega];exact AFG b h
theorem rQ (o:Int) (n:M) (ns sc:List M) (i:Nat):Ct o n ns sc i=sc++Ct o n ns [] i:=by
 grind [Ct]
mutual
theorem OL (a:List M):∀(e:Ex) (sc:List M),Bl e (a++sc)=(Bl e sc).map fun x=>(x.1,a++x.2)
 | .mk o n u ns ks al,sc=>by rw [Bl,Bl,AB,A4,y7 a o n ns sc ks,y0 a sc al]
theorem y7 (a:List M) (o:Int) (n:M) (ns sc:List M):∀(ks:List Ex) (i:Nat),CA o n ns (a++sc) i ks=(CA o n ns sc i ks).map fun x=>(x.1,a++x.2)
 |[],_=>rfl
 |k::ks,i=>by rw [CA,CA,A4,<- OL a k,y7 a o n ns sc ks,rQ o n ns (a++sc),rQ o n ns sc,Ax]
theorem ASL (a:List M) (sc:List M):∀(b:Al),Um b (a++sc)=(Um b sc).map fun x=>(x.1,a++x.2)
 | .mk c vs b=>by rw [Um,Um,<- OL a b,Ax]
theorem y0 (a:List M) (sc:List M):∀(al:List Al),Cw (a++sc) al=(Cw sc al).map fun x=>(x.1,a++x.2)
 |[]=>rfl
 |b::al=>by rw [Cw,Cw,A4,ASL a sc b,y0 a sc al]
end
def Lc (e:Ex) (s:M):Prop:=s≠[]/\∃x∈Bl e [],x.1.op=4/\x.1.name=s/\s ∉ x.2
theorem AKE {s:M} {a:List M} (d:s≠[]) (f:(x.1,a++x.2)∈Bl e []) (h:x.1.op=4/\x.1.name=s/\s ∉ x.2) (b:s ∉ a):Lc e s:=
 ⟨d,_,f,h.1,h.2.1,fun c=>(A2.1 c).elim b h.2.2⟩
variable {o:Int} {n:M} {u:Int} {ns sc:List M} {ks:List Ex} {al:List Al} {s:M}
theorem Lc.kid {i:Nat} {k:Ex} (d:ks[i]?=some k) (h:Lc k s) (e:s ∉ Ct o n ns [] i):Lc (.mk o n u ns ks al) s:=by
 obtain ⟨b,x,f,c⟩:=h;refine AKE b (x:=x) (a:=Ct o n ns [] i) ?_ c e;have:=OL (Ct o n ns [] i) k [];rw [Aw] at this;rw [Bl,Ah,A2];exact .inr (.inl (Pj (i:=0) d (by grind)))
theorem Lc.alt {a:Al} (e:a∈al) (h:Lc a.body s) (d:s ∉ a.vars):Lc (.mk o n u ns ks al) s:=by
 obtain ⟨b,x,f,c⟩:=h;refine AKE b (x:=x) (a:=a.vars) ?_ c d;have:=OL a.vars a.body []
 grind [Bl,Ph,CU]
theorem Lc.var (a:n≠[]):Lc (.mk 4 n u ns ks al) n:=⟨a,_,by rw [Bl];exact AY,rfl,rfl,by simp⟩
abbrev Ch:=List (M×Int)
def DP:Ch->M->Option Int
 |[],_=>none
 |x::e,s=>if x.1=s then some x.2 else DP e s
def Et (c:Ch) (s:M) (v:Int):Ch:=if s=[] then c else (s,v)::c
theorem yP {c:Ch} {n s:M} {v:Int} (a:s≠[]):DP (Et c n v) s=if n=s then some v else DP c s:=by
 unfold Et;split
 . grind
 . rfl
def GR (c:Ch) (l:List (M×Int)):Ch:=l.foldl (fun c x=>Et c x.1 x.2) c
theorem Q9 (a:s≠[]):∀(l:List (M×Int)) (c:Ch),(DP (GR c l) s).isSome=((DP c s).isSome||(l.map (·.1)).contains s)
 |[],c=>by simp [GR]
 |x::l,c=>by
  have:=Q9 a l (Et c x.1 x.2);rw [GR,BD];rw [GR] at this;rw [this,yP a]
  grind
theorem Lx:∀ {c:Ch} {s:M} {v:Int},DP c s=some v->(s,v)∈c
 |x::c,s,v,h=>by
  rw [DP] at h;split at h
  . rename_i e;cases h;subst e;exact AY
  . exact AZ _ (Lx h)
structure Ho (nv:Nat) (c:Ch):Prop where
 pw:c.Pairwise fun x y=>x.2≠y.2
 lt:∀x∈c,0<=x.2/\x.2 < (nv:Int)
theorem Ho.nil (nv:Nat):Ho nv []:=⟨.nil,fun x h=>by cases h⟩
theorem Ho.mono {c:Ch} (h:Ho nv c) (b:nv<=m):Ho m c:=⟨h.pw,fun x a=>⟨(h.lt x a).1,by have:=(h.lt x a).2;omega⟩⟩
theorem Ho.AX4 {c:Ch} (h:Ho nv c) (s:M) {v:Int} (e:0<=v) (f:v < (nv:Int)) (b:∀x∈c,x.2≠v):Ho nv (Et c s v):=by
 unfold Et;split
 . exact h
 . refine ⟨.cons (fun y d=>A5 (b y d)) h.pw,fun x a=>?_⟩;rcases Ah.1 a with rfl|a
   . grind
   . exact h.lt x a
theorem Ho.with {c:Ch} (h:Ho nv c) (s:M):Ho (nv+1) (Et c s nv):=
 (h.mono (Nat.le_succ nv)).AX4 s (by simp) (by omega) fun x a=>by have:=(h.lt x a).2;omega
theorem AF9 {c:Ch} {s:M} {v:Int} {x:M×Int} (h:x∈Et c s v):x∈c\/x.2=v:=by
 unfold Et at h
 grind
theorem Ho.inj {c:Ch} (h:Ho nv c) {s t:M} {v:Int} (a:DP c s=some v) (b:DP c t=some v):s=t:=by
 have d:=Lx a;have e:=Lx b;have f:=h.pw;clear h a b
 induction c with
 |nil=>cases d
 |cons x c g=>
  grind [BZ,absurd]
def Cov (e:Ex) (sc:List M) (c:Ch):Prop:=∀s,Lc e s->(DP c s).isSome=sc.contains s
theorem Cov.kid {c c':Ch} {i:Nat} {k:Ex} (h:Cov (.mk o n u ns ks al) sc c) (e:ks[i]?=some k) (d:∀s,s≠[]->(DP c' s).isSome=((DP c s).isSome||(Ct o n ns [] i).contains s)):Cov k (Ct o n ns sc i) c':=fun s b=>by
 rw [d s b.1,rQ o n ns sc,N8];by_cases a:s∈Ct o n ns [] i
 . simp [a]
 . rw [h s (b.kid e a)]
theorem Cov.alt {c c':Ch} {a:Al} (h:Cov (.mk o n u ns ks al) sc c) (e:a∈al) (f:∀s,s≠[]->(DP c' s).isSome=((DP c s).isSome||a.vars.contains s)):Cov a.body (sc++a.vars) c':=fun s d=>by
 rw [f s d.1,N8];by_cases b:s∈a.vars
 . simp [b]
 . rw [h s (d.alt e b)]
structure CR (c:Ch) (e:Ex) (l l':List (M×Int)):Prop where
 sub:∀x∈l,x∈l'
 src:∀x∈l',x∈l\/(DP c x.1=some x.2/\x.2≠-1)
 all:∀s,Lc e s->∀v,DP c s=some v->v≠-1->∃x∈l',x.2=v
 len:l'.length<=l.length+e.size
theorem AVG {c d:Ch} {k:Ex} {l:List (M×Int)} (h:Cov (.mk 11 n u ns [k] al) sc c) (j:Ho nv c) (e:CR c (.mk 11 n u ns [k] al) [] l) (r:∀s,s≠[]->(DP d s).isSome=((l.map (·.1)).contains s||ns.contains s)):Cov k (sc++ns) d:=fun s p=>by
 rw [r s p.1,N8];by_cases o:s∈ns
 . simp [o]
 have m:Lc (.mk 11 n u ns [k] al) s:=p.kid (i:=0) rfl (by simpa [Ct] using o);rw [<- h s m];congr 1;cases b:DP c s with
 |none=>
  rw [cE,<- Bool.not_eq_true,B8];intro f;obtain ⟨x,g,rfl⟩:=BR.1 f;rcases e.src x g with q|q
  . cases q
  grind
 |some v=>
  obtain ⟨x,f,t⟩:=e.all s m v b (by have:=(j.lt _ (Lx b)).1;grind);rcases e.src x f with a|a
  . cases a
  . rw [t] at a;rw [cF,B8,j.inj b a.1]
    grind
end
section
structure XE where
 op:Int
 num:Int
 vars:List Int
 binds:List (List Int)
 kids:List Nat
 t:Ty
 vv:I
 bv:I
 kv:I
def brO (o:Int):Prop:=o=7\/o=8\/o=9\/o=10\/o=24
instance (o:Int):Decidable (brO o):=by unfold brO;infer_instance
structure XE.nf (x:XE) (i m n:Nat):Prop where
 br:brO x.op↔x.kids≠[]
 bl:x.binds.length=x.kids.length
 kd:∀k∈x.kids,i < k/\k < n
 vr:∀v∈x.vars,0<=v/\v < (m:Int)
 ln:x.kids.length<=100000000/\x.vars.length<=100000000
theorem XE.nf.mono {x:XE} {i n m' n':Nat} (h:x.nf i m n) (c:m<=m') (d:n<=n'):x.nf i m' n':=
 ⟨h.br,h.bl,fun k a=>by have:=h.kd k a;omega,fun v b=>by have:=h.vr v b;omega,h.ln⟩
structure Cd where
 name:M
 pv:I
 cv:I
 res:Ty
 body:Int
abbrev Nte:=Ty×List Ty
structure Jb where
 body:Ex
 at_:Nat
 notes:List Nte
 params:List M
 types:List Ty
 Ae:List (M×Int)
 callee:Int
structure LSt where
 Bw:List Cd
 vars:List Ty
 xs:List XE
 JO:List Jb
 nt:List Nte
 fl:Bool
def LSt.sz (S:LSt):Nat:=S.xs.length+S.vars.length
structure LB where
 i:Nat
 p:Pg
 dt:List Dat
 ins:List Ed
def fnI (fs:List FE) (s:M):Int:=match fs.findIdx? (fun f=>f.name==s) with|some i=>(i:Int)|none=>-1
structure Pn (B:LB) (nt:List Nte) (i:Nat) (x:Ex×List M):Prop where
 vis:M4 B.p.Ca B.dt x.1 x.2=0
 nb:nb1 x.1
 hd:NT B.dt nt i x.1 x.2
 ref:x.1.op=4->x.1.name ∉ x.2->(fnI B.p.Ca x.1.name,(nt.getD i (.mk 0 0 [],[])).2)∈B.ins
structure BF (B:LB) (nt:List Nte) (a:Nat) (e:Ex) (sc:List M):Prop where
 pn:∀i x,(Bl e sc)[i]?=some x->Pn B nt (a+i) x
 ln:a+e.size<=nt.length
theorem BF.me {B:LB} {nt:List Nte} {a:Nat} {sc:List M} (h:BF B nt a e sc):Pn B nt a (e,sc):=h.pn 0 (e,sc) (by obtain ⟨o,n,u,ns,ks,al⟩:=e;rw [Bl];rfl)
variable {B:LB} {nt:List Nte} {a:Nat} {o:Int} {n:M} {u:Int} {ns sc:List M} {ks:List Ex} {al:List Al}
theorem BF.kid (h:BF B nt a (.mk o n u ns ks al) sc) {i:Nat} {k:Ex} (b:ks[i]?=some k):BF B nt (a+1+Ex.AQ (ks.take i)) k (Ct o n ns sc i):=by
 refine ⟨fun j x d=>?_,?_⟩
 . have:=h.pn _ x (AV5 b d)
   grind
 . have c:=h.ln;have e:=(Ex.Ck b).2;simp only [Ex.size] at c;omega
theorem BF.alt (h:BF B nt a (.mk o n u ns ks al) sc) {i:Nat} {b:Al} (d:al[i]?=some b):BF B nt (a+1+Ex.AQ ks+Al.AQ (al.take i)) b.body (sc++b.vars):=by
 refine ⟨fun j x f=>?_,?_⟩
 . have:=h.pn _ x (AV4 d f)
   grind
 . have e:=h.ln;have g:=(Al.Ck d).2;simp only [Ex.size] at e;have k:b.size=b.body.size:=by obtain ⟨c,vs,b⟩:=b;rfl
   omega
def ALO (B:LB) (nt:List Nte):Prop:=nt.length<=1000/\∀n∈nt,Fg B.dt n.1=true/\(∀t∈n.2,Fg B.dt t=true)/\n.2.length<=900000000
structure zT (B:LB) (nv:Nat) (j:Jb):Prop where
 nt:ALO B j.notes
 ty:(∀t∈j.types,t.size<=200)/\j.types.length<=10
 or:(0<=j.callee/\j.params=[]/\j.Ae=[])\/(j.callee=-1/\j.params.length<=j.types.length/\j.Ae.length<=1000/\(∀c∈j.Ae,0<=c.2/\c.2 < (nv:Int))/\
  ∀d,(∀s,s≠[]->(DP d s).isSome=((j.Ae.map (·.1)).contains s||j.params.contains s))->∃sc,BF B j.notes j.at_ j.body sc/\Cov j.body sc d)
theorem zT.mono {j:Jb} (h:zT B nv j) (i:nv<=m):zT B m j:=
 ⟨h.nt,h.ty,h.or.imp id fun ⟨a,b,d,f,e⟩=>⟨a,b,d,fun c g=>by grind,e⟩⟩
structure SOK (B:LB) (S:LSt):Prop where
 jb:∀j∈S.JO,zT B S.vars.length j
 vz:∀t∈S.vars,t.size<=200
 cz:∀c∈S.Bw,c.res.size<=200
 cj:S.Bw.length=S.JO.length
 c64:S.Bw.length<=64
 nt:ALO B S.nt
structure Le (S S':LSt) (c:Nat):Prop where
 xs:∀(i:Nat) (x:XE),S.xs[i]?=some x->S'.xs[i]?=some x
 xl:S.xs.length<=S'.xs.length
 vl:S.vars.length<=S'.vars.length
 cs:∀(i:Nat) (x:Cd),S.Bw[i]?=some x->S'.Bw[i]?=some x
 nt:S'.nt=S.nt
 bd:S'.sz<=S.sz+c
theorem Le.refl (S:LSt):Le S S 0:=⟨fun _ _ h=>h,AW _,AW _,fun _ _ h=>h,rfl,AW _⟩
theorem Le.trans {S T U:LSt} {c d:Nat} (h:Le S T c) (k:Le T U d):Le S U (c+d):=
 ⟨fun i x e=>k.xs i x (h.xs i x e),Ai h.xl k.xl,Ai h.vl k.vl,fun i x e=>k.cs i x (h.cs i x e),k.nt.trans h.nt,by have:=h.bd;have:=k.bd;omega⟩
theorem Le.up {S T:LSt} {d:Nat} (h:Le S T c) (a:c<=d):Le S T d:=⟨h.xs,h.xl,h.vl,h.cs,h.nt,by have:=h.bd;omega⟩
def NFx (n:Nat) (ex:List Nat) (S:LSt):Prop:=∀(i:Nat) (x:XE),n<=i->i ∉ ex->S.xs[i]?=some x->x.nf i S.vars.length S.xs.length
structure Ext (S S':LSt) (c:Nat):Prop where
 le:Le S S' c
 nf:NFx S.xs.length [] S'
theorem NFx.ext {ex:List Nat} {S S':LSt} (h:NFx m ex S) (k:Ext S S' c):NFx m ex S':=fun i x d f e=>by
 by_cases a:i < S.xs.length
 . have b:=k.le.xs i _ (An a);rw [b] at e;cases e;exact (h i _ d f (An a)).mono k.le.vl k.le.xl
 . exact k.nf i x (by omega) (by simp) e
theorem Ext.up {S T:LSt} {c d:Nat} (h:Ext S T c) (a:c<=d):Ext S T d:=⟨h.le.up a,h.nf⟩
def LSt.DM (S:LSt) (i:Nat) (f:XE->XE):LSt:= { S with xs:=S.xs.modify i f}
theorem Im (S:LSt) (i:Nat) (f:XE->XE):(S.DM i f).xs.length=S.xs.length:=List.length_modify ..
theorem eJ {S:LSt} {i:Nat} {f:XE->XE} {x:XE} (h:S.xs[i]?=some x):(S.DM i f).xs[i]?=some (f x):=by
 show (S.xs.modify i f)[i]?=_
 grind
theorem nT {S:LSt} {i j:Nat} {f:XE->XE} (h:i≠j):(S.DM i f).xs[j]?=S.xs[j]?:=by
 show (S.xs.modify i f)[j]?=_
 grind
theorem Le.DM {S T:LSt} (h:Le S T c) {i:Nat} (a:S.xs.length<=i) (f:XE->XE):Le S (T.DM i f) c:=by
 refine ⟨fun j x e=>?_,by rw [Im];exact h.xl,h.vl,h.cs,h.nt,by have:=h.bd;simp only [LSt.sz,Im] at this ⊢;exact this⟩;have:=(AG.1 e).1;rw [nT (by omega)];exact h.xs j x e
theorem NFx.DM {ex:List Nat} {S:LSt} (h:NFx m ex S) {i:Nat} (c:i∈ex) (f:XE->XE):NFx m ex (S.DM i f):=fun j x d b e=>by
 have a:i≠j:=fun e=>b (e ▸ c);rw [nT a] at e;rw [Im];exact h j x d b e
theorem NFx.done {i:Nat} {ex:List Nat} {S:LSt} (h:NFx m (i::ex) S) {x:XE} (g:S.xs[i]?=some x) (f:x.nf i S.vars.length S.xs.length):NFx m ex S:=fun j y b d e=>by
 by_cases a:j=i
 . grind
 . exact h j y b (fun c=>(Ah.1 c).elim a d) e
end
structure Tg (c c':Ch) (l:List M):Prop where
 out:∀s v,DP c' s=some v->v≠-1->DP c s=some v
 inn:∀s,s≠[]->s ∉ l->DP c' s=DP c s
theorem Tg.refl (c:Ch) (l:List M):Tg c c l:=⟨fun _ _ h _=>h,fun _ _ _=>rfl⟩
theorem sB (c:Ch) (n s:M) (v:Int):DP (Et c n v) s=if n≠[]/\n=s then some v else DP c s:=by
 unfold Et;by_cases h:n=[]
 . grind
 . rw [if_neg h,DP]
   grind
theorem Tg.with {c c':Ch} {l:List M} (h:Tg c c' l) (n:M):Tg c (Et c' n (-1)) (l++[n]):=by
 refine ⟨fun s v b a=>?_,fun s f d=>?_⟩
 . rw [sB] at b;split at b
   . grind
   . exact h.out s v b a
 . rw [sB,if_neg (fun e=>d (by grind))];exact h.inn s f fun e=>d (I6 _ e)
def iM (c:Ch) (l:List M):Ch:=l.foldl (fun c s=>Et c s (-1)) c
theorem AQ3 (c:Ch) (l:List M) (s:M):iM c (l++[s])=Et (iM c l) s (-1):=by simp [iM]
theorem Tg.hid (c:Ch):∀(l m:List M) (c':Ch),Tg c c' m->Tg c (iM c' l) (m++l)
 |[],m,c',h=>by rw [Aw];exact h
 |s::l,m,c',h=>by
  have:=Tg.hid c l (m++[s]) _ (h.with s);rw [Ax] at this;exact this
theorem Tg.names (c:Ch) (l:List M):Tg c (iM c l) l:=by
 have:=Tg.hid c l [] c (Tg.refl c [])
 grind
structure CQ (c:Ch) (F:M->Prop) (l l':List (M×Int)) (n:Nat):Prop where
 sub:∀x∈l,x∈l'
 src:∀x∈l',x∈l\/(DP c x.1=some x.2/\x.2≠-1)
 all:∀s,F s->∀v,DP c s=some v->v≠-1->∃x∈l',x.2=v
 len:l'.length<=l.length+n
theorem CQ.nil (c:Ch) (l:List (M×Int)):CQ c (fun _=>False) l l 0:=⟨fun _ h=>h,fun _ h=>.inl h,fun _ h=>h.elim,AW _⟩
theorem CQ.mono {c:Ch} {F G:M->Prop} {l:List (M×Int)} {n:Nat} (h:CQ c F l l' n) (a:∀s,G s->F s) (d:n<=m):CQ c G l l' m:=
 ⟨h.sub,h.src,fun s b=>h.all s (a s b),by have:=h.len;omega⟩
theorem CQ.kid {c c':Ch} {F:M->Prop} {l l1 l2:List (M×Int)} {n:Nat} {k:Ex} {hd:List M} (h:CQ c F l l1 n) (b:CQ c' (Lc k) l1 l2 m) (j:Tg c c' hd):CQ c (fun s=>F s\/(Lc k s/\s ∉ hd)) l l2 (n+m):=by
 refine ⟨fun x f=>b.sub x (h.sub x f),fun x f=>?_,fun s a v o d=>?_,by have:=h.len;have:=b.len;omega⟩
 . rcases b.src x f with g|⟨g,i⟩
   . exact h.src x g
   . exact .inr ⟨j.out _ _ g i,i⟩
 . rcases a with a|⟨a,p⟩
   . obtain ⟨x,f,e⟩:=h.all s a v o d;exact ⟨x,b.sub x f,e⟩
   . exact b.all s a v (by rw [j.inn s a.1 p];exact o) d
theorem CQ.var {c:Ch} {l:List (M×Int)} {nm:M} {u:Int} {ns:List M} (h:l'=l/\(∀v,DP c nm=some v->v≠-1->∃x∈l,x.2=v)\/∃v,DP c nm=some v/\v≠-1/\l'=l++[(nm,v)]):CQ c (Lc (.mk 4 nm u ns [] [])) l l' 1:=by
 have f:∀s,Lc (.mk 4 nm u ns [] []) s->s=nm:=fun s b=>by
  obtain ⟨_,x,a,_,d,_⟩:=b;rw [Bl,CA,Cw] at a;simp only [Aw,A9] at a;subst a;exact d.symm
 rcases h with ⟨rfl,h⟩|⟨v,e,d,rfl⟩
 . exact ⟨fun _ h=>h,fun _ h=>.inl h,fun s b=>by grind,Nat.le_succ _⟩
 . refine ⟨fun x a=>I6 _ a,fun x a=>?_,fun s b w g _=>⟨(nm,v),by simp,?_⟩,by simp⟩
   . grind
   grind
def Z6 (o:Int) (n:M) (ns:List M) (ks:List Ex) (s:M):Prop:=∃(i:Nat) (k:Ex),ks[i]?=some k/\Lc k s/\s ∉ Ct o n ns [] i
def kF (al:List Al) (s:M):Prop:=∃a∈al,Lc a.body s/\s ∉ a.vars
theorem y6 {o:Int} {n:M} {ns:List M} {x:Ex×List M}:∀ {ks:List Ex} {j:Nat},x∈CA o n ns [] j ks->∃(i:Nat) (k:Ex),ks[i]?=some k/\x∈Bl k (Ct o n ns [] (j+i))
 |k::ks,j,h=>by
  rw [CA,A2] at h;rcases h with h|h
  . exact ⟨0,k,rfl,h⟩
  . obtain ⟨i,b,a,c⟩:=y6 h;exact ⟨i+1,b,a,by grind⟩
 |[],j,h=>by simp [CA] at h
theorem AKF {sc:List M} {s:M} (h:x∈Bl e sc) (c:s≠[]) (a:x.1.op=4/\x.1.name=s/\s ∉ x.2):Lc e s/\s ∉ sc:=by
 have:=OL sc e [];rw [Aw] at this;rw [this] at h;obtain ⟨y,d,rfl⟩:=BR.1 h;exact ⟨⟨c,y,d,a.1,a.2.1,fun b=>a.2.2 (List.mem_append_right _ b)⟩,fun b=>a.2.2 (I6 _ b)⟩
theorem AQQ {o:Int} {n:M} {u:Int} {ns:List M} {ks:List Ex} {al:List Al} {s:M} (m:o≠4) (h:Lc (.mk o n u ns ks al) s):Z6 o n ns ks s\/kF al s:=by
 obtain ⟨g,x,d,f⟩:=h;rw [Bl,Ah,A2] at d;rcases d with rfl|d|d
 . exact absurd f.1 m
 . obtain ⟨i,k,l,e⟩:=y6 d;rw [Av] at e;obtain ⟨f1,f2⟩:=AKF e g f;exact .inl ⟨i,k,l,f1,f2⟩
 . obtain ⟨a,j,e⟩:=Yq d;obtain ⟨c,vs,b⟩:=a;rw [Um,A3] at e;obtain ⟨f1,f2⟩:=AKF e g f;exact .inr ⟨_,j,f1,f2⟩
theorem Z6.snoc {o:Int} {n:M} {ns:List M} {ks:List Ex} {i:Nat} {k:Ex} {s:M} (f:ks[i]?=some k) (h:Z6 o n ns (ks.take (i+1)) s):Z6 o n ns (ks.take i) s\/(Lc k s/\s ∉ Ct o n ns [] i):=by
 obtain ⟨j,c,a,b⟩:=h;rw [F9] at a;split at a
 . rename_i d;by_cases e:j=i
   . grind
   . exact .inl ⟨j,c,by grind,b⟩
 . cases a
theorem kF.snoc {al:List Al} {i:Nat} {a:Al} {s:M} (e:al[i]?=some a) (h:kF (al.take (i+1)) s):kF (al.take i) s\/(Lc a.body s/\s ∉ a.vars):=by
 obtain ⟨b,c,d⟩:=h;rw [Aa e] at c;rcases A2.1 c with c|c
 . exact .inl ⟨b,c,d⟩
 grind
theorem CQ.cr {c:Ch} {m:List (M×Int)} (h:CQ c (Lc e) [] l' e.size) (d:m.Perm l'):CR c e [] m:=by
 refine ⟨fun x a=>(by cases a),fun x a=>h.src x (d.mem_iff.1 a),fun s f v g b=>?_,by rw [d.length_eq];exact h.len⟩;obtain ⟨x,a,e⟩:=h.all s f v g b
 grind
set_option maxRecDepth 100000
set_option maxHeartbeats 40000000
noncomputable section
def Zk:List (Nat×PT):=[(3,pO [0] (.alt 1 (pD [2,3]) (.alt 2 (pD [1,3]) .done)))]
abbrev T0:=mX 5 f5 87 ([30]++lq [13,18,21,23,27,43]) [.c 2 (some 4),.c 3 (some 3)]
instance Sn:Good T0:=gdX func5
def TN:=C8 T0 Zk fun c a b=>G c [a,b]
def Ts:=lpC 0 (TN .skip .skip)
def gD:=lpC 1 (TN Ts .skip)
def uR:=(TN Ts gD).1
theorem vT:Inn T0 uR 87:=inX ntmps5 Zk
def J4:List (Nat×PT):=[(1,pL [9] (pD (Rg 0 9++[10]))),(12,pL [10] (pD (Rg 0 10++[11,12,13])))]
abbrev EF:=mX 12 f12 102 ([82]++lq [20,24,26,30,42,58,67,79,92,95]) []
instance R7:Good EF:=gdX func12
def JW:=C8 EF J4 fun c a=>G c [a]
def OX:=lpC 0 (JW .skip)
def RN:=(JW OX).1
theorem Rb:Inn EF RN 102:=inX ntmps12 J4
def Md:List (Nat×PT):=[(24,pO (Rg 0 4++[5,6]) (.alt 4 (pD (Rg 7 4)) (.alt 7 (pD [4,8,9,10]) .done)))]
abbrev Ht:=mX 13 f13 139 (lq [26,30,38,44,57,67,72,88,92,115,117]) []
instance Wl:Good Ht:=gdX func13
def F5:=C8 Ht Md fun c a b d=>G c [a,b,d]
def GN:=lpC 0 (F5 .skip .skip .skip)
def Jw:=lpC 1 (F5 GN .skip .skip)
def SM:=lpC 2 (F5 GN Jw .skip)
def W7:=(F5 GN Jw SM).1
theorem Wq:Inn Ht W7 139:=inX ntmps13 Md
abbrev Ox:=mX 20 f20 12 (lq [6,10]) [.t 4]
instance AO6:Good Ox:=gdX func20
def mB:=k0 Ox
theorem WS:Inn Ox mB 12:=inX ntmps20
def J5:List (Nat×PT):=[(1,pO (Rg 0 4++[5,8]) (.alt 4 (pO [7,6,9,10,12,13,14] (.alt 11 (pD [15]) (.alt 15 (pD [11]) .done))) (.alt 6 (pO [4,7,9,10,12,13,14] (.alt 11 (pD [15]) (.alt 15 (pD [11]) .done))) .done)))]
abbrev Fj:=mX 24 f24 26 ([14]++[300010]) [.t 4]
instance uE:Good Fj:=gdX func24
def RP:=k0 Fj J5
theorem Re:Inn Fj RP 26:=inX ntmps24 J5
abbrev Ix:=mX 25 f25 15 [100014] [.t 6]
instance AD8:Good Ix:=gdX func25
def XX:=k0 Ix
theorem Xs:Inn Ix XX 15:=inX ntmps25
def LQ:List (Nat×PT):=[(1,pO (Rg 0 5++[6,7,8]) (.alt 5 (pD (Rg 9 8)) (.alt 9 (pO [10] (.alt 5 (pD (Rg 11 6)) (.alt 11 (pD ([5]++Rg 12 5)) .done))) .done)))]
abbrev Gy:=mX 26 f26 32 ([20,100021]++[300017]) [.t 8]
instance yA:Good Gy:=gdX func26
def Tx:=k0 Gy LQ
theorem U5:Inn Gy Tx 32:=inX ntmps26 LQ
abbrev Hu:=mX 27 f27 156 [4,5,7,9,10] [.t 8]
instance AB8:Good Hu:=gdX func27
def W8:=k0 Hu
theorem Wr:Inn Hu W8 156:=inX ntmps27
def Zl:List (Nat×PT):=[(23,pO [0,1,2,6,7,8] (.alt 3 (pD [4,5,9,10,11]) (.alt 9 (pD [3,4,5,10,11]) .done)))]
abbrev Tc:=mX 46 f46 86 (lq [11,19,29,39,73,79]) [.t 4]
instance NZ:Good Tc:=gdX func46
def Zg:=C8 Tc Zl fun c a=>G c [a]
def gR:=lpC 0 (Zg .skip)
def u6:=(Zg gR).1
theorem wF:Inn Tc u6 86:=inX ntmps46 Zl
abbrev Qm:=mX 49 f49 5 [300003] [.c 2 (some 3)]
instance AQS:Good Qm:=gdX func49
def o4:=k0 Qm
theorem rA:Inn Qm o4 5:=inX ntmps49
abbrev Qo:=mX 50 f50 48 (lq [14,25,30,42]) [.t 4,.t 5]
instance qI:Good Qo:=gdX func50
def Q5:=C8 Qo [] fun c a b=>G c [a,b]
def Rs:=lpC 0 (Q5 .skip .skip)
def cS:=lpC 1 (Q5 Rs .skip)
def o6:=(Q5 Rs cS).1
theorem rD:Inn Qo o6 48:=inX ntmps50
abbrev Gz:=mX 51 f51 18 [7,8] [.t 9]
instance yB:Good Gz:=gdX func51
def Tz:=k0 Gz
theorem U6:Inn Gz Tz 18:=inX ntmps51
abbrev Fi:=mX 52 f52 100 ([6,13,14]++lq [34,39,49,86]) [.t 12]
instance uD:Good Fi:=gdX func52
def JX:=C8 Fi [] fun c a=>G c [a]
def OY:=lpC 0 (JX .skip)
def RO:=(JX OY).1
theorem Rc:Inn Fi RO 100:=inX ntmps52
abbrev Fh:=mX 53 f53 23 [] [.t 6]
instance uC:Good Fh:=gdX func53
def RM:=k0 Fh
theorem Ra:Inn Fh RM 23:=inX ntmps53
def Me:List (Nat×PT):=[(8,pO (Rg 0 4++Rg 5 7) (.alt 4 (pD (Rg 12 6)) (.alt 12 (pO [13] (.alt 4 (pD (Rg 14 4)) (.alt 14 (pD [4,15,16,17]) .done))) .done)))]
abbrev Hv:=mX 54 f54 65 (lq [25,31,45,54,57]) [.t 8]
instance AB9:Good Hv:=gdX func54
def W9:=k0 Hv Me
theorem Ws:Inn Hv W9 65:=inX ntmps54 Me
abbrev Ei:=mX 55 f55 19 ([5]++[300013]) [.t 6]
instance O6:Good Ei:=gdX func55
def OW:=k0 Ei
theorem O8:Inn Ei OW 19:=inX ntmps55
abbrev MN:=mX 56 f56 16 [] [.t 2]
instance AKH:Good MN:=gdX func56
def cT:=k0 MN
theorem dP:Inn MN cT 16:=inX ntmps56
def Hl:List (Nat×PT):=[(7,pO (Rg 1 4) (.alt 0 (.alt 5 (.alt 6 (pD [7,8]) (.alt 7 (pD [6,8]) .done)) (.alt 7 (pD [5,6,8]) .done)) (.alt 5 (.alt 0 (.alt 6 (pD [7,8]) (.alt 7 (pD [6,8]) .done)) (.alt 7 (pD [0,6,8]) .done)) (.alt 7 (pD [0,5,6,8]) .done))))]
abbrev Eh:=mX 57 f57 71 ([4,9,15]++lq [25,31,35,40,48,55,65]) [.t 8]
instance mF:Good Eh:=gdX func57
def OV:=k0 Eh Hl
theorem O7:Inn Eh OV 71:=inX ntmps57 Hl
def LP:List (Nat×PT):=[(6,pO (Rg 0 5++[6,7]++Rg 9 4) (.alt 5 (.alt 8 (pD [13,14]) (.alt 13 (pD [8,14]) .done)) (.alt 8 (.alt 5 (pD [13,14]) (.alt 13 (pD [5,14]) .done)) (.alt 13 (pD [5,8,14]) .done))))]
abbrev Gw:=mX 58 f58 75 (lq [18,35,51,62,70]) [.t 12]
instance x9:Good Gw:=gdX func58
def Tv:=k0 Gw LP
theorem U3:Inn Gw Tv 75:=inX ntmps58 LP
def KW:List (Nat×PT):=[(3,.alt 0 (pO [1,2] (.alt 3 (.alt 4 (pO [5] (.alt 6 (pO [7,8,9] (.alt 10 (pD [11,12]) (.alt 11 (pD [10,12]) .done))) (.alt 11 (pD (Rg 6 5++[12])) .done))) (.alt 11 (pD (Rg 4 7++[12])) .done)) (.alt 4 (pO [5] (.alt 3 (.alt 6 (pO [7,8,9] (.alt 10 (pD [11,12]) (.alt 11 (pD [10,12]) .done))) (.alt 11 (pD (Rg 6 5++[12])) .done)) (.alt 6 (.alt 3 (pO [7,8,9] (.alt 10 (pD [11,12]) (.alt 11 (pD [10,12]) .done))) (.alt 11 (pD ([3]++Rg 7 4++[12])) .done)) (.alt 11 (pD ([3]++Rg 6 5++[12])) .done)))) (.alt 11 (pD (Rg 3 8++[12])) .done)))) (.alt 4 (pO [5] (.alt 0 (pO [1,2] (.alt 3 (.alt 6 (pO [7,8,9] (.alt 10 (pD [11,12]) (.alt 11 (pD [10,12]) .done))) (.alt 11 (pD (Rg 6 5++[12])) .done)) (.alt 6 (.alt 3 (pO [7,8,9] (.alt 10 (pD [11,12]) (.alt 11 (pD [10,12]) .done))) (.alt 11 (pD ([3]++Rg 7 4++[12])) .done)) (.alt 11 (pD ([3]++Rg 6 5++[12])) .done)))) (.alt 6 (.alt 0 (pO [1,2] (.alt 3 (pO [7,8,9] (.alt 10 (pD [11,12]) (.alt 11 (pD [10,12]) .done))) (.alt 11 (pD ([3]++Rg 7 4++[12])) .done))) (.alt 11 (pD (Rg 0 4++Rg 7 4++[12])) .done)) (.alt 11 (pD (Rg 0 4++Rg 6 5++[12])) .done)))) (.alt 11 (pD (Rg 0 11++[12])) .done)))]
abbrev GW:=mX 59 f59 48 [4,5,7,9,10,12] [.t 8]
instance vF:Good GW:=gdX func59
def SP:=k0 GW KW
theorem Sv:Inn GW SP 48:=inX ntmps59 KW
def LR:List (Nat×PT):=[(2,pO [5,11,12] (.alt 0 (pO [1,2,3] (.alt 4 (.alt 6 (pO [7,8,9] (.alt 10 (pO [14,15] (.alt 13 (pD (Rg 16 4)) (.alt 16 (pD [13,17,18,19]) .done))) (.alt 13 (pD ([10]++Rg 14 6)) .done))) (.alt 13 (pD (Rg 6 5++Rg 14 6)) .done)) (.alt 6 (pO [7,8,9] (.alt 4 (.alt 10 (pO [14,15] (.alt 13 (pD (Rg 16 4)) (.alt 16 (pD [13,17,18,19]) .done))) (.alt 13 (pD ([10]++Rg 14 6)) .done)) (.alt 10 (.alt 4 (pO [14,15] (.alt 13 (pD (Rg 16 4)) (.alt 16 (pD [13,17,18,19]) .done))) (.alt 13 (pD ([4]++Rg 14 6)) .done)) (.alt 13 (pD ([4,10]++Rg 14 6)) .done)))) (.alt 13 (pD ([4]++Rg 6 5++Rg 14 6)) .done)))) (.alt 6 (pO [7,8,9] (.alt 0 (pO [1,2,3] (.alt 4 (.alt 10 (pO [14,15] (.alt 13 (pD (Rg 16 4)) (.alt 16 (pD [13,17,18,19]) .done))) (.alt 13 (pD ([10]++Rg 14 6)) .done)) (.alt 10 (.alt 4 (pO [14,15] (.alt 13 (pD (Rg 16 4)) (.alt 16 (pD [13,17,18,19]) .done))) (.alt 13 (pD ([4]++Rg 14 6)) .done)) (.alt 13 (pD ([4,10]++Rg 14 6)) .done)))) (.alt 10 (.alt 0 (pO [1,2,3] (.alt 4 (pO [14,15] (.alt 13 (pD (Rg 16 4)) (.alt 16 (pD [13,17,18,19]) .done))) (.alt 13 (pD ([4]++Rg 14 6)) .done))) (.alt 13 (pD (Rg 0 5++Rg 14 6)) .done)) (.alt 13 (pD (Rg 0 5++[10]++Rg 14 6)) .done)))) (.alt 13 (pD (Rg 0 5++Rg 6 5++Rg 14 6)) .done))))]
abbrev HA:=mX 60 f60 53 [] [.t 7]
instance yC:Good HA:=gdX func60
def UA:=k0 HA LR
theorem U7:Inn HA UA 53:=inX ntmps60 LR
def OO:List (Nat×PT):=[(2,pO (Rg 0 4++Rg 5 12) (.alt 4 (pD (Rg 17 4)) (.alt 17 (pD [4,18,19,20]) .done)))]
abbrev GL:=mX 61 f61 36 [300012] []
instance Xn:Good GL:=gdX func61
def XY:=k0 GL OO
theorem Xt:Inn GL XY 36:=inX ntmps61 OO
def ME:List (Nat×PT):=[(3,pO [4,5] (.alt 0 (pO [1,2] (.alt 3 (.alt 6 (pO [7,8] (.alt 9 (pD [10,11]) (.alt 10 (pD [9,11]) .done))) (.alt 10 (pD (Rg 6 4++[11])) .done)) (.alt 6 (.alt 3 (pO [7,8] (.alt 9 (pD [10,11]) (.alt 10 (pD [9,11]) .done))) (.alt 10 (pD [3,7,8,9,11]) .done)) (.alt 10 (pD ([3]++Rg 6 4++[11])) .done)))) (.alt 6 (.alt 0 (pO [1,2] (.alt 3 (pO [7,8] (.alt 9 (pD [10,11]) (.alt 10 (pD [9,11]) .done))) (.alt 10 (pD [3,7,8,9,11]) .done))) (.alt 10 (pD (Rg 0 4++[7,8,9,11])) .done)) (.alt 10 (pD (Rg 0 4++Rg 6 4++[11])) .done)))),(4,pO [5] (.alt 0 (pO [1,2,3] (.alt 4 (.alt 6 (pO [7,8] (.alt 9 (pD [10,11]) (.alt 10 (pD [9,11]) .done))) (.alt 10 (pD (Rg 6 4++[11])) .done)) (.alt 6 (.alt 4 (pO [7,8] (.alt 9 (pD [10,11]) (.alt 10 (pD [9,11]) .done))) (.alt 10 (pD [4,7,8,9,11]) .done)) (.alt 10 (pD ([4]++Rg 6 4++[11])) .done)))) (.alt 6 (.alt 0 (pO [1,2,3] (.alt 4 (pO [7,8] (.alt 9 (pD [10,11]) (.alt 10 (pD [9,11]) .done))) (.alt 10 (pD [4,7,8,9,11]) .done))) (.alt 10 (pD (Rg 0 5++[7,8,9,11])) .done)) (.alt 10 (pD (Rg 0 5++Rg 6 4++[11])) .done))))]
abbrev H8:=mX 62 f62 56 [4,5,7,9,11,12,13] [.t 8]
instance AAL:Good H8:=gdX func62
def VG:=k0 H8 ME
theorem V7:Inn H8 VG 56:=inX ntmps62 ME
def KU:List (Nat×PT):=[(10,pO (Rg 0 4++Rg 5 13) (.alt 4 (pD (Rg 18 4)) (.alt 18 (pD [4,19,20,21]) .done))),(12,pL [15] (pD (Rg 0 15++[16]))),(13,pO (Rg 0 4++Rg 5 4) (.alt 4 (pD (Rg 9 4)) (.alt 9 (pD [4,10,11,12]) .done)))]
abbrev GU:=mX 63 f63 95 ([13]++lq [26,32,34,61,68,79,89,90]) [.t 8]
instance vD:Good GU:=gdX func63
def KI:=C8 GU KU fun c a=>G c [a]
def PS:=lpC 0 (KI .skip)
def SL:=(KI PS).1
theorem Ss:Inn GU SL 95:=inX ntmps63 KU
abbrev Qs:=mX 97 f97 34 (lq [9,16,21,29]) [.t 2]
instance qN:Good Qs:=gdX func97
def Q6:=C8 Qs [] fun c a b=>G c [a,b]
def Rt:=lpC 0 (Q6 .skip .skip)
def cV:=lpC 1 (Q6 Rt .skip)
def pE:=(Q6 Rt cV).1
theorem rH:Inn Qs pE 34:=inX ntmps97
def IZ:List (Nat×PT):=[(2,pO (Rg 6 11) (.alt 0 (pO [1,2,3] (.alt 4 (.alt 5 (pD (Rg 17 4)) (.alt 17 (pD [5,18,19,20]) .done)) (.alt 5 (.alt 4 (pD (Rg 17 4)) (.alt 17 (pD [4,18,19,20]) .done)) (.alt 17 (pD [4,5,18,19,20]) .done)))) (.alt 5 (.alt 0 (pO [1,2,3] (.alt 4 (pD (Rg 17 4)) (.alt 17 (pD [4,18,19,20]) .done))) (.alt 17 (pD (Rg 0 5++[18,19,20])) .done)) (.alt 17 (pD (Rg 0 6++[18,19,20])) .done))))]
abbrev FA:=mX 98 f98 29 [] []
instance IP:Good FA:=gdX func98
def PV:=k0 FA IZ
theorem Pb:Inn FA PV 29:=inX ntmps98 IZ
abbrev Iw:=mX 99 f99 22 [] [.t 4,.t 5]
instance AD7:Good Iw:=gdX func99
def OB:=C8 Iw [] fun c a=>G c [a]
def Tt:=lpC 0 (OB .skip)
def XW:=(OB Tt).1
theorem Xr:Inn Iw XW 22:=inX ntmps99
def LU:List (Nat×PT):=[(6,pO (Rg 0 5++Rg 6 5) (.alt 5 (pD (Rg 11 8)) (.alt 11 (pD ([5]++Rg 12 7)) .done)))]
abbrev Eb:=mX 100 f100 62 ([41]++lq [19,23,34,50]) [.t 6]
instance yD:Good Eb:=gdX func100
def UB:=k0 Eb LU
theorem U8:Inn Eb UB 62:=inX ntmps100 LU
abbrev Gx:=mX 101 f101 44 [] [.t 6]
instance LD:Good Gx:=gdX func101
def LF:=C8 Gx [] fun c a=>G c [a]
def QA:=lpC 0 (LF .skip)
def Tw:=(LF QA).1
theorem U4:Inn Gx Tw 44:=inX ntmps101
abbrev FZ:=mX 102 f102 19 [] [.t 4]
instance qK:Good FZ:=gdX func102
def Ii:=C8 FZ [] fun c a=>G c [a]
def Nj:=lpC 0 (Ii .skip)
def QE:=(Ii Nj).1
theorem QX:Inn FZ QE 19:=inX ntmps102
abbrev EP:=mX 103 f103 8 [300005] [.t 3]
instance iG:Good EP:=gdX func103
def Ml:=k0 EP
theorem NA:Inn EP Ml 8:=inX ntmps103
abbrev EM:=mX 104 f104 21 [] [.t 5]
instance iE:Good EM:=gdX func104
def Mj:=k0 EM
theorem My:Inn EM Mj 21:=inX ntmps104
abbrev EO:=mX 105 f105 19 [] [.t 4]
instance iF:Good EO:=gdX func105
def Mk:=k0 EO
theorem Mz:Inn EO Mk 19:=inX ntmps105
abbrev FX:=mX 106 f106 73 [] [.t 8]
instance qH:Good FX:=gdX func106
def Ig:=C8 FX [] fun c a=>G c [a]
def Nf:=lpC 0 (Ig .skip)
def QC:=(Ig Nf).1
theorem QW:Inn FX QC 73:=inX ntmps106
def KV:List (Nat×PT):=[(8,pO [0,2,3,4] (.alt 1 (pD [5,6,7]) (.alt 5 (pD [1,6,7]) .done))),(18,pO ([0]++Rg 2 6) (.alt 1 (pD [8,9,10]) (.alt 8 (pD [1,9,10]) .done))),(19,pO ([0]++Rg 2 6) (.alt 1 (pD [8,9,10]) (.alt 8 (pD [1,9,10]) .done)))]
abbrev C5:=mX 107 f107 163 [14] [.t 9]
instance vE:Good C5:=gdX func107
def EV:=C8 C5 KV fun c a b d=>G c [a,b,d]
def Db:=lpC 0 (EV .skip .skip .skip)
def Ey:=lpC 1 (EV Db .skip .skip)
def PU:=lpC 2 (EV Db Ey .skip)
def SO:=(EV Db Ey PU).1
theorem Su:Inn C5 SO 163:=inX ntmps107 KV
abbrev FW:=mX 109 f109 13 [300006] [.t 4]
instance qG:Good FW:=gdX func109
def QB:=k0 FW
theorem QV:Inn FW QB 13:=inX ntmps109
abbrev Ov:=mX 110 f110 108 (lq [18,22,27,34,38,41,50,55,59,68,73,83,89,100,102]) [.t 6,.t 7]
instance WO:Good Ov:=gdX func110
def K5:=C8 Ov [] fun c a b d=>G c [a,b,d]
def Kh:=lpC 0 (K5 .skip .skip .skip)
def QH:=lpC 1 (K5 Kh .skip .skip)
def aG:=lpC 2 (K5 Kh QH .skip)
def mA:=(K5 Kh QH aG).1
theorem mV:Inn Ov mA 108:=inX ntmps110
def WZ:List (Nat×PT):=[(18,pD (Rg 0 5++[6,5,7]))]
abbrev Oi:=mX 111 f111 109 ([6,45]++lq [14,19,41,48,57,61,70,73,77,86,88,94,101,104]) []
instance mE:Good Oi:=gdX func111
def Od:=C8 Oi WZ fun c a b=>G c [a,b]
def Pz:=lpC 0 (Od .skip .skip)
def Zv:=lpC 1 (Od Pz .skip)
def lV:=(Od Pz Zv).1
theorem WR:Inn Oi lV 109:=inX ntmps111 WZ
abbrev Qq:=mX 154 f154 8 [3] [.t 4]
instance qL:Good Qq:=gdX func154
def pB:=k0 Qq
theorem rF:Inn Qq pB 8:=inX ntmps154
abbrev Kx:=mX 155 f155 44 (lq [9,13,18,25,29,36]) [.t 4]
instance AH3:Good Kx:=gdX func155
def Q8:=C8 Kx [] fun c a=>G c [a]
def Wk:=lpC 0 (Q8 .skip)
def aH:=(Q8 Wk).1
theorem bE:Inn Kx aH 44:=inX ntmps155
abbrev DY:=mX 156 f156 9 [] [.t 4]
instance Zc:Good DY:=gdX func156
def Jx:=k0 DY
theorem KH:Inn DY Jx 9:=inX ntmps156
abbrev MM:=mX 157 f157 8 [300005] [.t 3]
instance AKG:Good MM:=gdX func157
def cP:=k0 MM
theorem dO:Inn MM cP 8:=inX ntmps157
abbrev Qn:=mX 158 f158 18 [] [.t 4]
instance AQT:Good Qn:=gdX func158
def YO:=C8 Qn [] fun c a=>G c [a]
def cR:=lpC 0 (YO .skip)
def o5:=(YO cR).1
theorem rC:Inn Qn o5 18:=inX ntmps158
abbrev EB:=mX 190 f190 19 [] [.t 4]
instance fF:Good EB:=gdX func190
def Gc:=C8 EB [] fun c a=>G c [a]
def Kd:=lpC 0 (Gc .skip)
def MU:=(Gc Kd).1
theorem MZ:Inn EB MU 19:=inX ntmps190
abbrev NQ:=mX 191 f191 16 (lq [7,13]) [.t 3]
instance AMT:Good NQ:=gdX func191
def gJ:=k0 NQ
theorem iQ:Inn NQ gJ 16:=inX ntmps191
abbrev FC:=mX 192 f192 32 (lq [27,28]) [.t 6]
instance IQ:Good FC:=gdX func192
def IT:=C8 FC [] fun c a=>G c [a]
def Mn:=lpC 0 (IT .skip)
def PX:=(IT Mn).1
theorem Pd:Inn FC PX 32:=inX ntmps192
abbrev Qx:=mX 193 f193 24 (lq [6,8,12,14,19,21]) [.t 4]
instance AQY:Good Qx:=gdX func193
def pJ:=k0 Qx
theorem rM:Inn Qx pJ 24:=inX ntmps193
abbrev Dm:=mX 194 f194 19 [] [.t 4]
instance dM:Good Dm:=gdX func194
def GJ:=C8 Dm [] fun c a=>G c [a]
def Jy:=lpC 0 (GJ .skip)
def Ll:=(GJ Jy).1
theorem Ls:Inn Dm Ll 19:=inX ntmps194
end
set_option maxRecDepth 100000
set_option maxHeartbeats 40000000
noncomputable section
def Uu:List (Nat×PT):=[(17,pL [9] (pD (Rg 0 9++[10,11]))),(23,pL [10] (pD (Rg 0 10++[11])))]
abbrev HC:=mX 10 f10 114 (lq [20,25,27,31,39,44,48,63,75,84,86,88,93,96,103,106,108]) [.t 2,.c 3 (some 3)]
instance JN:Good HC:=gdX func10
def JP:=C8 HC Uu fun c a b d=>G c [a,b,d]
def J6:=lpC 0 (JP .skip .skip .skip)
def PA:=lpC 1 (JP J6 .skip .skip)
def ZK:=lpC 2 (JP J6 PA .skip)
def gI:=(JP J6 PA ZK).1
theorem iP:Inn HC gI 114:=inX ntmps10 Uu
def Y6:List (Nat×PT):=[(3,pO [0] (.alt 1 (pD [2,3]) (.alt 2 (pD [1,3]) .done)))]
abbrev Qr:=mX 14 f14 28 (lq [9,14,17,19,23,25]) [.c 2 (some 5),.c 3 (some 3)]
instance qM:Good Qr:=gdX func14
def pC:=k0 Qr Y6
theorem rG:Inn Qr pC 28:=inX ntmps14 Y6
abbrev On:=mX 15 f15 20 ([3]++lq [7,13,17]) [.c 2 (some 2)]
instance mH:Good On:=gdX func15
def WU:=C8 On [] fun c a=>G c [a]
def Zz:=lpC 0 (WU .skip)
def l5:=(WU Zz).1
theorem mQ:Inn On l5 20:=inX ntmps15
def Iu:List (Nat×PT):=[(9,pL [9] (pD [0,1,2,4,5,6,3,7,8,10])),(13,pD (Rg 0 5++[6,7,8,5]++Rg 9 6))]
abbrev F1:=mX 16 f16 89 ([2,46]++lq [12,16,28,32,35,39,44,49,53,60,69,72,76,88]) [.c 4 (some 5),.t 5]
instance Cb:Good F1:=gdX func16
def Ij:=C8 F1 Iu fun c a=>G c [a]
def Nk:=lpC 0 (Ij .skip)
def QF:=(Ij Nk).1
theorem QY:Inn F1 QF 89:=inX ntmps16 Iu
def OQ:List (Nat×PT):=[(3,pO (Rg 0 6++Rg 7 7) (.alt 6 (pD [14,15]) (.alt 14 (pD [6,15]) .done)))]
abbrev JC:=mX 17 f17 30 ([9]++lq [7,12,19]) [.t 4]
instance Xo:Good JC:=gdX func17
def X3:=k0 JC OQ
theorem Xy:Inn JC X3 30:=inX ntmps17 OQ
abbrev Om:=mX 22 f22 27 (lq [11,16,19,20,25]) [.t 4,.t 5]
instance AO2:Good Om:=gdX func22
def lZ:=k0 Om
theorem mP:Inn Om lZ 27:=inX ntmps22
abbrev NR:=mX 23 f23 30 (lq [11,16,20,21,26,28]) [.t 4,.c 5 (some 3),.t 6]
instance AMU:Good NR:=gdX func23
def gK:=k0 NR
theorem iR:Inn NR gK 30:=inX ntmps23
def W2:List (Nat×PT):=[(1,pD ([0,1,2,5,6,3,4]++Rg 7 4))]
abbrev Oo:=mX 29 f29 30 (lq [8,12,18,25]) []
instance mM:Good Oo:=gdX func29
def WV:=C8 Oo W2 fun c a=>G c [a]
def aA:=lpC 0 (WV .skip)
def l6:=(WV aA).1
theorem mR:Inn Oo l6 30:=inX ntmps29 W2
abbrev G1:=mX 30 f30 14 [] [.t 2]
instance Sp:Good G1:=gdX func30
def S7:=k0 G1
theorem TC:Inn G1 S7 14:=inX ntmps30
abbrev ER:=mX 31 f31 9 [] [.t 4]
instance iI:Good ER:=gdX func31
def Mm:=k0 ER
theorem Gp:Inn ER Mm 9:=inX ntmps31
abbrev Ek:=mX 32 f32 9 [300006] [.t 3]
instance mJ:Good Ek:=gdX func32
def O2:=k0 Ek
theorem Oa:Inn Ek O2 9:=inX ntmps32
abbrev Qz:=mX 33 f33 15 ([11]++[300013]) [.t 6]
instance qR:Good Qz:=gdX func33
def pN:=k0 Qz
theorem rP:Inn Qz pN 15:=inX ntmps33
abbrev EE:=mX 34 f34 22 [300016] [.t 4]
instance MY:Good EE:=gdX func34
def Gf:=C8 EE [] fun c a=>G c [a]
def Kg:=lpC 0 (Gf .skip)
def MX:=(Gf Kg).1
theorem M2:Inn EE MX 22:=inX ntmps34
def Hm:List (Nat×PT):=[(3,pL [6] (pD (Rg 0 6++[7])))]
abbrev El:=mX 35 f35 24 (lq [11,17,23]) [.c 4 (some 3)]
instance mL:Good El:=gdX func35
def O3:=k0 El Hm
theorem Ob:Inn El O3 24:=inX ntmps35 Hm
abbrev Hb:=mX 36 f36 107 ([4]++lq [87,100,103]) []
instance V6:Good Hb:=gdX func36
def H4:=C8 Hb [] fun c a b=>G c [a,b]
def JV:=lpC 0 (H4 .skip .skip)
def RX:=lpC 1 (H4 JV .skip)
def VM:=(H4 JV RX).1
theorem V9:Inn Hb VM 107:=inX ntmps36
abbrev G0:=mX 37 f37 21 [100018] [.t 4]
instance vJ:Good G0:=gdX func37
def KL:=C8 G0 [] fun c a=>G c [a]
def P0:=lpC 0 (KL .skip)
def S3:=(KL P0).1
theorem TB:Inn G0 S3 21:=inX ntmps37
abbrev E7:=mX 48 f48 19 [] [.t 4,.t 5]
instance Nu:Good E7:=gdX func48
def Nl:=k0 E7
theorem Nz:Inn E7 Nl 19:=inX ntmps48
abbrev FF:=mX 73 f73 19 [] [.t 4]
instance nN:Good FF:=gdX func73
def IV:=C8 FF [] fun c a=>G c [a]
def Mt:=lpC 0 (IV .skip)
def PZ:=(IV Mt).1
theorem IS:Inn FF PZ 19:=inX ntmps73
abbrev EZ:=mX 74 f74 109 ([2]++lq [20,28,32,42,46,59,68,80,84,89,93,99,105]) [.t 4]
instance Cg:Good EZ:=gdX func74
def Sj:=k0 EZ
theorem TM:Inn EZ Sj 109:=inX ntmps74
abbrev Qy:=mX 75 f75 51 (lq [9,13,18,25,30,32,35,42,43,50]) [.c 4 (some 3)]
instance qQ:Good Qy:=gdX func75
def YR:=C8 Qy [] fun c a=>G c [a]
def cZ:=lpC 0 (YR .skip)
def pM:=(YR cZ).1
theorem rO:Inn Qy pM 51:=inX ntmps75
abbrev Tb:=mX 76 f76 19 (lq [7,14]) [.t 2]
instance AT8:Good Tb:=gdX func76
def Zf:=C8 Tb [] fun c a=>G c [a]
def gQ:=lpC 0 (Zf .skip)
def u5:=(Zf gQ).1
theorem wE:Inn Tb u5 19:=inX ntmps76
abbrev Ec:=mX 77 f77 17 [] [.t 4]
instance yF:Good Ec:=gdX func77
def LJ:=C8 Ec [] fun c a=>G c [a]
def I8:=lpC 0 (LJ .skip)
def UJ:=(LJ I8).1
theorem Ua:Inn Ec UJ 17:=inX ntmps77
abbrev GZ:=mX 79 f79 9 [300005] [.t 3]
instance vI:Good GZ:=gdX func79
def SZ:=k0 GZ
theorem TA:Inn GZ SZ 9:=inX ntmps79
abbrev F3:=mX 135 f135 8 [300005] [.t 3]
instance qS:Good F3:=gdX func135
def QM:=k0 F3
theorem Q2:Inn F3 QM 8:=inX ntmps135
end
theorem Ya:∀(n:Nat) (t:Ty) (A:X),t.size<=n->n<=1000000->AS Tzp 76 [tyA t] A (fun v H=>v= .d (.int .i64 t.size)/\H=A):=by
 intro n
 induction n using DK with
 |_ n u=>
  intro t A z x;obtain ⟨w,nm,l⟩:=t;refine wE.go ?_;rw [Dx];have f:(Ty.mk w nm l).size=1+Ty.AQ l:=rfl;(repeat' refine wQ ?_<;>simp only [CX,go_sem])
  refine lpK (fun (y:Nat×Nat)=>[(3,A1 y.2),(9,A1 y.1)]) (fun _=>A)
   (fun y=>y.1<=l.length/\y.2=1+Ty.AQ (l.take y.1)) (fun y=>l.length - y.1) ?_ (0,1) ⟨by simp,by simp [Ty.AQ]⟩
  rintro ⟨i,q⟩ ⟨o,e⟩ j;simp only at o e
  have p:i<=n:=by
   have:=TY (l.take i);have:=D3 l i;simp at *;omega
  by_cases d:i < l.length
  . obtain ⟨t',k⟩:=Ak d;have r:Ty.AQ (l.take (i+1))=Ty.AQ (l.take i)+t'.size:=by rw [Aa k,Ko]
    have s:=D3 l (i+1);obtain ⟨a,b,al⟩:=t';have m:=JM k;have g:=wS i;have h:=wrap_add (show q+(Ty.mk a b al).size<=9000000000000000000 by omega);have c:=u ((Ty.mk a b al).size) (by omega) (.mk a b al) A (AW _) (by omega);(repeat' (first|refine wQ ?_|refine AN.det (c) ?_|fail)<;>try simp only [BI d,m,g,h,go_sem]);exact j (i+1,q+(Ty.mk a b al).size) ⟨by simp only;omega,by simp only;omega⟩ (by simp only;omega)
  . (repeat' refine wP ?_<;>simp only [B5 d,go_sem]);rw [AR (by omega)] at e;rw [f,e]
theorem AGV (args:List Ty) (t:Ty) (hs:t.size<=1000000) (Z:∀(u:Ty) (A:X),u.size < t.size->AS Tzp 75 [tyA u,L9 args] A (fun v H=>v=tyA (u.subst args)/\H=A))
 (g:∀(u:Ty) (A:X),u∈args->AS Tzp 75 [tyA u,L9 []] A (fun v H=>v=tyA u/\H=A)) (A:X):
 AS Tzp 75 [tyA t,L9 args] A (fun v H=>v=tyA (t.subst args)/\H=A):=by
 obtain ⟨f,nm,l⟩:=t;have T:(Ty.mk f nm l).size=1+Ty.AQ l:=rfl;refine rO.go ?_;(repeat' first|refine ctQ rfl ?_|(refine RA (by first|exact GV.t|exact GV.f|exact GV.st|exact GV.sf) ⟨?_,fun h=>?_,?_⟩;rotate_left;(focus ((try simp only [AM] at h);simp only [go_sem];first|exact Is.mk|exact Is.pv (by simp only [h,WY,CX,go_sem];rfl)));(try simp only [↓Vq,go_sem]))|((first|refine rgQ mxQ ?_|refine cdQ ?_)<;>try simp only [CX,go_sem])|(refine ⟨fun h=>?_,fun h=>?_⟩<;>first|(cases h;done)|try simp only [h])|fail)
 . simp only [AM,beq_iff_eq,decide_eq_true_eq] at h;obtain ⟨⟨N,q⟩,P⟩:=h;obtain ⟨i,rfl⟩:=E0 q;have b:i < args.length:=by omega
   obtain ⟨u,e⟩:=Ak b;have c:(Ty.mk f i l).subst args=u:=by simp only [Ty.subst];rw [if_pos ⟨N,q,P⟩];simp [e]
   rw [c];have k:=g u A (AE e);obtain ⟨F,G,D⟩:=u;have m:=JM e;simp only [tyA,L9,Ty.J,Ty.Cz,AB,AJ] at k;have r:AS Tzp 75 [.agg [A1 F,A1 G,BU (Ty.Cz D)],.Ac] A _:=AS.plain (by simpa only [I.C3,H6,Pu,K6] using k);simp only [BX,m,go_sem];(repeat' (first|refine wP ?_|refine AN.det (r) ?_|fail)<;>try simp only [go_sem])
 . have s:¬(f=4/\0<=nm/\nm < args.length):=by
    simp only [WE,beq_eq_false_iff_ne,decide_eq_false_iff_not] at h;omega
   have c:(Ty.mk f nm l).subst args= .mk f nm (l.map (Ty.subst args)):=by simp only [Ty.subst];rw [if_neg s,FV]
   rw [c];have R:=TY l;refine W.PL ?_
   refine W.SB ((fun (a1:I) (K:I) (L:I) (n:I) (o:I)=>fun (z:Nat×I×X)=>put 1 a1 (put 4 K (put 5 L (put 35 n (put 36 o (put 37 (A1 z.1) U)))))) _ _ _ _ _) (fun z=>CN 4 [A1 0,A1 0,.Ac] (CN 5 [A1 f,A1 nm,z.2.1] E)) (fun z=>z.2.2)
    (fun z=>z.1<=l.length/\Bn A eTy 3 (((l.take z.1).map (Ty.subst args)).map Ty.J) z.2.1 z.2.2) (fun z=>l.length - z.1) ?_ (0,.Ac,A) ⟨by simp,by simpa using Bn.nil A eTy 3⟩
   rintro ⟨p,v,V⟩ ⟨S,d⟩ y;simp only at S d;by_cases b:p < l.length
   . obtain ⟨u,e⟩:=Ak b;have Y:=Yy e;have x:(l.take (p+1)).map (Ty.subst args)=(l.take p).map (Ty.subst args)++[u.subst args]:=by rw [Aa e,A4];rfl
     have k:=Z u V (by omega);generalize u.subst args=w at *;obtain ⟨k1,n1,a1⟩:=u;obtain ⟨F,G,D⟩:=w;have m:=JM e;have j:=wS p;(repeat' (first|refine wQ ?_|refine AN.det (k) ?_|fail)<;>try simp only [BI b,m,d.w4,go_sem]);refine DH.own d rfl (by simp) (by simp;omega) (by omega) (fun v' B a Q=>?_);simp only [j,a.cells,a.cell,go_sem];(repeat' refine wQ ?_<;>simp only [j,a.BS,a.Cp,a.cells,a.cell,go_sem]);refine y ⟨p+1,v',B⟩ ⟨b,?_⟩ (by simp only;omega);simp only [x];rw [A4];exact a
   . rw [AR (by omega)] at d;(repeat' refine wQ ?_<;>simp only [B5 b,d.w4,go_sem]);refine W.By qQ d.le ?_;simp only [d.plain,Ty.BQ,go_sem]
theorem Oh (args:List Ty) (a:∀t∈args,t.size<=1000000) (t:Ty) (b:t.size<=1000000) (A:X):AS Tzp 75 [tyA t,L9 args] A (fun v H=>v=tyA (t.subst args)/\H=A):=by
 have key:∀(n:Nat) (args:List Ty) (t:Ty) (A:X),(∀t∈args,t.size<=1000000)->t.size<=1000000->t.size+(if args=[] then 0 else 1000001)<=n->AS Tzp 75 [tyA t,L9 args] A (dtV (tyA (t.subst args)) A):=by
  intro n
  induction n using DK with
  |_ n d=>
   intro args t A a b e;have f:=bU t;refine AGV args t b (fun u A c=>d (n - 1) (by omega) args u A a (by omega) (by omega)) (fun u A c=>?_) A;have:=d (n - 1) (by omega) [] u A (by simp) (a u c) (by grind)
   rwa [jY] at this
 exact key _ args t A a b (AW _)
theorem W.tail {KK:I->X->Prop} {c:CI} {k:List CI} {L:Lm} {A:X} (R:Fm->Lm->X->Prop) (b:∀F L A,R F L A->W cx KK k F L A) (a:∀k,(∀F L A,R F L A->W cx KK k F L A)->W cx KK (c::k) F L A):W cx KK (c::k) F L A:=a k b
theorem eqB {a b:Int} (h:a=b):(a != b)=false:=by simpa using h
theorem neB {a b:Int} (h:a≠b):(a != b)=true:=by simpa using h
theorem leT {p n:Nat} (h:¬p < n):decide ((n:Int)<=(p:Int))=true:=by simp;omega
theorem leF {p n:Nat} (h:p < n):decide ((n:Int)<=(p:Int))=false:=by simp;omega
theorem eqN (a:Nat) (b:Nat):((a:Int)==(b:Int))=(a==b):=by
 grind
theorem AVM (a:Nat):((a:Int)==0)=(a==0):=eqN a 0
def vb (data:List Dat) (vars left:Int):List I:=[dsA data,.d (.int .i64 vars),.d (.int .i64 left)]
def VQ (data:List Dat) (vars:Int) (i L:Nat) (t:Ty) (A:X) (v:I) (H:X):Prop:=
 ∃b L',v= .d (.bool b)/\H=A.AI i (vb data vars L')/\b=(decide (t.size<=L)&&C1 data vars t)/\(b=true->L'=((L - t.size:Nat):Int))
def VOK (data:List Dat) (vars:Int) (i L:Nat):Prop:=∀(t:Ty) (A:X),A.C i=some (vb data vars L)->AS Tzp 74 [.gp i 0,tyA t] A (VQ data vars i L t A)
theorem AHB {data:List Dat} {vars:Int} {i j L:Nat} (a:VOK data vars i L) (t:Ty) (A:X) (c:A.C i=some (vb data vars L)) (e:A.C j=some [.gp i 0]) (d:j≠i):
 AS Tzp 135 [tyA t,.gp j 0] A (fun v H=>∃b L',v= .d (.bool (!b))/\H=A.AI i (vb data vars L')/\b=(decide (t.size<=L)&&C1 data vars t)/\(b=true->L'=((L - t.size:Nat):Int))):=by
 obtain ⟨f,nm,l⟩:=t;refine Q2.go ?_;(repeat' (first|refine sR ?_|(refine AN.mk rfl (a (.mk f nm l) A c) ?_;rintro _ _ ⟨b,L',rfl,rfl,h,g⟩)|fail)<;>try simp only [e,go_sem])
 grind
theorem ALN {data:List Dat} {vars:Int} {i j L:Nat} (G:∀m,m<=L->VOK data vars i m) (l:List Ty) (A:X) (Y:L<=1000000) (K:A.C i=some (vb data vars L)) (N:A.C j=some [.gp i 0]) (s:j≠i):
 AS Tzp 73 [L9 l,.fn 135 [] [.gp j 0]] A (fun v H=>∃r L',v= .d (.int .i64 r)/\H=A.AI i (vb data vars L')/\decide (0<=r)=!(decide (Ty.AQ l<=L)&&Bt data vars l)/\(r < 0->L'=((L - Ty.AQ l:Nat):Int))):=by
 refine IS.go ?_;rw [B4,L9];(repeat' refine sQ ?_<;>simp only [CX,go_sem]);refine W.PL ?_;refine W.AVD (Ir K) ?_;refine W.SB ((fun (D:I) (a1:I) (F:I)=>fun (y:Nat×Nat)=>put 0 D (put 1 a1 (put 7 F (put 8 (A1 y.1) U)))) _ _ _) (fun _=>E) (fun y=>A.AI i (vb data vars (y.2:Int))) (fun y=>y.1<=l.length/\Bt data vars (l.take y.1)=true/\y.2+Ty.AQ (l.take y.1)=L) (fun y=>l.length - y.1) ?_ (0,L) ⟨by simp,by simp [Bt],by simp [Ty.AQ]⟩;rintro ⟨k,q⟩ ⟨P,d,B⟩ T;simp only at P d B
 have Q:k<=L:=by
  have:=TY (l.take k);simp at this;omega
 by_cases c:k < l.length
 . obtain ⟨t',u⟩:=Ak c;have R:Ty.AQ (l.take (k+1))=Ty.AQ (l.take k)+t'.size:=by rw [Aa u,Ko]
   have S:=D3 l (k+1);have x:Bt data vars (l.take (k+1))=(Bt data vars (l.take k)&&C1 data vars t'):=by rw [Aa u,fC]
   have p:=lK (data:=data) (vars:=vars) u;have a:=AHB (G q (by omega)) t' (A.AI i (vb data vars (q:Int))) (by simp only [AD,if_true]) (by simp only [AD,if_neg s,N]) s;obtain ⟨e,f,al⟩:=t';have z:=JM u;have t:=wS k;cases n:(decide ((Ty.mk e f al).size<=q)&&C1 data vars (.mk e f al)) with
   |true=>
    have g:=a.mono (Q':=fun v H=>v=D1 false/\H=A.AI i (vb data vars ((q - (Ty.mk e f al).size:Nat):Int))) (by
     rintro v H ⟨b,L',rfl,rfl,o,h⟩;rw [n] at o;subst o;rw [h rfl,C4];exact ⟨rfl,rfl⟩)
    simp only [AM,decide_eq_true_eq] at n;(repeat' (first|refine sQ ?_|(refine ⟨_,[],[_],rfl,by kernel_rfl,?_⟩)|(refine AN.mk rfl g ?_;rintro _ _ ⟨rfl,rfl⟩)|fail)<;>try simp only [BI c,z,t,go_sem]);exact T (k+1,q - (Ty.mk e f al).size) ⟨by simp only;omega,by simp only;rw [x,d,n.2];rfl,by simp only;omega⟩ (by simp only;omega)
   |false=>
    have g:=a.mono (Q':=fun v H=>v=D1 true/\∃L',H=A.AI i (vb data vars L')) (by
     rintro v H ⟨b,L',rfl,rfl,o,h⟩;rw [n] at o;subst o;exact ⟨rfl,L',by rw [C4]⟩)
    (repeat' (first|refine sR ?_|(refine ⟨_,[],[_],rfl,by kernel_rfl,?_⟩)|(refine AN.mk rfl g ?_;rintro _ _ ⟨rfl,L',rfl⟩)|fail)<;>try simp only [BI c,z,go_sem]);refine ⟨(k:Int),L',rfl,rfl,?_,fun h=>by omega⟩;have w:decide ((0:Int)<=(k:Int))=true:=by simp
    rw [w]
    have:(decide (Ty.AQ l<=L)&&Bt data vars l)=false:=by
     rcases (WE.1 n) with h|h
     . have:¬Ty.AQ l<=L:=by simp only [decide_eq_false_iff_not] at h;omega
       simp [this]
     . rw [p h];simp
    rw [this];rfl
 . (repeat' refine sR ?_<;>simp only [B5 c,go_sem]);rw [AR (by omega)] at d B;refine ⟨-1,_,rfl,rfl,?_,fun _=>?_⟩
   . have:Ty.AQ l<=L:=by omega
     simp [this,d]
   . congr 1;omega
theorem zQ {data:List Dat} {vars:Int} {i j L:Nat} (e:∀m,m<=L->VOK data vars i m) (l:List Ty) (A:X) (c:L<=1000000) (f:A.C i=some (vb data vars L)) (g:A.C j=some [.gp i 0]) (a:j≠i):
 AS Tzp 31 [L9 l,.fn 135 [] [.gp j 0]] A (fun v H=>∃L',v= .d (.bool (!(decide (Ty.AQ l<=L)&&Bt data vars l)))/\H=A.AI i (vb data vars L')/\((decide (Ty.AQ l<=L)&&Bt data vars l)=true->L'=((L - Ty.AQ l:Nat):Int))):=by
 refine Gp.go ?_;rw [B4,L9];(repeat' (first|refine sQ ?_|(refine AN.mk rfl (ALN e l A c f g a) ?_;rintro _ _ ⟨r,L',rfl,rfl,b,d⟩)|fail)<;>try simp only [go_sem]);simp only [b,go_sem];(repeat' refine sR ?_<;>simp only [go_sem])
 grind
theorem zM {A:X} {i j:Nat} {cs x:List I} (c:A.C j=none) (a:j≠i):(A.AI i cs).le ((A.AI j x).AI i cs):=
 ⟨fun q ds b=>by
   simp only [AD] at b ⊢
   grind,fun _ h=>h,rfl,fun _ _ h=>h⟩
theorem ATS (data:List Dat) (vars:Int) (i:Nat) (L:Nat):L<=1000000->VOK data vars i L:=by
 induction L using DK with
 |_ L ih=>
  intro T t A c;obtain ⟨a,nm,l⟩:=t;have R:=bU (.mk a nm l);have N:(Ty.mk a nm l).size=1+Ty.AQ l:=rfl;refine TM.go ?_;rw [B4];unfold vb dsA at c;(repeat' refine sQ ?_<;>simp only [go_sem]);intro j u;have o:j≠i:=fun e=>by grind
  have q:(i=j)=False:=by grind
  have f:(j=i)=False:=by grind
  cases L with
  |zero=>
   have P:IntKind.i64.wrap (((0:Nat):Int) - 1)=-1:=by decide
   have B:decide ((-1:Int) < 0)=true:=by decide
   (repeat' (first|refine sQ ?_|(refine W.By Cg (zM u o) ?_)|fail)<;>try simp only [c,q,f,P,B,go_sem]);refine ⟨false,-1,rfl,rfl,?_,fun h=>by cases h⟩
   grind
  |succ L=>
  have P:=bW (show L<=9000000000000000000 by omega);have B:decide ((L:Int) < 0)=false:=by simp
  have Z:∀m,m<=L->VOK data vars i m:=fun m hm=>ih m (by omega) (by omega);have g:=zQ Z l ((A.AI j [.gp i 0]).AI i (vb data vars (L:Int))) (j:=j) (by omega) (by simp only [AD,if_true]) (by simp only [AD,f,if_false,if_true]) o;simp only [C4] at g
  have r:∀L':Int,DS data vars a nm l.length=false->VQ data vars i (L+1) (.mk a nm l) A (D1 false) (A.AI i (vb data vars L')):=fun L' h=>
   ⟨false,L',rfl,rfl,by simp [C1,h],fun h=>by cases h⟩
  have x:∀(b:Bool) (L':Int),DS data vars a nm l.length=true->b=(decide (Ty.AQ l<=L)&&Bt data vars l)->(b=true->L'=((L - Ty.AQ l:Nat):Int))->VQ data vars i (L+1) (.mk a nm l) A (D1 b) (A.AI i (vb data vars L')):=fun b L' h hb w=>by
   refine ⟨b,L',rfl,rfl,?_,fun h0=>?_⟩
   . rw [hb,C1,h,Fe,N]
     grind
   grind
  unfold vb dsA at g;(repeat' first|refine W.cb rfl ?_|((first|refine rgQ mxQ ?_|refine cdQ ?_)<;>try simp only [c,q,f,P,B,go_sem])|fail);refine W.tail (fun F Q05 V=>∃s c:Int,DS data vars a nm l.length=(decide (a=4\/a=5\/nm=0)&&decide (s<=(l.length:Int))&&decide ((l.length:Int)<=c))/\Ee [2,3,5,6] F=put 2 (.gp j 0) (put 3 (.lp 3 0) (put 5 (A1 s) (put 6 (A1 c) U)))/\GK [2,3,5,6] Q05=CN 3 [A1 a,A1 nm,BU (Ty.Cz l)] E/\V=(A.AI j [.gp i 0]).AI i (vb data vars (L:Int))) ?_ ?_
  . rintro F Q05 V ⟨s,h1,hs,S,Y,rfl⟩;refine W.Zh [2,3,5,6] ?_;rw [S,Y];unfold vb dsA;(repeat' first|refine ctQ rfl ?_|(refine RA (by first|exact GV.t|exact GV.f|exact GV.st|exact GV.sf) ⟨?_,fun h=>?_,?_⟩;rotate_left;(focus ((try simp only [AM] at h);simp only [go_sem];first|exact Is.mk|exact Is.pv (by simp only [h,WY,CX,go_sem];rfl)));(try simp only [↓Vq,↓lD,go_sem]))|((first|refine rgQ mxQ ?_|refine cdQ ?_|(refine AN.mk rfl g ?_;rintro _ _ ⟨L',rfl,rfl,w⟩)|(refine W.By Cg (zM u o) ?_))<;>try simp only [CX,go_sem])|(refine ⟨fun h=>?_,fun h=>?_⟩<;>first|(cases h;done)|try simp only [h])|fail)
    . refine r _ ?_
      grind
    . refine r _ ?_
      grind
    . refine x _ L' ?_ rfl w
      grind
  . intro k z;by_cases v:1<=a/\a<=9
    . have v:a=4\/a=5\/a=1\/a=2\/a=3\/a=6\/a=7\/a=8\/a=9:=by omega
      rcases v with rfl|rfl|v
      . (repeat' first|refine ctQ rfl ?_|(refine RA (by first|exact GV.t|exact GV.f|exact GV.st|exact GV.sf) ⟨?_,fun h=>?_,?_⟩;rotate_left;(focus ((try simp only [AM,OS] at h);simp only [f,go_sem];first|exact Is.mk|exact Is.pv (by simp only [h,WY,c,q,go_sem];rfl)));(try simp only [↓lD,go_sem]))|((first|refine rgQ mxQ ?_|refine cdQ ?_|(refine W.By Cg (zM u o) ?_))<;>try simp only [Ad,go_sem])|(refine ⟨fun h=>?_,fun h=>?_⟩<;>first|(cases h;done)|try simp only [h])|fail)
        . refine r _ ?_;simp only [EH,decide_eq_true_eq] at h
          grind [DS]
        . simp only [XJ,decide_eq_false_iff_not] at h;refine z _ _ _ ⟨0,0,?_,by simp only [go_sem],by simp only [go_sem],rfl⟩;rw [C2];simp [DS];omega
      . by_cases G:nm < 0
        . (repeat' (first|refine sQ ?_|(refine W.By Cg (zM u o) ?_)|fail)<;>try simp only [Ad,decide_eq_true G,go_sem]);exact r _ (by grind [DS])
        obtain ⟨p,rfl⟩:∃p:Nat,nm=p:=⟨nm.toNat,by omega⟩;by_cases K:p < data.length
        . obtain ⟨d,Q⟩:=Ak K;have D:=NX Q;(repeat' (first|refine sQ ?_|refine ctQ rfl ?_|fail)<;>try simp only [c,q,f,Ad,decide_eq_false G,AA,leF K,D,go_sem]);refine z _ _ _ ⟨d.vars,d.vars,?_,by simp only [go_sem],by simp only [go_sem],rfl⟩;rw [C2];simp [DS,Q];omega
        . (repeat' (first|refine sQ ?_|(refine W.By Cg (zM u o) ?_)|fail)<;>try simp only [c,q,f,Ad,decide_eq_false G,AA,leT K,go_sem]);have:data[p]?=none:=FO (by omega);exact r _ (by simp [DS,this])
      . have y:∀(s c:Int) F Q05 V,Ee [2,3,5,6] F=put 2 (.gp j 0) (put 3 (.lp 3 0) (put 5 (A1 s) (put 6 (A1 c) U)))->GK [2,3,5,6] Q05=CN 3 [A1 a,A1 nm,BU (Ty.Cz l)] E->V=(A.AI j [.gp i 0]).AI i (vb data vars (L:Int))->(a=1\/a=2\/a=3->s=0/\c=0)->(a=6->s=2/\c=6)->(a=7\/a=8->s=1/\c=1)->(a=9->s=1/\c=7)->W EZ (VQ data vars i (L+1) (.mk a nm l) A) k F Q05 V:=fun s c F Q05 V p1 p2 p3 q1 q2 q3 q4=>by
         refine z _ _ _ ⟨s,c,?_,p1,p2,p3⟩;rw [C2];generalize l.length=n;rcases v with rfl|rfl|rfl|rfl|rfl|rfl|rfl<;>simp [DS] at q1 q2 q3 q4 ⊢<;>omega
        rcases v with rfl|rfl|rfl|rfl|rfl|rfl|rfl
        all_goals
         (repeat' (first|refine sQ ?_|refine ctQ rfl ?_|fail)<;>try simp only [Ad,go_sem])
         first
          |exact y 0 0 _ _ _ (by simp only [go_sem]) (by simp only [go_sem]) rfl (by decide) (by decide) (by decide) (by decide)
          |exact y 1 1 _ _ _ (by simp only [go_sem]) (by simp only [go_sem]) rfl (by decide) (by decide) (by decide) (by decide)
          |exact y 2 6 _ _ _ (by simp only [go_sem]) (by simp only [go_sem]) rfl (by decide) (by decide) (by decide) (by decide)
          |exact y 1 7 _ _ _ (by simp only [go_sem]) (by simp only [go_sem]) rfl (by decide) (by decide) (by decide) (by decide)
    . (repeat' (first|refine sQ ?_|(refine W.By Cg (zM u o) ?_)|fail)<;>try simp only [Fb (show a≠1 by omega),Fb (show a≠2 by omega),Fb (show a≠3 by omega),Fb (show a≠4 by omega),Fb (show a≠5 by omega),Fb (show a≠6 by omega),Fb (show a≠7 by omega),Fb (show a≠8 by omega),Fb (show a≠9 by omega),go_sem]);refine r _ ?_;unfold DS
      grind
theorem W4 (data:List Dat) (t:Ty) (vars:Int) (A:X):AS Tzp 33 [dsA data,tyA t,.d (.int .i64 vars)] A (fun v H=>v= .d (.bool (decide (t.size<=200)&&C1 data vars t))/\H=A):=by
 obtain ⟨e,nm,l⟩:=t;refine rP.go ?_;rw [DN,dsA];(repeat' refine sQ ?_<;>simp only [go_sem]);intro j d;have a:=ATS data vars j 200 (by omega) (.mk e nm l) (A.AI j (vb data vars (200:Nat))) (by simp only [AD,if_true]);(repeat' (first|refine sQ ?_|(refine AN.mk rfl a ?_;rintro _ _ ⟨b,L',rfl,rfl,c,_⟩)|(refine W.By qR (σ2:=A) (B6 (X.le_refl _) d) ?_)|fail)<;>try simp only [go_sem]);rw [c]
theorem AWH:∀(l:List M) (s:M) (A:X),AS Tzp 77 [.d (bdD l),.d (.str s)] A (fun v H=>v= .d (.bool (l.contains s))/\H=A):=by
 intro l s A;refine Ua.go ?_;(repeat' refine wQ ?_<;>simp only [go_sem]);refine W.PL ?_
 have c:∀a:List M,a.contains s=l.contains s->W Ec (dtV (D1 (l.contains s)) A) [.again I8,.C 0,.code (.seq (.reg [⟨some 4,.mv (.c (D1 false)),none⟩] [4]) .ret)] (put 0 (.d (bdD a)) (put 1 (Gb s) U)) E A:=by
  intro a
  induction a with
  |nil=>
   intro h;refine W.again ?_;simp only [bdD];(repeat' refine wP ?_<;>simp only [go_sem]);rw [<- h];rfl
  |cons x a d=>
   intro h;refine W.again ?_;simp only [bdD];rw [RH] at h;cases b:(x==s) with
   |true=>
    (repeat' refine wP ?_<;>simp only [CZ,b,go_sem])
    grind
   |false=>
    rw [show (s==x)=(x==s) from BEq.comm,b,MP] at h;(repeat' refine wQ ?_<;>simp only [CZ,b,go_sem]);exact d h
 exact c l rfl
theorem eY (sc ns:List M) (A:X):AS Tzp 37 [.d (bdL sc),.d (.sl (ns.map CG))] A (fun v H=>v= .d (bdL (sc++ns))/\H=A):=by
 refine TB.go ?_;rw [B4];refine W.slot 1 (fun e=>?_);simp only [DR,HW,if_false,if_true,I.Ep,AA] at e;(repeat' refine wQ ?_<;>simp only [AA,go_sem]);refine W.PL ?_;refine W.SB ((fun (j:I) (k:I)=>fun (i:Nat)=>put 0 (.d (bdL (sc++ns.take i))) (put 7 j (put 8 k (put 9 (A1 i) U)))) _ _) (fun _=>E) (fun _=>A) (fun i=>i<=ns.length) (fun i=>ns.length - i) ?_ 0 (by simp)|>(fun h=>by simpa using h)
 rintro i m l;by_cases b:i < ns.length
 . obtain ⟨x,g⟩:=Ak b;have f:=Au (J:=CG) g;simp only [CG] at f;have c:IntKind.i64.wrap ((i:Int)+1)=((i+1:Nat):Int):=by grind [B2]
   have a:=l (i+1) (by omega) (by omega);simp only at a;rw [Aa g,<- Ax] at a;cases d:(x==[]) with
   |true=>
    rw [oU _ _ d] at a;(repeat' refine wQ ?_<;>simp only [BI b,f,c,ON,d,go_sem]);exact a
   |false=>
    rw [ACX _ _ d] at a;(repeat' refine wQ ?_<;>simp only [BI b,f,c,ON,d,go_sem]);exact a
 . (repeat' refine wP ?_<;>simp only [B5 b,go_sem])
   grind
theorem AJI (f:FE) (o u:Int) (s:M) (ns:List M) (ks al:DV) (j:Nat) (A:X) (a:A.C j=some [.d (.int .i64 o),.d (.str s),.d (.int .i64 u),.d (.sl (ns.map CG)),.d ks,.d al]):AS Tzp 79 [feA f,.gp j 0] A (fun v H=>v= .d (.bool (f.name==s))/\H=A):=by
 refine TA.go ?_;rw [B4];obtain ⟨nm,b,o,n,u,ns,ks,al⟩:=f;simp only [FE.J,Ex.A6,feA,AB,AJ];(repeat' refine wP ?_<;>simp only [a,CZ,go_sem])
end Go.Ab
