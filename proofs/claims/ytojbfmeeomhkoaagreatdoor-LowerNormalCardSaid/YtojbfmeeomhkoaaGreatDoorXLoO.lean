/- Part LoO. Conditions: none. -/
import Derived.Shelf.Strings.OnBuilder
import Derived.Test.YtojbfmeeomhkoaaGreatDoorCards
import Derived.Test.YtojbfmeeomhkoaaGreatDoorTie
import Derived.LaidMore
import Derived.OpenShut
import Derived.Stop.Joined
import Derived.Test.YtojbfmeeomhkoaaGreatDoorXSp7
set_option linter.unusedSimpArgs false
set_option linter.unusedVariables false
set_option maxRecDepth 100000
set_option maxHeartbeats 40000000
set_option linter.defProp false
open Go.Proofs.Tryz renaming prog→Tzp
open List renaming mem_of_getElem?→AE,getElem?_eq_some_iff→AG,map_cons→AB,map_nil→AJ,range→Aj,replicate→AH,length_replicate→MR,length_map→AA,mem_map→BR,append_nil→Aw,ne_nil_of_length_pos→BC,mem_singleton→A9,length_append→A0,length_singleton→Ci,cons_append→AU,nil_append→A3,range_succ→Cq,mem_iff_getElem?→Hn,getElem?_map→Az,length_nil→A8,take_zero→CD,mem_cons_self→AY,all_cons→BK,all_nil→Cl,map_append→A4,take_length→Ar,length_cons→AT,getElem?_cons_zero→A7,getElem?_cons_succ→Bz,mem_cons→Ah,mem_map_of_mem→CU,all_eq_true→Ao,flatten_cons→BO,take_append_drop→Am,length_take→Bs,pairwise_cons→BZ,getElem?_modify→I5,ext_getElem?→Dw,take_of_length_le→AR,take→Ew,drop→E1,drop_drop→Fx,mem_range→Cr,getElem?_append_right→BY,getElem?_eq_getElem→An,eq_nil_of_length_eq_zero→Ay,mem_cons_of_mem→AZ,length_pos_iff→Ds
open Ne renaming symm→A5
open And renaming intro→DF
open Nat renaming zero_le→D7,le_refl→AW,add_zero→CC,zero_add→Av,le_trans→Ai,mul_one→Ag,strongRecOn→DK,mul_le_mul→Tm
open Bool renaming and_eq_true→AM,and_self→XF,not_not→OS,eq_iff_iff→C2
open Option.some renaming injEq→AP,inj→RE
open List.cons renaming injEq→FJ
open Int renaming reduceLE→DU,reduceToNat→Bb,natCast_nonneg→F8,toNat_natCast→BX,reduceBEq→Ad
open Prod.mk renaming injEq→B3
open Option renaming map_eq_some_iff→AO,map_some→Ap
namespace Go.Ab
variable {D:Dat} {a c i jb je jk jl jn js jt:Nat} {al:List Al} {b:Bd} {ch:Ch} {cons:List Con} {dt:List Dat} {ev ja nv vv:I} {fe:FE} {j:Jb} {ks:List Ex} {l:List Ed} {nm:M} {ns sc:List M} {nt:List Nte} {o u:Int} {p:Pg} {pl:List Nat} {us:List Ty} {x:Ed}
section
open Go.Proofs
variable {B:LB} {O A V Φ Ψ Φ':X} {S:LSt}
structure MtC (O:X) (B:LB) (t:Ty) (cons:List Con) (e:Ex) (ch:Ch) (d:Nat) (us:List Ty) (pl:List Nat) (jl jt jn je jb js jk:Nat):Prop where
 l:O.C jl=some [.gp B.i 0]
 t:O.C jt=some (t.J.map I.d)
 n:O.C jn=some [.d (.sl (cons.map Con.J))]
 e:O.C je=some (e.J.map I.d)
 b:O.C jb=some [.d (chD ch)]
 s:O.C js=some ((Ty.mk 5 (d:Int) us).J.map I.d)
 k:O.C jk=some [.d (.sl (pl.map Ba))]
theorem ARX {K:I->X->Prop} {kk:List CI} {t:Ty} {d:Nat} {jA jI jB:Nat} {v0 v10:I} {nv:Nat} {x:XE}
 (b:MtC O B t cons (.mk o nm u ns ks al) ch d us pl jl jt jn je jb js jk) (hD:B.dt[d]?=some D) (hx:D.cons=cons) (huv:(us.length:Int)=D.vars) (hd:(Ty.mk 5 (d:Int) us).size<=200) (vs:∀k∈cons,k.args.length<=6/\Ty.AQ k.args<=100000) (hK:AK al cons) (hn8:cons.length<=8) (hal:al.length<=1000000) (ho:Ho nv ch) (hnv:nv<=S.vars.length) (hsz:S.sz<=50000000)
 (z:O.C jA=none) (G:O.C jI=none) (hv:O.C jB=none) (F:jA≠jI) (h1:jA≠jB) (h4:jI≠jB)
 {cks:List Ch} {wb:List (I×List Int)} {T:LSt} (h0:MtI B O S x al cons ch jA jI jB c cks wb Φ' A T) (h8:c<=cons.length)
 (hk:∀cks wb Φ' V T,MtI B O S x al cons ch jA jI jB cons.length cks wb Φ' V T->W C5 K kk (put 0 v0 (put 1 (.gp jl 0) (put 3 (.gp jn 0) (put 4 (.gp je 0) (put 5 (.gp jb 0) (put 6 (.gp js 0) (put 7 (.gp jk 0) (put 10 v10 (put 11 (.ms jA cons.length 1 3) (put 12 (.ms jI cons.length 1 120) (put 13 (.ms jB cons.length 1 39) (put 34 (.d (.int .i64 (cons.length:Int))) (put 35 (.d (.int .i64 (cons.length:Int))) (put 36 (.d (.bool false)) U)))))))))))))) E V):
 W C5 K (.again Ey::.C 0::kk) (put 0 v0 (put 1 (.gp jl 0) (put 3 (.gp jn 0) (put 4 (.gp je 0) (put 5 (.gp jb 0) (put 6 (.gp js 0) (put 7 (.gp jk 0) (put 10 v10 (put 11 (.ms jA cons.length 1 3) (put 12 (.ms jI cons.length 1 120) (put 13 (.ms jB cons.length 1 39) (put 34 (.d (.int .i64 (cons.length:Int))) (put 35 (.d (.int .i64 (c:Int))) U))))))))))))) E A:=by
 refine W.SB ((fun (a0:I) (a1:I) (P:I) (a4:I) (a5:I) (a6:I) (a7:I) (hm:I) (hn:I) (hp:I) (hq:I) (hs:I)=>fun (y:Nat×List Ch×List (I×List Int)×X×X×LSt)=>put 0 a0 (put 1 a1 (put 3 P (put 4 a4 (put 5 a5 (put 6 a6 (put 7 a7 (put 10 hm (put 11 hn (put 12 hp (put 13 hq (put 34 hs (put 35 (A1 (y.1:Nat)) U))))))))))))) _ _ _ _ _ _ _ _ _ _ _ _) (fun _=>E) (fun y=>y.2.2.2.2.1) (fun y=>y.1<=cons.length/\MtI B O S x al cons ch jA jI jB y.1 y.2.1 y.2.2.1 y.2.2.2.1 y.2.2.2.2.1 y.2.2.2.2.2) (fun y=>cons.length - y.1) ?_ (c,cks,wb,Φ',A,T) ⟨h8,h0⟩;clear h0 h8;rintro ⟨c,cks,wb,Φ',V,T⟩ ⟨hc,hM⟩ ih;simp only at hc hM;by_cases f:c < cons.length
 . obtain ⟨k,p⟩:=Ak f;obtain ⟨a,fs,Q,L⟩:=hK.at_ c k p;obtain ⟨hka,hks⟩:=vs k (AE p);obtain ⟨hf,h7,hA,hI,h2,N,ds,he,hwi⟩:=hM;rw [ASR f] at hA hI h2;have hb:=Au (J:=Con.J) p;have q:=ltT f;have hw1:=wS c;have R:=Au (J:=Al.J) Q;have h5:=ltT (AG.1 Q).1;(repeat' refine wQ ?_<;>simp only [BI f,go_sem]);intro jc hjc;obtain ⟨Φ1,f1,v1,w1,k1⟩:=hf.wN (j:=jc) (x:=(1,3)) hjc [.d (.int .i64 0)] [.d (.int .i64 (c:Int))];obtain ⟨a1,a2,_⟩:=k1 _ _ hA;obtain ⟨i1,i2,_⟩:=k1 _ _ hI;obtain ⟨b1,b2,_⟩:=k1 _ _ h2;obtain ⟨_,e2,_⟩:=k1 _ _ (hf.le.C _ _ b.e);clear k1;have q2:=hf.h.le.C _ _ (hf.le.C _ _ b.e);have q4:=hf.h.le.C _ _ hA;simp only [Ex.A6,AB,AJ] at q2;simp only [BE,AD,if_true,e2,q2,go_sem];generalize hτ1:((V.AI jc [I.d (.int .i64 0)]).BM jc (1,3)).AI jc [A1 c]=Z at f1 ⊢;have r1:=f1.h.le.C _ _ v1;have r3:=f1.h.le.C _ _ (f1.le.C _ _ b.n);have r4:=f1.h.le.C _ _ a1;have h9:=fJ (fid:=109) (Ae:=[.gp jn 0,.gp jc 0]) (by kernel_rfl) rfl (fun x=>x.con==k.name) al Z (fun y _=>AUF y cons c p jn jc Z r3 r1);rw [fs,Hq] at h9;have lA:∀v,(c * 1+1<=(((Aj c).map fun i=>I.d (.int .i64 ((aiC al cons i:Nat):Int)))++v::AH (cons.length - (c+1)) (I.d (.int .i64 0))).length)=True:=fun v=>by simp
   have wA:=fun v v'=>ABC (Q00:=(Aj c).map fun i=>I.d (.int .i64 ((aiC al cons i:Nat):Int))) (Q01:=AH (cons.length - (c+1)) (I.d (.int .i64 0))) (v:=v) (w:=v') (c:=c) (by simp);have eA:=fun v=>AIF (Q00:=(Aj c).map fun i=>I.d (.int .i64 ((aiC al cons i:Nat):Int))) (Q01:=AH (cons.length - (c+1)) (I.d (.int .i64 0))) (v:=v) (c:=c) (by simp);have lI:∀v,(c * 1+1<=((cks.map fun k=>I.d (chD k))++v::AH (cons.length - (c+1)) I.Dt).length)=True:=fun v=>by simp [N]
   have wI:=fun v v'=>ABC (Q00:=cks.map fun k=>I.d (chD k)) (Q01:=AH (cons.length - (c+1)) I.Dt) (v:=v) (w:=v') (c:=c) (by simp [N]);obtain ⟨Φ2,f2,v2,k2⟩:=f1.wr (j:=jA) a1 z (((Aj c).map fun i=>I.d (.int .i64 ((aiC al cons i:Nat):Int)))++I.d (.int .i64 ((aiC al cons c:Nat):Int))::AH (cons.length - (c+1)) (.d (.int .i64 0)));obtain ⟨hl,f3,v3,k3⟩:=f2.wr (j:=jI) ((k2 jI (A5 F)).trans i1) G ((cks.map fun k=>I.d (chD k))++I.d (chD ch)::AH (cons.length - (c+1)) .Dt);have c3:=(k3 jc (A5 i2)).trans ((k2 jc (A5 a2)).trans v1);have P:=(k3 jA F).trans v2;have b3:=(k3 jB (A5 h4)).trans ((k2 jB (A5 h1)).trans b1);obtain ⟨cv1,vv1,ev1,ja1,nv1,Y⟩:=id f1.h;have r5:=f1.h.le.C _ _ (f1.le.C _ _ b.b);have r6:=f1.h.le.C _ _ i1;have r7:=f1.h.le.C _ _ (f1.le.C _ _ b.l);have r8:=Y.bi;have r9:=f1.h.le.C _ _ (f1.le.C _ _ b.s);have n1:=Mc b.b z;have n2:=Mc b.l z;have n3:=Mc b.s z;have n4:=Mc b.l G;have n5:=Mc b.s G;have n6:=A5 (Mc a1 Y.i0);have n7:=A5 (Mc i1 Y.i0);have n8:=A5 F;have n9:=A5 a2;have hi:=A5 i2;unfold lgC at r8;simp only [Ty.J,AB,AJ] at r9
   repeat' (with_reducible refine DF ?_ ?_)
   all_goals
    refine AN.det h9 ?_;simp only [r1,r4,r5,r6,r7,r8,r9,n1,n2,n3,n4,n5,n6,n7,n8,n9,hi,q,lA,wA,lI,wI,AD,if_true,go_sem];generalize hτ3:(Z.AI jA _).AI jI _=τ3 at f3 ⊢;have h3:=ALL B.dt (d:Int) us c (by omega) (by simpa using hD) huv (by rw [hx];exact p) hd hka hks τ3;simp only [tyA,Ty.J,AB,AJ] at h3;refine AN.mk rfl h3 ?_;rintro _ _ ⟨rfl,l,ok,rfl,hok⟩;obtain ⟨cvF,vvF,evF,jaF,nvF,h6,sc⟩:=f3.h.fail;have t1:=f3.h.le.C _ _ (f3.le.C _ _ b.l);have t4:=f3.h.le.C _ _ c3;have t5:=f3.h.le.C _ _ (f3.le.C _ _ b.e);have t6:=f3.h.le.C _ _ P;have t7:=f3.h.le.C _ _ (f3.le.C _ _ b.n);obtain ⟨cv3,vv3,ev3,ja3,nv3,h⟩:=id f3.h;have m1:=Mc (f3.le.C _ _ b.l) h.i0;have m4:=Mc c3 h.i0;have m5:=Mc (f3.le.C _ _ b.e) h.i0;have m6:=Mc P h.i0;have m7:=Mc (f3.le.C _ _ b.n) h.i0;simp only [Ex.A6,AB,AJ] at t5;obtain ⟨ac,ht,ao,an,au,ans,aks,aal⟩:=a;simp only [Al.A6] at R;simp only [Con.J] at hb;cases ok
    case' false=>
     have f4:FrL B O hl _ _:=⟨f3.le,sc⟩;have g:=h7.fail;have hz:(AH k.args.length zTy).length=k.args.length:=MR;have hg:∀u∈AH k.args.length zTy,u.size<=200:=fun u hu=>by rw [List.eq_of_mem_replicate hu];decide
     unfold lgC at h6 f4;simp only [go_sem];(repeat' refine wQ ?_<;>simp only [t1,t4,t7,h6,m4,m7,hb,AD,if_true,CX,go_sem]);refine K8.mk k.args.length (by omega) (by omega) (fun jz m=>?_);generalize hτ4:X.AI _ B.i _=τ4 at f4 m ⊢;have p4:=f4.h.le.C _ _ c3;have p5:=f4.h.le.C _ _ (f4.le.C _ _ b.e);have p6:=f4.h.le.C _ _ P;have z4:=(f4.ne c3 m).1;have z5:=(f4.ne (f4.le.C _ _ b.e) m).1;have z6:=(f4.ne P m).1;simp only [Ex.A6,AB,AJ] at p5;simp only [go_sem];(repeat' refine wQ ?_<;>simp only [p4,p5,p6,z4,z5,z6,q,eA,R,AD,if_true,AA,go_sem]);refine W.AbG (j:=jz) (n:=k.args.length) (s:=3) (e:=42) (rows:=Ty.Cz (AH k.args.length zTy)) BB (ADP _) (fun r hr=>by rw [Ty.BQ] at hr;obtain ⟨y,hy,rfl⟩:=BR.1 hr;rw [List.eq_of_mem_replicate hy];rfl) (by simp) (by rw [Ty.BQ,AA,hz]) (by omega) (FzT.refl _ _ _|>.skip 82 _|>.skip 81 _|>.skip 80 _|>.skip 35 _|>.skip 34 _|>.here 15|>.skip 14 _|>.skip 13 _|>.skip 12 _|>.skip 11 _|>.skip 10 _|>.skip 7 _|>.skip 6 _|>.skip 5 _|>.skip 4 _|>.skip 3 _|>.skip 1 _|>.skip 0 _) ?_;rw [AUU m];generalize AH k.args.length zTy=l at hz hg ⊢;have hll:=hz;have ha:=hg
    case' true=>
     obtain ⟨hll,ha⟩:=hok rfl;have f4:=f3;have g:=h7;simp only [go_sem];(repeat' refine wQ ?_<;>simp only [t4,t5,t6,q,eA,R,AA,go_sem])
    all_goals
     refine W.PL ?_;refine ARW (fl:=l) (ns:=ht) (ch:=ch) (Φb:=hl) (w:= .Ac) (ck:=ch) b.l (by simp only [Al.vars] at L;omega) ha (by simp only [Al.vars] at L;omega) (by simp [N]) (by simp [he]) (by simp;omega) (by simp;omega) h4 F h1 hi (A5 b2) G hv (by have:=g.le.bd;omega) ⟨f4.le,.inl ⟨rfl,rfl,rfl⟩,f4.h.AX1 l,⟨[],rfl,rfl⟩,ho.mono (by have:=g.le.vl;omega),P,v3,b3,c3⟩ (fun w ck Φb hj τ5 hP=>?_);(repeat' refine wQ ?_<;>simp only [hw1,go_sem]);exact ih (c+1,cks++[ck],wb++[(w,_)],hj,τ5,_) ⟨f,MtI.snoc g f Q (by simp only [Al.vars] at L ⊢;omega) (by simp only [Al.vars] at L ⊢;omega) N he ds hwi hP⟩ (by simp only;omega)
 . have cs:c=cons.length:=by omega
   subst cs;clear ih;(repeat' refine wQ ?_<;>simp only [B5 f,go_sem]);exact hk _ _ _ _ _ hM
end
section
open Go.Proofs
variable {B:LB} {O A V Φ Ψ Φ':X} {S:LSt}
theorem AYI (a b c d e f g h:I):Px [a,b,c,d,e,f,g,h]=put 0 a (put 1 b (put 2 c (put 3 d (put 4 e (put 5 f (put 6 g (put 7 h U))))))):=by
 funext n;rcases n with _|_|_|_|_|_|_|_|n<;>simp [Px,put,U]
theorem MtC.mono {t:Ty} {e:Ex} {d:Nat} (h:MtC O B t cons e ch d us pl jl jt jn je jb js jk) (a:O.le Φ):MtC Φ B t cons e ch d us pl jl jt jn je jb js jk:=
 ⟨a.C _ _ h.l,a.C _ _ h.t,a.C _ _ h.n,a.C _ _ h.e,a.C _ _ h.b,a.C _ _ h.s,a.C _ _ h.k⟩
theorem AMM {t:Ty} {d:Nat} {nv n:Nat} 
 (E:MtC O B t cons (.mk o nm u ns ks al) ch d us (plA a ks al) jl jt jn je jb js jk) (ht:t.size<=200) (hD:B.dt[d]?=some D) (cs:D.cons=cons) (huv:(us.length:Int)=D.vars) (hm:(Ty.mk 5 (d:Int) us).size<=200) (hdz:∀k∈cons,k.args.length<=6/\Ty.AQ k.args<=100000) (hK:AK al cons) (hn8:cons.length<=8) (hn1:1<=cons.length) (hal:al.length<=1000000) (ho:Ho nv ch)
 (hE:∀b∈al,N7 B b.body) (hf:∀(i:Nat) (b:Al),al[i]?=some b->BF B nt (a+1+Ex.AQ ks+Al.AQ (al.take i)) b.body (sc++b.vars)) (hcov:∀b∈al,∀l,l.map (·.1)=b.vars->Cov b.body (sc++b.vars) (GR ch l)) (hcz:49+100 * Al.AQ al<=c):
 AGR B O nt nv n c 107 [.gp jl 0,.gp jt 0,.gp jn 0,.gp je 0,.gp jb 0,.gp js 0,.gp jk 0]:=by
 intro Φ S A vs hle hL hnt hnv ⟨_,hvsl⟩ hvs hsz;have ha:=Fu (B:=B) 10 0 t ht (by omega) hL;have E:=E.mono hle;have t1:=hL.le.C _ _ E.l;have t2:=hL.le.C _ _ E.t;refine Su.go ?_;rw [AYI];obtain ⟨tk,tn,ts⟩:=t;simp only [tyA,Ty.J,AB,AJ] at ha t2;(repeat' refine wQ ?_<;>simp only [t1,t2,go_sem]);refine AN.mk rfl ha ?_;rintro _ V ⟨rfl,h4⟩;have K:=h4.le.C _ _ E.n;have f0:FrL B Φ Φ V _:=⟨X.le_refl _,h4⟩;simp only [K,AA,go_sem];(repeat' refine wQ ?_<;>simp only [K,AA,go_sem]);refine K8.mk cons.length (by omega) (by omega) (fun jA hjA=>?_);obtain ⟨Φ1,f1,v1,wA,k1⟩:=f0.new hjA (AH cons.length [I.d (.int .i64 0)]).flatten;generalize hs:V.AI jA _=τ1 at f1 ⊢;have K:=f1.h.le.C _ _ (f1.le.C _ _ E.n);simp only [K,AA,go_sem];(repeat' refine wQ ?_<;>simp only [K,AA,go_sem]);refine K8.mk cons.length (by omega) (by omega) (fun jI hjI=>?_);obtain ⟨Φ2,f2,v2,wI,k2⟩:=f1.new hjI (AH cons.length [I.Dt]).flatten;generalize hx:τ1.AI jI _=τ2 at f2 ⊢;have K:=f2.h.le.C _ _ (f2.le.C _ _ E.n);simp only [K,AA,go_sem];(repeat' refine wQ ?_<;>simp only [K,AA,go_sem]);refine K8.mk cons.length (by omega) (by omega) (fun jB hjB=>?_);obtain ⟨Φ3,f3,v3,wB,k3⟩:=f2.new hjB (AH cons.length [I.Ac]).flatten
 generalize hy:τ2.AI jB _=τ3 at f3 ⊢;have K:=f3.h.le.C _ _ (f3.le.C _ _ E.n);obtain ⟨v1,m1,_⟩:=k2 _ _ v1;obtain ⟨v1,m2,_⟩:=k3 _ _ v1;obtain ⟨v2,m3,_⟩:=k3 _ _ v2;clear k1 k2 k3;simp only [K,AA,go_sem];(repeat' refine wQ ?_<;>simp only [K,AA,go_sem]);have hfl:∀(m:Nat) (z:I),(AH m [z]).flatten=AH m z:=fun m z=>by simp
 rw [hfl] at v1 v2 v3;refine W.PL ?_;refine ARX (nv:=nv) (x:=D4 10 0 (.mk tk tn ts)) E hD cs huv hm hdz hK hn8 hal ho hnv (by omega) wA wI wB m1 m2 m3 (cks:=[]) (wb:=[]) ⟨f3,Br.new.up (by omega),by simpa using v1,by simpa using v2,by simpa using v3,rfl,fun i k h=>by simp at h,rfl,fun q h=>by cases h⟩ (D7 _) (fun cks wb Φ' τ4 T hM=>?_);clear f0 f1 f2 f3 v1 v2 v3 hs hx hy K;obtain ⟨R,h0,hA,hI,Q,hcl,hci,h2,hwi⟩:=hM;rw [Nat.sub_self,List.replicate_zero,Aw] at hA hI Q;refine W.AbG (j:=jB) (n:=cons.length) (s:=1) (e:=39) (rows:=wb.map fun q=>zW q.2) (R.h.le.C _ _ Q) (ADO hwi) (fun r hr=>by obtain ⟨q,_,rfl⟩:=BR.1 hr;rfl) (by simp [h2]) (by simp [h2]) (by omega) (FzT.refl _ _ _|>.skip 36 _|>.skip 35 _|>.skip 34 _|>.here 13|>.skip 12 _|>.skip 11 _|>.skip 10 _|>.skip 7 _|>.skip 6 _|>.skip 5 _|>.skip 4 _|>.skip 3 _|>.skip 1 _|>.skip 0 _) ?_;have Y:=R.h.del (j:=jB) (by rw [Q];simp);have g:=nR R.le wB;have hA:(Φ'.CM jB).C jA=_:=(B9 _ _ _).trans ((if_neg m2).trans hA);have hI:(Φ'.CM jB).C jI=_:=(B9 _ _ _).trans ((if_neg m3).trans hI);generalize Φ'.CM jB=Ψ at Y g hA hI;generalize τ4.CM jB=τ5 at Y ⊢;clear R Q;obtain ⟨cv1,vv1,ev1,ja1,nv1,U⟩:=Y
 obtain ⟨jx,rfl,p2,p3,p4,p5,hg2,hji,hq⟩:=U.Ia (o:=2) (v:= .d (.sl (vs.map Ez))) (f:=Hk vs (.d (.sl (vs.map Ez)))) h0.atx (by omega) rfl rfl ⟨DG.d _,DG.Ac⟩;have N:=h0.mod (Hk vs (BU (vs.map Ez))) rfl;have Z:(wb.map (·.2)).map zW=wb.map fun q=>zW q.2:=by simp_all
 obtain ⟨jy,hjy,_,_,q4,q5,F,_,_⟩:=hg2.Ia (o:=3) (v:= .d (.sl (wb.map fun q=>zW q.2))) (f:=L8 (wb.map (·.2)) (.d (.sl (wb.map fun q=>zW q.2)))) N.atx (by omega) rfl rfl ⟨DG.d _,by simp only [L8,Z];exact DG.d _⟩;have P:=N.mod (L8 (wb.map (·.2)) (BU (wb.map fun q=>zW q.2))) rfl;obtain rfl:jx=jy:=by injection hjy
 have p1:=U.bi;unfold lgC at p1;rw [C4] at F;have s1:=U.le.C _ _ (g.C _ _ E.l);have s3:=U.le.C _ _ (g.C _ _ E.n);have hnl:=Mc (g.C _ _ E.l) hq;have hnn:=Mc (g.C _ _ E.n) hq;(repeat' refine wQ ?_<;>simp only [s1,s3,p1,p2,p3,p4,p5,q4,q5,AD,if_true,hnn,AA,go_sem]);generalize τ5.AI jx _=fs at F ⊢;have F:LH B Ψ fs _:=⟨_,_,_,_,_,F⟩;generalize h5:((T.DM S.xs.length _).DM S.xs.length _)=T2 at F P;have hvl:T.vars.length=T2.vars.length:=by rw [<- h5];rfl
 refine lpK (fun (y:Nat×X)=>[(135,A1 (y.1:Nat))]) (fun y=>y.2) (fun y=>y.1<=cons.length/\∃T2 x2,LH B Ψ y.2 T2/\Br S S.xs.length (1+6 * cons.length+100 * pV al cons y.1) x2 T2/\x2.op=10/\x2.kids.length=y.1/\x2.binds.length=cons.length/\x2.vars=vs/\T.vars.length<=T2.vars.length) (fun y=>cons.length - y.1) ?_ (0,fs) ⟨by simp,T2,_,F,by simpa [pV] using P,rfl,rfl,by simp [L8,h2],rfl,by omega⟩;clear F h0 N P h5;rintro ⟨i,τ7⟩ ⟨hi,T3,x3,w,p,hj,he,hb3,hn,hl3⟩ ih;simp only at hi w p he;by_cases G:i < cons.length
 . obtain ⟨k,hk1⟩:=Ak G;obtain ⟨b,hb1,L,hb4⟩:=hK.at_ i k hk1;obtain ⟨ck,hc⟩:=Ak (l:=cks) (i:=i) (by omega);obtain ⟨hco,b',l,h9,hcl2,hl1⟩:=hci i ck hc;rw [L] at h9;cases h9;have Z:=AE L;have hb:=(AG.1 L).1;have hd:=AHK al cons i;have hgd:(al.map fun a=>a.body.size).getD (aiC al cons i) 0=b.body.size:=by grind
   rw [hgd] at hd;have hct:=hK.cost (c:=i+1) G;have hbd:=p.le.bd;have h1:=bH (hE b Z) (a+1+Ex.AQ ks+Al.AQ (al.take (aiC al cons i))) (sc++b.vars) ck S.xs.length p.atx (by omega) (by rw [p.le.nt,hnt];exact hf _ b L) (by grind) (hco.mono hl3) (by omega) w;have hkT:=ltT G;have hp:=wS i;have h8:=Au (J:=Al.J) L;have haT:=ltT hb;have hk:=Au (J:=Ba) (AZN (a:=a) (ks:=ks) hb);have hl:((aiC al cons i:Int) < (((plA a ks al).length:Nat):Int))=True:=ltT (by grind);have w1:=w.le.C _ _ (g.C _ _ E.l);have w2:=w.le.C _ _ (g.C _ _ E.e);have w3:=w.le.C _ _ (g.C _ _ E.k);have w4:=w.le.C _ _ hA;have w5:=w.le.C _ _ hI;have eA:(List.map (fun i=>I.d (DV.int IntKind.i64 ((aiC al cons i:Nat):Int))) (Aj cons.length))[i * 1]?=some (A1 ((aiC al cons i:Nat):Int)):=by simp [G]
   have eI:(cks.map fun k=>I.d (chD k))[i * 1]?=some (.d (chD ck)):=by simp [hc]
   have hzz:b.body.size=b.body.size:=rfl;generalize hz:b.body.size=z at h1 hd;obtain ⟨ac,avs,ao,an,au,ans,aks,aal⟩:=b;simp only [exA,Al.body,Ex.A6,AB,AJ] at h1 w2;simp only [Al.A6] at h8;simp only [Ba] at hk;(repeat' refine wQ ?_<;>simp only [w1,w2,w3,w4,w5,hkT,h8,hk,eA,eI,go_sem]);refine AN.mk rfl h1 ?_;rintro _ τ8 ⟨rfl,S6,kv2,h3,hg,hL6⟩;have ds:=p.kid h3 hg kv2;simp only [hp,go_sem];(repeat' refine wQ ?_<;>simp only [hp,go_sem]);refine ih (i+1,τ8) ⟨G,_,_,hL6,ds.up (by simp only;omega),hj,by simp [adK,he],hb3,hn,?_⟩ (by simp only;omega);have:=h3.le.vl;simp only [LSt.DM];omega
 . have hie:i=cons.length:=by omega
   subst hie;clear ih;have hct:=hK.cost (c:=cons.length) (AW _);(repeat' refine wP ?_<;>simp only [B5 G,go_sem]);refine ⟨rfl,T3,w.base g,(p.done (by rw [hj];decide) (BC (by omega)) (by omega) (fun v hv=>?_) ⟨by omega,by grind⟩).up (by omega),(AG.1 p.atx).1⟩;rw [hn] at hv;have h6:=hvs v hv;have h7:=p.le.vl;omega
end
section
open Go.Proofs
variable {B:LB} {O A V Φ Ψ Φ':X} {S:LSt}
theorem CaI.new {jo:Nat} (b:A.C jo=none/\A.bt jo=none) (x:Nat×Go.TypeId):CaI A jo [] ((A.AI jo [.Ac]).BM jo x) .Ac:=by
 refine ⟨by rw [BE,AD,if_pos rfl],⟨fun m c=>?_,?_⟩,AE0 (B6 (X.le_refl A) b.1) b.2⟩
 . simp only [A9] at c;subst c;exact ⟨rfl,.inl ⟨rfl,rfl⟩⟩
 . refine .cons (fun w a=>?_) (.cons (fun w a=>by cases a) .nil);simp only [mwL,AB,AJ,A9] at a;subst a;intro j _ d;cases d
theorem AEY (hf:BF B S.nt a (.mk 11 nm u ns ks al) sc) (hc:Cov (.mk 11 nm u ns ks al) sc ch) (ho:Ho S.vars.length ch) (hz:S.sz+1<=50000000) (h:LH B O A S):
 AS Tzp 63 [.gp B.i 0,exA (.mk 11 nm u ns ks al),.d (.int .i64 (a:Int)),.d (chD ch)] A (EQ B O S 1):=by
 have h8:J3 11 nm u ns ks.length al=true:=hf.me.nb;unfold J3 nkB at h8;rw [AM] at h8;have hk1:ks.length=1:=by simpa using h8.2
 obtain ⟨k0,rfl⟩:∃k0,ks=[k0]:=by
  match ks,hk1 with
  |[k0],_=>exact ⟨k0,rfl⟩
 have hln:=hf.ln;simp only [Ex.size,Ex.AQ] at hln;have:=k0.size_pos;obtain ⟨hy,y,hb,hul⟩:=hf.me.hd 0 9 0 (ns.length+1) (.inr (.inr (.inr ⟨rfl,rfl,rfl,rfl,rfl⟩)));rw [CC] at hb;have hnr:=Au (J:=Cf) hb;have haT:=ltT (show a < S.nt.length by omega);obtain ⟨cv,vv,ev,ja,nv,hg⟩:=id h;have hbi:=hg.bi;have D:=hg.ok.nt;have hnv:=hg.nv (BC (by omega));subst hnv;obtain ⟨h7,_,_⟩:=D.2 _ (AE hb);have hsz:(Ty.mk 9 0 hy).size<=200:=by simp only [Fg,AM,decide_eq_true_eq] at h7;omega
 have ha:hy.length<=7:=by
  simp only [Fg,C1,DS,AM,decide_eq_true_eq] at h7;have:=h7.2.1;simp at this;omega
 obtain ⟨us,r,rfl⟩:∃us' r,hy=us'++[r]:=⟨_,_,(List.dropLast_concat_getLast (BC (by omega))).symm⟩;rw [A0,Ci] at hul ha;have T:∀t∈us++[r],t.size<=200:=fun t ht=>by have:=Ty.EJ ht;rw [Ty.size] at hsz;omega
 simp only [Cf,Ty.J,AU,A3] at hnr;have h9:=fun A=>Pt 11 nm u ns [k0] al a (by have:=D.1;simp only [Ex.size,Ex.AQ];omega) A;have hpk:plK a [k0]=[a+1]:=by simp [plK,Cq,Ex.AQ]
 rw [hpk] at h9;have hcr:=Fu (B:=B) 11 0 (.mk 9 0 (us++[r])) hsz (by omega) h
 have n:=fun G v O A h0 hC=>AHC _ (.mk 11 nm u ns [k0] al) (AW _) ch [] G v O A (fun x K=>by
  have:=OL sc (.mk 11 nm u ns [k0] al) [];rw [Aw] at this;obtain ⟨i,hi⟩:=Hn.1 K;exact (hf.pn i (x.1,sc++x.2) (by rw [this,Az,hi];rfl)).nb) (by have:=D.1;simp only [A8,Ex.size,Ex.AQ];omega) h0 hC
 have N:=hf.kid (i:=0) rfl;rw [CD,Ex.AQ,CC] at N;have N:BF B S.nt (a+1) k0 (sc++ns):=by simpa [Ct] using N
 have hjob:=fun d l (F:CR ch (.mk 11 nm u ns [k0] al) [] l) hd=>AVG (d:=d) hc ho F hd;have hesz:(Ex.mk 11 nm u ns [k0] al).size<=1000:=by have:=D.1;simp only [Ex.size,Ex.AQ];omega
 generalize hee:(Ex.mk 11 nm u ns [k0] al).size=ez at hesz n;refine Ss.go ?_;rw [Ka]
 have P:∀l,CR ch (.mk 11 nm u ns [k0] al) [] l->l.length<=1000->∀nv,S.vars.length<=nv->zT B nv ⟨k0,a+1,S.nt,ns,us,l,-1⟩:=fun l F hl nv hnv=>⟨D,⟨fun t ht=>T t (by simp [ht]),by simp only;omega⟩,.inr ⟨rfl,by simp only;omega,hl,fun c hc=>by
  rcases F.src c hc with h|h
  . cases h
  . have:=ho.lt _ (Lx h.1);simp only at this;omega,fun d hd=>⟨sc++ns,N,hjob d l F hd⟩⟩⟩
 obtain ⟨o0,hp,u0,hs,hn,Z⟩:=k0;simp only [exA,tyA,Ba,Ty.J,Ex.A6,AB,AJ] at h9 hcr n ⊢;unfold lgC at hbi;(repeat' (first|refine sQ ?_|refine AN.det (h9 _) ?_|fail)<;>try simp only [hbi,hnr,go_sem]);refine AN.mk rfl hcr ?_;rintro _ τ1 ⟨rfl,m⟩;simp only [go_sem];(repeat' refine sQ ?_<;>simp only [go_sem]);intro G z;have h3:=CaI.new z (1,116);generalize (τ1.AI G [.Ac]).BM G (1,116)=τ2 at h3 ⊢;(repeat' refine sQ ?_<;>simp only [go_sem]);refine AN.mk rfl (n G .Ac τ1 τ2 z.1 h3) ?_;rintro _ τ3 ⟨rfl,l1,v1,hq,L⟩;have hcr1:CR ch (.mk 11 nm u ns [.mk o0 hp u0 hs hn Z] al) [] l1:=by rw [<- hee] at hq;exact hq.cr (List.Perm.refl _)
 have hl1:=hq.len;have ds:=L.b;have b:=(L.m.1 _ AY).cel;simp only [mwL] at b;simp only [go_sem];(repeat' refine sQ ?_<;>simp only [ds,b.cell,go_sem])
 refine AN.mk (by simp only [BK,Cl,b.BS];rfl) (AGU L (by simp only [A8] at hl1;omega) (fun x K=>by
  rcases hcr1.src x K with h1|h1
  . cases h1
  . have:=ho.lt _ (Lx h1.1);simp only [LSt.sz] at this hz;omega)) ?_
 rintro _ τ4 ⟨rfl,g,E,fs⟩;have R:CR ch (.mk 11 nm u ns [.mk o0 hp u0 hs hn Z] al) [] g:=by rw [<- hee] at hq;exact hq.cr E
 have hl2:g.length<=1000:=by rw [E.length_eq];simp only [A8] at hl1;omega
 have hvs:∀v∈g.map (·.2),0<=v/\v < (S.vars.length:Int):=fun v hv=>by
  obtain ⟨x,K,rfl⟩:=BR.1 hv;rcases R.src x K with h1|h1
  . cases h1
  . exact ho.lt _ (Lx h1.1)
 simp only [go_sem];refine W.AcU fs (by omega) z.1 (fun τ5 j h5=>?_);have hjo0:O.C G=none:=le_none m.le z.1
 have h4:LH B (O.AI G [BU (g.map Sk)]) τ5 _:=m.ext j ⟨fun k c hk=>by
  rw [AD] at hk;split at hk
  . rename_i e;subst e;rw [h5];exact hk
  . exact j.C _ _ (m.le.C _ _ hk),fun t ht=>j.tok t (m.le.tok t ht),m.le.gt.trans j.gt,fun k x K=>j.bt _ _ (m.le.bt _ _ K)⟩ (fun _ h=>h) fun k hk=>by
    have:k≠G:=fun e=>hk (by rw [e];exact z.1);rw [AD,if_neg this]
 have U:(O.AI G [BU (g.map Sk)]).C G=some [BU (g.map Sk)]:=BB;have Y:=B6 (cs:=[BU (g.map Sk)]) (X.le_refl O) hjo0;generalize O.AI G [BU (g.map Sk)]=Φ5 at h4 U Y;clear h3 L fs b ds j m hq n;(repeat' refine sQ ?_<;>simp only [h5,AA,go_sem])
 refine lpK (fun (y:Nat×I×X)=>[(41,A1 (y.1:Nat))]) (fun y=>y.2.2)
  (fun y=>y.1<=g.length/\∃Φ',Lw tkI 1 Φ5 (((g.take y.1).map (·.2)).map Ez) y.2.1 Φ'/\LH B Φ' y.2.2 (S.Cm (Hk ((g.take y.1).map (·.2)) y.2.1 (D4 11 0 (.mk 9 0 (us++[r])))))) (fun y=>g.length - y.1) ?_ (0,.Ac,τ5) ⟨by simp,Φ5,.inl ⟨rfl,rfl,rfl⟩,h4⟩
 clear h5 h4;rintro ⟨i,w,τ6⟩ ⟨hi,Φ6,hw,q⟩ ih;simp only at hi hw q;have F:=hw.row;obtain ⟨cv6,vv6,ev6,ja6,nv6,s⟩:=id q;have b6:=s.bi;obtain ⟨jx,rfl,h2,hx0,hxi⟩:=s.ex (IH _ _);have hxl:S.xs.length < (S.Cm (Hk ((g.take i).map (·.2)) w (D4 11 0 (.mk 9 0 (us++[r]))))).xs.length:=by simp [LSt.Cm]
 have hm:=ltT hxl;unfold lgC at b6;by_cases Q:i < g.length
 . obtain ⟨x,K⟩:=Ak Q;have he:=Au (J:=Sk) K;simp only [Sk] at he;have hw1:=wS i;have h6:=(tA XE.row 8 XE.Bj 2 (IH S (Hk ((g.take i).map (·.2)) w (D4 11 0 (.mk 9 0 (us++[r]))))) (by omega)).trans (show _=some w from rfl);have hti:((g.take (i+1)).map (·.2)).map Ez=((g.take i).map (·.2)).map Ez++[[.int .i64 x.2]]:=by rw [Aa K,A4,A4];rfl
   (repeat' refine sQ ?_<;>simp only [BI Q,he,go_sem]);refine W.Gs mixed ?_;simp only [b6,h2,hm,h6,F.cell,go_sem]
   repeat' (with_reducible refine DF ?_ ?_)
   all_goals
    refine DH.loc hw q rfl rfl (by simp;omega) (by omega) (fun w2 Φ7 τ7 hj hL7 vs=>?_);have p:=hj.row;have b7:=(vs _).trans b6;have bx7:=(vs _).trans h2;rw [<- hti] at hj p;obtain ⟨cv8,vv8,jy,ja8,nv8,p1,p2,p3,p4,p5,p6⟩:=hL7.Ia (o:=2) (v:=w2) (f:=Hk ((g.take (i+1)).map fun x:M×Int=>x.2) w2) (IH _ _) (by omega) rfl rfl ⟨p,DG.Ac⟩;have e:=b7.symm.trans p1;simp only [lgC,AP,FJ,I.ms.injEq] at e;obtain ⟨-,-,-,-,-,-,⟨rfl,-⟩,-⟩:=e;rw [Tq] at p5 p6;simp only [b7,bx7,hm,p4,p5,p.cells,p.cell,go_sem];(repeat' refine sQ ?_<;>simp only [hw1,go_sem]);exact ih (i+1,w2,_) ⟨Q,Φ7,hj,p6⟩ (by simp only;omega)
 . have hie:i=g.length:=by omega
   subst hie;rw [Ar] at hw q s h2 hm hxl F b6;clear ih;have hnv6:=s.nv (BC (by show 0 < S.nt.length;omega));subst hnv6;have hj6:=q.le.C _ _ (hw.le.C _ _ U);have hlam:=fun ty=>yM (S:=S.Cm (Hk (g.map fun x:M×Int=>x.2) w (D4 11 0 (.mk 9 0 (us++[r]))))) 9 0 us r o0 hp u0 hs hn Z (a+1) S.nt ns ty g (-1) (P g R hl2 _ (AW _)) (by omega) (T r (by simp)) s;have ha1:=ltT (show a+1 < S.nt.length by omega);(repeat' refine sQ ?_<;>simp only [B5 Q,b6,hj6,AT,A8,A7,DU,Bb,go_sem]);refine W.Gs mixed ?_;simp only [b6,go_sem]
   repeat' (with_reducible refine DF ?_ ?_)
   all_goals
    refine AN.mk rfl (AS.plain (by simp only [I.C3,I.plain];exact hlam _)) ?_;rintro _ τ7 ⟨⟨xc,rfl⟩,S',cv',ja',hg7,e1,e2,e3,e4⟩;obtain ⟨jy,hjy,p2,p3,p4,p5,p6,_⟩:=hg7.Ia (i:=S.xs.length) (x:=Hk (g.map fun x:M×Int=>x.2) w (D4 11 0 (.mk 9 0 (us++[r])))) (o:=1) (v:= .d (.int .i64 xc)) (f:=AN9 xc) (by rw [e1];exact IH _ _) (by omega) rfl rfl ⟨F,DG.Ac⟩;obtain rfl:jx=jy:=by injection hjy
    have p1:=hg7.bi;unfold lgC at p1;simp only [p1,p2,p3,p4,p5,<- e1,go_sem];(repeat' refine sP ?_<;>simp only [go_sem]);refine ⟨rfl,_,LH.base ⟨_,_,_,_,_,p6⟩ (X.le_trans Y hw.le),Ext.one (x:=AN9 xc (Hk (g.map fun x:M×Int=>x.2) w (D4 11 0 (.mk 9 0 (us++[r]))))) ?_ e2 e4 e3 (Vn (show ¬brO 11 by decide) rfl rfl hvs (by simp [Hk,AN9];omega))⟩;show S'.xs.modify _ _=_;rw [e1];exact AR1 _ _ _
end
section
open Go.Proofs
variable {B:LB} {O A V Φ Ψ Φ':X} {S:LSt}
def RBx (V:X) (live:List Nat) (F0:Nat->Fm) (x:Nat×Go.TypeId) (zs cs:List I):CV:=fun F L H=>∃j,(V.C j=none/\V.bt j=none)/\Ee live F=F0 j/\GK live L=E/\H=((V.AI j zs).BM j x).AI j cs
theorem Ac5 {d:Nat} (h:Fg dt (.mk 5 (d:Int) us)=true) (a:dt[d]?=some D):(us.length:Int)=D.vars:=by
 simp only [Fg,C1,DS,AM,decide_eq_true_eq] at h
 grind
theorem ARY (hB:LOK B) (hE:∀k∈ks,N7 B k) (hEa:∀b∈al,N7 B b.body) (hf:BF B S.nt a (.mk 10 nm u ns ks al) sc) (hc:Cov (.mk 10 nm u ns ks al) sc ch) (ho:Ho S.vars.length ch) (hz:S.sz+100 * (Ex.mk 10 nm u ns ks al).size<=50000000) (h:LH B O A S):
 AS Tzp 62 [.gp B.i 0,exA (.mk 10 nm u ns ks al),.d (.int .i64 (a:Int)),.d (chD ch)] A (EQ B O S (100 * (Ex.mk 10 nm u ns ks al).size)):=by
 have Q:J3 10 nm u ns ks.length al=true:=hf.me.nb;unfold J3 nkB asB at Q;rw [AM,AM] at Q;obtain ⟨⟨_,L⟩,hnk⟩:=Q;rw [if_pos rfl,AM] at L;have hk1:ks.length=1:=by simpa using hnk
 obtain ⟨k0,rfl⟩:∃k0,ks=[k0]:=by
  match ks,hk1 with
  |[k0],_=>exact ⟨k0,rfl⟩
 obtain ⟨G,p,rfl⟩:∃G p,al=G::p:=by
  cases al with
  |nil=>simp at L
  |cons x l=>exact ⟨x,l,rfl⟩
 have f:Nc B.dt (G::p)=0:=hf.me.vis
 obtain ⟨x0,F⟩:∃x,Dy B.dt G.con=some x:=by
  unfold Nc at f;cases N:Ce B.dt (G::p) with
  |error e=>rw [N] at f;exact absurd f (Zu _ _ N)
  |ok xs=>
   obtain ⟨x,_,q,_⟩:=Mi N G AY;exact ⟨x,q⟩
 obtain ⟨d,c0⟩:=x0;obtain ⟨D,hD,hAK⟩:=AK.of f F;obtain ⟨us,y,hy,_⟩:=hf.me.hd 1 5 d 0 (.inr (.inr (.inl ⟨rfl,rfl,rfl,rfl,G,d,c0,rfl,F,rfl⟩)));obtain ⟨D',k',h1,hk',_⟩:=Kz F;rw [hD] at h1;cases h1;have hn1:=(AG.1 hk').1;generalize hal:G::p=al at *;clear f F hal;have hln:=hf.ln;simp only [Ex.size,Ex.AQ] at hln hz ⊢;have:=k0.size_pos;obtain ⟨n,hi⟩:=Ak (show a < S.nt.length by omega);have hm:=Au (J:=Cf) hi;have haT:=ltT (show a < S.nt.length by omega);obtain ⟨cv,vv,ev,ja,nv,N⟩:=id h;have hbi:=N.bi;have v:=N.ok.nt;have hnv:=N.nv (BC (by omega));subst hnv;have R:=fun A=>Pt 10 nm u ns [k0] al a (by have:=v.1;simp only [Ex.size,Ex.AQ];omega) A;obtain ⟨⟨n1,n2,n3⟩,na⟩:=n;obtain ⟨hgd,hg2,hg3⟩:=v.2 _ (AE hi);have hv:(Ty.mk n1 n2 n3).size<=200:=by simp only [Fg,AM,decide_eq_true_eq] at hgd;omega
 simp only [Cf,Ty.J,AU,A3] at hm;have T:=Au (J:=Cf) hy;have h5:=ltT (show a+1 < S.nt.length by omega);obtain ⟨ha,_,_⟩:=v.2 _ (AE hy);have hx:(Ty.mk 5 (d:Int) us).size<=200:=by simp only [Fg,AM,decide_eq_true_eq] at ha;omega
 have huv:=Ac5 ha hD;simp only [Cf,Ty.J,AU,A3] at T;obtain ⟨hd8,hdz⟩:=hB.dz D (AE hD);have h8:=NX hD;have h7:=ltT (AG.1 hD).1;have ht:plK a [k0]=[a+1]:=by simp [plK,Cq,Ex.AQ]
 rw [ht] at R;have he:=rW hf hc hE (i:=0) (k:=k0) rfl (by simp [Ct]);rw [ht] at he;generalize fs:k0.size=z0 at *;have r:=fun O jl jt jn je jb js jk hC=>AMM (B:=B) (O:=O) (t:= .mk n1 n2 n3) (o:=10) (nm:=nm) (u:=u) (ns:=ns) (ks:=[k0]) (al:=al) (D:=D) (ch:=ch) (d:=d) (us:=us) (a:=a) (sc:=sc) (nt:=S.nt) (nv:=S.vars.length) (n:=1) (c:=49+100 * Al.AQ al) (jl:=jl) (jt:=jt) (jn:=jn) (je:=je) (jb:=jb) (js:=js) (jk:=jk) hC hv hD rfl huv hx hdz hAK hd8 (by omega) (by have:=Al.NI al;have:=v.1;omega) ho hEa (fun i b hb=>hf.alt hb) (fun b hb l hl=>hc.alt hb fun s hs=>by rw [Q9 hs,hl]) (AW _)
 have hq:=fun fid Ae c hb hcp O A hz h r=>LN (B:=B) (S:=S) (O:=O) (A:=A) [k0] [a+1] ch (.mk n1 n2 n3) fid Ae c hb hcp rfl (by simp) (fun i k hk=>by
  cases i with
  |zero=>simp at hk;subst hk;exact he
  |succ i=>simp at hk) v ho hv hz h r
 refine V7.go ?_;rw [Ka];obtain ⟨o0,nm0,u0,ns0,cs,h0⟩:=k0;simp only [exA,tyA,Ba,Ty.J,Ex.A6,AB,AJ] at R hq ⊢;unfold lgC at hbi;(repeat' refine sQ ?_<;>simp only [go_sem]);intro jl hd je E jb m;obtain ⟨q1,E⟩:=Q3 E;obtain ⟨q2,m⟩:=Q3 m;obtain ⟨q3,m⟩:=Q3 m;obtain ⟨Φ1,f1,v1,w1,k1⟩:=(FrL.mk (X.le_refl O) h).new hd [.gp B.i 0];obtain ⟨Φ2,f2,g,w2,k2⟩:=f1.new (j:=je) (by simp [AD,q1,E]) [.d (.int .i64 10),.d (.str nm),.d (.int .i64 u),.d (.sl (ns.map CG)),.d (.sl [[.int .i64 o0,.str nm0,.int .i64 u0,.sl (ns0.map CG),.sl (cs.map Ex.J),.sl (h0.map Al.J)]]),.d (.sl (al.map Al.J))];obtain ⟨Φ3,f3,w,w3,k3⟩:=f2.new (j:=jb) (by simp [AD,q2,q3,m]) [.d (chD ch)];have v1:=(k3 _ _ (k2 _ _ v1).1).1;have g:=(k3 _ _ g).1;clear k1 k2 k3;have b1:B.i≠jl:=fun e=>h.gi (by rw [e];exact hd);have b2:B.i≠je:=fun e=>h.gi (by rw [e];exact E);have b3:B.i≠jb:=fun e=>h.gi (by rw [e];exact m);obtain ⟨cv3,vv3,ev3,ja3,nv3,P⟩:=id f3.h;have r0:=P.bi;have hn:=P.nv (BC (by omega));subst hn;clear P;unfold lgC at r0;generalize hτ:(((A.AI jl [I.gp B.i 0]).AI je _).AI jb [I.d (chD ch)])=τ3 at f3 r0 ⊢;clear hτ f1 f2;have s1:=f3.h.le.C _ _ v1;have s2:=f3.h.le.C _ _ g
 (repeat' refine sQ ?_<;>simp only [s1,r0,hm,go_sem]);intro jt hjt;obtain ⟨Φ4,f4,v4,w4,k4⟩:=f3.wN (j:=jt) (x:=(3,42)) hjt [.d (.int .i64 0),.d (.int .i64 0),.Ac] [.d (.int .i64 n1),.d (.int .i64 n2),.d (.sl (Ty.Cz n3))];obtain ⟨v1,m41,_⟩:=k4 _ _ v1;obtain ⟨g,m42,_⟩:=k4 _ _ g;obtain ⟨w,m43,_⟩:=k4 _ _ w;clear k4;simp only [BE,AD,if_true,go_sem];generalize ds:(((τ3.AI jt [A1 0,A1 0,.Ac]).BM jt (3,42)).AI jt [A1 n1,A1 n2,BU (Ty.Cz n3)])=τ4 at f4 ⊢;have s2:=f4.h.le.C _ _ g;(repeat' (first|refine sQ ?_|refine AN.det (R _) ?_|fail)<;>try simp only [s2,go_sem]);intro jk hjk;obtain ⟨Φ5,f5,v5,w5,k5⟩:=f4.wN (j:=jk) (x:=(1,39)) hjk [.Ac] [.d (.sl ((plA a [Ex.mk o0 nm0 u0 ns0 cs h0] al).map Ba))];obtain ⟨v1,_⟩:=k5 _ _ v1;obtain ⟨g,_⟩:=k5 _ _ g;obtain ⟨w,_⟩:=k5 _ _ w;obtain ⟨v4,_⟩:=k5 _ _ v4;clear k5;simp only [BE,AD,if_true,go_sem];generalize vs:((τ4.AI jk [.Ac]).BM jk (1,39)).AI jk _=τ5 at f5 ⊢;clear ds vs;have s1:=f5.h.le.C _ _ v1;obtain ⟨cv5,vv5,ev5,ja5,nv5,h9⟩:=id f5.h;have Z:=h9.bi;have hp:=h9.nv (BC (by omega));subst hp;unfold lgC at Z;(repeat' first|refine W.seq ?_)
 refine W.WX mixed (RBx τ5 [4,5,7,9,10,11,12] (fun j=>put 4 (.gp jl 0) (put 5 (.gp je 0) (put 7 (.gp jb 0) (put 9 (.gp jt 0) (put 10 (BU [[.int .i64 ((a+1:Nat):Int)]]) (put 11 (.gp jk 0) (put 12 (.gp j 0) U))))))) (3,42) [A1 0,A1 0,.Ac] [A1 5,A1 d,BU (Ty.Cz us)]) ?_ ?_
 . have hr:((0:Int) < (([[DV.int .i64 ((a+1:Nat):Int)]].length:Nat):Int))=True:=by simp
   simp only [s1,Z,T,DU,Bb,AT,A8,A7,go_sem]
   repeat' (with_reducible refine DF ?_ ?_)
   all_goals
    intro j K;have q:=(f5.ne v1 K.1).1;have z:=(f5.nei K.1).1;simp only [BE,AD,if_true,q,z,s1,Z,T,AT,A8,A7,go_sem];exact ⟨j,K,by simp only [go_sem],by simp only [go_sem],rfl⟩
 rintro F' L' _ ⟨js,hjs,q,z,rfl⟩;rw [q,z];clear q z F' L';obtain ⟨Φ6,f6,v6,w6,k6⟩:=f5.wN (j:=js) (x:=(3,42)) hjs [.d (.int .i64 0),.d (.int .i64 0),.Ac] [.d (.int .i64 5),.d (.int .i64 d),.d (.sl (Ty.Cz us))];obtain ⟨v1,_⟩:=k6 _ _ v1;obtain ⟨g,_⟩:=k6 _ _ g;obtain ⟨w,_⟩:=k6 _ _ w;obtain ⟨v4,_⟩:=k6 _ _ v4;obtain ⟨v5,_⟩:=k6 _ _ v5;clear k6;generalize ((τ5.AI js _).BM js (3,42)).AI js _=τ6 at f6 ⊢;have s1:=f6.h.le.C _ _ v1;have s6:=f6.h.le.C _ _ v6;obtain ⟨cv6,vv6,ev6,ja6,nv6,hg6⟩:=id f6.h;have Z:=hg6.bi;unfold lgC at Z;(repeat' first|refine W.seq ?_);refine W.WX mixed (RBx τ6 [4,5,7,9,10,11,12,13] (fun j=>put 4 (.gp jl 0) (put 5 (.gp je 0) (put 7 (.gp jb 0) (put 9 (.gp jt 0) (put 10 (BU [[.int .i64 ((a+1:Nat):Int)]]) (put 11 (.gp jk 0) (put 12 (.gp js 0) (put 13 (.gp j 0) U)))))))) (1,158) [.Ac] [BU (D.cons.map Con.J)]) ?_ ?_
 . simp only [s1,Z,s6,h8,F8,BX,go_sem]
   repeat' (with_reducible refine DF ?_ ?_)
   all_goals
    intro j K;have q:=(f6.ne v1 K.1).1;have z:=(f6.nei K.1).1;have e3:=(f6.ne v6 K.1).1;simp only [BE,AD,if_true,q,z,e3,s1,Z,s6,h8,F8,BX,go_sem];exact ⟨j,K,by simp only [go_sem],by simp only [go_sem],rfl⟩
 rintro F' L' _ ⟨jn,hjn,q,z,rfl⟩;rw [q,z];clear q z F' L';obtain ⟨Φ7,f7,v7,w7,Y⟩:=f6.wN (j:=jn) (x:=(1,158)) hjn [.Ac] [.d (.sl (D.cons.map Con.J))];obtain ⟨v1,_⟩:=Y _ _ v1;obtain ⟨g,_⟩:=Y _ _ g;obtain ⟨w,_⟩:=Y _ _ w;obtain ⟨v4,_⟩:=Y _ _ v4;obtain ⟨v5,_⟩:=Y _ _ v5;obtain ⟨v6,_⟩:=Y _ _ v6;clear Y;generalize ((τ6.AI jn _).BM jn (1,158)).AI jn _=τ7 at f7 ⊢;have s1:=f7.h.le.C _ _ v1;have s2:=f7.h.le.C _ _ g;have s3:=f7.h.le.C _ _ w;have s4:=f7.h.le.C _ _ v4;have h6:=hq 107 [.gp jl 0,.gp jt 0,.gp jn 0,.gp je 0,.gp jb 0,.gp js 0,.gp jk 0] (49+100 * Al.AQ al) (by kernel_rfl) rfl Φ7 τ7 (by simp only [Ex.AQ,AT,A8,fs];omega) f7.h (r Φ7 jl jt jn je jb js jk ⟨v1,v4,v7,by rw [g];simp only [Ex.A6,AB,AJ],w,v6,v5⟩);(repeat' refine sQ ?_<;>simp only [s1,s2,s3,s4,go_sem]);refine AN.mk rfl h6 ?_;rintro _ τ9 hEQ;obtain ⟨rfl,S',h2,h3,h4⟩:=(hEQ.base f7.le).up (d:=100 * (1+z0+Al.AQ al)) (by simp only [Ex.AQ,AT,A8,fs];omega);simp only [go_sem];(repeat' refine sP ?_<;>simp only [go_sem]);exact ⟨rfl,S',h2,h3,h4⟩
end
section
open Go.Proofs
variable {B:LB} {O A V Φ Ψ Φ':X} {S:LSt}
theorem AHS {op num:Int} (y:¬brO op) {t:Ty} (D:t.size<=200) {jo:Nat} (p:O.C jb=some [.gp B.i 0]) (g:O.C jo=some [.d (.int .i64 op)]) (e:O.C jn=some [.d (.int .i64 num)]) (h:O.C jt=some (t.J.map I.d)) (nt:List Nte) (nv n:Nat):AGR B O nt nv n 1 53 [.gp jb 0,.gp jo 0,.gp jn 0,.gp jt 0]:=by
 intro Φ S A vs a b _ _ ⟨_,i⟩ j z;have d:=Fu (B:=B) op num t D (by omega) b;have t1:=b.le.C _ _ (a.C _ _ p);have t2:=b.le.C _ _ (a.C _ _ g);have t3:=b.le.C _ _ (a.C _ _ h);have t4:=b.le.C _ _ (a.C _ _ e);refine Ra.go ?_;rw [oT];obtain ⟨k,L,us⟩:=t;simp only [tyA,Ty.J,AB,AJ] at d t3;(repeat' refine sQ ?_<;>simp only [t1,t2,t3,t4,go_sem]);refine AN.mk rfl d ?_;rintro _ V ⟨rfl,c⟩;have w:=c.le.C _ _ (a.C _ _ p);obtain ⟨x,G,K,E,F,l,q,r,s,m,u⟩:=c.Ia (o:=2) (v:= .d (.sl (vs.map Ez))) (f:=Hk vs (.d (.sl (vs.map Ez)))) (IH _ _) (by omega) rfl rfl ⟨DG.d _,DG.Ac⟩;rw [Tq] at m u;unfold lgC at l;simp only [go_sem];(repeat' refine sP ?_<;>simp only [w,l,q,r,s,m,go_sem]);exact ⟨rfl,_,u,ARJ y j i⟩
structure ExB (O:X) (B:LB) (t:Ty) (e:Ex) (ch:Ch) (pl:List Nat) (jl je jk jb jt:Nat):Prop where
 l:O.C jl=some [.gp B.i 0]
 e:O.C je=some (e.J.map I.d)
 k:O.C jk=some [.d (.sl (pl.map Ba))]
 b:O.C jb=some [.d (chD ch)]
 t:O.C jt=some (t.J.map I.d)
theorem AOB {op num:Int} (g:¬brO op) {t:Ty} (w:t.size<=200) (d:ExB Φ B t (.mk o nm u ns ks al) ch pl jl je jk jb jt) (p:pl.length=ks.length) (N:ks.length<=10)
 (l:∀(k:Nat) (e:Ex),ks[k]?=some e->∃a sc,pl[k]?=some a/\a < S.nt.length/\N7 B e/\BF B S.nt a e sc/\Cov e sc ch) (n:ALO B S.nt) (i:Ho S.vars.length ch) (q:S.sz+(100 * Ex.AQ ks+2 * ks.length+1)<=50000000) (h:LH B Φ V S):
 AS Tzp 51 [.d (.int .i64 op),.d (.int .i64 num),.gp jl 0,.gp je 0,.gp jk 0,.gp jb 0,.gp jt 0] V (EQ B Φ S (100 * Ex.AQ ks+2 * ks.length+1)):=by
 refine U6.go ?_;rw [API];obtain ⟨T,Y,U⟩:=t;(repeat' refine sQ ?_<;>simp only [go_sem]);intro x m jn b;obtain ⟨P,b⟩:=Q3 b;obtain ⟨h0,f1,v1,w1,k1⟩:=(FrL.mk (X.le_refl Φ) h).new m [.d (.int .i64 op)];obtain ⟨r,f2,Z,w2,y⟩:=f1.new (j:=jn) (by simp [AD,P,b]) [.d (.int .i64 num)];have v1:=(y _ _ v1).1;clear k1 y;have s:=f2.le.C _ _ d.l;have c2:=f2.le.C _ _ d.e;have E:=f2.le.C _ _ d.k;have F:=f2.le.C _ _ d.b;have v:=f2.le.C _ _ d.t;have c:=LN (O:=r) ks pl ch (.mk T Y U) 53 [.gp jl 0,.gp x 0,.gp jn 0,.gp jt 0] 1 (by kernel_rfl) rfl p N l n i w q f2.h (AHS g w s v1 Z v _ _ _);generalize (V.AI x _).AI jn _=h1 at f2 c ⊢;have s1:=f2.h.le.C _ _ s;have z:=f2.h.le.C _ _ c2;have Q:=f2.h.le.C _ _ E;have R:=f2.h.le.C _ _ F;have D:=f2.h.le.C _ _ v;simp only [tyA,Ty.J,Ex.A6,AB,AJ] at c z D;(repeat' refine sQ ?_<;>simp only [s1,z,Q,R,D,go_sem]);refine AN.mk rfl c ?_;rintro _ h5 f;obtain ⟨rfl,S',G,K,L⟩:=f.base f2.le;simp only [go_sem];(repeat' refine sP ?_<;>simp only [go_sem]);exact ⟨rfl,S',G,K,L⟩
end
section
open Go.Proofs
variable {B:LB} {O A V Φ Ψ Φ':X} {S:LSt}
theorem AYY {t:Ty} (ht:t.size<=200) {k0 k1 k2:Ex} {p0 p1 p2:Nat} (K:ExB O B t (.mk 9 nm u ns [k0,k1,k2] al) ch [p0,p1,p2] jl je jk jb jt) {sc1 sc2:List M} {nv n:Nat} (h3:N7 B k1) (h4:N7 B k2) (ha:BF B nt p1 k1 sc1) (hd:BF B nt p2 k2 sc2) (hb:Cov k1 sc1 ch) (hc:Cov k2 sc2 ch) (ho:Ho nv ch) (hr:1+100 * (k1.size+k2.size)<=c):
 AGR B O nt nv n c 60 [.gp jl 0,.gp jt 0,.gp je 0,.gp jk 0,.gp jb 0]:=by
 intro Φ S A vs p hL h1 hs ⟨_,he⟩ hf hx;have N:=Fu (B:=B) 9 0 t ht (by omega) hL;have a1:=p.C _ _ K.l;have a2:=p.C _ _ K.e;have a3:=p.C _ _ K.k;have a4:=p.C _ _ K.b;have t1:=hL.le.C _ _ a1;have t2:=hL.le.C _ _ (p.C _ _ K.t);refine U7.go ?_;rw [AG3];obtain ⟨tk,tn,ts⟩:=t;simp only [tyA,Ty.J,AB,AJ] at N t2;(repeat' refine sQ ?_<;>simp only [t1,t2,go_sem]);refine AN.mk rfl N ?_;rintro _ i ⟨rfl,q⟩;have s1:=q.le.C _ _ a1;obtain ⟨hn,vv1,hp,sc,nv1,r⟩:=id q;have G:=r.bi;obtain ⟨jx,rfl,w,p3,p4,p5,_,R,hg⟩:=r.Ia (o:=2) (v:= .d (.sl (vs.map Ez))) (f:=Hk vs (.d (.sl (vs.map Ez)))) (IH _ _) (by omega) rfl rfl ⟨DG.d _,DG.Ac⟩;have y:=Br.new (S:=S) (op:=9) (num:=0) (t:= .mk tk tn ts);have j:=y.mod (Hk vs (BU (vs.map Ez))) rfl;generalize hq:S.Cm (D4 9 0 (.mk tk tn ts))=S1 at *;have q5:=fun a:Nat=>Of XE.row 8 XE.Bj 3 (.ms a 2 1 39) (L8 [[],[]] (.ms a 2 1 39)) j.atx (by omega) rfl
 have q4:(S.xs.length * 8+3+1<=(rwC XE.row (S1.DM S.xs.length (Hk vs (BU (vs.map Ez)))).xs).length)=True:=by
  have:=(AG.1 j.atx).1;rw [Dd XE.row 8 XE.Bj];simp;omega
 have h0:=Mc a1 hg;unfold lgC at G;simp only [go_sem];(repeat' first|refine W.seq ?_);refine W.WX mixed (fun F L H=>∃a,i.C a=none/\Ee [1,3,4,5,8] F=put 1 (.gp jl 0) (put 3 (.gp je 0) (put 4 (.gp jk 0) (put 5 (.gp jb 0) (put 8 (A1 S.xs.length) U))))/\GK [1,3,4,5,8] L=E/\H=(i.AI a (AH 2 [I.Ac]).flatten).AI jx (rwC XE.row ((S1.DM S.xs.length (Hk vs (BU (vs.map Ez)))).DM S.xs.length (L8 [[],[]] (.ms a 2 1 39))).xs)) ?_ ?_
 . simp only [s1,G,w,p3,p4,p5,if_true,go_sem]
   repeat' (with_reducible refine DF ?_ ?_)
   all_goals
    refine K8.mk 2 (by omega) (by omega) (fun a g=>?_);have b:i.C a=none:=by first|exact g|exact (Q3 (by rw [AD] at g;exact g)).2
    have z1:=Mc s1 b;have z2:=Mc G b;have z3:=Mc w b;simp only [s1,G,w,p3,p4,p5,q4,q5,AD,if_true,z1,z2,z3,go_sem];exact ⟨a,b,by first|rfl|(rw [C4];rfl)|(rw [Y2 i z3];rfl)|(rw [Y2 i z3,C4];rfl)⟩
 rintro F' L' _ ⟨a,g,e1,e2,rfl⟩;rw [e1,e2];clear e1 e2 F' L';have Q:=r.ext (Ψ:=Φ) (Bf (cs:=(AH 2 [I.Ac]).flatten) g) (X.le_trans q.le (Bf g)) (fun _ h=>h) fun _ _=>rfl;obtain ⟨jy,D,_,_,_,_,P,_,_⟩:=Q.Ia (o:=2) (v:= .d (.sl (vs.map Ez))) (f:=Hk vs (.d (.sl (vs.map Ez)))) y.atx (by omega) rfl rfl ⟨DG.d _,DG.Ac⟩;obtain rfl:jx=jy:=by injection D
 obtain ⟨jy,D,_,_,_,_,s,_,_⟩:=P.AQL (o:=3) (v:= .ms a 2 1 39) (f:=L8 [[],[]] (.ms a 2 1 39)) j.atx (by omega) rfl rfl ⟨DG.d _,⟨rfl,rfl,rfl,fun _=>rfl,rfl⟩⟩;obtain rfl:jx=jy:=by injection D
 rw [C4] at s;have d:=j.mod (L8 [[],[]] (.ms a 2 1 39)) rfl;generalize (i.AI a _).AI jx _=hj at s ⊢;have e:LH B Φ hj _:=⟨_,_,_,_,_,s⟩;clear s P Q r G w p3 p4 p5 q5 q4 q s1;generalize hT:(S1.DM S.xs.length _).DM S.xs.length _=T at e d;clear hT y j;have x:=bH h3 p1 sc1 ch S.xs.length d.atx (by simp [L8,Hk,D4]) (by rw [d.le.nt,h1];exact ha) hb (ho.mono (by have:=d.le.vl;omega)) (by have:=d.le.bd;omega) e;have hy:(L8 [[],[]] (.ms a 2 1 39) (Hk vs (BU (vs.map Ez)) (D4 9 0 (.mk tk tn ts)))).kids=[]:=rfl;generalize ks:k1.size=z1 at *;generalize h2:k2.size=z2 at *;have c1:=e.le.C _ _ a1;have c2:=e.le.C _ _ a2;have c3:=e.le.C _ _ a3;have c4:=e.le.C _ _ a4;obtain ⟨o0,nm0,u0,ns0,fs,hk⟩:=k0;obtain ⟨o1,nm1,u1,ns1,ds,hl⟩:=k1;obtain ⟨o2,nm2,u2,ns2,us,hm⟩:=k2;simp only [exA,Ba,Ex.A6,AB,AJ] at x c2 c3 a2 a3;(repeat' refine sQ ?_<;>simp only [c1,c2,c3,c4,AT,A8,A7,Bz,DU,Bb,go_sem]);refine AN.mk rfl x ?_;rintro _ τ3 ⟨rfl,S4,kv,h5,Y,l⟩;have k:=d.kid h5 Y kv;have m:=bH h4 p2 sc2 ch S.xs.length k.atx (by simp [L8,Hk,adK,D4]) (by rw [k.le.nt,h1];exact hd) hc (ho.mono (by have:=k.le.vl;omega)) (by rw [h2];have:=k.le.bd;omega) l;rw [h2] at m;have c1:=l.le.C _ _ a1;have c2:=l.le.C _ _ a2
 have c3:=l.le.C _ _ a3;have c4:=l.le.C _ _ a4;simp only [exA,Ex.A6,AB,AJ] at m;simp only [go_sem];(repeat' refine sQ ?_<;>simp only [c1,c2,c3,c4,AT,A8,A7,Bz,DU,Bb,go_sem]);refine AN.mk rfl m ?_;rintro _ τ4 ⟨rfl,S6,hi,h8,Z,h9⟩;have z:=k.kid h8 Z hi;simp only [go_sem];(repeat' refine sP ?_<;>simp only [go_sem]);refine ⟨rfl,_,h9,(z.done (show brO 9 by decide) (by simp [adK]) (by simp [adK,L8,Hk,D4]) (fun v hv=>?_) ⟨by simp [adK,L8,Hk,D4],he⟩).up (by omega),(AG.1 z.atx).1⟩;have h6:=hf v hv;have h7:=z.le.vl;omega
end
section
open Go.Proofs
variable {B:LB} {O A V Φ Ψ Φ':X} {S:LSt}
def ExQ (B:LB) (O:X) (S:LSt) (e:Ex) (v:I) (H:X):Prop:=EQ B O S (100 * e.size) v H/\(e.op=3->∃t:Ty,LH B O H (S.Cm (D4 3 e.num t)))
theorem EQ.leaf {op num:Int} {t:Ty} (a:¬brO op) (h:LH B O A (S.Cm (D4 op num t))):EQ B O S 1 (.d (.int .i64 (S.xs.length:Int))) A:=
 ⟨rfl,_,h,Ext.one rfl rfl (fun _ _ h=>h) rfl (Vn a rfl rfl fun v b=>by cases b)⟩
theorem Ex.EJ {k:Ex}:∀ {l:List Ex},k∈l->k.size<=Ex.AQ l
 |x::l,h=>by
  rw [Ex.AQ];rcases Ah.1 h with rfl|h
  . omega
  . have:=Ex.EJ h;omega
theorem Al.EJ {k:Al}:∀ {l:List Al},k∈l->k.size<=Al.AQ l
 |x::l,h=>by
  rw [Al.AQ];rcases Ah.1 h with rfl|h
  . omega
  . have:=Al.EJ h;omega
theorem AbU {nk:Nat} (h:nkB o u nk=true):nk<=7:=by
 unfold nkB at h
 repeat' split at h
 all_goals grind [eS]
theorem AS3 {k n:Int} {l:List Ty} (h:Fg dt (.mk k n l)=true) (b:0 < dt.length):0<=n/\∃D,dt[n.toNat]?=some D:=by
 simp only [Fg,C1,AM] at h;have a:=h.2.1;have c:n=0->0<=n/\∃D,dt[n.toNat]?=some D:=fun e=>by simp_all
 unfold DS at a
 grind
theorem ASE {nk:Nat} (h:nkB o u nk=true):o=1\/o=2\/o=3\/o=4\/o=5\/o=6\/o=7\/o=8\/o=9\/o=10\/o=11\/o=12\/o=13\/o=14\/o=15\/o=16\/o=17:=by
 refine Decidable.byContradiction fun a=>?_;unfold nkB at h
 grind
theorem AQI (hB:LOK B):∀(N:Nat) (e:Ex),e.size<=N->∀(a:Nat) (sc:List M) (ch:Ch) (O:X) (S:LSt) (A:X),BF B S.nt a e sc->Cov e sc ch->Ho S.vars.length ch->S.sz+100 * e.size<=50000000->LH B O A S->
 AS Tzp 27 [.gp B.i 0,exA e,.d (.int .i64 (a:Int)),.d (chD ch)] A (ExQ B O S e):=by
 intro N
 induction N with
 |zero=>intro e h;have:=e.size_pos;omega
 |succ N ih=>
  rintro ⟨o,nm,u,ns,ks,al⟩ hN a sc ch O S A s E ho hz h;have r:(Ex.mk o nm u ns ks al).size=1+Ex.AQ ks+Al.AQ al:=by rw [Ex.size]
  rw [r] at hN hz;have y:∀k∈ks,N7 B k:=fun k F a sc ch O S A h1 l m p h5=>(ih k (by have:=Ex.EJ F;omega) a sc ch O S A h1 l m p h5).mono fun _ _ h=>h.1
  have hEa:∀b∈al,N7 B b.body:=fun b hb a sc ch O S A h1 l m p h5=>(ih b.body (by
   have:=Al.EJ hb;have p:b.size=b.body.size:=by obtain ⟨c,vs,b⟩:=b;rfl
   omega) a sc ch O S A h1 l m p h5).mono fun _ _ h=>h.1
  clear ih;have hl:J3 o nm u ns ks.length al=true:=s.me.nb;unfold J3 at hl;rw [AM,AM,AM] at hl;obtain ⟨⟨⟨_,h8⟩,_⟩,L⟩:=hl;have hk7:=AbU L;have T:=s.ln;rw [r] at T;obtain ⟨n,hna⟩:=Ak (show a < S.nt.length by omega);have hnr:=Au (J:=Cf) hna;have haT:=ltT (show a < S.nt.length by omega);obtain ⟨cv,vv,ev,ja,nv,hg⟩:=id h;have U:=hg.ok.nt;clear hg;have hpl:=fun A=>Pt o nm u ns ks al a (by have:=U.1;rw [r];omega) A;obtain ⟨⟨n1,n2,n3⟩,na⟩:=n;obtain ⟨hgd,hg2,hg3⟩:=U.2 _ (AE hna);have h7:(Ty.mk n1 n2 n3).size<=200:=by simp only [Fg,AM,decide_eq_true_eq] at hgd;omega
  simp only [Cf,Ty.J,AU,A3] at hnr;refine Wr.go ?_;rw [Ka];simp only [exA,Ex.A6,AB,AJ] at hpl ⊢;(repeat' refine sQ ?_<;>simp only [go_sem]);intro jl hjl je h0 jb K;obtain ⟨q1,h0⟩:=Q3 h0;obtain ⟨q2,K⟩:=Q3 K;obtain ⟨q3,K⟩:=Q3 K;obtain ⟨Φ1,f1,v1,w1,k1⟩:=(FrL.mk (X.le_refl O) h).new hjl [.gp B.i 0];obtain ⟨Φ2,f2,Z,w2,G⟩:=f1.new (j:=je) (by simp [AD,q1,h0]) [.d (.int .i64 o),.d (.str nm),.d (.int .i64 u),.d (.sl (ns.map CG)),.d (.sl (ks.map Ex.J)),.d (.sl (al.map Al.J))];obtain ⟨Φ3,f3,v3,w3,k3⟩:=f2.new (j:=jb) (by simp [AD,q2,q3,K]) [.d (chD ch)];have v1:=(k3 _ _ (G _ _ v1).1).1;have Z:=(k3 _ _ Z).1;clear k1 G k3;obtain ⟨cv3,vv3,ev3,ja3,nv3,hj⟩:=id f3.h;have r0:=hj.bi;have hnv3:=hj.nv (BC (by omega));subst hnv3;clear hj;unfold lgC at r0;generalize hτ:(((A.AI jl [I.gp B.i 0]).AI je _).AI jb [I.d (chD ch)])=τ3 at f3 r0 ⊢;clear hτ f1 f2 q1 q2 q3 hjl h0 K;have s1:=f3.h.le.C _ _ v1;have q:=f3.h.le.C _ _ Z;(repeat' refine sQ ?_<;>simp only [s1,r0,hnr,go_sem]);intro jt hjt;obtain ⟨Φ4,f4,v4,w4,k4⟩:=f3.wN (j:=jt) (x:=(3,42)) hjt [.d (.int .i64 0),.d (.int .i64 0),.Ac] [.d (.int .i64 n1),.d (.int .i64 n2),.d (.sl (Ty.Cz n3))];obtain ⟨v1,m41,_⟩:=k4 _ _ v1;obtain ⟨Z,m42,_⟩:=k4 _ _ Z
  obtain ⟨v3,m43,_⟩:=k4 _ _ v3;clear k4;simp only [BE,AD,if_true,go_sem];generalize hτ4:(((τ3.AI jt [A1 0,A1 0,.Ac]).BM jt (3,42)).AI jt [A1 n1,A1 n2,BU (Ty.Cz n3)])=τ4 at f4 ⊢;clear f3 r0 s1 q hτ4 hjt;have q:=f4.h.le.C _ _ Z;(repeat' (first|refine sQ ?_|refine AN.det (hpl _) ?_|fail)<;>try simp only [q,go_sem]);intro jk hjk;obtain ⟨ds,f5,v5,w5,k5⟩:=f4.wN (j:=jk) (x:=(1,39)) hjk [.Ac] [.d (.sl ((plK a ks).map Ba))];obtain ⟨v1,_⟩:=k5 _ _ v1;obtain ⟨Z,_⟩:=k5 _ _ Z;obtain ⟨v3,_⟩:=k5 _ _ v3;obtain ⟨v4,_⟩:=k5 _ _ v4;clear k5;simp only [BE,AD,if_true,go_sem];generalize hτ5:((τ4.AI jk [.Ac]).BM jk (1,39)).AI jk _=us at f5 ⊢;clear hτ5 f4 q hjk;have hX:ExB ds B (.mk n1 n2 n3) (.mk o nm u ns ks al) ch (plK a ks) jl je jk jb jt:=⟨v1,by rw [Ex.A6];exact Z,v5,v3,v4⟩;have s1:=f5.h.le.C _ _ v1;have q:=f5.h.le.C _ _ Z;have P:=f5.h.le.C _ _ v3;have t:=f5.h.le.C _ _ v4;have w:=f5.h.le.C _ _ v5;clear v1 Z v3 v4 v5;have f:∀c v H,EQ B ds S c v H->c<=100 * (1+Ex.AQ ks+Al.AQ al)->o≠3->ExQ B O S (.mk o nm u ns ks al) v H:=fun c v H h1 l m=>⟨(h1.base f5.le).up (by rw [r];exact l),fun e=>absurd e m⟩;have Q:=fun op num=>Fu (B:=B) op num (.mk n1 n2 n3) h7 (by omega) f5.h
  simp only [tyA,Ty.J,AB,AJ] at Q;have Y:=fun op num (hbr:¬brO op) hes=>AOB (op:=op) (num:=num) hbr h7 hX (by simp [plK]) (by omega) hes U ho (by omega) f5.h;rcases ASE L with rfl|rfl|rfl|rfl|rfl|rfl|rfl|rfl|rfl|rfl|rfl|rfl|rfl|rfl|rfl|rfl|rfl
  . (repeat' refine sQ ?_<;>simp only [s1,q,t,go_sem]);refine AN.mk rfl (Q 1 0) ?_;rintro _ g ⟨rfl,hL⟩;simp only [go_sem];(repeat' refine sP ?_<;>simp only [go_sem]);exact f 1 _ _ (EQ.leaf (by decide) hL) (by omega) (by decide)
  . (repeat' refine sQ ?_<;>simp only [s1,q,t,Ad,go_sem]);refine AN.mk rfl (Q 2 u) ?_;rintro _ g ⟨rfl,hL⟩;simp only [go_sem];(repeat' refine sP ?_<;>simp only [go_sem]);exact f 1 _ _ (EQ.leaf (by decide) hL) (by omega) (by decide)
  . (repeat' refine sQ ?_<;>simp only [s1,q,t,Ad,go_sem]);refine AN.mk rfl (Q 3 u) ?_;rintro _ g ⟨rfl,hL⟩;simp only [go_sem];(repeat' refine sP ?_<;>simp only [go_sem]);exact ⟨((EQ.leaf (by decide) hL).base f5.le).up (by rw [r];omega),fun _=>⟨_,hL.base f5.le⟩⟩
  . have d:=ARN hB s E ho (by omega) f5.h;simp only [exA,Ex.A6,AB,AJ] at d;(repeat' refine sQ ?_<;>simp only [s1,q,P,Ad,go_sem]);refine AN.mk rfl d ?_;rintro _ g ⟨rfl,S',l,m,p⟩;simp only [go_sem];(repeat' refine sP ?_<;>simp only [go_sem]);exact f _ _ _ ⟨rfl,S',l,m,p⟩ (by omega) (by decide)
  . have d:=Y 5 0 (by decide) (fun i k F=>rW s E y F (by simp [Ct]));(repeat' refine sQ ?_<;>simp only [q,Ad,go_sem]);refine ⟨51,[],_,rfl,by kernel_rfl,AN.mk rfl d ?_⟩;rintro _ g ⟨rfl,S',l,m,p⟩;simp only [go_sem];(repeat' refine sP ?_<;>simp only [go_sem]);exact f _ _ _ ⟨rfl,S',l,m,p⟩ (by omega) (by decide)
  . have hvs:∃x,Dy B.dt nm=some x:=by
     have hv:M4 B.p.Ca B.dt (.mk 6 nm u ns ks al) sc=0:=s.me.vis;unfold M4 at hv;rw [if_neg (show ¬(Ex.mk 6 nm u ns ks al).op=4 from fun e=>absurd (show (6:Int)=4 from e) (by decide)),if_pos (show (Ex.mk 6 nm u ns ks al).op=6 from rfl),Ex.name] at hv;cases hq:Dy B.dt nm with
     |none=>rw [hq] at hv;exact absurd (show (3:Int)=0 from hv) (by decide)
     |some x=>exact ⟨x,rfl⟩
    obtain ⟨x,hx⟩:=hvs;obtain ⟨D0,_,hD0,_⟩:=Kz hx;obtain ⟨hn0,D,hD⟩:=AS3 hgd (by have:=(AG.1 hD0).1;omega);obtain ⟨cs,vv5,ev5,ja5,nv5,R⟩:=id f5.h;have hco:=pU B S.fl cs vv5 ev5 ja5 nv5 us R.bi (.mk n1 n2 n3) nm hn0 hD;simp only [tyA,Ty.J,AB,AJ] at hco;(repeat' refine sQ ?_<;>simp only [s1,q,t,Ad,go_sem]);refine AN.mk rfl hco ?_;rintro _ _ ⟨⟨z,rfl⟩,rfl⟩;have d:=Y 6 z (by decide) (fun i k F=>rW s E y F (by simp [Ct]));simp only [go_sem];refine ⟨51,[],_,rfl,by kernel_rfl,AN.mk rfl d ?_⟩;rintro _ g ⟨rfl,S',l,m,p⟩;simp only [go_sem];(repeat' refine sP ?_<;>simp only [go_sem]);exact f _ _ _ ⟨rfl,S',l,m,p⟩ (by omega) (by decide)
  . skip
    obtain ⟨k0,k1,rfl⟩:∃k0 k1,ks=[k0,k1]:=by
     have:ks.length=2:=by simpa [nkB] using L
     match ks,this with
     |[k0,k1],_=>exact ⟨k0,k1,rfl⟩
    have h6:plK a [k0,k1]=[a+1,a+1+k0.size]:=by simp [plK,Cq,Ex.AQ]
    simp only [Ex.AQ] at hN hz T f r;have:=k0.size_pos;obtain ⟨n',hn'⟩:=Ak (show a+1 < S.nt.length by omega);have h9:=Au (J:=Cf) hn';have haT':=ltT (show a+1 < S.nt.length by omega);obtain ⟨⟨t1,t2,t3⟩,na'⟩:=n';obtain ⟨hgd',_,_⟩:=U.2 _ (AE hn');have htz':(Ty.mk t1 t2 t3).size<=200:=by simp only [Fg,AM,decide_eq_true_eq] at hgd';omega
    simp only [Cf,Ty.J,AU,A3] at h9;have d:=rY (.inl rfl) (op:=7) (t2:= .mk t1 t2 t3) (by decide) htz' (y k0 (by simp)) (y k1 (by simp)) s E ho (by omega) f5.h;obtain ⟨cs,vv5,ev5,ja5,nv5,R⟩:=id f5.h;have s6:=R.bi;have hnv5:=R.nv (BC (by omega));subst hnv5;clear R;unfold lgC at s6;rw [h6] at w;generalize hm:k0.size=z0 at *;generalize hn:k1.size=z1 at *;obtain ⟨o0,hs,u0,hy,hp,he⟩:=k0;obtain ⟨o1,ht,u1,fs,hr,hi⟩:=k1;simp only [exA,tyA,Ba,Ex.A6,Ty.J,AB,AJ] at d q w;(repeat' refine sQ ?_<;>simp only [s1,q,P,w,s6,h9,Ad,AT,A8,A7,DU,Bb,go_sem]);refine AN.mk rfl d ?_;rintro _ g ⟨rfl,S',l,m,p⟩;simp only [go_sem];(repeat' refine sP ?_<;>simp only [go_sem]);exact f _ _ _ ⟨rfl,S',l,m,p⟩ (by omega) (by decide)
  . skip
    obtain ⟨k0,k1,rfl⟩:∃k0 k1,ks=[k0,k1]:=by
     have:ks.length=2:=by simpa [nkB] using L
     match ks,this with
     |[k0,k1],_=>exact ⟨k0,k1,rfl⟩
    simp only [Ex.AQ] at hN hz T f r
    have hn6:ns.length<=6:=by
     simp only [nsB,if_true,AM,decide_eq_true_eq] at h8;exact h8.1.2
    have d:=AJF y hn6 s E ho (by have:=k0.size_pos;have:=k1.size_pos;omega) f5.h;simp only [exA,Ex.A6,AB,AJ] at d q;(repeat' refine sQ ?_<;>simp only [s1,q,P,Ad,go_sem]);generalize hm:k0.size=z0 at *;generalize hn:k1.size=z1 at *;obtain ⟨o0,hs,u0,hy,hp,he⟩:=k0;obtain ⟨o1,ht,u1,fs,hr,hi⟩:=k1;simp only [Ex.A6] at d ⊢;refine AN.mk rfl d ?_;rintro _ g ⟨rfl,S',l,m,p⟩;simp only [go_sem];(repeat' refine sP ?_<;>simp only [go_sem]);exact f _ _ _ ⟨rfl,S',l,m,p⟩ (by omega) (by decide)
  . skip
    obtain ⟨k0,k1,G,rfl⟩:∃k0 k1 G,ks=[k0,k1,G]:=by
     have:ks.length=3:=by simpa [nkB] using L
     match ks,this with
     |[k0,k1,G],_=>exact ⟨k0,k1,G,rfl⟩
    have h6:plK a [k0,k1,G]=[a+1,a+1+k0.size,a+1+(k0.size+k1.size)]:=by simp [plK,Cq,Ex.AQ]
    rw [h6] at hX w;simp only [Ex.AQ] at hN hz T f r;have g0:=k0.size_pos;have hk0:=rW s E y (i:=0) (k:=k0) rfl (by simp [Ct]);obtain ⟨p1,sc1,e1,_,hE1,hb1,hv1⟩:=rW s E y (i:=1) (k:=k1) rfl (by simp [Ct]);obtain ⟨p2,sc2,e2,_,hE2,hb2,hv2⟩:=rW s E y (i:=2) (k:=G) rfl (by simp [Ct]);rw [h6] at hk0 e1 e2;cases e1;cases e2;have hfi:=AYY h7 hX (n:=1) (c:=1+100 * (k1.size+G.size)) hE1 hE2 hb1 hb2 hv1 hv2 ho (AW _)
    have d:=LN (B:=B) (S:=S) (O:=ds) (A:=us) [k0] [a+1] ch (.mk n1 n2 n3) 60 [.gp jl 0,.gp jt 0,.gp je 0,.gp jk 0,.gp jb 0] (1+100 * (k1.size+G.size)) (by kernel_rfl) rfl rfl (by simp) (fun i k F=>by
     cases i with
     |zero=>simp at F;subst F;exact hk0
     |succ i=>simp at F) U ho h7 (by simp only [Ex.AQ,AT,A8];omega) f5.h hfi
    have ha:=ABV Ex.J 6 k0 [k1,G];have hd:=ABV Ba 1 (a+1) [a+1+k0.size,a+1+(k0.size+k1.size)];simp only [Ex.AQ,AT,A8] at d;generalize hm:k0.size=z0 at *;generalize hn:k1.size=z1 at *;generalize hz2:G.size=z2 at *;obtain ⟨o0,hs,u0,hy,hp,he⟩:=k0;obtain ⟨o1,ht,u1,fs,hr,hi⟩:=k1;obtain ⟨o2,nm2,u2,ns2,ks2,al2⟩:=G;simp only [tyA,Ba,Ex.A6,Ty.J,AB,AJ] at d q w ha hd;(repeat' refine sQ ?_<;>simp only [s1,q,P,t,w,ha,hd,Ad,go_sem]);refine AN.mk rfl d ?_;rintro _ g ⟨rfl,S',l,m,p⟩;simp only [go_sem];(repeat' refine sP ?_<;>simp only [go_sem]);exact f _ _ _ ⟨rfl,S',l,m,p⟩ (by omega) (by decide)
  . have d:=ARY hB y hEa s E ho (by rw [r];omega) f5.h;rw [r] at d;simp only [exA,Ex.A6,AB,AJ] at d;(repeat' refine sQ ?_<;>simp only [s1,q,P,Ad,go_sem]);refine AN.mk rfl d ?_;rintro _ g ⟨rfl,S',l,m,p⟩;simp only [go_sem];(repeat' refine sP ?_<;>simp only [go_sem]);exact f _ _ _ ⟨rfl,S',l,m,p⟩ (AW _) (by decide)
  . have d:=AEY s E ho (by omega) f5.h;simp only [exA,Ex.A6,AB,AJ] at d;(repeat' refine sQ ?_<;>simp only [s1,q,P,Ad,go_sem]);refine AN.mk rfl d ?_;rintro _ g ⟨rfl,S',l,m,p⟩;simp only [go_sem];(repeat' refine sP ?_<;>simp only [go_sem]);exact f _ _ _ ⟨rfl,S',l,m,p⟩ (by omega) (by decide)
  . have d:=oR hB y s E ho (by omega) f5.h;simp only [exA,Ex.A6,AB,AJ] at d;(repeat' refine sQ ?_<;>simp only [s1,q,P,Ad,go_sem]);refine AN.mk rfl d ?_;rintro _ g ⟨rfl,S',l,m,p⟩;simp only [go_sem];(repeat' refine sP ?_<;>simp only [go_sem]);exact f _ _ _ ⟨rfl,S',l,m,p⟩ (by omega) (by decide)
  . have d:=Y 14 u (by decide) (fun i k F=>rW s E y F (by simp [Ct]));(repeat' refine sQ ?_<;>simp only [q,Ad,go_sem]);refine ⟨51,[],_,rfl,by kernel_rfl,AN.mk rfl d ?_⟩;rintro _ g ⟨rfl,S',l,m,p⟩;simp only [go_sem];(repeat' refine sP ?_<;>simp only [go_sem]);exact f _ _ _ ⟨rfl,S',l,m,p⟩ (by omega) (by decide)
  . have hlp:=ART u us;(repeat' refine sQ ?_<;>simp only [q,Ad,go_sem]);refine AN.mk rfl hlp ?_;rintro _ _ ⟨⟨z,rfl,hzb⟩,rfl⟩;have d:=Y z 0 hzb (fun i k F=>rW s E y F (by simp [Ct]));simp only [go_sem];refine ⟨51,[],_,rfl,by kernel_rfl,AN.mk rfl d ?_⟩;rintro _ g ⟨rfl,S',l,m,p⟩;simp only [go_sem];(repeat' refine sP ?_<;>simp only [go_sem]);exact f _ _ _ ⟨rfl,S',l,m,p⟩ (by omega) (by decide)
  . (repeat' refine sQ ?_<;>simp only [s1,q,t,Ad,go_sem]);refine AN.mk rfl (Q 22 u) ?_;rintro _ g ⟨rfl,hL⟩;simp only [go_sem];(repeat' refine sP ?_<;>simp only [go_sem]);exact f 1 _ _ (EQ.leaf (by decide) hL) (by omega) (by decide)
  . have d:=Y 23 0 (by decide) (fun i k F=>rW s E y F (by simp [Ct]));(repeat' refine sQ ?_<;>simp only [q,Ad,go_sem]);refine ⟨51,[],_,rfl,by kernel_rfl,AN.mk rfl d ?_⟩;rintro _ g ⟨rfl,S',l,m,p⟩;simp only [go_sem];(repeat' refine sP ?_<;>simp only [go_sem]);exact f _ _ _ ⟨rfl,S',l,m,p⟩ (by omega) (by decide)
  . skip
    obtain ⟨k0,k1,rfl⟩:∃k0 k1,ks=[k0,k1]:=by
     have:ks.length=2:=by simpa [nkB] using L
     match ks,this with
     |[k0,k1],_=>exact ⟨k0,k1,rfl⟩
    simp only [Ex.AQ] at hN hz T f r;have d:=rY (.inr rfl) (op:=24) (t2:= .mk 1 0 []) (by decide) (by decide) (y k0 (by simp)) (y k1 (by simp)) s E ho (by have:=k0.size_pos;have:=k1.size_pos;omega) f5.h;generalize hm:k0.size=z0 at *;generalize hn:k1.size=z1 at *;obtain ⟨o0,hs,u0,hy,hp,he⟩:=k0;obtain ⟨o1,ht,u1,fs,hr,hi⟩:=k1;simp only [exA,tyA,Ex.A6,Ty.J,AB,AJ] at d q;(repeat' refine sQ ?_<;>simp only [s1,q,P,Ad,go_sem]);refine AN.mk rfl (AS.plain (by simp only [I.C3,I.plain];exact d)) ?_;rintro _ g ⟨rfl,S',l,m,p⟩;simp only [go_sem];(repeat' refine sP ?_<;>simp only [go_sem]);exact f _ _ _ ⟨rfl,S',l,m,p⟩ (by omega) (by decide)
end
theorem AQ7 {r:DZ} (h:M3 dt r x=some b) (c:oG dt r fe x.1.toNat):b.params.length=fe.params.length/\x.2.length<=100000:=by
 obtain ⟨s,nt,e,f,⟨m,g,a⟩,d,_⟩:=c
 grind [M3,Vw]
theorem AP6 {d:Dg} (h:u9 p= .error d):d.1≠0:=by
 have c:∀(nt:List (Ty×List Ty)) (a:List (Nat×Int)) (l:List Ed) (d:Dg),Ry nt a l= .error d->d.1≠0:=by
  intro nt a
  induction a with
  |nil=>intro l d h;cases h
  |cons y a e=>
   grind [Ry]
 have b:∀(fs:List FE) (dt:List Dat) (r:DZ) (n i:Nat) (l:List Ed) (d:Dg),Rx fs dt r n i l= .error d->d.1≠0:=by
  intro fs dt r n
  induction n with
  |zero=>intro i l d h;cases h
  |succ n e=>
   grind [Rx]
 grind [u9,Dj,iV,Ps]
theorem AP8 (i:p.sm) (g:Fc p= .ok dt):∀D∈dt,D.name.length<=40:=fun D f=>by
 obtain ⟨_,h⟩:=I9 g;have c:=(No h).1;have b:(D.name,D.vars.toNat)∈FQ dt:=CU f;rw [c] at b;obtain ⟨d,a,e⟩:=BR.1 b;simp only [B3] at e;rw [<- e.1];exact (i.1.2 d a).1
theorem AZC (i:Nat) (g:List Ed) (l:Fc p= .ok dt) (b:PF p.Ca dt):LOK ⟨i,p,dt,g⟩:=by
 refine ⟨b.lf,fun D h=>?_⟩;obtain ⟨j,t⟩:=Hn.1 h;obtain ⟨d,o,_,_,v,w,q⟩:=AP3 l j D t;refine ⟨by grind,fun c k=>⟨?_,((b.dt1 D h).2.2.2 c k).2⟩⟩;obtain ⟨m,u⟩:=Hn.1 k;obtain ⟨e,r,s⟩:=q m c u;obtain ⟨n,_⟩:=I9 l;simp only [Iv,AM] at n;have a:=Ao.1 n.1.2 d (AE o);simp only [Xe,AM] at a;have f:=Ao.1 a.2 e (AE r);simp only [ADE,AM,decide_eq_true_eq] at f;rw [s.2.2.2.2]
 grind
theorem AY6 {r:DZ} (i:Nat) (u:TyG p dt r) (S:∀x∈l,DC p.Ca dt r l x) (hx:x∈l) (g:M3 dt r x=some b) (e:p.Ca[x.1.toNat]?=some fe) (nv:Nat):
 zT ⟨i,p,dt,l⟩ nv ⟨fe.body,0,b.notes,fe.params,b.params,[],-1⟩:=by
 have a:=u.fe _ _ e;obtain ⟨_,Q,w,R,m⟩:=Q4 g a;have L:=AKO g a;have v:=AEO g a;obtain ⟨U,_⟩:=AQ7 g a;obtain ⟨q,Z⟩:=u.pf.ok _ _ e;have T:=u.pf.pr fe (AE e);refine ⟨⟨by grind,fun n o=>⟨(m n o).1,(m n o).2,v n o⟩⟩,⟨fun t ht=>?_,by grind⟩,.inr ⟨rfl,by grind,by simp,fun c N=>(by cases N),fun d P=>⟨fe.params,⟨fun j y z=>?_,by grind⟩,fun s Y=>?_⟩⟩⟩
 . have:=w t ht;simp only [Fg,AM,decide_eq_true_eq] at this;exact this.1
 . have E:=AE z;refine ⟨(q y E).1,(q y E).2,by rw [Av];exact AM3 g a j y z,fun K o=>?_⟩;obtain ⟨b',G,B,D,F⟩:=AHN S (fun f fe h=>u.fe f fe h) x hx;rw [g] at B;cases B;rw [e] at D;cases D;have:=F _ (AFL (fs:=p.Ca) (k:=0) z K o);exact this
 . have:=P s Y.1
   grind
open Go.RowKit Go.Proofs
theorem ATA {a b:List UInt8} (h:a.length+b.length<=4000000000):jX .add a b=some (.d (.str (a++b))):=by
 have:a.length+b.length<=maxLen:=Ai h (by decide+kernel);simp only [jX,if_pos this]
theorem XPv.tJ {K:CV} {F:Fm} {L:Lm} {A:X} {d:Nat} {a b:List UInt8} (h:a.length+b.length<=4000000000) (c:K (put d (.d (.str (a++b))) F) L A):XPv (jX .add a b) (some d) K F L A:=by
 rw [ATA h];exact c
def bys (s:List UInt8):ByteArray:=⟨s.toArray⟩
theorem AC0 (l:List (List UInt8)):(l.map bys).map (·.data.toList)=l:=by
 rw [List.map_map]
 conv=>rhs;rw [<- List.map_id l]
 rfl
theorem AJP (l:List (List UInt8)) (sep:List UInt8) (A:X) (hN:l.length<=100000) (hlen:(Lib.join l sep).length<=4000000000):
 AS Tzp 21 [.d (.sl (l.map CG)),.d (.str sep)] A (fun v H=>v= .d (.str (Lib.join l sep))/\H=A):=by
 intro base g Pr w0 w vs hr hv;obtain ⟨v,u,rfl,h1,h2⟩:=hv.two;have hlen':(Lib.join l sep).length<=maxLen:=Ai hlen (by decide+kernel);cases h2 with|d h2=>cases h2 with|str _=>
 have fin:∀w',Below w.heap.size w w'->∃v av g' H,(Ending.returned (.string ⟨(Lib.join l sep).toArray⟩))=Ending.returned v/\VR g' av v/\Rel base g' Pr H w0 w'/\g.le g'/\KP Pr w w'/\av= .d (.str (Lib.join l sep))/\H=A:=fun w' hb=>by
  obtain ⟨k1,k2⟩:=hr.below hb;exact ⟨_,_,g,A,rfl,.d (.str hlen'),k1,Gh.le_refl g,k2,rfl,rfl⟩
 cases l with
 |nil=>
  cases h1 with|d h1=>
  obtain ⟨a,cap,rfl,_⟩:=h1.NM;refine Calls.mono (show Calls Tzp 21 #[.slice a 0 cap,.string ⟨sep.toArray⟩] w _ from Any.strings_Join_none Tryz.AKR Tryz.Rp a cap ⟨sep.toArray⟩ w) ?_;rintro e w' ⟨rfl,rfl⟩;exact fin _ (Below.refl _ _)
 |cons x l=>
  cases h1 with|d h1=>
  generalize hrows:List.map CG (x::l)=rows at h1;cases h1 with
  |nil=>simp at hrows
  |@sl rows b off cap size f hc hm hs hi hrd=>
   subst hrows
   have hs1:size=1:=by
    have:=hs (CG x) (by simp);simpa [CG] using this.symm
   subst hs1
   have hcell:∀(j:Nat) (y:ByteArray),((x::l).map bys)[j]?=some y->w.cell? ⟨b,off+j,none⟩=some (.string y):=by
    intro j y hy;rw [Az,AO] at hy;obtain ⟨s,hsj,rfl⟩:=hy;have hjl:j < ((x::l).map CG).length:=by grind
    have h3:=hi j 0 hjl (by omega);have h4:=hrd j (CG s) 0 (.str s) (by grind) rfl;generalize f j 0=fv at h3 h4;cases h4;have:=hr.im _ _ _ h3;rw [Ag,CC] at this;exact this
   have hbk:b < w.heap.size:=by
    have h3:=hi 0 0 (by simp) (by omega);exact hr.WT h3
   have hc':((x::l).map bys).length<=cap:=by simpa using hc
   have hcon:=Any.strings_Join Tryz.AKR Tryz.Rp b off cap ((x::l).map bys) ⟨sep.toArray⟩ w hcell hbk (by grind) hc' (by rw [AC0];grind);rw [AC0] at hcon;rw [AA] at hcon ⊢;refine Calls.mono hcon ?_
   grind
theorem oE {l:List (List UInt8)} {sep:List UInt8} {v:I} {A:X} (hv:v.plain= .d (.sl (l.map CG))) (hN:l.length<=100000) (hlen:(Lib.join l sep).length<=4000000000):
 AS Tzp 21 [v,.d (.str sep)] A (fun u H=>u= .d (.str (Lib.join l sep))/\H=A):=
 AS.plain (by simp only [I.C3,I.plain,hv];exact AJP l sep A hN hlen)
def wX:List UInt8:=[44,32]
def It (l:List (List UInt8)):Nat:=(l.map fun s=>s.length+2).sum
theorem Y5 (l:List (List UInt8)) (x:List UInt8):It (l++[x])=It l+(x.length+2):=by simp [It]
theorem rV:∀l:List (List UInt8),(Lib.join l wX).length<=It l
 |[]=>by simp [Lib.join_nil]
 |x::l=>by
  rw [Lib.join_cons,A0]
  have:(Lib.joinTail wX l).length=It l:=by
   unfold Lib.joinTail It
   induction l with
   |nil=>rfl
   |cons y l a=>
    grind [BO,A0,wX]
  grind [It]
theorem AJA {l:List (List UInt8)} {x:List UInt8} (h:l[i]?=some x):It (l.take i)+x.length+2<=It l:=by
 have:It l=It (l.take (i+1))+It (l.drop (i+1)):=by
  unfold It;rw [<- List.sum_append,<- A4,Am]
 rw [Aa h,Y5] at this;omega
theorem AWN {rows:List (List DV)} {m:Nat} (h:m<=rows.length):Z3 rows none (some (.d (.int .i64 (m:Int)))) none 1=some (.d (.sl (rows.take m))):=by
 simp [Z3,fZ,Vm,h]
def TxQ (t:Ty) (A:X) (v:I) (H:X):Prop:=(∃s,v= .d (.str s)/\s.length+2<=60 * t.size)/\H=A
theorem AWR (data:List Dat) (hd:∀d∈data,d.name.length<=40):∀(n:Nat) (t:Ty) (A:X),t.size<=n->n<=1000->C1 data 101 t=true->A.gt TT=some Ul->
 AS Tzp 46 [dsA data,tyA t] A (TxQ t A):=by
 intro n
 induction n using DK with
 |_ n ih=>
  intro t A hn hm m U;obtain ⟨N,nm,l⟩:=t;have hk:(Ty.mk N nm l).size=1+Ty.AQ l:=rfl;have hc:=TY l
  have o:Bt data 101 l=true/\DS data 101 N nm l.length=true:=by
   simp only [C1,AM] at m;exact ⟨m.2,m.1⟩
  refine wF.go ?_;rw [B4,dsA];(repeat' refine sQ ?_<;>simp only [CX,go_sem])
  refine lpK (fun (y:Nat×I×X)=>[(5,y.2.1),(13,A1 y.1)]) (fun y=>y.2.2)
   (fun y=>y.1<=l.length/\∃j:List (List UInt8),j.length=y.1/\It j<=60 * Ty.AQ (l.take y.1)/\Bn A 9 1 (j.map CG) y.2.1 y.2.2) (fun y=>l.length - y.1) ?_ (0,.Ac,A) ⟨by simp,[],rfl,by simp [It],Bn.nil _ _ _⟩
  rintro ⟨i,v,σ1⟩ ⟨hi,j,k,G,c⟩ L;simp only at hi k G c;have r:σ1.gt TT=some Ul:=by rw [<- c.le.gt];exact U
  by_cases e:i < l.length
  . obtain ⟨t',ht⟩:=Ak e;have h3:Ty.AQ (l.take (i+1))=Ty.AQ (l.take i)+t'.size:=by rw [Aa ht,Ko]
    have hg:=D3 l (i+1);have h4:=lL o.1 (AE ht);have g:=ih t'.size (by omega) t' σ1 (AW _) (by omega) h4 r;unfold TxQ at g;generalize t'.size=z at *;obtain ⟨hl,hp,al⟩:=t';have he:=JM ht;have B:=wS i;simp only [tyA,dsA,Ty.J,AB,AJ] at g;(repeat' refine sQ ?_<;>simp only [BI e,he,c.w4,go_sem]);refine AN.mk rfl g ?_;rintro _ _ ⟨⟨s,rfl,h6⟩,rfl⟩;simp only [go_sem];refine DH.own c rfl (by simp) (by simp;omega) (by decide) (fun v2 σ2 w h8=>?_);simp only [go_sem];(repeat' refine sQ ?_<;>simp only [B,go_sem]);refine L (i+1,v2,σ2) ⟨by simp only;omega,j++[s],by simp [k],?_,?_⟩ (by simp only;omega)
    . simp only [Y5,h3];omega
    . simp only;rw [A4];exact w
  have Y:i=l.length:=by omega
  subst Y;rw [Ar] at G;clear L ih;have Z:=rV j;have D:=oE (sep:=wX) (A:=σ1) c.plain (by omega) (by omega);have b:[v,I.d (.str wX)].all I.BS=true:=by simp only [BK,Cl,c.BS,Je,XF]
  have a:=c.len;rw [AA,k] at a;unfold wX at D b Z;by_cases k4:N=4
  . subst k4;have hf:=(by have:=o.2;simp [DS] at this;omega:0<=nm/\nm<=1000);have hb:=Lib.itoa_length_le nm (by omega) (by omega);(repeat' (first|refine sQ ?_|(refine AN.det D ?_ b)|(refine XPv.tJ (by (try simp only [AT,A8]);omega) ?_)|(refine W.By NZ (σ2:=A) c.le ?_)|refine AN.det (Og nm _ r) ?_|fail)<;>try simp only [B5 e,Ad,go_sem]);exact ⟨⟨_,rfl,by (try simp only [AT]);omega⟩,rfl⟩
  by_cases k5:N=5
  . subst k5;have f:=o.2;simp [DS] at f;obtain ⟨ha,f⟩:=f;obtain ⟨p,rfl⟩:∃p:Nat,nm=p:=⟨nm.toNat,by omega⟩;simp only [BX] at f;cases u:data[p]? with
    |none=>rw [u] at f;simp at f
    |some d=>
     have T:=NX u;have h9:d.name.length<=40:=hd d (AE u);cases h1:(l.length==0)<;>
     . (repeat' (first|refine sQ ?_|(refine AN.det D ?_ b)|(refine XPv.tJ (by (try simp only [A0,AT,A8]);omega) ?_)|(refine W.By NZ (σ2:=A) c.le ?_)|fail)<;>try simp only [B5 e,a,Ad,AVM,h1,T,go_sem]);exact ⟨⟨_,rfl,by (try simp only [A0,AT,A8]);omega⟩,rfl⟩
  by_cases k9:N=9
  . subst k9;have f:=o.2;have h7:1<=l.length:=by simp [DS] at f;omega
    obtain ⟨q,hq⟩:∃q,l.length=q+1:=⟨l.length - 1,by omega⟩
    have h2:j.map CG≠[]:=by
     intro h;have:=congrArg List.length h;rw [AA,A8] at this;omega
    obtain ⟨tk,rfl⟩:=c.AKQ h2;obtain ⟨x,hx⟩:=Ak (l:=j) (i:=q) (by omega);have K:=Au (J:=CG) hx;simp only [CG] at K;have h5:IntKind.i64.wrap ((l.length:Int) - 1)=(q:Int):=by rw [B2 (by omega) (by omega)];omega
    have E:(j.map CG).length=l.length:=by rw [AA,k]
    have F:Z3 (j.map CG) none (some (A1 q)) none 1=some (BU ((j.take q).map CG)):=by
     rw [AWN (by rw [E];omega),List.map_take]
    have h0:=rV (j.take q);have hj:=AJA hx;unfold wX at h0;have S:=AJP (j.take q) [44,32] σ1 (by rw [Bs];omega) (by omega);(repeat' (first|refine sQ ?_|(refine AN.det D ?_ b)|(refine AN.det S ?_)|(refine W.Gs mixed ?_)|(refine XPv.tJ (by (try simp only [A0,AT,A8]);omega) ?_)|(refine W.By NZ (σ2:=A) c.le ?_)|(with_reducible refine DF ?_ ?_)|fail)<;>try simp only [B5 e,a,Ad,h5,F,K,go_sem])
    all_goals exact ⟨⟨_,rfl,by (try simp only [A0,AT,A8]);omega⟩,rfl⟩
  have P:=Fb k4;have Q:=Fb k5;have R:=Fb k9;(repeat' first|refine ctQ rfl ?_|(refine RA (by first|exact GV.t|exact GV.f|exact GV.st|exact GV.sf) ⟨?_,fun h=>?_,?_⟩;rotate_left;(focus ((try simp only [AM,OS] at h);simp only [B5 e,c.w4,a,P,Q,R,go_sem];first|exact Is.mk|exact Is.pv (by simp only [h,WY,↓Vq,↓lD,↓AIR,B5 e,c.w4,a,P,Q,R,go_sem];rfl)));(try simp only [AWK,AZV,AZW,↓Vq,↓lD,↓AIR,B5 e,c.w4,a,P,Q,R,go_sem]))|((first|refine rgQ mxQ ?_|refine cdQ ?_|(refine AN.det D ?_ b)|(refine XPv.tJ (by (try simp only [A0,AT,A8]);omega) ?_)|(refine W.By NZ (σ2:=A) c.le ?_))<;>try simp only [B5 e,P,Q,R,go_sem])|(refine ⟨fun h=>?_,fun h=>?_⟩<;>first|(cases h;done)|try simp only [h])|fail)
  all_goals exact ⟨⟨_,rfl,by (try simp only [A0,AT,A8]);omega⟩,rfl⟩
theorem ALM (data:List Dat) (e:∀d∈data,d.name.length<=40) (t:Ty) (A:X) (c:A.gt TT=some Ul):AS Tzp 20 [dsA data,tyA t] A (fun v H=>(∃s,v= .d (.str s)/\s.length<=12000)/\H=A):=by
 have a:=W4 data t 101 A;cases h:(decide (t.size<=200)&&C1 data 101 t) with
 |false=>
  rw [h] at a;obtain ⟨f,nm,l⟩:=t;refine WS.go ?_;(repeat' (first|refine sP ?_|refine AN.det (a) ?_|fail)<;>try simp only [go_sem])
  grind
 |true=>
  rw [h] at a;simp only [AM,decide_eq_true_eq] at h;have b:=AWR data e 1000 t A (by omega) (by omega) h.2 c;have i:=h.1;unfold TxQ at b;generalize t.size=z at *;obtain ⟨f,nm,l⟩:=t;refine WS.go ?_;rw [B4];simp only [tyA,dsA,Ty.J,AB,AJ] at b;(repeat' (first|refine sQ ?_|refine AN.det (a) ?_|fail)<;>try simp only [go_sem]);refine AN.mk rfl b ?_;rintro _ _ ⟨⟨s,rfl,g⟩,rfl⟩;simp only [go_sem];(repeat' refine sP ?_<;>simp only [go_sem])
  grind
section
variable {B:LB} {O A V Φ Ψ Φ':X} {S:LSt}
theorem LG.AXR {V σ2:X} {cv cv' ja':I} {c:Cd} (h:LG B O A S cv vv ev ja nv) (a:SOK B (S.Nb c j)) (f:MsL O V B.i [⟨tkC,7,S.Bw.length+1,rwC Cd.row S.Bw++c.row,cv'⟩,mwV S vv,mwX S ev])
 (b:HX O (⟨tkJ,12,S.JO.map Jb.J++[j.J],ja'⟩::S.xs.map XE.ow) σ2) (d:List I) (e:∀i,σ2.C i=(V.AI B.i d).C i):LH B O (σ2.AI B.i (lgC B S.fl cv' vv ev ja' nv)) (S.Nb c j):=⟨_,_,_,_,_,h.Nb a f b d e⟩
theorem AA6 {f:Nat} {args:List Ty} (hfe:B.p.Ca[f]?=some fe) (hdn:∀d∈B.dt,d.name.length<=40) (hfn:fe.name.length<=40) (hal:args.length<=100000)
 (hN:∀A,AS Tzp 22 [pgA B.p,.agg [.d (.int .i64 (f:Int)),L9 args]] A (fun v H=>v= .tup [.d (.sl (b.notes.map Cf)),.d (.bool true)]/\H=A))
 (hP:∀A,AS Tzp 23 [pgA B.p,.agg [.d (.int .i64 (f:Int)),L9 args]] A (fun v H=>v= .tup [.d (.sl (b.params.map Ty.J)),tyA b.res,.d (.bool true)]/\H=A))
 (hj:zT B S.vars.length ⟨fe.body,0,b.notes,fe.params,b.params,[],-1⟩) (hr:b.res.size<=200) (hl:S.Bw.length < 64) (hgt:A.gt TT=some Ul) {cv:I} (hL:LG B O A S cv vv ev ja nv):
 AS Tzp 12 [.gp B.i 0,.agg [.d (.int .i64 (f:Int)),.d (.sl (Ty.Cz args))]] A (fun v H=>v= .tup []/\∃nm,(args=[]->nm=fe.name)/\LH B O H (S.Nb ⟨nm,.d (.sl []),.d (.sl []),b.res,0⟩ ⟨fe.body,0,b.notes,fe.params,b.params,[],-1⟩)):=by
 have hbi:=hL.bi;have hok:=hL.ok;have hgi:=hL.gi;obtain ⟨hv,_,_⟩:=hL.cel;have hja:=hL.ow.head;simp only at hja;have hfr:=Au (J:=FE.J) hfe;have hfT:=ltT (AG.1 hfe).1;have hFo:=fun t V (ht:V.gt TT=some Ul)=>ALM B.dt hdn t V ht;have hfin:=fun nm cv' ja' (V σ2:X) I1 hm how hb=>hL.AXR (c:=⟨nm,.d (.sl []),.d (.sl []),b.res,0⟩) (j:=⟨fe.body,0,b.notes,fe.params,b.params,[],-1⟩) (cv':=cv') (ja':=ja') (V:=V) (σ2:=σ2) (hok.Nb hr hj hl) hm how I1 hb;refine Rb (by simp) ?_;rw [B4];obtain ⟨nts,pps,⟨rk,rn,rl⟩⟩:=b;obtain ⟨fnm,fps,o,on,ou,ons,oks,oal⟩:=fe;simp only [FE.J,Ex.A6] at hfr;simp only [pgA,Pg.J,L9,tyA,Ty.J,AB,AJ] at hN hP;simp only [Jb.J,Cd.row,Ex.A6,AU,A3,Ty.kind,Ty.num,Ty.args] at hfin;simp only at hfn;unfold lgC at hbi;(repeat' (first|(refine sQ ?_<;>try simp only [hbi,hfr,F8,BX,CX,go_sem])|(refine ⟨fun h=>?_,fun h=>?_⟩<;>first|(cases h;done)|try simp only [h])|fail))
 case' refine_1=>
  have hpos:0 < args.length:=by simpa using h
  clear h
  refine lpK (fun (y:Nat×I×X)=>[(6,y.2.1),(32,.d (.int .i64 (y.1:Nat)))]) (fun y=>y.2.2)
   (fun y=>y.1<=args.length/\∃ss:List (List UInt8),ss.length=y.1/\It ss<=12002 * y.1/\Bn A 9 1 (ss.map CG) y.2.1 y.2.2) (fun y=>args.length - y.1) ?_ (0,.Ac,A) ⟨by simp,[],rfl,by simp [It],Bn.nil _ _ _⟩
  rintro ⟨i,v,V⟩ ⟨hi,ss,hsl,hsm,ho⟩ ih;simp only at hi hsl hsm ho;have hbτ:=ho.le.C _ _ hbi;by_cases hlt:i < args.length
  case' pos=>
   obtain ⟨t,ht⟩:=Ak hlt;have hcall:=hFo t V (by rw [<- ho.le.gt];exact hgt);have hw1:=Gv (show i+1<=9000000000000000000 by omega);obtain ⟨t1,t2,t3⟩:=t;have he:=JM ht;simp only [tyA,dsA,Ty.J,AB,AJ] at hcall he;(repeat' (refine sQ ?_<;>try simp only [hbτ,BI hlt,he,ho.w4,go_sem]));refine AN.mk rfl hcall ?_;rintro _ _ ⟨⟨s,rfl,hs⟩,rfl⟩;simp only [go_sem];refine DH.own ho rfl (by simp) (by simp;omega) (by decide) (fun v2 τ2 ho2 hbk=>?_);simp only [go_sem];(repeat' (refine sQ ?_<;>try simp only [hw1,go_sem]));exact ih (i+1,v2,τ2) ⟨hlt,ss++[s],by simp [hsl],by rw [Y5];simp only;omega,by rw [A4];exact ho2⟩ (by simp only;omega)
  case' neg=>
   have hie:i=args.length:=by omega
   subst hie;clear ih;have hjl:=rV ss;have hJ:=oE (sep:=wX) (A:=V) ho.plain (by omega) (by omega);have hnoLp:[v,I.d (.str wX)].all I.BS=true:=by simp only [BK,Cl,ho.BS,Je,XF]
   unfold wX at hJ hnoLp hjl;have hL:=hL.ext (Ψ:=O) ho.le (X.le_trans hL.le ho.le) (fun _ h=>h) fun _ _=>rfl;have hne:args≠[]:=fun e=>by grind
   have hbi:=hbτ;(repeat' ((first|refine sQ ?_|(refine AN.det hJ ?_ hnoLp)|(refine XPv.tJ (by grind) ?_)|fail)<;>try simp only [B5 hlt,hbi,go_sem]))
 case' refine_2=>
  clear h;have hne:=trivial
 all_goals
  have hbi:=hL.bi;have hgi:=hL.gi;have hja:=hL.ow.head;have hfin:=fun nm cv' ja' (V σ2:X) I1 hm how hb=>hL.AXR (c:=⟨nm,.d (.sl []),.d (.sl []),.mk rk rn rl,0⟩) (j:=⟨.mk o on ou ons oks oal,0,nts,fps,pps,[],-1⟩) (cv':=cv') (ja':=ja') (V:=V) (σ2:=σ2) (hok.Nb hr hj hl) hm how I1 hb;have hep:Ty.Cz pps=pps.map Ty.J:=by rw [Ty.BQ]
  simp only [Jb.J,Cd.row,Ex.A6,AU,A3,Ty.kind,Ty.num,Ty.args,hep] at hfin hja;have hcj:=hok.cj;unfold lgC at hbi;refine AN.mk rfl (hN _) ?_;rintro _ _ ⟨rfl,rfl⟩;simp only [go_sem];(repeat' ((first|refine sQ ?_|refine AN.det (hP _) ?_|fail)<;>try simp only [hbi,hv.cell,go_sem]));refine JU.row (m:=mwC S cv) hL.ms hL.le hgi rfl (by simp [mwC]) (by simp) (by simp only [mwC,AT,A8];omega) (by omega) (by simp [mwC]) (fun jb τ2 hm e1 hle htk=>?_);rw [hbi] at e1;simp only [mwC,AT,A8,Av];have hja2:=(hL.ow.AET hle htk).head;simp only at hja2;simp only [e1,if_true,go_sem];(repeat' (refine sQ ?_<;>try simp only [e1,AD,if_true,hja2.cell,go_sem]));refine DH.AV2 (cx:=EF) (O:=O) (l:=S.xs.map XE.ow) ((hL.ow.AET hle htk).set hL.i0 _) rfl (by simp) (by simp;omega) (by omega) (fun ja' σ2 how hb2=>?_);have hF:=hfin _ _ ja' τ2 σ2 _ hm how hb2;have hj2:=how.head;have e2:=hb2 B.i;rw [AD,if_pos rfl] at e2;simp only at hj2;unfold lgC at hF;simp only [e2,if_true,hj2.cell,hj2.cells,go_sem];exact W.fin R7 rfl (fun _ _ h=>h) (X.le_refl _) ⟨rfl,_,fun e=>(by grind),hF⟩
end
section
variable {B:LB} {O A V Φ Ψ Φ':X} {S:LSt}
def LSt.wL (S:LSt) (i:Nat) (f:Cd->Cd):LSt:= { S with Bw:=S.Bw.modify i f}
theorem LG.cd {cv:I} (h:LG B O A S cv vv ev ja nv) {x:Cd} (f:S.Bw[i]?=some x):∃j,cv= .ms j S.Bw.length 7 tkC/\A.C j=some (rwC Cd.row S.Bw)/\O.C j=none/\B.i≠j:=by
 have d:=(AG.1 f).1;rcases (h.ms.1 (mwC S cv) (by simp)).2 with ⟨a,_⟩|⟨_,j,a,b,c⟩
 . simp only [mwC] at a;omega
 . refine ⟨j,a,b,c,fun e=>?_⟩;have:=(BZ.1 h.ms.2).1 (mwC S cv).v (by simp);exact this B.i rfl (by rw [a,e];rfl)
theorem LG.vr {cv:I} (h:LG B O A S cv vv ev ja nv) {t:Ty} (e:S.vars[i]?=some t):∃j,vv= .ms j S.vars.length 3 tkV/\A.C j=some (rwC (fun t:Ty=>t.J.map I.d) S.vars):=by
 have d:=(AG.1 e).1
 have c:BL (S.vars.map Ty.J)=rwC (fun t:Ty=>t.J.map I.d) S.vars:=by
  generalize S.vars=l
  induction l with
  |nil=>rfl
  |cons x l f=>rw [AB,FU,<- f];simp [BL]
 rcases (h.ms.1 (mwV S vv) (by simp)).2 with ⟨a,_⟩|⟨_,j,a,b,g⟩
 . simp only [mwV] at a;omega
 . exact ⟨j,a,by rw [<- c];exact b⟩
theorem Qb (S:LSt) (i:Nat) (f:Cd->Cd):(S.wL i f).Bw.length=S.Bw.length:=List.length_modify ..
theorem LG.wL {cv vv ev ja nv:I} {i j:Nat} {f:Cd->Cd} (h:LG B O A S cv vv ev ja nv) (o:∀c,(f c).res=c.res) (p:cv= .ms j S.Bw.length 7 tkC) (b:O.C j=none) (d:B.i≠j):LG B O (A.AI j (rwC Cd.row (S.wL i f).Bw)) (S.wL i f) cv vv ev ja nv:=by
 have m:=h.ms.AS0 (j:=j) (by simp only [mwC];exact p) (cs:=rwC Cd.row (S.wL i f).Bw) (by simp only [mwC];rw [Dd Cd.row 7 Cd.Bj,Dd Cd.row 7 Cd.Bj,Qb]);have e:mwC (S.wL i f) cv= { mwC S cv with cells:=rwC Cd.row (S.wL i f).Bw}:=by unfold mwC;rw [Qb]
 refine ⟨by rw [AD,if_neg d];exact h.bi,by rw [e];exact m,h.ow.set b _,B6 h.le b,h.i0,h.rv,h.nv,⟨h.ok.jb,h.ok.vz,fun c n=>?_,by rw [Qb];exact h.ok.cj,by rw [Qb];exact h.ok.c64,h.ok.nt⟩⟩;obtain ⟨k,a⟩:=Hn.1 n;have a:(S.Bw.modify i f)[k]?=some c:=a;rw [I5] at a;cases g:S.Bw[k]? with
 |none=>rw [g] at a;cases a
 |some l=>
  rw [g] at a;have:=h.ok.cz l (AE g);simp only [Option.map_eq_map,Ap,AP] at a;subst a;split
  . rw [o];exact this
  . exact this
theorem DH.Ac6 {K:CV} {F:Fm} {L:Lm} {d:Option Nat} {e s bytes:Nat} {x:I} {rs:List (List DV)} (h:LH B Φ V S) (n:x.rows=some rs) (m:∀r∈rs,r.length=s) (o:rs.length<=100000000) (k:bytes<=10000)
 (j:∀i c a,Lw e s Φ rs i c->LH B c a S->(∀b,a.C b=V.C b)->K (BW d i F) L a):DH e s bytes .Ac x d K F L V:=by
 refine DH.mk (rows:=[]) (srows:=rs) (σ1:=V) rfl n m (Ai (show 0+rs.length<=1000000000 by omega) (by decide)) (Ai (Tm (show 0+rs.length<=100000001 by omega) k) (by decide)) (fun t g=>?_)
 have f:Φ.tok t=false:=by
  cases l:Φ.tok t with
  |false=>rfl
  |true=>rw [h.le.tok t l] at g;cases g
 exact j _ _ _ (.inr ⟨t,f,rfl,rfl⟩) (h.APE g) fun _=>rfl
theorem LG.Ab0 {cv:I} (h:LG B O A S cv vv ev ja nv) (e:ALO B nt):LG B O (A.AI B.i (lgC B S.fl cv vv ev ja (.d (.sl (nt.map Cf))))) { S with nt:=nt} cv vv ev ja (.d (.sl (nt.map Cf))):=by
 obtain ⟨b,c,d⟩:=h.wY (lgC B S.fl cv vv ev ja (.d (.sl (nt.map Cf))));have a:=h.ok;exact ⟨BB,b,c,d,h.i0,h.rv,fun _=>rfl,⟨a.jb,a.vz,a.cz,a.cj,a.c64,e⟩⟩
end
section
variable {B:LB} {O A V Φ Ψ Φ':X} {S:LSt}
structure CoQ (S S':LSt) (j:Jb):Prop where
 nf:NFx S.xs.length [] S'
 xs:∀(i:Nat) (x:XE),S.xs[i]?=some x->S'.xs[i]?=some x
 xl:S.xs.length<=S'.xs.length
 vl:S.vars.length<=S'.vars.length
 bd:S'.sz<=S.sz+102000
 aw:j.callee=-1->j.body.op=3->j.types=[]->j.Ae=[]->(∃t:Ty,S'.xs=S.xs++[D4 3 j.body.num t])/\S'.Bw.map (·.name)=S.Bw.map (·.name)/\S'.JO=S.JO/\S'.fl=S.fl/\S'.vars.length=S.vars.length
theorem TQ {α β:Type} (g:α->β) (f:α->α) (h:∀a,g (f a)=g a) (l:List α) (i:Nat):(l.modify i f).map g=l.map g:=by
 apply Dw;intro q;rw [Az,Az,I5];cases l[q]? with
 |none=>rfl
 |some c=>by_cases e:i=q<;>simp [e,h]
theorem ARG (hB:LOK B) (hi:S.JO[i]?=some j) (hz:S.sz<=40000000) (h:LH B O A S):
 AS Tzp 13 [.gp B.i 0,.d (.int .i64 (i:Int))] A (fun v H=>v= .tup []/\∃S',LH B O H S'/\CoQ S S' j):=by
 obtain ⟨cv,vv,ev,ja,nv,hg⟩:=id h;have hbi:=hg.bi;have hok:=hg.ok;have hil:=(AG.1 hi).1;have hci:i < S.Bw.length:=by rw [hok.cj];exact hil
 obtain ⟨cd,hcd⟩:=Ak hci;have vs:=Au (J:=Jb.J) hi;have hjT:=ltT hil;have how:=hg.ow.head;simp only at how;obtain ⟨tj,rfl⟩:=how.AKQ (fun e=>by rw [e] at vs;cases vs);clear how;obtain ⟨⟨hn1,hn2⟩,⟨ht1,ht2⟩,hor⟩:=hok.jb j (AE hi);have h9:=hg.Ab0 (nt:=j.notes) ⟨hn1,hn2⟩;refine Wq.go ?_;rw [B4];obtain ⟨body,at_,E,g,types,Ae,callee⟩:=j;simp only at hn1 hn2 ht1 ht2 hor h9;obtain ⟨o,nm,u,ns,ks,al⟩:=body;simp only [Jb.J,Ex.A6,AU,A3] at vs;unfold lgC at hbi;(repeat' refine sQ ?_<;>simp only [hbi,vs,CX,go_sem]);unfold lgC at h9;generalize A.AI B.i _=τ0 at h9 ⊢;have L:LH B O τ0 { S with nt:=E}:=⟨_,_,_,_,_,h9⟩;clear h9 hbi hg;generalize N:({ S with nt:=E}:LSt)=S1 at L;have h7:S1.vars=S.vars:=by rw [<- N]
 have hS1x:S1.xs=S.xs:=by rw [<- N]
 have hS1n:S1.nt=E:=by rw [<- N]
 have hS1z:S1.sz=S.sz:=by rw [<- N];rfl
 refine lpK (fun (y:Nat×I×X)=>[(5,y.2.1),(6,.Ac),(32,A1 (y.1:Nat))]) (fun y=>y.2.2)
  (fun y=>y.1<=types.length/\∃Φ',Lw tkI 1 O ((HT S.vars.length y.1).map Ez) y.2.1 Φ'/\LH B Φ' y.2.2 (S1.Cc (types.take y.1))) (fun y=>types.length - y.1) ?_ (0,.Ac,τ0) ⟨by simp,O,.inl ⟨rfl,rfl,rfl⟩,L.AX1 types⟩
 clear L;rintro ⟨k,w,V⟩ ⟨hk,Φ1,hw,Q⟩ ih;simp only at hk hw Q;have b:=hw.row;by_cases n:k < types.length
 . obtain ⟨t,ht⟩:=Ak n;have h0:=wS k;have hvl:(S1.Cc (types.take k)).vars.length=S.vars.length+k:=by simp only [LSt.Cc,A0,Bs,h7];omega
   have hvz:(S1.Cc (types.take k)).sz=S1.sz+k:=by simp only [LSt.sz,LSt.Cc,A0,Bs];omega
   have P:=Yp (B:=B) t (ht1 t (AE ht)) (by omega) Q;rw [VD,<- Aa ht,hvl] at P;obtain ⟨t1,t2,t3⟩:=t;have he:=JM ht;simp only [tyA,Ty.J,AB,AJ] at P;(repeat' refine sQ ?_<;>simp only [BI n,he,b.Cp,go_sem]);refine AN.mk rfl P ?_;rintro _ τ1 ⟨rfl,L⟩;simp only [go_sem];refine DH.loc hw L rfl rfl (by simp [HT];omega) (by omega) (fun w2 hn τ2 hw2 hL2 hb2=>?_);have m:=hw2.row;simp only [go_sem];(repeat' refine sQ ?_<;>simp only [h0,go_sem]);exact ih (k+1,w2,τ2) ⟨n,hn,by simp only [Vo,A4];exact hw2,hL2⟩ (by simp only;omega)
 have hf:k=types.length:=by omega
 subst hf;clear ih;rw [Ar] at Q;generalize G:S1.Cc types=p at Q;have hS2v:p.vars.length=S.vars.length+types.length:=by rw [<- G];simp only [LSt.Cc,A0,h7]
 have hS2x:p.xs=S.xs:=by rw [<- G,<- hS1x];rfl
 have hS2n:p.nt=E:=by rw [<- G,<- hS1n];rfl
 have hS2z:p.sz=S.sz+types.length:=by rw [<- G,<- hS1z];simp only [LSt.sz,LSt.Cc,A0];omega
 have hS2o:p.vars.take S.vars.length=S.vars:=by rw [<- G,<- h7];simp [LSt.Cc]
 (repeat' refine sQ ?_<;>simp only [B5 n,AA,go_sem]);clear n
 refine lpK (fun (y:Nat×I×Ch×I×X)=>[(6,y.2.1),(9,y.2.2.2.1),(46,A1 (y.1:Nat))]) (fun y=>y.2.2.2.2)
  (fun y=>y.1<=Ae.length/\PlV y.2.2.2.1 (chD y.2.2.1)/\∃Φ' ts l,Lw tkI 1 Φ1 ((HT p.vars.length y.1).map Ez) y.2.1 Φ'/\LH B Φ' y.2.2.2.2 (p.Cc ts)/\ts.length=y.1/\y.2.2.1=GR [] l/\l.map (·.1)=(Ae.map (·.1)).take y.1/\Ho (p.vars.length+y.1) y.2.2.1/\∀x∈y.2.2.1,(p.vars.length:Int)<=x.2) (fun y=>Ae.length - y.1) ?_ (0,.Ac,[],.Dt,V) ⟨by simp,PlV.Dt,Φ1,[],[],.inl ⟨rfl,rfl,rfl⟩,by rw [fU];exact Q,rfl,rfl,rfl,Ho.nil _,fun x hx=>by cases hx⟩
 clear Q;have a:=b;have hm:=hw;clear b hw;rintro ⟨k,w2,ck,bv,V⟩ ⟨hk,d,hn,ts,l,hw,Q,htl,hck,us,hco,hge⟩ ih;simp only at hk d hw Q htl hck us hco hge;have b:=hw.row;have hvl:(p.Cc ts).vars.length=p.vars.length+k:=by simp only [LSt.Cc,A0];omega
 have hvz:(p.Cc ts).sz=p.sz+k:=by simp only [LSt.sz,LSt.Cc,A0];omega
 have hcl:Ae.length<=1000/\∀c∈Ae,0<=c.2/\c.2 < (S.vars.length:Int):=by
  rcases hor with ⟨_,_,e⟩|⟨_,_,F,Z,_⟩
  . subst e;exact ⟨by simp,fun c hc=>by cases hc⟩
  . exact ⟨F,Z⟩
 by_cases n:k < Ae.length
 . obtain ⟨⟨cn,cx⟩,ht⟩:=Ak n;obtain ⟨hcx0,hcx1⟩:=hcl.2 _ (AE ht);simp only at hcx0 hcx1;obtain ⟨q,rfl⟩:∃q:Nat,cx=q:=⟨cx.toNat,by omega⟩;have h0:=wS k;have he:=Au (J:=Sk) ht;simp only [Sk] at he;obtain ⟨cv3,vv3,ev3,ja3,nv3,hg3⟩:=id Q;obtain ⟨t,hj⟩:=Ak (l:=(p.Cc ts).vars) (i:=q) (by omega);obtain ⟨jv,rfl,hjv⟩:=hg3.vr hj;have b3:=hg3.bi;unfold lgC at b3;have hqT:=ltT (AG.1 hj).1
   have hql:(q * 3+3<=(rwC (fun t:Ty=>t.J.map I.d) (p.Cc ts).vars).length)=True:=by
    have:=(AG.1 hj).1;rw [Dd _ 3 (fun t=>by obtain ⟨⟩:=t;rfl)];simp;omega
   have hqk:((rwC (fun t:Ty=>t.J.map I.d) (p.Cc ts).vars).drop (q * 3)).take 3=t.J.map I.d:=YZ _ 3 (fun t=>by obtain ⟨⟩:=t;rfl) hj;have P:=Yp (B:=B) t (hg3.ok.vz t (AE hj)) (by omega) Q;rw [VD,hvl] at P;obtain ⟨t1,t2,t3⟩:=t;simp only [tyA,Ty.J,AB,AJ] at P hqk;(repeat' refine sQ ?_<;>simp only [BI n,he,b3,hjv,hqT,hql,hqk,F8,BX,b.Cp,d.Cp,a.Cp,go_sem]);refine AN.mk rfl P ?_;rintro _ τ1 ⟨rfl,L⟩;simp only [go_sem];(repeat' refine sQ ?_<;>simp only [go_sem]);refine DH.loc hw L rfl rfl (by simp [HT];omega) (by omega) (fun w3 Φ3 τ2 hw3 hL2 hb2=>?_);have m:=hw3.row;have hwc:=Qa bv ck d cn ((p.vars.length+k:Nat):Int) τ2;simp only [go_sem];(repeat' (first|refine sQ ?_|(refine AN.det hwc ?_ (by simp only [BK,Cl,d.BS];rfl))|fail)<;>try simp only [h0,go_sem]);refine ih (k+1,w3,Et ck cn ((p.vars.length+k:Nat):Int),.d (chD (Et ck cn ((p.vars.length+k:Nat):Int))),τ2) ⟨n,PlV.d _,Φ3,ts++[.mk t1 t2 t3],l++[(cn,((p.vars.length+k:Nat):Int))],?_,hL2,by simp [htl],?_,?_,hco.with cn,fun x hx=>?_⟩ (by simp only;omega)
   . rw [Vo,A4];exact hw3
   . rw [SH,hck]
   . rw [A4,us,Aa (show (Ae.map (·.1))[k]?=some cn by rw [Az,ht];rfl)];rfl
   . rcases AF9 hx with F|F
     . exact hge x F
     . rw [F];omega
 have hf:k=Ae.length:=by omega
 subst hf;clear ih;rw [AR (by simp)] at us;(repeat' refine sQ ?_<;>simp only [B5 n,AA,go_sem]);clear n
 have hpt:g.length<=types.length:=by
  rcases hor with ⟨_,e,_⟩|⟨_,F,_⟩
  . rw [e];simp
  . exact F
 have hS3v:(p.Cc ts).vars.length=S.vars.length+types.length+Ae.length:=by simp only [LSt.Cc,A0];omega
 have hS3z:(p.Cc ts).sz=S.sz+types.length+Ae.length:=by rw [hvz,hS2z]
 have K:(p.Cc ts).xs=S.xs:=by rw [<- hS2x];rfl
 have hS3n:(p.Cc ts).nt=E:=by rw [<- hS2n];rfl
 have R:(p.Cc ts).Bw=S.Bw:=by rw [<- G,<- N];rfl
 have hS3j:(p.Cc ts).JO=S.JO:=by rw [<- G,<- N];rfl
 have hS3f:(p.Cc ts).fl=S.fl:=by rw [<- G,<- N];rfl
 have hco3:Ho (p.Cc ts).vars.length ck:=hco.mono (by omega);generalize p.Cc ts=z at Q hS3v hS3z K hS3n R hS3j hS3f hco3
 refine lpK (fun (y:Nat×Ch×I)=>[(9,y.2.2),(74,A1 (y.1:Nat))]) (fun _=>V)
  (fun y=>y.1<=g.length/\PlV y.2.2 (chD y.2.1)/\(∃l2,y.2.1=GR ck l2/\l2.map (·.1)=g.take y.1)/\Ho z.vars.length y.2.1/\∀x∈y.2.1,(p.vars.length:Int)<=x.2\/x.2 < ((S.vars.length+y.1:Nat):Int)) (fun y=>g.length - y.1) ?_ (0,ck,bv) ⟨by simp,d,⟨[],rfl,rfl⟩,hco3,fun x hx=>.inl (hge x hx)⟩
 clear d;rintro ⟨k,c3,bv⟩ ⟨hk,d,⟨l2,hc3,cs⟩,h8,hb⟩ ih;simp only at hk d hc3 cs h8 hb;by_cases n:k < g.length
 . obtain ⟨x,hx⟩:=Ak n;have he:=Au (J:=CG) hx;simp only [CG] at he;have h0:=wS k
   have hnk:((HT S.vars.length types.length).map Ez)[k]?=some [.int .i64 ((S.vars.length+k:Nat):Int)]:=by
    have:k < types.length:=by omega
    simp [HT,this,Ez]
   have hwc:=Qa bv c3 d x ((S.vars.length+k:Nat):Int) V;have hkT:((k:Int) < (((HT S.vars.length types.length).map Ez).length:Int))=True:=ltT (by simp [HT];omega)
   obtain ⟨t5,rfl⟩:∃t,w= .own t tkI 1 ((HT S.vars.length types.length).map Ez):=by
    rcases hm with ⟨F,_⟩|⟨t,_,Z,_⟩
    . rw [F] at hnk;cases hnk
    . exact ⟨t,Z⟩
   (repeat' (first|refine sQ ?_|(refine AN.det hwc ?_ (by simp only [BK,Cl,d.BS];rfl))|fail)<;>try simp only [BI n,he,hnk,h0,go_sem]);refine ih (k+1,Et c3 x ((S.vars.length+k:Nat):Int),.d (chD (Et c3 x ((S.vars.length+k:Nat):Int)))) ⟨n,PlV.d _,⟨l2++[(x,((S.vars.length+k:Nat):Int))],by rw [SH,hc3],by rw [A4,cs,Aa hx];rfl⟩,h8.AX4 x (by omega) (by omega) (fun y hy=>?_),fun y hy=>?_⟩ (by simp only;omega)
   . rcases hb y hy with F|F<;>omega
   . rcases AF9 hy with F|F
     . rcases hb y F with Z|Z
       . exact .inl Z
       . exact .inr (by simp only;omega)
     . exact .inr (by rw [F];simp only;omega)
 have hf:k=g.length:=by omega
 subst hf;clear ih;rw [Ar] at cs;have T:z.Bw[i]?=some cd:=by rw [R];exact hcd
 have hci3:i < z.Bw.length:=by rw [R];exact hci
 obtain ⟨cnm,cpv,ccv,⟨rk,rn,rl⟩,cbd⟩:=cd;obtain ⟨cv5,vv5,ev5,ja5,nv5,hg5⟩:=id Q;obtain ⟨jc,rfl,hjc,hjc0,hjci⟩:=hg5.cd T;have b5:=hg5.bi;have hres:(Ty.mk rk rn rl).size<=200:=hg5.ok.cz _ (AE T);have hiT:=ltT hci3
 have hrd:((rwC Cd.row z.Bw).drop (i * 7+3)).take 3=[A1 rk,A1 rn,BU (Ty.Cz rl)]:=by
  have F:=YZ Cd.row 7 Cd.Bj T;have Z:=congrArg (Ew 3) (congrArg (E1 3) F);rw [List.drop_take,Fx,List.take_take] at Z;exact Z
 have hrl:(i * 7+3+3<=(rwC Cd.row z.Bw).length)=True:=by rw [Dd Cd.row 7 Cd.Bj];simp;omega
 have hwr:w.rows=some ((HT S.vars.length types.length).map Ez):=by
  rcases hm with ⟨F,rfl,_⟩|⟨t,_,rfl,_⟩
  . rw [F];rfl
  . rfl
 have hwb:∀v∈HT S.vars.length types.length,0<=v/\v < (z.vars.length:Int):=fun v hv=>by
  simp only [HT,BR,Cr] at hv;obtain ⟨q,hq,rfl⟩:=hv;omega
 unfold lgC at b5;clear n;rcases hor with ⟨hc0,_,_⟩|⟨hcm,_,_,_,hcov⟩
 case' inl=>
  have ha:decide (callee>=0)=true:=by simpa using hc0
  have hcr:=Fu (B:=B) 12 callee (.mk rk rn rl) hres (by omega) Q;simp only [tyA,Ty.J,AB,AJ] at hcr;(repeat' refine sQ ?_<;>simp only [B5 (Nat.lt_irrefl g.length),ha,b5,hjc,hiT,hrd,hrl,go_sem]);refine AN.mk rfl hcr ?_;rintro _ τ5 ⟨rfl,hL5⟩;obtain ⟨cv6,vv6,ev6,ja6,nv6,hg6⟩:=id hL5;have b6:=hg6.bi;obtain ⟨jx,rfl,bx6,hx0,hxi⟩:=hg6.ex (IH _ _);have hxT:=ltT (show z.xs.length < (z.Cm (D4 12 callee (.mk rk rn rl))).xs.length by simp [LSt.Cm]);unfold lgC at b6;simp only [go_sem];refine W.Gs mixed ?_;simp only [b6,go_sem]
  repeat' (with_reducible refine DF ?_ ?_)
  all_goals
   refine DH.Ac6 hL5 hwr (fun r b=>by obtain ⟨v,_,rfl⟩:=BR.1 b;rfl) (by simp [HT];omega) (by omega) (fun w5 Φ7 τ7 hw5 hL7 hb7=>?_);have hl:=hw5.row;have b7:=(hb7 _).trans b6;have bx7:=(hb7 _).trans bx6;obtain ⟨cv8,vv8,jy,ja8,nv8,p1,p2,p3,p4,p5,p6⟩:=hL7.Ia (o:=2) (v:=w5) (f:=Hk (HT S.vars.length types.length) w5) (IH _ _) (by omega) rfl rfl ⟨hl,DG.Ac⟩;have e:=b7.symm.trans p1;simp only [lgC,AP,FJ,I.ms.injEq] at e;obtain ⟨-,-,-,-,-,-,⟨rfl,-⟩,-⟩:=e;rw [Tq] at p5 p6;simp only [b7,bx7,hxT,p4,p5,hl.cells,hl.cell,go_sem];generalize X.AI τ7 jx _=τ9 at p6 ⊢
   have hS4:∃D c,LH B hn τ9 D/\Ext z D c/\c<=100100/\(callee=-1->o=3->(∃t:Ty,D.xs=z.xs++[D4 3 u t])/\D.Bw=z.Bw/\D.JO=z.JO/\D.fl=z.fl/\D.vars=z.vars):=
    ⟨_,1,p6.base hw5.le,(Ext.one (S':=z.Cm (Hk (HT S.vars.length types.length) w5 (D4 12 callee (.mk rk rn rl)))) (x:=Hk (HT S.vars.length types.length) w5 (D4 12 callee (.mk rk rn rl))) rfl rfl (fun _ _ h=>h) rfl (Vn (show ¬brO 12 by decide) rfl rfl hwb (by simp [Hk,HT];omega))).1,by omega,fun e=>by omega⟩
 case' inr=>
  have ha:decide (callee>=0)=false:=by rw [hcm];decide
  obtain ⟨sc,hbf,hcv⟩:=hcov c3 fun s hs=>by
   rw [hc3,Q9 hs,cs,hck,Q9 hs,us];rfl
  have hes:=hbf.ln;have ds:=AQI hB _ (.mk o nm u ns ks al) (AW _) at_ sc c3 hn z V (by rw [hS3n];exact hbf) hcv h8 (by omega) Q
  unfold ExQ at ds;generalize hze:(Ex.mk o nm u ns ks al).size=ez at ds hes;simp only [exA,Ex.A6,AB,AJ,Ex.op,Ex.num] at ds;(repeat' refine sQ ?_<;>simp only [B5 (Nat.lt_irrefl g.length),ha,go_sem]);refine AN.mk (by simp only [BK,Cl,d.BS];rfl) (AS.plain (by simp only [I.C3,I.plain,d.plain];exact ds)) ?_;rintro _ τ9 ⟨⟨rfl,S',Z,h3,h4⟩,h5⟩;simp only [go_sem]
  have hS4:∃D c,LH B hn τ9 D/\Ext z D c/\c<=100100/\(callee=-1->o=3->(∃t:Ty,D.xs=z.xs++[D4 3 u t])/\D.Bw=z.Bw/\D.JO=z.JO/\D.fl=z.fl/\D.vars=z.vars):=by
   by_cases ho:o=3
   . obtain ⟨t,h6⟩:=h5 ho;exact ⟨_,1,h6,(Ext.one (S':=z.Cm (D4 3 u t)) (x:=D4 3 u t) rfl rfl (fun _ _ h=>h) rfl (Vn (show ¬brO 3 by decide) rfl rfl fun v hv=>by cases hv)).1,by omega,fun _ _=>⟨⟨t,rfl⟩,rfl,rfl,rfl,rfl⟩⟩
   . exact ⟨S',_,Z,h3,by omega,fun _ e=>absurd e ho⟩
 all_goals
  obtain ⟨D,c,hL4,hE4,hc,haw⟩:=hS4;have U:=hE4.le.cs _ _ T;have hci4:=(AG.1 U).1;obtain ⟨cv8,vv8,ev8,ja8,nv8,hg8⟩:=hL4;obtain ⟨jd,rfl,hjd,hd,Y⟩:=hg8.cd U;have b8:=hg8.bi;have hdT:=ltT hci4;have hx1:(D.Bw.modify i fun c=> { c with pv:=w})[i]?=some (Cd.mk cnm w ccv (.mk rk rn rl) cbd):=by rw [I5,U];simp
  have hx2:((D.Bw.modify i fun c=> { c with pv:=w}).modify i fun c=> { c with cv:=w2})[i]?=some (Cd.mk cnm w w2 (.mk rk rn rl) cbd):=by rw [I5,hx1];simp
  have u1:=Of Cd.row 7 Cd.Bj 1 w (fun c=> { c with pv:=w}) U (by omega) rfl;have u2:=Of Cd.row 7 Cd.Bj 2 w2 (fun c=> { c with cv:=w2}) hx1 (by omega) rfl;have u3:=Of Cd.row 7 Cd.Bj 6 (A1 z.xs.length) (fun c=> { c with body:=(z.xs.length:Int)}) hx2 (by omega) rfl;have n1:(i * 7+1+1<=(rwC Cd.row D.Bw).length)=True:=by rw [Dd Cd.row 7 Cd.Bj];simp;omega
  have n2:(i * 7+2+1<=(rwC Cd.row (D.Bw.modify i fun c=> { c with pv:=w})).length)=True:=by rw [Dd Cd.row 7 Cd.Bj];simp;omega
  have n3:(i * 7+6+1<=(rwC Cd.row ((D.Bw.modify i fun c=> { c with pv:=w}).modify i fun c=> { c with cv:=w2})).length)=True:=by rw [Dd Cd.row 7 Cd.Bj];simp;omega
  have hg9:=hg8.wL (i:=i) (f:=fun c=> { c with pv:=w}) (fun _=>rfl) rfl hd Y;have hg10:=hg9.wL (i:=i) (f:=fun c=> { c with cv:=w2}) (fun _=>rfl) (by rw [Qb]) hd Y;have hg11:=hg10.wL (i:=i) (f:=fun c=> { c with body:=(z.xs.length:Int)}) (fun _=>rfl) (by rw [Qb,Qb]) hd Y;rw [C4,C4] at hg11;unfold lgC at b8;(repeat' refine sQ ?_<;>simp only [b8,hjd,hdT,u1,u2,u3,n1,n2,n3,AD,if_true,a.cells,a.cell,b.cells,b.cell,go_sem]);refine W.fin Wl rfl (fun _ _ h=>h) (X.le_refl _) ⟨rfl,_,LH.base ⟨_,_,_,_,_,hg11⟩ (X.le_trans hm.le hw.le),?_⟩;have fs:=hE4.le;have hxl:=fs.xl;have hvl4:=fs.vl;have hbd4:=fs.bd;refine ⟨fun q y hq _ e=>hE4.nf q y (by rw [K];exact hq) (by simp) e,fun q y e=>fs.xs q y (by rw [K];exact e),by rw [<- K];exact hxl,by show S.vars.length<=D.vars.length;omega,by show D.sz<=_;omega,fun e1 e2 e3 e4=>?_⟩;obtain ⟨⟨t,F⟩,Z,h3,h4,h5⟩:=haw e1 e2;refine ⟨⟨t,by show D.xs=_;rw [F,K];rfl⟩,?_,by show D.JO=_;rw [h3,hS3j],by show D.fl=_;rw [h4,hS3f],by show D.vars.length=_;rw [h5,hS3v];simp only at e3 e4;rw [e3,e4];rfl⟩;rw [<- R,<- Z];show (((D.Bw.modify i fun c:Cd=> { c with pv:=w}).modify i fun c:Cd=> { c with cv:=w2}).modify i fun c:Cd=> { c with body:=(z.xs.length:Int)}).map _=_
  rw [TQ Cd.name (fun c:Cd=> { c with body:=(z.xs.length:Int)}) (fun _=>rfl),TQ Cd.name (fun c:Cd=> { c with cv:=w2}) (fun _=>rfl),TQ Cd.name (fun c:Cd=> { c with pv:=w}) (fun _=>rfl)]
end
def AcS (j:Jb):Prop:=j.callee=-1/\j.body.op=3/\j.types=[]/\j.Ae=[]
def AwJ (p:Pg) (l:List Ed) (k:Nat) (S:LSt):Prop:=∀q x,l[q]?=some x->q < k->x.2=[]->∃fe nt tys,p.Ca[x.1.toNat]?=some fe/\tys.length=fe.params.length/\S.JO[q]?=some ⟨fe.body,0,nt,fe.params,tys,[],-1⟩/\(S.Bw.map (·.name))[q]?=some fe.name
theorem AwJ.snoc {k:Nat} {S:LSt} (h:AwJ p l k S) (i:l[k]?=some x) (d:p.Ca[x.1.toNat]?=some fe) (c:b.params.length=fe.params.length) (v:x.2=[]->nm=fe.name) (t:S.Bw.length=k) (g:S.JO.length=k):
 AwJ p l (k+1) (S.Nb ⟨nm,.d (.sl []),.d (.sl []),b.res,0⟩ ⟨fe.body,0,b.notes,fe.params,b.params,[],-1⟩):=fun q y a u j=>by
 by_cases e:q=k
 . subst e;rw [i] at a;cases a;refine ⟨fe,b.notes,b.params,d,c,?_,?_⟩
   . simp [LSt.Nb,g]
   grind [LSt.Nb,BY]
 . obtain ⟨f,nt,m,n,o,r,s⟩:=h q y a (by omega) j
   grind [Ic,LSt.Nb]
def ACN (S0:LSt) (i:Nat) (S:LSt):Prop:=(∀j∈S0.JO,AcS j)->S.JO=S0.JO/\S.Bw.map (·.name)=S0.Bw.map (·.name)/\S.xs.map (fun x=>(x.op,x.num))=((S0.JO.take i).map fun j=>(j.body.op,j.body.num))/\S.fl=S0.fl/\S.vars.length=S0.vars.length
theorem ACN.zero {S:LSt} (h:S.xs=[]):ACN S 0 S:=fun _=>⟨rfl,rfl,by rw [h];rfl,rfl,rfl⟩
theorem ACN.step {S0 S S':LSt} (h:ACN S0 i S) (a:S.JO[i]?=some j) (q:CoQ S S' j):ACN S0 (i+1) S':=fun c=>by
 obtain ⟨b,m,n,o,p⟩:=h c;rw [b] at a;obtain ⟨r,d,s,u⟩:=c j (AE a);obtain ⟨⟨t,e⟩,f,g,k,l⟩:=q.aw r d s u;refine ⟨g.trans b,f.trans m,?_,k.trans o,l.trans p⟩;rw [e,A4,n,Aa a,A4,List.map_singleton,List.map_singleton,d];rfl
theorem NFx.co {S S':LSt} (h:NFx 0 [] S) (k:CoQ S S' j):NFx 0 [] S':=fun i x c d e=>by
 by_cases a:i < S.xs.length
 . have b:=k.xs i _ (An a);rw [b] at e;cases e;exact (h i _ c d (An a)).mono k.vl k.xl
 . exact k.nf i x (by omega) (by simp) e
def awQ:Pg:=⟨[],[⟨[102],[],.mk 3 [] 1 [] [] []⟩]⟩
def awS:DZ:=([⟨0,[],.mk 1 0 []⟩],[[(.mk 1 0 [],[])]])
theorem AJS:u9 awQ= .ok [(0,[])]:=by
 have a:R5 awQ=(0,0,0):=by decide+kernel
 have b:Fc awQ= .ok []:=by kernel_rfl
 have c:J7 awQ=[[]]:=by kernel_rfl
 have e:Rw [[]]=[[0]]:=by
  have f:∀i j,rB [[]] i j=(i==j):=fun i j=>by
   rw [C2,YX,beq_iff_eq];constructor
   . intro h;cases h with
     |refl=>rfl
     |step h _=>
      grind
   . rintro rfl;exact .refl _
  simp [Rw,Ki,ABG,pP,wU,bL,jK,vR,JQ,f,lsB,Aj,List.range.loop]
 have d:GH awQ.Ca [] [[0]] (AH awQ.Ca.length jV,AH awQ.Ca.length [])= .ok awS:=by kernel_rfl
 have g:Dj awQ= .ok awS:=by
  unfold Dj Lq;rw [a,b,c,e];simp only [ne_eq,not_true,if_false,d]
 have h:Rx awQ.Ca [] awS 100 0 (kQ awS)= .ok [(0,[])]:=by kernel_rfl
 unfold u9
 grind
theorem ASD {α:Type} {l:List α} {a:α} (h:l.length=1) (c:l[0]?=some a):l=[a]:=by
 match l,h with
 |[b],_=>cases c;rfl
theorem AYK {S0 S:LSt} (d:u9 awQ= .ok l) (m:AwJ awQ l l.length S0) (s:S0.Bw.length=l.length) (a:S0.JO.length=l.length) (o:ACN S0 i S) (t:S.JO.length<=i):S.Bw.map (·.name)=[[102]]/\S.xs.map (fun x=>(x.op,x.num))=[(3,1)]/\S.fl=S0.fl/\S.vars.length=S0.vars.length:=by
 rw [AJS] at d;cases d;obtain ⟨r,nt,b,f,g,h,k⟩:=m 0 _ rfl (by decide) rfl;cases f;have n:b=[]:=Ay g;subst n;have c:=ASD a h;have e:=ASD (l:=S0.Bw.map (·.name)) (by grind) k
 obtain ⟨u,p,q,w4⟩:=o fun j a=>by
  rw [c,A9] at a;subst a;exact ⟨rfl,rfl,rfl,rfl⟩
 refine ⟨p.trans e,?_,w4⟩;rw [q,AR (by grind),c];rfl
section
variable {B:LB} {O A V Φ Ψ Φ':X} {S:LSt}
theorem AUS (h:Fc p= .ok dt):dt.length<=1000000:=by
 obtain ⟨a,b⟩:=I9 h;simp only [Iv,AM,decide_eq_true_eq] at a;have:=(No b).2.2.1;omega
def LoQ (p:Pg) (A:X) (v:I) (H:X):Prop:=(∃d:Dg,p≠awQ/\d.1≠0/\v= .tup [.agg [.d (.sl []),.d (.sl []),.d (.sl []),.d (.sl [])],dgA d]/\H=A)\/
 ∃B S cv vv ev ja nv,v= .tup [.agg [.d (.sl (B.dt.map Dat.J)),cv,vv,ev],dgA (0,0,0)]/\LG B A H S cv vv ev ja nv/\NFx 0 [] S/\S.sz<=10000000/\(p=awQ->S.Bw.map (·.name)=[[102]]/\S.xs.map (fun x=>(x.op,x.num))=[(3,1)])
theorem LG.start (p:Pg) (dt:List Dat) (l:List Ed) (b:A.C i=none):LG ⟨i,p,dt,l⟩ A (A.AI i (lgC ⟨i,p,dt,l⟩ false .Ac .Ac .Ac .Ac .Ac)) ⟨[],[],[],[],[],false⟩ .Ac .Ac .Ac .Ac .Ac:=by
 refine ⟨BB,⟨fun m d=>?_,?_⟩,⟨fun x a=>?_,?_⟩,Bf b,b,fun x a=>(by cases a),fun h=>absurd rfl h,⟨fun j f=>(by cases f),fun t k=>(by cases k),fun c e=>(by cases e),rfl,by simp,by simp,fun n g=>(by cases g)⟩⟩
 . simp only [Ah,List.not_mem_nil,or_false] at d;rcases d with rfl|rfl|rfl<;>exact ⟨rfl,.inl ⟨rfl,rfl⟩⟩
 . simp [mwC,mwV,mwX,Ap2,msI]
 . simp only [AJ,A9] at a;subst a;exact (Bn.nil _ tkJ 12).base (Bf b)
 . simp
theorem ACL (p:Pg) (w:p.sm) (hz:Ut p.Ca<=200) (A:X) (h7:A.gt TT=some Ul):AS Tzp 5 [pgA p] A (LoQ p A):=by
 have al:∀d∈p.data,N4 d:=fun d hd c hc t ht=>by have:=((w.1.2 d hd).2.2.2 c hc).2.2 t ht;omega
 have ho:∀dt,Fc p= .ok dt->dt.length<=1000000:=fun dt h=>AUS h;have a:=ALK p w.ds hz ho A h7;have n:=N3 p A al;refine vT.go ?_;rw [Dx];cases hD:u9 p with
 |error d=>
  have hn:=AP6 hD;obtain ⟨d1,d2,d3⟩:=d;have hb0:(d1 != 0)=true:=by simpa using hn
  rw [hD] at a;have E:LoQ p A (.tup [.agg [BU [],BU [],BU [],BU []],dgA (d1,d2,d3)]) A:= .inl ⟨(d1,d2,d3),fun e=>(by rw [e,AJS] at hD;cases hD),hn,rfl,rfl⟩;generalize LoQ p A=Q at E ⊢;clear hD n al ho w hz;obtain ⟨ds,fs⟩:=p;simp only [pgA,Pg.J,AB,AJ,AMA,dgA] at a E ⊢;(repeat' (first|refine sQ ?_|(refine AN.mk rfl a ?_;rintro _ A ⟨⟨rfl,rfl⟩,_⟩)|fail)<;>try simp only [hb0,go_sem]);refine W.Gs mixed ?_;simp only [go_sem]
  repeat' (with_reducible refine DF ?_ ?_)
  all_goals
   (repeat' (first|refine sQ ?_|(refine W.By Sn (X.le_refl _) ?_)|fail)<;>try simp only [go_sem]);exact E
 |ok l=>
  have hir:∃r,Dj p= .ok r:=by
   cases h:Dj p with
   |error d=>grind [u9]
   |ok r=>exact ⟨r,rfl⟩
  obtain ⟨r,hr⟩:=hir;obtain ⟨hc0,dt,hd⟩:=Ps hr;have hl:Rx p.Ca dt r 100 0 (kQ r)= .ok l:=by grind [u9]
  have ns:=AK3 hc0 hd w.ds hz
  have hl24:r.1.length<=24:=by
   have h1:r.1.length=p.Ca.length:=(iW hr).1;have h2:=ns.lf;omega
  have hl0:=AMB r;obtain ⟨P,hl64⟩:=ADN 100 0 _ _ hl (by omega) (by omega) (by omega) (by simp);have cs:((0:Int) != 0)=false:=by decide
  have h9:=fun jb (hj:A.C jb=none)=>LG.start p dt l hj;have hdn:=AP8 w hd;rw [hD] at a;rw [hd] at n;simp only [AMA,pY,dsA,dgA] at a n;have hpe:pgA p= .agg [BU (p.data.map DE.J),BU (p.Ca.map FE.J)]:=by obtain ⟨ds,fs⟩:=p;rfl
  generalize hQe:LoQ p A=Q;unfold lgC at h9;rw [hpe] at a n ⊢;(repeat' (first|refine sQ ?_|(refine AN.mk rfl a ?_;rintro _ A ⟨⟨rfl,rfl⟩,U⟩)|(refine AN.mk rfl n ?_;rintro _ A ⟨rfl,rfl⟩)|fail)<;>try simp only [cs,go_sem]);intro jb hjb;have Y:=h9 jb hjb;(repeat' refine sQ ?_<;>simp only [AA,go_sem]);generalize A.AI jb _=us at Y ⊢;have hgt0:us.gt TT=some Ul:=by rw [<- Y.le.gt];exact h7
  obtain ⟨D,U⟩:=U r hr;have:D=dt:=by have:=U.dat;rw [hd] at this;cases this;rfl
  subst this;have hy:=AZC jb l hd ns;clear a n hl hl0 h9
  refine lpK (fun (y:Nat×X)=>[(38,A1 (y.1:Nat))]) (fun y=>y.2)
   (fun y=>y.1<=l.length/\∃S,LH ⟨jb,p,D,l⟩ A y.2 S/\S.Bw.length=y.1/\S.xs=[]/\S.vars=[]/\S.nt=[]/\S.fl=false/\AwJ p l y.1 S) (fun y=>l.length - y.1) ?_ (0,us) ⟨by simp,_,⟨_,_,_,_,_,Y⟩,rfl,rfl,rfl,rfl,rfl,fun q x _ h=>absurd h (by omega)⟩
  rintro ⟨k,V⟩ ⟨hk,S,G,K,N,ha,ks,hq,hm⟩ ih;simp only at hk G K N ha ks hq hm;by_cases u:k < l.length
  . obtain ⟨⟨f,args⟩,hx⟩:=Ak u;have vs:=AE hx;obtain ⟨b,fe,hb,L,_⟩:=P _ vs;have he:=Au (J:=XB) hx;simp only [XB] at he;have hf:=wS k
    have hx1:0<=f/\f < r.1.length:=by
     by_cases h:0<=f/\f < r.1.length
     . exact h
     . unfold M3 at hb;grind
    obtain ⟨m,rfl⟩:∃m:Nat,f=m:=⟨f.toNat,by omega⟩;have sc:=U.fe _ _ L;obtain ⟨hpl,hal⟩:=AQ7 hb sc;have hj:=AY6 jb U P vs hb L S.vars.length;obtain ⟨_,_,_,hgr,_⟩:=Q4 hb sc;have hN:=fun V=>AO8 p w.ds hz ((m:Int),args) U V;have hP:=fun V=>ALP p w.ds hz ((m:Int),args) U V;simp only [hb] at hN hP;have hs:p.Ca[m]?=some fe:=L;have h6:=G;obtain ⟨cv,vv,ev,ja,nv,F⟩:=id G;have h6:=F.ok.cj;have hfn:fe.name.length<=40:=(w.2.2 fe (AE hs)).1;have hp:=AA6 (B:=⟨jb,p,D,l⟩) (O:=A) (A:=V) (S:=S) hs hdn hfn hal hN hP hj (by simp only [Fg,AM,decide_eq_true_eq] at hgr;omega) (by omega) (by rw [<- F.le.gt];exact h7) F;rw [Ty.BQ] at hp;(repeat' (first|refine sQ ?_|(refine AN.mk rfl hp ?_;rintro _ hi ⟨rfl,nm,hnm,Z⟩)|fail)<;>try simp only [BI u,he,hf,go_sem]);(repeat' refine sQ ?_<;>simp only [go_sem]);exact ih (k+1,hi) ⟨u,_,Z,by simp [LSt.Nb,K],N,ha,ks,hq,hm.snoc hx L hpl hnm K (by omega)⟩ (by simp only;omega)
  . have hke:k=l.length:=by omega
    subst hke;clear ih;(repeat' refine sQ ?_<;>simp only [B5 u,go_sem]);clear u
    refine lpK (fun (y:Nat×X)=>[(11,A1 (y.1:Nat))]) (fun y=>y.2)
     (fun y=>∃T,LH ⟨jb,p,D,l⟩ A y.2 T/\NFx 0 [] T/\T.sz<=102000 * y.1/\y.1<=64/\ACN S y.1 T) (fun y=>64 - y.1) ?_ (0,V) ⟨S,G,fun i x _ _ e=>(by grind),by simp [LSt.sz,N,ha],by simp,ACN.zero N⟩
    have h6:S.JO.length=l.length:=by obtain ⟨_,_,_,_,_,h⟩:=G;have:=h.ok.cj;omega
    clear G;rintro ⟨i,V⟩ ⟨T,G,h8,hsz,hv,hw⟩ ih;simp only at G h8 hsz hv hw;obtain ⟨cv,vv,ev,ja,nv,F⟩:=id G;have b1:=F.bi;have g:=F.ow.head;obtain ⟨o,v,s⟩:=F.cel;simp only at g;unfold lgC at b1;have hj64:T.JO.length<=64:=by have:=F.ok.cj;have:=F.ok.c64;omega
    by_cases u:i < T.JO.length
    . obtain ⟨j,hj⟩:=Ak u;have hlc:=ARG hy hj (by omega) G;have hf:=wS i;(repeat' (first|refine sQ ?_|(refine AN.mk rfl hlc ?_;rintro _ hi ⟨rfl,T',Z,h5⟩)|fail)<;>try simp only [b1,BI u,g.len,g.cell,AA,hf,go_sem]);(repeat' refine sQ ?_<;>simp only [go_sem]);refine ih (i+1,hi) ⟨T',Z,h8.co h5,?_,by simp only;omega,hw.step hj h5⟩ (by simp only;omega);have:=h5.bd;simp only;omega
    . clear ih;have h0:=fun e:p=awQ=>AYK (S:=T) (by grind) (by grind) K h6 hw (by omega)
      have R:(T.fl=true\/3000 < T.xs.length\/3000 < T.vars.length)->LoQ p A (.tup [.agg [BU [],BU [],BU [],BU []],dgA (9,0,0)]) A:=fun h=>.inl ⟨(9,0,0),fun e=>by
       obtain ⟨_,h1,h2,h3⟩:=h0 e;have h4:=congrArg List.length h1
       grind,by simp,rfl,rfl⟩
      have z:LoQ p A (.tup [.agg [BU (D.map Dat.J),cv,vv,ev],dgA (0,0,0)]) V:= .inr ⟨_,_,_,_,_,_,_,rfl,F,h8,by omega,fun e=>⟨(h0 e).1,(h0 e).2.1⟩⟩;rw [hQe] at R z;simp only [dgA] at R z;have hle:=F.le;(repeat' first|((first|refine sQ ?_|(refine Dq rfl ?_ ?_<;>intro h<;>try (cases h;done))|fail)<;>try simp only [b1,B5 u,g.len,g.cell,AA,v.len,s.len,o.cell,v.cell,s.cell,go_sem])|(constructor<;>intro h<;>first|(cases h;done)|try simp only [h])|fail);rotate_left 3
      . (repeat' (first|refine sQ ?_|(refine W.ASS Sn (X.le_refl _) ?_)|fail)<;>try simp only [go_sem]);exact z
      all_goals
       (repeat' (first|refine sQ ?_|(refine W.By Sn hle ?_)|fail)<;>try simp only [go_sem])
       grind
end
open Go.Proofs.Tryz
set_option maxRecDepth 100000
set_option maxHeartbeats 40000000
noncomputable section
abbrev Jj:=mX 3 f3 107 (lq [12,16,21,25,33,37,42,47,52,57,63,66,71,83,89,100]) [.t 2]
instance J9:Good Jj:=gdX func3
def Gi:=C8 Jj [] fun c a b d=>G c [a,b,d]
def HY:=lpC 0 (Gi .skip .skip .skip)
def Lh:=lpC 1 (Gi HY .skip .skip)
def VF:=lpC 2 (Gi HY Lh .skip)
def ZE:=(Gi HY Lh VF).1
theorem ZS:Inn Jj ZE 107:=inX ntmps3
abbrev TZ:=mX 6 f6 52 (lq [9,14,18,24,32,38,46]) [.t 0]
instance vC:Good TZ:=gdX func6
def uQ:=k0 TZ
theorem vS:Inn TZ uQ 52:=inX ntmps6
end
theorem DG.form {v:I} {rows:List (List DV)} (h:DG v rows) (b:rows≠[]):v= .d (.sl rows)\/(∃t e s,v= .own t e s rows)\/v= .clip rows:=by
 have a:=h.dv;cases v<;>simp only [I.dv,AP,reduceCtorEq,DV.sl.injEq] at a
 . subst a;exact .inl rfl
 . exact absurd a.symm b
 . subst a;exact .inr (.inl ⟨_,_,_,rfl⟩)
 . subst a;exact .inr (.inr rfl)
theorem AYJ:awQ.sm:=by
 refine ⟨⟨by decide,fun d b=>(by cases b)⟩,by decide,fun f a=>?_⟩;simp only [awQ,A9] at a;subst a;simp [FE.sm,AIN,Ex.sm,Ex.sms,Al.sms,Ex.size,Ex.AQ,Al.AQ]
theorem rX (A:X) (L:A.gt TT=some Ul):AS Tzp 6 [] A (fun v H=>v= .d (.bool true)/\H=A):=by
 have G:=ACL awQ AYJ (by decide) A L;refine vS.go ?_;rw [show Px []=U from by funext s;simp [Px,U]];simp only [pgA,awQ,Pg.J,FE.J,Ex.A6,AB,AJ] at G
 have u:AS Tzp 5 [.agg [.Ac,BU [[.str [102],.sl [],.int .i64 3,.str [],.int .i64 1,.sl [],.sl [],.sl []]]]] A _:=
  AS.plain (by simp only [I.C3,Pu,H6,K6];exact G)
 (repeat' (first|refine sQ ?_|(refine AN.mk rfl u ?_;rintro _ V D)|fail)<;>try simp only [go_sem]);rcases D with ⟨d,K,_⟩|⟨B,S,cv,vv,Z,ja,nv,rfl,l,N,-,r⟩
 . exact absurd rfl K
 obtain ⟨j,k⟩:=r rfl;obtain ⟨y,a,z⟩:=l.cel
 obtain ⟨x,E⟩:∃x,S.xs=[x]:=by
  have g:=congrArg List.length k;rw [AA] at g
  match D:S.xs,g with
  |[x],_=>exact ⟨x,rfl⟩
 obtain ⟨c,b⟩:∃c,S.Bw=[c]:=by
  have g:=congrArg List.length j;rw [AA] at g
  match D:S.Bw,g with
  |[x],_=>exact ⟨x,rfl⟩
 obtain ⟨jc,rfl,e,_⟩:=l.cd (i:=0) (x:=c) (by rw [b];rfl);obtain ⟨jx,rfl,f,_⟩:=l.ex (i:=0) (x:=x) (by rw [E];rfl);rw [E] at f k;rw [b] at e j;obtain ⟨Y,Q,c2,R,T⟩:=c;obtain ⟨o,nu,vs,bs,ks,t,v1,v2,v3⟩:=x;simp only [AB,AJ,FJ,B3,and_true] at j k;obtain ⟨rfl,rfl⟩:=k;subst j;have w:S.Bw.length=1:=by rw [b];rfl
 have F:S.xs.length=1:=by rw [E];rfl
 rw [w] at y ⊢;rw [F] at z ⊢;simp only [rwC] at e f;simp only [dgA];have p:(((1:Nat):Int)==1)=true:=by decide
 have P:jX .eql [102] [102]=some (D1 true):=rfl;have q:((3:Int)==3)=true:=rfl;have n:((1:Int)==1)=true:=rfl;have m:((0:Int)==0)=true:=rfl;simp only [a.cell,go_sem];(repeat' (first|refine sQ ?_|(refine W.By vC l.le ?_)|(refine Dq rfl ?_ ?_<;>intro h<;>try (cases h;done))|fail)<;>try simp only [p,P,q,n,m,e,f,Int.le_refl,Int.toNat_zero,go_sem])
theorem oF (p:Pg) (A:X) (hg:A.gt TT=some Ul):AS Tzp 3 [pgA p] A (fun v H=>v= .d (.bool true)/\H=A):=by
 have hk:=wH p A;have s:=fun (h1:p.sm) h2=>ACL p h1 h2 A hg;have R:=fun V (h:A.le V)=>rX V (by rw [<- h.gt];exact hg);have hj:pgA p= .agg [BU (p.data.map DE.J),BU (p.Ca.map FE.J)]:=by obtain ⟨ds,fs⟩:=p;rfl
 generalize h9:LoQ p A=Q at s;refine ZS.go ?_;rw [Dx];rw [hj] at hk s ⊢;(repeat' (first|refine sQ ?_|(refine AN.mk rfl hk ?_;rintro _ A ⟨b,⟨rfl,rfl⟩,D⟩;cases b)|(refine W.By J9 (X.le_refl _) ?_)|fail)<;>try simp only [go_sem]);obtain ⟨hl,hm⟩:=D rfl;replace s:=s hl hm;(repeat' (first|refine sQ ?_|(refine AN.mk rfl s ?_;rintro _ V hq)|fail)<;>try simp only [go_sem]);rw [<- h9] at hq;rcases hq with ⟨⟨d1,d2,d3⟩,_,ha,rfl,rfl⟩|⟨B,S,cv,vv,ev,ja,nv,rfl,P,hf,h4,-⟩
 . simp only [dgA];have hc:(d1 != 0)=true:=by simpa using ha
   simp only [go_sem];(repeat' (first|refine sQ ?_|(refine W.By J9 (X.le_refl _) ?_)|refine AN.det (R _ (X.le_refl _)) ?_|fail)<;>try simp only [hc,go_sem])
 obtain ⟨m,a,j⟩:=P.cel;simp only [dgA];have h8:((0:Int) != 0)=false:=rfl;simp only [m.cell,a.cell,j.cell,go_sem];(repeat' refine sQ ?_<;>simp only [h8,j.len,j.cell,go_sem]);have h0:=P.le;refine lpK (fun (z:Nat)=>[(27,A1 z)]) (fun _=>V) (fun z=>z<=S.xs.length) (fun z=>S.xs.length - z) ?_ 0 (by simp);intro i hi ih;by_cases n:i < S.xs.length
 case' neg=>(repeat' (first|refine sQ ?_|(refine W.By (σ2:=A) J9 h0 ?_)|refine AN.det (R _ h0) ?_|fail)<;>try simp only [B5 n,go_sem])
 obtain ⟨x,hx⟩:=Ak n;have h7:=AE hx;obtain ⟨jx,rfl,Y,_⟩:=P.ex hx;have hp:=Gv (show i+1<=9000000000000000000 by simp only [LSt.sz] at h4;omega);have h6:=ltT n;have hn:=hf i x (D7 i) (by simp) hx;obtain ⟨g,d⟩:=P.rv x h7;have c:=P.ow.1 _ (AZ _ (CU (f:=XE.ow) h7));have L:=YZ XE.row 8 XE.Bj hx;have h3:(i * 8+8<=(rwC XE.row S.xs).length)=True:=by rw [Dd XE.row 8 XE.Bj];simp;omega
 obtain ⟨o,nu,vs,bs,ks,t,v1,v2,v3⟩:=x;obtain ⟨G,U,Z,h5,hd,ho⟩:=hn;simp only [XE.ow,XE.row] at G U Z h5 hd ho g d c L;have T:(((bs.length:Nat):Int) != ((ks.length:Nat):Int))=false:=by simp [U]
 by_cases D:brO o
 case' pos=>
  have K:decide ((0:Int) < ((ks.length:Nat):Int))=true:=by
   have:=Ds.2 (G.1 D);simpa using this
  rcases D with rfl|rfl|rfl|rfl|rfl
  all_goals
   (repeat' refine sQ ?_<;>simp only [h6,Y,h3,L,F8,BX,g.cell,d.cell,d.len,c.cell,c.len,AA,K,T,Ad,go_sem])
 case' neg=>
  have K:decide ((0:Int) < ((ks.length:Nat):Int))=false:=by
   cases ks with
   |nil=>rfl
   |cons k ks=>exact absurd (G.2 (by simp)) D
  have o7:(o==7)=false:=by simpa using fun e=>D (.inl e)
  have o8:(o==8)=false:=by simpa using fun e=>D (.inr (.inl e))
  have o9:(o==9)=false:=by simpa using fun e=>D (.inr (.inr (.inl e)))
  have hr:(o==10)=false:=by simpa using fun e=>D (.inr (.inr (.inr (.inl e))))
  have hs:(o==24)=false:=by simpa using fun e=>D (.inr (.inr (.inr (.inr e))))
  (repeat' refine sQ ?_<;>simp only [h6,Y,h3,L,F8,BX,g.cell,d.cell,d.len,c.cell,c.len,AA,K,T,o7,o8,o9,hr,hs,go_sem])
 all_goals
  refine lpK (fun (z:Nat)=>[(73,A1 z)]) (fun _=>V) (fun z=>z<=ks.length) (fun z=>ks.length - z) ?_ 0 (by simp);intro q hq w;by_cases u:q < ks.length
  case' pos=>
   obtain ⟨k,r⟩:=Ak u;have E:=Au (J:=Ba) r;obtain ⟨h1,h2⟩:=Z k (AE r);obtain ⟨tv,rfl⟩:=c.AKQ (fun e=>by rw [e] at E;cases E);have N:=wS q;simp only [Ba] at E;have c1:decide ((k:Int)<=(i:Int))=false:=by simp;omega
   have c2:decide ((S.xs.length:Int)<=(k:Int))=false:=by simp;omega
   (repeat' refine sQ ?_<;>simp only [BI u,E,c1,c2,N,j.len,go_sem]);exact w (q+1) u (by omega)
  clear w;have l:=DG.cel g (AA ..);(repeat' refine sQ ?_<;>simp only [B5 u,l.cell,l.len,go_sem]);clear u;refine lpK (fun (z:Nat)=>[(91,A1 z)]) (fun _=>V) (fun z=>z<=vs.length) (fun z=>vs.length - z) ?_ 0 (by simp);intro y hy w;by_cases F:y < vs.length
  case' pos=>
   obtain ⟨k,r⟩:=Ak F;have E:=Au (J:=Ez) r;obtain ⟨h1,h2⟩:=h5 k (AE r);have N:=wS y;have c1:decide (k < 0)=false:=by simp;omega
   have c2:decide ((S.vars.length:Int)<=k)=false:=by simp;omega
   simp only [Ez] at E;rcases g.form (fun e=>by rw [e] at E;cases E) with rfl|⟨t1,t2,t3,rfl⟩|rfl
   all_goals
    (repeat' refine sQ ?_<;>simp only [BI F,E,c1,c2,N,a.len,a.cell,go_sem]);exact w (y+1) F (by omega)
  clear w;(repeat' refine sQ ?_<;>simp only [B5 F,hp,go_sem]);exact ih (i+1) n (by omega)
def gtT:Nat->Option (Array Value):=fun b=>if b=TT then some Ul else none
theorem AVB:(TV gtT).gt TT=some Ul:=by simp [TV,gtT]
end Go.Ab
namespace Go.Proofs.YtojbfmeeomhkoaaGreatDoor
open Go.ChangeShapes Go.WideShapes Go.ChangeAt Go.RowKit
theorem Tryz.own:ownKnob Tzp.godebug=none:=by kernel_rfl
theorem Tryz.laidOut:laidOutB Tzp=true:=by kernel_rfl
def AEX:List (String×DataW Unit):=[("math/bits.deBruijn32tab",Rows.laid_math_bits_deBruijn32tab),("math/bits.deBruijn64tab",Rows.laid_math_bits_deBruijn64tab),("internal/strconv.uint64pow10",Rows.laid_internal_strconv_uint64pow10)]
theorem ASJ:(Tzp.globals[Go.Ab.TT]?).map (·.type)=some 345:=by kernel_rfl
theorem AP7 (os:Os) (args:Array Value):laidMetH Tzp AEX ((World.doorLaid Tzp 400 os).forCall (fun _ _=>0) ⟨#[],args,[]⟩).memory:=
 laidMetH_of_parts3 (fuel:=8) (laidMet_of_run' 8 (by kernel_rfl) (by kernel_rfl)) (by kernel_rfl) (by kernel_rfl)
theorem AOV {Q08:World} {n:String} {g:Nat} {cs:Array Value} (a:Tzp.globalNamed n=some g) (h:Q08.var? Tzp n=some cs):∃ty fr,Q08.heap[g]?=some (.cells cs ty fr):=by
 unfold World.var? at h
 grind
theorem AVC {Q08:World} (h:laidMetH Tzp AEX Q08):∀b vs,Go.Ab.gtT b=some vs->∃ty fr,Q08.heap[b]?=some (.cells vs ty fr):=by
 rw [MakeChecks.laidMetH_plain _ _ _ (by kernel_rfl)] at h;intro b vs w;obtain ⟨z,⟨t,t0,e,f0,x,B,l,n,p,j,⟨u,t1,f,f1,y,D,m,o,q,hd1,⟨v,t2,cs2,f2,s,E,c,d,r,a,_,_⟩,_⟩,_⟩,_,_⟩:=h;obtain rfl:=RE (Go.Ab.jP.symm.trans c);obtain rfl:=RE (ASJ.symm.trans d);have g:=Lib.cells_of_tab (k:= .u64) (zs:=Lib.pow10Tab) Tryz.underlying345 Tryz.underlying326 (by kernel_rfl) (by kernel_rfl) (show DataW.trod _ _ _ _ _ _ _ _ _=some (Lib.tabData .u64 Lib.pow10Tab,s) from a)
 have i:cs2=Go.Ab.Ul:=by
  apply Array.toList_inj.1;rw [g];rfl
 grind [Go.Ab.gtT,AOV,Go.Ab.jP]
end Go.Proofs.YtojbfmeeomhkoaaGreatDoor
namespace Go.Ab
open Go.Proofs
theorem iY (a:List I) (h:oC Tzp [25] a):AS Tzp 3 a (TV gtT) (fun v _=>v= .d (.bool true)):=by
 obtain ⟨b,rfl⟩:=AUI h;exact (oF b (TV gtT) AVB).mono (fun _ _ h=>h.1)
end Go.Ab
namespace Go.Proofs.YtojbfmeeomhkoaaGreatDoor
open Go.ChangeShapes Go.WideShapes Go.ChangeAt Go.RowKit
theorem bJ (os:Os) (a:os.Started) (Q02:Type) (J:TypeId×Value->Q02):
 ReturnsInHanded {} Tryz.checked os 3 .any (fun w args=>(Rows.lowerNormalSpec.pre J Tzp Tryz.f3 [] false w args/\laidMetH Tzp AEX w)/\sizedMet J Tzp Tryz.f3 (OpenSpec.ofChange Rows.lowerNormalSpec) false w args)
  (Rows.lowerNormalSpec.post J Tzp Tryz.f3 false true false false):=by
 refine returnsInHanded_of_change_and (C:=Tryz.checked) (X:=fun w _=>laidMetH Tzp AEX w) (fun _ _ _ j h=>h.of_heap j) Tryz.own a (by kernel_rfl) Tryz.func3
  (ChangeSpec.witness_shaped (enc:=J) (C:=Tryz.checked) (os:=os) (X:=fun w _=>laidMetH Tzp AEX w) false (World.doorLaid Tzp 400 os) #[.agg #[.slice none 0 0,.slice none 0 0]] 8 rfl (World.shaped_of_RefB (by kernel_rfl) (by kernel_rfl)) (by kernel_rfl) (by kernel_rfl) (by kernel_rfl) (AP7 os _)) ?_
 intro Q08 base args ds d before b g _ _ e _;have f:=AVC e;refine Go.Ab.wJ (P:=Tzp) (gt:=Go.Ab.gtT) [25,22,48,9,45,46,52,50,54,3,23,62,60,2,57,58,81] Tryz.laidOut (by kernel_rfl) ?_ ?_ (tb:=4) (by kernel_rfl) Tryz.underlying4 rfl ?_ ?_ Q08 f base args ds d before b g
 . simp_all
 . rw [Tryz.params3];intro t c;simp only [Ah,List.not_mem_nil,or_false] at c;subst c;exact ⟨by kernel_rfl,of_decide_eq_true (by kernel_rfl)⟩
 . rw [Tryz.params3];intro ds i
   match ds,i with
   |[d0],_=>rfl
 . rw [Tryz.params3];exact Go.Ab.iY
theorem jA:mapsRowed Tzp=true:=by kernel_rfl
theorem jB:(Rows.lowerNormalRow.inPlace==Tzp.inPlace 3)=true:=by kernel_rfl
theorem jC:(Rows.lowerNormalRow.unfollowed==Tzp.unfollowed 3)=true:=by kernel_rfl
theorem jD:(Rows.lowerNormalRow.recurses==Tzp.recurses 3)=true:=by kernel_rfl
theorem jE:(Rows.lowerNormalRow.named==Tzp.varsNamed 3)=true:=by kernel_rfl
theorem jF:Tzp.stopsHeard=true:=by kernel_rfl
theorem jG:Tzp.mayEnter=true:=by kernel_rfl
theorem jH:(Rows.lowerNormalRow.lifted==Tzp.liftsFinal)=true:=by kernel_rfl
theorem jI:(Tzp.make==some Rows.lowerNormalRow.make)=true:=by kernel_rfl
theorem jJ:Tzp.funcNamed Rows.lowerNormalRow.func=some 3:=by kernel_rfl
theorem K9 {a b:Bool} (c:a=true) (d:b=true):(a&&b)=true:=by rw [c,d];rfl
theorem eE:joinedFacts Tzp 3 Tryz.f3 Rows.lowerNormalSpec Rows.lowerNormalRow=true:=(K9 (K9 (K9 (K9 (K9 (K9 (K9 (K9 (K9 (K9 (K9 (K9 (K9 (K9 (K9 (K9 (K9 (K9 (K9 (K9 (K9 (K9 (K9 (K9 (K9 (K9 (K9 (K9 (K9 (K9 (K9 (by kernel_rfl) Tryz.laidOut) jA) (by kernel_rfl)) (by kernel_rfl)) (by kernel_rfl)) (by kernel_rfl)) (by kernel_rfl)) (by kernel_rfl)) jB) jC) jD) jE) (by kernel_rfl)) (by kernel_rfl)) (by kernel_rfl)) (by kernel_rfl)) (by kernel_rfl)) (by kernel_rfl)) (by kernel_rfl)) (by kernel_rfl)) (by kernel_rfl)) (by kernel_rfl)) (by kernel_rfl)) jF) jG) jH) jI) (by kernel_rfl)) (by kernel_rfl)) (by kernel_rfl)) (by kernel_rfl))
theorem mZ:Rows.LowerNormalSaid:=
 OpenClaim.holds_of_wide 3 Tryz.f3 rfl rfl rfl rfl rfl rfl rfl ⟨rfl,rfl,rfl,rfl,rfl⟩ rfl rfl rfl rfl rfl jJ Tryz.func3 eE
  (of_decide_eq_true (by kernel_rfl)) (by unfold Func.isWrapper;first|(rw [if_pos (by decide+kernel)];kernel_rfl)|(rw [if_neg (by decide+kernel)];exact ⟨rfl,rfl⟩))
  (fun os a Q02 J _=>bJ os a Q02 J)
theorem kW:Rows.lowerNormalRow.wfByText (OpenSpec.ofChange Rows.lowerNormalSpec)=true:=by kernel_rfl
theorem kM:Tzp.mainIs=some (true,"af7d0c7fea74d6413b2dd961ccb421e8f4e475e5ed3ec0ff77cb53457fc947a9".toList):=by kernel_rfl
theorem kL:false=Tzp.looks []:=by kernel_rfl
theorem kS:([25].all fun u=>!Tzp.wantsStandIn u)=true:=by kernel_rfl
theorem kG:false=Rows.lowerNormalRow.goesBy Tzp:=by kernel_rfl
theorem lowerNormal_holds:Rows.LowerNormalCardSaid:=
 Claim7.holds_tied_plain_at .later [] [.data,.data,.data] true (true,"af7d0c7fea74d6413b2dd961ccb421e8f4e475e5ed3ec0ff77cb53457fc947a9") false
  mZ (fun _ h=>by cases h) kW (fun _ h=>by cases h) lowerNormal_row_tie rfl ⟨rfl,rfl⟩ kM rfl
  (fun f fn b a=>by
    obtain rfl:f=3:=(RE (jJ.symm.trans b)).symm;obtain rfl:fn=Tryz.f3:=(RE (Tryz.func3.symm.trans a)).symm
    exact ⟨kL,fun j t d=>by
     rw [Tryz.params3] at d;have c:t∈[25]:=by grind
     exact (show Tzp.wantsStandIn t=false by simpa using Ao.1 kS t c)⟩)
  kG
#print axioms Go.Proofs.YtojbfmeeomhkoaaGreatDoor.lowerNormal_holds
end Go.Proofs.YtojbfmeeomhkoaaGreatDoor
