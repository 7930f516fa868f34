/- The law FormCompares over abstract values. Copies of rows of terms. The reference's sum of ascending terms. Bounds of sums of terms. Sums of terms. Conditions: none. -/
import Derived.Shelf.SlSortCmp.NoneTotal
import Derived.Test.YtdbpmhfepfpldaaDoorXGa
set_option linter.unusedSimpArgs false
set_option linter.unusedVariables false
set_option maxRecDepth 4000
set_option maxHeartbeats 8000000
open Bool renaming and_eq_true→AJ,eq_iff_iff→FC
open List renaming map_cons→C5,flatten_cons→CT,map_append→HR,map_nil→Cr,cons_append→C9,nil_append→B8,replicate→AH,length_cons→Ap,take_succ_cons→H4,take_zero→DL,drop_succ_cons→H0,all_cons→Ar,all_nil→Cq,length_map→AG,getElem?_cons_zero→KZ,length_nil→B7,getElem?_append_right→AW,getElem?_drop→By,take_add_one→Ds,mem_cons→BD,mem_append→Ac,pairwise_cons→Be,drop_drop→F5,mem_of_mem_drop→BL,mem_cons_self→A5,mem_of_getElem?→BA,length_append→AI,mem_singleton→BR,drop_of_length_le→D9
open List.cons renaming injEq→HQ
open Nat renaming eq_zero_or_pos→BE,le_trans→Aa,sub_self→F8,add_zero→CA,zero_add→Ah,mul_le_mul→ED,le_refl→AP,lt_or_ge→C4
open Option renaming bind_eq_bind→AE,bind_some→BU,map_some→Ax
open Option.some renaming injEq→AD
namespace Go.Ab
open Go.Proofs
set_option maxHeartbeats 4000000
theorem T7 (l m:Ln): -1≤Dc l m∧Dc l m≤1:=by
 have hT:∀x y,-1≤Dr x y∧Dr x y≤1:=fun x y=>by
  have h1:=I3 x.1 y.1
  have h2:=I3 x.2 y.2
  unfold Dr orI
  split<;>omega
 have hS:∀a b:Tms,-1≤Br a b∧Br a b≤1:=by
  intro a
  induction a with
  |nil=>intro b;cases b<;>simp [Br]
  |cons x a ih=>
   intro b
   cases b with
   |nil=>simp [Br]
   |cons y b=>
    have h1:=hT x y
    have h2:=ih b
    unfold Br orI
    split<;>omega
 have h1:=hS l.ts m.ts
 have h2:=I3 l.c m.c
 have h3:=I3 (l.ts.length:Int) (m.ts.length:Int)
 unfold Dc orI
 split<;>(try split)<;>omega
theorem VV (l m n:Ln):IG [l,m,n]=(decide (l.ts.length≤70)&&(decide (m.ts.length≤70)&&decide (n.ts.length≤70))):=by simp [IG]
theorem IJ (l m n:Ln) (v:Int) (hb:MW l.ts) (σ:AF) (k9:AM Tryd.prog 22 [] σ (fun v σ'=>v= .d (.bool true)∧σ'=σ)):AM Tryd.prog 9 [B6 l,B6 m,B6 n,.d (.int .i64 v)] σ (fun v σ'=>v= .d (.bool true)∧σ'=σ):=by
 refine Gi (by simp) ?_
 rw [Ut]
 have hsm:=LG [l,m,n] σ
 cases hs:IG [l,m,n] with
 |false=>
  rw [hs] at hsm
  simp only [B6] at *
  (repeat' (first|refine Run.ct rfl ?_|((first|refine Run.reg mixed ?_|refine Run.AN ?_|refine Run.Aj Bg (AF.le_refl _) ?_|refine AK.det (hsm) ?_|(refine AO rfl (fun h=>?_) (fun h=>?_)<;>try (cases h;done)))<;>try simp -implicitDefEqProofs only [go_sem])|(refine ⟨fun h=>?_,fun h=>?_⟩<;>first|(cases h;done)|try simp only [h])|fail))
 |true=>
  have h3:=VV l m n
  rw [hs] at h3
  simp only [Bool.true_eq,AJ,decide_eq_true_eq] at h3
  rw [hs] at hsm
  have k1:=Cp l m σ (by omega)
  have k2:=LU l m σ (by omega)
  have k3:=Cp m l σ (by omega)
  have k4:=KD l m σ
  have k5:=Hv l v σ (by omega) hb
  have k6:=KF l v σ (by omega) hb
  have k7:=Cp m n σ (by omega)
  have k8:=Cp l n σ (by omega)
  have e1:(Dc l m != Dc l m)=false:=bne_self_eq_false _
  have r1:=T7 m l
  have e2:IntKind.i64.wrap (0 - Dc m l)=Dc l m:=by rw [Ix (by omega) (by omega),Rz l m];omega
  have e3:(Dc l m==0)=Gr l m:=by
   rw [FC,RY,beq_iff_eq];exact Q2 l m
  have e4:(Gr l m != Gr l m)=false:=bne_self_eq_false _
  have e5:((BK v l.ts != 0) != (BK v l.ts != 0))=false:=bne_self_eq_false _
  have ht:=Oh l m n
  generalize hz:(BK v l.ts != 0)=z at *
  clear hz hb h3
  generalize Dc l m=c1 at *
  generalize Dc m l=c2 at *
  generalize Dc m n=c3 at *
  generalize Dc l n=c4 at *
  generalize Gr l m=sm at *
  simp only [B6] at *
  have e0:IntKind.i64.wrap (0 - c2)=c1:=e2
  by_cases h1:c1≤0
  · by_cases h2:c3≤0
    · have h3:=ht h1 h2
      have d3:decide (0 < c4)=false:=by simp;omega
      (repeat' (first|refine Run.ct rfl ?_|((first|refine Run.reg mixed ?_|refine Run.AN ?_|refine Run.Aj Bg (AF.le_refl _) ?_|refine AK.det (hsm) ?_|refine AK.det (k1) ?_|refine AK.det (k2) ?_|refine AK.det (k3) ?_|refine AK.det (k4) ?_|refine AK.det (k5) ?_|refine AK.det (k6) ?_|refine AK.det (k7) ?_|refine AK.det (k8) ?_|refine AK.det (k9) ?_|(refine AO rfl (fun h=>?_) (fun h=>?_)<;>try (cases h;done)))<;>try simp -implicitDefEqProofs only [e1,e0,e3,e4,e5,decide_eq_true h1,decide_eq_true h2,d3,go_sem])|(refine ⟨fun h=>?_,fun h=>?_⟩<;>first|(cases h;done)|try simp only [h])|fail))
    · (repeat' (first|refine Run.ct rfl ?_|((first|refine Run.reg mixed ?_|refine Run.AN ?_|refine Run.Aj Bg (AF.le_refl _) ?_|refine AK.det (hsm) ?_|refine AK.det (k1) ?_|refine AK.det (k2) ?_|refine AK.det (k3) ?_|refine AK.det (k4) ?_|refine AK.det (k5) ?_|refine AK.det (k6) ?_|refine AK.det (k7) ?_|refine AK.det (k8) ?_|refine AK.det (k9) ?_|(refine AO rfl (fun h=>?_) (fun h=>?_)<;>try (cases h;done)))<;>try simp -implicitDefEqProofs only [e1,e0,e3,e4,e5,decide_eq_true h1,decide_eq_false h2,go_sem])|(refine ⟨fun h=>?_,fun h=>?_⟩<;>first|(cases h;done)|try simp only [h])|fail))
  · (repeat' (first|refine Run.ct rfl ?_|((first|refine Run.reg mixed ?_|refine Run.AN ?_|refine Run.Aj Bg (AF.le_refl _) ?_|refine AK.det (hsm) ?_|refine AK.det (k1) ?_|refine AK.det (k2) ?_|refine AK.det (k3) ?_|refine AK.det (k4) ?_|refine AK.det (k5) ?_|refine AK.det (k6) ?_|refine AK.det (k7) ?_|refine AK.det (k8) ?_|refine AK.det (k9) ?_|(refine AO rfl (fun h=>?_) (fun h=>?_)<;>try (cases h;done)))<;>try simp -implicitDefEqProofs only [e1,e0,e3,e4,e5,decide_eq_false h1,go_sem])|(refine ⟨fun h=>?_,fun h=>?_⟩<;>first|(cases h;done)|try simp only [h])|fail))
end Go.Ab
namespace Go.Ab
open Go.Proofs
theorem Gm:∀ts:List (Int×Int),C0 (ts.map tmR)=prs ts
 |[]=>rfl
 |x::l=>by
  have:=Gm l
  simp only [C0,C5,tmR,CT,HR,Cr] at this ⊢
  simp only [prs,C9,B8,HQ,true_and]
  exact this
theorem AF.ext' {σ τ:AF} (h1:σ.blk=τ.blk) (h2:σ.tok=τ.tok) (h3:σ.gt=τ.gt) (h4:σ.bt=τ.bt):σ=τ:=by
 cases σ;cases τ;simp_all
theorem Mk {σ:AF} {j:Nat} {cs:List AV} (h:σ.blk j=none):(σ.AX j cs).DH j=σ:=by
 refine AF.ext' ?_ rfl rfl rfl
 funext k
 by_cases e:k=j
 · subst e;simp [AF.DH,h]
 · simp [AF.DH,AF.AX,e]
theorem QC (ts:List (Int×Int)):∀r∈ts.map tmR,r.length=2:=by
 intro r hr
 obtain ⟨x,_,rfl⟩:=List.mem_map.1 hr
 rfl
def MR (σ:AF) (ts:List (Int×Int)) (v:AV) (σ':AF):Prop:=(ts=[]∧v= .A7∧σ'=σ)∨∃j,σ.blk j=none∧v= .ms j ts.length 2 49∧σ'=σ.AX j (prs ts)
theorem NV (ts:List (Int×Int)) (σ:AF) (hl:ts.length≤1000000):AM Tryd.prog 85 [Gw ts] σ (MR σ ts):=by
 refine Et (by simp) ?_
 rw [CQ,Gw]
 cases ts with
 |nil=>
  (repeat' (first|refine Run.ct rfl ?_|((first|refine Run.reg mixed ?_|refine Run.AN ?_|(refine XEx.TG rfl rfl (fun b=>?_))|(refine IL.mk (fun j hj=>?_))|(refine El.emp (n:=0) (cs:=[]) (σ1:=(σ.AX j []).DH j) (by simp [Em,Af]) rfl (by omega) (by omega) ?_)|refine Run.MA Bw (AF.le_refl _) ?_|(refine AO rfl (fun h=>?_) (fun h=>?_)<;>try (cases h;done)))<;>try simp -implicitDefEqProofs only [Cr,go_sem])|(refine ⟨fun h=>?_,fun h=>?_⟩<;>first|(cases h;done)|try simp only [h])|fail))
  · exact .inl ⟨rfl,rfl,rfl⟩
  · exact .inr ⟨j,hj,rfl,rfl⟩
 |cons x l=>
  (repeat' (first|refine Run.ct rfl ?_|((first|refine Run.reg mixed ?_|refine Run.AN ?_|(refine XEx.L7 rfl (b:=false) rfl ?_)|(refine IL.mk (fun j hj=>?_))|(refine El.mk (n:=0) (cs:=[]) (srows:=(x::l).map tmR) (σ1:=(σ.AX j []).DH j) (by simp [Em,Af]) rfl (QC _) (by simp) (by simp at hl ⊢;omega) (by omega) (fun j2 hj2=>?_))|refine Run.MA Bw (AF.le_refl _) ?_|(refine AO rfl (fun h=>?_) (fun h=>?_)<;>try (cases h;done)))<;>try simp -implicitDefEqProofs only [Cr,go_sem])|(refine ⟨fun h=>?_,fun h=>?_⟩<;>first|(cases h;done)|try simp only [h])|fail))
  rw [show tmR x::List.map tmR l=(x::l).map tmR from rfl,Gm,Mk hj]
  simp only [Af] at hj2
  split at hj2
  · cases hj2
  · exact .inr ⟨j2,hj2,by simp,rfl⟩
theorem TY (n:Nat) (σ:AF) (hn:n≤1000000):AM Tryd.prog 88 [.A7,.d (.int .i64 n)] σ (MR σ []):=by
 refine FH (by simp) ?_
 rw [CC]
 have h1:decide ((n:Int) < 0)=false:=by simp
 have h2:IntKind.i64.wrap ((0:Int) - 0)=0:=by decide
 have h3:IntKind.i64.wrap ((n:Int) - 0)=(n:Int):=by rw [Dl (by omega) (by omega)];omega
 rcases BE n with h0|h0
 · have h4:decide ((0:Int) < (n:Int))=false:=by simp;omega
   (repeat' (first|refine Run.ct rfl ?_|((first|refine Run.reg mixed ?_|refine Run.AN ?_|refine Run.MA CD (AF.le_refl _) ?_|(refine AO rfl (fun h=>?_) (fun h=>?_)<;>try (cases h;done)))<;>try simp -implicitDefEqProofs only [h1,h2,h3,h4,go_sem])|(refine ⟨fun h=>?_,fun h=>?_⟩<;>first|(cases h;done)|try simp only [h])|fail))
   exact .inl ⟨rfl,rfl,rfl⟩
 · have h4:decide ((0:Int) < (n:Int))=true:=by simp;omega
   (repeat' (first|refine Run.ct rfl ?_|((first|refine Run.reg mixed ?_|refine Run.AN ?_|(refine XEx.N0 h0 (by omega) (by omega) (fun j hj=>?_))|(refine ⟨0,2,49,[],(σ.AX j (AH n [AV.d (.int .i64 0),AV.d (.int .i64 0)]).flatten).DH j,(by simp [UO,LK,Af]),fun j2 hj2=>?_⟩)|refine Run.MA CD (AF.le_refl _) ?_|(refine AO rfl (fun h=>?_) (fun h=>?_)<;>try (cases h;done)))<;>try simp -implicitDefEqProofs only [h1,h2,h3,h4,go_sem])|(refine ⟨fun h=>?_,fun h=>?_⟩<;>first|(cases h;done)|try simp only [h])|fail))
   rw [Mk hj]
   simp only [Af] at hj2
   split at hj2
   · cases hj2
   · exact .inr ⟨j2,hj2,by simp,rfl⟩
theorem El.mr {K:BX} {F:Fm} {L:Lm} {σ σ0:AF} {d:Option Nat} {ts us:List (Int×Int)} {v x:AV} {bytes:Nat} (hm:MR σ0 ts v σ) (hx:x.rows=some (us.map tmR)) (hl:ts.length+us.length≤1000000) (hb:bytes≤10000)
 (h:∀v' σ',MR σ0 (ts++us) v' σ'→K (AY d v' F) L σ'):El 49 2 bytes v x d K F L σ:=by
 have happ:∃cs σ1,Em σ 49 2 v=some (ts.length,cs,σ1)∧cs=prs ts∧σ1=σ0:=by
  rcases hm with ⟨rfl,rfl,rfl⟩|⟨j,hj,rfl,rfl⟩
  · exact ⟨[],σ,rfl,rfl,rfl⟩
  · exact ⟨prs ts,(σ0.AX j (prs ts)).DH j,by simp [Em,Af,FX],rfl,Mk hj⟩
 obtain ⟨cs,σ1,ha,rfl,rfl⟩:=happ
 cases us with
 |nil=>exact El.emp ha (by simpa using hx) (by simp at hl;omega) hb (h v σ (by simpa using hm))
 |cons y us=>
  refine El.mk ha hx (QC _) (by simp) (by simp at hl ⊢;omega) hb (fun j hj=>h _ _ (.inr ⟨j,?_,by simp,?_⟩))
  · rcases hm with ⟨rfl,rfl,rfl⟩|⟨j',hj',rfl,rfl⟩
    · exact hj
    · simp only [Af] at hj
      split at hj
      · cases hj
      · exact hj
  · rw [Gm,LQ]
theorem Pq:∀ts:List (Int×Int),dvs (prs ts)=some (ts.map tmR).flatten
 |[]=>rfl
 |x::l=>by
  have:=Pq l
  simp only [prs,dvs,AV.dv,this,AE,BU]
  rfl
theorem Nc:∀ts:List (Int×Int),chunk 2 ts.length (ts.map tmR).flatten=ts.map tmR
 |[]=>rfl
 |x::l=>by
  have:=Nc l
  simp only [Ap,chunk,C5,CT,tmR,C9,B8,H4,DL,H0,List.drop_zero]
  rw [this]
theorem VL:(1000000:Nat)≤maxLen:=by decide+kernel
theorem Run.Sy {cx:Cx} {KK:AV→AF→Prop} {k:List CI} {F:Fm} {L:Lm} {σ σ0:AF} {s:Nat} {ts:List (Int×Int)} (hg:Good cx) (hrs:cx.rs=[.t s]) (hm:MR σ0 ts (F s) σ) (hl:ts.length≤1000000) (h:KK (Gw ts) σ0):Run cx KK (.code .ret::k) F L σ:=by
 rcases hm with ⟨rfl,hv,rfl⟩|⟨j,hj,hv,rfl⟩
 · refine Run.Aj hg (AF.le_refl _) ?_
   rw [hrs]
   simp only [LW,NR,rvA,hv,AE,BU,Ar,Cq,AV.BC,Bool.and_self,if_true,Ax,AV.plain]
   exact h
 · refine Run.freeze (i:=j) (n:=ts.length) (size:=2) (cs:=prs ts) (ds:=(ts.map tmR).flatten) (σ':=σ0) (L':=L) (F':=put s (Gw ts) F) (by simp only [Af,if_true]) (Pq ts) (FX ts) (Aa hl VL) (fun t=>?_) (fun k cs hk=>⟨cs,hk,.inl rfl⟩) (fun r cs' hr=>?_) (fun t h=>h) ?_
   · by_cases e:t=s
     · subst e
       right
       rw [hv,Nc]
       simp [put,frz,Gw]
     · left;simp [put,e]
   · have hne:r≠j:=fun e=>by rw [e,hj] at hr;cases hr
     exact ⟨hne,cs',by simp [Af,hne,hr],.inl rfl⟩
   · refine Run.Aj hg (AF.le_refl _) ?_
     rw [hrs]
     simp only [LW,NR,rvA,QB,if_true,Gw,AE,BU,Ar,Cq,AV.BC,Bool.and_self,Ax,AV.plain]
     exact h
theorem MH (a b:List (Int×Int)) (σ:AF) (hl:a.length+b.length≤1000000):AM Tryd.prog 58 [.d (.sl [[.sl (a.map tmR)],[.sl (b.map tmR)]])] σ (fun v σ'=>v=Gw (a++b)∧σ'=σ):=by
 refine E9 (by simp) ?_
 rw [CQ]
 have w1:IntKind.i64.wrap ((0:Int)+(a.length:Int))=(a.length:Int):=by rw [Dl (by omega) (by omega)];omega
 have w2:IntKind.i64.wrap ((a.length:Int)+(b.length:Int))=((a.length+b.length:Nat):Int):=wrap_add (by omega)
 have n1:decide ((a.length:Int) < 0)=false:=by simp
 have n2:decide (((a.length+b.length:Nat):Int) < 0)=false:=by simp only [decide_eq_false_iff_not];omega
 have q1:IntKind.i64.wrap ((0:Int)+1)=1:=by decide
 have q2:IntKind.i64.wrap ((1:Int)+1)=2:=by decide
 have c0:decide ((0:Int) < ((2:Nat):Int))=true:=by decide
 have c1:decide ((1:Int) < ((2:Nat):Int))=true:=by decide
 have c2:decide ((2:Int) < ((2:Nat):Int))=false:=by decide
 have i0:Int.toNat 0=0:=rfl
 have i1:Int.toNat 1=1:=rfl
 have l0:((0:Int)≤0)=True:=by simp
 have l1:((0:Int)≤1)=True:=by simp
 (repeat' (first|refine Run.ct rfl ?_|((first|refine Run.reg mixed ?_|refine Run.AN ?_|(refine Run.loop ?_)|(refine Run.again ?_)|(refine AK.mk rfl (TY (a.length+b.length) σ hl) (fun v σ1 hm=>?_))|(refine El.mr (us:=a) hm (PX _) (by simp;omega) (by omega) (fun v2 σ2 hm2=>?_))|(refine El.mr (us:=b) hm2 (PX _) (by simp;omega) (by omega) (fun v3 σ3 hm3=>?_))|(refine AO rfl (fun h=>?_) (fun h=>?_)<;>try (cases h;done)))<;>try simp -implicitDefEqProofs only [w1,w2,n1,n2,q1,q2,c0,c1,c2,i0,i1,l0,l1,AG,go_sem])|(refine ⟨fun h=>?_,fun h=>?_⟩<;>first|(cases h;done)|try simp only [h])|fail))
 exact Run.Sy Co rfl (s:=2) hm3 (by simp;omega) ⟨rfl,rfl⟩
theorem Ss:∀(l:List (Int×Int)) (q:Nat) (x:Int×Int) (c:Int),l[q]?=some x→wr (prs l) (q * 2+1) [.d (.int .i64 c)]=prs (l.set q (x.1,c))
 |[],q,x,c,h=>by simp at h
 |y::l,0,x,c,h=>by simp only [KZ,AD] at h;subst h;simp [prs,wr]
 |y::l,q+1,x,c,h=>by
  have:=Ss l q x c (by simpa using h)
  rw [show (q+1) * 2+1=(q * 2+1)+1+1 by omega]
  simp only [wr,prs,Ap,B7,List.set_cons_succ,H4,C9,HQ,true_and] at this ⊢
  rw [← this,show q * 2+1+1+1+(0+1)=q * 2+1+(0+1)+1+1 by omega]
  simp only [H0]
def scl (n:Int) (x:Int×Int):Int×Int:=(x.1,IntKind.i64.wrap (x.2 * n))
theorem TP (ts:List (Int×Int)) (n:Int) (σ:AF) (hl:ts.length≤1000000):AM Tryd.prog 61 [Gw ts,.d (.int .i64 n)] σ (fun v σ'=>v=Gw (ts.map (scl n))∧σ'=σ):=by
 refine LC (by simp) ?_
 rw [CC,Gw]
 (repeat' (first|refine Run.ct rfl ?_|((first|refine Run.reg mixed ?_|refine Run.AN ?_|(refine AK.mk rfl (NV ts σ hl) (fun v σ1 hm=>?_))|(refine AO rfl (fun h=>?_) (fun h=>?_)<;>try (cases h;done)))<;>try simp -implicitDefEqProofs only [go_sem])|(refine ⟨fun h=>?_,fun h=>?_⟩<;>first|(cases h;done)|try simp only [h])|fail))
 rcases hm with ⟨rfl,rfl,rfl⟩|⟨j,hj,rfl,rfl⟩
 · have c0:decide ((0:Int) < 0)=false:=by decide
   simp -implicitDefEqProofs only [go_sem]
   (repeat' (first|refine Run.ct rfl ?_|((first|refine Run.reg mixed ?_|refine Run.AN ?_|(refine Run.loop ?_)|(refine AO rfl (fun h=>?_) (fun h=>?_)<;>try (cases h;done)))<;>try simp -implicitDefEqProofs only [c0,go_sem])|(refine ⟨fun h=>?_,fun h=>?_⟩<;>first|(cases h;done)|try simp only [h])|fail))
   exact Run.Sy Es rfl (.inl ⟨rfl,rfl,rfl⟩) (by simp) ⟨rfl,rfl⟩
 · simp -implicitDefEqProofs only [go_sem]
   (repeat' (first|refine Run.ct rfl ?_|((first|refine Run.reg mixed ?_|refine Run.AN ?_|(refine AO rfl (fun h=>?_) (fun h=>?_)<;>try (cases h;done)))<;>try simp -implicitDefEqProofs only [go_sem])|(refine ⟨fun h=>?_,fun h=>?_⟩<;>first|(cases h;done)|try simp only [h])|fail))
   refine Run.DR ?_
   refine Run.DS ((fun (a1:AV) (a5:AV) (a10:AV)=>fun (i:Nat)=>put 1 a1 (put 5 a5 (put 10 a10 (put 11 (.d (.int .i64 i)) U)))) _ _ _) (fun _=>E) (fun i=>σ.AX j (prs ((ts.take i).map (scl n)++ts.drop i))) (fun i=>i≤ts.length) (fun i=>ts.length - i) ?_ 0 (by simp)
   rintro i hi ih
   by_cases hlt:i < ts.length
   · obtain ⟨x,hx⟩:=Dt hlt
     have hw1:=Bc (show i+1≤9000000000000000000 by omega)
     have hlen:((ts.take i).map (scl n)).length=i:=by simp;omega
     have hget:((ts.take i).map (scl n)++ts.drop i)[i]?=some x:=by
      rw [AW (by omega),hlen,F8,By,CA,hx]
     obtain ⟨g1,g2⟩:=HK _ _ _ hget
     have hix:((i:Int) < (ts.length:Int))=True:=by simp;omega
     have hle:(i * 2+1+(0+1)≤(prs ((ts.take i).map (scl n)++ts.drop i)).length)=True:=by rw [FX];simp;omega
     (repeat' (first|refine Run.ct rfl ?_|((first|refine Run.reg mixed ?_|refine Run.AN ?_|(refine AO rfl (fun h=>?_) (fun h=>?_)<;>try (cases h;done)))<;>try simp -implicitDefEqProofs only [CR hlt,hw1,hix,g2,hle,go_sem])|(refine ⟨fun h=>?_,fun h=>?_⟩<;>first|(cases h;done)|try simp only [h])|fail))
     have hst:((ts.take i).map (scl n)++ts.drop i).set i (x.1,IntKind.i64.wrap (x.2 * n))=(ts.take (i+1)).map (scl n)++ts.drop (i+1):=by
      rw [List.set_append_right _ _ (by omega),hlen,F8,EB hx,List.set_cons_zero,Ds,hx]
      simp [scl]
     have hpw:=Ss _ i _ (IntKind.i64.wrap (x.2 * n)) hget
     simp only [wr,Ap,B7,Ah] at hpw
     rw [hpw,hst]
     exact ih (i+1) hlt (by omega)
   · (repeat' (first|refine Run.ct rfl ?_|((first|refine Run.reg mixed ?_|refine Run.AN ?_|(refine AO rfl (fun h=>?_) (fun h=>?_)<;>try (cases h;done)))<;>try simp -implicitDefEqProofs only [DU hlt,go_sem])|(refine ⟨fun h=>?_,fun h=>?_⟩<;>first|(cases h;done)|try simp only [h])|fail))
     have:i=ts.length:=by omega
     subst this
     refine Run.Sy Es rfl (ts:=ts.map (scl n)) (.inr ⟨j,hj,?_,?_⟩) (by simpa using hl) ⟨rfl,rfl⟩
     · simp [put]
     · simp
end Go.Ab
set_option maxHeartbeats 4000000
namespace Go.Ab
open Go.Proofs
theorem XEx.cpy {K:BX} {F:Fm} {L:Lm} {σ:AF} {d:Option Nat} {s i o n e1 o2 n2 e2:Nat} {cs cs':List AV} (hb:σ.blk i=some cs) (h1:(o+n) * s≤cs.length) (h2:(o2+n2) * s≤cs.length)
 (he:wr cs (o * s) ((cs.drop (o2 * s)).take (min n2 n * s))=cs') (h:K (AY d (.d (.int .i64 ((min n2 n:Nat):Int))) F) L (σ.AX i cs')):XEx (.cpy s) [.mv i o n s e1,.mv i o2 n2 s e2] d K F L σ:=by
 subst he
 exact ⟨rfl,⟨rfl,rfl,rfl⟩,cs,hb,h1,h2,h⟩
theorem XEx.O1 {K:BX} {F:Fm} {L:Lm} {σ:AF} {d:Option Nat} {e s i n o2 n2 e2:Nat} {cs cs':List AV} (hb:σ.blk i=some cs) (h1:(n+n2) * s≤cs.length) (h2:(o2+n2) * s≤cs.length)
 (he:cs.take (n * s)++(cs.drop (o2 * s)).take (n2 * s)=cs') (h:K (AY d (.ms i (n+n2) s e) F) L (σ.AX i cs')):XEx (.O1 e s) [.ms i n s e,.mv i o2 n2 s e2] d K F L σ:=by
 subst he
 exact ⟨rfl,⟨rfl,rfl,rfl,rfl⟩,cs,hb,h1,h2,h⟩
theorem MR.len {σ0 σ:AF} {ts:Tms} {v:AV} (h:MR σ0 ts v σ):Gk v=some (.d (.int .i64 ts.length)):=by
 rcases h with ⟨rfl,rfl,rfl⟩|⟨j,hj,rfl,rfl⟩<;>rfl
theorem MR.BC {σ0 σ:AF} {ts:Tms} {v:AV} (h:MR σ0 ts v σ):v.BC=true∧v.BH=true∧v.cells=[v]∧∀k,v.BJ k=false:=by
 rcases h with ⟨rfl,rfl,rfl⟩|⟨j,hj,rfl,rfl⟩<;>exact ⟨rfl,rfl,rfl,fun _=>rfl⟩
end Go.Ab
namespace Go.Ab
open Go.Proofs
theorem MR.le {σ0 σ:AF} {ts:Tms} {v:AV} (h:MR σ0 ts v σ):σ0.le σ:=by
 rcases h with ⟨rfl,rfl,rfl⟩|⟨j,hj,rfl,rfl⟩
 · exact AF.le_refl _
 · exact JQ hj
def Bnd (B:Int) (l:Tms):Prop:=∀x∈l,-B≤x.2∧x.2≤B
theorem Bnd.up {B C:Int} {l:Tms} (h:Bnd B l) (hc:B≤C):Bnd C l:=fun x hx=>by have:=h x hx;omega
theorem Bnd.pos {B:Int} {acc:Tms} (h:Bnd B acc):Bnd (max B 0) acc:=h.up (by omega)
def Gp (r:Ln×Int):AV:= .tup [B6 r.1,.d (.int .i64 r.2)]
def chk (n:Int) (us:Tms):Ln×Int:=if Bb ⟨n,us⟩ then (⟨n,us⟩,0) else (⟨0,[]⟩,9)
theorem Iy {z:Int} (h: -9223372036854775808≤z) (h':z≤9223372036854775807):IntKind.i64.wrap z=z:=by
 rcases Int.lt_or_le z 0 with hz|hz
 · unfold IntKind.wrap
   simp only [IntKind.signed,IntKind.bits]
   have e:z % (2 ^ 64:Int)=z+2 ^ 64:=by omega
   simp only [e]
   rw [if_pos (by simp;omega)]
   omega
 · exact Dl hz h'
def Q7 (e:Int):Ln×Int:=(⟨0,[]⟩,e)
def Mz (n:Int) (x:Int×Int):Int×Int:=(x.1,x.2 * n)
def Ri (l m:Ln):Ln×Int:=if Bb l&&Bb m then chk (l.c+m.c) (I1 (l.ts++m.ts)) else Q7 1
def TL (l m:Ln):Ln×Int:=if Bb l&&Bb m then chk (l.c - m.c) (I1 (l.ts++m.ts.map (Mz (-1)))) else Q7 1
theorem NT (n:Int):smB n=true↔-1048576≤n∧n≤1048576:=by simp [smB]
theorem OA:∀ {ts:Tms} {p:Option Int},Ly p ts=true→∀x∈ts,-1048576≤x.2∧x.2≤1048576
 |[],_,_,x,hx=>by cases hx
 |y::l,p,h,x,hx=>by
  simp only [Ly,AJ] at h
  rcases BD.1 hx with rfl|hx
  · exact (NT _).1 h.1.1.2
  · exact OA h.2 x hx
theorem EJ {l:Ln} (h:Bb l=true):l.ts.length≤16∧(∀x∈l.ts,-1048576≤x.2∧x.2≤1048576)∧-1048576≤l.c∧l.c≤1048576:=by
 simp only [Bb,AJ,decide_eq_true_eq] at h
 exact ⟨h.1.2,OA h.2,((NT _).1 h.1.1).1,((NT _).1 h.1.1).2⟩
theorem S7 {a b:Int} (h1: -1048576≤a∧a≤1048576) (h2: -1048576≤b∧b≤1048576): -1099511627776≤a * b∧a * b≤1099511627776:=by
 have ha:a.natAbs≤1048576:=by omega
 have hb:b.natAbs≤1048576:=by omega
 have:(a * b).natAbs≤1048576 * 1048576:=by rw [Int.natAbs_mul];exact ED ha hb
 omega
theorem UI {ts:Tms} {n:Int} (h:∀x∈ts,-1048576≤x.2∧x.2≤1048576) (hn: -1048576≤n∧n≤1048576):ts.map (scl n)=ts.map (Mz n):=by
 refine List.map_congr_left (fun x hx=>?_)
 have:=S7 (h x hx) hn
 rw [scl,Mz,Iy (by omega) (by omega)]
theorem VN {ts:Tms} {n:Int} (hl:ts.length≤500) (h:∀x∈ts,-1048576≤x.2∧x.2≤1048576) (hn: -1048576≤n∧n≤1048576):∀x∈ts.map (Mz n),-2199023255552≤x.2∧x.2≤2199023255552:=by
 intro x hx
 obtain ⟨y,hy,rfl⟩:=List.mem_map.1 hx
 have:=S7 (h y hy) hn
 simp only [Mz];omega
theorem Pf {p:Int×Int→Prop} {l m:Tms} (h:∀x∈l,p x) (k:∀x∈m,p x):∀x∈l++m,p x:=fun x hx=>by
 rcases Ac.1 hx with hx|hx
 · exact h x hx
 · exact k x hx
theorem PC {ts:Tms} (h:∀x∈ts,-1048576≤x.2∧x.2≤1048576):∀x∈ts,-2199023255552≤x.2∧x.2≤2199023255552:=fun x hx=>by have:=h x hx;omega
end Go.Ab
set_option maxHeartbeats 4000000
namespace Go.Ab
open Go.Proofs
theorem Jr (σ:AF):AM Tryd.prog 86 [.A7,.fn 87 [] []] σ (fun v σ'=>v= .tup []∧σ'=σ):=by
 intro base g Pr w0 w vs hr hv
 obtain ⟨v,u,rfl,h1,h2⟩:=hv.two
 cases h1
 refine Calls.mono (show Calls Tryd.prog 86 #[.slice none 0 0,u] w _ from AnyF.slices_SortFunc_none Tryd.TH none 0 u w) ?_
 rintro e w' ⟨rfl,rfl⟩
 exact ⟨_,.tup [],g,σ,rfl,.tup (vs:=[]) rfl (by simp),hr,Gh.le_refl g,KP.refl _ _,rfl,rfl⟩
theorem Js {l:Tms} (h:l.Pairwise (fun a b=>a.1≤b.1)) {k:Nat} {x:Int×Int} (hx:l[k]?=some x):∀b∈l.drop k,x.1≤b.1:=by
 intro b hb
 rw [EB hx] at hb
 have:=h.drop (i:=k)
 rw [EB hx] at this
 rcases BD.1 hb with rfl|hb
 · omega
 · exact (Be.1 this).1 b hb
theorem G9 {l:Tms} {k q:Nat} (h:k≤q) {b:Int×Int} (hb:b∈l.drop q):b∈l.drop k:=by
 obtain ⟨d,rfl⟩:∃d,q=k+d:=⟨q - k,by omega⟩
 rw [← F5] at hb
 exact BL hb
theorem S6 {l:Tms} {k q:Nat} (h:k≤q) {b:Int×Int} (hb:l[q]?=some b):b∈l.drop k:=
 G9 h (by rw [EB hb];exact A5 ..)
theorem FL {n:Int} {us:Tms} {v:AV} {σ:AF} (hv:v.plain= .d (.sl (us.map tmR))):AM Tryd.prog 35 [.agg [.d (.int .i64 n),v]] σ (fun v σ'=>v= .d (.bool (Bb ⟨n,us⟩))∧σ'=σ):=
 AM.plain (by simp only [AV.DI,AV.plain,hv];exact Av ⟨n,us⟩ σ)
theorem Kp (n:Int) (ts:Tms) (σ:AF) (hb:Bd ts):AM Tryd.prog 57 [.d (.int .i64 n),Gw ts] σ (fun v σ'=>v=Gp (chk n (I1 ts))∧σ'=σ):=by
 have hbl:=hb.1
 refine JO (by simp) ?_
 rw [CC,Gw]
 (repeat' (first|refine Run.ct rfl ?_|((first|refine Run.reg mixed ?_|refine Run.AN ?_|(refine AK.mk rfl (NV ts σ (by omega)) (fun v σ1 hm=>?_))|(refine AO rfl (fun h=>?_) (fun h=>?_)<;>try (cases h;done)))<;>try simp -implicitDefEqProofs only [go_sem])|(refine ⟨fun h=>?_,fun h=>?_⟩<;>first|(cases h;done)|try simp only [h])|fail))
 rcases hm with ⟨rfl,rfl,rfl⟩|⟨j,hj,rfl,rfl⟩
 · have c0:decide ((0:Int) < 0)=false:=by decide
   cases hv:Bb ⟨n,[]⟩ with
   |true=>
    (repeat' (first|refine Run.ct rfl ?_|((first|refine Run.reg mixed ?_|refine Run.AN ?_|(refine Run.loop ?_)|refine Run.Aj CZ (AF.le_refl _) ?_|refine AK.det (Jr _) ?_|refine AK.det (FL (us:=[]) (Hw)) ?_|(refine AO rfl (fun h=>?_) (fun h=>?_)<;>try (cases h;done)))<;>try simp -implicitDefEqProofs only [c0,hv,go_sem])|(refine ⟨fun h=>?_,fun h=>?_⟩<;>first|(cases h;done)|try simp only [h])|fail))
    simp [Gp,chk,I1,Hm,hv,B6]
   |false=>
    (repeat' (first|refine Run.ct rfl ?_|((first|refine Run.reg mixed ?_|refine Run.AN ?_|(refine Run.loop ?_)|refine Run.Aj CZ (AF.le_refl _) ?_|refine AK.det (Jr _) ?_|refine AK.det (FL (us:=[]) (Hw)) ?_|(refine AO rfl (fun h=>?_) (fun h=>?_)<;>try (cases h;done)))<;>try simp -implicitDefEqProofs only [c0,hv,go_sem])|(refine ⟨fun h=>?_,fun h=>?_⟩<;>first|(cases h;done)|try simp only [h])|fail))
    simp [Gp,chk,I1,Hm,hv,B6]
 · (repeat' (first|refine Run.ct rfl ?_|((first|refine Run.reg mixed ?_|refine Run.AN ?_|(refine AK.mk rfl (UK (l:=ts) (by omega) (by simp only [Af,if_true])) ?_)|(refine AO rfl (fun h=>?_) (fun h=>?_)<;>try (cases h;done)))<;>try simp -implicitDefEqProofs only [go_sem])|(refine ⟨fun h=>?_,fun h=>?_⟩<;>first|(cases h;done)|try simp only [h])|fail))
   rintro v σ' ⟨rfl,l,hp,hs,rfl⟩
   have hlen:l.length=ts.length:=hp.length_eq
   have hlb:∀x∈l,-2199023255552≤x.2∧x.2≤2199023255552:=fun x hx=>hb.2 x (hp.mem_iff.1 hx)
   (repeat' (first|refine Run.ct rfl ?_|((first|refine Run.reg mixed ?_|refine Run.AN ?_|(refine AO rfl (fun h=>?_) (fun h=>?_)<;>try (cases h;done)))<;>try simp -implicitDefEqProofs only [go_sem])|(refine ⟨fun h=>?_,fun h=>?_⟩<;>first|(cases h;done)|try simp only [h])|fail))
   refine Run.DR ?_
   refine Run.DS ((fun (a4:AV) (a6:AV) (a7:AV)=>fun (y:Nat×AV×AF)=>put 4 a4 (put 6 a6 (put 7 a7 (put 8 (.d (.int .i64 y.1)) U)))) _ _ _) (fun y=>Ba 4 [.d (.int .i64 0),.A7] (Ba 6 [.d (.int .i64 n),y.2.1] E)) (fun y=>y.2.2)
    (fun y=>y.1≤l.length∧∃out:Tms,Ft (σ.AX j (prs l)) 49 2 (out.map tmR) y.2.1 y.2.2∧out.length≤y.1∧Asc out∧Nz out∧(∀a∈out,∀b∈l.drop y.1,a.1 < b.1)∧∀v,BK v out+BK v (l.drop y.1)=BK v l)
    (fun y=>l.length - y.1) ?_ (0,.A7,σ.AX j (prs l)) ⟨by simp,[],Ft.nil _ _ _,by simp,.nil,(show Nz [] from fun x hx=>by cases hx),(fun a ha=>by cases ha),fun v=>by simp [BK]⟩
   rintro ⟨k,v,σ1⟩ ⟨hk,out,ho,hol,hasc,hnz,hlt,hsum⟩ ih
   simp only at hk ho hol hlt hsum
   have hblk:σ1.blk j=some (prs l):=ho.le.blk j _ (by simp only [Af,if_true])
   by_cases hkl:k < ts.length
   · obtain ⟨x,hx⟩:=Dt (show k < l.length by omega)
     obtain ⟨g1,g2⟩:=HK _ _ _ hx
     have hix:((k:Int) < (ts.length:Int))=True:=by simp;omega
     (repeat' (first|refine Run.ct rfl ?_|((first|refine Run.reg mixed ?_|refine Run.AN ?_|(refine AO rfl (fun h=>?_) (fun h=>?_)<;>try (cases h;done)))<;>try simp -implicitDefEqProofs only [CR hkl,hix,hblk,g1,ho.BJ,ho.cells,ho.cell,go_sem])|(refine ⟨fun h=>?_,fun h=>?_⟩<;>first|(cases h;done)|try simp only [h])|fail))
     refine Run.DR ?_
     refine Run.DS ((fun (a4:AV) (a6:AV) (a7:AV) (a9:AV)=>fun (z:Nat×Int)=>put 4 a4 (put 6 a6 (put 7 a7 (put 8 (.d (.int .i64 z.1)) (put 9 a9 U))))) _ _ _ _) (fun z=>Ba 4 [.d (.int .i64 0),.A7] (Ba 6 [.d (.int .i64 n),v] (Ba 9 [.d (.int .i64 x.1),.d (.int .i64 z.2)] E))) (fun _=>σ1)
      (fun z=>k≤z.1∧z.1≤l.length∧(z.1=k→z.2=0)∧-2199023255552 * ((z.1:Int) - k)≤z.2∧z.2≤2199023255552 * ((z.1:Int) - k)∧∀v,BK v (l.drop k)=(if x.1=v then z.2 else 0)+BK v (l.drop z.1))
      (fun z=>l.length - z.1) ?_ (k,0) ⟨AP k,hk,fun _=>rfl,by simp,by simp,fun v=>by simp⟩
     rintro ⟨q,acc⟩ ⟨hkq,hq,hz0,hb1,hb2,hcs⟩ ih2
     simp only at hkq hq hz0 hb1 hb2 hcs
     have hsx:=Js hs hx
     by_cases hql:q < ts.length
     · obtain ⟨y,hy⟩:=Dt (show q < l.length by omega)
       obtain ⟨e1,e2⟩:=HK _ _ _ hy
       have hiq:((q:Int) < (ts.length:Int))=True:=by simp;omega
       have hw1:=Bc (show q+1≤9000000000000000000 by omega)
       cases he:(y.1==x.1) with
       |true=>
        have hyb:=hlb y (BA hy)
        have hwa:IntKind.i64.wrap (acc+y.2)=acc+y.2:=Iy (by omega) (by omega)
        (repeat' (first|refine Run.ct rfl ?_|((first|refine Run.reg mixed ?_|refine Run.AN ?_|(refine AO rfl (fun h=>?_) (fun h=>?_)<;>try (cases h;done)))<;>try simp -implicitDefEqProofs only [CR hql,hiq,hblk,e1,e2,he,hw1,hwa,ho.BJ,ho.cells,ho.cell,go_sem])|(refine ⟨fun h=>?_,fun h=>?_⟩<;>first|(cases h;done)|try simp only [h])|fail))
        refine ih2 (q+1,acc+y.2) ⟨by simp only;omega,by simp only;omega,fun h=>by simp only at h;omega,by simp only;omega,by simp only;omega,fun v=>?_⟩ (by simp only;omega)
        rw [hcs v,EB hy]
        simp only [BK]
        have:y.1=x.1:=by simpa using he
        rw [this]
        split<;>omega
       |false=>
        have hne:y.1≠x.1:=by simpa using he
        have hkq':k < q:=by
         rcases C4 k q with h|h
         · exact h
         · have:q=k:=by omega
           rw [this,hx] at hy;cases hy;exact absurd rfl hne
        have hall:∀b∈l.drop q,x.1 < b.1:=fun b hb=>by
         have h1:=Js hs hy b hb
         have h2:=hsx y (S6 hkq hy)
         omega
        cases h0:(acc != 0) with
        |false=>
         (repeat' (first|refine Run.ct rfl ?_|((first|refine Run.reg mixed ?_|refine Run.AN ?_|(refine AO rfl (fun h=>?_) (fun h=>?_)<;>try (cases h;done)))<;>try simp -implicitDefEqProofs only [CR hql,hiq,hblk,e1,e2,he,hw1,h0,ho.BJ,ho.cells,ho.cell,go_sem])|(refine ⟨fun h=>?_,fun h=>?_⟩<;>first|(cases h;done)|try simp only [h])|fail))
         refine Run.Uh [4,6,7,8] ?_;simp -implicitDefEqProofs only [go_sem]
         refine ih (q,v,σ1) ⟨by simp only;omega,out,ho,by simp only;omega,hasc,hnz,fun a ha b hb=>hlt a ha b (G9 hkq hb),fun u=>?_⟩ (by simp only;omega)
         have h0':acc=0:=by simpa using h0
         have:=hsum u
         rw [hcs u,h0'] at this
         simpa using this
        |true=>
         (repeat' (first|refine Run.ct rfl ?_|((first|refine Run.reg mixed ?_|refine Run.AN ?_|(refine F9.own ho rfl (by simp) (by simp;omega) (by decide) (fun v2 σ2 ho2 hbk=>?_))|((simp -implicitDefEqProofs only [ho2.cells,ho2.cell,go_sem]))|(refine AO rfl (fun h=>?_) (fun h=>?_)<;>try (cases h;done)))<;>try simp -implicitDefEqProofs only [CR hql,hiq,hblk,e1,e2,he,hw1,h0,ho.BJ,ho.cells,ho.cell,go_sem])|(refine ⟨fun h=>?_,fun h=>?_⟩<;>first|(cases h;done)|try simp only [h])|fail))
         have h0':acc≠0:=by simpa using h0
         refine ih (q,v2,σ2) ⟨by simp only;omega,out++[(x.1,acc)],by simpa [tmR] using ho2,by simp only [AI,List.length_singleton];omega,?_,?_,?_,fun u=>?_⟩ (by simp only;omega)
         · refine List.pairwise_append.2 ⟨hasc,.cons (by simp) .nil,fun a ha b hb=>?_⟩
           simp only [BR] at hb;subst hb
           exact hlt a ha x (by rw [EB hx];exact A5 ..)
         · intro a ha
           rcases Ac.1 ha with ha|ha
           · exact hnz a ha
           · simp only [BR] at ha;subst ha;exact h0'
         · intro a ha b hb
           rcases Ac.1 ha with ha|ha
           · exact hlt a ha b (G9 hkq hb)
           · simp only [BR] at ha;subst ha;exact hall b hb
         · have:=hsum u
           rw [hcs u] at this
           rw [Cu]
           simp only [BK]
           omega
     · have hkq':k < q:=by omega
       have hall:∀b∈l.drop q,x.1 < b.1:=fun b hb=>by
        rw [D9 (by omega)] at hb;cases hb
       cases h0:(acc != 0) with
       |false=>
        (repeat' (first|refine Run.ct rfl ?_|((first|refine Run.reg mixed ?_|refine Run.AN ?_|(refine AO rfl (fun h=>?_) (fun h=>?_)<;>try (cases h;done)))<;>try simp -implicitDefEqProofs only [DU hql,h0,ho.BJ,ho.cells,ho.cell,go_sem])|(refine ⟨fun h=>?_,fun h=>?_⟩<;>first|(cases h;done)|try simp only [h])|fail))
        refine Run.Uh [4,6,7,8] ?_;simp -implicitDefEqProofs only [go_sem]
        refine ih (q,v,σ1) ⟨by simp only;omega,out,ho,by simp only;omega,hasc,hnz,fun a ha b hb=>hlt a ha b (G9 hkq hb),fun u=>?_⟩ (by simp only;omega)
        have h0':acc=0:=by simpa using h0
        have:=hsum u
        rw [hcs u,h0'] at this
        simpa using this
       |true=>
        (repeat' (first|refine Run.ct rfl ?_|((first|refine Run.reg mixed ?_|refine Run.AN ?_|(refine F9.own ho rfl (by simp) (by simp;omega) (by decide) (fun v2 σ2 ho2 hbk=>?_))|((simp -implicitDefEqProofs only [ho2.cells,ho2.cell,go_sem]))|(refine AO rfl (fun h=>?_) (fun h=>?_)<;>try (cases h;done)))<;>try simp -implicitDefEqProofs only [DU hql,h0,ho.BJ,ho.cells,ho.cell,go_sem])|(refine ⟨fun h=>?_,fun h=>?_⟩<;>first|(cases h;done)|try simp only [h])|fail))
        have h0':acc≠0:=by simpa using h0
        refine ih (q,v2,σ2) ⟨by simp only;omega,out++[(x.1,acc)],by simpa [tmR] using ho2,by simp only [AI,List.length_singleton];omega,?_,?_,?_,fun u=>?_⟩ (by simp only;omega)
        · refine List.pairwise_append.2 ⟨hasc,.cons (by simp) .nil,fun a ha b hb=>?_⟩
          simp only [BR] at hb;subst hb
          exact hlt a ha x (by rw [EB hx];exact A5 ..)
        · intro a ha
          rcases Ac.1 ha with ha|ha
          · exact hnz a ha
          · simp only [BR] at ha;subst ha;exact h0'
        · intro a ha b hb
          rcases Ac.1 ha with ha|ha
          · exact hlt a ha b (G9 hkq hb)
          · simp only [BR] at ha;subst ha;exact hall b hb
        · have:=hsum u
          rw [hcs u] at this
          rw [Cu]
          simp only [BK]
          omega
   · have hkl':k=l.length:=by omega
     have hcan:out=I1 ts:=Uu ⟨hasc,hnz,fun u=>by
      have:=hsum u
      rw [hkl',List.drop_length] at this
      rw [← Q5 hp,← this];simp [BK]⟩
     cases hv:Bb ⟨n,out⟩ with
     |true=>
      (repeat' (first|refine Run.ct rfl ?_|((first|refine Run.reg mixed ?_|refine Run.AN ?_|(refine Run.Aj CZ (σ2:=σ) (AF.le_trans (JQ hj) ho.le) ?_)|refine AK.det (FL ho.plain) ?_|(refine AO rfl (fun h=>?_) (fun h=>?_)<;>try (cases h;done)))<;>try simp -implicitDefEqProofs only [DU hkl,hv,ho.BJ,ho.cells,ho.cell,ho.plain,ho.BC,go_sem])|(refine ⟨fun h=>?_,fun h=>?_⟩<;>first|(cases h;done)|try simp only [h])|fail))
      rw [← hcan]
      simp [Gp,chk,hv,B6]
     |false=>
      (repeat' (first|refine Run.ct rfl ?_|((first|refine Run.reg mixed ?_|refine Run.AN ?_|(refine Run.Aj CZ (σ2:=σ) (AF.le_trans (JQ hj) ho.le) ?_)|refine AK.det (FL ho.plain) ?_|(refine AO rfl (fun h=>?_) (fun h=>?_)<;>try (cases h;done)))<;>try simp -implicitDefEqProofs only [DU hkl,hv,ho.BJ,ho.cells,ho.cell,ho.plain,ho.BC,go_sem])|(refine ⟨fun h=>?_,fun h=>?_⟩<;>first|(cases h;done)|try simp only [h])|fail))
      rw [← hcan]
      simp [Gp,chk,hv,B6]
end Go.Ab
