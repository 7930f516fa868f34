/- Scope: constructors among the resolver's rows; owned rows in other heaps. Scope: a declaration appended. Scope: a declaration resolved. Scope: the constructors of a declaration resolved. Conditions: none. -/
import Derived.Test.YtlckhmkeihbhmaaGreatXVf
set_option linter.unusedSimpArgs false
set_option linter.unusedVariables false
set_option maxRecDepth 4000
set_option maxHeartbeats 8000000
open List renaming length_map→AA,mem_of_getElem?→AS,take_of_length_le→AG,flatMap_cons→MD,contains_iff_mem→Aa,mem_append→A6,getElem?_append_left→BC,length_drop→BZ,getElem?_eq_some_iff→AR,getElem?_append_right→Ax,getElem?_cons_zero→LW,nil_append→Au,cons_append→Ac,map_nil→AM,append_nil→At,append_assoc→Ah,map_cons→AH,length_append→AT,take_append_drop→A4,mem_singleton→B6,take→DS,drop→DR,drop_of_length_le→MC
open Bool renaming eq_iff_iff→Af,or_eq_true→Cp
open Ne renaming symm→CO
open Nat renaming lt_or_ge→Bt,le_refl→A0,add_sub_cancel_left→LX
open Option.some renaming injEq→AJ
open Except.ok renaming injEq→D3
open Except renaming map→CU
open Option renaming isSome_some→Br,isSome_none→CD
namespace Go.Ab
open Go.Proofs
theorem Cl.up {σ τ τ':AF} {e s:Nat} {rows:List (List DV)} {v:AV} (h:Cl σ e s rows v τ) (hl:τ.le τ'):Cl σ e s rows v τ':=by
 obtain ⟨σ1,ha,hle⟩:=h.app
 refine ⟨?_,AF.le_trans h.le hl,h.plain,h.len,h.cell,h.BF,h.BG,h.dv,h.cells⟩
 unfold Nw at ha ⊢
 split at ha
 · cases ha
   exact ⟨τ',rfl,AF.le_trans hle hl⟩
 · rename_i t e' s' rows'
   split at ha
   · rename_i hc
     cases ha
     refine ⟨τ'.Ei t,if_pos ⟨hc.1,hc.2.1,hl.tok t hc.2.2⟩,?_⟩
     refine ⟨fun i cs hi=>hl.blk i cs (hle.blk i cs hi),fun t' ht'=>?_,hle.gt.trans hl.gt,fun i x hx=>hl.bt i x (hle.bt i x hx)⟩
     have h1:=hle.tok t' ht'
     by_cases he:t'=t
     · subst he;simp [AF.Ei] at h1
     · simp only [AF.Ei,if_neg he] at h1 ⊢
       exact hl.tok t' h1
   · cases ha
 · cases ha
theorem Cl.set {σ τ:AF} {e s:Nat} {rows:List (List DV)} {v:AV} (h:Cl σ e s rows v τ) {j:Nat} (hj:σ.blk j=none) (cs:List AV):Cl σ e s rows v (τ.AQ j cs):=by
 obtain ⟨σ1,ha,hle⟩:=h.app
 refine ⟨?_,Dc h.le hj,h.plain,h.len,h.cell,h.BF,h.BG,h.dv,h.cells⟩
 unfold Nw at ha ⊢
 split at ha
 · cases ha
   exact ⟨_,rfl,Dc hle hj⟩
 · rename_i t e' s' rows'
   split at ha
   · rename_i hc
     cases ha
     exact ⟨(τ.AQ j cs).Ei t,if_pos hc,Dc hle hj⟩
   · cases ha
 · cases ha
theorem Cl.slv {σ τ:AF} {e s:Nat} {rows:List (List DV)} {v:AV} (h:Cl σ e s rows v τ):SlV v rows:=by
 obtain ⟨σ1,ha,hle⟩:=h.app
 unfold Nw at ha
 split at ha
 · cases ha;exact .inr (.inr ⟨rfl,rfl⟩)
 · split at ha
   · cases ha;exact .inr (.inl ⟨_,_,_,rfl⟩)
   · cases ha
 · cases ha
theorem RH (dl:List Dat) (hdt:RJ dl) (hl:dl.length≤1000000) (jd e:Nat) (cells:List AV) (s:Str) (σ:AF) (hb:σ.blk jd=some cells) (hrows:Hj cells dl):
 AK Tryz.prog 74 [.ms jd dl.length 3 e,.d (.str s)] σ (fun v σ'=>v=SP (Ib dl s)∧σ'=σ):=by
 refine KB (by simp) ?_
 rw [BR]
 (repeat' (first|refine Run.ct rfl ?_|((first|refine Run.reg mixed ?_|refine Run.AD ?_)<;>try simp -implicitDefEqProofs only [AA,go_sem])|fail))
 refine Run.Ay ?_
 refine Run.BB ((fun (a0:AV) (a1:AV) (a10:AV)=>fun (i:Nat)=>put 0 a0 (put 1 a1 (put 10 a10 (put 11 (.d (.int .i64 i)) U)))) _ _ _) (fun _=>E) (fun _=>σ) (fun i=>i≤dl.length∧∀d∈dl.take i,H5 d.cons s=none) (fun i=>dl.length - i) ?_ 0 ⟨by simp,by simp⟩
 rintro i ⟨hi,hno⟩ ih
 by_cases hlt:i < dl.length
 · obtain ⟨d,hd⟩:=Aw hlt
   obtain ⟨cv,_,hsl,_,_,g2,_⟩:=hrows.at hd
   have hix:((i:Int) < (dl.length:Int))=True:=by simp;omega
   have hw1:IntKind.i64.wrap ((i:Int)+1)=((i+1:Nat):Int):=by rw [As (by omega) (by omega)];omega
   have hdl:=hdt d (AS hd)
   have hat:=fun k=>YF (k:=k) hno hd
   rw [← GQ] at hat
   have hnext:=fun (h:H5 d.cons s=none)=>Eg (p:=fun d:Dat=>(H5 d.cons s).isSome) (i:=i) (fun y hy=>by simp [hno y hy]) hd (by rw [h];rfl)
   obtain ⟨dn,dv,cs⟩:=d
   simp only at *
   have hlen:=hsl.len
   rw [AA] at hlen
   have hcell:=hsl.cell
   (repeat' (first|refine Run.ct rfl ?_|((first|refine Run.reg mixed ?_|refine Run.AD ?_)<;>try simp -implicitDefEqProofs only [A8 hlt,hix,hb,g2,hcell,hlen,go_sem])|fail))
   refine Run.Ay ?_
   refine Run.BB ((fun (a0:AV) (a1:AV) (a7:AV) (a10:AV) (a11:AV) (a19:AV)=>fun (k:Nat)=>put 0 a0 (put 1 a1 (put 7 a7 (put 10 a10 (put 11 a11 (put 19 a19 (put 20 (.d (.int .i64 k)) U))))))) _ _ _ _ _ _) (fun _=>E) (fun _=>σ) (fun k=>k≤cs.length∧∀c∈cs.take k,(c.name==s)=false) (fun k=>cs.length - k) ?_ 0 ⟨by simp,by simp⟩
   rintro k ⟨hk,hnk⟩ ih2
   by_cases hkl:k < cs.length
   · obtain ⟨c,hc⟩:=Aw hkl
     have hec:=ND hc
     have hwk:=A7 (show k+1≤9000000000000000000 by omega)
     have hne:List.map Con.enc cs≠[]:=by
      intro h;rw [h] at hec;simp at hec
     cases hs:(c.name==s) with
     |true=>
      have hfin:=hat k (D6 (p:=fun c:Con=>c.name==s) hnk hc hs)
      clear hat hnext ih ih2
      rcases hsl with rfl|⟨t',e',s',rfl⟩|⟨h0,_⟩
      · (repeat' (first|refine Run.ct rfl ?_|((first|refine Run.reg mixed ?_|refine Run.AD ?_|refine Run.A1 DJ (AF.le_refl _) ?_)<;>try simp -implicitDefEqProofs only [A8 hkl,hix,hb,g2,hec,BS,hs,go_sem])|fail))
        rw [hfin];rfl
      · (repeat' (first|refine Run.ct rfl ?_|((first|refine Run.reg mixed ?_|refine Run.AD ?_|refine Run.A1 DJ (AF.le_refl _) ?_)<;>try simp -implicitDefEqProofs only [A8 hkl,hix,hb,g2,hec,BS,hs,go_sem])|fail))
        rw [hfin];rfl
      · exact absurd h0 hne
     |false=>
      have hgo:=ih2 (k+1) ⟨by omega,Eg (p:=fun c:Con=>c.name==s) hnk hc hs⟩ (by omega)
      clear hat hnext ih ih2
      rcases hsl with rfl|⟨t',e',s',rfl⟩|⟨h0,_⟩
      · (repeat' (first|refine Run.ct rfl ?_|((first|refine Run.reg mixed ?_|refine Run.AD ?_)<;>try simp -implicitDefEqProofs only [A8 hkl,hix,hb,g2,hec,hwk,BS,hs,go_sem])|fail))
        exact hgo
      · (repeat' (first|refine Run.ct rfl ?_|((first|refine Run.reg mixed ?_|refine Run.AD ?_)<;>try simp -implicitDefEqProofs only [A8 hkl,hix,hb,g2,hec,hwk,BS,hs,go_sem])|fail))
        exact hgo
      · exact absurd h0 hne
   · rw [AG (by omega)] at hnk
     (repeat' (first|refine Run.ct rfl ?_|((first|refine Run.reg mixed ?_|refine Run.AD ?_)<;>try simp -implicitDefEqProofs only [B8 hkl,hw1,go_sem])|fail))
     refine ih (i+1) ⟨by omega,fun y hy=>?_⟩ (by omega)
     have:=hnext (by rw [← GQ,D7 (p:=fun c:Con=>c.name==s) hnk]) y hy
     simpa using this
 · (repeat' (first|refine Run.ct rfl ?_|((first|refine Run.reg mixed ?_|refine Run.AD ?_|refine Run.A1 DJ (AF.le_refl _) ?_)<;>try simp -implicitDefEqProofs only [B8 hlt,go_sem])|fail))
   rw [AG (by omega)] at hno
   rw [YG hno];rfl
def HF (dl:List Dat):List Str:=dl.flatMap fun d=>d.cons.map (·.name)
theorem bS (l:List Con) (s:Str):(H5 l s).isSome=(l.map (·.name)).contains s:=by
 rw [← G1,← GQ,← K3,List.findIdx?_map];rfl
theorem XW (s:Str):∀dl:List Dat,(Ib dl s).isSome=(HF dl).contains s
 |[]=>rfl
 |d::l=>by
  have h1:=bS d.cons s
  have h2:=XW s l
  have h3:(HF (d::l)).contains s=((d.cons.map (·.name)).contains s||(HF l).contains s):=by
   simp only [HF,MD]
   rw [Af];simp only [Aa,A6,Cp]
  rw [h3,← h1,← h2,Ib]
  cases H5 d.cons s<;>simp
end Go.Ab
namespace Go.Ab
open Go.Proofs
theorem XEx.rU {K:C0} {F:Fm} {L:Lm} {σ σ1:AF} {d:Option Nat} {e s i n n2 e2:Nat} {p:AV} {cs cs2:List AV} (hb:σ.blk i=some cs2) (h1:cs2.length=n2 * s) (hn2:n2≠0) (hbd:n+n2≤1000000000)
 (hpa:LY σ e s p=some (n,cs,σ1)) (hnp:p.BF=true) (h:∀j,σ.blk j=none→K (Av d (.ms j (n+n2) s e) F) L (σ1.AQ j (cs++cs2))):XEx (.W0 e s) [p,.ms i n2 s e2] d K F L σ:=
 ⟨by simp [hnp,eZ],by cases p<;>exact ⟨rfl,cs2,n,cs,σ1,hb,h1,hn2,hbd,hpa,h⟩⟩
abbrev eD:Nat:=122
def DlX (σ0:AF) (jr:Nat) (τ:AF) (dl:List Dat) (v:AV):Prop:=(dl=[]∧v= .AU)∨(∃jd cs,v= .ms jd dl.length 3 eD∧σ0.blk jd=none∧jd≠jr∧τ.blk jd=some cs∧Hj cs dl)
theorem DlX.dls {σ0 τ:AF} {jr:Nat} {dl:List Dat} {v:AV} (h:DlX σ0 jr τ dl v):DlS τ dl v:=by
 rcases h with h|⟨jd,cs,h1,_,_,h2,h3⟩
 · exact .inl h
 · exact .inr ⟨jd,_,cs,h1,h2,h3⟩
theorem DlX.app {σ0 τ:AF} {jr:Nat} {dl:List Dat} {v:AV} (h:DlX σ0 jr τ dl v) (hle:σ0.le τ) (hjr:τ.blk jr≠none) (row:List AV):
 ∃cs,Hj cs dl∧∀i,τ.blk i=none→∃σ1,LY (τ.AQ i row) eD 3 v=some (dl.length,cs,σ1)∧σ0.le σ1∧σ1.blk jr=τ.blk jr:=by
 have hi0:∀i,τ.blk i=none→σ0.blk i=none∧i≠jr:=fun i hi=>by
  refine ⟨?_,fun e=>hjr (e ▸ hi)⟩
  cases hc:σ0.blk i with
  |none=>rfl
  |some c=>rw [hle.blk i c hc] at hi;cases hi
 rcases h with ⟨rfl,rfl⟩|⟨jd,cs,rfl,h0,hne,hb,hr⟩
 · refine ⟨[],⟨rfl,by simp⟩,fun i hi=>⟨_,rfl,Dc hle (hi0 i hi).1,?_⟩⟩
   rw [AP,if_neg (CO (hi0 i hi).2)]
 · refine ⟨cs,hr,fun i hi=>⟨(τ.AQ i row).Jf jd,?_,?_,?_⟩⟩
   · have hji:jd≠i:=fun e=>by rw [e,hi] at hb;cases hb
     simp [LY,AP,hji,hb,hr.1]
   · refine ⟨fun q c hq=>?_,hle.tok,hle.gt,hle.bt⟩
     have hq1:q≠jd:=fun e=>by rw [e,h0] at hq;cases hq
     have hq2:q≠i:=fun e=>by rw [e,(hi0 i hi).1] at hq;cases hq
     simp only [AF.Jf,if_neg hq1,AP,if_neg hq2]
     exact hle.blk q c hq
   · simp only [AF.Jf,if_neg (CO hne),AP,if_neg (CO (hi0 i hi).2)]
structure APS (σ0:AF) (jr:Nat) (dl:List Dat) (nm:Str) (k:Int) (cv x1 x2 x3:AV) (jd:Nat) (cs:List AV) (τ:AF):Prop where
 res:τ.blk jr=some [.ms jd (dl.length+1) 3 eD,x1,x2,x3]
 nb:σ0.blk jd=none
 ne:jd≠jr
 row:τ.blk jd=some (cs++[.d (.str nm),.d (.int .i64 k),cv])
 ok:Hj cs dl
 le:σ0.le τ
theorem Hj.snoc {cs:List AV} {dl:List Dat} (h:Hj cs dl) (nm:Str) (k:Int) (cv:AV) (cons:List Con) (hcv:SlV cv (cons.map Con.enc)):Hj (cs++[.d (.str nm),.d (.int .i64 k),cv]) (dl++[⟨nm,k,cons⟩]):=by
 refine ⟨by simp [h.1];omega,fun i d hd=>?_⟩
 rcases Bt i dl.length with hi|hi
 · rw [BC hi] at hd
   obtain ⟨cv',h1,h2⟩:=h.2 i d hd
   refine ⟨cv',?_,h2⟩
   rw [List.drop_append_of_le_length (by rw [h.1];omega),List.take_append_of_le_length (by rw [BZ,h.1];omega)]
   exact h1
 · have:i=dl.length:=by
    have:=(AR.1 hd).1
    simp at this;omega
   subst this
   rw [Ax (A0 _),Nat.sub_self] at hd
   simp only [LW,AJ] at hd
   subst hd
   refine ⟨cv,?_,hcv⟩
   rw [← h.1,List.drop_left];rfl
theorem MG (ds:List (Str×Nat)) (vars:List Str) (m:List TE):∀ {l:List TE} {us:List Ty},Dw ds vars l= .ok us→Dw ds vars (l++m)=(Dw ds vars m).map (us++·)
 |[],us,h=>by
  simp only [Dw,D3] at h;subst h
  simp only [Au]
  cases Dw ds vars m<;>rfl
 |t::l,us,h=>by
  rw [Dw] at h
  rw [Ac,Dw]
  cases ht:IB ds vars true t with
  |error e=>rw [ht] at h;cases h
  |ok u=>
   rw [ht] at h
   simp only at h ⊢
   cases hl:Dw ds vars l with
   |error e=>rw [hl] at h;cases h
   |ok ys=>
    rw [hl] at h
    simp only [CU,D3] at h
    subst h
    rw [MG ds vars m hl]
    cases Dw ds vars m<;>rfl
theorem K0 (ds:List (Str×Nat)) (vars:List Str) (m:List CE):∀ {l:List CE} {used:List Str} {us:List Con},Eo ds vars used l= .ok us→Eo ds vars used (l++m)=(Eo ds vars (used++l.map (·.name)) m).map (us++·)∧us.map (·.name)=l.map (·.name)
 |[],used,us,h=>by
  simp only [Eo,D3] at h;subst h
  simp only [Au,AM,At,and_true]
  cases Eo ds vars used m<;>rfl
 |c::l,used,us,h=>by
  rw [Eo] at h
  rw [Ac,Eo]
  split at h
  · cases h
  · rename_i hu
    rw [if_neg hu]
    cases ht:Dw ds vars c.args with
    |error e=>rw [ht] at h;cases h
    |ok ts=>
     rw [ht] at h
     simp only at h ⊢
     cases hl:Eo ds vars (used++[c.name]) l with
     |error e=>rw [hl] at h;cases h
     |ok ys=>
      rw [hl] at h
      simp only [CU,D3] at h
      subst h
      obtain ⟨h1,h2⟩:=K0 ds vars m hl
      rw [h1,Ah]
      refine ⟨?_,by simp [h2]⟩
      simp only [AH,List.singleton_append]
      cases Eo ds vars (used++c.name::l.map (·.name)) m<;>rfl
end Go.Ab
namespace Go.Ab
open Go.Proofs
set_option maxRecDepth 4000 in
set_option maxHeartbeats 4000000 in
theorem ZR (σ0:AF) (jr:Nat) (dl:List Dat) (hdl:dl.length≤1000) (nm:Str) (vs:List Str) (cs:List CE) (τ:AF) (dv x1 x2 x3:AV) (hb:τ.blk jr=some [dv,x1,x2,x3]) (hx:x1.BV=true∧x2.BV=true∧x3.BV=true)
 (hv:DlX σ0 jr τ dl dv) (hle:σ0.le τ) (hjr:σ0.blk jr=none) (K:C0)
 (hK:∀F' L' σ' jd cells,M4 [0,3] F'=put 0 (.gp jr 0) (put 3 (.lp 3 0) U)→I6 [0,3] L'=BA 3 [.d (.str nm),.d (.sl (vs.map Ak)),.d (.sl (cs.map CE.enc))] E→APS σ0 jr dl nm vs.length .AU x1 x2 x3 jd cells σ'→K F' L' σ'):
 XT Tryz.prog K false (.one ⟨some 26,.mv (.t 0),none⟩ (.one ⟨some 27,.mv (.t 0),none⟩ (.one ⟨some 28,.nck (.t 27),none⟩ (.one ⟨some 29,.fld (.t 28) 0,none⟩ (.one ⟨some 31,.fld (.t 3) 0,none⟩ (.one ⟨some 32,.ldl (.t 31) none,none⟩ (.one ⟨some 33,.fld (.t 3) 1,none⟩ (.one ⟨some 34,.ldl (.t 33) none,none⟩ (.one ⟨some 35,.len (.t 34),none⟩ (.one ⟨some 36,.bld [(.d (.str [])),(.d (.int .i64 0)),.AU] [(0,1,(.t 32)),(1,1,(.t 35))],none⟩ (.alt ⟨some 30,.ld (.t 29) none,none⟩ (.one ⟨some 37,.RP 122 3 1 [(.d (.str [])),(.d (.int .i64 0)),.AU] [(0,3,(.t 36))],none⟩ (.one ⟨some 38,.ex (.W0 122 3) [(.t 30),(.t 37)],none⟩ (.one ⟨some 39,.nck (.t 26),none⟩ (.one ⟨some 40,.fld (.t 39) 0,none⟩ (.one ⟨none,.st (.t 40) (.t 38) 1,none⟩ .done))))) (.alt ⟨some 37,.RP 122 3 1 [(.d (.str [])),(.d (.int .i64 0)),.AU] [(0,3,(.t 36))],none⟩ (.one ⟨some 30,.ld (.t 29) none,none⟩ (.one ⟨some 38,.ex (.W0 122 3) [(.t 30),(.t 37)],none⟩ (.one ⟨some 39,.nck (.t 26),none⟩ (.one ⟨some 40,.fld (.t 39) 0,none⟩ (.one ⟨none,.st (.t 40) (.t 38) 1,none⟩ .done))))) .done)))))))))))) (put 0 (.gp jr 0) (put 3 (.lp 3 0) (put 25 (.d (.bool false)) U))) (BA 3 [.d (.str nm),.d (.sl (vs.map Ak)),.d (.sl (cs.map CE.enc))] E) τ:=by
 have hcell:dv.BV=true:=by rcases hv with ⟨_,rfl⟩|⟨jd,cs,rfl,_⟩<;>rfl
 have hnl:dv.BF=true:=by rcases hv with ⟨_,rfl⟩|⟨jd,cs,rfl,_⟩<;>rfl
 have hjn:∀i,τ.blk i=none→i≠jr:=fun i hi e=>by rw [e,hb] at hi;cases hi
 have hi0:∀i,τ.blk i=none→σ0.blk i=none:=fun i hi=>by
  cases hc:σ0.blk i with
  |none=>rfl
  |some c=>rw [hle.blk i c hc] at hi;cases hi
 obtain ⟨cells,hrows,happ⟩:=hv.app hle (by rw [hb];simp) [.d (.str nm),.d (.int .i64 (vs.length:Int)),.AU]
 -- what both orders end with
 have hend:∀(i:Nat) (σ1:AF) (j:Nat),τ.blk i=none→LY (τ.AQ i [.d (.str nm),.d (.int .i64 (vs.length:Int)),.AU]) eD 3 dv=some (dl.length,cells,σ1)→σ0.le σ1→σ1.blk jr=τ.blk jr→(τ.AQ i [.d (.str nm),.d (.int .i64 (vs.length:Int)),.AU]).blk j=none→
  APS σ0 jr dl nm vs.length .AU x1 x2 x3 j cells ((σ1.AQ j (cells++[.d (.str nm),.d (.int .i64 (vs.length:Int)),.AU])).AQ jr [.ms j (dl.length+1) 3 eD,x1,x2,x3]):=fun i σ1 j hi _ hl1 hb1 hj=>by
  have hji:j≠i:=fun e=>by rw [e,AP,if_pos rfl] at hj;cases hj
  rw [AP,if_neg hji] at hj
  have hjr':=hjn j hj
  refine ⟨by rw [AP,if_pos rfl],hi0 j hj,hjr',by rw [AP,if_neg hjr',AP,if_pos rfl],hrows,Dc (Dc hl1 (hi0 j hj)) hjr⟩
 simp -implicitDefEqProofs only [hb,hcell,AA,go_sem]
 refine ⟨RL.mk (fun i hi=>?_),RL.mk (fun i hi=>?_)⟩
 · obtain ⟨σ1,ha,hl1,hb1⟩:=happ i hi
   have hij:=hjn i hi
   have hji:(jr=i)=False:=by simp only [eq_iff_iff,iff_false];exact fun e=>hij e.symm
   simp -implicitDefEqProofs only [hb,hcell,hji,go_sem]
   refine XEx.rU (cs2:=[.d (.str nm),.d (.int .i64 (vs.length:Int)),.AU]) (by simp only [AP,if_true]) rfl (by simp) (by omega) ha hnl (fun j hj=>?_)
   have hjj:(jr=j)=False:=by
    simp only [eq_iff_iff,iff_false]
    intro e
    rw [← e,AP,if_neg (fun e=>hij e.symm),hb] at hj;cases hj
   have hfin:=hend i σ1 j hi ha hl1 hb1 hj
   rw [hb] at hb1
   simp -implicitDefEqProofs only [hjj,hb1,go_sem]
   exact hK _ _ _ j cells (by simp -implicitDefEqProofs only [go_sem]) (by simp -implicitDefEqProofs only [go_sem]) hfin
 · obtain ⟨σ1,ha,hl1,hb1⟩:=happ i hi
   have hij:=hjn i hi
   have hji:(jr=i)=False:=by simp only [eq_iff_iff,iff_false];exact fun e=>hij e.symm
   simp -implicitDefEqProofs only [hb,hcell,hji,go_sem]
   refine XEx.rU (cs2:=[.d (.str nm),.d (.int .i64 (vs.length:Int)),.AU]) (by simp only [AP,if_true]) rfl (by simp) (by omega) ha hnl (fun j hj=>?_)
   have hjj:(jr=j)=False:=by
    simp only [eq_iff_iff,iff_false]
    intro e
    rw [← e,AP,if_neg (fun e=>hij e.symm),hb] at hj;cases hj
   have hfin:=hend i σ1 j hi ha hl1 hb1 hj
   rw [hb] at hb1
   simp -implicitDefEqProofs only [hjj,hb1,go_sem]
   exact hK _ _ _ j cells (by simp -implicitDefEqProofs only [go_sem]) (by simp -implicitDefEqProofs only [go_sem]) hfin
end Go.Ab
namespace Go.Ab
open Go.Proofs
def DQ (σ0:AF) (jr:Nat) (dl:List Dat) (r:Except Int Dat) (v:AV) (σ':AF):Prop:=match r with
 | .error e=>v= .d (.int .i64 e)∧e≠0∧σ0.le σ'
 | .ok x=>v= .d (.int .i64 0)∧σ0.le σ'∧∃dv y1 y2 y3,σ'.blk jr=some [dv,y1,y2,y3]∧(y1.BV=true∧y2.BV=true∧y3.BV=true)∧DlX σ0 jr σ' (dl++[x]) dv
theorem ZB {ds:List (Str×Nat)} {vars:List Str}:∀ {l:List TE} {e:Int},Dw ds vars l= .error e→e≠0
 |[],e,h=>by cases h
 |t::l,e,h=>by
  rw [Dw] at h
  cases ht:IB ds vars true t with
  |error e'=>rw [ht] at h;cases h;exact Ro t true _ ht
  |ok u=>
   rw [ht] at h
   cases hl:Dw ds vars l with
   |error e'=>rw [hl] at h;cases h;exact ZB hl
   |ok us=>rw [hl] at h;cases h
theorem jG (l m:List Dat):HF (l++m)=HF l++HF m:=by simp [HF]
abbrev eC:Nat:=124
def rP (σ0:AF) (jr:Nat) (dl:List Dat) (nm:Str) (vs:List Str) (cs:List CE) (jd:Nat) (cells:List AV) (p:Nat) (us:List Con) (F':Fm) (L':Lm) (σ':AF):Prop:=
 M4 [0,5,52,53,54] F'=put 0 (.gp jr 0) (put 5 (.d (.int .i64 (dl.length:Int))) (put 52 (.d (.sl (cs.map CE.enc))) (put 53 (.d (.int .i64 cs.length)) (put 54 (.d (.int .i64 p)) U))))∧I6 [0,5,52,53,54] L'=E∧
  ∃cv',APS σ0 jr dl nm vs.length cv' (.d (.str nm)) (.d (.sl (vs.map Ak))) (.d (.sl (cs.map CE.enc))) jd cells σ'∧Cl σ0 eC 2 (us.map Con.enc) cv' σ'
theorem bU (σ0:AF) (jr:Nat) (dl:List Dat) (hdl:dl.length≤1000) (hnn:∀d∈dl,0≤d.vars) (hdt:RJ dl) (nm:Str) (vs:List Str) (cs:List CE) (hcs:cs.length≤1000) (hsm:∀c∈cs,P5 c∧c.args.length≤1000)
 (τ:AF) (jd:Nat) (cells:List AV) (hjr:σ0.blk jr=none) (haps:APS σ0 jr dl nm vs.length .AU (.d (.str nm)) (.d (.sl (vs.map Ak))) (.d (.sl (cs.map CE.enc))) jd cells τ):
 Run CK (DQ σ0 jr dl ((Eo (E6 dl++[(nm,vs.length)]) vs (HF dl) cs).map (⟨nm,vs.length,·⟩))) [.code (.loop Fw),.blk 0,.code (.seq (.reg [⟨some 4,.mv (.c (.d (.int .i64 0))),none⟩] [4]) .ret)]
  (put 0 (.gp jr 0) (put 5 (.d (.int .i64 (dl.length:Int))) (put 52 (.d (.sl (cs.map CE.enc))) (put 53 (.d (.int .i64 cs.length)) (put 54 (.d (.int .i64 0)) U))))) E τ:=by
 generalize hQ:DQ σ0 jr dl ((Eo (E6 dl++[(nm,vs.length)]) vs (HF dl) cs).map (⟨nm,vs.length,·⟩))=Q
 have herr:∀(e:Int) (σ':AF),Eo (E6 dl++[(nm,vs.length)]) vs (HF dl) cs= .error e→e≠0→σ0.le σ'→Q (.d (.int .i64 e)) σ':=fun e σ' h hne hl=>by
  rw [← hQ,h];exact ⟨rfl,hne,hl⟩
 have hfin:∀(us:List Con) (cv:AV) (σ':AF),Eo (E6 dl++[(nm,vs.length)]) vs (HF dl) cs= .ok us→SlV cv (us.map Con.enc)→APS σ0 jr dl nm vs.length cv (.d (.str nm)) (.d (.sl (vs.map Ak))) (.d (.sl (cs.map CE.enc))) jd cells σ'→Q (.d (.int .i64 0)) σ':=fun us cv σ' h hsl ha=>by
  rw [← hQ,h]
  refine ⟨rfl,ha.le,_,_,_,_,ha.res,⟨rfl,rfl,rfl⟩,.inr ⟨jd,_,by rw [AT];rfl,ha.nb,ha.ne,ha.row,ha.ok.snoc nm _ cv us hsl⟩⟩
 clear hQ
 refine Run.Ay ?_
 refine Run.BB ((fun (a0:AV) (a5:AV) (a52:AV) (a53:AV)=>fun (y:Nat×List Con×AV×AF)=>put 0 a0 (put 5 a5 (put 52 a52 (put 53 a53 (put 54 (.d (.int .i64 y.1)) U))))) _ _ _ _) (fun _=>E) (fun y=>y.2.2.2)
  (fun y=>y.1≤cs.length∧y.2.1.length=y.1∧Eo (E6 dl++[(nm,vs.length)]) vs (HF dl) (cs.take y.1)= .ok y.2.1∧APS σ0 jr dl nm vs.length y.2.2.1 (.d (.str nm)) (.d (.sl (vs.map Ak))) (.d (.sl (cs.map CE.enc))) jd cells y.2.2.2∧Cl σ0 eC 2 (y.2.1.map Con.enc) y.2.2.1 y.2.2.2)
  (fun y=>cs.length - y.1) ?_ (0,[],.AU,τ) ⟨by simp,rfl,rfl,haps,⟨⟨τ,rfl,haps.le⟩,haps.le,rfl,rfl,rfl,rfl,fun _=>rfl,rfl,rfl⟩⟩
 rintro ⟨p,us,cv,τ1⟩ ⟨hp,hlu,hok,haps,hown⟩ ih
 simp only at hp hlu hok haps hown
 by_cases hlt:p < cs.length
 · obtain ⟨c,hc⟩:=Aw hlt
   have he:=Aq (enc:=CE.enc) hc
   have hw1:=A7 (show p+1≤9000000000000000000 by omega)
   obtain ⟨hall,hnames⟩:=K0 (E6 dl++[(nm,vs.length)]) vs (cs.drop p) hok
   rw [A4,Bc hc] at hall
   obtain ⟨hsn,_⟩:=K0 (E6 dl++[(nm,vs.length)]) vs [c] hok
   rw [← Am hc] at hsn
   obtain ⟨hcsm,hcal⟩:=hsm c (AS hc)
   -- the rows with the partial declaration
   have hrows:=haps.ok.snoc nm (vs.length:Int) cv us hown.slv
   have hlp:(dl++[(⟨nm,(vs.length:Int),us⟩:Dat)]).length=dl.length+1:=by simp
   have husl:us.length≤1000000:=by omega
   have hdtp:RJ (dl++[⟨nm,(vs.length:Int),us⟩]):=fun d hd=>by
    rcases A6.1 hd with h|h
    · exact hdt d h
    · simp only [B6] at h;subst h;exact husl
   have hnnp:∀d∈dl++[(⟨nm,(vs.length:Int),us⟩:Dat)],0≤d.vars:=fun d hd=>by
    rcases A6.1 hd with h|h
    · exact hnn d h
    · simp only [B6] at h;subst h;simp
   have hdsp:E6 (dl++[⟨nm,(vs.length:Int),us⟩])=E6 dl++[(nm,vs.length)]:=by simp [E6]
   have hudp:HF (dl++[⟨nm,(vs.length:Int),us⟩])=HF dl++(cs.take p).map (·.name):=by
    rw [jG,← hnames];simp [HF]
   have hctr:=RH (dl++[⟨nm,(vs.length:Int),us⟩]) hdtp (by rw [hlp];omega) jd eD _ c.name τ1 haps.row hrows
   have hcu:=XW c.name (dl++[⟨nm,(vs.length:Int),us⟩])
   rw [hudp] at hcu
   rw [hlp] at hctr
   have hRB:RB τ1 jr (dl++[⟨nm,(vs.length:Int),us⟩]) nm vs cs:=⟨_,haps.res,.inr ⟨jd,eD,_,by rw [hlp],haps.row,hrows⟩⟩
   have hres:=haps.res
   generalize hdlp:dl++[(⟨nm,(vs.length:Int),us⟩:Dat)]=dlp at *
   rw [Eo] at hall hsn
   obtain ⟨cn,ar⟩:=c
   simp only [CE.enc] at he hcu hall hsn hctr hcal hcsm
   cases hct:Ib dlp cn with
   |some x=>
    rw [hct] at hctr hcu
    simp only [SP,Br] at hctr hcu
    rw [← hcu,if_pos rfl] at hall
    (repeat' (first|refine Run.ct rfl ?_|((first|refine Run.reg mixed ?_|refine Run.AD ?_|refine Run.Er CH (AF.le_refl _) ?_|refine AI.det (hctr) ?_)<;>try simp -implicitDefEqProofs only [A8 hlt,he,hres,go_sem])|fail))
    exact herr 4 _ hall (by decide) haps.le
   |none=>
   rw [hct] at hctr hcu
   simp only [SP,CD] at hctr hcu
   rw [← hcu,if_neg (by simp)] at hall hsn
   (repeat' (first|refine Run.ct rfl ?_|((first|refine Run.reg mixed ?_|refine Run.AD ?_|refine AI.det (hctr) ?_)<;>try simp -implicitDefEqProofs only [A8 hlt,he,hres,AA,go_sem])|fail))
   refine Run.Ay ?_
   refine Run.BB ((fun (a0:AV) (a5:AV) (a11:AV) (a52:AV) (a53:AV) (a54:AV) (a74:AV) (a75:AV)=>fun (z:Nat×List Ty×AV×AF)=>put 0 a0 (put 5 a5 (put 11 a11 (put 52 a52 (put 53 a53 (put 54 a54 (put 74 a74 (put 75 a75 (put 76 (.d (.int .i64 z.1)) U))))))))) _ _ _ _ _ _ _ _) (fun z=>BA 11 [.d (.str cn),z.2.2.1] E) (fun z=>z.2.2.2)
    (fun z=>z.1≤ar.length∧z.2.1.length=z.1∧Dw (E6 dl++[(nm,vs.length)]) vs (ar.take z.1)= .ok z.2.1∧Cl τ1 57 3 (z.2.1.map Ty.enc) z.2.2.1 z.2.2.2)
    (fun z=>ar.length - z.1) ?_ (0,[],.AU,τ1) ⟨by simp,rfl,rfl,Cl.nil _ _ _⟩
   rintro ⟨a,ts,uv,τ2⟩ ⟨ha,hlt',hoka,ho⟩ ih2
   simp only at ha hlt' hoka ho
   by_cases hal:a < ar.length
   · obtain ⟨x,hx⟩:=Aw hal
     have hex:=Aq (enc:=TE.enc) hx
     have hwa:=A7 (show a+1≤9000000000000000000 by omega)
     have hxs:=hcsm x (AS hx)
     have hra:=dI jr dlp (by omega) hnnp nm vs cs x.size x true τ2 (A0 _) hxs (hRB.le ho.le)
     rw [hdsp] at hra
     have hall2:Dw (E6 dl++[(nm,vs.length)]) vs ar=(Dw (E6 dl++[(nm,vs.length)]) vs (x::ar.drop (a+1))).map (ts++·):=by
      conv=>lhs;rw [← A4 a ar,Bc hx]
      exact MG _ _ _ hoka
     have hsn2:Dw (E6 dl++[(nm,vs.length)]) vs (ar.take (a+1))=(Dw (E6 dl++[(nm,vs.length)]) vs [x]).map (ts++·):=by
      rw [Am hx];exact MG _ _ _ hoka
     rw [Dw] at hall2
     rw [Dw,Dw] at hsn2
     cases hr:IB (E6 dl++[(nm,vs.length)]) vs true x with
     |error e=>
      rw [hr] at hra hall2
      simp only [CU] at hall2
      rw [hall2] at hall
      have hne:=Ro x true e hr
      have hne':(e != 0)=true:=by simpa using hne
      obtain ⟨xk,xn,xl⟩:=x
      simp only [TE.A3,teA,AH,AM,Oy] at hex hra
      have hxe:=herr e τ2 hall hne (AF.le_trans haps.le ho.le)
      (repeat' (first|refine Run.ct rfl ?_|((first|refine Run.reg mixed ?_|refine Run.AD ?_|refine Run.Er CH (AF.le_refl _) ?_|refine AI.det (hra) ?_)<;>try simp -implicitDefEqProofs only [A8 hal,hex,hne',ho.cell,go_sem])|fail))
      exact hxe
     |ok u=>
      rw [hr] at hra hsn2
      simp only [CU] at hsn2
      obtain ⟨uk,un,ul⟩:=u
      obtain ⟨xk,xn,xl⟩:=x
      simp only [TE.A3,teA,AH,AM,Oy,tyA,Ty.enc] at hex hra
      have h00:((0:Int) != 0)=false:=by decide
      (repeat' (first|refine Run.ct rfl ?_|((first|refine Run.reg mixed ?_|refine Run.AD ?_|(refine Dh.own ho rfl (by simp) (by simp;omega) (by decide) (fun v2 σ2 ho2 hbk=>?_))|refine AI.det (hra) ?_)<;>try simp -implicitDefEqProofs only [A8 hal,hex,hwa,h00,ho.cell,ho.cells,ho.BF,ho.BG,go_sem])|fail))
      simp -implicitDefEqProofs only [ho2.cells,ho2.cell,go_sem]
      (repeat' (first|refine Run.ct rfl ?_|((first|refine Run.reg mixed ?_|refine Run.AD ?_)<;>try simp -implicitDefEqProofs only [hwa,ho2.cell,ho2.cells,go_sem])|fail))
      exact ih2 (a+1,ts++[.mk uk un ul],v2,σ2) ⟨by simp only;omega,by simp [hlt'],hsn2,by simpa [Ty.enc] using ho2⟩ (by simp only;omega)
   · rw [AG (by omega)] at hoka
     rw [hoka] at hall hsn
     simp only [Eo,CU] at hall hsn
     have haps2:APS σ0 jr dl nm vs.length cv (.d (.str nm)) (.d (.sl (vs.map Ak))) (.d (.sl (cs.map CE.enc))) jd cells τ2:=⟨ho.le.blk _ _ hres,haps.nb,haps.ne,ho.le.blk _ _ haps.row,haps.ok,AF.le_trans haps.le ho.le⟩
     have hown2:=hown.up ho.le
     (repeat' (first|refine Run.ct rfl ?_|((first|refine Run.reg mixed ?_|refine Run.AD ?_)<;>try simp -implicitDefEqProofs only [B8 hal,go_sem])|fail))
     have hcl:=haps.ok.1
     have hixl:((dl.length:Int) < ((dl.length+1:Nat):Int))=True:=by simp only [eq_iff_iff,iff_true];omega
     have hget:(cells++[AV.d (.str nm),.d (.int .i64 (vs.length:Int)),cv])[dl.length * 3+2]?=some cv:=by
      rw [Ax (by omega),hcl,LX];rfl
     have htk:DS (dl.length * 3+2) (cells++[AV.d (.str nm),.d (.int .i64 (vs.length:Int)),cv])=cells++[AV.d (.str nm),.d (.int .i64 (vs.length:Int))]:=by
      rw [List.take_append,AG (by omega),hcl,LX];rfl
     have hdr:DR (dl.length * 3+2+1) (cells++[AV.d (.str nm),.d (.int .i64 (vs.length:Int)),cv])=[]:=by
      rw [MC (by simp;omega)]
     have hlen3:(dl.length * 3+2+1≤(cells++[AV.d (.str nm),.d (.int .i64 (vs.length:Int)),cv]).length)=True:=by simp;omega
     have hend:∀(v3:AV) (σ3:AF) (F':Fm) (L':Lm),M4 [0,5,52,53,54] F'=put 0 (.gp jr 0) (put 5 (.d (.int .i64 (dl.length:Int))) (put 52 (.d (.sl (cs.map CE.enc))) (put 53 (.d (.int .i64 cs.length)) (put 54 (.d (.int .i64 p)) U))))→I6 [0,5,52,53,54] L'=E→
      Cl σ0 eC 2 (us.map Con.enc++[[.str cn,.sl (ts.map Ty.enc)]]) v3 σ3→σ3.blk jr=some [.ms jd (dl.length+1) 3 eD,.d (.str nm),.d (.sl (vs.map Ak)),.d (.sl (cs.map CE.enc))]→
      rP σ0 jr dl nm vs cs jd cells p (us++[(⟨cn,ts⟩:Con)]) F' L' (σ3.AQ jd (cells++[AV.d (.str nm),.d (.int .i64 (vs.length:Int)),v3])):=fun v3 σ3 F' L' h1 h2 ho3 hr3=>by
      refine ⟨h1,h2,v3,⟨by rw [AP,if_neg (CO haps.ne)];exact hr3,haps.nb,haps.ne,by rw [AP,if_pos rfl],haps.ok,Dc ho3.le haps.nb⟩,?_⟩
      have:=ho3.set haps.nb (cells++[AV.d (.str nm),.d (.int .i64 (vs.length:Int)),v3])
      simpa [Con.enc,Ty.Ed] using this
     refine Run.fC mixed (rP σ0 jr dl nm vs cs jd cells p (us++[(⟨cn,ts⟩:Con)])) ?_ ?_
     · simp -implicitDefEqProofs only [haps2.res,haps2.row,hixl,hget,hown2.cell,hown.cell,ho.dv,ho.cell,go_sem]
       refine ⟨?_,?_⟩
       · refine Dh.own hown2 rfl (by simp) (by simp;omega) (by decide) (fun v3 σ3 ho3 hbk3=>?_)
         have hb3:=(hbk3 jd).trans haps2.row
         have hr3:=(hbk3 jr).trans haps2.res
         simp -implicitDefEqProofs only [hb3,hr3,hixl,ho3.cells,ho3.cell,hlen3,htk,hdr,go_sem]
         rw [Ah]
         refine hend v3 σ3 _ _ ?_ ?_ ho3 hr3
         · simp -implicitDefEqProofs only [go_sem]
         · simp -implicitDefEqProofs only [go_sem]
       · refine Dh.own hown2 rfl (by simp) (by simp;omega) (by decide) (fun v3 σ3 ho3 hbk3=>?_)
         have hb3:=(hbk3 jd).trans haps2.row
         have hr3:=(hbk3 jr).trans haps2.res
         simp -implicitDefEqProofs only [hb3,hr3,hixl,ho3.cells,ho3.cell,hlen3,htk,hdr,go_sem]
         rw [Ah]
         refine hend v3 σ3 _ _ ?_ ?_ ho3 hr3
         · simp -implicitDefEqProofs only [go_sem]
         · simp -implicitDefEqProofs only [go_sem]
     · rintro F' L' σ' ⟨h1,h2,cv',h3,h4⟩
       rw [h1,h2]
       (repeat' (first|refine Run.ct rfl ?_|((first|refine Run.reg mixed ?_|refine Run.AD ?_)<;>try simp -implicitDefEqProofs only [hw1,go_sem])|fail))
       exact ih (p+1,us++[(⟨cn,ts⟩:Con)],cv',σ') ⟨by simp only;omega,by simp [hlu],hsn,h3,h4⟩ (by simp only;omega)
 · rw [AG (by omega)] at hok
   (repeat' (first|refine Run.ct rfl ?_|((first|refine Run.reg mixed ?_|refine Run.AD ?_|refine Run.Er CH (AF.le_refl _) ?_)<;>try simp -implicitDefEqProofs only [B8 hlt,go_sem])|fail))
   exact hfin us cv _ hok hown.slv haps
end Go.Ab
