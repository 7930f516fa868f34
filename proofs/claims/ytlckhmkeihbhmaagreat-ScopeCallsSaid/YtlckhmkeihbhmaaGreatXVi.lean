/- Scope: constructors among the resolver's rows; owned rows in other heaps. Scope: a declaration appended. Scope: a declaration resolved. Scope: the constructors of a declaration resolved. Conditions: none. -/
import Derived.Test.YtlckhmkeihbhmaaGreatXVf
set_option linter.unusedSimpArgs false
set_option linter.unusedVariables false
set_option maxRecDepth 4000
set_option maxHeartbeats 8000000
open List renaming length_map→AA,mem_of_getElem?→AT,take_of_length_le→AH,flatMap_cons→MB,contains_iff_mem→Aa,mem_append→A3,getElem?_append_left→Az,length_drop→Bm,getElem?_eq_some_iff→AR,getElem?_append_right→Ax,getElem?_cons_zero→LO,nil_append→Au,cons_append→Ad,map_nil→AO,append_nil→Aq,append_assoc→Ag,map_cons→AI,length_append→AS,take_append_drop→A4,mem_singleton→B5,take→DN,drop→Cs,drop_of_length_le→MA
open Bool renaming eq_iff_iff→Ac,or_eq_true→DZ
open Ne renaming symm→Bs
open Nat renaming lt_or_ge→Br,le_refl→A0,add_sub_cancel_left→LP
open Option.some renaming injEq→AK
open Except.ok renaming injEq→EM
open Except renaming map→CP
open Option renaming isSome_some→Bp,isSome_none→CD
namespace Go.Ab
open Go.Proofs
theorem Cg.up {σ τ τ':AF} {e s:Nat} {rows:List (List DV)} {v:AV} (h:Cg σ e s rows v τ) (hl:τ.le τ'):Cg σ e s rows v τ':=by
 obtain ⟨σ1,ha,hle⟩:=h.app
 refine ⟨?_,AF.le_trans h.le hl,h.plain,h.len,h.cell,h.BZ,h.Ar,h.dv,h.cells⟩
 unfold Nm at ha ⊢
 split at ha
 · cases ha
   exact ⟨τ',rfl,AF.le_trans hle hl⟩
 · rename_i t e' s' rows'
   split at ha
   · rename_i hc
     cases ha
     refine ⟨τ'.Ei t,if_pos ⟨hc.1,hc.2.1,hl.tok t hc.2.2⟩,?_⟩
     refine ⟨fun i cs hi=>hl.blk i cs (hle.blk i cs hi),fun t' ht'=>?_,hle.gt.trans hl.gt,fun i x hx=>hl.bt i x (hle.bt i x hx)⟩
     have h1:=hle.tok t' ht'
     by_cases he:t'=t
     · subst he;simp [AF.Ei] at h1
     · simp only [AF.Ei,if_neg he] at h1 ⊢
       exact hl.tok t' h1
   · cases ha
 · cases ha
theorem Cg.set {σ τ:AF} {e s:Nat} {rows:List (List DV)} {v:AV} (h:Cg σ e s rows v τ) {j:Nat} (hj:σ.blk j=none) (cs:List AV):Cg σ e s rows v (τ.AP j cs):=by
 obtain ⟨σ1,ha,hle⟩:=h.app
 refine ⟨?_,C1 h.le hj,h.plain,h.len,h.cell,h.BZ,h.Ar,h.dv,h.cells⟩
 unfold Nm at ha ⊢
 split at ha
 · cases ha
   exact ⟨_,rfl,C1 hle hj⟩
 · rename_i t e' s' rows'
   split at ha
   · rename_i hc
     cases ha
     exact ⟨(τ.AP j cs).Ei t,if_pos hc,C1 hle hj⟩
   · cases ha
 · cases ha
theorem Cg.slv {σ τ:AF} {e s:Nat} {rows:List (List DV)} {v:AV} (h:Cg σ e s rows v τ):SlV v rows:=by
 obtain ⟨σ1,ha,hle⟩:=h.app
 unfold Nm at ha
 split at ha
 · cases ha;exact .inr (.inr ⟨rfl,rfl⟩)
 · split at ha
   · cases ha;exact .inr (.inl ⟨_,_,_,rfl⟩)
   · cases ha
 · cases ha
theorem Qv (dl:List Dat) (hdt:QS dl) (hl:dl.length≤1000000) (jd e:Nat) (cells:List AV) (s:Str) (σ:AF) (hb:σ.blk jd=some cells) (hrows:Hd cells dl):
 AM Tryz.prog 74 [.ms jd dl.length 3 e,.d (.str s)] σ (fun v σ'=>v=SF (I8 dl s)∧σ'=σ):=by
 refine Jp (by simp) ?_
 rw [BY]
 (repeat' (first|refine Run.ct rfl ?_|((first|refine Run.reg mixed ?_|refine Run.AD ?_)<;>try simp -implicitDefEqProofs only [AA,go_sem])|fail))
 refine Run.BD ?_
 refine Run.BG ((fun (a0:AV) (a1:AV) (a10:AV)=>fun (i:Nat)=>put 0 a0 (put 1 a1 (put 10 a10 (put 11 (.d (.int .i64 i)) U)))) _ _ _) (fun _=>E) (fun _=>σ) (fun i=>i≤dl.length∧∀d∈dl.take i,HX d.cons s=none) (fun i=>dl.length - i) ?_ 0 ⟨by simp,by simp⟩
 rintro i ⟨hi,hno⟩ ih
 by_cases hlt:i < dl.length
 · obtain ⟨d,hd⟩:=BC hlt
   obtain ⟨cv,_,hsl,_,_,g2,_⟩:=hrows.at hd
   have hix:((i:Int) < (dl.length:Int))=True:=by simp;omega
   have hw1:IntKind.i64.wrap ((i:Int)+1)=((i+1:Nat):Int):=by rw [BI (by omega) (by omega)];omega
   have hdl:=hdt d (AT hd)
   have hat:=fun k=>XS (k:=k) hno hd
   rw [← GM] at hat
   have hnext:=fun (h:HX d.cons s=none)=>Eg (p:=fun d:Dat=>(HX d.cons s).isSome) (i:=i) (fun y hy=>by simp [hno y hy]) hd (by rw [h];rfl)
   obtain ⟨dn,dv,cs⟩:=d
   simp only at *
   have hlen:=hsl.len
   rw [AA] at hlen
   have hcell:=hsl.cell
   (repeat' (first|refine Run.ct rfl ?_|((first|refine Run.reg mixed ?_|refine Run.AD ?_)<;>try simp -implicitDefEqProofs only [A8 hlt,hix,hb,g2,hcell,hlen,go_sem])|fail))
   refine Run.BD ?_
   refine Run.BG ((fun (a0:AV) (a1:AV) (a7:AV) (a10:AV) (a11:AV) (a19:AV)=>fun (k:Nat)=>put 0 a0 (put 1 a1 (put 7 a7 (put 10 a10 (put 11 a11 (put 19 a19 (put 20 (.d (.int .i64 k)) U))))))) _ _ _ _ _ _) (fun _=>E) (fun _=>σ) (fun k=>k≤cs.length∧∀c∈cs.take k,(c.name==s)=false) (fun k=>cs.length - k) ?_ 0 ⟨by simp,by simp⟩
   rintro k ⟨hk,hnk⟩ ih2
   by_cases hkl:k < cs.length
   · obtain ⟨c,hc⟩:=BC hkl
     have hec:=NA hc
     have hwk:=A6 (show k+1≤9000000000000000000 by omega)
     have hne:List.map Con.enc cs≠[]:=by
      intro h;rw [h] at hec;simp at hec
     cases hs:(c.name==s) with
     |true=>
      have hfin:=hat k (D1 (p:=fun c:Con=>c.name==s) hnk hc hs)
      clear hat hnext ih ih2
      rcases hsl with rfl|⟨t',e',s',rfl⟩|⟨h0,_⟩
      · (repeat' (first|refine Run.ct rfl ?_|((first|refine Run.reg mixed ?_|refine Run.AD ?_|refine Run.A1 DF (AF.le_refl _) ?_)<;>try simp -implicitDefEqProofs only [A8 hkl,hix,hb,g2,hec,BS,hs,go_sem])|fail))
        rw [hfin];rfl
      · (repeat' (first|refine Run.ct rfl ?_|((first|refine Run.reg mixed ?_|refine Run.AD ?_|refine Run.A1 DF (AF.le_refl _) ?_)<;>try simp -implicitDefEqProofs only [A8 hkl,hix,hb,g2,hec,BS,hs,go_sem])|fail))
        rw [hfin];rfl
      · exact absurd h0 hne
     |false=>
      have hgo:=ih2 (k+1) ⟨by omega,Eg (p:=fun c:Con=>c.name==s) hnk hc hs⟩ (by omega)
      clear hat hnext ih ih2
      rcases hsl with rfl|⟨t',e',s',rfl⟩|⟨h0,_⟩
      · (repeat' (first|refine Run.ct rfl ?_|((first|refine Run.reg mixed ?_|refine Run.AD ?_)<;>try simp -implicitDefEqProofs only [A8 hkl,hix,hb,g2,hec,hwk,BS,hs,go_sem])|fail))
        exact hgo
      · (repeat' (first|refine Run.ct rfl ?_|((first|refine Run.reg mixed ?_|refine Run.AD ?_)<;>try simp -implicitDefEqProofs only [A8 hkl,hix,hb,g2,hec,hwk,BS,hs,go_sem])|fail))
        exact hgo
      · exact absurd h0 hne
   · rw [AH (by omega)] at hnk
     (repeat' (first|refine Run.ct rfl ?_|((first|refine Run.reg mixed ?_|refine Run.AD ?_)<;>try simp -implicitDefEqProofs only [Bd hkl,hw1,go_sem])|fail))
     refine ih (i+1) ⟨by omega,fun y hy=>?_⟩ (by omega)
     have:=hnext (by rw [← GM,D2 (p:=fun c:Con=>c.name==s) hnk]) y hy
     simpa using this
 · (repeat' (first|refine Run.ct rfl ?_|((first|refine Run.reg mixed ?_|refine Run.AD ?_|refine Run.A1 DF (AF.le_refl _) ?_)<;>try simp -implicitDefEqProofs only [Bd hlt,go_sem])|fail))
   rw [AH (by omega)] at hno
   rw [XU hno];rfl
def Gz (dl:List Dat):List Str:=dl.flatMap fun d=>d.cons.map (·.name)
theorem Z7 (l:List Con) (s:Str):(HX l s).isSome=(l.map (·.name)).contains s:=by
 rw [← GW,← GM,← KQ,List.findIdx?_map];rfl
theorem Wg (s:Str):∀dl:List Dat,(I8 dl s).isSome=(Gz dl).contains s
 |[]=>rfl
 |d::l=>by
  have h1:=Z7 d.cons s
  have h2:=Wg s l
  have h3:(Gz (d::l)).contains s=((d.cons.map (·.name)).contains s||(Gz l).contains s):=by
   simp only [Gz,MB]
   rw [Ac];simp only [Aa,A3,DZ]
  rw [h3,← h1,← h2,I8]
  cases HX d.cons s<;>simp
end Go.Ab
namespace Go.Ab
open Go.Proofs
theorem XEx.o3 {K:CV} {F:Fm} {L:Lm} {σ σ1:AF} {d:Option Nat} {e s i n n2 e2:Nat} {p:AV} {cs cs2:List AV} (hb:σ.blk i=some cs2) (h1:cs2.length=n2 * s) (hn2:n2≠0) (hbd:n+n2≤1000000000)
 (hpa:KW σ e s p=some (n,cs,σ1)) (hnp:p.BZ=true) (h:∀j,σ.blk j=none→K (Av d (.ms j (n+n2) s e) F) L (σ1.AP j (cs++cs2))):XEx (.Vm e s) [p,.ms i n2 s e2] d K F L σ:=
 ⟨by simp [hnp,cA],by cases p<;>exact ⟨rfl,cs2,n,cs,σ1,hb,h1,hn2,hbd,hpa,h⟩⟩
abbrev eD:Nat:=122
def DlX (σ0:AF) (jr:Nat) (τ:AF) (dl:List Dat) (v:AV):Prop:=(dl=[]∧v= .AY)∨(∃jd cs,v= .ms jd dl.length 3 eD∧σ0.blk jd=none∧jd≠jr∧τ.blk jd=some cs∧Hd cs dl)
theorem DlX.dls {σ0 τ:AF} {jr:Nat} {dl:List Dat} {v:AV} (h:DlX σ0 jr τ dl v):DlS τ dl v:=by
 rcases h with h|⟨jd,cs,h1,_,_,h2,h3⟩
 · exact .inl h
 · exact .inr ⟨jd,_,cs,h1,h2,h3⟩
theorem DlX.app {σ0 τ:AF} {jr:Nat} {dl:List Dat} {v:AV} (h:DlX σ0 jr τ dl v) (hle:σ0.le τ) (hjr:τ.blk jr≠none) (row:List AV):
 ∃cs,Hd cs dl∧∀i,τ.blk i=none→∃σ1,KW (τ.AP i row) eD 3 v=some (dl.length,cs,σ1)∧σ0.le σ1∧σ1.blk jr=τ.blk jr:=by
 have hi0:∀i,τ.blk i=none→σ0.blk i=none∧i≠jr:=fun i hi=>by
  refine ⟨?_,fun e=>hjr (e ▸ hi)⟩
  cases hc:σ0.blk i with
  |none=>rfl
  |some c=>rw [hle.blk i c hc] at hi;cases hi
 rcases h with ⟨rfl,rfl⟩|⟨jd,cs,rfl,h0,hne,hb,hr⟩
 · refine ⟨[],⟨rfl,by simp⟩,fun i hi=>⟨_,rfl,C1 hle (hi0 i hi).1,?_⟩⟩
   rw [AL,if_neg (Bs (hi0 i hi).2)]
 · refine ⟨cs,hr,fun i hi=>⟨(τ.AP i row).Fo jd,?_,?_,?_⟩⟩
   · have hji:jd≠i:=fun e=>by rw [e,hi] at hb;cases hb
     simp [KW,AL,hji,hb,hr.1]
   · refine ⟨fun q c hq=>?_,hle.tok,hle.gt,hle.bt⟩
     have hq1:q≠jd:=fun e=>by rw [e,h0] at hq;cases hq
     have hq2:q≠i:=fun e=>by rw [e,(hi0 i hi).1] at hq;cases hq
     simp only [AF.Fo,if_neg hq1,AL,if_neg hq2]
     exact hle.blk q c hq
   · simp only [AF.Fo,if_neg (Bs hne),AL,if_neg (Bs (hi0 i hi).2)]
structure APS (σ0:AF) (jr:Nat) (dl:List Dat) (nm:Str) (k:Int) (cv x1 x2 x3:AV) (jd:Nat) (cs:List AV) (τ:AF):Prop where
 res:τ.blk jr=some [.ms jd (dl.length+1) 3 eD,x1,x2,x3]
 nb:σ0.blk jd=none
 ne:jd≠jr
 row:τ.blk jd=some (cs++[.d (.str nm),.d (.int .i64 k),cv])
 ok:Hd cs dl
 le:σ0.le τ
theorem Hd.snoc {cs:List AV} {dl:List Dat} (h:Hd cs dl) (nm:Str) (k:Int) (cv:AV) (cons:List Con) (hcv:SlV cv (cons.map Con.enc)):Hd (cs++[.d (.str nm),.d (.int .i64 k),cv]) (dl++[⟨nm,k,cons⟩]):=by
 refine ⟨by simp [h.1];omega,fun i d hd=>?_⟩
 rcases Br i dl.length with hi|hi
 · rw [Az hi] at hd
   obtain ⟨cv',h1,h2⟩:=h.2 i d hd
   refine ⟨cv',?_,h2⟩
   rw [List.drop_append_of_le_length (by rw [h.1];omega),List.take_append_of_le_length (by rw [Bm,h.1];omega)]
   exact h1
 · have:i=dl.length:=by
    have:=(AR.1 hd).1
    simp at this;omega
   subst this
   rw [Ax (A0 _),Nat.sub_self] at hd
   simp only [LO,AK] at hd
   subst hd
   refine ⟨cv,?_,hcv⟩
   rw [← h.1,List.drop_left];rfl
theorem ME (ds:List (Str×Nat)) (vars:List Str) (m:List TE):∀ {l:List TE} {us:List Ty},Dm ds vars l= .ok us→Dm ds vars (l++m)=(Dm ds vars m).map (us++·)
 |[],us,h=>by
  simp only [Dm,EM] at h;subst h
  simp only [Au]
  cases Dm ds vars m<;>rfl
 |t::l,us,h=>by
  rw [Dm] at h
  rw [Ad,Dm]
  cases ht:Hu ds vars true t with
  |error e=>rw [ht] at h;cases h
  |ok u=>
   rw [ht] at h
   simp only at h ⊢
   cases hl:Dm ds vars l with
   |error e=>rw [hl] at h;cases h
   |ok ys=>
    rw [hl] at h
    simp only [CP,EM] at h
    subst h
    rw [ME ds vars m hl]
    cases Dm ds vars m<;>rfl
theorem KN (ds:List (Str×Nat)) (vars:List Str) (m:List CE):∀ {l:List CE} {used:List Str} {us:List Con},Ep ds vars used l= .ok us→Ep ds vars used (l++m)=(Ep ds vars (used++l.map (·.name)) m).map (us++·)∧us.map (·.name)=l.map (·.name)
 |[],used,us,h=>by
  simp only [Ep,EM] at h;subst h
  simp only [Au,AO,Aq,and_true]
  cases Ep ds vars used m<;>rfl
 |c::l,used,us,h=>by
  rw [Ep] at h
  rw [Ad,Ep]
  split at h
  · cases h
  · rename_i hu
    rw [if_neg hu]
    cases ht:Dm ds vars c.args with
    |error e=>rw [ht] at h;cases h
    |ok ts=>
     rw [ht] at h
     simp only at h ⊢
     cases hl:Ep ds vars (used++[c.name]) l with
     |error e=>rw [hl] at h;cases h
     |ok ys=>
      rw [hl] at h
      simp only [CP,EM] at h
      subst h
      obtain ⟨h1,h2⟩:=KN ds vars m hl
      rw [h1,Ag]
      refine ⟨?_,by simp [h2]⟩
      simp only [AI,List.singleton_append]
      cases Ep ds vars (used++c.name::l.map (·.name)) m<;>rfl
end Go.Ab
namespace Go.Ab
open Go.Proofs
set_option maxRecDepth 4000 in
set_option maxHeartbeats 4000000 in
theorem YJ (σ0:AF) (jr:Nat) (dl:List Dat) (hdl:dl.length≤1000) (nm:Str) (vs:List Str) (cs:List CE) (τ:AF) (dv x1 x2 x3:AV) (hb:τ.blk jr=some [dv,x1,x2,x3]) (hx:x1.BW=true∧x2.BW=true∧x3.BW=true)
 (hv:DlX σ0 jr τ dl dv) (hle:σ0.le τ) (hjr:σ0.blk jr=none) (K:CV)
 (hK:∀F' L' σ' jd cells,M4 [0,3] F'=put 0 (.gp jr 0) (put 3 (.lp 3 0) U)→I1 [0,3] L'=BE 3 [.d (.str nm),.d (.sl (vs.map BF)),.d (.sl (cs.map CE.enc))] E→APS σ0 jr dl nm vs.length .AY x1 x2 x3 jd cells σ'→K F' L' σ'):
 XT Tryz.prog K false (.one ⟨some 26,.mv (.t 0),none⟩ (.one ⟨some 27,.mv (.t 0),none⟩ (.one ⟨some 28,.nck (.t 27),none⟩ (.one ⟨some 29,.fld (.t 28) 0,none⟩ (.one ⟨some 31,.fld (.t 3) 0,none⟩ (.one ⟨some 32,.ldl (.t 31) none,none⟩ (.one ⟨some 33,.fld (.t 3) 1,none⟩ (.one ⟨some 34,.ldl (.t 33) none,none⟩ (.one ⟨some 35,.len (.t 34),none⟩ (.one ⟨some 36,.bld [(.d (.str [])),(.d (.int .i64 0)),.AY] [(0,1,(.t 32)),(1,1,(.t 35))],none⟩ (.alt ⟨some 30,.ld (.t 29) none,none⟩ (.one ⟨some 37,.QX 122 3 1 [(.d (.str [])),(.d (.int .i64 0)),.AY] [(0,3,(.t 36))],none⟩ (.one ⟨some 38,.ex (.Vm 122 3) [(.t 30),(.t 37)],none⟩ (.one ⟨some 39,.nck (.t 26),none⟩ (.one ⟨some 40,.fld (.t 39) 0,none⟩ (.one ⟨none,.st (.t 40) (.t 38) 1,none⟩ .done))))) (.alt ⟨some 37,.QX 122 3 1 [(.d (.str [])),(.d (.int .i64 0)),.AY] [(0,3,(.t 36))],none⟩ (.one ⟨some 30,.ld (.t 29) none,none⟩ (.one ⟨some 38,.ex (.Vm 122 3) [(.t 30),(.t 37)],none⟩ (.one ⟨some 39,.nck (.t 26),none⟩ (.one ⟨some 40,.fld (.t 39) 0,none⟩ (.one ⟨none,.st (.t 40) (.t 38) 1,none⟩ .done))))) .done)))))))))))) (put 0 (.gp jr 0) (put 3 (.lp 3 0) (put 25 (.d (.bool false)) U))) (BE 3 [.d (.str nm),.d (.sl (vs.map BF)),.d (.sl (cs.map CE.enc))] E) τ:=by
 have hcell:dv.BW=true:=by rcases hv with ⟨_,rfl⟩|⟨jd,cs,rfl,_⟩<;>rfl
 have hnl:dv.BZ=true:=by rcases hv with ⟨_,rfl⟩|⟨jd,cs,rfl,_⟩<;>rfl
 have hjn:∀i,τ.blk i=none→i≠jr:=fun i hi e=>by rw [e,hb] at hi;cases hi
 have hi0:∀i,τ.blk i=none→σ0.blk i=none:=fun i hi=>by
  cases hc:σ0.blk i with
  |none=>rfl
  |some c=>rw [hle.blk i c hc] at hi;cases hi
 obtain ⟨cells,hrows,happ⟩:=hv.app hle (by rw [hb];simp) [.d (.str nm),.d (.int .i64 (vs.length:Int)),.AY]
 -- what both orders end with
 have hend:∀(i:Nat) (σ1:AF) (j:Nat),τ.blk i=none→KW (τ.AP i [.d (.str nm),.d (.int .i64 (vs.length:Int)),.AY]) eD 3 dv=some (dl.length,cells,σ1)→σ0.le σ1→σ1.blk jr=τ.blk jr→(τ.AP i [.d (.str nm),.d (.int .i64 (vs.length:Int)),.AY]).blk j=none→
  APS σ0 jr dl nm vs.length .AY x1 x2 x3 j cells ((σ1.AP j (cells++[.d (.str nm),.d (.int .i64 (vs.length:Int)),.AY])).AP jr [.ms j (dl.length+1) 3 eD,x1,x2,x3]):=fun i σ1 j hi _ hl1 hb1 hj=>by
  have hji:j≠i:=fun e=>by rw [e,AL,if_pos rfl] at hj;cases hj
  rw [AL,if_neg hji] at hj
  have hjr':=hjn j hj
  refine ⟨by rw [AL,if_pos rfl],hi0 j hj,hjr',by rw [AL,if_neg hjr',AL,if_pos rfl],hrows,C1 (C1 hl1 (hi0 j hj)) hjr⟩
 simp -implicitDefEqProofs only [hb,hcell,AA,go_sem]
 refine ⟨Pl.mk (fun i hi=>?_),Pl.mk (fun i hi=>?_)⟩
 · obtain ⟨σ1,ha,hl1,hb1⟩:=happ i hi
   have hij:=hjn i hi
   have hji:(jr=i)=False:=by simp only [eq_iff_iff,iff_false];exact fun e=>hij e.symm
   simp -implicitDefEqProofs only [hb,hcell,hji,go_sem]
   refine XEx.o3 (cs2:=[.d (.str nm),.d (.int .i64 (vs.length:Int)),.AY]) (by simp only [AL,if_true]) rfl (by simp) (by omega) ha hnl (fun j hj=>?_)
   have hjj:(jr=j)=False:=by
    simp only [eq_iff_iff,iff_false]
    intro e
    rw [← e,AL,if_neg (fun e=>hij e.symm),hb] at hj;cases hj
   have hfin:=hend i σ1 j hi ha hl1 hb1 hj
   rw [hb] at hb1
   simp -implicitDefEqProofs only [hjj,hb1,go_sem]
   exact hK _ _ _ j cells (by simp -implicitDefEqProofs only [go_sem]) (by simp -implicitDefEqProofs only [go_sem]) hfin
 · obtain ⟨σ1,ha,hl1,hb1⟩:=happ i hi
   have hij:=hjn i hi
   have hji:(jr=i)=False:=by simp only [eq_iff_iff,iff_false];exact fun e=>hij e.symm
   simp -implicitDefEqProofs only [hb,hcell,hji,go_sem]
   refine XEx.o3 (cs2:=[.d (.str nm),.d (.int .i64 (vs.length:Int)),.AY]) (by simp only [AL,if_true]) rfl (by simp) (by omega) ha hnl (fun j hj=>?_)
   have hjj:(jr=j)=False:=by
    simp only [eq_iff_iff,iff_false]
    intro e
    rw [← e,AL,if_neg (fun e=>hij e.symm),hb] at hj;cases hj
   have hfin:=hend i σ1 j hi ha hl1 hb1 hj
   rw [hb] at hb1
   simp -implicitDefEqProofs only [hjj,hb1,go_sem]
   exact hK _ _ _ j cells (by simp -implicitDefEqProofs only [go_sem]) (by simp -implicitDefEqProofs only [go_sem]) hfin
end Go.Ab
namespace Go.Ab
open Go.Proofs
def DQ (σ0:AF) (jr:Nat) (dl:List Dat) (r:Except Int Dat) (v:AV) (σ':AF):Prop:=match r with
 | .error e=>v= .d (.int .i64 e)∧e≠0∧σ0.le σ'
 | .ok x=>v= .d (.int .i64 0)∧σ0.le σ'∧∃dv y1 y2 y3,σ'.blk jr=some [dv,y1,y2,y3]∧(y1.BW=true∧y2.BW=true∧y3.BW=true)∧DlX σ0 jr σ' (dl++[x]) dv
theorem Xy {ds:List (Str×Nat)} {vars:List Str}:∀ {l:List TE} {e:Int},Dm ds vars l= .error e→e≠0
 |[],e,h=>by cases h
 |t::l,e,h=>by
  rw [Dm] at h
  cases ht:Hu ds vars true t with
  |error e'=>rw [ht] at h;cases h;exact Rg t true _ ht
  |ok u=>
   rw [ht] at h
   cases hl:Dm ds vars l with
   |error e'=>rw [hl] at h;cases h;exact Xy hl
   |ok us=>rw [hl] at h;cases h
theorem fQ (l m:List Dat):Gz (l++m)=Gz l++Gz m:=by simp [Gz]
abbrev eC:Nat:=124
def oX (σ0:AF) (jr:Nat) (dl:List Dat) (nm:Str) (vs:List Str) (cs:List CE) (jd:Nat) (cells:List AV) (p:Nat) (us:List Con) (F':Fm) (L':Lm) (σ':AF):Prop:=
 M4 [0,5,52,53,54] F'=put 0 (.gp jr 0) (put 5 (.d (.int .i64 (dl.length:Int))) (put 52 (.d (.sl (cs.map CE.enc))) (put 53 (.d (.int .i64 cs.length)) (put 54 (.d (.int .i64 p)) U))))∧I1 [0,5,52,53,54] L'=E∧
  ∃cv',APS σ0 jr dl nm vs.length cv' (.d (.str nm)) (.d (.sl (vs.map BF))) (.d (.sl (cs.map CE.enc))) jd cells σ'∧Cg σ0 eC 2 (us.map Con.enc) cv' σ'
theorem Z9 (σ0:AF) (jr:Nat) (dl:List Dat) (hdl:dl.length≤1000) (hnn:∀d∈dl,0≤d.vars) (hdt:QS dl) (nm:Str) (vs:List Str) (cs:List CE) (hcs:cs.length≤1000) (hsm:∀c∈cs,PS c∧c.args.length≤1000)
 (τ:AF) (jd:Nat) (cells:List AV) (hjr:σ0.blk jr=none) (haps:APS σ0 jr dl nm vs.length .AY (.d (.str nm)) (.d (.sl (vs.map BF))) (.d (.sl (cs.map CE.enc))) jd cells τ):
 Run CK (DQ σ0 jr dl ((Ep (E5 dl++[(nm,vs.length)]) vs (Gz dl) cs).map (⟨nm,vs.length,·⟩))) [.code (.loop Fv),.blk 0,.code (.seq (.reg [⟨some 4,.mv (.c (.d (.int .i64 0))),none⟩] [4]) .ret)]
  (put 0 (.gp jr 0) (put 5 (.d (.int .i64 (dl.length:Int))) (put 52 (.d (.sl (cs.map CE.enc))) (put 53 (.d (.int .i64 cs.length)) (put 54 (.d (.int .i64 0)) U))))) E τ:=by
 generalize hQ:DQ σ0 jr dl ((Ep (E5 dl++[(nm,vs.length)]) vs (Gz dl) cs).map (⟨nm,vs.length,·⟩))=Q
 have herr:∀(e:Int) (σ':AF),Ep (E5 dl++[(nm,vs.length)]) vs (Gz dl) cs= .error e→e≠0→σ0.le σ'→Q (.d (.int .i64 e)) σ':=fun e σ' h hne hl=>by
  rw [← hQ,h];exact ⟨rfl,hne,hl⟩
 have hfin:∀(us:List Con) (cv:AV) (σ':AF),Ep (E5 dl++[(nm,vs.length)]) vs (Gz dl) cs= .ok us→SlV cv (us.map Con.enc)→APS σ0 jr dl nm vs.length cv (.d (.str nm)) (.d (.sl (vs.map BF))) (.d (.sl (cs.map CE.enc))) jd cells σ'→Q (.d (.int .i64 0)) σ':=fun us cv σ' h hsl ha=>by
  rw [← hQ,h]
  refine ⟨rfl,ha.le,_,_,_,_,ha.res,⟨rfl,rfl,rfl⟩,.inr ⟨jd,_,by rw [AS];rfl,ha.nb,ha.ne,ha.row,ha.ok.snoc nm _ cv us hsl⟩⟩
 clear hQ
 refine Run.BD ?_
 refine Run.BG ((fun (a0:AV) (a5:AV) (a52:AV) (a53:AV)=>fun (y:Nat×List Con×AV×AF)=>put 0 a0 (put 5 a5 (put 52 a52 (put 53 a53 (put 54 (.d (.int .i64 y.1)) U))))) _ _ _ _) (fun _=>E) (fun y=>y.2.2.2)
  (fun y=>y.1≤cs.length∧y.2.1.length=y.1∧Ep (E5 dl++[(nm,vs.length)]) vs (Gz dl) (cs.take y.1)= .ok y.2.1∧APS σ0 jr dl nm vs.length y.2.2.1 (.d (.str nm)) (.d (.sl (vs.map BF))) (.d (.sl (cs.map CE.enc))) jd cells y.2.2.2∧Cg σ0 eC 2 (y.2.1.map Con.enc) y.2.2.1 y.2.2.2)
  (fun y=>cs.length - y.1) ?_ (0,[],.AY,τ) ⟨by simp,rfl,rfl,haps,⟨⟨τ,rfl,haps.le⟩,haps.le,rfl,rfl,rfl,rfl,fun _=>rfl,rfl,rfl⟩⟩
 rintro ⟨p,us,cv,τ1⟩ ⟨hp,hlu,hok,haps,hown⟩ ih
 simp only at hp hlu hok haps hown
 by_cases hlt:p < cs.length
 · obtain ⟨c,hc⟩:=BC hlt
   have he:=Ay (enc:=CE.enc) hc
   have hw1:=A6 (show p+1≤9000000000000000000 by omega)
   obtain ⟨hall,hnames⟩:=KN (E5 dl++[(nm,vs.length)]) vs (cs.drop p) hok
   rw [A4,Bb hc] at hall
   obtain ⟨hsn,_⟩:=KN (E5 dl++[(nm,vs.length)]) vs [c] hok
   rw [← Aw hc] at hsn
   obtain ⟨hcsm,hcal⟩:=hsm c (AT hc)
   -- the rows with the partial declaration
   have hrows:=haps.ok.snoc nm (vs.length:Int) cv us hown.slv
   have hlp:(dl++[(⟨nm,(vs.length:Int),us⟩:Dat)]).length=dl.length+1:=by simp
   have husl:us.length≤1000000:=by omega
   have hdtp:QS (dl++[⟨nm,(vs.length:Int),us⟩]):=fun d hd=>by
    rcases A3.1 hd with h|h
    · exact hdt d h
    · simp only [B5] at h;subst h;exact husl
   have hnnp:∀d∈dl++[(⟨nm,(vs.length:Int),us⟩:Dat)],0≤d.vars:=fun d hd=>by
    rcases A3.1 hd with h|h
    · exact hnn d h
    · simp only [B5] at h;subst h;simp
   have hdsp:E5 (dl++[⟨nm,(vs.length:Int),us⟩])=E5 dl++[(nm,vs.length)]:=by simp [E5]
   have hudp:Gz (dl++[⟨nm,(vs.length:Int),us⟩])=Gz dl++(cs.take p).map (·.name):=by
    rw [fQ,← hnames];simp [Gz]
   have hctr:=Qv (dl++[⟨nm,(vs.length:Int),us⟩]) hdtp (by rw [hlp];omega) jd eD _ c.name τ1 haps.row hrows
   have hcu:=Wg c.name (dl++[⟨nm,(vs.length:Int),us⟩])
   rw [hudp] at hcu
   rw [hlp] at hctr
   have hRB:RB τ1 jr (dl++[⟨nm,(vs.length:Int),us⟩]) nm vs cs:=⟨_,haps.res,.inr ⟨jd,eD,_,by rw [hlp],haps.row,hrows⟩⟩
   have hres:=haps.res
   generalize hdlp:dl++[(⟨nm,(vs.length:Int),us⟩:Dat)]=dlp at *
   rw [Ep] at hall hsn
   obtain ⟨cn,ar⟩:=c
   simp only [CE.enc] at he hcu hall hsn hctr hcal hcsm
   cases hct:I8 dlp cn with
   |some x=>
    rw [hct] at hctr hcu
    simp only [SF,Bp] at hctr hcu
    rw [← hcu,if_pos rfl] at hall
    (repeat' (first|refine Run.ct rfl ?_|((first|refine Run.reg mixed ?_|refine Run.AD ?_|refine Run.Fu CH (AF.le_refl _) ?_|refine AJ.det (hctr) ?_)<;>try simp -implicitDefEqProofs only [A8 hlt,he,hres,go_sem])|fail))
    exact herr 4 _ hall (by decide) haps.le
   |none=>
   rw [hct] at hctr hcu
   simp only [SF,CD] at hctr hcu
   rw [← hcu,if_neg (by simp)] at hall hsn
   (repeat' (first|refine Run.ct rfl ?_|((first|refine Run.reg mixed ?_|refine Run.AD ?_|refine AJ.det (hctr) ?_)<;>try simp -implicitDefEqProofs only [A8 hlt,he,hres,AA,go_sem])|fail))
   refine Run.BD ?_
   refine Run.BG ((fun (a0:AV) (a5:AV) (a11:AV) (a52:AV) (a53:AV) (a54:AV) (a74:AV) (a75:AV)=>fun (z:Nat×List Ty×AV×AF)=>put 0 a0 (put 5 a5 (put 11 a11 (put 52 a52 (put 53 a53 (put 54 a54 (put 74 a74 (put 75 a75 (put 76 (.d (.int .i64 z.1)) U))))))))) _ _ _ _ _ _ _ _) (fun z=>BE 11 [.d (.str cn),z.2.2.1] E) (fun z=>z.2.2.2)
    (fun z=>z.1≤ar.length∧z.2.1.length=z.1∧Dm (E5 dl++[(nm,vs.length)]) vs (ar.take z.1)= .ok z.2.1∧Cg τ1 57 3 (z.2.1.map Ty.enc) z.2.2.1 z.2.2.2)
    (fun z=>ar.length - z.1) ?_ (0,[],.AY,τ1) ⟨by simp,rfl,rfl,Cg.nil _ _ _⟩
   rintro ⟨a,ts,uv,τ2⟩ ⟨ha,hlt',hoka,ho⟩ ih2
   simp only at ha hlt' hoka ho
   by_cases hal:a < ar.length
   · obtain ⟨x,hx⟩:=BC hal
     have hex:=Ay (enc:=TE.enc) hx
     have hwa:=A6 (show a+1≤9000000000000000000 by omega)
     have hxs:=hcsm x (AT hx)
     have hra:=aS jr dlp (by omega) hnnp nm vs cs x.size x true τ2 (A0 _) hxs (hRB.le ho.le)
     rw [hdsp] at hra
     have hall2:Dm (E5 dl++[(nm,vs.length)]) vs ar=(Dm (E5 dl++[(nm,vs.length)]) vs (x::ar.drop (a+1))).map (ts++·):=by
      conv=>lhs;rw [← A4 a ar,Bb hx]
      exact ME _ _ _ hoka
     have hsn2:Dm (E5 dl++[(nm,vs.length)]) vs (ar.take (a+1))=(Dm (E5 dl++[(nm,vs.length)]) vs [x]).map (ts++·):=by
      rw [Aw hx];exact ME _ _ _ hoka
     rw [Dm] at hall2
     rw [Dm,Dm] at hsn2
     cases hr:Hu (E5 dl++[(nm,vs.length)]) vs true x with
     |error e=>
      rw [hr] at hra hall2
      simp only [CP] at hall2
      rw [hall2] at hall
      have hne:=Rg x true e hr
      have hne':(e != 0)=true:=by simpa using hne
      obtain ⟨xk,xn,xl⟩:=x
      simp only [TE.A7,teA,AI,AO,Ok] at hex hra
      have hxe:=herr e τ2 hall hne (AF.le_trans haps.le ho.le)
      (repeat' (first|refine Run.ct rfl ?_|((first|refine Run.reg mixed ?_|refine Run.AD ?_|refine Run.Fu CH (AF.le_refl _) ?_|refine AJ.det (hra) ?_)<;>try simp -implicitDefEqProofs only [A8 hal,hex,hne',ho.cell,go_sem])|fail))
      exact hxe
     |ok u=>
      rw [hr] at hra hsn2
      simp only [CP] at hsn2
      obtain ⟨uk,un,ul⟩:=u
      obtain ⟨xk,xn,xl⟩:=x
      simp only [TE.A7,teA,AI,AO,Ok,tyA,Ty.enc] at hex hra
      have h00:((0:Int) != 0)=false:=by decide
      (repeat' (first|refine Run.ct rfl ?_|((first|refine Run.reg mixed ?_|refine Run.AD ?_|(refine Dy.own ho rfl (by simp) (by simp;omega) (by decide) (fun v2 σ2 ho2 hbk=>?_))|refine AJ.det (hra) ?_)<;>try simp -implicitDefEqProofs only [A8 hal,hex,hwa,h00,ho.cell,ho.cells,ho.BZ,ho.Ar,go_sem])|fail))
      simp -implicitDefEqProofs only [ho2.cells,ho2.cell,go_sem]
      (repeat' (first|refine Run.ct rfl ?_|((first|refine Run.reg mixed ?_|refine Run.AD ?_)<;>try simp -implicitDefEqProofs only [hwa,ho2.cell,ho2.cells,go_sem])|fail))
      exact ih2 (a+1,ts++[.mk uk un ul],v2,σ2) ⟨by simp only;omega,by simp [hlt'],hsn2,by simpa [Ty.enc] using ho2⟩ (by simp only;omega)
   · rw [AH (by omega)] at hoka
     rw [hoka] at hall hsn
     simp only [Ep,CP] at hall hsn
     have haps2:APS σ0 jr dl nm vs.length cv (.d (.str nm)) (.d (.sl (vs.map BF))) (.d (.sl (cs.map CE.enc))) jd cells τ2:=⟨ho.le.blk _ _ hres,haps.nb,haps.ne,ho.le.blk _ _ haps.row,haps.ok,AF.le_trans haps.le ho.le⟩
     have hown2:=hown.up ho.le
     (repeat' (first|refine Run.ct rfl ?_|((first|refine Run.reg mixed ?_|refine Run.AD ?_)<;>try simp -implicitDefEqProofs only [Bd hal,go_sem])|fail))
     have hcl:=haps.ok.1
     have hixl:((dl.length:Int) < ((dl.length+1:Nat):Int))=True:=by simp only [eq_iff_iff,iff_true];omega
     have hget:(cells++[AV.d (.str nm),.d (.int .i64 (vs.length:Int)),cv])[dl.length * 3+2]?=some cv:=by
      rw [Ax (by omega),hcl,LP];rfl
     have htk:DN (dl.length * 3+2) (cells++[AV.d (.str nm),.d (.int .i64 (vs.length:Int)),cv])=cells++[AV.d (.str nm),.d (.int .i64 (vs.length:Int))]:=by
      rw [List.take_append,AH (by omega),hcl,LP];rfl
     have hdr:Cs (dl.length * 3+2+1) (cells++[AV.d (.str nm),.d (.int .i64 (vs.length:Int)),cv])=[]:=by
      rw [MA (by simp;omega)]
     have hlen3:(dl.length * 3+2+1≤(cells++[AV.d (.str nm),.d (.int .i64 (vs.length:Int)),cv]).length)=True:=by simp;omega
     have hend:∀(v3:AV) (σ3:AF) (F':Fm) (L':Lm),M4 [0,5,52,53,54] F'=put 0 (.gp jr 0) (put 5 (.d (.int .i64 (dl.length:Int))) (put 52 (.d (.sl (cs.map CE.enc))) (put 53 (.d (.int .i64 cs.length)) (put 54 (.d (.int .i64 p)) U))))→I1 [0,5,52,53,54] L'=E→
      Cg σ0 eC 2 (us.map Con.enc++[[.str cn,.sl (ts.map Ty.enc)]]) v3 σ3→σ3.blk jr=some [.ms jd (dl.length+1) 3 eD,.d (.str nm),.d (.sl (vs.map BF)),.d (.sl (cs.map CE.enc))]→
      oX σ0 jr dl nm vs cs jd cells p (us++[(⟨cn,ts⟩:Con)]) F' L' (σ3.AP jd (cells++[AV.d (.str nm),.d (.int .i64 (vs.length:Int)),v3])):=fun v3 σ3 F' L' h1 h2 ho3 hr3=>by
      refine ⟨h1,h2,v3,⟨by rw [AL,if_neg (Bs haps.ne)];exact hr3,haps.nb,haps.ne,by rw [AL,if_pos rfl],haps.ok,C1 ho3.le haps.nb⟩,?_⟩
      have:=ho3.set haps.nb (cells++[AV.d (.str nm),.d (.int .i64 (vs.length:Int)),v3])
      simpa [Con.enc,Ty.Ed] using this
     refine Run.cF mixed (oX σ0 jr dl nm vs cs jd cells p (us++[(⟨cn,ts⟩:Con)])) ?_ ?_
     · simp -implicitDefEqProofs only [haps2.res,haps2.row,hixl,hget,hown2.cell,hown.cell,ho.dv,ho.cell,go_sem]
       refine ⟨?_,?_⟩
       · refine Dy.own hown2 rfl (by simp) (by simp;omega) (by decide) (fun v3 σ3 ho3 hbk3=>?_)
         have hb3:=(hbk3 jd).trans haps2.row
         have hr3:=(hbk3 jr).trans haps2.res
         simp -implicitDefEqProofs only [hb3,hr3,hixl,ho3.cells,ho3.cell,hlen3,htk,hdr,go_sem]
         rw [Ag]
         refine hend v3 σ3 _ _ ?_ ?_ ho3 hr3
         · simp -implicitDefEqProofs only [go_sem]
         · simp -implicitDefEqProofs only [go_sem]
       · refine Dy.own hown2 rfl (by simp) (by simp;omega) (by decide) (fun v3 σ3 ho3 hbk3=>?_)
         have hb3:=(hbk3 jd).trans haps2.row
         have hr3:=(hbk3 jr).trans haps2.res
         simp -implicitDefEqProofs only [hb3,hr3,hixl,ho3.cells,ho3.cell,hlen3,htk,hdr,go_sem]
         rw [Ag]
         refine hend v3 σ3 _ _ ?_ ?_ ho3 hr3
         · simp -implicitDefEqProofs only [go_sem]
         · simp -implicitDefEqProofs only [go_sem]
     · rintro F' L' σ' ⟨h1,h2,cv',h3,h4⟩
       rw [h1,h2]
       (repeat' (first|refine Run.ct rfl ?_|((first|refine Run.reg mixed ?_|refine Run.AD ?_)<;>try simp -implicitDefEqProofs only [hw1,go_sem])|fail))
       exact ih (p+1,us++[(⟨cn,ts⟩:Con)],cv',σ') ⟨by simp only;omega,by simp [hlu],hsn,h3,h4⟩ (by simp only;omega)
 · rw [AH (by omega)] at hok
   (repeat' (first|refine Run.ct rfl ?_|((first|refine Run.reg mixed ?_|refine Run.AD ?_|refine Run.Fu CH (AF.le_refl _) ?_)<;>try simp -implicitDefEqProofs only [Bd hlt,go_sem])|fail))
   exact hfin us cv _ hok hown.slv haps
end Go.Ab
