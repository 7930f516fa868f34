/- Scope: constructors among the resolver's rows; owned rows in other heaps. Scope: a declaration appended. Scope: a declaration resolved. Scope: the constructors of a declaration resolved. Conditions: none. -/
import Derived.Test.YtlckhmkeihbhmaaGreatXVf
set_option linter.unusedSimpArgs false
set_option linter.unusedVariables false
set_option maxRecDepth 4000
set_option maxHeartbeats 8000000
open List renaming length_map→AA,mem_of_getElem?→AT,take_of_length_le→AK,flatMap_cons→Lb,contains_iff_mem→A8,mem_append→A7,getElem?_append_left→At,length_drop→Br,getElem?_eq_some_iff→AR,getElem?_append_right→Aq,getElem?_cons_zero→Ks,nil_append→Ay,cons_append→Aa,map_nil→AQ,append_nil→Ao,append_assoc→Ae,map_cons→AG,length_append→AS,take_append_drop→A3,mem_singleton→Bd,take→DJ,drop→Cq,drop_of_length_le→HS
open Bool renaming eq_iff_iff→Af,or_eq_true→DU
open Ne renaming symm→CL
open Nat renaming lt_or_ge→Bt,le_refl→A0,add_sub_cancel_left→Kt
open Option.some renaming injEq→AJ
open Except.ok renaming injEq→EH
open Except renaming map→CP
open Option renaming isSome_some→Bn,isSome_none→CC
namespace Go.Ab
open Go.Proofs
theorem Dh.up {σ τ τ':AF} {e s:Nat} {rows:List (List DV)} {v:AV} (h:Dh σ e s rows v τ) (hl:τ.le τ'):Dh σ e s rows v τ':=by
 obtain ⟨σ1,ha,hle⟩:=h.app
 refine ⟨?_,AF.le_trans h.le hl,h.plain,h.len,h.cell,h.BY,h.BO,h.dv,h.cells⟩
 unfold NM at ha ⊢
 split at ha
 · cases ha
   exact ⟨τ',rfl,AF.le_trans hle hl⟩
 · rename_i t e' s' rows'
   split at ha
   · rename_i hc
     cases ha
     refine ⟨τ'.Ed t,if_pos ⟨hc.1,hc.2.1,hl.tok t hc.2.2⟩,?_⟩
     refine ⟨fun i cs hi=>hl.blk i cs (hle.blk i cs hi),fun t' ht'=>?_,hle.gt.trans hl.gt,fun i x hx=>hl.bt i x (hle.bt i x hx)⟩
     have h1:=hle.tok t' ht'
     by_cases he:t'=t
     · subst he;simp [AF.Ed] at h1
     · simp only [AF.Ed,if_neg he] at h1 ⊢
       exact hl.tok t' h1
   · cases ha
 · cases ha
theorem Dh.set {σ τ:AF} {e s:Nat} {rows:List (List DV)} {v:AV} (h:Dh σ e s rows v τ) {j:Nat} (hj:σ.blk j=none) (cs:List AV):Dh σ e s rows v (τ.AO j cs):=by
 obtain ⟨σ1,ha,hle⟩:=h.app
 refine ⟨?_,DH h.le hj,h.plain,h.len,h.cell,h.BY,h.BO,h.dv,h.cells⟩
 unfold NM at ha ⊢
 split at ha
 · cases ha
   exact ⟨_,rfl,DH hle hj⟩
 · rename_i t e' s' rows'
   split at ha
   · rename_i hc
     cases ha
     exact ⟨(τ.AO j cs).Ed t,if_pos hc,DH hle hj⟩
   · cases ha
 · cases ha
theorem Dh.slv {σ τ:AF} {e s:Nat} {rows:List (List DV)} {v:AV} (h:Dh σ e s rows v τ):SlV v rows:=by
 obtain ⟨σ1,ha,hle⟩:=h.app
 unfold NM at ha
 split at ha
 · cases ha;exact .inr (.inr ⟨rfl,rfl⟩)
 · split at ha
   · cases ha;exact .inr (.inl ⟨_,_,_,rfl⟩)
   · cases ha
 · cases ha
theorem QR (dl:List Dat) (hdt:QS dl) (hl:dl.length≤1000000) (jd e:Nat) (cells:List AV) (s:Str) (σ:AF) (hb:σ.blk jd=some cells) (hrows:H0 cells dl):
 AL Tryz.prog 74 [.ms jd dl.length 3 e,.d (.str s)] σ (fun v σ'=>v=R4 (IX dl s)∧σ'=σ):=by
 refine Jg (by simp) ?_
 rw [BX]
 (repeat' (first|refine Run.ct rfl ?_|((first|refine Run.reg mixed ?_|refine Run.AE ?_)<;>try simp -implicitDefEqProofs only [AA,go_sem])|fail))
 refine Run.BD ?_
 refine Run.BK ((fun (a0:AV) (a1:AV) (a10:AV)=>fun (i:Nat)=>put 0 a0 (put 1 a1 (put 10 a10 (put 11 (.d (.int .i64 i)) U)))) _ _ _) (fun _=>E) (fun _=>σ) (fun i=>i≤dl.length∧∀d∈dl.take i,HK d.cons s=none) (fun i=>dl.length - i) ?_ 0 ⟨by simp,by simp⟩
 rintro i ⟨hi,hno⟩ ih
 by_cases hlt:i < dl.length
 · obtain ⟨d,hd⟩:=BC hlt
   obtain ⟨cv,_,hsl,_,_,g2,_⟩:=hrows.at hd
   have hix:((i:Int) < (dl.length:Int))=True:=by simp;omega
   have hw1:IntKind.i64.wrap ((i:Int)+1)=((i+1:Nat):Int):=by rw [BL (by omega) (by omega)];omega
   have hdl:=hdt d (AT hd)
   have hat:=fun k=>W1 (k:=k) hno hd
   rw [← Fz] at hat
   have hnext:=fun (h:HK d.cons s=none)=>Eb (p:=fun d:Dat=>(HK d.cons s).isSome) (i:=i) (fun y hy=>by simp [hno y hy]) hd (by rw [h];rfl)
   obtain ⟨dn,dv,cs⟩:=d
   simp only at *
   have hlen:=hsl.len
   rw [AA] at hlen
   have hcell:=hsl.cell
   (repeat' (first|refine Run.ct rfl ?_|((first|refine Run.reg mixed ?_|refine Run.AE ?_)<;>try simp -implicitDefEqProofs only [Ac hlt,hix,hb,g2,hcell,hlen,go_sem])|fail))
   refine Run.BD ?_
   refine Run.BK ((fun (a0:AV) (a1:AV) (a7:AV) (a10:AV) (a11:AV) (a19:AV)=>fun (k:Nat)=>put 0 a0 (put 1 a1 (put 7 a7 (put 10 a10 (put 11 a11 (put 19 a19 (put 20 (.d (.int .i64 k)) U))))))) _ _ _ _ _ _) (fun _=>E) (fun _=>σ) (fun k=>k≤cs.length∧∀c∈cs.take k,(c.name==s)=false) (fun k=>cs.length - k) ?_ 0 ⟨by simp,by simp⟩
   rintro k ⟨hk,hnk⟩ ih2
   by_cases hkl:k < cs.length
   · obtain ⟨c,hc⟩:=BC hkl
     have hec:=M6 hc
     have hwk:=A5 (show k+1≤9000000000000000000 by omega)
     have hne:List.map Con.enc cs≠[]:=by
      intro h;rw [h] at hec;simp at hec
     cases hs:(c.name==s) with
     |true=>
      have hfin:=hat k (DX (p:=fun c:Con=>c.name==s) hnk hc hs)
      clear hat hnext ih ih2
      rcases hsl with rfl|⟨t',e',s',rfl⟩|⟨h0,_⟩
      · (repeat' (first|refine Run.ct rfl ?_|((first|refine Run.reg mixed ?_|refine Run.AE ?_|refine Run.A1 DA (AF.le_refl _) ?_)<;>try simp -implicitDefEqProofs only [Ac hkl,hix,hb,g2,hec,BM,hs,go_sem])|fail))
        rw [hfin];rfl
      · (repeat' (first|refine Run.ct rfl ?_|((first|refine Run.reg mixed ?_|refine Run.AE ?_|refine Run.A1 DA (AF.le_refl _) ?_)<;>try simp -implicitDefEqProofs only [Ac hkl,hix,hb,g2,hec,BM,hs,go_sem])|fail))
        rw [hfin];rfl
      · exact absurd h0 hne
     |false=>
      have hgo:=ih2 (k+1) ⟨by omega,Eb (p:=fun c:Con=>c.name==s) hnk hc hs⟩ (by omega)
      clear hat hnext ih ih2
      rcases hsl with rfl|⟨t',e',s',rfl⟩|⟨h0,_⟩
      · (repeat' (first|refine Run.ct rfl ?_|((first|refine Run.reg mixed ?_|refine Run.AE ?_)<;>try simp -implicitDefEqProofs only [Ac hkl,hix,hb,g2,hec,hwk,BM,hs,go_sem])|fail))
        exact hgo
      · (repeat' (first|refine Run.ct rfl ?_|((first|refine Run.reg mixed ?_|refine Run.AE ?_)<;>try simp -implicitDefEqProofs only [Ac hkl,hix,hb,g2,hec,hwk,BM,hs,go_sem])|fail))
        exact hgo
      · exact absurd h0 hne
   · rw [AK (by omega)] at hnk
     (repeat' (first|refine Run.ct rfl ?_|((first|refine Run.reg mixed ?_|refine Run.AE ?_)<;>try simp -implicitDefEqProofs only [Bi hkl,hw1,go_sem])|fail))
     refine ih (i+1) ⟨by omega,fun y hy=>?_⟩ (by omega)
     have:=hnext (by rw [← Fz,DY (p:=fun c:Con=>c.name==s) hnk]) y hy
     simpa using this
 · (repeat' (first|refine Run.ct rfl ?_|((first|refine Run.reg mixed ?_|refine Run.AE ?_|refine Run.A1 DA (AF.le_refl _) ?_)<;>try simp -implicitDefEqProofs only [Bi hlt,go_sem])|fail))
   rw [AK (by omega)] at hno
   rw [W2 hno];rfl
def Gp (dl:List Dat):List Str:=dl.flatMap fun d=>d.cons.map (·.name)
theorem Yh (l:List Con) (s:Str):(HK l s).isSome=(l.map (·.name)).contains s:=by
 rw [← GI,← Fz,← KB,List.findIdx?_map];rfl
theorem Vp (s:Str):∀dl:List Dat,(IX dl s).isSome=(Gp dl).contains s
 |[]=>rfl
 |d::l=>by
  have h1:=Yh d.cons s
  have h2:=Vp s l
  have h3:(Gp (d::l)).contains s=((d.cons.map (·.name)).contains s||(Gp l).contains s):=by
   simp only [Gp,Lb]
   rw [Af];simp only [A8,A7,DU]
  rw [h3,← h1,← h2,IX]
  cases HK d.cons s<;>simp
end Go.Ab
namespace Go.Ab
open Go.Proofs
theorem XEx.m9 {K:CV} {F:Fm} {L:Lm} {σ σ1:AF} {d:Option Nat} {e s i n n2 e2:Nat} {p:AV} {cs cs2:List AV} (hb:σ.blk i=some cs2) (h1:cs2.length=n2 * s) (hn2:n2≠0) (hbd:n+n2≤1000000000)
 (hpa:Ku σ e s p=some (n,cs,σ1)) (hnp:p.BY=true) (h:∀j,σ.blk j=none→K (Ar d (.ms j (n+n2) s e) F) L (σ1.AO j (cs++cs2))):XEx (.VA e s) [p,.ms i n2 s e2] d K F L σ:=
 ⟨by simp [hnp,aA],by cases p<;>exact ⟨rfl,cs2,n,cs,σ1,hb,h1,hn2,hbd,hpa,h⟩⟩
abbrev eD:Nat:=122
def DlX (σ0:AF) (jr:Nat) (τ:AF) (dl:List Dat) (v:AV):Prop:=(dl=[]∧v= .AZ)∨(∃jd cs,v= .ms jd dl.length 3 eD∧σ0.blk jd=none∧jd≠jr∧τ.blk jd=some cs∧H0 cs dl)
theorem DlX.dls {σ0 τ:AF} {jr:Nat} {dl:List Dat} {v:AV} (h:DlX σ0 jr τ dl v):DlS τ dl v:=by
 rcases h with h|⟨jd,cs,h1,_,_,h2,h3⟩
 · exact .inl h
 · exact .inr ⟨jd,_,cs,h1,h2,h3⟩
theorem DlX.app {σ0 τ:AF} {jr:Nat} {dl:List Dat} {v:AV} (h:DlX σ0 jr τ dl v) (hle:σ0.le τ) (hjr:τ.blk jr≠none) (row:List AV):
 ∃cs,H0 cs dl∧∀i,τ.blk i=none→∃σ1,Ku (τ.AO i row) eD 3 v=some (dl.length,cs,σ1)∧σ0.le σ1∧σ1.blk jr=τ.blk jr:=by
 have hi0:∀i,τ.blk i=none→σ0.blk i=none∧i≠jr:=fun i hi=>by
  refine ⟨?_,fun e=>hjr (e ▸ hi)⟩
  cases hc:σ0.blk i with
  |none=>rfl
  |some c=>rw [hle.blk i c hc] at hi;cases hi
 rcases h with ⟨rfl,rfl⟩|⟨jd,cs,rfl,h0,hne,hb,hr⟩
 · refine ⟨[],⟨rfl,by simp⟩,fun i hi=>⟨_,rfl,DH hle (hi0 i hi).1,?_⟩⟩
   rw [AM,if_neg (CL (hi0 i hi).2)]
 · refine ⟨cs,hr,fun i hi=>⟨(τ.AO i row).JU jd,?_,?_,?_⟩⟩
   · have hji:jd≠i:=fun e=>by rw [e,hi] at hb;cases hb
     simp [Ku,AM,hji,hb,hr.1]
   · refine ⟨fun q c hq=>?_,hle.tok,hle.gt,hle.bt⟩
     have hq1:q≠jd:=fun e=>by rw [e,h0] at hq;cases hq
     have hq2:q≠i:=fun e=>by rw [e,(hi0 i hi).1] at hq;cases hq
     simp only [AF.JU,if_neg hq1,AM,if_neg hq2]
     exact hle.blk q c hq
   · simp only [AF.JU,if_neg (CL hne),AM,if_neg (CL (hi0 i hi).2)]
structure APS (σ0:AF) (jr:Nat) (dl:List Dat) (nm:Str) (k:Int) (cv x1 x2 x3:AV) (jd:Nat) (cs:List AV) (τ:AF):Prop where
 res:τ.blk jr=some [.ms jd (dl.length+1) 3 eD,x1,x2,x3]
 nb:σ0.blk jd=none
 ne:jd≠jr
 row:τ.blk jd=some (cs++[.d (.str nm),.d (.int .i64 k),cv])
 ok:H0 cs dl
 le:σ0.le τ
theorem H0.snoc {cs:List AV} {dl:List Dat} (h:H0 cs dl) (nm:Str) (k:Int) (cv:AV) (cons:List Con) (hcv:SlV cv (cons.map Con.enc)):H0 (cs++[.d (.str nm),.d (.int .i64 k),cv]) (dl++[⟨nm,k,cons⟩]):=by
 refine ⟨by simp [h.1];omega,fun i d hd=>?_⟩
 rcases Bt i dl.length with hi|hi
 · rw [At hi] at hd
   obtain ⟨cv',h1,h2⟩:=h.2 i d hd
   refine ⟨cv',?_,h2⟩
   rw [List.drop_append_of_le_length (by rw [h.1];omega),List.take_append_of_le_length (by rw [Br,h.1];omega)]
   exact h1
 · have:i=dl.length:=by
    have:=(AR.1 hd).1
    simp at this;omega
   subst this
   rw [Aq (A0 _),Nat.sub_self] at hd
   simp only [Ks,AJ] at hd
   subst hd
   refine ⟨cv,?_,hcv⟩
   rw [← h.1,List.drop_left];rfl
theorem Lf (ds:List (Str×Nat)) (vars:List Str) (m:List TE):∀ {l:List TE} {us:List Ty},Di ds vars l= .ok us→Di ds vars (l++m)=(Di ds vars m).map (us++·)
 |[],us,h=>by
  simp only [Di,EH] at h;subst h
  simp only [Ay]
  cases Di ds vars m<;>rfl
 |t::l,us,h=>by
  rw [Di] at h
  rw [Aa,Di]
  cases ht:Hi ds vars true t with
  |error e=>rw [ht] at h;cases h
  |ok u=>
   rw [ht] at h
   simp only at h ⊢
   cases hl:Di ds vars l with
   |error e=>rw [hl] at h;cases h
   |ok ys=>
    rw [hl] at h
    simp only [CP,EH] at h
    subst h
    rw [Lf ds vars m hl]
    cases Di ds vars m<;>rfl
theorem Jz (ds:List (Str×Nat)) (vars:List Str) (m:List CE):∀ {l:List CE} {used:List Str} {us:List Con},Ej ds vars used l= .ok us→Ej ds vars used (l++m)=(Ej ds vars (used++l.map (·.name)) m).map (us++·)∧us.map (·.name)=l.map (·.name)
 |[],used,us,h=>by
  simp only [Ej,EH] at h;subst h
  simp only [Ay,AQ,Ao,and_true]
  cases Ej ds vars used m<;>rfl
 |c::l,used,us,h=>by
  rw [Ej] at h
  rw [Aa,Ej]
  split at h
  · cases h
  · rename_i hu
    rw [if_neg hu]
    cases ht:Di ds vars c.args with
    |error e=>rw [ht] at h;cases h
    |ok ts=>
     rw [ht] at h
     simp only at h ⊢
     cases hl:Ej ds vars (used++[c.name]) l with
     |error e=>rw [hl] at h;cases h
     |ok ys=>
      rw [hl] at h
      simp only [CP,EH] at h
      subst h
      obtain ⟨h1,h2⟩:=Jz ds vars m hl
      rw [h1,Ae]
      refine ⟨?_,by simp [h2]⟩
      simp only [AG,List.singleton_append]
      cases Ej ds vars (used++c.name::l.map (·.name)) m<;>rfl
end Go.Ab
namespace Go.Ab
open Go.Proofs
set_option maxRecDepth 4000 in
set_option maxHeartbeats 4000000 in
theorem XX (σ0:AF) (jr:Nat) (dl:List Dat) (hdl:dl.length≤1000) (nm:Str) (vs:List Str) (cs:List CE) (τ:AF) (dv x1 x2 x3:AV) (hb:τ.blk jr=some [dv,x1,x2,x3]) (hx:x1.BT=true∧x2.BT=true∧x3.BT=true)
 (hv:DlX σ0 jr τ dl dv) (hle:σ0.le τ) (hjr:σ0.blk jr=none) (K:CV)
 (hK:∀F' L' σ' jd cells,ME [0,3] F'=put 0 (.gp jr 0) (put 3 (.lp 3 0) U)→IS [0,3] L'=Az 3 [.d (.str nm),.d (.sl (vs.map Aw)),.d (.sl (cs.map CE.enc))] E→APS σ0 jr dl nm vs.length .AZ x1 x2 x3 jd cells σ'→K F' L' σ'):
 XT Tryz.prog K false (.one ⟨some 26,.mv (.t 0),none⟩ (.one ⟨some 27,.mv (.t 0),none⟩ (.one ⟨some 28,.nck (.t 27),none⟩ (.one ⟨some 29,.fld (.t 28) 0,none⟩ (.one ⟨some 31,.fld (.t 3) 0,none⟩ (.one ⟨some 32,.ldl (.t 31) none,none⟩ (.one ⟨some 33,.fld (.t 3) 1,none⟩ (.one ⟨some 34,.ldl (.t 33) none,none⟩ (.one ⟨some 35,.len (.t 34),none⟩ (.one ⟨some 36,.bld [(.d (.str [])),(.d (.int .i64 0)),.AZ] [(0,1,(.t 32)),(1,1,(.t 35))],none⟩ (.alt ⟨some 30,.ld (.t 29) none,none⟩ (.one ⟨some 37,.QY 122 3 1 [(.d (.str [])),(.d (.int .i64 0)),.AZ] [(0,3,(.t 36))],none⟩ (.one ⟨some 38,.ex (.VA 122 3) [(.t 30),(.t 37)],none⟩ (.one ⟨some 39,.nck (.t 26),none⟩ (.one ⟨some 40,.fld (.t 39) 0,none⟩ (.one ⟨none,.st (.t 40) (.t 38) 1,none⟩ .done))))) (.alt ⟨some 37,.QY 122 3 1 [(.d (.str [])),(.d (.int .i64 0)),.AZ] [(0,3,(.t 36))],none⟩ (.one ⟨some 30,.ld (.t 29) none,none⟩ (.one ⟨some 38,.ex (.VA 122 3) [(.t 30),(.t 37)],none⟩ (.one ⟨some 39,.nck (.t 26),none⟩ (.one ⟨some 40,.fld (.t 39) 0,none⟩ (.one ⟨none,.st (.t 40) (.t 38) 1,none⟩ .done))))) .done)))))))))))) (put 0 (.gp jr 0) (put 3 (.lp 3 0) (put 25 (.d (.bool false)) U))) (Az 3 [.d (.str nm),.d (.sl (vs.map Aw)),.d (.sl (cs.map CE.enc))] E) τ:=by
 have hcell:dv.BT=true:=by rcases hv with ⟨_,rfl⟩|⟨jd,cs,rfl,_⟩<;>rfl
 have hnl:dv.BY=true:=by rcases hv with ⟨_,rfl⟩|⟨jd,cs,rfl,_⟩<;>rfl
 have hjn:∀i,τ.blk i=none→i≠jr:=fun i hi e=>by rw [e,hb] at hi;cases hi
 have hi0:∀i,τ.blk i=none→σ0.blk i=none:=fun i hi=>by
  cases hc:σ0.blk i with
  |none=>rfl
  |some c=>rw [hle.blk i c hc] at hi;cases hi
 obtain ⟨cells,hrows,happ⟩:=hv.app hle (by rw [hb];simp) [.d (.str nm),.d (.int .i64 (vs.length:Int)),.AZ]
 -- what both orders end with
 have hend:∀(i:Nat) (σ1:AF) (j:Nat),τ.blk i=none→Ku (τ.AO i [.d (.str nm),.d (.int .i64 (vs.length:Int)),.AZ]) eD 3 dv=some (dl.length,cells,σ1)→σ0.le σ1→σ1.blk jr=τ.blk jr→(τ.AO i [.d (.str nm),.d (.int .i64 (vs.length:Int)),.AZ]).blk j=none→
  APS σ0 jr dl nm vs.length .AZ x1 x2 x3 j cells ((σ1.AO j (cells++[.d (.str nm),.d (.int .i64 (vs.length:Int)),.AZ])).AO jr [.ms j (dl.length+1) 3 eD,x1,x2,x3]):=fun i σ1 j hi _ hl1 hb1 hj=>by
  have hji:j≠i:=fun e=>by rw [e,AM,if_pos rfl] at hj;cases hj
  rw [AM,if_neg hji] at hj
  have hjr':=hjn j hj
  refine ⟨by rw [AM,if_pos rfl],hi0 j hj,hjr',by rw [AM,if_neg hjr',AM,if_pos rfl],hrows,DH (DH hl1 (hi0 j hj)) hjr⟩
 simp -implicitDefEqProofs only [hb,hcell,AA,go_sem]
 refine ⟨TV.mk (fun i hi=>?_),TV.mk (fun i hi=>?_)⟩
 · obtain ⟨σ1,ha,hl1,hb1⟩:=happ i hi
   have hij:=hjn i hi
   have hji:(jr=i)=False:=by simp only [eq_iff_iff,iff_false];exact fun e=>hij e.symm
   simp -implicitDefEqProofs only [hb,hcell,hji,go_sem]
   refine XEx.m9 (cs2:=[.d (.str nm),.d (.int .i64 (vs.length:Int)),.AZ]) (by simp only [AM,if_true]) rfl (by simp) (by omega) ha hnl (fun j hj=>?_)
   have hjj:(jr=j)=False:=by
    simp only [eq_iff_iff,iff_false]
    intro e
    rw [← e,AM,if_neg (fun e=>hij e.symm),hb] at hj;cases hj
   have hfin:=hend i σ1 j hi ha hl1 hb1 hj
   rw [hb] at hb1
   simp -implicitDefEqProofs only [hjj,hb1,go_sem]
   exact hK _ _ _ j cells (by simp -implicitDefEqProofs only [go_sem]) (by simp -implicitDefEqProofs only [go_sem]) hfin
 · obtain ⟨σ1,ha,hl1,hb1⟩:=happ i hi
   have hij:=hjn i hi
   have hji:(jr=i)=False:=by simp only [eq_iff_iff,iff_false];exact fun e=>hij e.symm
   simp -implicitDefEqProofs only [hb,hcell,hji,go_sem]
   refine XEx.m9 (cs2:=[.d (.str nm),.d (.int .i64 (vs.length:Int)),.AZ]) (by simp only [AM,if_true]) rfl (by simp) (by omega) ha hnl (fun j hj=>?_)
   have hjj:(jr=j)=False:=by
    simp only [eq_iff_iff,iff_false]
    intro e
    rw [← e,AM,if_neg (fun e=>hij e.symm),hb] at hj;cases hj
   have hfin:=hend i σ1 j hi ha hl1 hb1 hj
   rw [hb] at hb1
   simp -implicitDefEqProofs only [hjj,hb1,go_sem]
   exact hK _ _ _ j cells (by simp -implicitDefEqProofs only [go_sem]) (by simp -implicitDefEqProofs only [go_sem]) hfin
end Go.Ab
namespace Go.Ab
open Go.Proofs
def DQ (σ0:AF) (jr:Nat) (dl:List Dat) (r:Except Int Dat) (v:AV) (σ':AF):Prop:=match r with
 | .error e=>v= .d (.int .i64 e)∧e≠0∧σ0.le σ'
 | .ok x=>v= .d (.int .i64 0)∧σ0.le σ'∧∃dv y1 y2 y3,σ'.blk jr=some [dv,y1,y2,y3]∧(y1.BT=true∧y2.BT=true∧y3.BT=true)∧DlX σ0 jr σ' (dl++[x]) dv
theorem XH {ds:List (Str×Nat)} {vars:List Str}:∀ {l:List TE} {e:Int},Di ds vars l= .error e→e≠0
 |[],e,h=>by cases h
 |t::l,e,h=>by
  rw [Di] at h
  cases ht:Hi ds vars true t with
  |error e'=>rw [ht] at h;cases h;exact Qy t true _ ht
  |ok u=>
   rw [ht] at h
   cases hl:Di ds vars l with
   |error e'=>rw [hl] at h;cases h;exact XH hl
   |ok us=>rw [hl] at h;cases h
theorem dQ (l m:List Dat):Gp (l++m)=Gp l++Gp m:=by simp [Gp]
abbrev eC:Nat:=124
def m4 (σ0:AF) (jr:Nat) (dl:List Dat) (nm:Str) (vs:List Str) (cs:List CE) (jd:Nat) (cells:List AV) (p:Nat) (us:List Con) (F':Fm) (L':Lm) (σ':AF):Prop:=
 ME [0,5,52,53,54] F'=put 0 (.gp jr 0) (put 5 (.d (.int .i64 (dl.length:Int))) (put 52 (.d (.sl (cs.map CE.enc))) (put 53 (.d (.int .i64 cs.length)) (put 54 (.d (.int .i64 p)) U))))∧IS [0,5,52,53,54] L'=E∧
  ∃cv',APS σ0 jr dl nm vs.length cv' (.d (.str nm)) (.d (.sl (vs.map Aw))) (.d (.sl (cs.map CE.enc))) jd cells σ'∧Dh σ0 eC 2 (us.map Con.enc) cv' σ'
theorem Yj (σ0:AF) (jr:Nat) (dl:List Dat) (hdl:dl.length≤1000) (hnn:∀d∈dl,0≤d.vars) (hdt:QS dl) (nm:Str) (vs:List Str) (cs:List CE) (hcs:cs.length≤1000) (hsm:∀c∈cs,Oj c∧c.args.length≤1000)
 (τ:AF) (jd:Nat) (cells:List AV) (hjr:σ0.blk jr=none) (haps:APS σ0 jr dl nm vs.length .AZ (.d (.str nm)) (.d (.sl (vs.map Aw))) (.d (.sl (cs.map CE.enc))) jd cells τ):
 Run CJ (DQ σ0 jr dl ((Ej (EZ dl++[(nm,vs.length)]) vs (Gp dl) cs).map (⟨nm,vs.length,·⟩))) [.code (.loop Fc),.blk 0,.code (.seq (.reg [⟨some 4,.mv (.c (.d (.int .i64 0))),none⟩] [4]) .ret)]
  (put 0 (.gp jr 0) (put 5 (.d (.int .i64 (dl.length:Int))) (put 52 (.d (.sl (cs.map CE.enc))) (put 53 (.d (.int .i64 cs.length)) (put 54 (.d (.int .i64 0)) U))))) E τ:=by
 generalize hQ:DQ σ0 jr dl ((Ej (EZ dl++[(nm,vs.length)]) vs (Gp dl) cs).map (⟨nm,vs.length,·⟩))=Q
 have herr:∀(e:Int) (σ':AF),Ej (EZ dl++[(nm,vs.length)]) vs (Gp dl) cs= .error e→e≠0→σ0.le σ'→Q (.d (.int .i64 e)) σ':=fun e σ' h hne hl=>by
  rw [← hQ,h];exact ⟨rfl,hne,hl⟩
 have hfin:∀(us:List Con) (cv:AV) (σ':AF),Ej (EZ dl++[(nm,vs.length)]) vs (Gp dl) cs= .ok us→SlV cv (us.map Con.enc)→APS σ0 jr dl nm vs.length cv (.d (.str nm)) (.d (.sl (vs.map Aw))) (.d (.sl (cs.map CE.enc))) jd cells σ'→Q (.d (.int .i64 0)) σ':=fun us cv σ' h hsl ha=>by
  rw [← hQ,h]
  refine ⟨rfl,ha.le,_,_,_,_,ha.res,⟨rfl,rfl,rfl⟩,.inr ⟨jd,_,by rw [AS];rfl,ha.nb,ha.ne,ha.row,ha.ok.snoc nm _ cv us hsl⟩⟩
 clear hQ
 refine Run.BD ?_
 refine Run.BK ((fun (a0:AV) (a5:AV) (a52:AV) (a53:AV)=>fun (y:Nat×List Con×AV×AF)=>put 0 a0 (put 5 a5 (put 52 a52 (put 53 a53 (put 54 (.d (.int .i64 y.1)) U))))) _ _ _ _) (fun _=>E) (fun y=>y.2.2.2)
  (fun y=>y.1≤cs.length∧y.2.1.length=y.1∧Ej (EZ dl++[(nm,vs.length)]) vs (Gp dl) (cs.take y.1)= .ok y.2.1∧APS σ0 jr dl nm vs.length y.2.2.1 (.d (.str nm)) (.d (.sl (vs.map Aw))) (.d (.sl (cs.map CE.enc))) jd cells y.2.2.2∧Dh σ0 eC 2 (y.2.1.map Con.enc) y.2.2.1 y.2.2.2)
  (fun y=>cs.length - y.1) ?_ (0,[],.AZ,τ) ⟨by simp,rfl,rfl,haps,⟨⟨τ,rfl,haps.le⟩,haps.le,rfl,rfl,rfl,rfl,fun _=>rfl,rfl,rfl⟩⟩
 rintro ⟨p,us,cv,τ1⟩ ⟨hp,hlu,hok,haps,hown⟩ ih
 simp only at hp hlu hok haps hown
 by_cases hlt:p < cs.length
 · obtain ⟨c,hc⟩:=BC hlt
   have he:=BA (enc:=CE.enc) hc
   have hw1:=A5 (show p+1≤9000000000000000000 by omega)
   obtain ⟨hall,hnames⟩:=Jz (EZ dl++[(nm,vs.length)]) vs (cs.drop p) hok
   rw [A3,B3 hc] at hall
   obtain ⟨hsn,_⟩:=Jz (EZ dl++[(nm,vs.length)]) vs [c] hok
   rw [← BH hc] at hsn
   obtain ⟨hcsm,hcal⟩:=hsm c (AT hc)
   -- the rows with the partial declaration
   have hrows:=haps.ok.snoc nm (vs.length:Int) cv us hown.slv
   have hlp:(dl++[(⟨nm,(vs.length:Int),us⟩:Dat)]).length=dl.length+1:=by simp
   have husl:us.length≤1000000:=by omega
   have hdtp:QS (dl++[⟨nm,(vs.length:Int),us⟩]):=fun d hd=>by
    rcases A7.1 hd with h|h
    · exact hdt d h
    · simp only [Bd] at h;subst h;exact husl
   have hnnp:∀d∈dl++[(⟨nm,(vs.length:Int),us⟩:Dat)],0≤d.vars:=fun d hd=>by
    rcases A7.1 hd with h|h
    · exact hnn d h
    · simp only [Bd] at h;subst h;simp
   have hdsp:EZ (dl++[⟨nm,(vs.length:Int),us⟩])=EZ dl++[(nm,vs.length)]:=by simp [EZ]
   have hudp:Gp (dl++[⟨nm,(vs.length:Int),us⟩])=Gp dl++(cs.take p).map (·.name):=by
    rw [dQ,← hnames];simp [Gp]
   have hctr:=QR (dl++[⟨nm,(vs.length:Int),us⟩]) hdtp (by rw [hlp];omega) jd eD _ c.name τ1 haps.row hrows
   have hcu:=Vp c.name (dl++[⟨nm,(vs.length:Int),us⟩])
   rw [hudp] at hcu
   rw [hlp] at hctr
   have hRB:RB τ1 jr (dl++[⟨nm,(vs.length:Int),us⟩]) nm vs cs:=⟨_,haps.res,.inr ⟨jd,eD,_,by rw [hlp],haps.row,hrows⟩⟩
   have hres:=haps.res
   generalize hdlp:dl++[(⟨nm,(vs.length:Int),us⟩:Dat)]=dlp at *
   rw [Ej] at hall hsn
   obtain ⟨cn,ar⟩:=c
   simp only [CE.enc] at he hcu hall hsn hctr hcal hcsm
   cases hct:IX dlp cn with
   |some x=>
    rw [hct] at hctr hcu
    simp only [R4,Bn] at hctr hcu
    rw [← hcu,if_pos rfl] at hall
    (repeat' (first|refine Run.ct rfl ?_|((first|refine Run.reg mixed ?_|refine Run.AE ?_|refine Run.Fp CG (AF.le_refl _) ?_|refine AI.det (hctr) ?_)<;>try simp -implicitDefEqProofs only [Ac hlt,he,hres,go_sem])|fail))
    exact herr 4 _ hall (by decide) haps.le
   |none=>
   rw [hct] at hctr hcu
   simp only [R4,CC] at hctr hcu
   rw [← hcu,if_neg (by simp)] at hall hsn
   (repeat' (first|refine Run.ct rfl ?_|((first|refine Run.reg mixed ?_|refine Run.AE ?_|refine AI.det (hctr) ?_)<;>try simp -implicitDefEqProofs only [Ac hlt,he,hres,AA,go_sem])|fail))
   refine Run.BD ?_
   refine Run.BK ((fun (a0:AV) (a5:AV) (a11:AV) (a52:AV) (a53:AV) (a54:AV) (a74:AV) (a75:AV)=>fun (z:Nat×List Ty×AV×AF)=>put 0 a0 (put 5 a5 (put 11 a11 (put 52 a52 (put 53 a53 (put 54 a54 (put 74 a74 (put 75 a75 (put 76 (.d (.int .i64 z.1)) U))))))))) _ _ _ _ _ _ _ _) (fun z=>Az 11 [.d (.str cn),z.2.2.1] E) (fun z=>z.2.2.2)
    (fun z=>z.1≤ar.length∧z.2.1.length=z.1∧Di (EZ dl++[(nm,vs.length)]) vs (ar.take z.1)= .ok z.2.1∧Dh τ1 57 3 (z.2.1.map Ty.enc) z.2.2.1 z.2.2.2)
    (fun z=>ar.length - z.1) ?_ (0,[],.AZ,τ1) ⟨by simp,rfl,rfl,Dh.nil _ _ _⟩
   rintro ⟨a,ts,uv,τ2⟩ ⟨ha,hlt',hoka,ho⟩ ih2
   simp only at ha hlt' hoka ho
   by_cases hal:a < ar.length
   · obtain ⟨x,hx⟩:=BC hal
     have hex:=BA (enc:=TE.enc) hx
     have hwa:=A5 (show a+1≤9000000000000000000 by omega)
     have hxs:=hcsm x (AT hx)
     have hra:=Z0 jr dlp (by omega) hnnp nm vs cs x.size x true τ2 (A0 _) hxs (hRB.le ho.le)
     rw [hdsp] at hra
     have hall2:Di (EZ dl++[(nm,vs.length)]) vs ar=(Di (EZ dl++[(nm,vs.length)]) vs (x::ar.drop (a+1))).map (ts++·):=by
      conv=>lhs;rw [← A3 a ar,B3 hx]
      exact Lf _ _ _ hoka
     have hsn2:Di (EZ dl++[(nm,vs.length)]) vs (ar.take (a+1))=(Di (EZ dl++[(nm,vs.length)]) vs [x]).map (ts++·):=by
      rw [BH hx];exact Lf _ _ _ hoka
     rw [Di] at hall2
     rw [Di,Di] at hsn2
     cases hr:Hi (EZ dl++[(nm,vs.length)]) vs true x with
     |error e=>
      rw [hr] at hra hall2
      simp only [CP] at hall2
      rw [hall2] at hall
      have hne:=Qy x true e hr
      have hne':(e != 0)=true:=by simpa using hne
      obtain ⟨xk,xn,xl⟩:=x
      simp only [TE.A4,teA,AG,AQ,OR] at hex hra
      have hxe:=herr e τ2 hall hne (AF.le_trans haps.le ho.le)
      (repeat' (first|refine Run.ct rfl ?_|((first|refine Run.reg mixed ?_|refine Run.AE ?_|refine Run.Fp CG (AF.le_refl _) ?_|refine AI.det (hra) ?_)<;>try simp -implicitDefEqProofs only [Ac hal,hex,hne',ho.cell,go_sem])|fail))
      exact hxe
     |ok u=>
      rw [hr] at hra hsn2
      simp only [CP] at hsn2
      obtain ⟨uk,un,ul⟩:=u
      obtain ⟨xk,xn,xl⟩:=x
      simp only [TE.A4,teA,AG,AQ,OR,tyA,Ty.enc] at hex hra
      have h00:((0:Int) != 0)=false:=by decide
      (repeat' (first|refine Run.ct rfl ?_|((first|refine Run.reg mixed ?_|refine Run.AE ?_|(refine EY.own ho rfl (by simp) (by simp;omega) (by decide) (fun v2 σ2 ho2 hbk=>?_))|refine AI.det (hra) ?_)<;>try simp -implicitDefEqProofs only [Ac hal,hex,hwa,h00,ho.cell,ho.cells,ho.BY,ho.BO,go_sem])|fail))
      simp -implicitDefEqProofs only [ho2.cells,ho2.cell,go_sem]
      (repeat' (first|refine Run.ct rfl ?_|((first|refine Run.reg mixed ?_|refine Run.AE ?_)<;>try simp -implicitDefEqProofs only [hwa,ho2.cell,ho2.cells,go_sem])|fail))
      exact ih2 (a+1,ts++[.mk uk un ul],v2,σ2) ⟨by simp only;omega,by simp [hlt'],hsn2,by simpa [Ty.enc] using ho2⟩ (by simp only;omega)
   · rw [AK (by omega)] at hoka
     rw [hoka] at hall hsn
     simp only [Ej,CP] at hall hsn
     have haps2:APS σ0 jr dl nm vs.length cv (.d (.str nm)) (.d (.sl (vs.map Aw))) (.d (.sl (cs.map CE.enc))) jd cells τ2:=⟨ho.le.blk _ _ hres,haps.nb,haps.ne,ho.le.blk _ _ haps.row,haps.ok,AF.le_trans haps.le ho.le⟩
     have hown2:=hown.up ho.le
     (repeat' (first|refine Run.ct rfl ?_|((first|refine Run.reg mixed ?_|refine Run.AE ?_)<;>try simp -implicitDefEqProofs only [Bi hal,go_sem])|fail))
     have hcl:=haps.ok.1
     have hixl:((dl.length:Int) < ((dl.length+1:Nat):Int))=True:=by simp only [eq_iff_iff,iff_true];omega
     have hget:(cells++[AV.d (.str nm),.d (.int .i64 (vs.length:Int)),cv])[dl.length * 3+2]?=some cv:=by
      rw [Aq (by omega),hcl,Kt];rfl
     have htk:DJ (dl.length * 3+2) (cells++[AV.d (.str nm),.d (.int .i64 (vs.length:Int)),cv])=cells++[AV.d (.str nm),.d (.int .i64 (vs.length:Int))]:=by
      rw [List.take_append,AK (by omega),hcl,Kt];rfl
     have hdr:Cq (dl.length * 3+2+1) (cells++[AV.d (.str nm),.d (.int .i64 (vs.length:Int)),cv])=[]:=by
      rw [HS (by simp;omega)]
     have hlen3:(dl.length * 3+2+1≤(cells++[AV.d (.str nm),.d (.int .i64 (vs.length:Int)),cv]).length)=True:=by simp;omega
     have hend:∀(v3:AV) (σ3:AF) (F':Fm) (L':Lm),ME [0,5,52,53,54] F'=put 0 (.gp jr 0) (put 5 (.d (.int .i64 (dl.length:Int))) (put 52 (.d (.sl (cs.map CE.enc))) (put 53 (.d (.int .i64 cs.length)) (put 54 (.d (.int .i64 p)) U))))→IS [0,5,52,53,54] L'=E→
      Dh σ0 eC 2 (us.map Con.enc++[[.str cn,.sl (ts.map Ty.enc)]]) v3 σ3→σ3.blk jr=some [.ms jd (dl.length+1) 3 eD,.d (.str nm),.d (.sl (vs.map Aw)),.d (.sl (cs.map CE.enc))]→
      m4 σ0 jr dl nm vs cs jd cells p (us++[(⟨cn,ts⟩:Con)]) F' L' (σ3.AO jd (cells++[AV.d (.str nm),.d (.int .i64 (vs.length:Int)),v3])):=fun v3 σ3 F' L' h1 h2 ho3 hr3=>by
      refine ⟨h1,h2,v3,⟨by rw [AM,if_neg (CL haps.ne)];exact hr3,haps.nb,haps.ne,by rw [AM,if_pos rfl],haps.ok,DH ho3.le haps.nb⟩,?_⟩
      have:=ho3.set haps.nb (cells++[AV.d (.str nm),.d (.int .i64 (vs.length:Int)),v3])
      simpa [Con.enc,Ty.E8] using this
     refine Run.aF mixed (m4 σ0 jr dl nm vs cs jd cells p (us++[(⟨cn,ts⟩:Con)])) ?_ ?_
     · simp -implicitDefEqProofs only [haps2.res,haps2.row,hixl,hget,hown2.cell,hown.cell,ho.dv,ho.cell,go_sem]
       refine ⟨?_,?_⟩
       · refine EY.own hown2 rfl (by simp) (by simp;omega) (by decide) (fun v3 σ3 ho3 hbk3=>?_)
         have hb3:=(hbk3 jd).trans haps2.row
         have hr3:=(hbk3 jr).trans haps2.res
         simp -implicitDefEqProofs only [hb3,hr3,hixl,ho3.cells,ho3.cell,hlen3,htk,hdr,go_sem]
         rw [Ae]
         refine hend v3 σ3 _ _ ?_ ?_ ho3 hr3
         · simp -implicitDefEqProofs only [go_sem]
         · simp -implicitDefEqProofs only [go_sem]
       · refine EY.own hown2 rfl (by simp) (by simp;omega) (by decide) (fun v3 σ3 ho3 hbk3=>?_)
         have hb3:=(hbk3 jd).trans haps2.row
         have hr3:=(hbk3 jr).trans haps2.res
         simp -implicitDefEqProofs only [hb3,hr3,hixl,ho3.cells,ho3.cell,hlen3,htk,hdr,go_sem]
         rw [Ae]
         refine hend v3 σ3 _ _ ?_ ?_ ho3 hr3
         · simp -implicitDefEqProofs only [go_sem]
         · simp -implicitDefEqProofs only [go_sem]
     · rintro F' L' σ' ⟨h1,h2,cv',h3,h4⟩
       rw [h1,h2]
       (repeat' (first|refine Run.ct rfl ?_|((first|refine Run.reg mixed ?_|refine Run.AE ?_)<;>try simp -implicitDefEqProofs only [hw1,go_sem])|fail))
       exact ih (p+1,us++[(⟨cn,ts⟩:Con)],cv',σ') ⟨by simp only;omega,by simp [hlu],hsn,h3,h4⟩ (by simp only;omega)
 · rw [AK (by omega)] at hok
   (repeat' (first|refine Run.ct rfl ?_|((first|refine Run.reg mixed ?_|refine Run.AE ?_|refine Run.Fp CG (AF.le_refl _) ?_)<;>try simp -implicitDefEqProofs only [Bi hlt,go_sem])|fail))
   exact hfin us cv _ hok hown.slv haps
end Go.Ab
