/- Lists that the parser builds: rows that it owns. Lists of the parser: items, listed, closed, option. Conditions: none. -/
import Derived.Test.YtifplkldbbcldaaGreatDoorXSx
set_option linter.unusedSimpArgs false
set_option linter.unusedVariables false
set_option maxRecDepth 4000
set_option maxHeartbeats 8000000
open Nat renaming le_trans→Ay,le_refl→A4
open List renaming length_append→AA,length_cons→AG,length_nil→AI,map_cons→AB,map_nil→AE,length_pos_iff→A5,map_append→Ax
namespace Go.Ab
open Go.Proofs
variable {P:Program}
theorem Vv {σ τ:AK} (h:σ.le τ) {j:Nat} (hj:σ.blk j=none) (cs:List AV):σ.le (τ.AH j cs):=
 ⟨fun i c hi=>by
   have:i≠j:=fun e=>by rw [e,hj] at hi;cases hi
   rw [AZ,if_neg this];exact h.blk i c hi,h.tok,h.gt,h.bt⟩
theorem Z6 (σ:AK) (i:Nat) (cs:List AV):(σ.DB i).le (σ.AH i cs):=⟨fun j c hj=>by
 have:j≠i:=fun e=>by rw [e] at hj;simp [AK.DB] at hj
 rw [AZ,if_neg this];simpa [AK.DB,this] using hj,fun _ h=>h,rfl,fun _ _ h=>h⟩
theorem Gc (σ:AK) (i:Nat):(σ.DB i).blk i=none:=by simp [AK.DB]
theorem xB {σ τ:AK} {i:Nat} {cs:List AV} (h:(σ.DB i).le τ) (hb:τ.blk i=some cs):(σ.AH i cs).le τ:=
 ⟨fun j c hj=>by
   rw [AZ] at hj
   split at hj
   · rename_i e;subst e;cases hj;exact hb
   · rename_i e;exact h.blk j c (by simpa [AK.DB,e] using hj),h.tok,h.gt,h.bt⟩
theorem tO {σ σ1:AK} {e s:Nat} {v:AV} {rows:List (List DV)} (h:QA σ e s v=some (rows,σ1)):σ1.blk=σ.blk:=by
 unfold QA at h
 split at h
 · cases h;rfl
 · split at h
   · cases h;rfl
   · cases h
 · cases h
theorem Cg.mono {σ σ' τ:AK} {e s:Nat} {rows:List (List DV)} {v:AV} (h:Cg σ e s rows v τ) (hl:σ'.le σ):Cg σ' e s rows v τ:=by
 obtain ⟨σ1,ha,hle⟩:=h.app
 exact ⟨⟨σ1,ha,AK.le_trans hl hle⟩,AK.le_trans hl h.le,h.plain,h.len,h.cell,h.BL,h.DF,h.dv,h.cells⟩
theorem Cg.Yg {σ τ:AK} {e s:Nat} {rows:List (List DV)} {v:AV} (h:Cg σ e s rows v τ) {j:Nat} (hj:σ.blk j=none) (cs:List AV):Cg σ e s rows v (τ.AH j cs):=by
 obtain ⟨σ1,ha,hle⟩:=h.app
 refine ⟨?_,Vv h.le hj cs,h.plain,h.len,h.cell,h.BL,h.DF,h.dv,h.cells⟩
 unfold QA at ha ⊢
 split at ha
 · cases ha
   exact ⟨_,rfl,Vv hle hj cs⟩
 · rename_i t e' s' rows'
   split at ha
   · rename_i hc
     cases ha
     exact ⟨(τ.AH j cs).FL t,if_pos hc,Vv hle hj cs⟩
   · cases ha
 · cases ha
theorem Cg.put {σ τ:AK} {e s i:Nat} {cs:List AV} {rows:List (List DV)} {v:AV} (h:Cg (σ.DB i) e s rows v τ) (hb:τ.blk i=some cs):Cg (σ.AH i cs) e s rows v τ:=by
 obtain ⟨σ1,ha,hle⟩:=h.app
 exact ⟨⟨σ1,ha,xB hle (by rw [tO ha];exact hb)⟩,xB h.le hb,h.plain,h.len,h.cell,h.BL,h.DF,h.dv,h.cells⟩
theorem AP.vY {f:FuncId} {args:List AV} {σ σ1:AK} {e s:Nat} {rows:List (List DV)} (h:AP P f args σ (fun v σ'=>Cg σ1 e s rows v σ')):AP P f args σ (fun v σ'=>v= .d (.sl rows)∧σ'=σ1):=
 fun base g Pr w0 w vs hr hv=>(h base g Pr w0 w vs hr hv).mono fun _ _ ⟨v,_,g',_,a,b,c,d,e,q⟩=>⟨v,.d (.sl rows),g',σ1,a,by have:=b.plain;rwa [q.plain] at this,c.less q.le,d,e,rfl,rfl⟩
structure LS (σ:AK) (i:Nat) (L:List Tok) (s:PSt) (e z:Nat) (rows:List (List DV)) (v:AV) (τ:AK):Prop where
 own:Cg (σ.DB i) e z rows v τ
 blk:τ.blk i=some (psA L s)
theorem LS.step {σ τ:AK} {i:Nat} {L:List Tok} {s:PSt} {e z:Nat} {rows:List (List DV)} {v:AV} (h:LS σ i L s e z rows v τ) (s':PSt):LS σ i L s' e z rows v (τ.AH i (psA L s')):=
 ⟨h.own.Yg (Gc σ i) _,AX⟩
theorem LS.fin {σ τ:AK} {i:Nat} {L:List Tok} {s:PSt} {e z:Nat} {rows:List (List DV)} {v:AV} (h:LS σ i L s e z rows v τ):Cg (σ.AH i (psA L s)) e z rows v τ:=h.own.put h.blk
theorem LS.le {σ τ:AK} {i:Nat} {L:List Tok} {s:PSt} {e z:Nat} {rows:List (List DV)} {v:AV} (h:LS σ i L s e z rows v τ):(σ.AH i (psA L s)).le τ:=h.fin.le
theorem LS.of {σ τ:AK} {i:Nat} {L:List Tok} {s:PSt} {e z:Nat} {rows:List (List DV)} {v:AV} (h:Cg (σ.AH i (psA L s)) e z rows v τ):LS σ i L s e z rows v τ:=
 ⟨h.mono (Z6 σ i _),h.le.blk i _ AX⟩
theorem LS.lit {σ:AK} {i:Nat} {L:List Tok} {s:PSt} {e z t:Nat} {rows:List (List DV)} (ht:σ.tok t=false):LS σ i L s e z rows (.own t e z rows) ((σ.AH i (psA L s)).CO t):=
 ⟨Cg.own (Z6 σ i _) (σ':=σ) ⟨fun j c hj=>by
   have:j≠i:=fun e=>by rw [e] at hj;simp [AK.DB] at hj
   simpa [AK.DB,this] using hj,fun _ h=>h,rfl,fun _ _ h=>h⟩ ht,by rw [Ep,AZ,if_pos rfl]⟩
theorem LS.gt {σ τ:AK} {i:Nat} {L:List Tok} {s:PSt} {e z:Nat} {rows:List (List DV)} {v:AV} (h:LS σ i L s e z rows v τ) (hg:ZG σ):ZG τ:=by
 obtain ⟨te,pe,he⟩:=hg
 refine ⟨te,pe,?_⟩
 rw [← h.own.le.gt];exact he
theorem LS.dF {σ:AK} {i:Nat} {L:List Tok} {s:PSt} {e z t:Nat} {rows:List (List DV)} (ht:(σ.AH i (psA L s)).tok t=false):LS σ i L s e z rows (.own t e z rows) ((σ.AH i (psA L s)).CO t):=LS.lit (σ:=σ) ht
theorem LS.vL {σ:AK} {i:Nat} {L:List Tok} {s:PSt} {e z t:Nat} {rows:List (List DV)} (ht:(σ.AH i (psA L s)).tok t=false) (s':PSt):LS σ i L s' e z rows (.own t e z rows) (((σ.AH i (psA L s)).CO t).AH i (psA L s')):=(LS.dF ht).step s'
theorem LS.tok {σ τ:AK} {i:Nat} {L:List Tok} {s:PSt} {e z:Nat} {rows:List (List DV)} {v:AV} (h:LS σ i L s e z rows v τ) {F:Fm} {Lm0:Lm} {K:Cd} {d:Option Nat} {bytes:Nat} {x:AV} {srows:List (List DV)} (h2:x.rows=some srows) (h3:∀r∈srows,r.length=z) (h4:rows.length+srows.length≤1000000000) (hb:bytes≤10000)
 (hk:∀v' τ',LS σ i L s e z (rows++srows) v' τ'→K (At d v' F) Lm0 τ'):JJ e z bytes v x d K F Lm0 τ:=
 JJ.own h.own h2 h3 h4 hb (fun v' τ' ho hbk=>hk v' τ' ⟨ho,by rw [hbk];exact h.blk⟩)
def PCo {α:Type} (fid:FuncId) (args:List AV) (i:Nat) (L:List Tok) (n:Nat) (m:PM (List α)) (e z:Nat) (enc:α→List DV):Prop:=
 ∀(σ:AK) (s:PSt),ZG σ→POk L s→s.r.length≤n→σ.blk i=some (psA L s)→AP Tryz.prog fid args σ (fun v σ'=>Cg (σ.AH i (psA L (m.run s).2)) e z ((m.run s).1.map enc) v σ')
theorem PCo.pc {α:Type} {fid:FuncId} {args:List AV} {i:Nat} {L:List Tok} {n:Nat} {m:PM (List α)} {e z:Nat} {enc:α→List DV} (h:PCo fid args i L n m e z enc):PC fid args i L n m (fun l=>.d (.sl (l.map enc))):=fun σ s hg h1 h2 h3=>(h σ s hg h1 h2 h3).vY
theorem PCo.mono {α:Type} {fid:FuncId} {args:List AV} {i:Nat} {L:List Tok} {n k:Nat} {m:PM (List α)} {e z:Nat} {enc:α→List DV} (h:PCo fid args i L n m e z enc) (hk:k≤n):PCo fid args i L k m e z enc:=fun σ s hg h1 h2 h3=>h σ s hg h1 (Ay h2 hk) h3
theorem PV {α:Type} {read:PM α} {t:Str} {ht:t≠[]} {n:Nat} {l:List α} {s:PSt} (hc:(s.hd.text==t)=true):(Bp read t ht (n+1) l).run s=(Bp read t ht n (l++[(read.run s.adv).1])).run (read.run s.adv).2:=if_pos hc
theorem PU {α:Type} {read:PM α} {t:Str} {ht:t≠[]} {n:Nat} {l:List α} {s:PSt} (hc:(s.hd.text==t)=false):(Bp read t ht (n+1) l).run s=(l,s):=if_neg (by rw [hc];decide)
theorem Zr {α:Type} {read:PM α} {t:Str} {ht:t≠[]}:∀(n:Nat) (l:List α) (s:PSt),WF s.r→((Bp read t ht n l).run s).1.length+((Bp read t ht n l).run s).2.r.length≤l.length+s.r.length
 |0,l,s,_=>A4 _
 |n+1,l,s,hw=>by
  cases hc:s.hd.text==t with
  |false=>rw [PU hc];exact A4 _
  |true=>
   rw [PV hc]
   have hk:s.hd.text≠[]:=by rw [beq_iff_eq] at hc;rw [hc];exact ht
   have hw1:=(MP hw (.inr hk)).1
   have h1:=read.le hw1
   have h2:=BW hw
   have h3:=Zr (read:=read) (t:=t) (ht:=ht) n (l++[(read.run s.adv).1]) (read.run s.adv).2 (read.sf _ hw1).1
   simp only [AA,AG,AI] at h3
   omega
theorem rQ {α:Type} {read:PM α} {t:Str} {ht:t≠[]} {s:PSt} (hw:WF s.r):((items read t ht).run s).1.length≤1+s.r.length:=by
 have h1:=read.le hw
 have h3:=Zr (read:=read) (t:=t) (ht:=ht) Af [(read.run s).1] (read.run s).2 (read.sf _ hw).1
 simp only [AG,AI] at h3
 show ((Bp read t ht Af [(read.run s).1]).run (read.run s).2).1.length≤_
 omega
theorem Q1 {α:Type} {read:PM α} {s:PSt} (hw:WF s.r):((listed read).run s).1.length≤1+s.r.length:=rQ (read:=read) (t:=[44]) (ht:=by decide) hw
theorem Ut {α:Type} {read:PM α} {s:PSt} (hw:WF s.r):((closed read).run s).1.length≤1+s.r.length:=by
 cases hc:s.hd.text==[41] with
 |true=>
  have:(closed read).run s=([],s.adv):=if_pos hc
  rw [this];simp
 |false=>
  have:(closed read).run s=(listed read).run s:=if_neg (by rw [hc];decide)
  rw [this];exact Q1 hw
end Go.Ab
namespace Go.Ab
open Go.Proofs
theorem YY (i:Nat) (L:List Tok) (n:Nat) {read:PM Str} {fr:FuncId} (hb:Av Tryz.prog fr=true) (hr:PC fr [.gp i 0] i L n read (fun x:Str=>.d (.str x))) (t:Str) (ht:t≠[]):
 PCo 182 [.gp i 0,.d (.str t),.fn fr [.gp i 0] []] i L n (items read t ht) 9 1 Br:=by
 intro σ s hg h1 h2 h3
 refine Rj (by simp) ?_
 rw [Hw]
 have hc:=hr σ s hg h1 h2 h3
 have h1':=h1.run read
 have hle:=read.le h1.wf
 have hit:(items read t ht).run s=(Bp read t ht Af [(read.run s).1]).run (read.run s).2:=rfl
 rw [hit]
 clear hit
 generalize read.run s=y at hc h1' hle ⊢
 obtain ⟨x,s1⟩:=y
 simp only at hc h1' hle ⊢
 skip
 (repeat' (first|refine ctQ rfl ?_|((first|refine rgQ mxQ ?_|refine cdQ ?_|(refine ⟨fr,[.gp i 0],[],rfl,hb,AD.upd hc ?_ (by simp [Jd])⟩)|(refine Fh.own rfl (by decide) (fun tk htk=>?_)))<;>try simp -implicitDefEqProofs only [go_sem])|fail))
 refine Run.BU ?_
 have hf0:=Bo
 have hl0:=h1.suf.length_le
 have hl1:=h1.len
 refine Run.BZ ((fun (a0:AV) (a1:AV) (a2:AV)=>fun (y:PSt×List Str×Nat×AV×AK)=>put 0 a0 (put 1 a1 (put 2 a2 (put 7 (y.2.2.2.1) U)))) _ _ _) (fun _=>E) (fun y=>y.2.2.2.2) (fun y=>POk L y.1∧y.1.r.length≤n∧y.1.r.length≤y.2.2.1∧y.2.1.length+y.1.r.length≤17001∧LS σ i L y.1 9 1 (y.2.1.map Br) y.2.2.2.1 y.2.2.2.2∧(Bp read t ht y.2.2.1 y.2.1).run y.1=(Bp read t ht Af [x]).run s1) (fun y=>y.1.r.length) ?_ (s1,[x],Af,.own tk 9 1 _,_) ⟨h1',by simp only;omega,by simp only;omega,by simp only [AG,AI];omega,?_,rfl⟩
 rotate_left
 · simp only [AB,AE,Br]
   exact LS.lit htk
 rintro ⟨s2,l,q,v,τ⟩ ⟨g1,g2,g3,g4,g5,g6⟩ ih
 simp only at g1 g2 g3 g4 g5 g6
 obtain ⟨q,rfl⟩:∃m,q=m+1:=⟨q - 1,by have:=A5.2 g1.wf.ne;omega⟩
 cases hcc:(s2.hd.text==t) with
 |false=>
  rw [PU hcc] at g6
  rw [← g6]
  (repeat' (first|refine ctQ rfl ?_|((first|refine rgQ mxQ ?_|refine cdQ ?_|(refine AD.upd (DN g1 t τ g5.blk hcc) ?_)|(refine Run.FT KQ (AK.le_refl _) ?_))<;>try simp -implicitDefEqProofs only [g5.own.BL,if_true,go_sem])|fail))
  exact g5.fin
 |true=>
  rw [PV hcc] at g6
  have g1a:=g1.adv ht hcc
  have hal:=BW g1.wf
  have hc:=hr (τ.AH i (psA L s2.adv)) s2.adv (g5.gt hg) g1a (by omega) (by rw [AZ,if_pos rfl]:(τ.AH i (psA L s2.adv)).blk i=_)
  rw [AN] at hc
  have h1':=g1a.run read
  have hle:=read.le g1a.wf
  have hst:=g5.step (read.run s2.adv).2
  generalize read.run s2.adv=y at hc h1' hle g6 hst
  obtain ⟨x,s3⟩:=y
  simp only at hc h1' hle g6 hst
  skip
  (repeat' (first|refine ctQ rfl ?_|((first|refine rgQ mxQ ?_|refine cdQ ?_|(refine AD.upd (DO g1 t τ g5.blk hcc) ?_)|(refine ⟨fr,[.gp i 0],[],rfl,hb,AD.upd hc ?_ (by simp [Jd])⟩)|(refine hst.tok rfl (by simp) (by simp;omega) (by decide) (fun v2 τ2 ho=>?_)))<;>try simp -implicitDefEqProofs only [go_sem])|fail))
  refine ih (s3,l++[x],q,v2,τ2) ⟨h1',by simp only;omega,by simp only;omega,by simp only [AA,AG,AI];omega,?_,g6⟩ (by simp only;omega)
  simp only [Ax,AB,AE,Br]
  exact ho
theorem Rs (i:Nat) (L:List Tok) (n:Nat) {read:PM TE} {fr:FuncId} (hb:Av Tryz.prog fr=true) (hr:PC fr [.gp i 0] i L n read teA) (t:Str) (ht:t≠[]):
 PCo 196 [.gp i 0,.d (.str t),.fn fr [.gp i 0] []] i L n (items read t ht) 75 3 TE.enc:=by
 intro σ s hg h1 h2 h3
 refine Mi (by simp) ?_
 rw [Hw]
 have hc:=hr σ s hg h1 h2 h3
 have h1':=h1.run read
 have hle:=read.le h1.wf
 have hit:(items read t ht).run s=(Bp read t ht Af [(read.run s).1]).run (read.run s).2:=rfl
 rw [hit]
 clear hit
 generalize read.run s=y at hc h1' hle ⊢
 obtain ⟨x,s1⟩:=y
 simp only at hc h1' hle ⊢
 obtain ⟨k0,n0,l0⟩:=x
 simp only [teA,TE.AS,AB,AE] at hc
 (repeat' (first|refine ctQ rfl ?_|((first|refine rgQ mxQ ?_|refine cdQ ?_|(refine ⟨fr,[.gp i 0],[],rfl,hb,AD.upd hc ?_ (by simp [Jd])⟩)|(refine Fh.own rfl (by decide) (fun tk htk=>?_)))<;>try simp -implicitDefEqProofs only [go_sem])|fail))
 refine Run.BU ?_
 have hf0:=Bo
 have hl0:=h1.suf.length_le
 have hl1:=h1.len
 refine Run.BZ ((fun (a0:AV) (a1:AV) (a2:AV)=>fun (y:PSt×List TE×Nat×AV×AK)=>put 0 a0 (put 1 a1 (put 2 a2 (put 7 (y.2.2.2.1) U)))) _ _ _) (fun _=>E) (fun y=>y.2.2.2.2) (fun y=>POk L y.1∧y.1.r.length≤n∧y.1.r.length≤y.2.2.1∧y.2.1.length+y.1.r.length≤17001∧LS σ i L y.1 75 3 (y.2.1.map TE.enc) y.2.2.2.1 y.2.2.2.2∧(Bp read t ht y.2.2.1 y.2.1).run y.1=(Bp read t ht Af [(TE.mk k0 n0 l0)]).run s1) (fun y=>y.1.r.length) ?_ (s1,[(TE.mk k0 n0 l0)],Af,.own tk 75 3 _,_) ⟨h1',by simp only;omega,by simp only;omega,by simp only [AG,AI];omega,?_,rfl⟩
 rotate_left
 · simp only [AB,AE,TE.AS]
   exact LS.lit htk
 rintro ⟨s2,l,q,v,τ⟩ ⟨g1,g2,g3,g4,g5,g6⟩ ih
 simp only at g1 g2 g3 g4 g5 g6
 obtain ⟨q,rfl⟩:∃m,q=m+1:=⟨q - 1,by have:=A5.2 g1.wf.ne;omega⟩
 cases hcc:(s2.hd.text==t) with
 |false=>
  rw [PU hcc] at g6
  rw [← g6]
  (repeat' (first|refine ctQ rfl ?_|((first|refine rgQ mxQ ?_|refine cdQ ?_|(refine AD.upd (DN g1 t τ g5.blk hcc) ?_)|(refine Run.FT HF (AK.le_refl _) ?_))<;>try simp -implicitDefEqProofs only [g5.own.BL,if_true,go_sem])|fail))
  exact g5.fin
 |true=>
  rw [PV hcc] at g6
  have g1a:=g1.adv ht hcc
  have hal:=BW g1.wf
  have hc:=hr (τ.AH i (psA L s2.adv)) s2.adv (g5.gt hg) g1a (by omega) (by rw [AZ,if_pos rfl]:(τ.AH i (psA L s2.adv)).blk i=_)
  rw [AN] at hc
  have h1':=g1a.run read
  have hle:=read.le g1a.wf
  have hst:=g5.step (read.run s2.adv).2
  generalize read.run s2.adv=y at hc h1' hle g6 hst
  obtain ⟨x,s3⟩:=y
  simp only at hc h1' hle g6 hst
  obtain ⟨k0,n0,l0⟩:=x
  simp only [teA,TE.AS,AB,AE] at hc
  (repeat' (first|refine ctQ rfl ?_|((first|refine rgQ mxQ ?_|refine cdQ ?_|(refine AD.upd (DO g1 t τ g5.blk hcc) ?_)|(refine ⟨fr,[.gp i 0],[],rfl,hb,AD.upd hc ?_ (by simp [Jd])⟩)|(refine hst.tok rfl (by simp) (by simp;omega) (by decide) (fun v2 τ2 ho=>?_)))<;>try simp -implicitDefEqProofs only [go_sem])|fail))
  refine ih (s3,l++[(TE.mk k0 n0 l0)],q,v2,τ2) ⟨h1',by simp only;omega,by simp only;omega,by simp only [AA,AG,AI];omega,?_,g6⟩ (by simp only;omega)
  simp only [Ax,AB,AE,TE.AS]
  exact ho
theorem Sx (i:Nat) (L:List Tok) (n:Nat) {read:PM CE} {fr:FuncId} (hb:Av Tryz.prog fr=true) (hr:PC fr [.gp i 0] i L n read ceA) (t:Str) (ht:t≠[]):
 PCo 128 [.gp i 0,.d (.str t),.fn fr [.gp i 0] []] i L n (items read t ht) 72 2 CE.enc:=by
 intro σ s hg h1 h2 h3
 refine NX (by simp) ?_
 rw [Hw]
 have hc:=hr σ s hg h1 h2 h3
 have h1':=h1.run read
 have hle:=read.le h1.wf
 have hit:(items read t ht).run s=(Bp read t ht Af [(read.run s).1]).run (read.run s).2:=rfl
 rw [hit]
 clear hit
 generalize read.run s=y at hc h1' hle ⊢
 obtain ⟨x,s1⟩:=y
 simp only at hc h1' hle ⊢
 obtain ⟨n0,l0⟩:=x
 simp only [ceA,CE.enc,AB,AE] at hc
 (repeat' (first|refine ctQ rfl ?_|((first|refine rgQ mxQ ?_|refine cdQ ?_|(refine ⟨fr,[.gp i 0],[],rfl,hb,AD.upd hc ?_ (by simp [Jd])⟩)|(refine Fh.own rfl (by decide) (fun tk htk=>?_)))<;>try simp -implicitDefEqProofs only [go_sem])|fail))
 refine Run.BU ?_
 have hf0:=Bo
 have hl0:=h1.suf.length_le
 have hl1:=h1.len
 refine Run.BZ ((fun (a0:AV) (a1:AV) (a2:AV)=>fun (y:PSt×List CE×Nat×AV×AK)=>put 0 a0 (put 1 a1 (put 2 a2 (put 7 (y.2.2.2.1) U)))) _ _ _) (fun _=>E) (fun y=>y.2.2.2.2) (fun y=>POk L y.1∧y.1.r.length≤n∧y.1.r.length≤y.2.2.1∧y.2.1.length+y.1.r.length≤17001∧LS σ i L y.1 72 2 (y.2.1.map CE.enc) y.2.2.2.1 y.2.2.2.2∧(Bp read t ht y.2.2.1 y.2.1).run y.1=(Bp read t ht Af [(CE.mk n0 l0)]).run s1) (fun y=>y.1.r.length) ?_ (s1,[(CE.mk n0 l0)],Af,.own tk 72 2 _,_) ⟨h1',by simp only;omega,by simp only;omega,by simp only [AG,AI];omega,?_,rfl⟩
 rotate_left
 · simp only [AB,AE,CE.enc]
   exact LS.lit htk
 rintro ⟨s2,l,q,v,τ⟩ ⟨g1,g2,g3,g4,g5,g6⟩ ih
 simp only at g1 g2 g3 g4 g5 g6
 obtain ⟨q,rfl⟩:∃m,q=m+1:=⟨q - 1,by have:=A5.2 g1.wf.ne;omega⟩
 cases hcc:(s2.hd.text==t) with
 |false=>
  rw [PU hcc] at g6
  rw [← g6]
  (repeat' (first|refine ctQ rfl ?_|((first|refine rgQ mxQ ?_|refine cdQ ?_|(refine AD.upd (DN g1 t τ g5.blk hcc) ?_)|(refine Run.FT HW (AK.le_refl _) ?_))<;>try simp -implicitDefEqProofs only [g5.own.BL,if_true,go_sem])|fail))
  exact g5.fin
 |true=>
  rw [PV hcc] at g6
  have g1a:=g1.adv ht hcc
  have hal:=BW g1.wf
  have hc:=hr (τ.AH i (psA L s2.adv)) s2.adv (g5.gt hg) g1a (by omega) (by rw [AZ,if_pos rfl]:(τ.AH i (psA L s2.adv)).blk i=_)
  rw [AN] at hc
  have h1':=g1a.run read
  have hle:=read.le g1a.wf
  have hst:=g5.step (read.run s2.adv).2
  generalize read.run s2.adv=y at hc h1' hle g6 hst
  obtain ⟨x,s3⟩:=y
  simp only at hc h1' hle g6 hst
  obtain ⟨n0,l0⟩:=x
  simp only [ceA,CE.enc,AB,AE] at hc
  (repeat' (first|refine ctQ rfl ?_|((first|refine rgQ mxQ ?_|refine cdQ ?_|(refine AD.upd (DO g1 t τ g5.blk hcc) ?_)|(refine ⟨fr,[.gp i 0],[],rfl,hb,AD.upd hc ?_ (by simp [Jd])⟩)|(refine hst.tok rfl (by simp) (by simp;omega) (by decide) (fun v2 τ2 ho=>?_)))<;>try simp -implicitDefEqProofs only [go_sem])|fail))
  refine ih (s3,l++[(CE.mk n0 l0)],q,v2,τ2) ⟨h1',by simp only;omega,by simp only;omega,by simp only [AA,AG,AI];omega,?_,g6⟩ (by simp only;omega)
  simp only [Ax,AB,AE,CE.enc]
  exact ho
theorem Vs (i:Nat) (L:List Tok) (n:Nat) {read:PM Ex} {fr:FuncId} (hb:Av Tryz.prog fr=true) (hr:PC fr [.gp i 0] i L n read exA) (t:Str) (ht:t≠[]):
 PCo 216 [.gp i 0,.d (.str t),.fn fr [.gp i 0] []] i L n (items read t ht) 44 6 Ex.enc:=by
 intro σ s hg h1 h2 h3
 refine PK (by simp) ?_
 rw [Hw]
 have hc:=hr σ s hg h1 h2 h3
 have h1':=h1.run read
 have hle:=read.le h1.wf
 have hit:(items read t ht).run s=(Bp read t ht Af [(read.run s).1]).run (read.run s).2:=rfl
 rw [hit]
 clear hit
 generalize read.run s=y at hc h1' hle ⊢
 obtain ⟨x,s1⟩:=y
 simp only at hc h1' hle ⊢
 obtain ⟨o0,n0,u0,ns0,ks0,al0⟩:=x
 simp only [exA,Ex.AS,AB,AE] at hc
 (repeat' (first|refine ctQ rfl ?_|((first|refine rgQ mxQ ?_|refine cdQ ?_|(refine ⟨fr,[.gp i 0],[],rfl,hb,AD.upd hc ?_ (by simp [Jd])⟩)|(refine Fh.own rfl (by decide) (fun tk htk=>?_)))<;>try simp -implicitDefEqProofs only [go_sem])|fail))
 refine Run.BU ?_
 have hf0:=Bo
 have hl0:=h1.suf.length_le
 have hl1:=h1.len
 refine Run.BZ ((fun (a0:AV) (a1:AV) (a2:AV)=>fun (y:PSt×List Ex×Nat×AV×AK)=>put 0 a0 (put 1 a1 (put 2 a2 (put 7 (y.2.2.2.1) U)))) _ _ _) (fun _=>E) (fun y=>y.2.2.2.2) (fun y=>POk L y.1∧y.1.r.length≤n∧y.1.r.length≤y.2.2.1∧y.2.1.length+y.1.r.length≤17001∧LS σ i L y.1 44 6 (y.2.1.map Ex.enc) y.2.2.2.1 y.2.2.2.2∧(Bp read t ht y.2.2.1 y.2.1).run y.1=(Bp read t ht Af [(Ex.mk o0 n0 u0 ns0 ks0 al0)]).run s1) (fun y=>y.1.r.length) ?_ (s1,[(Ex.mk o0 n0 u0 ns0 ks0 al0)],Af,.own tk 44 6 _,_) ⟨h1',by simp only;omega,by simp only;omega,by simp only [AG,AI];omega,?_,rfl⟩
 rotate_left
 · simp only [AB,AE,Ex.AS]
   exact LS.lit htk
 rintro ⟨s2,l,q,v,τ⟩ ⟨g1,g2,g3,g4,g5,g6⟩ ih
 simp only at g1 g2 g3 g4 g5 g6
 obtain ⟨q,rfl⟩:∃m,q=m+1:=⟨q - 1,by have:=A5.2 g1.wf.ne;omega⟩
 cases hcc:(s2.hd.text==t) with
 |false=>
  rw [PU hcc] at g6
  rw [← g6]
  (repeat' (first|refine ctQ rfl ?_|((first|refine rgQ mxQ ?_|refine cdQ ?_|(refine AD.upd (DN g1 t τ g5.blk hcc) ?_)|(refine Run.FT Iq (AK.le_refl _) ?_))<;>try simp -implicitDefEqProofs only [g5.own.BL,if_true,go_sem])|fail))
  exact g5.fin
 |true=>
  rw [PV hcc] at g6
  have g1a:=g1.adv ht hcc
  have hal:=BW g1.wf
  have hc:=hr (τ.AH i (psA L s2.adv)) s2.adv (g5.gt hg) g1a (by omega) (by rw [AZ,if_pos rfl]:(τ.AH i (psA L s2.adv)).blk i=_)
  rw [AN] at hc
  have h1':=g1a.run read
  have hle:=read.le g1a.wf
  have hst:=g5.step (read.run s2.adv).2
  generalize read.run s2.adv=y at hc h1' hle g6 hst
  obtain ⟨x,s3⟩:=y
  simp only at hc h1' hle g6 hst
  obtain ⟨o0,n0,u0,ns0,ks0,al0⟩:=x
  simp only [exA,Ex.AS,AB,AE] at hc
  (repeat' (first|refine ctQ rfl ?_|((first|refine rgQ mxQ ?_|refine cdQ ?_|(refine AD.upd (DO g1 t τ g5.blk hcc) ?_)|(refine ⟨fr,[.gp i 0],[],rfl,hb,AD.upd hc ?_ (by simp [Jd])⟩)|(refine hst.tok rfl (by simp) (by simp;omega) (by decide) (fun v2 τ2 ho=>?_)))<;>try simp -implicitDefEqProofs only [go_sem])|fail))
  refine ih (s3,l++[(Ex.mk o0 n0 u0 ns0 ks0 al0)],q,v2,τ2) ⟨h1',by simp only;omega,by simp only;omega,by simp only [AA,AG,AI];omega,?_,g6⟩ (by simp only;omega)
  simp only [Ax,AB,AE,Ex.AS]
  exact ho
theorem Wx (i:Nat) (L:List Tok) (n:Nat) {read:PM Al} {fr:FuncId} (hb:Av Tryz.prog fr=true) (hr:PC fr [.gp i 0] i L n read alA) (t:Str) (ht:t≠[]):
 PCo 170 [.gp i 0,.d (.str t),.fn fr [.gp i 0] []] i L n (items read t ht) 112 8 Al.enc:=by
 intro σ s hg h1 h2 h3
 refine QQ (by simp) ?_
 rw [Hw]
 have hc:=hr σ s hg h1 h2 h3
 have h1':=h1.run read
 have hle:=read.le h1.wf
 have hit:(items read t ht).run s=(Bp read t ht Af [(read.run s).1]).run (read.run s).2:=rfl
 rw [hit]
 clear hit
 generalize read.run s=y at hc h1' hle ⊢
 obtain ⟨x,s1⟩:=y
 simp only at hc h1' hle ⊢
 obtain ⟨c0,vs0,⟨o0,n0,u0,ns0,ks0,al0⟩⟩:=x
 simp only [alA,Al.AS,AB,AE] at hc
 (repeat' (first|refine ctQ rfl ?_|((first|refine rgQ mxQ ?_|refine cdQ ?_|(refine ⟨fr,[.gp i 0],[],rfl,hb,AD.upd hc ?_ (by simp [Jd])⟩)|(refine Fh.own rfl (by decide) (fun tk htk=>?_)))<;>try simp -implicitDefEqProofs only [go_sem])|fail))
 refine Run.BU ?_
 have hf0:=Bo
 have hl0:=h1.suf.length_le
 have hl1:=h1.len
 refine Run.BZ ((fun (a0:AV) (a1:AV) (a2:AV)=>fun (y:PSt×List Al×Nat×AV×AK)=>put 0 a0 (put 1 a1 (put 2 a2 (put 7 (y.2.2.2.1) U)))) _ _ _) (fun _=>E) (fun y=>y.2.2.2.2) (fun y=>POk L y.1∧y.1.r.length≤n∧y.1.r.length≤y.2.2.1∧y.2.1.length+y.1.r.length≤17001∧LS σ i L y.1 112 8 (y.2.1.map Al.enc) y.2.2.2.1 y.2.2.2.2∧(Bp read t ht y.2.2.1 y.2.1).run y.1=(Bp read t ht Af [(Al.mk c0 vs0 (.mk o0 n0 u0 ns0 ks0 al0))]).run s1) (fun y=>y.1.r.length) ?_ (s1,[(Al.mk c0 vs0 (.mk o0 n0 u0 ns0 ks0 al0))],Af,.own tk 112 8 _,_) ⟨h1',by simp only;omega,by simp only;omega,by simp only [AG,AI];omega,?_,rfl⟩
 rotate_left
 · simp only [AB,AE,Al.AS]
   exact LS.lit htk
 rintro ⟨s2,l,q,v,τ⟩ ⟨g1,g2,g3,g4,g5,g6⟩ ih
 simp only at g1 g2 g3 g4 g5 g6
 obtain ⟨q,rfl⟩:∃m,q=m+1:=⟨q - 1,by have:=A5.2 g1.wf.ne;omega⟩
 cases hcc:(s2.hd.text==t) with
 |false=>
  rw [PU hcc] at g6
  rw [← g6]
  (repeat' (first|refine ctQ rfl ?_|((first|refine rgQ mxQ ?_|refine cdQ ?_|(refine AD.upd (DN g1 t τ g5.blk hcc) ?_)|(refine Run.FT J4 (AK.le_refl _) ?_))<;>try simp -implicitDefEqProofs only [g5.own.BL,if_true,go_sem])|fail))
  exact g5.fin
 |true=>
  rw [PV hcc] at g6
  have g1a:=g1.adv ht hcc
  have hal:=BW g1.wf
  have hc:=hr (τ.AH i (psA L s2.adv)) s2.adv (g5.gt hg) g1a (by omega) (by rw [AZ,if_pos rfl]:(τ.AH i (psA L s2.adv)).blk i=_)
  rw [AN] at hc
  have h1':=g1a.run read
  have hle:=read.le g1a.wf
  have hst:=g5.step (read.run s2.adv).2
  generalize read.run s2.adv=y at hc h1' hle g6 hst
  obtain ⟨x,s3⟩:=y
  simp only at hc h1' hle g6 hst
  obtain ⟨c0,vs0,⟨o0,n0,u0,ns0,ks0,al0⟩⟩:=x
  simp only [alA,Al.AS,AB,AE] at hc
  (repeat' (first|refine ctQ rfl ?_|((first|refine rgQ mxQ ?_|refine cdQ ?_|(refine AD.upd (DO g1 t τ g5.blk hcc) ?_)|(refine ⟨fr,[.gp i 0],[],rfl,hb,AD.upd hc ?_ (by simp [Jd])⟩)|(refine hst.tok rfl (by simp) (by simp;omega) (by decide) (fun v2 τ2 ho=>?_)))<;>try simp -implicitDefEqProofs only [go_sem])|fail))
  refine ih (s3,l++[(Al.mk c0 vs0 (.mk o0 n0 u0 ns0 ks0 al0))],q,v2,τ2) ⟨h1',by simp only;omega,by simp only;omega,by simp only [AA,AG,AI];omega,?_,g6⟩ (by simp only;omega)
  simp only [Ax,AB,AE,Al.AS]
  exact ho
theorem Hm (i:Nat) (L:List Tok) (n:Nat) {read:PM Str} {fr:FuncId} (hb:Av Tryz.prog fr=true) (hr:PC fr [.gp i 0] i L n read (fun x:Str=>.d (.str x))):
 PCo 166 [.gp i 0,.fn fr [.gp i 0] []] i L n (listed read) 9 1 Br:=by
 intro σ s hg h1 h2 h3
 refine QR (by simp) ?_
 rw [BH]
 have hc:=YY i L n hb hr [44] (by decide) σ s hg h1 h2 h3
 have hr2:(listed read).run s=(((items read [44] (by decide)).run s).1,((PM.exp [41] (by decide)).run ((items read [44] (by decide)).run s).2).2):=rfl
 rw [hr2]
 (repeat' (first|refine ctQ rfl ?_|((first|refine rgQ mxQ ?_|refine cdQ ?_|(refine AD.mk rfl hc ?_;intro v σ1 ho;have hl:=LS.of ho))<;>try simp -implicitDefEqProofs only [go_sem])|fail))
 (repeat' (first|refine ctQ rfl ?_|((first|refine rgQ mxQ ?_|refine cdQ ?_|(refine AD.upd (Uu (h1.run _) [41] (by decide) σ1 hl.blk) ?_)|(refine Run.FT J5 (AK.le_refl _) ?_))<;>try simp -implicitDefEqProofs only [ho.BL,if_true,go_sem])|fail))
 exact (hl.step _).fin
theorem PB (i:Nat) (L:List Tok) (n:Nat) {read:PM Str} {fr:FuncId} (hb:Av Tryz.prog fr=true) (hr:PC fr [.gp i 0] i L n read (fun x:Str=>.d (.str x))):
 PCo 130 [.gp i 0,.fn fr [.gp i 0] []] i L n (closed read) 9 1 Br:=by
 intro σ s hg h1 h2 h3
 refine QP (by simp) ?_
 rw [BH]
 cases hcc:(s.hd.text==[41]) with
 |true=>
  have hr2:(closed read).run s=([],s.adv):=if_pos hcc
  rw [hr2]
  (repeat' (first|refine ctQ rfl ?_|((first|refine rgQ mxQ ?_|refine cdQ ?_|refine Run.FT GX (AK.le_refl _) ?_|(refine AD.upd (DO h1 _ σ h3 hcc) ?_))<;>try simp -implicitDefEqProofs only [go_sem])|fail))
  exact Cg.nil _ _ _
 |false=>
  have hr2:(closed read).run s=(listed read).run s:=if_neg (by rw [hcc];decide)
  rw [hr2]
  (repeat' (first|refine ctQ rfl ?_|((first|refine rgQ mxQ ?_|refine cdQ ?_|(refine AD.upd (DN h1 _ σ h3 hcc) ?_)|(refine AD.mk rfl (Hm i L n hb hr σ s hg h1 h2 h3) ?_;intro v σ1 ho)|(refine Run.FT GX (AK.le_refl _) ?_))<;>try simp -implicitDefEqProofs only [go_sem])|fail))
  rw [if_pos ho.BL]
  exact ho
theorem PZ (i:Nat) (L:List Tok) (n:Nat) {read:PM Str} {fr:FuncId} (hb:Av Tryz.prog fr=true) (hr:PC fr [.gp i 0] i L n read (fun x:Str=>.d (.str x))):
 PCo 125 [.gp i 0,.fn fr [.gp i 0] []] i L (n+1) (If read) 9 1 Br:=by
 intro σ s hg h1 h2 h3
 refine QV (by simp) ?_
 rw [BH]
 cases hcc:(s.hd.text==[40]) with
 |true=>
  have hr2:(If read).run s=(listed read).run s.adv:=if_pos hcc
  rw [hr2]
  have hal:=BW h1.wf
  have hc:=Hm i L n hb hr (σ.AH i (psA L s.adv)) s.adv hg (h1.adv (by decide) hcc) (by omega) AX
  rw [AN] at hc
  (repeat' (first|refine ctQ rfl ?_|((first|refine rgQ mxQ ?_|refine cdQ ?_|(refine AD.upd (DO h1 _ σ h3 hcc) ?_)|(refine AD.mk rfl hc ?_;intro v σ1 ho)|(refine Run.FT GZ (AK.le_refl _) ?_))<;>try simp -implicitDefEqProofs only [go_sem])|fail))
  rw [if_pos ho.BL]
  exact ho
 |false=>
  have hr2:(If read).run s=([],s):=if_neg (by rw [hcc];decide)
  rw [hr2]
  (repeat' (first|refine ctQ rfl ?_|((first|refine rgQ mxQ ?_|refine cdQ ?_|refine Run.FT GZ (AK.le_refl _) ?_|(refine AD.upd (DN h1 _ σ h3 hcc) ?_))<;>try simp -implicitDefEqProofs only [go_sem])|fail))
  have:=Cg.nil (σ.AH i (psA L s)) 9 1
  rwa [JA h3] at this ⊢
theorem Ek (i:Nat) (L:List Tok) (n:Nat) {read:PM TE} {fr:FuncId} (hb:Av Tryz.prog fr=true) (hr:PC fr [.gp i 0] i L n read teA):
 PCo 183 [.gp i 0,.fn fr [.gp i 0] []] i L n (listed read) 75 3 TE.enc:=by
 intro σ s hg h1 h2 h3
 refine MH (by simp) ?_
 rw [BH]
 have hc:=Rs i L n hb hr [44] (by decide) σ s hg h1 h2 h3
 have hr2:(listed read).run s=(((items read [44] (by decide)).run s).1,((PM.exp [41] (by decide)).run ((items read [44] (by decide)).run s).2).2):=rfl
 rw [hr2]
 (repeat' (first|refine ctQ rfl ?_|((first|refine rgQ mxQ ?_|refine cdQ ?_|(refine AD.mk rfl hc ?_;intro v σ1 ho;have hl:=LS.of ho))<;>try simp -implicitDefEqProofs only [go_sem])|fail))
 (repeat' (first|refine ctQ rfl ?_|((first|refine rgQ mxQ ?_|refine cdQ ?_|(refine AD.upd (Uu (h1.run _) [41] (by decide) σ1 hl.blk) ?_)|(refine Run.FT Gf (AK.le_refl _) ?_))<;>try simp -implicitDefEqProofs only [ho.BL,if_true,go_sem])|fail))
 exact (hl.step _).fin
theorem QG (i:Nat) (L:List Tok) (n:Nat) {read:PM TE} {fr:FuncId} (hb:Av Tryz.prog fr=true) (hr:PC fr [.gp i 0] i L n read teA):
 PCo 185 [.gp i 0,.fn fr [.gp i 0] []] i L n (closed read) 75 3 TE.enc:=by
 intro σ s hg h1 h2 h3
 refine MG (by simp) ?_
 rw [BH]
 cases hcc:(s.hd.text==[41]) with
 |true=>
  have hr2:(closed read).run s=([],s.adv):=if_pos hcc
  rw [hr2]
  (repeat' (first|refine ctQ rfl ?_|((first|refine rgQ mxQ ?_|refine cdQ ?_|refine Run.FT E5 (AK.le_refl _) ?_|(refine AD.upd (DO h1 _ σ h3 hcc) ?_))<;>try simp -implicitDefEqProofs only [go_sem])|fail))
  exact Cg.nil _ _ _
 |false=>
  have hr2:(closed read).run s=(listed read).run s:=if_neg (by rw [hcc];decide)
  rw [hr2]
  (repeat' (first|refine ctQ rfl ?_|((first|refine rgQ mxQ ?_|refine cdQ ?_|(refine AD.upd (DN h1 _ σ h3 hcc) ?_)|(refine AD.mk rfl (Ek i L n hb hr σ s hg h1 h2 h3) ?_;intro v σ1 ho)|(refine Run.FT E5 (AK.le_refl _) ?_))<;>try simp -implicitDefEqProofs only [go_sem])|fail))
  rw [if_pos ho.BL]
  exact ho
theorem Je (i:Nat) (L:List Tok) (n:Nat) {read:PM TE} {fr:FuncId} (hb:Av Tryz.prog fr=true) (hr:PC fr [.gp i 0] i L n read teA):
 PCo 167 [.gp i 0,.fn fr [.gp i 0] []] i L (n+1) (If read) 75 3 TE.enc:=by
 intro σ s hg h1 h2 h3
 refine MI (by simp) ?_
 rw [BH]
 cases hcc:(s.hd.text==[40]) with
 |true=>
  have hr2:(If read).run s=(listed read).run s.adv:=if_pos hcc
  rw [hr2]
  have hal:=BW h1.wf
  have hc:=Ek i L n hb hr (σ.AH i (psA L s.adv)) s.adv hg (h1.adv (by decide) hcc) (by omega) AX
  rw [AN] at hc
  (repeat' (first|refine ctQ rfl ?_|((first|refine rgQ mxQ ?_|refine cdQ ?_|(refine AD.upd (DO h1 _ σ h3 hcc) ?_)|(refine AD.mk rfl hc ?_;intro v σ1 ho)|(refine Run.FT E6 (AK.le_refl _) ?_))<;>try simp -implicitDefEqProofs only [go_sem])|fail))
  rw [if_pos ho.BL]
  exact ho
 |false=>
  have hr2:(If read).run s=([],s):=if_neg (by rw [hcc];decide)
  rw [hr2]
  (repeat' (first|refine ctQ rfl ?_|((first|refine rgQ mxQ ?_|refine cdQ ?_|refine Run.FT E6 (AK.le_refl _) ?_|(refine AD.upd (DN h1 _ σ h3 hcc) ?_))<;>try simp -implicitDefEqProofs only [go_sem])|fail))
  have:=Cg.nil (σ.AH i (psA L s)) 75 3
  rwa [JA h3] at this ⊢
theorem G2 (i:Nat) (L:List Tok) (n:Nat) {read:PM Ex} {fr:FuncId} (hb:Av Tryz.prog fr=true) (hr:PC fr [.gp i 0] i L n read exA):
 PCo 214 [.gp i 0,.fn fr [.gp i 0] []] i L n (listed read) 44 6 Ex.enc:=by
 intro σ s hg h1 h2 h3
 refine O4 (by simp) ?_
 rw [BH]
 have hc:=Vs i L n hb hr [44] (by decide) σ s hg h1 h2 h3
 have hr2:(listed read).run s=(((items read [44] (by decide)).run s).1,((PM.exp [41] (by decide)).run ((items read [44] (by decide)).run s).2).2):=rfl
 rw [hr2]
 (repeat' (first|refine ctQ rfl ?_|((first|refine rgQ mxQ ?_|refine cdQ ?_|(refine AD.mk rfl hc ?_;intro v σ1 ho;have hl:=LS.of ho))<;>try simp -implicitDefEqProofs only [go_sem])|fail))
 (repeat' (first|refine ctQ rfl ?_|((first|refine rgQ mxQ ?_|refine cdQ ?_|(refine AD.upd (Uu (h1.run _) [41] (by decide) σ1 hl.blk) ?_)|(refine Run.FT IN (AK.le_refl _) ?_))<;>try simp -implicitDefEqProofs only [ho.BL,if_true,go_sem])|fail))
 exact (hl.step _).fin
theorem Us (i:Nat) (L:List Tok) (n:Nat) {read:PM Ex} {fr:FuncId} (hb:Av Tryz.prog fr=true) (hr:PC fr [.gp i 0] i L n read exA):
 PCo 208 [.gp i 0,.fn fr [.gp i 0] []] i L n (closed read) 44 6 Ex.enc:=by
 intro σ s hg h1 h2 h3
 refine O3 (by simp) ?_
 rw [BH]
 cases hcc:(s.hd.text==[41]) with
 |true=>
  have hr2:(closed read).run s=([],s.adv):=if_pos hcc
  rw [hr2]
  (repeat' (first|refine ctQ rfl ?_|((first|refine rgQ mxQ ?_|refine cdQ ?_|refine Run.FT F3 (AK.le_refl _) ?_|(refine AD.upd (DO h1 _ σ h3 hcc) ?_))<;>try simp -implicitDefEqProofs only [go_sem])|fail))
  exact Cg.nil _ _ _
 |false=>
  have hr2:(closed read).run s=(listed read).run s:=if_neg (by rw [hcc];decide)
  rw [hr2]
  (repeat' (first|refine ctQ rfl ?_|((first|refine rgQ mxQ ?_|refine cdQ ?_|(refine AD.upd (DN h1 _ σ h3 hcc) ?_)|(refine AD.mk rfl (G2 i L n hb hr σ s hg h1 h2 h3) ?_;intro v σ1 ho)|(refine Run.FT F3 (AK.le_refl _) ?_))<;>try simp -implicitDefEqProofs only [go_sem])|fail))
  rw [if_pos ho.BL]
  exact ho
theorem VD (i:Nat) (L:List Tok) (n:Nat) {read:PM Ex} {fr:FuncId} (hb:Av Tryz.prog fr=true) (hr:PC fr [.gp i 0] i L n read exA):
 PCo 210 [.gp i 0,.fn fr [.gp i 0] []] i L (n+1) (If read) 44 6 Ex.enc:=by
 intro σ s hg h1 h2 h3
 refine O5 (by simp) ?_
 rw [BH]
 cases hcc:(s.hd.text==[40]) with
 |true=>
  have hr2:(If read).run s=(listed read).run s.adv:=if_pos hcc
  rw [hr2]
  have hal:=BW h1.wf
  have hc:=G2 i L n hb hr (σ.AH i (psA L s.adv)) s.adv hg (h1.adv (by decide) hcc) (by omega) AX
  rw [AN] at hc
  (repeat' (first|refine ctQ rfl ?_|((first|refine rgQ mxQ ?_|refine cdQ ?_|(refine AD.upd (DO h1 _ σ h3 hcc) ?_)|(refine AD.mk rfl hc ?_;intro v σ1 ho)|(refine Run.FT F4 (AK.le_refl _) ?_))<;>try simp -implicitDefEqProofs only [go_sem])|fail))
  rw [if_pos ho.BL]
  exact ho
 |false=>
  have hr2:(If read).run s=([],s):=if_neg (by rw [hcc];decide)
  rw [hr2]
  (repeat' (first|refine ctQ rfl ?_|((first|refine rgQ mxQ ?_|refine cdQ ?_|refine Run.FT F4 (AK.le_refl _) ?_|(refine AD.upd (DN h1 _ σ h3 hcc) ?_))<;>try simp -implicitDefEqProofs only [go_sem])|fail))
  have:=Cg.nil (σ.AH i (psA L s)) 44 6
  rwa [JA h3] at this ⊢
end Go.Ab
