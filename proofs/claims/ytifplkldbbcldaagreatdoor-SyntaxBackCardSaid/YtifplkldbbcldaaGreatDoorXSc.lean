/- Names and arities, in plain data. Lists searched with a function. Names. Conditions: none. -/
import Derived.Test.YtifplkldbbcldaaGreatDoorXPf
set_option linter.unusedSimpArgs false
set_option linter.unusedVariables false
set_option maxRecDepth 4000
set_option maxHeartbeats 8000000
open List renaming getElem?_eq_some_iff→A9,mem_append→BU,mem_singleton→Dn,length_map→AB,mem_of_getElem?→Ad,take_of_length_le→A8,any_eq_not_all_not→Ni,map_cons→AF,map_nil→AI,all_append→CC
open Bool renaming false_or→M8,and_eq_true→AN,not_eq_true'→CM,or_eq_false_iff→Dq,and_false→D2
namespace Go.Ab
def nN (o:Option Nat):Int:=match o with|some i=>i|none=>-1
def Ex.op:Ex→Int| .mk o _ _ _ _ _=>o
def Ex.num:Ex→Int| .mk _ _ u _ _ _=>u
def Ex.name:Ex→Str| .mk _ n _ _ _ _=>n
def Ex.names:Ex→List Str| .mk _ _ _ ns _ _=>ns
def Ex.kids:Ex→List Ex| .mk _ _ _ _ ks _=>ks
def Ex.alts:Ex→List Al| .mk _ _ _ _ _ al=>al
def Al.con:Al→Str| .mk c _ _=>c
def Al.vars:Al→List Str| .mk _ vs _=>vs
def Al.body:Al→Ex| .mk _ _ b=>b
end Go.Ab
namespace Go.Ab
open Go.Proofs
theorem Pe {α:Type} {p:α→Bool} {l:List α} {i:Nat} {x:α} (h:∀y∈l.take i,p y=false) (hx:l[i]?=some x) (hp:p x=true):l.findIdx? p=some i:=by
 rw [List.findIdx?_eq_some_iff_getElem]
 obtain ⟨hl,he⟩:=A9.1 hx
 refine ⟨hl,by rw [he];exact hp,fun j hj=>?_⟩
 rw [h (l[j]'(by omega)) (List.mem_take_iff_getElem.2 ⟨j,by omega,rfl⟩)];simp
theorem Pf {α:Type} {p:α→Bool} {l:List α} (h:∀y∈l,p y=false):l.findIdx? p=none:=by
 rw [List.findIdx?_eq_none_iff];exact h
theorem XJ {α:Type} {p:α→Bool} {l:List α} {i:Nat} {x:α} (h:∀y∈l.take i,p y=false) (hx:l[i]?=some x) (hp:p x=false):∀y∈l.take (i+1),p y=false:=by
 intro y hy
 rw [Ff hx] at hy
 rcases BU.1 hy with hy|hy
 · exact h y hy
 · simp only [Dn] at hy;subst hy;exact hp
theorem XC (o:Option Nat):decide (0≤nN o)=o.isSome:=by
 cases o<;>simp [nN]
theorem Nj {α:Type} (p:α→Bool) (l:List α):(l.findIdx? p).isSome=l.any p:=by
 rw [List.findIdx?_isSome]
theorem Sr {fid:FuncId} {caps:List AV} (hb:Ap Tryz.prog fid=true) (hcp:caps.all AV.Au=true) (p:Str→Bool) (l:List Str) (σ:AM) (hf:∀x∈l,AR Tryz.prog fid ((.d (.str x))::caps) σ (fun v σ'=>v= .d (.bool (p x))∧σ'=σ)):
 AR Tryz.prog 154 [.d (.sl (l.map Cn)),.fn fid [] caps] σ (fun v σ'=>v= .d (.int .i64 (nN (l.findIdx? p)))∧σ'=σ):=by
 refine N5 (by simp) ?_
 rw [BF]
 refine Run.slot 0 (fun hb0=>?_)
 simp only [II,if_true,AV.FJ,AB] at hb0
 (repeat' (first|refine Run.ct rfl ?_|((first|refine Run.reg mixed ?_|refine Run.AJ ?_)<;>try simp -implicitDefEqProofs only [AB,go_sem])|fail))
 refine Run.B1 ?_
 refine Run.B7 ((fun (a0:AV) (a1:AV) (a7:AV)=>fun (i:Nat)=>put 0 a0 (put 1 a1 (put 7 a7 (put 8 (.d (.int .i64 i)) U)))) _ _ _) (fun _=>E) (fun _=>σ) (fun i=>i≤l.length∧∀x∈l.take i,p x=false) (fun i=>l.length - i) ?_ 0 ⟨by simp,by simp⟩
 rintro i ⟨hi,hno⟩ ih
 by_cases hlt:i < l.length
 · obtain ⟨x,hx⟩:=Ba hlt
   have he:=BX (enc:=Cn) hx
   have hw1:IntKind.i64.wrap ((i:Int)+1)=((i+1:Nat):Int):=by rw [Aw (by omega) (by omega)];omega
   have hc:=hf x (Ad hx)
   simp only [Cn] at he
   cases hp:p x with
   |true=>
    rw [hp] at hc
    (repeat' (first|refine Run.ct rfl ?_|((first|refine Run.reg mixed ?_|refine Run.AJ ?_|refine Run.Aa FC (AM.le_refl _) ?_|(refine ⟨fid,[],caps,rfl,hb,AG.det hc ?_ (by simp [hcp,KI,Fb])⟩))<;>try simp -implicitDefEqProofs only [BG hlt,he,hw1,go_sem])|fail))
    rw [Pe hno hx hp];rfl
   |false=>
    rw [hp] at hc
    (repeat' (first|refine Run.ct rfl ?_|((first|refine Run.reg mixed ?_|refine Run.AJ ?_|(refine ⟨fid,[],caps,rfl,hb,AG.det hc ?_ (by simp [hcp,KI,Fb])⟩))<;>try simp -implicitDefEqProofs only [BG hlt,he,hw1,go_sem])|fail))
    exact ih (i+1) ⟨by omega,XJ hno hx hp⟩ (by omega)
 · (repeat' (first|refine Run.ct rfl ?_|((first|refine Run.reg mixed ?_|refine Run.AJ ?_|refine Run.Aa FC (AM.le_refl _) ?_)<;>try simp -implicitDefEqProofs only [E0 hlt,go_sem])|fail))
   rw [A8 (by omega)] at hno
   rw [Pf hno];rfl
theorem P1 {fid:FuncId} {caps:List AV} (hb:Ap Tryz.prog fid=true) (hcp:caps.all AV.Au=true) (p:Str→Bool) (l:List Str) (σ:AM) (hf:∀x∈l,AR Tryz.prog fid ((.d (.str x))::caps) σ (fun v σ'=>v= .d (.bool (p x))∧σ'=σ)):
 AR Tryz.prog 108 [.d (.sl (l.map Cn)),.fn fid [] caps] σ (fun v σ'=>v= .d (.bool (l.any p))∧σ'=σ):=by
 refine L9 (by simp) ?_
 rw [BF]
 (repeat' (first|refine Run.ct rfl ?_|((first|refine Run.reg mixed ?_|refine Run.AJ ?_|refine Run.Aa GR (AM.le_refl _) ?_|refine AG.det (Sr hb hcp p l σ hf) ?_)<;>try simp -implicitDefEqProofs only [XC,Nj,go_sem])|fail))
theorem W5 {fid:FuncId} {caps:List AV} (hb:Ap Tryz.prog fid=true) (hcp:caps.all AV.Au=true) (x:Str) (b:Bool) (j:Nat) (σ:AM) (hj:σ.blk j=some [.fn fid [] caps]) (hf:AR Tryz.prog fid ((.d (.str x))::caps) σ (fun v σ'=>v= .d (.bool b)∧σ'=σ)):
 AR Tryz.prog 109 [(.d (.str x)),.gp j 0] σ (fun v σ'=>v= .d (.bool (!b))∧σ'=σ):=by
 refine Qj (by simp) ?_
 rw [BF]
 (repeat' (first|refine Run.ct rfl ?_|((first|refine Run.reg mixed ?_|refine Run.AJ ?_|refine Run.Aa Jn (AM.le_refl _) ?_|(refine ⟨fid,[],caps,rfl,hb,AG.det hf ?_ (by simp [hcp,KI,Fb])⟩))<;>try simp -implicitDefEqProofs only [hj,go_sem])|fail))
theorem Hf {fid:FuncId} {caps:List AV} (hb:Ap Tryz.prog fid=true) (hcp:caps.all AV.Au=true) (p:Str→Bool) (l:List Str) (σ:AM) (hf:∀x∈l,∀σ1,σ.le σ1→AR Tryz.prog fid ((.d (.str x))::caps) σ1 (fun v σ'=>v= .d (.bool (p x))∧σ'=σ1)):
 AR Tryz.prog 52 [.d (.sl (l.map Cn)),.fn fid [] caps] σ (fun v σ'=>v= .d (.bool (l.all p))∧σ'=σ):=by
 refine Sx (by simp) ?_
 rw [BF]
 (repeat' (first|refine Run.ct rfl ?_|((first|refine Run.reg mixed ?_|refine Run.AJ ?_)<;>try simp -implicitDefEqProofs only [go_sem])|fail))
 intro j hj
 have hle:=FG (cs:=[.fn fid [] caps]) hj
 (repeat' (first|refine Run.ct rfl ?_|((first|refine Run.reg mixed ?_|refine Run.AJ ?_|(refine Run.Aa Lx (σ2:=σ) hle ?_)|refine AG.det (P1 (by kernel_rfl) rfl (fun x=>!p x) l _ (fun x hx=>W5 hb hcp x (p x) j _ (by simp only [AO,if_true]) (hf x hx _ hle))) ?_)<;>try simp -implicitDefEqProofs only [go_sem])|fail))
 simp [Ni]
theorem N1 {fid:FuncId} {caps:List AV} (hb:Ap Tryz.prog fid=true) (hcp:caps.all AV.Au=true) (p:TE→Bool) (l:List TE) (σ:AM) (hf:∀x∈l,AR Tryz.prog fid ((teA x)::caps) σ (fun v σ'=>v= .d (.bool (p x))∧σ'=σ)):
 AR Tryz.prog 179 [.d (.sl (l.map TE.enc)),.fn fid [] caps] σ (fun v σ'=>v= .d (.int .i64 (nN (l.findIdx? p)))∧σ'=σ):=by
 refine J4 (by simp) ?_
 rw [BF]
 refine Run.slot 0 (fun hb0=>?_)
 simp only [II,if_true,AV.FJ,AB] at hb0
 (repeat' (first|refine Run.ct rfl ?_|((first|refine Run.reg mixed ?_|refine Run.AJ ?_)<;>try simp -implicitDefEqProofs only [AB,go_sem])|fail))
 refine Run.B1 ?_
 refine Run.B7 ((fun (a0:AV) (a1:AV) (a7:AV)=>fun (i:Nat)=>put 0 a0 (put 1 a1 (put 7 a7 (put 8 (.d (.int .i64 i)) U)))) _ _ _) (fun _=>E) (fun _=>σ) (fun i=>i≤l.length∧∀x∈l.take i,p x=false) (fun i=>l.length - i) ?_ 0 ⟨by simp,by simp⟩
 rintro i ⟨hi,hno⟩ ih
 by_cases hlt:i < l.length
 · obtain ⟨x,hx⟩:=Ba hlt
   have he:=BX (enc:=TE.enc) hx
   have hw1:IntKind.i64.wrap ((i:Int)+1)=((i+1:Nat):Int):=by rw [Aw (by omega) (by omega)];omega
   have hc:=hf x (Ad hx)
   obtain ⟨k,n,al⟩:=x
   simp only [TE.A1,teA,AF,AI] at he hc
   cases hp:p (.mk k n al) with
   |true=>
    rw [hp] at hc
    (repeat' (first|refine Run.ct rfl ?_|((first|refine Run.reg mixed ?_|refine Run.AJ ?_|refine Run.Aa D1 (AM.le_refl _) ?_|(refine ⟨fid,[],caps,rfl,hb,AG.det hc ?_ (by simp [hcp,KI,Fb])⟩))<;>try simp -implicitDefEqProofs only [BG hlt,he,hw1,go_sem])|fail))
    rw [Pe hno hx hp];rfl
   |false=>
    rw [hp] at hc
    (repeat' (first|refine Run.ct rfl ?_|((first|refine Run.reg mixed ?_|refine Run.AJ ?_|(refine ⟨fid,[],caps,rfl,hb,AG.det hc ?_ (by simp [hcp,KI,Fb])⟩))<;>try simp -implicitDefEqProofs only [BG hlt,he,hw1,go_sem])|fail))
    exact ih (i+1) ⟨by omega,XJ hno hx hp⟩ (by omega)
 · (repeat' (first|refine Run.ct rfl ?_|((first|refine Run.reg mixed ?_|refine Run.AJ ?_|refine Run.Aa D1 (AM.le_refl _) ?_)<;>try simp -implicitDefEqProofs only [E0 hlt,go_sem])|fail))
   rw [A8 (by omega)] at hno
   rw [Pf hno];rfl
theorem LW {fid:FuncId} {caps:List AV} (hb:Ap Tryz.prog fid=true) (hcp:caps.all AV.Au=true) (p:TE→Bool) (l:List TE) (σ:AM) (hf:∀x∈l,AR Tryz.prog fid ((teA x)::caps) σ (fun v σ'=>v= .d (.bool (p x))∧σ'=σ)):
 AR Tryz.prog 151 [.d (.sl (l.map TE.enc)),.fn fid [] caps] σ (fun v σ'=>v= .d (.bool (l.any p))∧σ'=σ):=by
 refine IN (by simp) ?_
 rw [BF]
 (repeat' (first|refine Run.ct rfl ?_|((first|refine Run.reg mixed ?_|refine Run.AJ ?_|refine Run.Aa Ek (AM.le_refl _) ?_|refine AG.det (N1 hb hcp p l σ hf) ?_)<;>try simp -implicitDefEqProofs only [XC,Nj,go_sem])|fail))
theorem Qg {fid:FuncId} {caps:List AV} (hb:Ap Tryz.prog fid=true) (hcp:caps.all AV.Au=true) (x:TE) (b:Bool) (j:Nat) (σ:AM) (hj:σ.blk j=some [.fn fid [] caps]) (hf:AR Tryz.prog fid ((teA x)::caps) σ (fun v σ'=>v= .d (.bool b)∧σ'=σ)):
 AR Tryz.prog 152 [(teA x),.gp j 0] σ (fun v σ'=>v= .d (.bool (!b))∧σ'=σ):=by
 refine MR (by simp) ?_
 rw [BF]
 obtain ⟨k,n,al⟩:=x
 simp only [TE.A1,teA,AF,AI] at hf ⊢
 (repeat' (first|refine Run.ct rfl ?_|((first|refine Run.reg mixed ?_|refine Run.AJ ?_|refine Run.Aa Gf (AM.le_refl _) ?_|(refine ⟨fid,[],caps,rfl,hb,AG.det hf ?_ (by simp [hcp,KI,Fb])⟩))<;>try simp -implicitDefEqProofs only [hj,go_sem])|fail))
theorem Lp {fid:FuncId} {caps:List AV} (hb:Ap Tryz.prog fid=true) (hcp:caps.all AV.Au=true) (p:TE→Bool) (l:List TE) (σ:AM) (hf:∀x∈l,∀σ1,σ.le σ1→AR Tryz.prog fid ((teA x)::caps) σ1 (fun v σ'=>v= .d (.bool (p x))∧σ'=σ1)):
 AR Tryz.prog 104 [.d (.sl (l.map TE.enc)),.fn fid [] caps] σ (fun v σ'=>v= .d (.bool (l.all p))∧σ'=σ):=by
 refine N6 (by simp) ?_
 rw [BF]
 (repeat' (first|refine Run.ct rfl ?_|((first|refine Run.reg mixed ?_|refine Run.AJ ?_)<;>try simp -implicitDefEqProofs only [go_sem])|fail))
 intro j hj
 have hle:=FG (cs:=[.fn fid [] caps]) hj
 (repeat' (first|refine Run.ct rfl ?_|((first|refine Run.reg mixed ?_|refine Run.AJ ?_|(refine Run.Aa H5 (σ2:=σ) hle ?_)|refine AG.det (LW (by kernel_rfl) rfl (fun x=>!p x) l _ (fun x hx=>Qg hb hcp x (p x) j _ (by simp only [AO,if_true]) (hf x hx _ hle))) ?_)<;>try simp -implicitDefEqProofs only [go_sem])|fail))
 simp [Ni]
theorem Ny {fid:FuncId} {caps:List AV} (hb:Ap Tryz.prog fid=true) (hcp:caps.all AV.Au=true) (p:CE→Bool) (l:List CE) (σ:AM) (hf:∀x∈l,AR Tryz.prog fid ((ceA x)::caps) σ (fun v σ'=>v= .d (.bool (p x))∧σ'=σ)):
 AR Tryz.prog 178 [.d (.sl (l.map CE.enc)),.fn fid [] caps] σ (fun v σ'=>v= .d (.int .i64 (nN (l.findIdx? p)))∧σ'=σ):=by
 refine KE (by simp) ?_
 rw [BF]
 refine Run.slot 0 (fun hb0=>?_)
 simp only [II,if_true,AV.FJ,AB] at hb0
 (repeat' (first|refine Run.ct rfl ?_|((first|refine Run.reg mixed ?_|refine Run.AJ ?_)<;>try simp -implicitDefEqProofs only [AB,go_sem])|fail))
 refine Run.B1 ?_
 refine Run.B7 ((fun (a0:AV) (a1:AV) (a7:AV)=>fun (i:Nat)=>put 0 a0 (put 1 a1 (put 7 a7 (put 8 (.d (.int .i64 i)) U)))) _ _ _) (fun _=>E) (fun _=>σ) (fun i=>i≤l.length∧∀x∈l.take i,p x=false) (fun i=>l.length - i) ?_ 0 ⟨by simp,by simp⟩
 rintro i ⟨hi,hno⟩ ih
 by_cases hlt:i < l.length
 · obtain ⟨x,hx⟩:=Ba hlt
   have he:=BX (enc:=CE.enc) hx
   have hw1:IntKind.i64.wrap ((i:Int)+1)=((i+1:Nat):Int):=by rw [Aw (by omega) (by omega)];omega
   have hc:=hf x (Ad hx)
   obtain ⟨nm,ar⟩:=x
   simp only [CE.enc,ceA,AF,AI] at he hc
   cases hp:p (⟨nm,ar⟩) with
   |true=>
    rw [hp] at hc
    (repeat' (first|refine Run.ct rfl ?_|((first|refine Run.reg mixed ?_|refine Run.AJ ?_|refine Run.Aa Di (AM.le_refl _) ?_|(refine ⟨fid,[],caps,rfl,hb,AG.det hc ?_ (by simp [hcp,KI,Fb])⟩))<;>try simp -implicitDefEqProofs only [BG hlt,he,hw1,go_sem])|fail))
    rw [Pe hno hx hp];rfl
   |false=>
    rw [hp] at hc
    (repeat' (first|refine Run.ct rfl ?_|((first|refine Run.reg mixed ?_|refine Run.AJ ?_|(refine ⟨fid,[],caps,rfl,hb,AG.det hc ?_ (by simp [hcp,KI,Fb])⟩))<;>try simp -implicitDefEqProofs only [BG hlt,he,hw1,go_sem])|fail))
    exact ih (i+1) ⟨by omega,XJ hno hx hp⟩ (by omega)
 · (repeat' (first|refine Run.ct rfl ?_|((first|refine Run.reg mixed ?_|refine Run.AJ ?_|refine Run.Aa Di (AM.le_refl _) ?_)<;>try simp -implicitDefEqProofs only [E0 hlt,go_sem])|fail))
   rw [A8 (by omega)] at hno
   rw [Pf hno];rfl
theorem MI {fid:FuncId} {caps:List AV} (hb:Ap Tryz.prog fid=true) (hcp:caps.all AV.Au=true) (p:CE→Bool) (l:List CE) (σ:AM) (hf:∀x∈l,AR Tryz.prog fid ((ceA x)::caps) σ (fun v σ'=>v= .d (.bool (p x))∧σ'=σ)):
 AR Tryz.prog 149 [.d (.sl (l.map CE.enc)),.fn fid [] caps] σ (fun v σ'=>v= .d (.bool (l.any p))∧σ'=σ):=by
 refine Ik (by simp) ?_
 rw [BF]
 (repeat' (first|refine Run.ct rfl ?_|((first|refine Run.reg mixed ?_|refine Run.AJ ?_|refine Run.Aa Ey (AM.le_refl _) ?_|refine AG.det (Ny hb hcp p l σ hf) ?_)<;>try simp -implicitDefEqProofs only [XC,Nj,go_sem])|fail))
theorem RZ {fid:FuncId} {caps:List AV} (hb:Ap Tryz.prog fid=true) (hcp:caps.all AV.Au=true) (x:CE) (b:Bool) (j:Nat) (σ:AM) (hj:σ.blk j=some [.fn fid [] caps]) (hf:AR Tryz.prog fid ((ceA x)::caps) σ (fun v σ'=>v= .d (.bool b)∧σ'=σ)):
 AR Tryz.prog 150 [(ceA x),.gp j 0] σ (fun v σ'=>v= .d (.bool (!b))∧σ'=σ):=by
 refine My (by simp) ?_
 rw [BF]
 obtain ⟨nm,ar⟩:=x
 simp only [CE.enc,ceA,AF,AI] at hf ⊢
 (repeat' (first|refine Run.ct rfl ?_|((first|refine Run.reg mixed ?_|refine Run.AJ ?_|refine Run.Aa HA (AM.le_refl _) ?_|(refine ⟨fid,[],caps,rfl,hb,AG.det hf ?_ (by simp [hcp,KI,Fb])⟩))<;>try simp -implicitDefEqProofs only [hj,go_sem])|fail))
theorem Tq {fid:FuncId} {caps:List AV} (hb:Ap Tryz.prog fid=true) (hcp:caps.all AV.Au=true) (p:CE→Bool) (l:List CE) (σ:AM) (hf:∀x∈l,∀σ1,σ.le σ1→AR Tryz.prog fid ((ceA x)::caps) σ1 (fun v σ'=>v= .d (.bool (p x))∧σ'=σ1)):
 AR Tryz.prog 102 [.d (.sl (l.map CE.enc)),.fn fid [] caps] σ (fun v σ'=>v= .d (.bool (l.all p))∧σ'=σ):=by
 refine OE (by simp) ?_
 rw [BF]
 (repeat' (first|refine Run.ct rfl ?_|((first|refine Run.reg mixed ?_|refine Run.AJ ?_)<;>try simp -implicitDefEqProofs only [go_sem])|fail))
 intro j hj
 have hle:=FG (cs:=[.fn fid [] caps]) hj
 (repeat' (first|refine Run.ct rfl ?_|((first|refine Run.reg mixed ?_|refine Run.AJ ?_|(refine Run.Aa Hq (σ2:=σ) hle ?_)|refine AG.det (MI (by kernel_rfl) rfl (fun x=>!p x) l _ (fun x hx=>RZ hb hcp x (p x) j _ (by simp only [AO,if_true]) (hf x hx _ hle))) ?_)<;>try simp -implicitDefEqProofs only [go_sem])|fail))
 simp [Ni]
theorem RU {fid:FuncId} {caps:List AV} (hb:Ap Tryz.prog fid=true) (hcp:caps.all AV.Au=true) (p:Al→Bool) (l:List Al) (σ:AM) (hf:∀x∈l,AR Tryz.prog fid ((alA x)::caps) σ (fun v σ'=>v= .d (.bool (p x))∧σ'=σ)):
 AR Tryz.prog 195 [.d (.sl (l.map Al.enc)),.fn fid [] caps] σ (fun v σ'=>v= .d (.int .i64 (nN (l.findIdx? p)))∧σ'=σ):=by
 refine Mx (by simp) ?_
 rw [BF]
 refine Run.slot 0 (fun hb0=>?_)
 simp only [II,if_true,AV.FJ,AB] at hb0
 (repeat' (first|refine Run.ct rfl ?_|((first|refine Run.reg mixed ?_|refine Run.AJ ?_)<;>try simp -implicitDefEqProofs only [AB,go_sem])|fail))
 refine Run.B1 ?_
 refine Run.B7 ((fun (a0:AV) (a1:AV) (a7:AV)=>fun (i:Nat)=>put 0 a0 (put 1 a1 (put 7 a7 (put 8 (.d (.int .i64 i)) U)))) _ _ _) (fun _=>E) (fun _=>σ) (fun i=>i≤l.length∧∀x∈l.take i,p x=false) (fun i=>l.length - i) ?_ 0 ⟨by simp,by simp⟩
 rintro i ⟨hi,hno⟩ ih
 by_cases hlt:i < l.length
 · obtain ⟨x,hx⟩:=Ba hlt
   have he:=BX (enc:=Al.enc) hx
   have hw1:IntKind.i64.wrap ((i:Int)+1)=((i+1:Nat):Int):=by rw [Aw (by omega) (by omega)];omega
   have hc:=hf x (Ad hx)
   obtain ⟨c,vs,o,n,u,ns,ks,al⟩:=x
   simp only [Al.A1,alA,AF,AI] at he hc
   cases hp:p (.mk c vs (.mk o n u ns ks al)) with
   |true=>
    rw [hp] at hc
    (repeat' (first|refine Run.ct rfl ?_|((first|refine Run.reg mixed ?_|refine Run.AJ ?_|refine Run.Aa El (AM.le_refl _) ?_|(refine ⟨fid,[],caps,rfl,hb,AG.det hc ?_ (by simp [hcp,KI,Fb])⟩))<;>try simp -implicitDefEqProofs only [BG hlt,he,hw1,go_sem])|fail))
    rw [Pe hno hx hp];rfl
   |false=>
    rw [hp] at hc
    (repeat' (first|refine Run.ct rfl ?_|((first|refine Run.reg mixed ?_|refine Run.AJ ?_|(refine ⟨fid,[],caps,rfl,hb,AG.det hc ?_ (by simp [hcp,KI,Fb])⟩))<;>try simp -implicitDefEqProofs only [BG hlt,he,hw1,go_sem])|fail))
    exact ih (i+1) ⟨by omega,XJ hno hx hp⟩ (by omega)
 · (repeat' (first|refine Run.ct rfl ?_|((first|refine Run.reg mixed ?_|refine Run.AJ ?_|refine Run.Aa El (AM.le_refl _) ?_)<;>try simp -implicitDefEqProofs only [E0 hlt,go_sem])|fail))
   rw [A8 (by omega)] at hno
   rw [Pf hno];rfl
theorem OX {fid:FuncId} {caps:List AV} (hb:Ap Tryz.prog fid=true) (hcp:caps.all AV.Au=true) (p:Al→Bool) (l:List Al) (σ:AM) (hf:∀x∈l,AR Tryz.prog fid ((alA x)::caps) σ (fun v σ'=>v= .d (.bool (p x))∧σ'=σ)):
 AR Tryz.prog 180 [.d (.sl (l.map Al.enc)),.fn fid [] caps] σ (fun v σ'=>v= .d (.bool (l.any p))∧σ'=σ):=by
 refine LF (by simp) ?_
 rw [BF]
 (repeat' (first|refine Run.ct rfl ?_|((first|refine Run.reg mixed ?_|refine Run.AJ ?_|refine Run.Aa Fw (AM.le_refl _) ?_|refine AG.det (RU hb hcp p l σ hf) ?_)<;>try simp -implicitDefEqProofs only [XC,Nj,go_sem])|fail))
theorem VS {fid:FuncId} {caps:List AV} (hb:Ap Tryz.prog fid=true) (hcp:caps.all AV.Au=true) (x:Al) (b:Bool) (j:Nat) (σ:AM) (hj:σ.blk j=some [.fn fid [] caps]) (hf:AR Tryz.prog fid ((alA x)::caps) σ (fun v σ'=>v= .d (.bool b)∧σ'=σ)):
 AR Tryz.prog 181 [(alA x),.gp j 0] σ (fun v σ'=>v= .d (.bool (!b))∧σ'=σ):=by
 refine Pl (by simp) ?_
 rw [BF]
 obtain ⟨c,vs,o,n,u,ns,ks,al⟩:=x
 simp only [Al.A1,alA,AF,AI] at hf ⊢
 (repeat' (first|refine Run.ct rfl ?_|((first|refine Run.reg mixed ?_|refine Run.AJ ?_|refine Run.Aa JG (AM.le_refl _) ?_|(refine ⟨fid,[],caps,rfl,hb,AG.det hf ?_ (by simp [hcp,KI,Fb])⟩))<;>try simp -implicitDefEqProofs only [hj,go_sem])|fail))
theorem X3 {fid:FuncId} {caps:List AV} (hb:Ap Tryz.prog fid=true) (hcp:caps.all AV.Au=true) (p:Al→Bool) (l:List Al) (σ:AM) (hf:∀x∈l,∀σ1,σ.le σ1→AR Tryz.prog fid ((alA x)::caps) σ1 (fun v σ'=>v= .d (.bool (p x))∧σ'=σ1)):
 AR Tryz.prog 158 [.d (.sl (l.map Al.enc)),.fn fid [] caps] σ (fun v σ'=>v= .d (.bool (l.all p))∧σ'=σ):=by
 refine Rl (by simp) ?_
 rw [BF]
 (repeat' (first|refine Run.ct rfl ?_|((first|refine Run.reg mixed ?_|refine Run.AJ ?_)<;>try simp -implicitDefEqProofs only [go_sem])|fail))
 intro j hj
 have hle:=FG (cs:=[.fn fid [] caps]) hj
 (repeat' (first|refine Run.ct rfl ?_|((first|refine Run.reg mixed ?_|refine Run.AJ ?_|(refine Run.Aa Kw (σ2:=σ) hle ?_)|refine AG.det (OX (by kernel_rfl) rfl (fun x=>!p x) l _ (fun x hx=>VS hb hcp x (p x) j _ (by simp only [AO,if_true]) (hf x hx _ hle))) ?_)<;>try simp -implicitDefEqProofs only [go_sem])|fail))
 simp [Ni]
end Go.Ab
namespace Go.Ab
open Go.Proofs
def singleR (r:List Tok×Nat×Int) (k:Int) (s:Str):Bool:=
 r.2.2==0&&(r.1.length==2&&(match r.1 with|[]=>false|a::_=>a.kind==k&&a.text==s))
theorem Yp (k:Int) (s:Str):GJ k s=singleR (BJ s) k s:=rfl
theorem lG {α:Type} {l:List α} (h:l.length=2):∃a b,l=[a,b]:=by
 match l,h with
 |[a,b],_=>exact ⟨a,b,rfl⟩
theorem DI (s:Str) (k:Int) (σ:AM):AR Tryz.prog 54 [.d (.str s),.d (.int .i64 k)] σ (fun v σ'=>v= .d (.bool (GJ k s))∧σ'=σ):=by
 refine eK (by simp) ?_
 rw [BF,Yp]
 have hsp:=fO s σ
 generalize BJ s=r at hsp ⊢
 obtain ⟨l,q,e⟩:=r
 simp only [Hd] at hsp
 cases he:(e==0) with
 |false=>
  (repeat' (first|refine Run.ct rfl ?_|((first|refine Run.reg mixed ?_|refine Run.AJ ?_|refine Run.Aa Ku (AM.le_refl _) ?_|refine AG.det (hsp) ?_)<;>try simp -implicitDefEqProofs only [he,go_sem])|fail))
  simp [singleR,he]
 |true=>
 by_cases hl:l.length=2
 · obtain ⟨⟨ak,at',ap⟩,b,rfl⟩:=lG hl
   simp only [Tok.enc,AF,AI] at hsp
   cases hk:(ak==k) with
   |false=>
    (repeat' (first|refine Run.ct rfl ?_|((first|refine Run.reg mixed ?_|refine Run.AJ ?_|refine Run.Aa Ku (AM.le_refl _) ?_|refine AG.det (hsp) ?_|(refine AP rfl (fun h=>?_) (fun h=>?_)<;>try (cases h;done)))<;>try simp -implicitDefEqProofs only [he,hk,go_sem])|fail))
    simp [singleR,hk]
   |true=>
    (repeat' (first|refine Run.ct rfl ?_|((first|refine Run.reg mixed ?_|refine Run.AJ ?_|refine Run.Aa Ku (AM.le_refl _) ?_|refine AG.det (hsp) ?_|(refine AP rfl (fun h=>?_) (fun h=>?_)<;>try (cases h;done)))<;>try simp -implicitDefEqProofs only [he,hk,FL,go_sem])|fail))
    simp [singleR,hk,he]
 · have h2:((l.length:Int)==2)=false:=by simp only [beq_eq_false_iff_ne,ne_eq];omega
   (repeat' (first|refine Run.ct rfl ?_|((first|refine Run.reg mixed ?_|refine Run.AJ ?_|refine Run.Aa Ku (AM.le_refl _) ?_|refine AG.det (hsp) ?_)<;>try simp -implicitDefEqProofs only [he,AB,h2,go_sem])|fail))
   simp [singleR,hl]
theorem Nu (s:Str) (k:Int) (σ:AM):AR Tryz.prog 107 [.d (.str s),.d (.int .i64 k)] σ (fun v σ'=>v= .d (.bool (GJ k s))∧σ'=σ):=by
 refine V8 (by simp) ?_
 rw [BF,Yp]
 have hsp:=S4 s σ
 generalize BJ s=r at hsp ⊢
 obtain ⟨l,q,e⟩:=r
 simp only [Hd] at hsp
 cases he:(e==0) with
 |false=>
  (repeat' (first|refine Run.ct rfl ?_|((first|refine Run.reg mixed ?_|refine Run.AJ ?_|refine Run.Aa F7 (AM.le_refl _) ?_|refine AG.det (hsp) ?_)<;>try simp -implicitDefEqProofs only [he,go_sem])|fail))
  simp [singleR,he]
 |true=>
 by_cases hl:l.length=2
 · obtain ⟨⟨ak,at',ap⟩,b,rfl⟩:=lG hl
   simp only [Tok.enc,AF,AI] at hsp
   cases hk:(ak==k) with
   |false=>
    (repeat' (first|refine Run.ct rfl ?_|((first|refine Run.reg mixed ?_|refine Run.AJ ?_|refine Run.Aa F7 (AM.le_refl _) ?_|refine AG.det (hsp) ?_|(refine AP rfl (fun h=>?_) (fun h=>?_)<;>try (cases h;done)))<;>try simp -implicitDefEqProofs only [he,hk,go_sem])|fail))
    simp [singleR,hk]
   |true=>
    (repeat' (first|refine Run.ct rfl ?_|((first|refine Run.reg mixed ?_|refine Run.AJ ?_|refine Run.Aa F7 (AM.le_refl _) ?_|refine AG.det (hsp) ?_|(refine AP rfl (fun h=>?_) (fun h=>?_)<;>try (cases h;done)))<;>try simp -implicitDefEqProofs only [he,hk,FL,go_sem])|fail))
    simp [singleR,hk,he]
 · have h2:((l.length:Int)==2)=false:=by simp only [beq_eq_false_iff_ne,ne_eq];omega
   (repeat' (first|refine Run.ct rfl ?_|((first|refine Run.reg mixed ?_|refine Run.AJ ?_|refine Run.Aa F7 (AM.le_refl _) ?_|refine AG.det (hsp) ?_)<;>try simp -implicitDefEqProofs only [he,AB,h2,go_sem])|fail))
   simp [singleR,hl]
theorem Dl (s:Str) (σ:AM):AR Tryz.prog 51 [.d (.str s)] σ (fun v σ'=>v= .d (.bool (DY s))∧σ'=σ):=by
 refine We (by simp) ?_
 rw [BC]
 (repeat' (first|refine Run.ct rfl ?_|((first|refine Run.reg mixed ?_|refine Run.AJ ?_|refine Run.Aa Q6 (AM.le_refl _) ?_|refine AG.det (Nu s 1 _) ?_)<;>try simp -implicitDefEqProofs only [go_sem])|fail))
 rfl
theorem Bb (s:Str) (σ:AM):AR Tryz.prog 101 [.d (.str s)] σ (fun v σ'=>v= .d (.bool (upperB s))∧σ'=σ):=by
 refine V9 (by simp) ?_
 rw [BC]
 (repeat' (first|refine Run.ct rfl ?_|((first|refine Run.reg mixed ?_|refine Run.AJ ?_|refine Run.Aa Ob (AM.le_refl _) ?_|refine AG.det (Nu s 2 _) ?_)<;>try simp -implicitDefEqProofs only [go_sem])|fail))
 rfl
theorem KW (s:Str) (σ:AM):AR Tryz.prog 157 [.d (.str s)] σ (fun v σ'=>v= .d (.bool (GM s))∧σ'=σ):=by
 refine Wd (by simp) ?_
 rw [BC]
 cases h0:(s==[]) with
 |true=>
  (repeat' (first|refine Run.ct rfl ?_|((first|refine Run.reg mixed ?_|refine Run.AJ ?_|refine Run.Aa L8 (AM.le_refl _) ?_)<;>try simp -implicitDefEqProofs only [FL,h0,go_sem])|fail))
  simp [GM,h0]
 |false=>
  (repeat' (first|refine Run.ct rfl ?_|((first|refine Run.reg mixed ?_|refine Run.AJ ?_|refine Run.Aa L8 (AM.le_refl _) ?_|refine AG.det (Dl s _) ?_)<;>try simp -implicitDefEqProofs only [FL,h0,go_sem])|fail))
  simp [GM,h0]
def Md (l:List Str) (strict:Bool):Bool:=decide (l.length≤6)&&l.all (fun s=>DY s||(s==[]&& !strict))
theorem gt6 (n:Nat):decide ((6:Int) < (n:Int))=!decide (n≤6):=gtN n 6
theorem X4 {α:Type} {p:α→Bool} {l:List α} {i:Nat} {x:α} (hx:l[i]?=some x) (hp:p x=false):l.all p=false:=by
 rw [List.all_eq_false];exact ⟨x,Ad hx,by rw [hp];simp⟩
theorem K7 {α:Type} {p:α→Bool} {l:List α} {i:Nat} {x:α} (h:(l.take i).all p=true) (hx:l[i]?=some x) (hp:p x=true):(l.take (i+1)).all p=true:=by
 rw [Ff hx,CC,h];simp [hp]
theorem Ib (l:List Str) (strict:Bool) (σ:AM):AR Tryz.prog 55 [.d (.sl (l.map Cn)),.d (.bool strict)] σ (fun v σ'=>v= .d (.bool (Md l strict))∧σ'=σ):=by
 refine iZ (by simp) ?_
 rw [BF]
 by_cases h6:l.length≤6
 case neg=>
  (repeat' (first|refine Run.ct rfl ?_|((first|refine Run.reg mixed ?_|refine Run.AJ ?_|refine Run.Aa Ms (AM.le_refl _) ?_)<;>try simp -implicitDefEqProofs only [gt6,AB,decide_eq_false h6,go_sem])|fail))
  simp [Md,h6]
 (repeat' (first|refine Run.ct rfl ?_|((first|refine Run.reg mixed ?_|refine Run.AJ ?_)<;>try simp -implicitDefEqProofs only [gt6,AB,decide_eq_true h6,go_sem])|fail))
 refine Run.B1 ?_
 refine Run.B7 ((fun (a0:AV) (a1:AV)=>fun (i:Nat)=>put 0 a0 (put 1 a1 (put 5 (.d (.int .i64 i)) U))) _ _) (fun _=>E) (fun _=>σ) (fun i=>i≤l.length∧(l.take i).all (fun s=>DY s||(s==[]&& !strict))=true) (fun i=>l.length - i) ?_ 0 ⟨by simp,by simp⟩
 rintro i ⟨hi,hok⟩ ih
 by_cases hlt:i < l.length
 · obtain ⟨x,hx⟩:=Ba hlt
   have he:=BX (enc:=Cn) hx
   simp only [Cn] at he
   have hw1:=BQ (show i+1≤9000000000000000000 by omega)
   have hn:=DI x 1 σ
   rw [show GJ 1 x=DY x from rfl] at hn
   cases hp:(DY x||(x==[]&& !strict)) with
   |true=>
    cases hnm:DY x with
    |true=>
     rw [hnm] at hn
     (repeat' (first|refine Run.ct rfl ?_|((first|refine Run.reg mixed ?_|refine Run.AJ ?_|refine AG.det (hn) ?_)<;>try simp -implicitDefEqProofs only [BG hlt,AB,he,hw1,FL,go_sem])|fail))
     exact ih (i+1) ⟨by omega,K7 hok hx hp⟩ (by omega)
    |false=>
     rw [hnm] at hn
     simp only [hnm,M8,AN,CM] at hp
     obtain ⟨hp1,rfl⟩:=hp
     (repeat' (first|refine Run.ct rfl ?_|((first|refine Run.reg mixed ?_|refine Run.AJ ?_|refine AG.det (hn) ?_)<;>try simp -implicitDefEqProofs only [BG hlt,AB,he,hw1,FL,hp1,go_sem])|fail))
     exact ih (i+1) ⟨by omega,K7 hok hx (by simp [hnm,hp1])⟩ (by omega)
   |false=>
    have hnm:DY x=false:=(Dq.1 hp).1
    rw [hnm] at hn
    have hres:Md l strict=false:=by rw [Md,X4 hx hp,D2]
    cases h0:(x==[]) with
    |false=>
     (repeat' (first|refine Run.ct rfl ?_|((first|refine Run.reg mixed ?_|refine Run.AJ ?_|refine Run.Aa Ms (AM.le_refl _) ?_|refine AG.det (hn) ?_)<;>try simp -implicitDefEqProofs only [BG hlt,AB,he,hw1,FL,h0,go_sem])|fail))
     rw [hres]
    |true=>
     have hst:strict=true:=by simpa [hnm,h0] using hp
     (repeat' (first|refine Run.ct rfl ?_|((first|refine Run.reg mixed ?_|refine Run.AJ ?_|refine Run.Aa Ms (AM.le_refl _) ?_|refine AG.det (hn) ?_)<;>try simp -implicitDefEqProofs only [BG hlt,AB,he,hw1,FL,h0,hst,go_sem])|fail))
     rw [← hst,hres]
 · (repeat' (first|refine Run.ct rfl ?_|((first|refine Run.reg mixed ?_|refine Run.AJ ?_|refine Run.Aa Ms (AM.le_refl _) ?_)<;>try simp -implicitDefEqProofs only [E0 hlt,AB,go_sem])|fail))
   rw [A8 (by omega)] at hok
   rw [Md,hok];simp [h6]
end Go.Ab
