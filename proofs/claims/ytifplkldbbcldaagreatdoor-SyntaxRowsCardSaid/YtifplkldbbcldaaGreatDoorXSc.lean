/- Names and arities, in plain data. Lists searched with a function. Names. Conditions: none. -/
import Derived.Test.YtifplkldbbcldaaGreatDoorXPf
set_option linter.unusedSimpArgs false
set_option linter.unusedVariables false
set_option maxRecDepth 4000
set_option maxHeartbeats 8000000
open List renaming getElem?_eq_some_iff→A8,mem_append→BV,mem_singleton→Ev,length_map→AE,mem_of_getElem?→Ae,take_of_length_le→Ad,any_eq_not_all_not→N7,map_cons→AF,map_nil→AI,all_append→C9
open Bool renaming false_or→MZ,and_eq_true→AL,not_eq_true'→CP,or_eq_false_iff→Cw,and_false→D5
namespace Go.Ab
def mO (o:Option Nat):Int:=match o with|some i=>i|none=>-1
def Ex.op:Ex→Int| .mk o _ _ _ _ _=>o
def Ex.num:Ex→Int| .mk _ _ u _ _ _=>u
def Ex.name:Ex→Str| .mk _ n _ _ _ _=>n
def Ex.names:Ex→List Str| .mk _ _ _ ns _ _=>ns
def Ex.kids:Ex→List Ex| .mk _ _ _ _ ks _=>ks
def Ex.alts:Ex→List Al| .mk _ _ _ _ _ al=>al
def Al.con:Al→Str| .mk c _ _=>c
def Al.vars:Al→List Str| .mk _ vs _=>vs
def Al.body:Al→Ex| .mk _ _ b=>b
end Go.Ab
namespace Go.Ab
open Go.Proofs
theorem P3 {α:Type} {p:α→Bool} {l:List α} {i:Nat} {x:α} (h:∀y∈l.take i,p y=false) (hx:l[i]?=some x) (hp:p x=true):l.findIdx? p=some i:=by
 rw [List.findIdx?_eq_some_iff_getElem]
 obtain ⟨hl,he⟩:=A8.1 hx
 refine ⟨hl,by rw [he];exact hp,fun j hj=>?_⟩
 rw [h (l[j]'(by omega)) (List.mem_take_iff_getElem.2 ⟨j,by omega,rfl⟩)];simp
theorem P4 {α:Type} {p:α→Bool} {l:List α} (h:∀y∈l,p y=false):l.findIdx? p=none:=by
 rw [List.findIdx?_eq_none_iff];exact h
theorem Wz {α:Type} {p:α→Bool} {l:List α} {i:Nat} {x:α} (h:∀y∈l.take i,p y=false) (hx:l[i]?=some x) (hp:p x=false):∀y∈l.take (i+1),p y=false:=by
 intro y hy
 rw [MX hx] at hy
 rcases BV.1 hy with hy|hy
 · exact h y hy
 · simp only [Ev] at hy;subst hy;exact hp
theorem Wt (o:Option Nat):decide (0≤mO o)=o.isSome:=by
 cases o<;>simp [mO]
theorem N9 {α:Type} (p:α→Bool) (l:List α):(l.findIdx? p).isSome=l.any p:=by
 rw [List.findIdx?_isSome]
theorem Sh {fid:FuncId} {caps:List AV} (hb:Ar Tryz.prog fid=true) (hcp:caps.all AV.At=true) (p:Str→Bool) (l:List Str) (σ:AN) (hf:∀x∈l,AQ Tryz.prog fid ((.d (.str x))::caps) σ (fun v σ'=>v= .d (.bool (p x))∧σ'=σ)):
 AQ Tryz.prog 154 [.d (.sl (l.map D3)),.fn fid [] caps] σ (fun v σ'=>v= .d (.int .i64 (mO (l.findIdx? p)))∧σ'=σ):=by
 refine NV (by simp) ?_
 rw [BI]
 refine Run.slot 0 (fun hb0=>?_)
 simp only [HX,if_true,AV.FA,AE] at hb0
 (repeat' (first|refine Run.ct rfl ?_|((first|refine Run.reg mixed ?_|refine Run.AJ ?_)<;>try simp -implicitDefEqProofs only [AE,go_sem])|fail))
 refine Run.Be ?_
 refine Run.Bn ((fun (a0:AV) (a1:AV) (a7:AV)=>fun (i:Nat)=>put 0 a0 (put 1 a1 (put 7 a7 (put 8 (.d (.int .i64 i)) U)))) _ _ _) (fun _=>E) (fun _=>σ) (fun i=>i≤l.length∧∀x∈l.take i,p x=false) (fun i=>l.length - i) ?_ 0 ⟨by simp,by simp⟩
 rintro i ⟨hi,hno⟩ ih
 by_cases hlt:i < l.length
 · obtain ⟨x,hx⟩:=Bw hlt
   have he:=Bh (enc:=D3) hx
   have hw1:IntKind.i64.wrap ((i:Int)+1)=((i+1:Nat):Int):=by rw [Ax (by omega) (by omega)];omega
   have hc:=hf x (Ae hx)
   simp only [D3] at he
   cases hp:p x with
   |true=>
    rw [hp] at hc
    (repeat' (first|refine Run.ct rfl ?_|((first|refine Run.reg mixed ?_|refine Run.AJ ?_|refine Run.A9 FD (AN.le_refl _) ?_|(refine ⟨fid,[],caps,rfl,hb,AH.det hc ?_ (by simp [hcp,KH,Fc])⟩))<;>try simp -implicitDefEqProofs only [BX hlt,he,hw1,go_sem])|fail))
    rw [P3 hno hx hp];rfl
   |false=>
    rw [hp] at hc
    (repeat' (first|refine Run.ct rfl ?_|((first|refine Run.reg mixed ?_|refine Run.AJ ?_|(refine ⟨fid,[],caps,rfl,hb,AH.det hc ?_ (by simp [hcp,KH,Fc])⟩))<;>try simp -implicitDefEqProofs only [BX hlt,he,hw1,go_sem])|fail))
    exact ih (i+1) ⟨by omega,Wz hno hx hp⟩ (by omega)
 · (repeat' (first|refine Run.ct rfl ?_|((first|refine Run.reg mixed ?_|refine Run.AJ ?_|refine Run.A9 FD (AN.le_refl _) ?_)<;>try simp -implicitDefEqProofs only [F2 hlt,go_sem])|fail))
   rw [Ad (by omega)] at hno
   rw [P4 hno];rfl
theorem PR {fid:FuncId} {caps:List AV} (hb:Ar Tryz.prog fid=true) (hcp:caps.all AV.At=true) (p:Str→Bool) (l:List Str) (σ:AN) (hf:∀x∈l,AQ Tryz.prog fid ((.d (.str x))::caps) σ (fun v σ'=>v= .d (.bool (p x))∧σ'=σ)):
 AQ Tryz.prog 108 [.d (.sl (l.map D3)),.fn fid [] caps] σ (fun v σ'=>v= .d (.bool (l.any p))∧σ'=σ):=by
 refine L2 (by simp) ?_
 rw [BI]
 (repeat' (first|refine Run.ct rfl ?_|((first|refine Run.reg mixed ?_|refine Run.AJ ?_|refine Run.A9 GQ (AN.le_refl _) ?_|refine AH.det (Sh hb hcp p l σ hf) ?_)<;>try simp -implicitDefEqProofs only [Wt,N9,go_sem])|fail))
theorem WZ {fid:FuncId} {caps:List AV} (hb:Ar Tryz.prog fid=true) (hcp:caps.all AV.At=true) (x:Str) (b:Bool) (j:Nat) (σ:AN) (hj:σ.blk j=some [.fn fid [] caps]) (hf:AQ Tryz.prog fid ((.d (.str x))::caps) σ (fun v σ'=>v= .d (.bool b)∧σ'=σ)):
 AQ Tryz.prog 109 [(.d (.str x)),.gp j 0] σ (fun v σ'=>v= .d (.bool (!b))∧σ'=σ):=by
 refine Qb (by simp) ?_
 rw [BI]
 (repeat' (first|refine Run.ct rfl ?_|((first|refine Run.reg mixed ?_|refine Run.AJ ?_|refine Run.A9 Jm (AN.le_refl _) ?_|(refine ⟨fid,[],caps,rfl,hb,AH.det hf ?_ (by simp [hcp,KH,Fc])⟩))<;>try simp -implicitDefEqProofs only [hj,go_sem])|fail))
theorem He {fid:FuncId} {caps:List AV} (hb:Ar Tryz.prog fid=true) (hcp:caps.all AV.At=true) (p:Str→Bool) (l:List Str) (σ:AN) (hf:∀x∈l,∀σ1,σ.le σ1→AQ Tryz.prog fid ((.d (.str x))::caps) σ1 (fun v σ'=>v= .d (.bool (p x))∧σ'=σ1)):
 AQ Tryz.prog 52 [.d (.sl (l.map D3)),.fn fid [] caps] σ (fun v σ'=>v= .d (.bool (l.all p))∧σ'=σ):=by
 refine So (by simp) ?_
 rw [BI]
 (repeat' (first|refine Run.ct rfl ?_|((first|refine Run.reg mixed ?_|refine Run.AJ ?_)<;>try simp -implicitDefEqProofs only [go_sem])|fail))
 intro j hj
 have hle:=FI (cs:=[.fn fid [] caps]) hj
 (repeat' (first|refine Run.ct rfl ?_|((first|refine Run.reg mixed ?_|refine Run.AJ ?_|(refine Run.A9 Lp (σ2:=σ) hle ?_)|refine AH.det (PR (by kernel_rfl) rfl (fun x=>!p x) l _ (fun x hx=>WZ hb hcp x (p x) j _ (by simp only [AO,if_true]) (hf x hx _ hle))) ?_)<;>try simp -implicitDefEqProofs only [go_sem])|fail))
 simp [N7]
theorem NS {fid:FuncId} {caps:List AV} (hb:Ar Tryz.prog fid=true) (hcp:caps.all AV.At=true) (p:TE→Bool) (l:List TE) (σ:AN) (hf:∀x∈l,AQ Tryz.prog fid ((teA x)::caps) σ (fun v σ'=>v= .d (.bool (p x))∧σ'=σ)):
 AQ Tryz.prog 179 [.d (.sl (l.map TE.enc)),.fn fid [] caps] σ (fun v σ'=>v= .d (.int .i64 (mO (l.findIdx? p)))∧σ'=σ):=by
 refine J2 (by simp) ?_
 rw [BI]
 refine Run.slot 0 (fun hb0=>?_)
 simp only [HX,if_true,AV.FA,AE] at hb0
 (repeat' (first|refine Run.ct rfl ?_|((first|refine Run.reg mixed ?_|refine Run.AJ ?_)<;>try simp -implicitDefEqProofs only [AE,go_sem])|fail))
 refine Run.Be ?_
 refine Run.Bn ((fun (a0:AV) (a1:AV) (a7:AV)=>fun (i:Nat)=>put 0 a0 (put 1 a1 (put 7 a7 (put 8 (.d (.int .i64 i)) U)))) _ _ _) (fun _=>E) (fun _=>σ) (fun i=>i≤l.length∧∀x∈l.take i,p x=false) (fun i=>l.length - i) ?_ 0 ⟨by simp,by simp⟩
 rintro i ⟨hi,hno⟩ ih
 by_cases hlt:i < l.length
 · obtain ⟨x,hx⟩:=Bw hlt
   have he:=Bh (enc:=TE.enc) hx
   have hw1:IntKind.i64.wrap ((i:Int)+1)=((i+1:Nat):Int):=by rw [Ax (by omega) (by omega)];omega
   have hc:=hf x (Ae hx)
   obtain ⟨k,n,al⟩:=x
   simp only [TE.A0,teA,AF,AI] at he hc
   cases hp:p (.mk k n al) with
   |true=>
    rw [hp] at hc
    (repeat' (first|refine Run.ct rfl ?_|((first|refine Run.reg mixed ?_|refine Run.AJ ?_|refine Run.A9 D2 (AN.le_refl _) ?_|(refine ⟨fid,[],caps,rfl,hb,AH.det hc ?_ (by simp [hcp,KH,Fc])⟩))<;>try simp -implicitDefEqProofs only [BX hlt,he,hw1,go_sem])|fail))
    rw [P3 hno hx hp];rfl
   |false=>
    rw [hp] at hc
    (repeat' (first|refine Run.ct rfl ?_|((first|refine Run.reg mixed ?_|refine Run.AJ ?_|(refine ⟨fid,[],caps,rfl,hb,AH.det hc ?_ (by simp [hcp,KH,Fc])⟩))<;>try simp -implicitDefEqProofs only [BX hlt,he,hw1,go_sem])|fail))
    exact ih (i+1) ⟨by omega,Wz hno hx hp⟩ (by omega)
 · (repeat' (first|refine Run.ct rfl ?_|((first|refine Run.reg mixed ?_|refine Run.AJ ?_|refine Run.A9 D2 (AN.le_refl _) ?_)<;>try simp -implicitDefEqProofs only [F2 hlt,go_sem])|fail))
   rw [Ad (by omega)] at hno
   rw [P4 hno];rfl
theorem LQ {fid:FuncId} {caps:List AV} (hb:Ar Tryz.prog fid=true) (hcp:caps.all AV.At=true) (p:TE→Bool) (l:List TE) (σ:AN) (hf:∀x∈l,AQ Tryz.prog fid ((teA x)::caps) σ (fun v σ'=>v= .d (.bool (p x))∧σ'=σ)):
 AQ Tryz.prog 151 [.d (.sl (l.map TE.enc)),.fn fid [] caps] σ (fun v σ'=>v= .d (.bool (l.any p))∧σ'=σ):=by
 refine IN (by simp) ?_
 rw [BI]
 (repeat' (first|refine Run.ct rfl ?_|((first|refine Run.reg mixed ?_|refine Run.AJ ?_|refine Run.A9 Ek (AN.le_refl _) ?_|refine AH.det (NS hb hcp p l σ hf) ?_)<;>try simp -implicitDefEqProofs only [Wt,N9,go_sem])|fail))
theorem Q7 {fid:FuncId} {caps:List AV} (hb:Ar Tryz.prog fid=true) (hcp:caps.all AV.At=true) (x:TE) (b:Bool) (j:Nat) (σ:AN) (hj:σ.blk j=some [.fn fid [] caps]) (hf:AQ Tryz.prog fid ((teA x)::caps) σ (fun v σ'=>v= .d (.bool b)∧σ'=σ)):
 AQ Tryz.prog 152 [(teA x),.gp j 0] σ (fun v σ'=>v= .d (.bool (!b))∧σ'=σ):=by
 refine MI (by simp) ?_
 rw [BI]
 obtain ⟨k,n,al⟩:=x
 simp only [TE.A0,teA,AF,AI] at hf ⊢
 (repeat' (first|refine Run.ct rfl ?_|((first|refine Run.reg mixed ?_|refine Run.AJ ?_|refine Run.A9 Gd (AN.le_refl _) ?_|(refine ⟨fid,[],caps,rfl,hb,AH.det hf ?_ (by simp [hcp,KH,Fc])⟩))<;>try simp -implicitDefEqProofs only [hj,go_sem])|fail))
theorem Lh {fid:FuncId} {caps:List AV} (hb:Ar Tryz.prog fid=true) (hcp:caps.all AV.At=true) (p:TE→Bool) (l:List TE) (σ:AN) (hf:∀x∈l,∀σ1,σ.le σ1→AQ Tryz.prog fid ((teA x)::caps) σ1 (fun v σ'=>v= .d (.bool (p x))∧σ'=σ1)):
 AQ Tryz.prog 104 [.d (.sl (l.map TE.enc)),.fn fid [] caps] σ (fun v σ'=>v= .d (.bool (l.all p))∧σ'=σ):=by
 refine NW (by simp) ?_
 rw [BI]
 (repeat' (first|refine Run.ct rfl ?_|((first|refine Run.reg mixed ?_|refine Run.AJ ?_)<;>try simp -implicitDefEqProofs only [go_sem])|fail))
 intro j hj
 have hle:=FI (cs:=[.fn fid [] caps]) hj
 (repeat' (first|refine Run.ct rfl ?_|((first|refine Run.reg mixed ?_|refine Run.AJ ?_|(refine Run.A9 H4 (σ2:=σ) hle ?_)|refine AH.det (LQ (by kernel_rfl) rfl (fun x=>!p x) l _ (fun x hx=>Q7 hb hcp x (p x) j _ (by simp only [AO,if_true]) (hf x hx _ hle))) ?_)<;>try simp -implicitDefEqProofs only [go_sem])|fail))
 simp [N7]
theorem No {fid:FuncId} {caps:List AV} (hb:Ar Tryz.prog fid=true) (hcp:caps.all AV.At=true) (p:CE→Bool) (l:List CE) (σ:AN) (hf:∀x∈l,AQ Tryz.prog fid ((ceA x)::caps) σ (fun v σ'=>v= .d (.bool (p x))∧σ'=σ)):
 AQ Tryz.prog 178 [.d (.sl (l.map CE.enc)),.fn fid [] caps] σ (fun v σ'=>v= .d (.int .i64 (mO (l.findIdx? p)))∧σ'=σ):=by
 refine KD (by simp) ?_
 rw [BI]
 refine Run.slot 0 (fun hb0=>?_)
 simp only [HX,if_true,AV.FA,AE] at hb0
 (repeat' (first|refine Run.ct rfl ?_|((first|refine Run.reg mixed ?_|refine Run.AJ ?_)<;>try simp -implicitDefEqProofs only [AE,go_sem])|fail))
 refine Run.Be ?_
 refine Run.Bn ((fun (a0:AV) (a1:AV) (a7:AV)=>fun (i:Nat)=>put 0 a0 (put 1 a1 (put 7 a7 (put 8 (.d (.int .i64 i)) U)))) _ _ _) (fun _=>E) (fun _=>σ) (fun i=>i≤l.length∧∀x∈l.take i,p x=false) (fun i=>l.length - i) ?_ 0 ⟨by simp,by simp⟩
 rintro i ⟨hi,hno⟩ ih
 by_cases hlt:i < l.length
 · obtain ⟨x,hx⟩:=Bw hlt
   have he:=Bh (enc:=CE.enc) hx
   have hw1:IntKind.i64.wrap ((i:Int)+1)=((i+1:Nat):Int):=by rw [Ax (by omega) (by omega)];omega
   have hc:=hf x (Ae hx)
   obtain ⟨nm,ar⟩:=x
   simp only [CE.enc,ceA,AF,AI] at he hc
   cases hp:p (⟨nm,ar⟩) with
   |true=>
    rw [hp] at hc
    (repeat' (first|refine Run.ct rfl ?_|((first|refine Run.reg mixed ?_|refine Run.AJ ?_|refine Run.A9 Dm (AN.le_refl _) ?_|(refine ⟨fid,[],caps,rfl,hb,AH.det hc ?_ (by simp [hcp,KH,Fc])⟩))<;>try simp -implicitDefEqProofs only [BX hlt,he,hw1,go_sem])|fail))
    rw [P3 hno hx hp];rfl
   |false=>
    rw [hp] at hc
    (repeat' (first|refine Run.ct rfl ?_|((first|refine Run.reg mixed ?_|refine Run.AJ ?_|(refine ⟨fid,[],caps,rfl,hb,AH.det hc ?_ (by simp [hcp,KH,Fc])⟩))<;>try simp -implicitDefEqProofs only [BX hlt,he,hw1,go_sem])|fail))
    exact ih (i+1) ⟨by omega,Wz hno hx hp⟩ (by omega)
 · (repeat' (first|refine Run.ct rfl ?_|((first|refine Run.reg mixed ?_|refine Run.AJ ?_|refine Run.A9 Dm (AN.le_refl _) ?_)<;>try simp -implicitDefEqProofs only [F2 hlt,go_sem])|fail))
   rw [Ad (by omega)] at hno
   rw [P4 hno];rfl
theorem MA {fid:FuncId} {caps:List AV} (hb:Ar Tryz.prog fid=true) (hcp:caps.all AV.At=true) (p:CE→Bool) (l:List CE) (σ:AN) (hf:∀x∈l,AQ Tryz.prog fid ((ceA x)::caps) σ (fun v σ'=>v= .d (.bool (p x))∧σ'=σ)):
 AQ Tryz.prog 149 [.d (.sl (l.map CE.enc)),.fn fid [] caps] σ (fun v σ'=>v= .d (.bool (l.any p))∧σ'=σ):=by
 refine Ii (by simp) ?_
 rw [BI]
 (repeat' (first|refine Run.ct rfl ?_|((first|refine Run.reg mixed ?_|refine Run.AJ ?_|refine Run.A9 Ez (AN.le_refl _) ?_|refine AH.det (No hb hcp p l σ hf) ?_)<;>try simp -implicitDefEqProofs only [Wt,N9,go_sem])|fail))
theorem RQ {fid:FuncId} {caps:List AV} (hb:Ar Tryz.prog fid=true) (hcp:caps.all AV.At=true) (x:CE) (b:Bool) (j:Nat) (σ:AN) (hj:σ.blk j=some [.fn fid [] caps]) (hf:AQ Tryz.prog fid ((ceA x)::caps) σ (fun v σ'=>v= .d (.bool b)∧σ'=σ)):
 AQ Tryz.prog 150 [(ceA x),.gp j 0] σ (fun v σ'=>v= .d (.bool (!b))∧σ'=σ):=by
 refine Mo (by simp) ?_
 rw [BI]
 obtain ⟨nm,ar⟩:=x
 simp only [CE.enc,ceA,AF,AI] at hf ⊢
 (repeat' (first|refine Run.ct rfl ?_|((first|refine Run.reg mixed ?_|refine Run.AJ ?_|refine Run.A9 Gz (AN.le_refl _) ?_|(refine ⟨fid,[],caps,rfl,hb,AH.det hf ?_ (by simp [hcp,KH,Fc])⟩))<;>try simp -implicitDefEqProofs only [hj,go_sem])|fail))
theorem Th {fid:FuncId} {caps:List AV} (hb:Ar Tryz.prog fid=true) (hcp:caps.all AV.At=true) (p:CE→Bool) (l:List CE) (σ:AN) (hf:∀x∈l,∀σ1,σ.le σ1→AQ Tryz.prog fid ((ceA x)::caps) σ1 (fun v σ'=>v= .d (.bool (p x))∧σ'=σ1)):
 AQ Tryz.prog 102 [.d (.sl (l.map CE.enc)),.fn fid [] caps] σ (fun v σ'=>v= .d (.bool (l.all p))∧σ'=σ):=by
 refine Nv (by simp) ?_
 rw [BI]
 (repeat' (first|refine Run.ct rfl ?_|((first|refine Run.reg mixed ?_|refine Run.AJ ?_)<;>try simp -implicitDefEqProofs only [go_sem])|fail))
 intro j hj
 have hle:=FI (cs:=[.fn fid [] caps]) hj
 (repeat' (first|refine Run.ct rfl ?_|((first|refine Run.reg mixed ?_|refine Run.AJ ?_|(refine Run.A9 Hp (σ2:=σ) hle ?_)|refine AH.det (MA (by kernel_rfl) rfl (fun x=>!p x) l _ (fun x hx=>RQ hb hcp x (p x) j _ (by simp only [AO,if_true]) (hf x hx _ hle))) ?_)<;>try simp -implicitDefEqProofs only [go_sem])|fail))
 simp [N7]
theorem RN {fid:FuncId} {caps:List AV} (hb:Ar Tryz.prog fid=true) (hcp:caps.all AV.At=true) (p:Al→Bool) (l:List Al) (σ:AN) (hf:∀x∈l,AQ Tryz.prog fid ((alA x)::caps) σ (fun v σ'=>v= .d (.bool (p x))∧σ'=σ)):
 AQ Tryz.prog 195 [.d (.sl (l.map Al.enc)),.fn fid [] caps] σ (fun v σ'=>v= .d (.int .i64 (mO (l.findIdx? p)))∧σ'=σ):=by
 refine Mn (by simp) ?_
 rw [BI]
 refine Run.slot 0 (fun hb0=>?_)
 simp only [HX,if_true,AV.FA,AE] at hb0
 (repeat' (first|refine Run.ct rfl ?_|((first|refine Run.reg mixed ?_|refine Run.AJ ?_)<;>try simp -implicitDefEqProofs only [AE,go_sem])|fail))
 refine Run.Be ?_
 refine Run.Bn ((fun (a0:AV) (a1:AV) (a7:AV)=>fun (i:Nat)=>put 0 a0 (put 1 a1 (put 7 a7 (put 8 (.d (.int .i64 i)) U)))) _ _ _) (fun _=>E) (fun _=>σ) (fun i=>i≤l.length∧∀x∈l.take i,p x=false) (fun i=>l.length - i) ?_ 0 ⟨by simp,by simp⟩
 rintro i ⟨hi,hno⟩ ih
 by_cases hlt:i < l.length
 · obtain ⟨x,hx⟩:=Bw hlt
   have he:=Bh (enc:=Al.enc) hx
   have hw1:IntKind.i64.wrap ((i:Int)+1)=((i+1:Nat):Int):=by rw [Ax (by omega) (by omega)];omega
   have hc:=hf x (Ae hx)
   obtain ⟨c,vs,o,n,u,ns,ks,al⟩:=x
   simp only [Al.A0,alA,AF,AI] at he hc
   cases hp:p (.mk c vs (.mk o n u ns ks al)) with
   |true=>
    rw [hp] at hc
    (repeat' (first|refine Run.ct rfl ?_|((first|refine Run.reg mixed ?_|refine Run.AJ ?_|refine Run.A9 El (AN.le_refl _) ?_|(refine ⟨fid,[],caps,rfl,hb,AH.det hc ?_ (by simp [hcp,KH,Fc])⟩))<;>try simp -implicitDefEqProofs only [BX hlt,he,hw1,go_sem])|fail))
    rw [P3 hno hx hp];rfl
   |false=>
    rw [hp] at hc
    (repeat' (first|refine Run.ct rfl ?_|((first|refine Run.reg mixed ?_|refine Run.AJ ?_|(refine ⟨fid,[],caps,rfl,hb,AH.det hc ?_ (by simp [hcp,KH,Fc])⟩))<;>try simp -implicitDefEqProofs only [BX hlt,he,hw1,go_sem])|fail))
    exact ih (i+1) ⟨by omega,Wz hno hx hp⟩ (by omega)
 · (repeat' (first|refine Run.ct rfl ?_|((first|refine Run.reg mixed ?_|refine Run.AJ ?_|refine Run.A9 El (AN.le_refl _) ?_)<;>try simp -implicitDefEqProofs only [F2 hlt,go_sem])|fail))
   rw [Ad (by omega)] at hno
   rw [P4 hno];rfl
theorem OO {fid:FuncId} {caps:List AV} (hb:Ar Tryz.prog fid=true) (hcp:caps.all AV.At=true) (p:Al→Bool) (l:List Al) (σ:AN) (hf:∀x∈l,AQ Tryz.prog fid ((alA x)::caps) σ (fun v σ'=>v= .d (.bool (p x))∧σ'=σ)):
 AQ Tryz.prog 180 [.d (.sl (l.map Al.enc)),.fn fid [] caps] σ (fun v σ'=>v= .d (.bool (l.any p))∧σ'=σ):=by
 refine LA (by simp) ?_
 rw [BI]
 (repeat' (first|refine Run.ct rfl ?_|((first|refine Run.reg mixed ?_|refine Run.AJ ?_|refine Run.A9 Fu (AN.le_refl _) ?_|refine AH.det (RN hb hcp p l σ hf) ?_)<;>try simp -implicitDefEqProofs only [Wt,N9,go_sem])|fail))
theorem VI {fid:FuncId} {caps:List AV} (hb:Ar Tryz.prog fid=true) (hcp:caps.all AV.At=true) (x:Al) (b:Bool) (j:Nat) (σ:AN) (hj:σ.blk j=some [.fn fid [] caps]) (hf:AQ Tryz.prog fid ((alA x)::caps) σ (fun v σ'=>v= .d (.bool b)∧σ'=σ)):
 AQ Tryz.prog 181 [(alA x),.gp j 0] σ (fun v σ'=>v= .d (.bool (!b))∧σ'=σ):=by
 refine P9 (by simp) ?_
 rw [BI]
 obtain ⟨c,vs,o,n,u,ns,ks,al⟩:=x
 simp only [Al.A0,alA,AF,AI] at hf ⊢
 (repeat' (first|refine Run.ct rfl ?_|((first|refine Run.reg mixed ?_|refine Run.AJ ?_|refine Run.A9 JF (AN.le_refl _) ?_|(refine ⟨fid,[],caps,rfl,hb,AH.det hf ?_ (by simp [hcp,KH,Fc])⟩))<;>try simp -implicitDefEqProofs only [hj,go_sem])|fail))
theorem XS {fid:FuncId} {caps:List AV} (hb:Ar Tryz.prog fid=true) (hcp:caps.all AV.At=true) (p:Al→Bool) (l:List Al) (σ:AN) (hf:∀x∈l,∀σ1,σ.le σ1→AQ Tryz.prog fid ((alA x)::caps) σ1 (fun v σ'=>v= .d (.bool (p x))∧σ'=σ1)):
 AQ Tryz.prog 158 [.d (.sl (l.map Al.enc)),.fn fid [] caps] σ (fun v σ'=>v= .d (.bool (l.all p))∧σ'=σ):=by
 refine R9 (by simp) ?_
 rw [BI]
 (repeat' (first|refine Run.ct rfl ?_|((first|refine Run.reg mixed ?_|refine Run.AJ ?_)<;>try simp -implicitDefEqProofs only [go_sem])|fail))
 intro j hj
 have hle:=FI (cs:=[.fn fid [] caps]) hj
 (repeat' (first|refine Run.ct rfl ?_|((first|refine Run.reg mixed ?_|refine Run.AJ ?_|(refine Run.A9 Ks (σ2:=σ) hle ?_)|refine AH.det (OO (by kernel_rfl) rfl (fun x=>!p x) l _ (fun x hx=>VI hb hcp x (p x) j _ (by simp only [AO,if_true]) (hf x hx _ hle))) ?_)<;>try simp -implicitDefEqProofs only [go_sem])|fail))
 simp [N7]
end Go.Ab
namespace Go.Ab
open Go.Proofs
def singleR (r:List Tok×Nat×Int) (k:Int) (s:Str):Bool:=
 r.2.2==0&&(r.1.length==2&&(match r.1 with|[]=>false|a::_=>a.kind==k&&a.text==s))
theorem Y6 (k:Int) (s:Str):GH k s=singleR (Am s) k s:=rfl
theorem kL {α:Type} {l:List α} (h:l.length=2):∃a b,l=[a,b]:=by
 match l,h with
 |[a,b],_=>exact ⟨a,b,rfl⟩
theorem DL (s:Str) (k:Int) (σ:AN):AQ Tryz.prog 54 [.d (.str s),.d (.int .i64 k)] σ (fun v σ'=>v= .d (.bool (GH k s))∧σ'=σ):=by
 refine dI (by simp) ?_
 rw [BI,Y6]
 have hsp:=eK s σ
 generalize Am s=r at hsp ⊢
 obtain ⟨l,q,e⟩:=r
 simp only [Hc] at hsp
 cases he:(e==0) with
 |false=>
  (repeat' (first|refine Run.ct rfl ?_|((first|refine Run.reg mixed ?_|refine Run.AJ ?_|refine Run.A9 Kp (AN.le_refl _) ?_|refine AH.det (hsp) ?_)<;>try simp -implicitDefEqProofs only [he,go_sem])|fail))
  simp [singleR,he]
 |true=>
 by_cases hl:l.length=2
 · obtain ⟨⟨ak,at',ap⟩,b,rfl⟩:=kL hl
   simp only [Tok.enc,AF,AI] at hsp
   cases hk:(ak==k) with
   |false=>
    (repeat' (first|refine Run.ct rfl ?_|((first|refine Run.reg mixed ?_|refine Run.AJ ?_|refine Run.A9 Kp (AN.le_refl _) ?_|refine AH.det (hsp) ?_|(refine AR rfl (fun h=>?_) (fun h=>?_)<;>try (cases h;done)))<;>try simp -implicitDefEqProofs only [he,hk,go_sem])|fail))
    simp [singleR,hk]
   |true=>
    (repeat' (first|refine Run.ct rfl ?_|((first|refine Run.reg mixed ?_|refine Run.AJ ?_|refine Run.A9 Kp (AN.le_refl _) ?_|refine AH.det (hsp) ?_|(refine AR rfl (fun h=>?_) (fun h=>?_)<;>try (cases h;done)))<;>try simp -implicitDefEqProofs only [he,hk,FP,go_sem])|fail))
    simp [singleR,hk,he]
 · have h2:((l.length:Int)==2)=false:=by simp only [beq_eq_false_iff_ne,ne_eq];omega
   (repeat' (first|refine Run.ct rfl ?_|((first|refine Run.reg mixed ?_|refine Run.AJ ?_|refine Run.A9 Kp (AN.le_refl _) ?_|refine AH.det (hsp) ?_)<;>try simp -implicitDefEqProofs only [he,AE,h2,go_sem])|fail))
   simp [singleR,hl]
theorem Nj (s:Str) (k:Int) (σ:AN):AQ Tryz.prog 107 [.d (.str s),.d (.int .i64 k)] σ (fun v σ'=>v= .d (.bool (GH k s))∧σ'=σ):=by
 refine VZ (by simp) ?_
 rw [BI,Y6]
 have hsp:=SR s σ
 generalize Am s=r at hsp ⊢
 obtain ⟨l,q,e⟩:=r
 simp only [Hc] at hsp
 cases he:(e==0) with
 |false=>
  (repeat' (first|refine Run.ct rfl ?_|((first|refine Run.reg mixed ?_|refine Run.AJ ?_|refine Run.A9 F8 (AN.le_refl _) ?_|refine AH.det (hsp) ?_)<;>try simp -implicitDefEqProofs only [he,go_sem])|fail))
  simp [singleR,he]
 |true=>
 by_cases hl:l.length=2
 · obtain ⟨⟨ak,at',ap⟩,b,rfl⟩:=kL hl
   simp only [Tok.enc,AF,AI] at hsp
   cases hk:(ak==k) with
   |false=>
    (repeat' (first|refine Run.ct rfl ?_|((first|refine Run.reg mixed ?_|refine Run.AJ ?_|refine Run.A9 F8 (AN.le_refl _) ?_|refine AH.det (hsp) ?_|(refine AR rfl (fun h=>?_) (fun h=>?_)<;>try (cases h;done)))<;>try simp -implicitDefEqProofs only [he,hk,go_sem])|fail))
    simp [singleR,hk]
   |true=>
    (repeat' (first|refine Run.ct rfl ?_|((first|refine Run.reg mixed ?_|refine Run.AJ ?_|refine Run.A9 F8 (AN.le_refl _) ?_|refine AH.det (hsp) ?_|(refine AR rfl (fun h=>?_) (fun h=>?_)<;>try (cases h;done)))<;>try simp -implicitDefEqProofs only [he,hk,FP,go_sem])|fail))
    simp [singleR,hk,he]
 · have h2:((l.length:Int)==2)=false:=by simp only [beq_eq_false_iff_ne,ne_eq];omega
   (repeat' (first|refine Run.ct rfl ?_|((first|refine Run.reg mixed ?_|refine Run.AJ ?_|refine Run.A9 F8 (AN.le_refl _) ?_|refine AH.det (hsp) ?_)<;>try simp -implicitDefEqProofs only [he,AE,h2,go_sem])|fail))
   simp [singleR,hl]
theorem Dq (s:Str) (σ:AN):AQ Tryz.prog 51 [.d (.str s)] σ (fun v σ'=>v= .d (.bool (D1 s))∧σ'=σ):=by
 refine W6 (by simp) ?_
 rw [BE]
 (repeat' (first|refine Run.ct rfl ?_|((first|refine Run.reg mixed ?_|refine Run.AJ ?_|refine Run.A9 QX (AN.le_refl _) ?_|refine AH.det (Nj s 1 _) ?_)<;>try simp -implicitDefEqProofs only [go_sem])|fail))
 rfl
theorem B8 (s:Str) (σ:AN):AQ Tryz.prog 101 [.d (.str s)] σ (fun v σ'=>v= .d (.bool (upperB s))∧σ'=σ):=by
 refine V0 (by simp) ?_
 rw [BE]
 (repeat' (first|refine Run.ct rfl ?_|((first|refine Run.reg mixed ?_|refine Run.AJ ?_|refine Run.A9 O1 (AN.le_refl _) ?_|refine AH.det (Nj s 2 _) ?_)<;>try simp -implicitDefEqProofs only [go_sem])|fail))
 rfl
theorem KU (s:Str) (σ:AN):AQ Tryz.prog 157 [.d (.str s)] σ (fun v σ'=>v= .d (.bool (GK s))∧σ'=σ):=by
 refine W5 (by simp) ?_
 rw [BE]
 cases h0:(s==[]) with
 |true=>
  (repeat' (first|refine Run.ct rfl ?_|((first|refine Run.reg mixed ?_|refine Run.AJ ?_|refine Run.A9 L1 (AN.le_refl _) ?_)<;>try simp -implicitDefEqProofs only [FP,h0,go_sem])|fail))
  simp [GK,h0]
 |false=>
  (repeat' (first|refine Run.ct rfl ?_|((first|refine Run.reg mixed ?_|refine Run.AJ ?_|refine Run.A9 L1 (AN.le_refl _) ?_|refine AH.det (Dq s _) ?_)<;>try simp -implicitDefEqProofs only [FP,h0,go_sem])|fail))
  simp [GK,h0]
def M4 (l:List Str) (strict:Bool):Bool:=decide (l.length≤6)&&l.all (fun s=>D1 s||(s==[]&& !strict))
theorem gt6 (n:Nat):decide ((6:Int) < (n:Int))=!decide (n≤6):=gtN n 6
theorem XU {α:Type} {p:α→Bool} {l:List α} {i:Nat} {x:α} (hx:l[i]?=some x) (hp:p x=false):l.all p=false:=by
 rw [List.all_eq_false];exact ⟨x,Ae hx,by rw [hp];simp⟩
theorem K3 {α:Type} {p:α→Bool} {l:List α} {i:Nat} {x:α} (h:(l.take i).all p=true) (hx:l[i]?=some x) (hp:p x=true):(l.take (i+1)).all p=true:=by
 rw [MX hx,C9,h];simp [hp]
theorem I9 (l:List Str) (strict:Bool) (σ:AN):AQ Tryz.prog 55 [.d (.sl (l.map D3)),.d (.bool strict)] σ (fun v σ'=>v= .d (.bool (M4 l strict))∧σ'=σ):=by
 refine hU (by simp) ?_
 rw [BI]
 by_cases h6:l.length≤6
 case neg=>
  (repeat' (first|refine Run.ct rfl ?_|((first|refine Run.reg mixed ?_|refine Run.AJ ?_|refine Run.A9 Mi (AN.le_refl _) ?_)<;>try simp -implicitDefEqProofs only [gt6,AE,decide_eq_false h6,go_sem])|fail))
  simp [M4,h6]
 (repeat' (first|refine Run.ct rfl ?_|((first|refine Run.reg mixed ?_|refine Run.AJ ?_)<;>try simp -implicitDefEqProofs only [gt6,AE,decide_eq_true h6,go_sem])|fail))
 refine Run.Be ?_
 refine Run.Bn ((fun (a0:AV) (a1:AV)=>fun (i:Nat)=>put 0 a0 (put 1 a1 (put 5 (.d (.int .i64 i)) U))) _ _) (fun _=>E) (fun _=>σ) (fun i=>i≤l.length∧(l.take i).all (fun s=>D1 s||(s==[]&& !strict))=true) (fun i=>l.length - i) ?_ 0 ⟨by simp,by simp⟩
 rintro i ⟨hi,hok⟩ ih
 by_cases hlt:i < l.length
 · obtain ⟨x,hx⟩:=Bw hlt
   have he:=Bh (enc:=D3) hx
   simp only [D3] at he
   have hw1:=Ba (show i+1≤9000000000000000000 by omega)
   have hn:=DL x 1 σ
   rw [show GH 1 x=D1 x from rfl] at hn
   cases hp:(D1 x||(x==[]&& !strict)) with
   |true=>
    cases hnm:D1 x with
    |true=>
     rw [hnm] at hn
     (repeat' (first|refine Run.ct rfl ?_|((first|refine Run.reg mixed ?_|refine Run.AJ ?_|refine AH.det (hn) ?_)<;>try simp -implicitDefEqProofs only [BX hlt,AE,he,hw1,FP,go_sem])|fail))
     exact ih (i+1) ⟨by omega,K3 hok hx hp⟩ (by omega)
    |false=>
     rw [hnm] at hn
     simp only [hnm,MZ,AL,CP] at hp
     obtain ⟨hp1,rfl⟩:=hp
     (repeat' (first|refine Run.ct rfl ?_|((first|refine Run.reg mixed ?_|refine Run.AJ ?_|refine AH.det (hn) ?_)<;>try simp -implicitDefEqProofs only [BX hlt,AE,he,hw1,FP,hp1,go_sem])|fail))
     exact ih (i+1) ⟨by omega,K3 hok hx (by simp [hnm,hp1])⟩ (by omega)
   |false=>
    have hnm:D1 x=false:=(Cw.1 hp).1
    rw [hnm] at hn
    have hres:M4 l strict=false:=by rw [M4,XU hx hp,D5]
    cases h0:(x==[]) with
    |false=>
     (repeat' (first|refine Run.ct rfl ?_|((first|refine Run.reg mixed ?_|refine Run.AJ ?_|refine Run.A9 Mi (AN.le_refl _) ?_|refine AH.det (hn) ?_)<;>try simp -implicitDefEqProofs only [BX hlt,AE,he,hw1,FP,h0,go_sem])|fail))
     rw [hres]
    |true=>
     have hst:strict=true:=by simpa [hnm,h0] using hp
     (repeat' (first|refine Run.ct rfl ?_|((first|refine Run.reg mixed ?_|refine Run.AJ ?_|refine Run.A9 Mi (AN.le_refl _) ?_|refine AH.det (hn) ?_)<;>try simp -implicitDefEqProofs only [BX hlt,AE,he,hw1,FP,h0,hst,go_sem])|fail))
     rw [← hst,hres]
 · (repeat' (first|refine Run.ct rfl ?_|((first|refine Run.reg mixed ?_|refine Run.AJ ?_|refine Run.A9 Mi (AN.le_refl _) ?_)<;>try simp -implicitDefEqProofs only [F2 hlt,AE,go_sem])|fail))
   rw [Ad (by omega)] at hok
   rw [M4,hok];simp [h6]
end Go.Ab
