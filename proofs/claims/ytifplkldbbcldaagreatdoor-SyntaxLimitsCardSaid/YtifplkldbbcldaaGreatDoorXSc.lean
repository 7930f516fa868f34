/- Names and arities, in plain data. Lists searched with a function. Names. Conditions: none. -/
import Derived.Test.YtifplkldbbcldaaGreatDoorXPf
set_option linter.unusedSimpArgs false
set_option linter.unusedVariables false
set_option maxRecDepth 4000
set_option maxHeartbeats 8000000
open List renaming getElem?_eq_some_iff→A9,mem_append→BS,mem_singleton→Di,length_map→AE,mem_of_getElem?→Af,take_of_length_le→A8,any_eq_not_all_not→N4,map_cons→AF,map_nil→AI,all_append→Bz
open Bool renaming false_or→MY,and_eq_true→AM,not_eq_true'→CJ,or_eq_false_iff→Dk,and_false→DZ
namespace Go.Ab
def lV (o:Option Nat):Int:=match o with|some i=>i|none=>-1
def Ex.op:Ex→Int| .mk o _ _ _ _ _=>o
def Ex.num:Ex→Int| .mk _ _ u _ _ _=>u
def Ex.name:Ex→Str| .mk _ n _ _ _ _=>n
def Ex.names:Ex→List Str| .mk _ _ _ ns _ _=>ns
def Ex.kids:Ex→List Ex| .mk _ _ _ _ ks _=>ks
def Ex.alts:Ex→List Al| .mk _ _ _ _ _ al=>al
def Al.con:Al→Str| .mk c _ _=>c
def Al.vars:Al→List Str| .mk _ vs _=>vs
def Al.body:Al→Ex| .mk _ _ b=>b
end Go.Ab
namespace Go.Ab
open Go.Proofs
theorem PZ {α:Type} {p:α→Bool} {l:List α} {i:Nat} {x:α} (h:∀y∈l.take i,p y=false) (hx:l[i]?=some x) (hp:p x=true):l.findIdx? p=some i:=by
 rw [List.findIdx?_eq_some_iff_getElem]
 obtain ⟨hl,he⟩:=A9.1 hx
 refine ⟨hl,by rw [he];exact hp,fun j hj=>?_⟩
 rw [h (l[j]'(by omega)) (List.mem_take_iff_getElem.2 ⟨j,by omega,rfl⟩)];simp
theorem P0 {α:Type} {p:α→Bool} {l:List α} (h:∀y∈l,p y=false):l.findIdx? p=none:=by
 rw [List.findIdx?_eq_none_iff];exact h
theorem Wj {α:Type} {p:α→Bool} {l:List α} {i:Nat} {x:α} (h:∀y∈l.take i,p y=false) (hx:l[i]?=some x) (hp:p x=false):∀y∈l.take (i+1),p y=false:=by
 intro y hy
 rw [HQ hx] at hy
 rcases BS.1 hy with hy|hy
 · exact h y hy
 · simp only [Di] at hy;subst hy;exact hp
theorem Wd (o:Option Nat):decide (0≤lV o)=o.isSome:=by
 cases o<;>simp [lV]
theorem N5 {α:Type} (p:α→Bool) (l:List α):(l.findIdx? p).isSome=l.any p:=by
 rw [List.findIdx?_isSome]
theorem Sa {fid:FuncId} {caps:List AV} (hb:Ap Tryz.prog fid=true) (hcp:caps.all AV.At=true) (p:Str→Bool) (l:List Str) (σ:AN) (hf:∀x∈l,AQ Tryz.prog fid ((.d (.str x))::caps) σ (fun v σ'=>v= .d (.bool (p x))∧σ'=σ)):
 AQ Tryz.prog 154 [.d (.sl (l.map Dr)),.fn fid [] caps] σ (fun v σ'=>v= .d (.int .i64 (lV (l.findIdx? p)))∧σ'=σ):=by
 refine NS (by simp) ?_
 rw [BK]
 refine Run.slot 0 (fun hb0=>?_)
 simp only [JI,if_true,AV.HY,AE] at hb0
 (repeat' (first|refine Run.ct rfl ?_|((first|refine Run.reg mixed ?_|refine Run.AL ?_)<;>try simp -implicitDefEqProofs only [AE,go_sem])|fail))
 refine Run.Bb ?_
 refine Run.Bh ((fun (a0:AV) (a1:AV) (a7:AV)=>fun (i:Nat)=>put 0 a0 (put 1 a1 (put 7 a7 (put 8 (.d (.int .i64 i)) U)))) _ _ _) (fun _=>E) (fun _=>σ) (fun i=>i≤l.length∧∀x∈l.take i,p x=false) (fun i=>l.length - i) ?_ 0 ⟨by simp,by simp⟩
 rintro i ⟨hi,hno⟩ ih
 by_cases hlt:i < l.length
 · obtain ⟨x,hx⟩:=Cd hlt
   have he:=C5 (enc:=Dr) hx
   have hw1:IntKind.i64.wrap ((i:Int)+1)=((i+1:Nat):Int):=by rw [BO (by omega) (by omega)];omega
   have hc:=hf x (Af hx)
   simp only [Dr] at he
   cases hp:p x with
   |true=>
    rw [hp] at hc
    (repeat' (first|refine Run.ct rfl ?_|((first|refine Run.reg mixed ?_|refine Run.AL ?_|refine Run.Ad Ev (AN.le_refl _) ?_|(refine ⟨fid,[],caps,rfl,hb,AH.det hc ?_ (by simp [hcp,Jz,F5])⟩))<;>try simp -implicitDefEqProofs only [BU hlt,he,hw1,go_sem])|fail))
    rw [PZ hno hx hp];rfl
   |false=>
    rw [hp] at hc
    (repeat' (first|refine Run.ct rfl ?_|((first|refine Run.reg mixed ?_|refine Run.AL ?_|(refine ⟨fid,[],caps,rfl,hb,AH.det hc ?_ (by simp [hcp,Jz,F5])⟩))<;>try simp -implicitDefEqProofs only [BU hlt,he,hw1,go_sem])|fail))
    exact ih (i+1) ⟨by omega,Wj hno hx hp⟩ (by omega)
 · (repeat' (first|refine Run.ct rfl ?_|((first|refine Run.reg mixed ?_|refine Run.AL ?_|refine Run.Ad Ev (AN.le_refl _) ?_)<;>try simp -implicitDefEqProofs only [FR hlt,go_sem])|fail))
   rw [A8 (by omega)] at hno
   rw [P0 hno];rfl
theorem PK {fid:FuncId} {caps:List AV} (hb:Ap Tryz.prog fid=true) (hcp:caps.all AV.At=true) (p:Str→Bool) (l:List Str) (σ:AN) (hf:∀x∈l,AQ Tryz.prog fid ((.d (.str x))::caps) σ (fun v σ'=>v= .d (.bool (p x))∧σ'=σ)):
 AQ Tryz.prog 108 [.d (.sl (l.map Dr)),.fn fid [] caps] σ (fun v σ'=>v= .d (.bool (l.any p))∧σ'=σ):=by
 refine LY (by simp) ?_
 rw [BK]
 (repeat' (first|refine Run.ct rfl ?_|((first|refine Run.reg mixed ?_|refine Run.AL ?_|refine Run.Ad GK (AN.le_refl _) ?_|refine AH.det (Sa hb hcp p l σ hf) ?_)<;>try simp -implicitDefEqProofs only [Wd,N5,go_sem])|fail))
theorem WG {fid:FuncId} {caps:List AV} (hb:Ap Tryz.prog fid=true) (hcp:caps.all AV.At=true) (x:Str) (b:Bool) (j:Nat) (σ:AN) (hj:σ.blk j=some [.fn fid [] caps]) (hf:AQ Tryz.prog fid ((.d (.str x))::caps) σ (fun v σ'=>v= .d (.bool b)∧σ'=σ)):
 AQ Tryz.prog 109 [(.d (.str x)),.gp j 0] σ (fun v σ'=>v= .d (.bool (!b))∧σ'=σ):=by
 refine Q2 (by simp) ?_
 rw [BK]
 (repeat' (first|refine Run.ct rfl ?_|((first|refine Run.reg mixed ?_|refine Run.AL ?_|refine Run.Ad Je (AN.le_refl _) ?_|(refine ⟨fid,[],caps,rfl,hb,AH.det hf ?_ (by simp [hcp,Jz,F5])⟩))<;>try simp -implicitDefEqProofs only [hj,go_sem])|fail))
theorem H8 {fid:FuncId} {caps:List AV} (hb:Ap Tryz.prog fid=true) (hcp:caps.all AV.At=true) (p:Str→Bool) (l:List Str) (σ:AN) (hf:∀x∈l,∀σ1,σ.le σ1→AQ Tryz.prog fid ((.d (.str x))::caps) σ1 (fun v σ'=>v= .d (.bool (p x))∧σ'=σ1)):
 AQ Tryz.prog 52 [.d (.sl (l.map Dr)),.fn fid [] caps] σ (fun v σ'=>v= .d (.bool (l.all p))∧σ'=σ):=by
 refine Sf (by simp) ?_
 rw [BK]
 (repeat' (first|refine Run.ct rfl ?_|((first|refine Run.reg mixed ?_|refine Run.AL ?_)<;>try simp -implicitDefEqProofs only [go_sem])|fail))
 intro j hj
 have hle:=Ez (cs:=[.fn fid [] caps]) hj
 (repeat' (first|refine Run.ct rfl ?_|((first|refine Run.reg mixed ?_|refine Run.AL ?_|(refine Run.Ad Ln (σ2:=σ) hle ?_)|refine AH.det (PK (by kernel_rfl) rfl (fun x=>!p x) l _ (fun x hx=>WG hb hcp x (p x) j _ (by simp only [AO,if_true]) (hf x hx _ hle))) ?_)<;>try simp -implicitDefEqProofs only [go_sem])|fail))
 simp [N4]
theorem NO {fid:FuncId} {caps:List AV} (hb:Ap Tryz.prog fid=true) (hcp:caps.all AV.At=true) (p:TE→Bool) (l:List TE) (σ:AN) (hf:∀x∈l,AQ Tryz.prog fid ((teA x)::caps) σ (fun v σ'=>v= .d (.bool (p x))∧σ'=σ)):
 AQ Tryz.prog 179 [.d (.sl (l.map TE.enc)),.fn fid [] caps] σ (fun v σ'=>v= .d (.int .i64 (lV (l.findIdx? p)))∧σ'=σ):=by
 refine JV (by simp) ?_
 rw [BK]
 refine Run.slot 0 (fun hb0=>?_)
 simp only [JI,if_true,AV.HY,AE] at hb0
 (repeat' (first|refine Run.ct rfl ?_|((first|refine Run.reg mixed ?_|refine Run.AL ?_)<;>try simp -implicitDefEqProofs only [AE,go_sem])|fail))
 refine Run.Bb ?_
 refine Run.Bh ((fun (a0:AV) (a1:AV) (a7:AV)=>fun (i:Nat)=>put 0 a0 (put 1 a1 (put 7 a7 (put 8 (.d (.int .i64 i)) U)))) _ _ _) (fun _=>E) (fun _=>σ) (fun i=>i≤l.length∧∀x∈l.take i,p x=false) (fun i=>l.length - i) ?_ 0 ⟨by simp,by simp⟩
 rintro i ⟨hi,hno⟩ ih
 by_cases hlt:i < l.length
 · obtain ⟨x,hx⟩:=Cd hlt
   have he:=C5 (enc:=TE.enc) hx
   have hw1:IntKind.i64.wrap ((i:Int)+1)=((i+1:Nat):Int):=by rw [BO (by omega) (by omega)];omega
   have hc:=hf x (Af hx)
   obtain ⟨k,n,al⟩:=x
   simp only [TE.A2,teA,AF,AI] at he hc
   cases hp:p (.mk k n al) with
   |true=>
    rw [hp] at hc
    (repeat' (first|refine Run.ct rfl ?_|((first|refine Run.reg mixed ?_|refine Run.AL ?_|refine Run.Ad DY (AN.le_refl _) ?_|(refine ⟨fid,[],caps,rfl,hb,AH.det hc ?_ (by simp [hcp,Jz,F5])⟩))<;>try simp -implicitDefEqProofs only [BU hlt,he,hw1,go_sem])|fail))
    rw [PZ hno hx hp];rfl
   |false=>
    rw [hp] at hc
    (repeat' (first|refine Run.ct rfl ?_|((first|refine Run.reg mixed ?_|refine Run.AL ?_|(refine ⟨fid,[],caps,rfl,hb,AH.det hc ?_ (by simp [hcp,Jz,F5])⟩))<;>try simp -implicitDefEqProofs only [BU hlt,he,hw1,go_sem])|fail))
    exact ih (i+1) ⟨by omega,Wj hno hx hp⟩ (by omega)
 · (repeat' (first|refine Run.ct rfl ?_|((first|refine Run.reg mixed ?_|refine Run.AL ?_|refine Run.Ad DY (AN.le_refl _) ?_)<;>try simp -implicitDefEqProofs only [FR hlt,go_sem])|fail))
   rw [A8 (by omega)] at hno
   rw [P0 hno];rfl
theorem LK {fid:FuncId} {caps:List AV} (hb:Ap Tryz.prog fid=true) (hcp:caps.all AV.At=true) (p:TE→Bool) (l:List TE) (σ:AN) (hf:∀x∈l,AQ Tryz.prog fid ((teA x)::caps) σ (fun v σ'=>v= .d (.bool (p x))∧σ'=σ)):
 AQ Tryz.prog 151 [.d (.sl (l.map TE.enc)),.fn fid [] caps] σ (fun v σ'=>v= .d (.bool (l.any p))∧σ'=σ):=by
 refine ID (by simp) ?_
 rw [BK]
 (repeat' (first|refine Run.ct rfl ?_|((first|refine Run.reg mixed ?_|refine Run.AL ?_|refine Run.Ad Ef (AN.le_refl _) ?_|refine AH.det (NO hb hcp p l σ hf) ?_)<;>try simp -implicitDefEqProofs only [Wd,N5,go_sem])|fail))
theorem QZ {fid:FuncId} {caps:List AV} (hb:Ap Tryz.prog fid=true) (hcp:caps.all AV.At=true) (x:TE) (b:Bool) (j:Nat) (σ:AN) (hj:σ.blk j=some [.fn fid [] caps]) (hf:AQ Tryz.prog fid ((teA x)::caps) σ (fun v σ'=>v= .d (.bool b)∧σ'=σ)):
 AQ Tryz.prog 152 [(teA x),.gp j 0] σ (fun v σ'=>v= .d (.bool (!b))∧σ'=σ):=by
 refine MI (by simp) ?_
 rw [BK]
 obtain ⟨k,n,al⟩:=x
 simp only [TE.A2,teA,AF,AI] at hf ⊢
 (repeat' (first|refine Run.ct rfl ?_|((first|refine Run.reg mixed ?_|refine Run.AL ?_|refine Run.Ad G7 (AN.le_refl _) ?_|(refine ⟨fid,[],caps,rfl,hb,AH.det hf ?_ (by simp [hcp,Jz,F5])⟩))<;>try simp -implicitDefEqProofs only [hj,go_sem])|fail))
theorem Lf {fid:FuncId} {caps:List AV} (hb:Ap Tryz.prog fid=true) (hcp:caps.all AV.At=true) (p:TE→Bool) (l:List TE) (σ:AN) (hf:∀x∈l,∀σ1,σ.le σ1→AQ Tryz.prog fid ((teA x)::caps) σ1 (fun v σ'=>v= .d (.bool (p x))∧σ'=σ1)):
 AQ Tryz.prog 104 [.d (.sl (l.map TE.enc)),.fn fid [] caps] σ (fun v σ'=>v= .d (.bool (l.all p))∧σ'=σ):=by
 refine NT (by simp) ?_
 rw [BK]
 (repeat' (first|refine Run.ct rfl ?_|((first|refine Run.reg mixed ?_|refine Run.AL ?_)<;>try simp -implicitDefEqProofs only [go_sem])|fail))
 intro j hj
 have hle:=Ez (cs:=[.fn fid [] caps]) hj
 (repeat' (first|refine Run.ct rfl ?_|((first|refine Run.reg mixed ?_|refine Run.AL ?_|(refine Run.Ad HV (σ2:=σ) hle ?_)|refine AH.det (LK (by kernel_rfl) rfl (fun x=>!p x) l _ (fun x hx=>QZ hb hcp x (p x) j _ (by simp only [AO,if_true]) (hf x hx _ hle))) ?_)<;>try simp -implicitDefEqProofs only [go_sem])|fail))
 simp [N4]
theorem Nk {fid:FuncId} {caps:List AV} (hb:Ap Tryz.prog fid=true) (hcp:caps.all AV.At=true) (p:CE→Bool) (l:List CE) (σ:AN) (hf:∀x∈l,AQ Tryz.prog fid ((ceA x)::caps) σ (fun v σ'=>v= .d (.bool (p x))∧σ'=σ)):
 AQ Tryz.prog 178 [.d (.sl (l.map CE.enc)),.fn fid [] caps] σ (fun v σ'=>v= .d (.int .i64 (lV (l.findIdx? p)))∧σ'=σ):=by
 refine Jv (by simp) ?_
 rw [BK]
 refine Run.slot 0 (fun hb0=>?_)
 simp only [JI,if_true,AV.HY,AE] at hb0
 (repeat' (first|refine Run.ct rfl ?_|((first|refine Run.reg mixed ?_|refine Run.AL ?_)<;>try simp -implicitDefEqProofs only [AE,go_sem])|fail))
 refine Run.Bb ?_
 refine Run.Bh ((fun (a0:AV) (a1:AV) (a7:AV)=>fun (i:Nat)=>put 0 a0 (put 1 a1 (put 7 a7 (put 8 (.d (.int .i64 i)) U)))) _ _ _) (fun _=>E) (fun _=>σ) (fun i=>i≤l.length∧∀x∈l.take i,p x=false) (fun i=>l.length - i) ?_ 0 ⟨by simp,by simp⟩
 rintro i ⟨hi,hno⟩ ih
 by_cases hlt:i < l.length
 · obtain ⟨x,hx⟩:=Cd hlt
   have he:=C5 (enc:=CE.enc) hx
   have hw1:IntKind.i64.wrap ((i:Int)+1)=((i+1:Nat):Int):=by rw [BO (by omega) (by omega)];omega
   have hc:=hf x (Af hx)
   obtain ⟨nm,ar⟩:=x
   simp only [CE.enc,ceA,AF,AI] at he hc
   cases hp:p (⟨nm,ar⟩) with
   |true=>
    rw [hp] at hc
    (repeat' (first|refine Run.ct rfl ?_|((first|refine Run.reg mixed ?_|refine Run.AL ?_|refine Run.Ad De (AN.le_refl _) ?_|(refine ⟨fid,[],caps,rfl,hb,AH.det hc ?_ (by simp [hcp,Jz,F5])⟩))<;>try simp -implicitDefEqProofs only [BU hlt,he,hw1,go_sem])|fail))
    rw [PZ hno hx hp];rfl
   |false=>
    rw [hp] at hc
    (repeat' (first|refine Run.ct rfl ?_|((first|refine Run.reg mixed ?_|refine Run.AL ?_|(refine ⟨fid,[],caps,rfl,hb,AH.det hc ?_ (by simp [hcp,Jz,F5])⟩))<;>try simp -implicitDefEqProofs only [BU hlt,he,hw1,go_sem])|fail))
    exact ih (i+1) ⟨by omega,Wj hno hx hp⟩ (by omega)
 · (repeat' (first|refine Run.ct rfl ?_|((first|refine Run.reg mixed ?_|refine Run.AL ?_|refine Run.Ad De (AN.le_refl _) ?_)<;>try simp -implicitDefEqProofs only [FR hlt,go_sem])|fail))
   rw [A8 (by omega)] at hno
   rw [P0 hno];rfl
theorem Ly {fid:FuncId} {caps:List AV} (hb:Ap Tryz.prog fid=true) (hcp:caps.all AV.At=true) (p:CE→Bool) (l:List CE) (σ:AN) (hf:∀x∈l,AQ Tryz.prog fid ((ceA x)::caps) σ (fun v σ'=>v= .d (.bool (p x))∧σ'=σ)):
 AQ Tryz.prog 149 [.d (.sl (l.map CE.enc)),.fn fid [] caps] σ (fun v σ'=>v= .d (.bool (l.any p))∧σ'=σ):=by
 refine I8 (by simp) ?_
 rw [BK]
 (repeat' (first|refine Run.ct rfl ?_|((first|refine Run.reg mixed ?_|refine Run.AL ?_|refine Run.Ad Er (AN.le_refl _) ?_|refine AH.det (Nk hb hcp p l σ hf) ?_)<;>try simp -implicitDefEqProofs only [Wd,N5,go_sem])|fail))
theorem RF {fid:FuncId} {caps:List AV} (hb:Ap Tryz.prog fid=true) (hcp:caps.all AV.At=true) (x:CE) (b:Bool) (j:Nat) (σ:AN) (hj:σ.blk j=some [.fn fid [] caps]) (hf:AQ Tryz.prog fid ((ceA x)::caps) σ (fun v σ'=>v= .d (.bool b)∧σ'=σ)):
 AQ Tryz.prog 150 [(ceA x),.gp j 0] σ (fun v σ'=>v= .d (.bool (!b))∧σ'=σ):=by
 refine Mn (by simp) ?_
 rw [BK]
 obtain ⟨nm,ar⟩:=x
 simp only [CE.enc,ceA,AF,AI] at hf ⊢
 (repeat' (first|refine Run.ct rfl ?_|((first|refine Run.reg mixed ?_|refine Run.AL ?_|refine Run.Ad Gr (AN.le_refl _) ?_|(refine ⟨fid,[],caps,rfl,hb,AH.det hf ?_ (by simp [hcp,Jz,F5])⟩))<;>try simp -implicitDefEqProofs only [hj,go_sem])|fail))
theorem T7 {fid:FuncId} {caps:List AV} (hb:Ap Tryz.prog fid=true) (hcp:caps.all AV.At=true) (p:CE→Bool) (l:List CE) (σ:AN) (hf:∀x∈l,∀σ1,σ.le σ1→AQ Tryz.prog fid ((ceA x)::caps) σ1 (fun v σ'=>v= .d (.bool (p x))∧σ'=σ1)):
 AQ Tryz.prog 102 [.d (.sl (l.map CE.enc)),.fn fid [] caps] σ (fun v σ'=>v= .d (.bool (l.all p))∧σ'=σ):=by
 refine Nr (by simp) ?_
 rw [BK]
 (repeat' (first|refine Run.ct rfl ?_|((first|refine Run.reg mixed ?_|refine Run.AL ?_)<;>try simp -implicitDefEqProofs only [go_sem])|fail))
 intro j hj
 have hle:=Ez (cs:=[.fn fid [] caps]) hj
 (repeat' (first|refine Run.ct rfl ?_|((first|refine Run.reg mixed ?_|refine Run.AL ?_|(refine Run.Ad Hj (σ2:=σ) hle ?_)|refine AH.det (Ly (by kernel_rfl) rfl (fun x=>!p x) l _ (fun x hx=>RF hb hcp x (p x) j _ (by simp only [AO,if_true]) (hf x hx _ hle))) ?_)<;>try simp -implicitDefEqProofs only [go_sem])|fail))
 simp [N4]
theorem RA {fid:FuncId} {caps:List AV} (hb:Ap Tryz.prog fid=true) (hcp:caps.all AV.At=true) (p:Al→Bool) (l:List Al) (σ:AN) (hf:∀x∈l,AQ Tryz.prog fid ((alA x)::caps) σ (fun v σ'=>v= .d (.bool (p x))∧σ'=σ)):
 AQ Tryz.prog 195 [.d (.sl (l.map Al.enc)),.fn fid [] caps] σ (fun v σ'=>v= .d (.int .i64 (lV (l.findIdx? p)))∧σ'=σ):=by
 refine Mm (by simp) ?_
 rw [BK]
 refine Run.slot 0 (fun hb0=>?_)
 simp only [JI,if_true,AV.HY,AE] at hb0
 (repeat' (first|refine Run.ct rfl ?_|((first|refine Run.reg mixed ?_|refine Run.AL ?_)<;>try simp -implicitDefEqProofs only [AE,go_sem])|fail))
 refine Run.Bb ?_
 refine Run.Bh ((fun (a0:AV) (a1:AV) (a7:AV)=>fun (i:Nat)=>put 0 a0 (put 1 a1 (put 7 a7 (put 8 (.d (.int .i64 i)) U)))) _ _ _) (fun _=>E) (fun _=>σ) (fun i=>i≤l.length∧∀x∈l.take i,p x=false) (fun i=>l.length - i) ?_ 0 ⟨by simp,by simp⟩
 rintro i ⟨hi,hno⟩ ih
 by_cases hlt:i < l.length
 · obtain ⟨x,hx⟩:=Cd hlt
   have he:=C5 (enc:=Al.enc) hx
   have hw1:IntKind.i64.wrap ((i:Int)+1)=((i+1:Nat):Int):=by rw [BO (by omega) (by omega)];omega
   have hc:=hf x (Af hx)
   obtain ⟨c,vs,o,n,u,ns,ks,al⟩:=x
   simp only [Al.A2,alA,AF,AI] at he hc
   cases hp:p (.mk c vs (.mk o n u ns ks al)) with
   |true=>
    rw [hp] at hc
    (repeat' (first|refine Run.ct rfl ?_|((first|refine Run.reg mixed ?_|refine Run.AL ?_|refine Run.Ad Eg (AN.le_refl _) ?_|(refine ⟨fid,[],caps,rfl,hb,AH.det hc ?_ (by simp [hcp,Jz,F5])⟩))<;>try simp -implicitDefEqProofs only [BU hlt,he,hw1,go_sem])|fail))
    rw [PZ hno hx hp];rfl
   |false=>
    rw [hp] at hc
    (repeat' (first|refine Run.ct rfl ?_|((first|refine Run.reg mixed ?_|refine Run.AL ?_|(refine ⟨fid,[],caps,rfl,hb,AH.det hc ?_ (by simp [hcp,Jz,F5])⟩))<;>try simp -implicitDefEqProofs only [BU hlt,he,hw1,go_sem])|fail))
    exact ih (i+1) ⟨by omega,Wj hno hx hp⟩ (by omega)
 · (repeat' (first|refine Run.ct rfl ?_|((first|refine Run.reg mixed ?_|refine Run.AL ?_|refine Run.Ad Eg (AN.le_refl _) ?_)<;>try simp -implicitDefEqProofs only [FR hlt,go_sem])|fail))
   rw [A8 (by omega)] at hno
   rw [P0 hno];rfl
theorem OK {fid:FuncId} {caps:List AV} (hb:Ap Tryz.prog fid=true) (hcp:caps.all AV.At=true) (p:Al→Bool) (l:List Al) (σ:AN) (hf:∀x∈l,AQ Tryz.prog fid ((alA x)::caps) σ (fun v σ'=>v= .d (.bool (p x))∧σ'=σ)):
 AQ Tryz.prog 180 [.d (.sl (l.map Al.enc)),.fn fid [] caps] σ (fun v σ'=>v= .d (.bool (l.any p))∧σ'=σ):=by
 refine Kv (by simp) ?_
 rw [BK]
 (repeat' (first|refine Run.ct rfl ?_|((first|refine Run.reg mixed ?_|refine Run.AL ?_|refine Run.Ad Fl (AN.le_refl _) ?_|refine AH.det (RA hb hcp p l σ hf) ?_)<;>try simp -implicitDefEqProofs only [Wd,N5,go_sem])|fail))
theorem Ux {fid:FuncId} {caps:List AV} (hb:Ap Tryz.prog fid=true) (hcp:caps.all AV.At=true) (x:Al) (b:Bool) (j:Nat) (σ:AN) (hj:σ.blk j=some [.fn fid [] caps]) (hf:AQ Tryz.prog fid ((alA x)::caps) σ (fun v σ'=>v= .d (.bool b)∧σ'=σ)):
 AQ Tryz.prog 181 [(alA x),.gp j 0] σ (fun v σ'=>v= .d (.bool (!b))∧σ'=σ):=by
 refine P4 (by simp) ?_
 rw [BK]
 obtain ⟨c,vs,o,n,u,ns,ks,al⟩:=x
 simp only [Al.A2,alA,AF,AI] at hf ⊢
 (repeat' (first|refine Run.ct rfl ?_|((first|refine Run.reg mixed ?_|refine Run.AL ?_|refine Run.Ad Iv (AN.le_refl _) ?_|(refine ⟨fid,[],caps,rfl,hb,AH.det hf ?_ (by simp [hcp,Jz,F5])⟩))<;>try simp -implicitDefEqProofs only [hj,go_sem])|fail))
theorem Wz {fid:FuncId} {caps:List AV} (hb:Ap Tryz.prog fid=true) (hcp:caps.all AV.At=true) (p:Al→Bool) (l:List Al) (σ:AN) (hf:∀x∈l,∀σ1,σ.le σ1→AQ Tryz.prog fid ((alA x)::caps) σ1 (fun v σ'=>v= .d (.bool (p x))∧σ'=σ1)):
 AQ Tryz.prog 158 [.d (.sl (l.map Al.enc)),.fn fid [] caps] σ (fun v σ'=>v= .d (.bool (l.all p))∧σ'=σ):=by
 refine R4 (by simp) ?_
 rw [BK]
 (repeat' (first|refine Run.ct rfl ?_|((first|refine Run.reg mixed ?_|refine Run.AL ?_)<;>try simp -implicitDefEqProofs only [go_sem])|fail))
 intro j hj
 have hle:=Ez (cs:=[.fn fid [] caps]) hj
 (repeat' (first|refine Run.ct rfl ?_|((first|refine Run.reg mixed ?_|refine Run.AL ?_|(refine Run.Ad Km (σ2:=σ) hle ?_)|refine AH.det (OK (by kernel_rfl) rfl (fun x=>!p x) l _ (fun x hx=>Ux hb hcp x (p x) j _ (by simp only [AO,if_true]) (hf x hx _ hle))) ?_)<;>try simp -implicitDefEqProofs only [go_sem])|fail))
 simp [N4]
end Go.Ab
namespace Go.Ab
open Go.Proofs
def singleR (r:List Tok×Nat×Int) (k:Int) (s:Str):Bool:=
 r.2.2==0&&(r.1.length==2&&(match r.1 with|[]=>false|a::_=>a.kind==k&&a.text==s))
theorem YV (k:Int) (s:Str):GB k s=singleR (BG s) k s:=rfl
theorem j2 {α:Type} {l:List α} (h:l.length=2):∃a b,l=[a,b]:=by
 match l,h with
 |[a,b],_=>exact ⟨a,b,rfl⟩
theorem DF (s:Str) (k:Int) (σ:AN):AQ Tryz.prog 54 [.d (.str s),.d (.int .i64 k)] σ (fun v σ'=>v= .d (.bool (GB k s))∧σ'=σ):=by
 refine cZ (by simp) ?_
 rw [BK,YV]
 have hsp:=eB s σ
 generalize BG s=r at hsp ⊢
 obtain ⟨l,q,e⟩:=r
 simp only [H6] at hsp
 cases he:(e==0) with
 |false=>
  (repeat' (first|refine Run.ct rfl ?_|((first|refine Run.reg mixed ?_|refine Run.AL ?_|refine Run.Ad Kk (AN.le_refl _) ?_|refine AH.det (hsp) ?_)<;>try simp -implicitDefEqProofs only [he,go_sem])|fail))
  simp [singleR,he]
 |true=>
 by_cases hl:l.length=2
 · obtain ⟨⟨ak,at',ap⟩,b,rfl⟩:=j2 hl
   simp only [Tok.enc,AF,AI] at hsp
   cases hk:(ak==k) with
   |false=>
    (repeat' (first|refine Run.ct rfl ?_|((first|refine Run.reg mixed ?_|refine Run.AL ?_|refine Run.Ad Kk (AN.le_refl _) ?_|refine AH.det (hsp) ?_|(refine AR rfl (fun h=>?_) (fun h=>?_)<;>try (cases h;done)))<;>try simp -implicitDefEqProofs only [he,hk,go_sem])|fail))
    simp [singleR,hk]
   |true=>
    (repeat' (first|refine Run.ct rfl ?_|((first|refine Run.reg mixed ?_|refine Run.AL ?_|refine Run.Ad Kk (AN.le_refl _) ?_|refine AH.det (hsp) ?_|(refine AR rfl (fun h=>?_) (fun h=>?_)<;>try (cases h;done)))<;>try simp -implicitDefEqProofs only [he,hk,FD,go_sem])|fail))
    simp [singleR,hk,he]
 · have h2:((l.length:Int)==2)=false:=by simp only [beq_eq_false_iff_ne,ne_eq];omega
   (repeat' (first|refine Run.ct rfl ?_|((first|refine Run.reg mixed ?_|refine Run.AL ?_|refine Run.Ad Kk (AN.le_refl _) ?_|refine AH.det (hsp) ?_)<;>try simp -implicitDefEqProofs only [he,AE,h2,go_sem])|fail))
   simp [singleR,hl]
theorem Ng (s:Str) (k:Int) (σ:AN):AQ Tryz.prog 107 [.d (.str s),.d (.int .i64 k)] σ (fun v σ'=>v= .d (.bool (GB k s))∧σ'=σ):=by
 refine VK (by simp) ?_
 rw [BK,YV]
 have hsp:=SL s σ
 generalize BG s=r at hsp ⊢
 obtain ⟨l,q,e⟩:=r
 simp only [H6] at hsp
 cases he:(e==0) with
 |false=>
  (repeat' (first|refine Run.ct rfl ?_|((first|refine Run.reg mixed ?_|refine Run.AL ?_|refine Run.Ad F1 (AN.le_refl _) ?_|refine AH.det (hsp) ?_)<;>try simp -implicitDefEqProofs only [he,go_sem])|fail))
  simp [singleR,he]
 |true=>
 by_cases hl:l.length=2
 · obtain ⟨⟨ak,at',ap⟩,b,rfl⟩:=j2 hl
   simp only [Tok.enc,AF,AI] at hsp
   cases hk:(ak==k) with
   |false=>
    (repeat' (first|refine Run.ct rfl ?_|((first|refine Run.reg mixed ?_|refine Run.AL ?_|refine Run.Ad F1 (AN.le_refl _) ?_|refine AH.det (hsp) ?_|(refine AR rfl (fun h=>?_) (fun h=>?_)<;>try (cases h;done)))<;>try simp -implicitDefEqProofs only [he,hk,go_sem])|fail))
    simp [singleR,hk]
   |true=>
    (repeat' (first|refine Run.ct rfl ?_|((first|refine Run.reg mixed ?_|refine Run.AL ?_|refine Run.Ad F1 (AN.le_refl _) ?_|refine AH.det (hsp) ?_|(refine AR rfl (fun h=>?_) (fun h=>?_)<;>try (cases h;done)))<;>try simp -implicitDefEqProofs only [he,hk,FD,go_sem])|fail))
    simp [singleR,hk,he]
 · have h2:((l.length:Int)==2)=false:=by simp only [beq_eq_false_iff_ne,ne_eq];omega
   (repeat' (first|refine Run.ct rfl ?_|((first|refine Run.reg mixed ?_|refine Run.AL ?_|refine Run.Ad F1 (AN.le_refl _) ?_|refine AH.det (hsp) ?_)<;>try simp -implicitDefEqProofs only [he,AE,h2,go_sem])|fail))
   simp [singleR,hl]
theorem Dh (s:Str) (σ:AN):AQ Tryz.prog 51 [.d (.str s)] σ (fun v σ'=>v= .d (.bool (DU s))∧σ'=σ):=by
 refine WO (by simp) ?_
 rw [BB]
 (repeat' (first|refine Run.ct rfl ?_|((first|refine Run.reg mixed ?_|refine Run.AL ?_|refine Run.Ad QQ (AN.le_refl _) ?_|refine AH.det (Ng s 1 _) ?_)<;>try simp -implicitDefEqProofs only [go_sem])|fail))
 rfl
theorem B6 (s:Str) (σ:AN):AQ Tryz.prog 101 [.d (.str s)] σ (fun v σ'=>v= .d (.bool (upperB s))∧σ'=σ):=by
 refine VL (by simp) ?_
 rw [BB]
 (repeat' (first|refine Run.ct rfl ?_|((first|refine Run.reg mixed ?_|refine Run.AL ?_|refine Run.Ad OY (AN.le_refl _) ?_|refine AH.det (Ng s 2 _) ?_)<;>try simp -implicitDefEqProofs only [go_sem])|fail))
 rfl
theorem KL (s:Str) (σ:AN):AQ Tryz.prog 157 [.d (.str s)] σ (fun v σ'=>v= .d (.bool (GF s))∧σ'=σ):=by
 refine WN (by simp) ?_
 rw [BB]
 cases h0:(s==[]) with
 |true=>
  (repeat' (first|refine Run.ct rfl ?_|((first|refine Run.reg mixed ?_|refine Run.AL ?_|refine Run.Ad LX (AN.le_refl _) ?_)<;>try simp -implicitDefEqProofs only [FD,h0,go_sem])|fail))
  simp [GF,h0]
 |false=>
  (repeat' (first|refine Run.ct rfl ?_|((first|refine Run.reg mixed ?_|refine Run.AL ?_|refine Run.Ad LX (AN.le_refl _) ?_|refine AH.det (Dh s _) ?_)<;>try simp -implicitDefEqProofs only [FD,h0,go_sem])|fail))
  simp [GF,h0]
def M3 (l:List Str) (strict:Bool):Bool:=decide (l.length≤6)&&l.all (fun s=>DU s||(s==[]&& !strict))
theorem gt6 (n:Nat):decide ((6:Int) < (n:Int))=!decide (n≤6):=gtN n 6
theorem XA {α:Type} {p:α→Bool} {l:List α} {i:Nat} {x:α} (hx:l[i]?=some x) (hp:p x=false):l.all p=false:=by
 rw [List.all_eq_false];exact ⟨x,Af hx,by rw [hp];simp⟩
theorem KV {α:Type} {p:α→Bool} {l:List α} {i:Nat} {x:α} (h:(l.take i).all p=true) (hx:l[i]?=some x) (hp:p x=true):(l.take (i+1)).all p=true:=by
 rw [HQ hx,Bz,h];simp [hp]
theorem I1 (l:List Str) (strict:Bool) (σ:AN):AQ Tryz.prog 55 [.d (.sl (l.map Dr)),.d (.bool strict)] σ (fun v σ'=>v= .d (.bool (M3 l strict))∧σ'=σ):=by
 refine gR (by simp) ?_
 rw [BK]
 by_cases h6:l.length≤6
 case neg=>
  (repeat' (first|refine Run.ct rfl ?_|((first|refine Run.reg mixed ?_|refine Run.AL ?_|refine Run.Ad Mh (AN.le_refl _) ?_)<;>try simp -implicitDefEqProofs only [gt6,AE,decide_eq_false h6,go_sem])|fail))
  simp [M3,h6]
 (repeat' (first|refine Run.ct rfl ?_|((first|refine Run.reg mixed ?_|refine Run.AL ?_)<;>try simp -implicitDefEqProofs only [gt6,AE,decide_eq_true h6,go_sem])|fail))
 refine Run.Bb ?_
 refine Run.Bh ((fun (a0:AV) (a1:AV)=>fun (i:Nat)=>put 0 a0 (put 1 a1 (put 5 (.d (.int .i64 i)) U))) _ _) (fun _=>E) (fun _=>σ) (fun i=>i≤l.length∧(l.take i).all (fun s=>DU s||(s==[]&& !strict))=true) (fun i=>l.length - i) ?_ 0 ⟨by simp,by simp⟩
 rintro i ⟨hi,hok⟩ ih
 by_cases hlt:i < l.length
 · obtain ⟨x,hx⟩:=Cd hlt
   have he:=C5 (enc:=Dr) hx
   simp only [Dr] at he
   have hw1:=BN (show i+1≤9000000000000000000 by omega)
   have hn:=DF x 1 σ
   rw [show GB 1 x=DU x from rfl] at hn
   cases hp:(DU x||(x==[]&& !strict)) with
   |true=>
    cases hnm:DU x with
    |true=>
     rw [hnm] at hn
     (repeat' (first|refine Run.ct rfl ?_|((first|refine Run.reg mixed ?_|refine Run.AL ?_|refine AH.det (hn) ?_)<;>try simp -implicitDefEqProofs only [BU hlt,AE,he,hw1,FD,go_sem])|fail))
     exact ih (i+1) ⟨by omega,KV hok hx hp⟩ (by omega)
    |false=>
     rw [hnm] at hn
     simp only [hnm,MY,AM,CJ] at hp
     obtain ⟨hp1,rfl⟩:=hp
     (repeat' (first|refine Run.ct rfl ?_|((first|refine Run.reg mixed ?_|refine Run.AL ?_|refine AH.det (hn) ?_)<;>try simp -implicitDefEqProofs only [BU hlt,AE,he,hw1,FD,hp1,go_sem])|fail))
     exact ih (i+1) ⟨by omega,KV hok hx (by simp [hnm,hp1])⟩ (by omega)
   |false=>
    have hnm:DU x=false:=(Dk.1 hp).1
    rw [hnm] at hn
    have hres:M3 l strict=false:=by rw [M3,XA hx hp,DZ]
    cases h0:(x==[]) with
    |false=>
     (repeat' (first|refine Run.ct rfl ?_|((first|refine Run.reg mixed ?_|refine Run.AL ?_|refine Run.Ad Mh (AN.le_refl _) ?_|refine AH.det (hn) ?_)<;>try simp -implicitDefEqProofs only [BU hlt,AE,he,hw1,FD,h0,go_sem])|fail))
     rw [hres]
    |true=>
     have hst:strict=true:=by simpa [hnm,h0] using hp
     (repeat' (first|refine Run.ct rfl ?_|((first|refine Run.reg mixed ?_|refine Run.AL ?_|refine Run.Ad Mh (AN.le_refl _) ?_|refine AH.det (hn) ?_)<;>try simp -implicitDefEqProofs only [BU hlt,AE,he,hw1,FD,h0,hst,go_sem])|fail))
     rw [← hst,hres]
 · (repeat' (first|refine Run.ct rfl ?_|((first|refine Run.reg mixed ?_|refine Run.AL ?_|refine Run.Ad Mh (AN.le_refl _) ?_)<;>try simp -implicitDefEqProofs only [FR hlt,AE,go_sem])|fail))
   rw [A8 (by omega)] at hok
   rw [M3,hok];simp [h6]
end Go.Ab
