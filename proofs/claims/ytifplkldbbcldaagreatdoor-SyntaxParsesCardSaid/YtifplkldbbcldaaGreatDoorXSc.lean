/- Names and arities, in plain data. Lists searched with a function. Names. Valid written types. Conditions: none. -/
import Derived.Test.YtifplkldbbcldaaGreatDoorXZa
set_option linter.unusedSimpArgs false
set_option linter.unusedVariables false
set_option maxRecDepth 4000
set_option maxHeartbeats 8000000
open List renaming getElem?_eq_some_iff→A3,mem_append→Bb,mem_singleton→JC,length_map→AJ,mem_of_getElem?→Aa,take_of_length_le→A8,any_eq_not_all_not→OD,map_cons→AB,map_nil→AE,all_append→Ce
open Bool renaming and_eq_true→AR,not_eq_true'→CZ,and_false→G6
namespace Go.Ab
def rF (o:Option Nat):Int:=match o with|some i=>i|none=>-1
def Ex.op:Ex→Int| .mk o _ _ _ _ _=>o
def Ex.num:Ex→Int| .mk _ _ u _ _ _=>u
def Ex.name:Ex→Str| .mk _ n _ _ _ _=>n
def Ex.names:Ex→List Str| .mk _ _ _ ns _ _=>ns
def Ex.kids:Ex→List Ex| .mk _ _ _ _ ks _=>ks
def Ex.alts:Ex→List Al| .mk _ _ _ _ _ al=>al
def Al.con:Al→Str| .mk c _ _=>c
def Al.vars:Al→List Str| .mk _ vs _=>vs
def Al.body:Al→Ex| .mk _ _ b=>b
end Go.Ab
namespace Go.Ab
open Go.Proofs
theorem QK {α:Type} {p:α→Bool} {l:List α} {i:Nat} {x:α} (h:∀y∈l.take i,p y=false) (hx:l[i]?=some x) (hp:p x=true):l.findIdx? p=some i:=by
 rw [List.findIdx?_eq_some_iff_getElem]
 obtain ⟨hl,he⟩:=A3.1 hx
 refine ⟨hl,by rw [he];exact hp,fun j hj=>?_⟩
 rw [h (l[j]'(by omega)) (List.mem_take_iff_getElem.2 ⟨j,by omega,rfl⟩)];simp
theorem QL {α:Type} {p:α→Bool} {l:List α} (h:∀y∈l,p y=false):l.findIdx? p=none:=by
 rw [List.findIdx?_eq_none_iff];exact h
theorem ZB {α:Type} {p:α→Bool} {l:List α} {i:Nat} {x:α} (h:∀y∈l.take i,p y=false) (hx:l[i]?=some x) (hp:p x=false):∀y∈l.take (i+1),p y=false:=by
 intro y hy
 rw [My hx] at hy
 rcases Bb.1 hy with hy|hy
 · exact h y hy
 · simp only [JC] at hy;subst hy;exact hp
theorem Yn (o:Option Nat):decide (0≤rF o)=o.isSome:=by
 cases o<;>simp [rF]
theorem OF {α:Type} (p:α→Bool) (l:List α):(l.findIdx? p).isSome=l.any p:=by
 rw [List.findIdx?_isSome]
theorem Te {fid:FuncId} {caps:List AV} (hb:Av Tryz.prog fid=true) (hcp:caps.all AV.BL=true) (p:Str→Bool) (l:List Str) (σ:AK) (hf:∀x∈l,AP Tryz.prog fid ((.d (.str x))::caps) σ (fun v σ'=>v= .d (.bool (p x))∧σ'=σ)):
 AP Tryz.prog 154 [.d (.sl (l.map Br)),.fn fid [] caps] σ (fun v σ'=>v= .d (.int .i64 (rF (l.findIdx? p)))∧σ'=σ):=by
 refine Nq (by simp) ?_
 rw [BH]
 refine Run.slot 0 (fun hb0=>?_)
 simp only [Jg,if_true,AV.Fc,AJ] at hb0
 (repeat' (first|refine ctQ rfl ?_|((first|refine rgQ mxQ ?_|refine cdQ ?_)<;>try simp -implicitDefEqProofs only [AJ,go_sem])|fail))
 refine Run.BU ?_
 refine Run.BZ ((fun (a0:AV) (a1:AV) (a7:AV)=>fun (i:Nat)=>put 0 a0 (put 1 a1 (put 7 a7 (put 8 (.d (.int .i64 i)) U)))) _ _ _) (fun _=>E) (fun _=>σ) (fun i=>i≤l.length∧∀x∈l.take i,p x=false) (fun i=>l.length - i) ?_ 0 ⟨by simp,by simp⟩
 rintro i ⟨hi,hno⟩ ih
 by_cases hlt:i < l.length
 · obtain ⟨x,hx⟩:=CF hlt
   have he:=Bq (enc:=Br) hx
   have hw1:IntKind.i64.wrap ((i:Int)+1)=((i+1:Nat):Int):=by rw [BF (by omega) (by omega)];omega
   have hc:=hf x (Aa hx)
   simp only [Br] at he
   cases hp:p x with
   |true=>
    rw [hp] at hc
    (repeat' (first|refine ctQ rfl ?_|((first|refine rgQ mxQ ?_|refine cdQ ?_|refine Run.A2 FM (AK.le_refl _) ?_|(refine ⟨fid,[],caps,rfl,hb,AD.det hc ?_ (by simp [hcp,Kg,Fu])⟩))<;>try simp -implicitDefEqProofs only [B1 hlt,he,go_sem])|fail))
    rw [QK hno hx hp];rfl
   |false=>
    rw [hp] at hc
    (repeat' (first|refine ctQ rfl ?_|((first|refine rgQ mxQ ?_|refine cdQ ?_|(refine ⟨fid,[],caps,rfl,hb,AD.det hc ?_ (by simp [hcp,Kg,Fu])⟩))<;>try simp -implicitDefEqProofs only [B1 hlt,he,hw1,go_sem])|fail))
    exact ih (i+1) ⟨by omega,ZB hno hx hp⟩ (by omega)
 · (repeat' (first|refine ctQ rfl ?_|((first|refine rgQ mxQ ?_|refine cdQ ?_|refine Run.A2 FM (AK.le_refl _) ?_)<;>try simp -implicitDefEqProofs only [Ff hlt,go_sem])|fail))
   rw [A8 (by omega)] at hno
   rw [QL hno];rfl
theorem Pz {fid:FuncId} {caps:List AV} (hb:Av Tryz.prog fid=true) (hcp:caps.all AV.BL=true) (p:Str→Bool) (l:List Str) (σ:AK) (hf:∀x∈l,AP Tryz.prog fid ((.d (.str x))::caps) σ (fun v σ'=>v= .d (.bool (p x))∧σ'=σ)):
 AP Tryz.prog 108 [.d (.sl (l.map Br)),.fn fid [] caps] σ (fun v σ'=>v= .d (.bool (l.any p))∧σ'=σ):=by
 refine MF (by simp) ?_
 rw [BH]
 (repeat' (first|refine ctQ rfl ?_|((first|refine rgQ mxQ ?_|refine cdQ ?_|refine Run.A2 Ge (AK.le_refl _) ?_|refine AD.det (Te hb hcp p l σ hf) ?_)<;>try simp -implicitDefEqProofs only [Yn,OF,go_sem])|fail))
theorem YM {fid:FuncId} {caps:List AV} (hb:Av Tryz.prog fid=true) (hcp:caps.all AV.BL=true) (x:Str) (b:Bool) (j:Nat) (σ:AK) (hj:σ.blk j=some [.fn fid [] caps]) (hf:AP Tryz.prog fid ((.d (.str x))::caps) σ (fun v σ'=>v= .d (.bool b)∧σ'=σ)):
 AP Tryz.prog 109 [(.d (.str x)),.gp j 0] σ (fun v σ'=>v= .d (.bool (!b))∧σ'=σ):=by
 refine Ri (by simp) ?_
 rw [BH]
 (repeat' (first|refine ctQ rfl ?_|((first|refine rgQ mxQ ?_|refine cdQ ?_|refine Run.A2 KO (AK.le_refl _) ?_|(refine ⟨fid,[],caps,rfl,hb,AD.det hf ?_ (by simp [hcp,Kg,Fu])⟩))<;>try simp -implicitDefEqProofs only [hj,go_sem])|fail))
theorem IB {fid:FuncId} {caps:List AV} (hb:Av Tryz.prog fid=true) (hcp:caps.all AV.BL=true) (p:Str→Bool) (l:List Str) (σ:AK) (hf:∀x∈l,∀σ1,σ.le σ1→AP Tryz.prog fid ((.d (.str x))::caps) σ1 (fun v σ'=>v= .d (.bool (p x))∧σ'=σ1)):
 AP Tryz.prog 52 [.d (.sl (l.map Br)),.fn fid [] caps] σ (fun v σ'=>v= .d (.bool (l.all p))∧σ'=σ):=by
 refine Tq (by simp) ?_
 rw [BH]
 (repeat' (first|refine ctQ rfl ?_|((first|refine rgQ mxQ ?_|refine cdQ ?_)<;>try simp -implicitDefEqProofs only [go_sem])|fail))
 intro j hj
 have hle:=FO (cs:=[.fn fid [] caps]) hj
 (repeat' (first|refine ctQ rfl ?_|((first|refine rgQ mxQ ?_|refine cdQ ?_|(refine Run.A2 M0 (σ2:=σ) hle ?_)|refine AD.det (Pz (by kernel_rfl) rfl (fun x=>!p x) l _ (fun x hx=>YM hb hcp x (p x) j _ (by simp only [AZ,if_true]) (hf x hx _ hle))) ?_)<;>try simp -implicitDefEqProofs only [go_sem])|fail))
 simp [OD]
theorem Nn {fid:FuncId} {caps:List AV} (hb:Av Tryz.prog fid=true) (hcp:caps.all AV.BL=true) (p:TE→Bool) (l:List TE) (σ:AK) (hf:∀x∈l,AP Tryz.prog fid ((teA x)::caps) σ (fun v σ'=>v= .d (.bool (p x))∧σ'=σ)):
 AP Tryz.prog 179 [.d (.sl (l.map TE.enc)),.fn fid [] caps] σ (fun v σ'=>v= .d (.int .i64 (rF (l.findIdx? p)))∧σ'=σ):=by
 refine Js (by simp) ?_
 rw [BH]
 refine Run.slot 0 (fun hb0=>?_)
 simp only [Jg,if_true,AV.Fc,AJ] at hb0
 (repeat' (first|refine ctQ rfl ?_|((first|refine rgQ mxQ ?_|refine cdQ ?_)<;>try simp -implicitDefEqProofs only [AJ,go_sem])|fail))
 refine Run.BU ?_
 refine Run.BZ ((fun (a0:AV) (a1:AV) (a7:AV)=>fun (i:Nat)=>put 0 a0 (put 1 a1 (put 7 a7 (put 8 (.d (.int .i64 i)) U)))) _ _ _) (fun _=>E) (fun _=>σ) (fun i=>i≤l.length∧∀x∈l.take i,p x=false) (fun i=>l.length - i) ?_ 0 ⟨by simp,by simp⟩
 rintro i ⟨hi,hno⟩ ih
 by_cases hlt:i < l.length
 · obtain ⟨x,hx⟩:=CF hlt
   have he:=Bq (enc:=TE.enc) hx
   have hw1:IntKind.i64.wrap ((i:Int)+1)=((i+1:Nat):Int):=by rw [BF (by omega) (by omega)];omega
   have hc:=hf x (Aa hx)
   obtain ⟨k,n,al⟩:=x
   simp only [TE.AS,teA,AB,AE] at he hc
   cases hp:p (.mk k n al) with
   |true=>
    rw [hp] at hc
    (repeat' (first|refine ctQ rfl ?_|((first|refine rgQ mxQ ?_|refine cdQ ?_|refine Run.A2 Db (AK.le_refl _) ?_|(refine ⟨fid,[],caps,rfl,hb,AD.det hc ?_ (by simp [hcp,Kg,Fu])⟩))<;>try simp -implicitDefEqProofs only [B1 hlt,he,go_sem])|fail))
    rw [QK hno hx hp];rfl
   |false=>
    rw [hp] at hc
    (repeat' (first|refine ctQ rfl ?_|((first|refine rgQ mxQ ?_|refine cdQ ?_|(refine ⟨fid,[],caps,rfl,hb,AD.det hc ?_ (by simp [hcp,Kg,Fu])⟩))<;>try simp -implicitDefEqProofs only [B1 hlt,he,hw1,go_sem])|fail))
    exact ih (i+1) ⟨by omega,ZB hno hx hp⟩ (by omega)
 · (repeat' (first|refine ctQ rfl ?_|((first|refine rgQ mxQ ?_|refine cdQ ?_|refine Run.A2 Db (AK.le_refl _) ?_)<;>try simp -implicitDefEqProofs only [Ff hlt,go_sem])|fail))
   rw [A8 (by omega)] at hno
   rw [QL hno];rfl
theorem Lu {fid:FuncId} {caps:List AV} (hb:Av Tryz.prog fid=true) (hcp:caps.all AV.BL=true) (p:TE→Bool) (l:List TE) (σ:AK) (hf:∀x∈l,AP Tryz.prog fid ((teA x)::caps) σ (fun v σ'=>v= .d (.bool (p x))∧σ'=σ)):
 AP Tryz.prog 151 [.d (.sl (l.map TE.enc)),.fn fid [] caps] σ (fun v σ'=>v= .d (.bool (l.any p))∧σ'=σ):=by
 refine Ic (by simp) ?_
 rw [BH]
 (repeat' (first|refine ctQ rfl ?_|((first|refine rgQ mxQ ?_|refine cdQ ?_|refine Run.A2 Et (AK.le_refl _) ?_|refine AD.det (Nn hb hcp p l σ hf) ?_)<;>try simp -implicitDefEqProofs only [Yn,OF,go_sem])|fail))
theorem Rc {fid:FuncId} {caps:List AV} (hb:Av Tryz.prog fid=true) (hcp:caps.all AV.BL=true) (x:TE) (b:Bool) (j:Nat) (σ:AK) (hj:σ.blk j=some [.fn fid [] caps]) (hf:AP Tryz.prog fid ((teA x)::caps) σ (fun v σ'=>v= .d (.bool b)∧σ'=σ)):
 AP Tryz.prog 152 [(teA x),.gp j 0] σ (fun v σ'=>v= .d (.bool (!b))∧σ'=σ):=by
 refine Mh (by simp) ?_
 rw [BH]
 obtain ⟨k,n,al⟩:=x
 simp only [TE.AS,teA,AB,AE] at hf ⊢
 (repeat' (first|refine ctQ rfl ?_|((first|refine rgQ mxQ ?_|refine cdQ ?_|refine Run.A2 HD (AK.le_refl _) ?_|(refine ⟨fid,[],caps,rfl,hb,AD.det hf ?_ (by simp [hcp,Kg,Fu])⟩))<;>try simp -implicitDefEqProofs only [hj,go_sem])|fail))
theorem MR {fid:FuncId} {caps:List AV} (hb:Av Tryz.prog fid=true) (hcp:caps.all AV.BL=true) (p:TE→Bool) (l:List TE) (σ:AK) (hf:∀x∈l,∀σ1,σ.le σ1→AP Tryz.prog fid ((teA x)::caps) σ1 (fun v σ'=>v= .d (.bool (p x))∧σ'=σ1)):
 AP Tryz.prog 104 [.d (.sl (l.map TE.enc)),.fn fid [] caps] σ (fun v σ'=>v= .d (.bool (l.all p))∧σ'=σ):=by
 refine Nr (by simp) ?_
 rw [BH]
 (repeat' (first|refine ctQ rfl ?_|((first|refine rgQ mxQ ?_|refine cdQ ?_)<;>try simp -implicitDefEqProofs only [go_sem])|fail))
 intro j hj
 have hle:=FO (cs:=[.fn fid [] caps]) hj
 (repeat' (first|refine ctQ rfl ?_|((first|refine rgQ mxQ ?_|refine cdQ ?_|(refine Run.A2 Hs (σ2:=σ) hle ?_)|refine AD.det (Lu (by kernel_rfl) rfl (fun x=>!p x) l _ (fun x hx=>Rc hb hcp x (p x) j _ (by simp only [AZ,if_true]) (hf x hx _ hle))) ?_)<;>try simp -implicitDefEqProofs only [go_sem])|fail))
 simp [OD]
theorem OW {fid:FuncId} {caps:List AV} (hb:Av Tryz.prog fid=true) (hcp:caps.all AV.BL=true) (p:CE→Bool) (l:List CE) (σ:AK) (hf:∀x∈l,AP Tryz.prog fid ((ceA x)::caps) σ (fun v σ'=>v= .d (.bool (p x))∧σ'=σ)):
 AP Tryz.prog 178 [.d (.sl (l.map CE.enc)),.fn fid [] caps] σ (fun v σ'=>v= .d (.int .i64 (rF (l.findIdx? p)))∧σ'=σ):=by
 refine Kc (by simp) ?_
 rw [BH]
 refine Run.slot 0 (fun hb0=>?_)
 simp only [Jg,if_true,AV.Fc,AJ] at hb0
 (repeat' (first|refine ctQ rfl ?_|((first|refine rgQ mxQ ?_|refine cdQ ?_)<;>try simp -implicitDefEqProofs only [AJ,go_sem])|fail))
 refine Run.BU ?_
 refine Run.BZ ((fun (a0:AV) (a1:AV) (a7:AV)=>fun (i:Nat)=>put 0 a0 (put 1 a1 (put 7 a7 (put 8 (.d (.int .i64 i)) U)))) _ _ _) (fun _=>E) (fun _=>σ) (fun i=>i≤l.length∧∀x∈l.take i,p x=false) (fun i=>l.length - i) ?_ 0 ⟨by simp,by simp⟩
 rintro i ⟨hi,hno⟩ ih
 by_cases hlt:i < l.length
 · obtain ⟨x,hx⟩:=CF hlt
   have he:=Bq (enc:=CE.enc) hx
   have hw1:IntKind.i64.wrap ((i:Int)+1)=((i+1:Nat):Int):=by rw [BF (by omega) (by omega)];omega
   have hc:=hf x (Aa hx)
   obtain ⟨nm,ar⟩:=x
   simp only [CE.enc,ceA,AB,AE] at he hc
   cases hp:p (⟨nm,ar⟩) with
   |true=>
    rw [hp] at hc
    (repeat' (first|refine ctQ rfl ?_|((first|refine rgQ mxQ ?_|refine cdQ ?_|refine Run.A2 Du (AK.le_refl _) ?_|(refine ⟨fid,[],caps,rfl,hb,AD.det hc ?_ (by simp [hcp,Kg,Fu])⟩))<;>try simp -implicitDefEqProofs only [B1 hlt,he,go_sem])|fail))
    rw [QK hno hx hp];rfl
   |false=>
    rw [hp] at hc
    (repeat' (first|refine ctQ rfl ?_|((first|refine rgQ mxQ ?_|refine cdQ ?_|(refine ⟨fid,[],caps,rfl,hb,AD.det hc ?_ (by simp [hcp,Kg,Fu])⟩))<;>try simp -implicitDefEqProofs only [B1 hlt,he,hw1,go_sem])|fail))
    exact ih (i+1) ⟨by omega,ZB hno hx hp⟩ (by omega)
 · (repeat' (first|refine ctQ rfl ?_|((first|refine rgQ mxQ ?_|refine cdQ ?_|refine Run.A2 Du (AK.le_refl _) ?_)<;>try simp -implicitDefEqProofs only [Ff hlt,go_sem])|fail))
   rw [A8 (by omega)] at hno
   rw [QL hno];rfl
theorem M8 {fid:FuncId} {caps:List AV} (hb:Av Tryz.prog fid=true) (hcp:caps.all AV.BL=true) (p:CE→Bool) (l:List CE) (σ:AK) (hf:∀x∈l,AP Tryz.prog fid ((ceA x)::caps) σ (fun v σ'=>v= .d (.bool (p x))∧σ'=σ)):
 AP Tryz.prog 149 [.d (.sl (l.map CE.enc)),.fn fid [] caps] σ (fun v σ'=>v= .d (.bool (l.any p))∧σ'=σ):=by
 refine JG (by simp) ?_
 rw [BH]
 (repeat' (first|refine ctQ rfl ?_|((first|refine rgQ mxQ ?_|refine cdQ ?_|refine Run.A2 FI (AK.le_refl _) ?_|refine AD.det (OW hb hcp p l σ hf) ?_)<;>try simp -implicitDefEqProofs only [Yn,OF,go_sem])|fail))
theorem SQ {fid:FuncId} {caps:List AV} (hb:Av Tryz.prog fid=true) (hcp:caps.all AV.BL=true) (x:CE) (b:Bool) (j:Nat) (σ:AK) (hj:σ.blk j=some [.fn fid [] caps]) (hf:AP Tryz.prog fid ((ceA x)::caps) σ (fun v σ'=>v= .d (.bool b)∧σ'=σ)):
 AP Tryz.prog 150 [(ceA x),.gp j 0] σ (fun v σ'=>v= .d (.bool (!b))∧σ'=σ):=by
 refine NW (by simp) ?_
 rw [BH]
 obtain ⟨nm,ar⟩:=x
 simp only [CE.enc,ceA,AB,AE] at hf ⊢
 (repeat' (first|refine ctQ rfl ?_|((first|refine rgQ mxQ ?_|refine cdQ ?_|refine Run.A2 HV (AK.le_refl _) ?_|(refine ⟨fid,[],caps,rfl,hb,AD.det hf ?_ (by simp [hcp,Kg,Fu])⟩))<;>try simp -implicitDefEqProofs only [hj,go_sem])|fail))
theorem Ul {fid:FuncId} {caps:List AV} (hb:Av Tryz.prog fid=true) (hcp:caps.all AV.BL=true) (p:CE→Bool) (l:List CE) (σ:AK) (hf:∀x∈l,∀σ1,σ.le σ1→AP Tryz.prog fid ((ceA x)::caps) σ1 (fun v σ'=>v= .d (.bool (p x))∧σ'=σ1)):
 AP Tryz.prog 102 [.d (.sl (l.map CE.enc)),.fn fid [] caps] σ (fun v σ'=>v= .d (.bool (l.all p))∧σ'=σ):=by
 refine O2 (by simp) ?_
 rw [BH]
 (repeat' (first|refine ctQ rfl ?_|((first|refine rgQ mxQ ?_|refine cdQ ?_)<;>try simp -implicitDefEqProofs only [go_sem])|fail))
 intro j hj
 have hle:=FO (cs:=[.fn fid [] caps]) hj
 (repeat' (first|refine ctQ rfl ?_|((first|refine rgQ mxQ ?_|refine cdQ ?_|(refine Run.A2 IM (σ2:=σ) hle ?_)|refine AD.det (M8 (by kernel_rfl) rfl (fun x=>!p x) l _ (fun x hx=>SQ hb hcp x (p x) j _ (by simp only [AZ,if_true]) (hf x hx _ hle))) ?_)<;>try simp -implicitDefEqProofs only [go_sem])|fail))
 simp [OD]
theorem SO {fid:FuncId} {caps:List AV} (hb:Av Tryz.prog fid=true) (hcp:caps.all AV.BL=true) (p:Al→Bool) (l:List Al) (σ:AK) (hf:∀x∈l,AP Tryz.prog fid ((alA x)::caps) σ (fun v σ'=>v= .d (.bool (p x))∧σ'=σ)):
 AP Tryz.prog 195 [.d (.sl (l.map Al.enc)),.fn fid [] caps] σ (fun v σ'=>v= .d (.int .i64 (rF (l.findIdx? p)))∧σ'=σ):=by
 refine NV (by simp) ?_
 rw [BH]
 refine Run.slot 0 (fun hb0=>?_)
 simp only [Jg,if_true,AV.Fc,AJ] at hb0
 (repeat' (first|refine ctQ rfl ?_|((first|refine rgQ mxQ ?_|refine cdQ ?_)<;>try simp -implicitDefEqProofs only [AJ,go_sem])|fail))
 refine Run.BU ?_
 refine Run.BZ ((fun (a0:AV) (a1:AV) (a7:AV)=>fun (i:Nat)=>put 0 a0 (put 1 a1 (put 7 a7 (put 8 (.d (.int .i64 i)) U)))) _ _ _) (fun _=>E) (fun _=>σ) (fun i=>i≤l.length∧∀x∈l.take i,p x=false) (fun i=>l.length - i) ?_ 0 ⟨by simp,by simp⟩
 rintro i ⟨hi,hno⟩ ih
 by_cases hlt:i < l.length
 · obtain ⟨x,hx⟩:=CF hlt
   have he:=Bq (enc:=Al.enc) hx
   have hw1:IntKind.i64.wrap ((i:Int)+1)=((i+1:Nat):Int):=by rw [BF (by omega) (by omega)];omega
   have hc:=hf x (Aa hx)
   obtain ⟨c,vs,o,n,u,ns,ks,al⟩:=x
   simp only [Al.AS,alA,AB,AE] at he hc
   cases hp:p (.mk c vs (.mk o n u ns ks al)) with
   |true=>
    rw [hp] at hc
    (repeat' (first|refine ctQ rfl ?_|((first|refine rgQ mxQ ?_|refine cdQ ?_|refine Run.A2 Eu (AK.le_refl _) ?_|(refine ⟨fid,[],caps,rfl,hb,AD.det hc ?_ (by simp [hcp,Kg,Fu])⟩))<;>try simp -implicitDefEqProofs only [B1 hlt,he,go_sem])|fail))
    rw [QK hno hx hp];rfl
   |false=>
    rw [hp] at hc
    (repeat' (first|refine ctQ rfl ?_|((first|refine rgQ mxQ ?_|refine cdQ ?_|(refine ⟨fid,[],caps,rfl,hb,AD.det hc ?_ (by simp [hcp,Kg,Fu])⟩))<;>try simp -implicitDefEqProofs only [B1 hlt,he,hw1,go_sem])|fail))
    exact ih (i+1) ⟨by omega,ZB hno hx hp⟩ (by omega)
 · (repeat' (first|refine ctQ rfl ?_|((first|refine rgQ mxQ ?_|refine cdQ ?_|refine Run.A2 Eu (AK.le_refl _) ?_)<;>try simp -implicitDefEqProofs only [Ff hlt,go_sem])|fail))
   rw [A8 (by omega)] at hno
   rw [QL hno];rfl
theorem Ok {fid:FuncId} {caps:List AV} (hb:Av Tryz.prog fid=true) (hcp:caps.all AV.BL=true) (p:Al→Bool) (l:List Al) (σ:AK) (hf:∀x∈l,AP Tryz.prog fid ((alA x)::caps) σ (fun v σ'=>v= .d (.bool (p x))∧σ'=σ)):
 AP Tryz.prog 180 [.d (.sl (l.map Al.enc)),.fn fid [] caps] σ (fun v σ'=>v= .d (.bool (l.any p))∧σ'=σ):=by
 refine L7 (by simp) ?_
 rw [BH]
 (repeat' (first|refine ctQ rfl ?_|((first|refine rgQ mxQ ?_|refine cdQ ?_|refine Run.A2 GP (AK.le_refl _) ?_|refine AD.det (SO hb hcp p l σ hf) ?_)<;>try simp -implicitDefEqProofs only [Yn,OF,go_sem])|fail))
theorem W7 {fid:FuncId} {caps:List AV} (hb:Av Tryz.prog fid=true) (hcp:caps.all AV.BL=true) (x:Al) (b:Bool) (j:Nat) (σ:AK) (hj:σ.blk j=some [.fn fid [] caps]) (hf:AP Tryz.prog fid ((alA x)::caps) σ (fun v σ'=>v= .d (.bool b)∧σ'=σ)):
 AP Tryz.prog 181 [(alA x),.gp j 0] σ (fun v σ'=>v= .d (.bool (!b))∧σ'=σ):=by
 refine QO (by simp) ?_
 rw [BH]
 obtain ⟨c,vs,o,n,u,ns,ks,al⟩:=x
 simp only [Al.AS,alA,AB,AE] at hf ⊢
 (repeat' (first|refine ctQ rfl ?_|((first|refine rgQ mxQ ?_|refine cdQ ?_|refine Run.A2 J3 (AK.le_refl _) ?_|(refine ⟨fid,[],caps,rfl,hb,AD.det hf ?_ (by simp [hcp,Kg,Fu])⟩))<;>try simp -implicitDefEqProofs only [hj,go_sem])|fail))
theorem ZN {fid:FuncId} {caps:List AV} (hb:Av Tryz.prog fid=true) (hcp:caps.all AV.BL=true) (p:Al→Bool) (l:List Al) (σ:AK) (hf:∀x∈l,∀σ1,σ.le σ1→AP Tryz.prog fid ((alA x)::caps) σ1 (fun v σ'=>v= .d (.bool (p x))∧σ'=σ1)):
 AP Tryz.prog 158 [.d (.sl (l.map Al.enc)),.fn fid [] caps] σ (fun v σ'=>v= .d (.bool (l.all p))∧σ'=σ):=by
 refine Sg (by simp) ?_
 rw [BH]
 (repeat' (first|refine ctQ rfl ?_|((first|refine rgQ mxQ ?_|refine cdQ ?_)<;>try simp -implicitDefEqProofs only [go_sem])|fail))
 intro j hj
 have hle:=FO (cs:=[.fn fid [] caps]) hj
 (repeat' (first|refine ctQ rfl ?_|((first|refine rgQ mxQ ?_|refine cdQ ?_|(refine Run.A2 LY (σ2:=σ) hle ?_)|refine AD.det (Ok (by kernel_rfl) rfl (fun x=>!p x) l _ (fun x hx=>W7 hb hcp x (p x) j _ (by simp only [AZ,if_true]) (hf x hx _ hle))) ?_)<;>try simp -implicitDefEqProofs only [go_sem])|fail))
 simp [OD]
end Go.Ab
namespace Go.Ab
open Go.Proofs
def singleR (r:List Tok×Nat×Int) (k:Int) (s:Str):Bool:=
 r.2.2==0&&(r.1.length==2&&(match r.1 with|[]=>false|a::_=>a.kind==k&&a.text==s))
theorem bJ (k:Int) (s:Str):HJ k s=singleR (Au s) k s:=rfl
theorem o9 {α:Type} {l:List α} (h:l.length=2):∃a b,l=[a,b]:=by
 match l,h with
 |[a,b],_=>exact ⟨a,b,rfl⟩
theorem DU (s:Str) (k:Int) (σ:AK):AP Tryz.prog 54 [.d (.str s),.d (.int .i64 k)] σ (fun v σ'=>v= .d (.bool (HJ k s))∧σ'=σ):=by
 refine iQ (by simp) ?_
 rw [BH,bJ]
 have hsp:=YB s σ
 generalize Au s=r at hsp ⊢
 obtain ⟨l,q,e⟩:=r
 simp only [Gy] at hsp
 cases he:(e==0) with
 |false=>
  (repeat' (first|refine ctQ rfl ?_|((first|refine rgQ mxQ ?_|refine cdQ ?_|refine Run.A2 LW (AK.le_refl _) ?_|refine AD.det (hsp) ?_)<;>try simp -implicitDefEqProofs only [he,go_sem])|fail))
  simp [singleR,he]
 |true=>
 by_cases hl:l.length=2
 · obtain ⟨⟨ak,at',ap⟩,b,rfl⟩:=o9 hl
   simp only [Tok.enc,AB,AE] at hsp
   cases hk:(ak==k) with
   |false=>
    (repeat' (first|refine ctQ rfl ?_|((first|refine rgQ mxQ ?_|refine cdQ ?_|refine Run.A2 LW (AK.le_refl _) ?_|refine AD.det (hsp) ?_|(refine GS rfl (fun h=>?_) (fun h=>?_)<;>try (cases h;done)))<;>try simp -implicitDefEqProofs only [he,hk,go_sem])|fail))
    simp [singleR,hk]
   |true=>
    (repeat' (first|refine ctQ rfl ?_|((first|refine rgQ mxQ ?_|refine cdQ ?_|refine Run.A2 LW (AK.le_refl _) ?_|refine AD.det (hsp) ?_|(refine GS rfl (fun h=>?_) (fun h=>?_)<;>try (cases h;done)))<;>try simp -implicitDefEqProofs only [he,hk,go_sem])|fail))
    simp [singleR,hk,he]
 · have h2:((l.length:Int)==2)=false:=by simp only [beq_eq_false_iff_ne,ne_eq];omega
   (repeat' (first|refine ctQ rfl ?_|((first|refine rgQ mxQ ?_|refine cdQ ?_|refine Run.A2 LW (AK.le_refl _) ?_|refine AD.det (hsp) ?_)<;>try simp -implicitDefEqProofs only [he,AJ,h2,go_sem])|fail))
   simp [singleR,hl]
theorem OU (s:Str) (k:Int) (σ:AK):AP Tryz.prog 107 [.d (.str s),.d (.int .i64 k)] σ (fun v σ'=>v= .d (.bool (HJ k s))∧σ'=σ):=by
 refine Wv (by simp) ?_
 rw [BH,bJ]
 have hsp:=TU s σ
 generalize Au s=r at hsp ⊢
 obtain ⟨l,q,e⟩:=r
 simp only [Gy] at hsp
 cases he:(e==0) with
 |false=>
  (repeat' (first|refine ctQ rfl ?_|((first|refine rgQ mxQ ?_|refine cdQ ?_|refine Run.A2 Fp (AK.le_refl _) ?_|refine AD.det (hsp) ?_)<;>try simp -implicitDefEqProofs only [he,go_sem])|fail))
  simp [singleR,he]
 |true=>
 by_cases hl:l.length=2
 · obtain ⟨⟨ak,at',ap⟩,b,rfl⟩:=o9 hl
   simp only [Tok.enc,AB,AE] at hsp
   cases hk:(ak==k) with
   |false=>
    (repeat' (first|refine ctQ rfl ?_|((first|refine rgQ mxQ ?_|refine cdQ ?_|refine Run.A2 Fp (AK.le_refl _) ?_|refine AD.det (hsp) ?_|(refine GS rfl (fun h=>?_) (fun h=>?_)<;>try (cases h;done)))<;>try simp -implicitDefEqProofs only [he,hk,go_sem])|fail))
    simp [singleR,hk]
   |true=>
    (repeat' (first|refine ctQ rfl ?_|((first|refine rgQ mxQ ?_|refine cdQ ?_|refine Run.A2 Fp (AK.le_refl _) ?_|refine AD.det (hsp) ?_|(refine GS rfl (fun h=>?_) (fun h=>?_)<;>try (cases h;done)))<;>try simp -implicitDefEqProofs only [he,hk,go_sem])|fail))
    simp [singleR,hk,he]
 · have h2:((l.length:Int)==2)=false:=by simp only [beq_eq_false_iff_ne,ne_eq];omega
   (repeat' (first|refine ctQ rfl ?_|((first|refine rgQ mxQ ?_|refine cdQ ?_|refine Run.A2 Fp (AK.le_refl _) ?_|refine AD.det (hsp) ?_)<;>try simp -implicitDefEqProofs only [he,AJ,h2,go_sem])|fail))
   simp [singleR,hl]
theorem Dy (s:Str) (σ:AK):AP Tryz.prog 51 [.d (.str s)] σ (fun v σ'=>v= .d (.bool (EE s))∧σ'=σ):=by
 refine YW (by simp) ?_
 rw [Ar]
 (repeat' (first|refine ctQ rfl ?_|((first|refine rgQ mxQ ?_|refine cdQ ?_|refine Run.A2 R2 (AK.le_refl _) ?_|refine AD.det (OU s 1 _) ?_)<;>try simp -implicitDefEqProofs only [go_sem])|fail))
 rfl
theorem Bi (s:Str) (σ:AK):AP Tryz.prog 101 [.d (.str s)] σ (fun v σ'=>v= .d (.bool (upperB s))∧σ'=σ):=by
 refine Ww (by simp) ?_
 rw [Ar]
 (repeat' (first|refine ctQ rfl ?_|((first|refine rgQ mxQ ?_|refine cdQ ?_|refine Run.A2 PH (AK.le_refl _) ?_|refine AD.det (OU s 2 _) ?_)<;>try simp -implicitDefEqProofs only [go_sem])|fail))
 rfl
theorem Kp (s:Str) (σ:AK):AP Tryz.prog 157 [.d (.str s)] σ (fun v σ'=>v= .d (.bool (KA s))∧σ'=σ):=by
 refine YV (by simp) ?_
 rw [Ar]
 cases h0:(s==[]) with
 |true=>
  (repeat' (first|refine ctQ rfl ?_|((first|refine rgQ mxQ ?_|refine cdQ ?_|refine Run.A2 ME (AK.le_refl _) ?_)<;>try simp -implicitDefEqProofs only [Jl,h0,go_sem])|fail))
  simp [KA,h0]
 |false=>
  (repeat' (first|refine ctQ rfl ?_|((first|refine rgQ mxQ ?_|refine cdQ ?_|refine Run.A2 ME (AK.le_refl _) ?_|refine AD.det (Dy s _) ?_)<;>try simp -implicitDefEqProofs only [Jl,h0,go_sem])|fail))
  simp [KA,h0]
def NC (l:List Str) (strict:Bool):Bool:=decide (l.length≤6)&&l.all (fun s=>EE s||(s==[]&& !strict))
theorem gt6 (n:Nat):decide ((6:Int) < (n:Int))=!decide (n≤6):=gtN n 6
theorem ZO {α:Type} {p:α→Bool} {l:List α} {i:Nat} {x:α} (hx:l[i]?=some x) (hp:p x=false):l.all p=false:=by
 rw [List.all_eq_false];exact ⟨x,Aa hx,by rw [hp];simp⟩
theorem Kv {α:Type} {p:α→Bool} {l:List α} {i:Nat} {x:α} (h:(l.take i).all p=true) (hx:l[i]?=some x) (hp:p x=true):(l.take (i+1)).all p=true:=by
 rw [My hx,Ce,h];simp [hp]
theorem Iz (l:List Str) (strict:Bool) (σ:AK):AP Tryz.prog 55 [.d (.sl (l.map Br)),.d (.bool strict)] σ (fun v σ'=>v= .d (.bool (NC l strict))∧σ'=σ):=by
 refine mA (by simp) ?_
 rw [BH]
 by_cases h6:l.length≤6
 case neg=>
  (repeat' (first|refine ctQ rfl ?_|((first|refine rgQ mxQ ?_|refine cdQ ?_|refine Run.A2 NQ (AK.le_refl _) ?_)<;>try simp -implicitDefEqProofs only [gt6,AJ,decide_eq_false h6,go_sem])|fail))
  simp [NC,h6]
 (repeat' (first|refine ctQ rfl ?_|((first|refine rgQ mxQ ?_|refine cdQ ?_)<;>try simp -implicitDefEqProofs only [gt6,AJ,decide_eq_true h6,go_sem])|fail))
 refine Run.BU ?_
 refine Run.BZ ((fun (a0:AV) (a1:AV)=>fun (i:Nat)=>put 0 a0 (put 1 a1 (put 5 (.d (.int .i64 i)) U))) _ _) (fun _=>E) (fun _=>σ) (fun i=>i≤l.length∧(l.take i).all (fun s=>EE s||(s==[]&& !strict))=true) (fun i=>l.length - i) ?_ 0 ⟨by simp,by simp⟩
 rintro i ⟨hi,hok⟩ ih
 by_cases hlt:i < l.length
 · obtain ⟨x,hx⟩:=CF hlt
   have he:=Bq (enc:=Br) hx
   simp only [Br] at he
   have hw1:=BV (show i+1≤9000000000000000000 by omega)
   have hn:=DU x 1 σ
   rw [show HJ 1 x=EE x from rfl] at hn
   cases hp:(EE x||(x==[]&& !strict)) with
   |true=>
    cases hnm:EE x with
    |true=>
     rw [hnm] at hn
     (repeat' (first|refine ctQ rfl ?_|((first|refine rgQ mxQ ?_|refine cdQ ?_|refine AD.det (hn) ?_)<;>try simp -implicitDefEqProofs only [B1 hlt,AJ,he,hw1,go_sem])|fail))
     exact ih (i+1) ⟨by omega,Kv hok hx hp⟩ (by omega)
    |false=>
     rw [hnm] at hn
     simp only [hnm,Bool.false_or,AR,CZ] at hp
     obtain ⟨hp1,rfl⟩:=hp
     (repeat' (first|refine ctQ rfl ?_|((first|refine rgQ mxQ ?_|refine cdQ ?_|refine AD.det (hn) ?_)<;>try simp -implicitDefEqProofs only [B1 hlt,AJ,he,hw1,Jl,hp1,go_sem])|fail))
     exact ih (i+1) ⟨by omega,Kv hok hx (by simp [hnm,hp1])⟩ (by omega)
   |false=>
    have hnm:EE x=false:=(Bool.or_eq_false_iff.1 hp).1
    rw [hnm] at hn
    have hres:NC l strict=false:=by rw [NC,ZO hx hp,G6]
    cases h0:(x==[]) with
    |false=>
     (repeat' (first|refine ctQ rfl ?_|((first|refine rgQ mxQ ?_|refine cdQ ?_|refine Run.A2 NQ (AK.le_refl _) ?_|refine AD.det (hn) ?_)<;>try simp -implicitDefEqProofs only [B1 hlt,AJ,he,Jl,h0,go_sem])|fail))
     rw [hres]
    |true=>
     have hst:strict=true:=by simpa [hnm,h0] using hp
     (repeat' (first|refine ctQ rfl ?_|((first|refine rgQ mxQ ?_|refine cdQ ?_|refine Run.A2 NQ (AK.le_refl _) ?_|refine AD.det (hn) ?_)<;>try simp -implicitDefEqProofs only [B1 hlt,AJ,he,Jl,h0,hst,go_sem])|fail))
     rw [← hst,hres]
 · (repeat' (first|refine ctQ rfl ?_|((first|refine rgQ mxQ ?_|refine cdQ ?_|refine Run.A2 NQ (AK.le_refl _) ?_)<;>try simp -implicitDefEqProofs only [Ff hlt,AJ,go_sem])|fail))
   rw [A8 (by omega)] at hok
   rw [NC,hok];simp [h6]
end Go.Ab
namespace Go.Ab
open Go.Proofs
set_option maxHeartbeats 4000000 in
theorem Y2:∀(d:Nat) (t:TE) (σ:AK),d≤40→t.size≤1000000→AP Tryz.prog 56 [teA t,.d (.int .i64 d)] σ (fun v σ'=>v= .d (.bool (Cq d t))∧σ'=σ):=by
 intro d
 induction d with
 |zero=>
  rintro ⟨k,n,l⟩ σ _ _
  refine Se (by simp) ?_
  rw [BH,teA,TE.AS]
  have h0:(((0:Nat):Int)==0)=true:=by decide
  (repeat' (first|refine ctQ rfl ?_|((first|refine rgQ mxQ ?_|refine cdQ ?_|refine Run.A2 HT (AK.le_refl _) ?_)<;>try simp -implicitDefEqProofs only [h0,go_sem])|fail))
  rfl
 |succ d ihd=>
  rintro ⟨k,n,l⟩ σ hd hsz
  have hlen:=TE.Hl l
  have hsz1:TE.BY l+1≤1000000:=by simpa [TE.size,Nat.add_comm] using hsz
  refine Se (by simp) ?_
  rw [BH,teA,TE.AS]
  have h0:(((d+1:Nat):Int)==0)=false:=by simp only [beq_eq_false_iff_ne,ne_eq];omega
  have hws:IntKind.i64.wrap (((d+1:Nat):Int) - 1)=(d:Int):=VU (by omega)
  have hloop:OT k n l.length=true→Run GF (fun v σ'=>v= .d (.bool (Cq (d+1) (.mk k n l)))∧σ'=σ) [.code (.loop OL),.blk 1,.code (.seq (.reg [⟨some 4,.mv (.c (.d (.bool true))),none⟩] [4]) .ret)]
   (put 1 (.d (.int .i64 ((d+1:Nat):Int))) (put 2 (.lp 2 0) (put 5 (.d (.int .i64 l.length)) (put 6 (.d (.int .i64 0)) U)))) (Aq 2 [.d (.int .i64 k),.d (.str n),.d (.sl (l.map TE.enc))] E) σ:=by
   intro hsh
   refine Run.BU ?_
   refine Run.BZ ((fun (a1:AV) (a2:AV) (a5:AV)=>fun (i:Nat)=>put 1 a1 (put 2 a2 (put 5 a5 (put 6 (.d (.int .i64 i)) U)))) _ _ _) (fun _=>Aq 2 [.d (.int .i64 k),.d (.str n),.d (.sl (l.map TE.enc))] E) (fun _=>σ) (fun i=>i≤l.length∧(l.take i).all (Cq d)=true) (fun i=>l.length - i) ?_ 0 ⟨by simp,by simp⟩
   rintro i ⟨hi,hok⟩ ih
   by_cases hlt:i < l.length
   · obtain ⟨x,hx⟩:=CF hlt
     have he:=Bq (enc:=TE.enc) hx
     have hms:=TE.VC (Aa hx)
     have hc:=ihd x σ (by omega) (by omega)
     have hw1:=BV (show i+1≤9000000000000000000 by omega)
     cases hp:Cq d x with
     |true=>
      rw [hp] at hc
      obtain ⟨xk,xn,xl⟩:=x
      simp only [TE.AS,teA,AB,AE] at he hc
      (repeat' (first|refine ctQ rfl ?_|((first|refine rgQ mxQ ?_|refine cdQ ?_|refine AD.det (hc) ?_)<;>try simp -implicitDefEqProofs only [B1 hlt,he,hw1,hws,go_sem])|fail))
      exact ih (i+1) ⟨by omega,Kv hok hx hp⟩ (by omega)
     |false=>
      rw [hp] at hc
      have hres:Cq (d+1) (.mk k n l)=false:=by rw [Cq,ZO hx hp,G6]
      obtain ⟨xk,xn,xl⟩:=x
      simp only [TE.AS,teA,AB,AE] at he hc
      (repeat' (first|refine ctQ rfl ?_|((first|refine rgQ mxQ ?_|refine cdQ ?_|refine Run.A2 HT (AK.le_refl _) ?_|refine AD.det (hc) ?_)<;>try simp -implicitDefEqProofs only [B1 hlt,he,hws,go_sem])|fail))
      rw [hres]
   · (repeat' (first|refine ctQ rfl ?_|((first|refine rgQ mxQ ?_|refine cdQ ?_|refine Run.A2 HT (AK.le_refl _) ?_)<;>try simp -implicitDefEqProofs only [Ff hlt,go_sem])|fail))
     rw [A8 (by omega)] at hok
     rw [Cq,hsh,hok];rfl
  clear ihd
  (repeat' (first|refine ctQ rfl ?_|((first|refine rgQ mxQ ?_|refine cdQ ?_|refine Run.A2 HT (AK.le_refl _) ?_|((refine hloop ?_))|refine AD.det (DU _ _ _) ?_|(refine GS rfl (fun h=>?_) (fun h=>?_)<;>try (cases h;done)))<;>try simp -implicitDefEqProofs only [h0,Jl,B0,AJ,go_sem])|(refine ⟨fun h=>?_,fun h=>?_⟩<;>first|(cases h;done)|try simp only [h])|fail))
  all_goals clear hloop hws h0
  all_goals (simp only [beq_iff_eq,beq_eq_false_iff_ne,ne_eq,CZ,Bool.not_eq_false',decide_eq_true_eq,decide_eq_false_iff_not] at *;simp_all [Cq,OT,EE,upperB];first|done|omega|(intros;omega)|(intros;exfalso;omega)|(rcases l with _|⟨a,l⟩<;>simp<;>omega))
end Go.Ab
