/- Names and arities, in plain data. Lists searched with a function. Names. Conditions: none. -/
import Derived.Test.YtifplkldbbcldaaGreatDoorXPf
set_option linter.unusedSimpArgs false
set_option linter.unusedVariables false
set_option maxRecDepth 4000
set_option maxHeartbeats 8000000
open List renaming getElem?_eq_some_iff→Ad,mem_append→BY,mem_singleton→Dy,length_map→AE,mem_of_getElem?→Aa,take_of_length_le→A6,any_eq_not_all_not→OD,map_cons→AG,map_nil→AH,all_append→CM
open Bool renaming false_or→Ms,and_eq_true→AM,not_eq_true'→CV,or_eq_false_iff→EA,and_false→Dd
namespace Go.Ab
def qG (o:Option Nat):Int:=match o with|some i=>i|none=>-1
def Ex.op:Ex→Int| .mk o _ _ _ _ _=>o
def Ex.num:Ex→Int| .mk _ _ u _ _ _=>u
def Ex.name:Ex→Str| .mk _ n _ _ _ _=>n
def Ex.names:Ex→List Str| .mk _ _ _ ns _ _=>ns
def Ex.kids:Ex→List Ex| .mk _ _ _ _ ks _=>ks
def Ex.alts:Ex→List Al| .mk _ _ _ _ _ al=>al
def Al.con:Al→Str| .mk c _ _=>c
def Al.vars:Al→List Str| .mk _ vs _=>vs
def Al.body:Al→Ex| .mk _ _ b=>b
end Go.Ab
namespace Go.Ab
open Go.Proofs
theorem QG {α:Type} {p:α→Bool} {l:List α} {i:Nat} {x:α} (h:∀y∈l.take i,p y=false) (hx:l[i]?=some x) (hp:p x=true):l.findIdx? p=some i:=by
 rw [List.findIdx?_eq_some_iff_getElem]
 obtain ⟨hl,he⟩:=Ad.1 hx
 refine ⟨hl,by rw [he];exact hp,fun j hj=>?_⟩
 rw [h (l[j]'(by omega)) (List.mem_take_iff_getElem.2 ⟨j,by omega,rfl⟩)];simp
theorem QH {α:Type} {p:α→Bool} {l:List α} (h:∀y∈l,p y=false):l.findIdx? p=none:=by
 rw [List.findIdx?_eq_none_iff];exact h
theorem Xo {α:Type} {p:α→Bool} {l:List α} {i:Nat} {x:α} (h:∀y∈l.take i,p y=false) (hx:l[i]?=some x) (hp:p x=false):∀y∈l.take (i+1),p y=false:=by
 intro y hy
 rw [E3 hx] at hy
 rcases BY.1 hy with hy|hy
 · exact h y hy
 · simp only [Dy] at hy;subst hy;exact hp
theorem Xk (o:Option Nat):decide (0≤qG o)=o.isSome:=by
 cases o<;>simp [qG]
theorem OF {α:Type} (p:α→Bool) (l:List α):(l.findIdx? p).isSome=l.any p:=by
 rw [List.findIdx?_isSome]
theorem T3 {fid:FuncId} {caps:List AV} (hb:Aw Tryz.prog fid=true) (hcp:caps.all AV.As=true) (p:Str→Bool) (l:List Str) (σ:AN) (hf:∀x∈l,AQ Tryz.prog fid ((.d (.str x))::caps) σ (fun v σ'=>v= .d (.bool (p x))∧σ'=σ)):
 AQ Tryz.prog 154 [.d (.sl (l.map BM)),.fn fid [] caps] σ (fun v σ'=>v= .d (.int .i64 (qG (l.findIdx? p)))∧σ'=σ):=by
 refine Nr (by simp) ?_
 rw [BP]
 refine Run.slot 0 (fun hb0=>?_)
 simp only [IX,if_true,AV.HW,AE] at hb0
 (repeat' (first|refine Run.ct rfl ?_|((first|refine Run.reg mixed ?_|refine Run.AJ ?_)<;>try simp -implicitDefEqProofs only [AE,go_sem])|fail))
 refine Run.B3 ?_
 refine Run.B6 ((fun (a0:AV) (a1:AV) (a7:AV)=>fun (i:Nat)=>put 0 a0 (put 1 a1 (put 7 a7 (put 8 (.d (.int .i64 i)) U)))) _ _ _) (fun _=>E) (fun _=>σ) (fun i=>i≤l.length∧∀x∈l.take i,p x=false) (fun i=>l.length - i) ?_ 0 ⟨by simp,by simp⟩
 rintro i ⟨hi,hno⟩ ih
 by_cases hlt:i < l.length
 · obtain ⟨x,hx⟩:=Bu hlt
   have he:=Bi (enc:=BM) hx
   have hw1:IntKind.i64.wrap ((i:Int)+1)=((i+1:Nat):Int):=by rw [Av (by omega) (by omega)];omega
   have hc:=hf x (Aa hx)
   simp only [BM] at he
   cases hp:p x with
   |true=>
    rw [hp] at hc
    (repeat' (first|refine Run.ct rfl ?_|((first|refine Run.reg mixed ?_|refine Run.AJ ?_|refine Run.A9 FO (AN.le_refl _) ?_|(refine ⟨fid,[],caps,rfl,hb,AI.det hc ?_ (by simp [hcp,K7,Fo])⟩))<;>try simp -implicitDefEqProofs only [BQ hlt,he,hw1,go_sem])|fail))
    rw [QG hno hx hp];rfl
   |false=>
    rw [hp] at hc
    (repeat' (first|refine Run.ct rfl ?_|((first|refine Run.reg mixed ?_|refine Run.AJ ?_|(refine ⟨fid,[],caps,rfl,hb,AI.det hc ?_ (by simp [hcp,K7,Fo])⟩))<;>try simp -implicitDefEqProofs only [BQ hlt,he,hw1,go_sem])|fail))
    exact ih (i+1) ⟨by omega,Xo hno hx hp⟩ (by omega)
 · (repeat' (first|refine Run.ct rfl ?_|((first|refine Run.reg mixed ?_|refine Run.AJ ?_|refine Run.A9 FO (AN.le_refl _) ?_)<;>try simp -implicitDefEqProofs only [DA hlt,go_sem])|fail))
   rw [A6 (by omega)] at hno
   rw [QH hno];rfl
theorem Pu {fid:FuncId} {caps:List AV} (hb:Aw Tryz.prog fid=true) (hcp:caps.all AV.As=true) (p:Str→Bool) (l:List Str) (σ:AN) (hf:∀x∈l,AQ Tryz.prog fid ((.d (.str x))::caps) σ (fun v σ'=>v= .d (.bool (p x))∧σ'=σ)):
 AQ Tryz.prog 108 [.d (.sl (l.map BM)),.fn fid [] caps] σ (fun v σ'=>v= .d (.bool (l.any p))∧σ'=σ):=by
 refine Lr (by simp) ?_
 rw [BP]
 (repeat' (first|refine Run.ct rfl ?_|((first|refine Run.reg mixed ?_|refine Run.AJ ?_|refine Run.A9 Ga (AN.le_refl _) ?_|refine AI.det (T3 hb hcp p l σ hf) ?_)<;>try simp -implicitDefEqProofs only [Xk,OF,go_sem])|fail))
theorem XP {fid:FuncId} {caps:List AV} (hb:Aw Tryz.prog fid=true) (hcp:caps.all AV.As=true) (x:Str) (b:Bool) (j:Nat) (σ:AN) (hj:σ.blk j=some [.fn fid [] caps]) (hf:AQ Tryz.prog fid ((.d (.str x))::caps) σ (fun v σ'=>v= .d (.bool b)∧σ'=σ)):
 AQ Tryz.prog 109 [(.d (.str x)),.gp j 0] σ (fun v σ'=>v= .d (.bool (!b))∧σ'=σ):=by
 refine RR (by simp) ?_
 rw [BP]
 (repeat' (first|refine Run.ct rfl ?_|((first|refine Run.reg mixed ?_|refine Run.AJ ?_|refine Run.A9 KG (AN.le_refl _) ?_|(refine ⟨fid,[],caps,rfl,hb,AI.det hf ?_ (by simp [hcp,K7,Fo])⟩))<;>try simp -implicitDefEqProofs only [hj,go_sem])|fail))
theorem Hs {fid:FuncId} {caps:List AV} (hb:Aw Tryz.prog fid=true) (hcp:caps.all AV.As=true) (p:Str→Bool) (l:List Str) (σ:AN) (hf:∀x∈l,∀σ1,σ.le σ1→AQ Tryz.prog fid ((.d (.str x))::caps) σ1 (fun v σ'=>v= .d (.bool (p x))∧σ'=σ1)):
 AQ Tryz.prog 52 [.d (.sl (l.map BM)),.fn fid [] caps] σ (fun v σ'=>v= .d (.bool (l.all p))∧σ'=σ):=by
 refine T8 (by simp) ?_
 rw [BP]
 (repeat' (first|refine Run.ct rfl ?_|((first|refine Run.reg mixed ?_|refine Run.AJ ?_)<;>try simp -implicitDefEqProofs only [go_sem])|fail))
 intro j hj
 have hle:=FQ (cs:=[.fn fid [] caps]) hj
 (repeat' (first|refine Run.ct rfl ?_|((first|refine Run.reg mixed ?_|refine Run.AJ ?_|(refine Run.A9 MQ (σ2:=σ) hle ?_)|refine AI.det (Pu (by kernel_rfl) rfl (fun x=>!p x) l _ (fun x hx=>XP hb hcp x (p x) j _ (by simp only [AO,if_true]) (hf x hx _ hle))) ?_)<;>try simp -implicitDefEqProofs only [go_sem])|fail))
 simp [OD]
theorem Nn {fid:FuncId} {caps:List AV} (hb:Aw Tryz.prog fid=true) (hcp:caps.all AV.As=true) (p:TE→Bool) (l:List TE) (σ:AN) (hf:∀x∈l,AQ Tryz.prog fid ((teA x)::caps) σ (fun v σ'=>v= .d (.bool (p x))∧σ'=σ)):
 AQ Tryz.prog 179 [.d (.sl (l.map TE.enc)),.fn fid [] caps] σ (fun v σ'=>v= .d (.int .i64 (qG (l.findIdx? p)))∧σ'=σ):=by
 refine Jn (by simp) ?_
 rw [BP]
 refine Run.slot 0 (fun hb0=>?_)
 simp only [IX,if_true,AV.HW,AE] at hb0
 (repeat' (first|refine Run.ct rfl ?_|((first|refine Run.reg mixed ?_|refine Run.AJ ?_)<;>try simp -implicitDefEqProofs only [AE,go_sem])|fail))
 refine Run.B3 ?_
 refine Run.B6 ((fun (a0:AV) (a1:AV) (a7:AV)=>fun (i:Nat)=>put 0 a0 (put 1 a1 (put 7 a7 (put 8 (.d (.int .i64 i)) U)))) _ _ _) (fun _=>E) (fun _=>σ) (fun i=>i≤l.length∧∀x∈l.take i,p x=false) (fun i=>l.length - i) ?_ 0 ⟨by simp,by simp⟩
 rintro i ⟨hi,hno⟩ ih
 by_cases hlt:i < l.length
 · obtain ⟨x,hx⟩:=Bu hlt
   have he:=Bi (enc:=TE.enc) hx
   have hw1:IntKind.i64.wrap ((i:Int)+1)=((i+1:Nat):Int):=by rw [Av (by omega) (by omega)];omega
   have hc:=hf x (Aa hx)
   obtain ⟨k,n,al⟩:=x
   simp only [TE.A3,teA,AG,AH] at he hc
   cases hp:p (.mk k n al) with
   |true=>
    rw [hp] at hc
    (repeat' (first|refine Run.ct rfl ?_|((first|refine Run.reg mixed ?_|refine Run.AJ ?_|refine Run.A9 Db (AN.le_refl _) ?_|(refine ⟨fid,[],caps,rfl,hb,AI.det hc ?_ (by simp [hcp,K7,Fo])⟩))<;>try simp -implicitDefEqProofs only [BQ hlt,he,hw1,go_sem])|fail))
    rw [QG hno hx hp];rfl
   |false=>
    rw [hp] at hc
    (repeat' (first|refine Run.ct rfl ?_|((first|refine Run.reg mixed ?_|refine Run.AJ ?_|(refine ⟨fid,[],caps,rfl,hb,AI.det hc ?_ (by simp [hcp,K7,Fo])⟩))<;>try simp -implicitDefEqProofs only [BQ hlt,he,hw1,go_sem])|fail))
    exact ih (i+1) ⟨by omega,Xo hno hx hp⟩ (by omega)
 · (repeat' (first|refine Run.ct rfl ?_|((first|refine Run.reg mixed ?_|refine Run.AJ ?_|refine Run.A9 Db (AN.le_refl _) ?_)<;>try simp -implicitDefEqProofs only [DA hlt,go_sem])|fail))
   rw [A6 (by omega)] at hno
   rw [QH hno];rfl
theorem Lg {fid:FuncId} {caps:List AV} (hb:Aw Tryz.prog fid=true) (hcp:caps.all AV.As=true) (p:TE→Bool) (l:List TE) (σ:AN) (hf:∀x∈l,AQ Tryz.prog fid ((teA x)::caps) σ (fun v σ'=>v= .d (.bool (p x))∧σ'=σ)):
 AQ Tryz.prog 151 [.d (.sl (l.map TE.enc)),.fn fid [] caps] σ (fun v σ'=>v= .d (.bool (l.any p))∧σ'=σ):=by
 refine I2 (by simp) ?_
 rw [BP]
 (repeat' (first|refine Run.ct rfl ?_|((first|refine Run.reg mixed ?_|refine Run.AJ ?_|refine Run.A9 Ev (AN.le_refl _) ?_|refine AI.det (Nn hb hcp p l σ hf) ?_)<;>try simp -implicitDefEqProofs only [Xk,OF,go_sem])|fail))
theorem RL {fid:FuncId} {caps:List AV} (hb:Aw Tryz.prog fid=true) (hcp:caps.all AV.As=true) (x:TE) (b:Bool) (j:Nat) (σ:AN) (hj:σ.blk j=some [.fn fid [] caps]) (hf:AQ Tryz.prog fid ((teA x)::caps) σ (fun v σ'=>v= .d (.bool b)∧σ'=σ)):
 AQ Tryz.prog 152 [(teA x),.gp j 0] σ (fun v σ'=>v= .d (.bool (!b))∧σ'=σ):=by
 refine Mc (by simp) ?_
 rw [BP]
 obtain ⟨k,n,al⟩:=x
 simp only [TE.A3,teA,AG,AH] at hf ⊢
 (repeat' (first|refine Run.ct rfl ?_|((first|refine Run.reg mixed ?_|refine Run.AJ ?_|refine Run.A9 Gw (AN.le_refl _) ?_|(refine ⟨fid,[],caps,rfl,hb,AI.det hf ?_ (by simp [hcp,K7,Fo])⟩))<;>try simp -implicitDefEqProofs only [hj,go_sem])|fail))
theorem MJ {fid:FuncId} {caps:List AV} (hb:Aw Tryz.prog fid=true) (hcp:caps.all AV.As=true) (p:TE→Bool) (l:List TE) (σ:AN) (hf:∀x∈l,∀σ1,σ.le σ1→AQ Tryz.prog fid ((teA x)::caps) σ1 (fun v σ'=>v= .d (.bool (p x))∧σ'=σ1)):
 AQ Tryz.prog 104 [.d (.sl (l.map TE.enc)),.fn fid [] caps] σ (fun v σ'=>v= .d (.bool (l.all p))∧σ'=σ):=by
 refine Ns (by simp) ?_
 rw [BP]
 (repeat' (first|refine Run.ct rfl ?_|((first|refine Run.reg mixed ?_|refine Run.AJ ?_)<;>try simp -implicitDefEqProofs only [go_sem])|fail))
 intro j hj
 have hle:=FQ (cs:=[.fn fid [] caps]) hj
 (repeat' (first|refine Run.ct rfl ?_|((first|refine Run.reg mixed ?_|refine Run.AJ ?_|(refine Run.A9 Hh (σ2:=σ) hle ?_)|refine AI.det (Lg (by kernel_rfl) rfl (fun x=>!p x) l _ (fun x hx=>RL hb hcp x (p x) j _ (by simp only [AO,if_true]) (hf x hx _ hle))) ?_)<;>try simp -implicitDefEqProofs only [go_sem])|fail))
 simp [OD]
theorem OT {fid:FuncId} {caps:List AV} (hb:Aw Tryz.prog fid=true) (hcp:caps.all AV.As=true) (p:CE→Bool) (l:List CE) (σ:AN) (hf:∀x∈l,AQ Tryz.prog fid ((ceA x)::caps) σ (fun v σ'=>v= .d (.bool (p x))∧σ'=σ)):
 AQ Tryz.prog 178 [.d (.sl (l.map CE.enc)),.fn fid [] caps] σ (fun v σ'=>v= .d (.int .i64 (qG (l.findIdx? p)))∧σ'=σ):=by
 refine K3 (by simp) ?_
 rw [BP]
 refine Run.slot 0 (fun hb0=>?_)
 simp only [IX,if_true,AV.HW,AE] at hb0
 (repeat' (first|refine Run.ct rfl ?_|((first|refine Run.reg mixed ?_|refine Run.AJ ?_)<;>try simp -implicitDefEqProofs only [AE,go_sem])|fail))
 refine Run.B3 ?_
 refine Run.B6 ((fun (a0:AV) (a1:AV) (a7:AV)=>fun (i:Nat)=>put 0 a0 (put 1 a1 (put 7 a7 (put 8 (.d (.int .i64 i)) U)))) _ _ _) (fun _=>E) (fun _=>σ) (fun i=>i≤l.length∧∀x∈l.take i,p x=false) (fun i=>l.length - i) ?_ 0 ⟨by simp,by simp⟩
 rintro i ⟨hi,hno⟩ ih
 by_cases hlt:i < l.length
 · obtain ⟨x,hx⟩:=Bu hlt
   have he:=Bi (enc:=CE.enc) hx
   have hw1:IntKind.i64.wrap ((i:Int)+1)=((i+1:Nat):Int):=by rw [Av (by omega) (by omega)];omega
   have hc:=hf x (Aa hx)
   obtain ⟨nm,ar⟩:=x
   simp only [CE.enc,ceA,AG,AH] at he hc
   cases hp:p (⟨nm,ar⟩) with
   |true=>
    rw [hp] at hc
    (repeat' (first|refine Run.ct rfl ?_|((first|refine Run.reg mixed ?_|refine Run.AJ ?_|refine Run.A9 Du (AN.le_refl _) ?_|(refine ⟨fid,[],caps,rfl,hb,AI.det hc ?_ (by simp [hcp,K7,Fo])⟩))<;>try simp -implicitDefEqProofs only [BQ hlt,he,hw1,go_sem])|fail))
    rw [QG hno hx hp];rfl
   |false=>
    rw [hp] at hc
    (repeat' (first|refine Run.ct rfl ?_|((first|refine Run.reg mixed ?_|refine Run.AJ ?_|(refine ⟨fid,[],caps,rfl,hb,AI.det hc ?_ (by simp [hcp,K7,Fo])⟩))<;>try simp -implicitDefEqProofs only [BQ hlt,he,hw1,go_sem])|fail))
    exact ih (i+1) ⟨by omega,Xo hno hx hp⟩ (by omega)
 · (repeat' (first|refine Run.ct rfl ?_|((first|refine Run.reg mixed ?_|refine Run.AJ ?_|refine Run.A9 Du (AN.le_refl _) ?_)<;>try simp -implicitDefEqProofs only [DA hlt,go_sem])|fail))
   rw [A6 (by omega)] at hno
   rw [QH hno];rfl
theorem M1 {fid:FuncId} {caps:List AV} (hb:Aw Tryz.prog fid=true) (hcp:caps.all AV.As=true) (p:CE→Bool) (l:List CE) (σ:AN) (hf:∀x∈l,AQ Tryz.prog fid ((ceA x)::caps) σ (fun v σ'=>v= .d (.bool (p x))∧σ'=σ)):
 AQ Tryz.prog 149 [.d (.sl (l.map CE.enc)),.fn fid [] caps] σ (fun v σ'=>v= .d (.bool (l.any p))∧σ'=σ):=by
 refine JD (by simp) ?_
 rw [BP]
 (repeat' (first|refine Run.ct rfl ?_|((first|refine Run.reg mixed ?_|refine Run.AJ ?_|refine Run.A9 FK (AN.le_refl _) ?_|refine AI.det (OT hb hcp p l σ hf) ?_)<;>try simp -implicitDefEqProofs only [Xk,OF,go_sem])|fail))
theorem Ru {fid:FuncId} {caps:List AV} (hb:Aw Tryz.prog fid=true) (hcp:caps.all AV.As=true) (x:CE) (b:Bool) (j:Nat) (σ:AN) (hj:σ.blk j=some [.fn fid [] caps]) (hf:AQ Tryz.prog fid ((ceA x)::caps) σ (fun v σ'=>v= .d (.bool b)∧σ'=σ)):
 AQ Tryz.prog 150 [(ceA x),.gp j 0] σ (fun v σ'=>v= .d (.bool (!b))∧σ'=σ):=by
 refine NQ (by simp) ?_
 rw [BP]
 obtain ⟨nm,ar⟩:=x
 simp only [CE.enc,ceA,AG,AH] at hf ⊢
 (repeat' (first|refine Run.ct rfl ?_|((first|refine Run.reg mixed ?_|refine Run.AJ ?_|refine Run.A9 HN (AN.le_refl _) ?_|(refine ⟨fid,[],caps,rfl,hb,AI.det hf ?_ (by simp [hcp,K7,Fo])⟩))<;>try simp -implicitDefEqProofs only [hj,go_sem])|fail))
theorem UZ {fid:FuncId} {caps:List AV} (hb:Aw Tryz.prog fid=true) (hcp:caps.all AV.As=true) (p:CE→Bool) (l:List CE) (σ:AN) (hf:∀x∈l,∀σ1,σ.le σ1→AQ Tryz.prog fid ((ceA x)::caps) σ1 (fun v σ'=>v= .d (.bool (p x))∧σ'=σ1)):
 AQ Tryz.prog 102 [.d (.sl (l.map CE.enc)),.fn fid [] caps] σ (fun v σ'=>v= .d (.bool (l.all p))∧σ'=σ):=by
 refine OZ (by simp) ?_
 rw [BP]
 (repeat' (first|refine Run.ct rfl ?_|((first|refine Run.reg mixed ?_|refine Run.AJ ?_)<;>try simp -implicitDefEqProofs only [go_sem])|fail))
 intro j hj
 have hle:=FQ (cs:=[.fn fid [] caps]) hj
 (repeat' (first|refine Run.ct rfl ?_|((first|refine Run.reg mixed ?_|refine Run.AJ ?_|(refine Run.A9 IE (σ2:=σ) hle ?_)|refine AI.det (M1 (by kernel_rfl) rfl (fun x=>!p x) l _ (fun x hx=>Ru hb hcp x (p x) j _ (by simp only [AO,if_true]) (hf x hx _ hle))) ?_)<;>try simp -implicitDefEqProofs only [go_sem])|fail))
 simp [OD]
theorem Rp {fid:FuncId} {caps:List AV} (hb:Aw Tryz.prog fid=true) (hcp:caps.all AV.As=true) (p:Al→Bool) (l:List Al) (σ:AN) (hf:∀x∈l,AQ Tryz.prog fid ((alA x)::caps) σ (fun v σ'=>v= .d (.bool (p x))∧σ'=σ)):
 AQ Tryz.prog 195 [.d (.sl (l.map Al.enc)),.fn fid [] caps] σ (fun v σ'=>v= .d (.int .i64 (qG (l.findIdx? p)))∧σ'=σ):=by
 refine NP (by simp) ?_
 rw [BP]
 refine Run.slot 0 (fun hb0=>?_)
 simp only [IX,if_true,AV.HW,AE] at hb0
 (repeat' (first|refine Run.ct rfl ?_|((first|refine Run.reg mixed ?_|refine Run.AJ ?_)<;>try simp -implicitDefEqProofs only [AE,go_sem])|fail))
 refine Run.B3 ?_
 refine Run.B6 ((fun (a0:AV) (a1:AV) (a7:AV)=>fun (i:Nat)=>put 0 a0 (put 1 a1 (put 7 a7 (put 8 (.d (.int .i64 i)) U)))) _ _ _) (fun _=>E) (fun _=>σ) (fun i=>i≤l.length∧∀x∈l.take i,p x=false) (fun i=>l.length - i) ?_ 0 ⟨by simp,by simp⟩
 rintro i ⟨hi,hno⟩ ih
 by_cases hlt:i < l.length
 · obtain ⟨x,hx⟩:=Bu hlt
   have he:=Bi (enc:=Al.enc) hx
   have hw1:IntKind.i64.wrap ((i:Int)+1)=((i+1:Nat):Int):=by rw [Av (by omega) (by omega)];omega
   have hc:=hf x (Aa hx)
   obtain ⟨c,vs,o,n,u,ns,ks,al⟩:=x
   simp only [Al.A3,alA,AG,AH] at he hc
   cases hp:p (.mk c vs (.mk o n u ns ks al)) with
   |true=>
    rw [hp] at hc
    (repeat' (first|refine Run.ct rfl ?_|((first|refine Run.reg mixed ?_|refine Run.AJ ?_|refine Run.A9 Ew (AN.le_refl _) ?_|(refine ⟨fid,[],caps,rfl,hb,AI.det hc ?_ (by simp [hcp,K7,Fo])⟩))<;>try simp -implicitDefEqProofs only [BQ hlt,he,hw1,go_sem])|fail))
    rw [QG hno hx hp];rfl
   |false=>
    rw [hp] at hc
    (repeat' (first|refine Run.ct rfl ?_|((first|refine Run.reg mixed ?_|refine Run.AJ ?_|(refine ⟨fid,[],caps,rfl,hb,AI.det hc ?_ (by simp [hcp,K7,Fo])⟩))<;>try simp -implicitDefEqProofs only [BQ hlt,he,hw1,go_sem])|fail))
    exact ih (i+1) ⟨by omega,Xo hno hx hp⟩ (by omega)
 · (repeat' (first|refine Run.ct rfl ?_|((first|refine Run.reg mixed ?_|refine Run.AJ ?_|refine Run.A9 Ew (AN.le_refl _) ?_)<;>try simp -implicitDefEqProofs only [DA hlt,go_sem])|fail))
   rw [A6 (by omega)] at hno
   rw [QH hno];rfl
theorem Oj {fid:FuncId} {caps:List AV} (hb:Aw Tryz.prog fid=true) (hcp:caps.all AV.As=true) (p:Al→Bool) (l:List Al) (σ:AN) (hf:∀x∈l,AQ Tryz.prog fid ((alA x)::caps) σ (fun v σ'=>v= .d (.bool (p x))∧σ'=σ)):
 AQ Tryz.prog 180 [.d (.sl (l.map Al.enc)),.fn fid [] caps] σ (fun v σ'=>v= .d (.bool (l.any p))∧σ'=σ):=by
 refine LZ (by simp) ?_
 rw [BP]
 (repeat' (first|refine Run.ct rfl ?_|((first|refine Run.reg mixed ?_|refine Run.AJ ?_|refine Run.A9 GH (AN.le_refl _) ?_|refine AI.det (Rp hb hcp p l σ hf) ?_)<;>try simp -implicitDefEqProofs only [Xk,OF,go_sem])|fail))
theorem Vz {fid:FuncId} {caps:List AV} (hb:Aw Tryz.prog fid=true) (hcp:caps.all AV.As=true) (x:Al) (b:Bool) (j:Nat) (σ:AN) (hj:σ.blk j=some [.fn fid [] caps]) (hf:AQ Tryz.prog fid ((alA x)::caps) σ (fun v σ'=>v= .d (.bool b)∧σ'=σ)):
 AQ Tryz.prog 181 [(alA x),.gp j 0] σ (fun v σ'=>v= .d (.bool (!b))∧σ'=σ):=by
 refine QK (by simp) ?_
 rw [BP]
 obtain ⟨c,vs,o,n,u,ns,ks,al⟩:=x
 simp only [Al.A3,alA,AG,AH] at hf ⊢
 (repeat' (first|refine Run.ct rfl ?_|((first|refine Run.reg mixed ?_|refine Run.AJ ?_|refine Run.A9 JX (AN.le_refl _) ?_|(refine ⟨fid,[],caps,rfl,hb,AI.det hf ?_ (by simp [hcp,K7,Fo])⟩))<;>try simp -implicitDefEqProofs only [hj,go_sem])|fail))
theorem YC {fid:FuncId} {caps:List AV} (hb:Aw Tryz.prog fid=true) (hcp:caps.all AV.As=true) (p:Al→Bool) (l:List Al) (σ:AN) (hf:∀x∈l,∀σ1,σ.le σ1→AQ Tryz.prog fid ((alA x)::caps) σ1 (fun v σ'=>v= .d (.bool (p x))∧σ'=σ1)):
 AQ Tryz.prog 158 [.d (.sl (l.map Al.enc)),.fn fid [] caps] σ (fun v σ'=>v= .d (.bool (l.all p))∧σ'=σ):=by
 refine SQ (by simp) ?_
 rw [BP]
 (repeat' (first|refine Run.ct rfl ?_|((first|refine Run.reg mixed ?_|refine Run.AJ ?_)<;>try simp -implicitDefEqProofs only [go_sem])|fail))
 intro j hj
 have hle:=FQ (cs:=[.fn fid [] caps]) hj
 (repeat' (first|refine Run.ct rfl ?_|((first|refine Run.reg mixed ?_|refine Run.AJ ?_|(refine Run.A9 LP (σ2:=σ) hle ?_)|refine AI.det (Oj (by kernel_rfl) rfl (fun x=>!p x) l _ (fun x hx=>Vz hb hcp x (p x) j _ (by simp only [AO,if_true]) (hf x hx _ hle))) ?_)<;>try simp -implicitDefEqProofs only [go_sem])|fail))
 simp [OD]
end Go.Ab
namespace Go.Ab
open Go.Proofs
def singleR (r:List Tok×Nat×Int) (k:Int) (s:Str):Bool:=
 r.2.2==0&&(r.1.length==2&&(match r.1 with|[]=>false|a::_=>a.kind==k&&a.text==s))
theorem Zg (k:Int) (s:Str):GY k s=singleR (BN s) k s:=rfl
theorem n8 {α:Type} {l:List α} (h:l.length=2):∃a b,l=[a,b]:=by
 match l,h with
 |[a,b],_=>exact ⟨a,b,rfl⟩
theorem DS (s:Str) (k:Int) (σ:AN):AQ Tryz.prog 54 [.d (.str s),.d (.int .i64 k)] σ (fun v σ'=>v= .d (.bool (GY k s))∧σ'=σ):=by
 refine gT (by simp) ?_
 rw [BP,Zg]
 have hsp:=iS s σ
 generalize BN s=r at hsp ⊢
 obtain ⟨l,q,e⟩:=r
 simp only [Hq] at hsp
 cases he:(e==0) with
 |false=>
  (repeat' (first|refine Run.ct rfl ?_|((first|refine Run.reg mixed ?_|refine Run.AJ ?_|refine Run.A9 LN (AN.le_refl _) ?_|refine AI.det (hsp) ?_)<;>try simp -implicitDefEqProofs only [he,go_sem])|fail))
  simp [singleR,he]
 |true=>
 by_cases hl:l.length=2
 · obtain ⟨⟨ak,at',ap⟩,b,rfl⟩:=n8 hl
   simp only [Tok.enc,AG,AH] at hsp
   cases hk:(ak==k) with
   |false=>
    (repeat' (first|refine Run.ct rfl ?_|((first|refine Run.reg mixed ?_|refine Run.AJ ?_|refine Run.A9 LN (AN.le_refl _) ?_|refine AI.det (hsp) ?_|(refine GL rfl (fun h=>?_) (fun h=>?_)<;>try (cases h;done)))<;>try simp -implicitDefEqProofs only [he,hk,go_sem])|fail))
    simp [singleR,hk]
   |true=>
    (repeat' (first|refine Run.ct rfl ?_|((first|refine Run.reg mixed ?_|refine Run.AJ ?_|refine Run.A9 LN (AN.le_refl _) ?_|refine AI.det (hsp) ?_|(refine GL rfl (fun h=>?_) (fun h=>?_)<;>try (cases h;done)))<;>try simp -implicitDefEqProofs only [he,hk,EG,go_sem])|fail))
    simp [singleR,hk,he]
 · have h2:((l.length:Int)==2)=false:=by simp only [beq_eq_false_iff_ne,ne_eq];omega
   (repeat' (first|refine Run.ct rfl ?_|((first|refine Run.reg mixed ?_|refine Run.AJ ?_|refine Run.A9 LN (AN.le_refl _) ?_|refine AI.det (hsp) ?_)<;>try simp -implicitDefEqProofs only [he,AE,h2,go_sem])|fail))
   simp [singleR,hl]
theorem OP (s:Str) (k:Int) (σ:AN):AQ Tryz.prog 107 [.d (.str s),.d (.int .i64 k)] σ (fun v σ'=>v= .d (.bool (GY k s))∧σ'=σ):=by
 refine WN (by simp) ?_
 rw [BP,Zg]
 have hsp:=TC s σ
 generalize BN s=r at hsp ⊢
 obtain ⟨l,q,e⟩:=r
 simp only [Hq] at hsp
 cases he:(e==0) with
 |false=>
  (repeat' (first|refine Run.ct rfl ?_|((first|refine Run.reg mixed ?_|refine Run.AJ ?_|refine Run.A9 Fh (AN.le_refl _) ?_|refine AI.det (hsp) ?_)<;>try simp -implicitDefEqProofs only [he,go_sem])|fail))
  simp [singleR,he]
 |true=>
 by_cases hl:l.length=2
 · obtain ⟨⟨ak,at',ap⟩,b,rfl⟩:=n8 hl
   simp only [Tok.enc,AG,AH] at hsp
   cases hk:(ak==k) with
   |false=>
    (repeat' (first|refine Run.ct rfl ?_|((first|refine Run.reg mixed ?_|refine Run.AJ ?_|refine Run.A9 Fh (AN.le_refl _) ?_|refine AI.det (hsp) ?_|(refine GL rfl (fun h=>?_) (fun h=>?_)<;>try (cases h;done)))<;>try simp -implicitDefEqProofs only [he,hk,go_sem])|fail))
    simp [singleR,hk]
   |true=>
    (repeat' (first|refine Run.ct rfl ?_|((first|refine Run.reg mixed ?_|refine Run.AJ ?_|refine Run.A9 Fh (AN.le_refl _) ?_|refine AI.det (hsp) ?_|(refine GL rfl (fun h=>?_) (fun h=>?_)<;>try (cases h;done)))<;>try simp -implicitDefEqProofs only [he,hk,EG,go_sem])|fail))
    simp [singleR,hk,he]
 · have h2:((l.length:Int)==2)=false:=by simp only [beq_eq_false_iff_ne,ne_eq];omega
   (repeat' (first|refine Run.ct rfl ?_|((first|refine Run.reg mixed ?_|refine Run.AJ ?_|refine Run.A9 Fh (AN.le_refl _) ?_|refine AI.det (hsp) ?_)<;>try simp -implicitDefEqProofs only [he,AE,h2,go_sem])|fail))
   simp [singleR,hl]
theorem Dx (s:Str) (σ:AN):AQ Tryz.prog 51 [.d (.str s)] σ (fun v σ'=>v= .d (.bool (DQ s))∧σ'=σ):=by
 refine XY (by simp) ?_
 rw [Ax]
 (repeat' (first|refine Run.ct rfl ?_|((first|refine Run.reg mixed ?_|refine Run.AJ ?_|refine Run.A9 Qz (AN.le_refl _) ?_|refine AI.det (OP s 1 _) ?_)<;>try simp -implicitDefEqProofs only [go_sem])|fail))
 rfl
theorem Be (s:Str) (σ:AN):AQ Tryz.prog 101 [.d (.str s)] σ (fun v σ'=>v= .d (.bool (upperB s))∧σ'=σ):=by
 refine WO (by simp) ?_
 rw [Ax]
 (repeat' (first|refine Run.ct rfl ?_|((first|refine Run.reg mixed ?_|refine Run.AJ ?_|refine Run.A9 PD (AN.le_refl _) ?_|refine AI.det (OP s 2 _) ?_)<;>try simp -implicitDefEqProofs only [go_sem])|fail))
 rfl
theorem Ki (s:Str) (σ:AN):AQ Tryz.prog 157 [.d (.str s)] σ (fun v σ'=>v= .d (.bool (G3 s))∧σ'=σ):=by
 refine XX (by simp) ?_
 rw [Ax]
 cases h0:(s==[]) with
 |true=>
  (repeat' (first|refine Run.ct rfl ?_|((first|refine Run.reg mixed ?_|refine Run.AJ ?_|refine Run.A9 Lq (AN.le_refl _) ?_)<;>try simp -implicitDefEqProofs only [EG,h0,go_sem])|fail))
  simp [G3,h0]
 |false=>
  (repeat' (first|refine Run.ct rfl ?_|((first|refine Run.reg mixed ?_|refine Run.AJ ?_|refine Run.A9 Lq (AN.le_refl _) ?_|refine AI.det (Dx s _) ?_)<;>try simp -implicitDefEqProofs only [EG,h0,go_sem])|fail))
  simp [G3,h0]
def Mv (l:List Str) (strict:Bool):Bool:=decide (l.length≤6)&&l.all (fun s=>DQ s||(s==[]&& !strict))
theorem gt6 (n:Nat):decide ((6:Int) < (n:Int))=!decide (n≤6):=gtN n 6
theorem YD {α:Type} {p:α→Bool} {l:List α} {i:Nat} {x:α} (hx:l[i]?=some x) (hp:p x=false):l.all p=false:=by
 rw [List.all_eq_false];exact ⟨x,Aa hx,by rw [hp];simp⟩
theorem Kp {α:Type} {p:α→Bool} {l:List α} {i:Nat} {x:α} (h:(l.take i).all p=true) (hx:l[i]?=some x) (hp:p x=true):(l.take (i+1)).all p=true:=by
 rw [E3 hx,CM,h];simp [hp]
theorem Iu (l:List Str) (strict:Bool) (σ:AN):AQ Tryz.prog 55 [.d (.sl (l.map BM)),.d (.bool strict)] σ (fun v σ'=>v= .d (.bool (Mv l strict))∧σ'=σ):=by
 refine k9 (by simp) ?_
 rw [BP]
 by_cases h6:l.length≤6
 case neg=>
  (repeat' (first|refine Run.ct rfl ?_|((first|refine Run.reg mixed ?_|refine Run.AJ ?_|refine Run.A9 NK (AN.le_refl _) ?_)<;>try simp -implicitDefEqProofs only [gt6,AE,decide_eq_false h6,go_sem])|fail))
  simp [Mv,h6]
 (repeat' (first|refine Run.ct rfl ?_|((first|refine Run.reg mixed ?_|refine Run.AJ ?_)<;>try simp -implicitDefEqProofs only [gt6,AE,decide_eq_true h6,go_sem])|fail))
 refine Run.B3 ?_
 refine Run.B6 ((fun (a0:AV) (a1:AV)=>fun (i:Nat)=>put 0 a0 (put 1 a1 (put 5 (.d (.int .i64 i)) U))) _ _) (fun _=>E) (fun _=>σ) (fun i=>i≤l.length∧(l.take i).all (fun s=>DQ s||(s==[]&& !strict))=true) (fun i=>l.length - i) ?_ 0 ⟨by simp,by simp⟩
 rintro i ⟨hi,hok⟩ ih
 by_cases hlt:i < l.length
 · obtain ⟨x,hx⟩:=Bu hlt
   have he:=Bi (enc:=BM) hx
   simp only [BM] at he
   have hw1:=BV (show i+1≤9000000000000000000 by omega)
   have hn:=DS x 1 σ
   rw [show GY 1 x=DQ x from rfl] at hn
   cases hp:(DQ x||(x==[]&& !strict)) with
   |true=>
    cases hnm:DQ x with
    |true=>
     rw [hnm] at hn
     (repeat' (first|refine Run.ct rfl ?_|((first|refine Run.reg mixed ?_|refine Run.AJ ?_|refine AI.det (hn) ?_)<;>try simp -implicitDefEqProofs only [BQ hlt,AE,he,hw1,EG,go_sem])|fail))
     exact ih (i+1) ⟨by omega,Kp hok hx hp⟩ (by omega)
    |false=>
     rw [hnm] at hn
     simp only [hnm,Ms,AM,CV] at hp
     obtain ⟨hp1,rfl⟩:=hp
     (repeat' (first|refine Run.ct rfl ?_|((first|refine Run.reg mixed ?_|refine Run.AJ ?_|refine AI.det (hn) ?_)<;>try simp -implicitDefEqProofs only [BQ hlt,AE,he,hw1,EG,hp1,go_sem])|fail))
     exact ih (i+1) ⟨by omega,Kp hok hx (by simp [hnm,hp1])⟩ (by omega)
   |false=>
    have hnm:DQ x=false:=(EA.1 hp).1
    rw [hnm] at hn
    have hres:Mv l strict=false:=by rw [Mv,YD hx hp,Dd]
    cases h0:(x==[]) with
    |false=>
     (repeat' (first|refine Run.ct rfl ?_|((first|refine Run.reg mixed ?_|refine Run.AJ ?_|refine Run.A9 NK (AN.le_refl _) ?_|refine AI.det (hn) ?_)<;>try simp -implicitDefEqProofs only [BQ hlt,AE,he,hw1,EG,h0,go_sem])|fail))
     rw [hres]
    |true=>
     have hst:strict=true:=by simpa [hnm,h0] using hp
     (repeat' (first|refine Run.ct rfl ?_|((first|refine Run.reg mixed ?_|refine Run.AJ ?_|refine Run.A9 NK (AN.le_refl _) ?_|refine AI.det (hn) ?_)<;>try simp -implicitDefEqProofs only [BQ hlt,AE,he,hw1,EG,h0,hst,go_sem])|fail))
     rw [← hst,hres]
 · (repeat' (first|refine Run.ct rfl ?_|((first|refine Run.reg mixed ?_|refine Run.AJ ?_|refine Run.A9 NK (AN.le_refl _) ?_)<;>try simp -implicitDefEqProofs only [DA hlt,AE,go_sem])|fail))
   rw [A6 (by omega)] at hok
   rw [Mv,hok];simp [h6]
end Go.Ab
