/- Names and arities, in plain data. Lists searched with a function. Names. Conditions: none. -/
import Derived.Test.YtifplkldbbcldaaGreatDoorXPf
set_option linter.unusedSimpArgs false
set_option linter.unusedVariables false
set_option maxRecDepth 4000
set_option maxHeartbeats 8000000
open List renaming getElem?_eq_some_iff→Aa,mem_append→BW,mem_singleton→Dv,length_map→AG,mem_of_getElem?→Ae,take_of_length_le→A8,any_eq_not_all_not→OA,map_cons→AF,map_nil→AI,all_append→CH
open Bool renaming false_or→Ml,and_eq_true→AN,not_eq_true'→CS,or_eq_false_iff→Dw,and_false→D9
namespace Go.Ab
def pT (o:Option Nat):Int:=match o with|some i=>i|none=>-1
def Ex.op:Ex→Int| .mk o _ _ _ _ _=>o
def Ex.num:Ex→Int| .mk _ _ u _ _ _=>u
def Ex.name:Ex→Str| .mk _ n _ _ _ _=>n
def Ex.names:Ex→List Str| .mk _ _ _ ns _ _=>ns
def Ex.kids:Ex→List Ex| .mk _ _ _ _ ks _=>ks
def Ex.alts:Ex→List Al| .mk _ _ _ _ _ al=>al
def Al.con:Al→Str| .mk c _ _=>c
def Al.vars:Al→List Str| .mk _ vs _=>vs
def Al.body:Al→Ex| .mk _ _ b=>b
end Go.Ab
namespace Go.Ab
open Go.Proofs
theorem Px {α:Type} {p:α→Bool} {l:List α} {i:Nat} {x:α} (h:∀y∈l.take i,p y=false) (hx:l[i]?=some x) (hp:p x=true):l.findIdx? p=some i:=by
 rw [List.findIdx?_eq_some_iff_getElem]
 obtain ⟨hl,he⟩:=Aa.1 hx
 refine ⟨hl,by rw [he];exact hp,fun j hj=>?_⟩
 rw [h (l[j]'(by omega)) (List.mem_take_iff_getElem.2 ⟨j,by omega,rfl⟩)];simp
theorem Py {α:Type} {p:α→Bool} {l:List α} (h:∀y∈l,p y=false):l.findIdx? p=none:=by
 rw [List.findIdx?_eq_none_iff];exact h
theorem Xg {α:Type} {p:α→Bool} {l:List α} {i:Nat} {x:α} (h:∀y∈l.take i,p y=false) (hx:l[i]?=some x) (hp:p x=false):∀y∈l.take (i+1),p y=false:=by
 intro y hy
 rw [Fl hx] at hy
 rcases BW.1 hy with hy|hy
 · exact h y hy
 · simp only [Dv] at hy;subst hy;exact hp
theorem Xc (o:Option Nat):decide (0≤pT o)=o.isSome:=by
 cases o<;>simp [pT]
theorem OB {α:Type} (p:α→Bool) (l:List α):(l.findIdx? p).isSome=l.any p:=by
 rw [List.findIdx?_isSome]
theorem TR {fid:FuncId} {caps:List AV} (hb:Aw Tryz.prog fid=true) (hcp:caps.all AV.Ay=true) (p:Str→Bool) (l:List Str) (σ:AM) (hf:∀x∈l,AP Tryz.prog fid ((.d (.str x))::caps) σ (fun v σ'=>v= .d (.bool (p x))∧σ'=σ)):
 AP Tryz.prog 154 [.d (.sl (l.map B0)),.fn fid [] caps] σ (fun v σ'=>v= .d (.int .i64 (pT (l.findIdx? p)))∧σ'=σ):=by
 refine Nn (by simp) ?_
 rw [BP]
 refine Run.slot 0 (fun hb0=>?_)
 simp only [IQ,if_true,AV.HR,AG] at hb0
 (repeat' (first|refine Run.ct rfl ?_|((first|refine Run.reg mixed ?_|refine Run.AJ ?_)<;>try simp -implicitDefEqProofs only [AG,go_sem])|fail))
 refine Run.Ba ?_
 refine Run.Bd ((fun (a0:AV) (a1:AV) (a7:AV)=>fun (i:Nat)=>put 0 a0 (put 1 a1 (put 7 a7 (put 8 (.d (.int .i64 i)) U)))) _ _ _) (fun _=>E) (fun _=>σ) (fun i=>i≤l.length∧∀x∈l.take i,p x=false) (fun i=>l.length - i) ?_ 0 ⟨by simp,by simp⟩
 rintro i ⟨hi,hno⟩ ih
 by_cases hlt:i < l.length
 · obtain ⟨x,hx⟩:=C7 hlt
   have he:=CR (enc:=B0) hx
   have hw1:IntKind.i64.wrap ((i:Int)+1)=((i+1:Nat):Int):=by rw [BF (by omega) (by omega)];omega
   have hc:=hf x (Ae hx)
   simp only [B0] at he
   cases hp:p x with
   |true=>
    rw [hp] at hc
    (repeat' (first|refine Run.ct rfl ?_|((first|refine Run.reg mixed ?_|refine Run.AJ ?_|refine Run.Ad FM (AM.le_refl _) ?_|(refine ⟨fid,[],caps,rfl,hb,AH.det hc ?_ (by simp [hcp,KU,Fh])⟩))<;>try simp -implicitDefEqProofs only [BZ hlt,he,hw1,go_sem])|fail))
    rw [Px hno hx hp];rfl
   |false=>
    rw [hp] at hc
    (repeat' (first|refine Run.ct rfl ?_|((first|refine Run.reg mixed ?_|refine Run.AJ ?_|(refine ⟨fid,[],caps,rfl,hb,AH.det hc ?_ (by simp [hcp,KU,Fh])⟩))<;>try simp -implicitDefEqProofs only [BZ hlt,he,hw1,go_sem])|fail))
    exact ih (i+1) ⟨by omega,Xg hno hx hp⟩ (by omega)
 · (repeat' (first|refine Run.ct rfl ?_|((first|refine Run.reg mixed ?_|refine Run.AJ ?_|refine Run.Ad FM (AM.le_refl _) ?_)<;>try simp -implicitDefEqProofs only [FD hlt,go_sem])|fail))
   rw [A8 (by omega)] at hno
   rw [Py hno];rfl
theorem Pl {fid:FuncId} {caps:List AV} (hb:Aw Tryz.prog fid=true) (hcp:caps.all AV.Ay=true) (p:Str→Bool) (l:List Str) (σ:AM) (hf:∀x∈l,AP Tryz.prog fid ((.d (.str x))::caps) σ (fun v σ'=>v= .d (.bool (p x))∧σ'=σ)):
 AP Tryz.prog 108 [.d (.sl (l.map B0)),.fn fid [] caps] σ (fun v σ'=>v= .d (.bool (l.any p))∧σ'=σ):=by
 refine Lj (by simp) ?_
 rw [BP]
 (repeat' (first|refine Run.ct rfl ?_|((first|refine Run.reg mixed ?_|refine Run.AJ ?_|refine Run.Ad G5 (AM.le_refl _) ?_|refine AH.det (TR hb hcp p l σ hf) ?_)<;>try simp -implicitDefEqProofs only [Xc,OB,go_sem])|fail))
theorem XD {fid:FuncId} {caps:List AV} (hb:Aw Tryz.prog fid=true) (hcp:caps.all AV.Ay=true) (x:Str) (b:Bool) (j:Nat) (σ:AM) (hj:σ.blk j=some [.fn fid [] caps]) (hf:AP Tryz.prog fid ((.d (.str x))::caps) σ (fun v σ'=>v= .d (.bool b)∧σ'=σ)):
 AP Tryz.prog 109 [(.d (.str x)),.gp j 0] σ (fun v σ'=>v= .d (.bool (!b))∧σ'=σ):=by
 refine RE (by simp) ?_
 rw [BP]
 (repeat' (first|refine Run.ct rfl ?_|((first|refine Run.reg mixed ?_|refine Run.AJ ?_|refine Run.Ad Jv (AM.le_refl _) ?_|(refine ⟨fid,[],caps,rfl,hb,AH.det hf ?_ (by simp [hcp,KU,Fh])⟩))<;>try simp -implicitDefEqProofs only [hj,go_sem])|fail))
theorem Hm {fid:FuncId} {caps:List AV} (hb:Aw Tryz.prog fid=true) (hcp:caps.all AV.Ay=true) (p:Str→Bool) (l:List Str) (σ:AM) (hf:∀x∈l,∀σ1,σ.le σ1→AP Tryz.prog fid ((.d (.str x))::caps) σ1 (fun v σ'=>v= .d (.bool (p x))∧σ'=σ1)):
 AP Tryz.prog 52 [.d (.sl (l.map B0)),.fn fid [] caps] σ (fun v σ'=>v= .d (.bool (l.all p))∧σ'=σ):=by
 refine TY (by simp) ?_
 rw [BP]
 (repeat' (first|refine Run.ct rfl ?_|((first|refine Run.reg mixed ?_|refine Run.AJ ?_)<;>try simp -implicitDefEqProofs only [go_sem])|fail))
 intro j hj
 have hle:=FN (cs:=[.fn fid [] caps]) hj
 (repeat' (first|refine Run.ct rfl ?_|((first|refine Run.reg mixed ?_|refine Run.AJ ?_|(refine Run.Ad ML (σ2:=σ) hle ?_)|refine AH.det (Pl (by kernel_rfl) rfl (fun x=>!p x) l _ (fun x hx=>XD hb hcp x (p x) j _ (by simp only [AO,if_true]) (hf x hx _ hle))) ?_)<;>try simp -implicitDefEqProofs only [go_sem])|fail))
 simp [OA]
theorem Nh {fid:FuncId} {caps:List AV} (hb:Aw Tryz.prog fid=true) (hcp:caps.all AV.Ay=true) (p:TE→Bool) (l:List TE) (σ:AM) (hf:∀x∈l,AP Tryz.prog fid ((teA x)::caps) σ (fun v σ'=>v= .d (.bool (p x))∧σ'=σ)):
 AP Tryz.prog 179 [.d (.sl (l.map TE.enc)),.fn fid [] caps] σ (fun v σ'=>v= .d (.int .i64 (pT (l.findIdx? p)))∧σ'=σ):=by
 refine Jc (by simp) ?_
 rw [BP]
 refine Run.slot 0 (fun hb0=>?_)
 simp only [IQ,if_true,AV.HR,AG] at hb0
 (repeat' (first|refine Run.ct rfl ?_|((first|refine Run.reg mixed ?_|refine Run.AJ ?_)<;>try simp -implicitDefEqProofs only [AG,go_sem])|fail))
 refine Run.Ba ?_
 refine Run.Bd ((fun (a0:AV) (a1:AV) (a7:AV)=>fun (i:Nat)=>put 0 a0 (put 1 a1 (put 7 a7 (put 8 (.d (.int .i64 i)) U)))) _ _ _) (fun _=>E) (fun _=>σ) (fun i=>i≤l.length∧∀x∈l.take i,p x=false) (fun i=>l.length - i) ?_ 0 ⟨by simp,by simp⟩
 rintro i ⟨hi,hno⟩ ih
 by_cases hlt:i < l.length
 · obtain ⟨x,hx⟩:=C7 hlt
   have he:=CR (enc:=TE.enc) hx
   have hw1:IntKind.i64.wrap ((i:Int)+1)=((i+1:Nat):Int):=by rw [BF (by omega) (by omega)];omega
   have hc:=hf x (Ae hx)
   obtain ⟨k,n,al⟩:=x
   simp only [TE.A2,teA,AF,AI] at he hc
   cases hp:p (.mk k n al) with
   |true=>
    rw [hp] at hc
    (repeat' (first|refine Run.ct rfl ?_|((first|refine Run.reg mixed ?_|refine Run.AJ ?_|refine Run.Ad D8 (AM.le_refl _) ?_|(refine ⟨fid,[],caps,rfl,hb,AH.det hc ?_ (by simp [hcp,KU,Fh])⟩))<;>try simp -implicitDefEqProofs only [BZ hlt,he,hw1,go_sem])|fail))
    rw [Px hno hx hp];rfl
   |false=>
    rw [hp] at hc
    (repeat' (first|refine Run.ct rfl ?_|((first|refine Run.reg mixed ?_|refine Run.AJ ?_|(refine ⟨fid,[],caps,rfl,hb,AH.det hc ?_ (by simp [hcp,KU,Fh])⟩))<;>try simp -implicitDefEqProofs only [BZ hlt,he,hw1,go_sem])|fail))
    exact ih (i+1) ⟨by omega,Xg hno hx hp⟩ (by omega)
 · (repeat' (first|refine Run.ct rfl ?_|((first|refine Run.reg mixed ?_|refine Run.AJ ?_|refine Run.Ad D8 (AM.le_refl _) ?_)<;>try simp -implicitDefEqProofs only [FD hlt,go_sem])|fail))
   rw [A8 (by omega)] at hno
   rw [Py hno];rfl
theorem L7 {fid:FuncId} {caps:List AV} (hb:Aw Tryz.prog fid=true) (hcp:caps.all AV.Ay=true) (p:TE→Bool) (l:List TE) (σ:AM) (hf:∀x∈l,AP Tryz.prog fid ((teA x)::caps) σ (fun v σ'=>v= .d (.bool (p x))∧σ'=σ)):
 AP Tryz.prog 151 [.d (.sl (l.map TE.enc)),.fn fid [] caps] σ (fun v σ'=>v= .d (.bool (l.any p))∧σ'=σ):=by
 refine IW (by simp) ?_
 rw [BP]
 (repeat' (first|refine Run.ct rfl ?_|((first|refine Run.reg mixed ?_|refine Run.AJ ?_|refine Run.Ad Ep (AM.le_refl _) ?_|refine AH.det (Nh hb hcp p l σ hf) ?_)<;>try simp -implicitDefEqProofs only [Xc,OB,go_sem])|fail))
theorem Qz {fid:FuncId} {caps:List AV} (hb:Aw Tryz.prog fid=true) (hcp:caps.all AV.Ay=true) (x:TE) (b:Bool) (j:Nat) (σ:AM) (hj:σ.blk j=some [.fn fid [] caps]) (hf:AP Tryz.prog fid ((teA x)::caps) σ (fun v σ'=>v= .d (.bool b)∧σ'=σ)):
 AP Tryz.prog 152 [(teA x),.gp j 0] σ (fun v σ'=>v= .d (.bool (!b))∧σ'=σ):=by
 refine M5 (by simp) ?_
 rw [BP]
 obtain ⟨k,n,al⟩:=x
 simp only [TE.A2,teA,AF,AI] at hf ⊢
 (repeat' (first|refine Run.ct rfl ?_|((first|refine Run.reg mixed ?_|refine Run.AJ ?_|refine Run.Ad Gr (AM.le_refl _) ?_|(refine ⟨fid,[],caps,rfl,hb,AH.det hf ?_ (by simp [hcp,KU,Fh])⟩))<;>try simp -implicitDefEqProofs only [hj,go_sem])|fail))
theorem MD {fid:FuncId} {caps:List AV} (hb:Aw Tryz.prog fid=true) (hcp:caps.all AV.Ay=true) (p:TE→Bool) (l:List TE) (σ:AM) (hf:∀x∈l,∀σ1,σ.le σ1→AP Tryz.prog fid ((teA x)::caps) σ1 (fun v σ'=>v= .d (.bool (p x))∧σ'=σ1)):
 AP Tryz.prog 104 [.d (.sl (l.map TE.enc)),.fn fid [] caps] σ (fun v σ'=>v= .d (.bool (l.all p))∧σ'=σ):=by
 refine No (by simp) ?_
 rw [BP]
 (repeat' (first|refine Run.ct rfl ?_|((first|refine Run.reg mixed ?_|refine Run.AJ ?_)<;>try simp -implicitDefEqProofs only [go_sem])|fail))
 intro j hj
 have hle:=FN (cs:=[.fn fid [] caps]) hj
 (repeat' (first|refine Run.ct rfl ?_|((first|refine Run.reg mixed ?_|refine Run.AJ ?_|(refine Run.Ad Hb (σ2:=σ) hle ?_)|refine AH.det (L7 (by kernel_rfl) rfl (fun x=>!p x) l _ (fun x hx=>Qz hb hcp x (p x) j _ (by simp only [AO,if_true]) (hf x hx _ hle))) ?_)<;>try simp -implicitDefEqProofs only [go_sem])|fail))
 simp [OA]
theorem ON {fid:FuncId} {caps:List AV} (hb:Aw Tryz.prog fid=true) (hcp:caps.all AV.Ay=true) (p:CE→Bool) (l:List CE) (σ:AM) (hf:∀x∈l,AP Tryz.prog fid ((ceA x)::caps) σ (fun v σ'=>v= .d (.bool (p x))∧σ'=σ)):
 AP Tryz.prog 178 [.d (.sl (l.map CE.enc)),.fn fid [] caps] σ (fun v σ'=>v= .d (.int .i64 (pT (l.findIdx? p)))∧σ'=σ):=by
 refine KN (by simp) ?_
 rw [BP]
 refine Run.slot 0 (fun hb0=>?_)
 simp only [IQ,if_true,AV.HR,AG] at hb0
 (repeat' (first|refine Run.ct rfl ?_|((first|refine Run.reg mixed ?_|refine Run.AJ ?_)<;>try simp -implicitDefEqProofs only [AG,go_sem])|fail))
 refine Run.Ba ?_
 refine Run.Bd ((fun (a0:AV) (a1:AV) (a7:AV)=>fun (i:Nat)=>put 0 a0 (put 1 a1 (put 7 a7 (put 8 (.d (.int .i64 i)) U)))) _ _ _) (fun _=>E) (fun _=>σ) (fun i=>i≤l.length∧∀x∈l.take i,p x=false) (fun i=>l.length - i) ?_ 0 ⟨by simp,by simp⟩
 rintro i ⟨hi,hno⟩ ih
 by_cases hlt:i < l.length
 · obtain ⟨x,hx⟩:=C7 hlt
   have he:=CR (enc:=CE.enc) hx
   have hw1:IntKind.i64.wrap ((i:Int)+1)=((i+1:Nat):Int):=by rw [BF (by omega) (by omega)];omega
   have hc:=hf x (Ae hx)
   obtain ⟨nm,ar⟩:=x
   simp only [CE.enc,ceA,AF,AI] at he hc
   cases hp:p (⟨nm,ar⟩) with
   |true=>
    rw [hp] at hc
    (repeat' (first|refine Run.ct rfl ?_|((first|refine Run.reg mixed ?_|refine Run.AJ ?_|refine Run.Ad Dp (AM.le_refl _) ?_|(refine ⟨fid,[],caps,rfl,hb,AH.det hc ?_ (by simp [hcp,KU,Fh])⟩))<;>try simp -implicitDefEqProofs only [BZ hlt,he,hw1,go_sem])|fail))
    rw [Px hno hx hp];rfl
   |false=>
    rw [hp] at hc
    (repeat' (first|refine Run.ct rfl ?_|((first|refine Run.reg mixed ?_|refine Run.AJ ?_|(refine ⟨fid,[],caps,rfl,hb,AH.det hc ?_ (by simp [hcp,KU,Fh])⟩))<;>try simp -implicitDefEqProofs only [BZ hlt,he,hw1,go_sem])|fail))
    exact ih (i+1) ⟨by omega,Xg hno hx hp⟩ (by omega)
 · (repeat' (first|refine Run.ct rfl ?_|((first|refine Run.reg mixed ?_|refine Run.AJ ?_|refine Run.Ad Dp (AM.le_refl _) ?_)<;>try simp -implicitDefEqProofs only [FD hlt,go_sem])|fail))
   rw [A8 (by omega)] at hno
   rw [Py hno];rfl
theorem MV {fid:FuncId} {caps:List AV} (hb:Aw Tryz.prog fid=true) (hcp:caps.all AV.Ay=true) (p:CE→Bool) (l:List CE) (σ:AM) (hf:∀x∈l,AP Tryz.prog fid ((ceA x)::caps) σ (fun v σ'=>v= .d (.bool (p x))∧σ'=σ)):
 AP Tryz.prog 149 [.d (.sl (l.map CE.enc)),.fn fid [] caps] σ (fun v σ'=>v= .d (.bool (l.any p))∧σ'=σ):=by
 refine Iu (by simp) ?_
 rw [BP]
 (repeat' (first|refine Run.ct rfl ?_|((first|refine Run.reg mixed ?_|refine Run.AJ ?_|refine Run.Ad FH (AM.le_refl _) ?_|refine AH.det (ON hb hcp p l σ hf) ?_)<;>try simp -implicitDefEqProofs only [Xc,OB,go_sem])|fail))
theorem Rj {fid:FuncId} {caps:List AV} (hb:Aw Tryz.prog fid=true) (hcp:caps.all AV.Ay=true) (x:CE) (b:Bool) (j:Nat) (σ:AM) (hj:σ.blk j=some [.fn fid [] caps]) (hf:AP Tryz.prog fid ((ceA x)::caps) σ (fun v σ'=>v= .d (.bool b)∧σ'=σ)):
 AP Tryz.prog 150 [(ceA x),.gp j 0] σ (fun v σ'=>v= .d (.bool (!b))∧σ'=σ):=by
 refine NJ (by simp) ?_
 rw [BP]
 obtain ⟨nm,ar⟩:=x
 simp only [CE.enc,ceA,AF,AI] at hf ⊢
 (repeat' (first|refine Run.ct rfl ?_|((first|refine Run.reg mixed ?_|refine Run.AJ ?_|refine Run.Ad HI (AM.le_refl _) ?_|(refine ⟨fid,[],caps,rfl,hb,AH.det hf ?_ (by simp [hcp,KU,Fh])⟩))<;>try simp -implicitDefEqProofs only [hj,go_sem])|fail))
theorem UQ {fid:FuncId} {caps:List AV} (hb:Aw Tryz.prog fid=true) (hcp:caps.all AV.Ay=true) (p:CE→Bool) (l:List CE) (σ:AM) (hf:∀x∈l,∀σ1,σ.le σ1→AP Tryz.prog fid ((ceA x)::caps) σ1 (fun v σ'=>v= .d (.bool (p x))∧σ'=σ1)):
 AP Tryz.prog 102 [.d (.sl (l.map CE.enc)),.fn fid [] caps] σ (fun v σ'=>v= .d (.bool (l.all p))∧σ'=σ):=by
 refine OT (by simp) ?_
 rw [BP]
 (repeat' (first|refine Run.ct rfl ?_|((first|refine Run.reg mixed ?_|refine Run.AJ ?_)<;>try simp -implicitDefEqProofs only [go_sem])|fail))
 intro j hj
 have hle:=FN (cs:=[.fn fid [] caps]) hj
 (repeat' (first|refine Run.ct rfl ?_|((first|refine Run.reg mixed ?_|refine Run.AJ ?_|(refine Run.Ad Hy (σ2:=σ) hle ?_)|refine AH.det (MV (by kernel_rfl) rfl (fun x=>!p x) l _ (fun x hx=>Rj hb hcp x (p x) j _ (by simp only [AO,if_true]) (hf x hx _ hle))) ?_)<;>try simp -implicitDefEqProofs only [go_sem])|fail))
 simp [OA]
theorem Rf {fid:FuncId} {caps:List AV} (hb:Aw Tryz.prog fid=true) (hcp:caps.all AV.Ay=true) (p:Al→Bool) (l:List Al) (σ:AM) (hf:∀x∈l,AP Tryz.prog fid ((alA x)::caps) σ (fun v σ'=>v= .d (.bool (p x))∧σ'=σ)):
 AP Tryz.prog 195 [.d (.sl (l.map Al.enc)),.fn fid [] caps] σ (fun v σ'=>v= .d (.int .i64 (pT (l.findIdx? p)))∧σ'=σ):=by
 refine NI (by simp) ?_
 rw [BP]
 refine Run.slot 0 (fun hb0=>?_)
 simp only [IQ,if_true,AV.HR,AG] at hb0
 (repeat' (first|refine Run.ct rfl ?_|((first|refine Run.reg mixed ?_|refine Run.AJ ?_)<;>try simp -implicitDefEqProofs only [AG,go_sem])|fail))
 refine Run.Ba ?_
 refine Run.Bd ((fun (a0:AV) (a1:AV) (a7:AV)=>fun (i:Nat)=>put 0 a0 (put 1 a1 (put 7 a7 (put 8 (.d (.int .i64 i)) U)))) _ _ _) (fun _=>E) (fun _=>σ) (fun i=>i≤l.length∧∀x∈l.take i,p x=false) (fun i=>l.length - i) ?_ 0 ⟨by simp,by simp⟩
 rintro i ⟨hi,hno⟩ ih
 by_cases hlt:i < l.length
 · obtain ⟨x,hx⟩:=C7 hlt
   have he:=CR (enc:=Al.enc) hx
   have hw1:IntKind.i64.wrap ((i:Int)+1)=((i+1:Nat):Int):=by rw [BF (by omega) (by omega)];omega
   have hc:=hf x (Ae hx)
   obtain ⟨c,vs,o,n,u,ns,ks,al⟩:=x
   simp only [Al.A2,alA,AF,AI] at he hc
   cases hp:p (.mk c vs (.mk o n u ns ks al)) with
   |true=>
    rw [hp] at hc
    (repeat' (first|refine Run.ct rfl ?_|((first|refine Run.reg mixed ?_|refine Run.AJ ?_|refine Run.Ad Er (AM.le_refl _) ?_|(refine ⟨fid,[],caps,rfl,hb,AH.det hc ?_ (by simp [hcp,KU,Fh])⟩))<;>try simp -implicitDefEqProofs only [BZ hlt,he,hw1,go_sem])|fail))
    rw [Px hno hx hp];rfl
   |false=>
    rw [hp] at hc
    (repeat' (first|refine Run.ct rfl ?_|((first|refine Run.reg mixed ?_|refine Run.AJ ?_|(refine ⟨fid,[],caps,rfl,hb,AH.det hc ?_ (by simp [hcp,KU,Fh])⟩))<;>try simp -implicitDefEqProofs only [BZ hlt,he,hw1,go_sem])|fail))
    exact ih (i+1) ⟨by omega,Xg hno hx hp⟩ (by omega)
 · (repeat' (first|refine Run.ct rfl ?_|((first|refine Run.reg mixed ?_|refine Run.AJ ?_|refine Run.Ad Er (AM.le_refl _) ?_)<;>try simp -implicitDefEqProofs only [FD hlt,go_sem])|fail))
   rw [A8 (by omega)] at hno
   rw [Py hno];rfl
theorem Oe {fid:FuncId} {caps:List AV} (hb:Aw Tryz.prog fid=true) (hcp:caps.all AV.Ay=true) (p:Al→Bool) (l:List Al) (σ:AM) (hf:∀x∈l,AP Tryz.prog fid ((alA x)::caps) σ (fun v σ'=>v= .d (.bool (p x))∧σ'=σ)):
 AP Tryz.prog 180 [.d (.sl (l.map Al.enc)),.fn fid [] caps] σ (fun v σ'=>v= .d (.bool (l.any p))∧σ'=σ):=by
 refine LO (by simp) ?_
 rw [BP]
 (repeat' (first|refine Run.ct rfl ?_|((first|refine Run.reg mixed ?_|refine Run.AJ ?_|refine Run.Ad GD (AM.le_refl _) ?_|refine AH.det (Rf hb hcp p l σ hf) ?_)<;>try simp -implicitDefEqProofs only [Xc,OB,go_sem])|fail))
theorem Vm {fid:FuncId} {caps:List AV} (hb:Aw Tryz.prog fid=true) (hcp:caps.all AV.Ay=true) (x:Al) (b:Bool) (j:Nat) (σ:AM) (hj:σ.blk j=some [.fn fid [] caps]) (hf:AP Tryz.prog fid ((alA x)::caps) σ (fun v σ'=>v= .d (.bool b)∧σ'=σ)):
 AP Tryz.prog 181 [(alA x),.gp j 0] σ (fun v σ'=>v= .d (.bool (!b))∧σ'=σ):=by
 refine QC (by simp) ?_
 rw [BP]
 obtain ⟨c,vs,o,n,u,ns,ks,al⟩:=x
 simp only [Al.A2,alA,AF,AI] at hf ⊢
 (repeat' (first|refine Run.ct rfl ?_|((first|refine Run.reg mixed ?_|refine Run.AJ ?_|refine Run.Ad JN (AM.le_refl _) ?_|(refine ⟨fid,[],caps,rfl,hb,AH.det hf ?_ (by simp [hcp,KU,Fh])⟩))<;>try simp -implicitDefEqProofs only [hj,go_sem])|fail))
theorem Xw {fid:FuncId} {caps:List AV} (hb:Aw Tryz.prog fid=true) (hcp:caps.all AV.Ay=true) (p:Al→Bool) (l:List Al) (σ:AM) (hf:∀x∈l,∀σ1,σ.le σ1→AP Tryz.prog fid ((alA x)::caps) σ1 (fun v σ'=>v= .d (.bool (p x))∧σ'=σ1)):
 AP Tryz.prog 158 [.d (.sl (l.map Al.enc)),.fn fid [] caps] σ (fun v σ'=>v= .d (.bool (l.all p))∧σ'=σ):=by
 refine SF (by simp) ?_
 rw [BP]
 (repeat' (first|refine Run.ct rfl ?_|((first|refine Run.reg mixed ?_|refine Run.AJ ?_)<;>try simp -implicitDefEqProofs only [go_sem])|fail))
 intro j hj
 have hle:=FN (cs:=[.fn fid [] caps]) hj
 (repeat' (first|refine Run.ct rfl ?_|((first|refine Run.reg mixed ?_|refine Run.AJ ?_|(refine Run.Ad LG (σ2:=σ) hle ?_)|refine AH.det (Oe (by kernel_rfl) rfl (fun x=>!p x) l _ (fun x hx=>Vm hb hcp x (p x) j _ (by simp only [AO,if_true]) (hf x hx _ hle))) ?_)<;>try simp -implicitDefEqProofs only [go_sem])|fail))
 simp [OA]
end Go.Ab
namespace Go.Ab
open Go.Proofs
def singleR (r:List Tok×Nat×Int) (k:Int) (s:Str):Bool:=
 r.2.2==0&&(r.1.length==2&&(match r.1 with|[]=>false|a::_=>a.kind==k&&a.text==s))
theorem Z2 (k:Int) (s:Str):GS k s=singleR (BL s) k s:=rfl
theorem nQ {α:Type} {l:List α} (h:l.length=2):∃a b,l=[a,b]:=by
 match l,h with
 |[a,b],_=>exact ⟨a,b,rfl⟩
theorem DP (s:Str) (k:Int) (σ:AM):AP Tryz.prog 54 [.d (.str s),.d (.int .i64 k)] σ (fun v σ'=>v= .d (.bool (GS k s))∧σ'=σ):=by
 refine gF (by simp) ?_
 rw [BP,Z2]
 have hsp:=iE s σ
 generalize BL s=r at hsp ⊢
 obtain ⟨l,q,e⟩:=r
 simp only [Hk] at hsp
 cases he:(e==0) with
 |false=>
  (repeat' (first|refine Run.ct rfl ?_|((first|refine Run.reg mixed ?_|refine Run.AJ ?_|refine Run.Ad LD (AM.le_refl _) ?_|refine AH.det (hsp) ?_)<;>try simp -implicitDefEqProofs only [he,go_sem])|fail))
  simp [singleR,he]
 |true=>
 by_cases hl:l.length=2
 · obtain ⟨⟨ak,at',ap⟩,b,rfl⟩:=nQ hl
   simp only [Tok.enc,AF,AI] at hsp
   cases hk:(ak==k) with
   |false=>
    (repeat' (first|refine Run.ct rfl ?_|((first|refine Run.reg mixed ?_|refine Run.AJ ?_|refine Run.Ad LD (AM.le_refl _) ?_|refine AH.det (hsp) ?_|(refine AQ rfl (fun h=>?_) (fun h=>?_)<;>try (cases h;done)))<;>try simp -implicitDefEqProofs only [he,hk,go_sem])|fail))
    simp [singleR,hk]
   |true=>
    (repeat' (first|refine Run.ct rfl ?_|((first|refine Run.reg mixed ?_|refine Run.AJ ?_|refine Run.Ad LD (AM.le_refl _) ?_|refine AH.det (hsp) ?_|(refine AQ rfl (fun h=>?_) (fun h=>?_)<;>try (cases h;done)))<;>try simp -implicitDefEqProofs only [he,hk,EB,go_sem])|fail))
    simp [singleR,hk,he]
 · have h2:((l.length:Int)==2)=false:=by simp only [beq_eq_false_iff_ne,ne_eq];omega
   (repeat' (first|refine Run.ct rfl ?_|((first|refine Run.reg mixed ?_|refine Run.AJ ?_|refine Run.Ad LD (AM.le_refl _) ?_|refine AH.det (hsp) ?_)<;>try simp -implicitDefEqProofs only [he,AG,h2,go_sem])|fail))
   simp [singleR,hl]
theorem OJ (s:Str) (k:Int) (σ:AM):AP Tryz.prog 107 [.d (.str s),.d (.int .i64 k)] σ (fun v σ'=>v= .d (.bool (GS k s))∧σ'=σ):=by
 refine WA (by simp) ?_
 rw [BP,Z2]
 have hsp:=Sp s σ
 generalize BL s=r at hsp ⊢
 obtain ⟨l,q,e⟩:=r
 simp only [Hk] at hsp
 cases he:(e==0) with
 |false=>
  (repeat' (first|refine Run.ct rfl ?_|((first|refine Run.reg mixed ?_|refine Run.AJ ?_|refine Run.Ad Fc (AM.le_refl _) ?_|refine AH.det (hsp) ?_)<;>try simp -implicitDefEqProofs only [he,go_sem])|fail))
  simp [singleR,he]
 |true=>
 by_cases hl:l.length=2
 · obtain ⟨⟨ak,at',ap⟩,b,rfl⟩:=nQ hl
   simp only [Tok.enc,AF,AI] at hsp
   cases hk:(ak==k) with
   |false=>
    (repeat' (first|refine Run.ct rfl ?_|((first|refine Run.reg mixed ?_|refine Run.AJ ?_|refine Run.Ad Fc (AM.le_refl _) ?_|refine AH.det (hsp) ?_|(refine AQ rfl (fun h=>?_) (fun h=>?_)<;>try (cases h;done)))<;>try simp -implicitDefEqProofs only [he,hk,go_sem])|fail))
    simp [singleR,hk]
   |true=>
    (repeat' (first|refine Run.ct rfl ?_|((first|refine Run.reg mixed ?_|refine Run.AJ ?_|refine Run.Ad Fc (AM.le_refl _) ?_|refine AH.det (hsp) ?_|(refine AQ rfl (fun h=>?_) (fun h=>?_)<;>try (cases h;done)))<;>try simp -implicitDefEqProofs only [he,hk,EB,go_sem])|fail))
    simp [singleR,hk,he]
 · have h2:((l.length:Int)==2)=false:=by simp only [beq_eq_false_iff_ne,ne_eq];omega
   (repeat' (first|refine Run.ct rfl ?_|((first|refine Run.reg mixed ?_|refine Run.AJ ?_|refine Run.Ad Fc (AM.le_refl _) ?_|refine AH.det (hsp) ?_)<;>try simp -implicitDefEqProofs only [he,AG,h2,go_sem])|fail))
   simp [singleR,hl]
theorem Du (s:Str) (σ:AM):AP Tryz.prog 51 [.d (.str s)] σ (fun v σ'=>v= .d (.bool (D5 s))∧σ'=σ):=by
 refine XM (by simp) ?_
 rw [Av]
 (repeat' (first|refine Run.ct rfl ?_|((first|refine Run.reg mixed ?_|refine Run.AJ ?_|refine Run.Ad Qr (AM.le_refl _) ?_|refine AH.det (OJ s 1 _) ?_)<;>try simp -implicitDefEqProofs only [go_sem])|fail))
 rfl
theorem Bc (s:Str) (σ:AM):AP Tryz.prog 101 [.d (.str s)] σ (fun v σ'=>v= .d (.bool (upperB s))∧σ'=σ):=by
 refine WB (by simp) ?_
 rw [Av]
 (repeat' (first|refine Run.ct rfl ?_|((first|refine Run.reg mixed ?_|refine Run.AJ ?_|refine Run.Ad Ov (AM.le_refl _) ?_|refine AH.det (OJ s 2 _) ?_)<;>try simp -implicitDefEqProofs only [go_sem])|fail))
 rfl
theorem K8 (s:Str) (σ:AM):AP Tryz.prog 157 [.d (.str s)] σ (fun v σ'=>v= .d (.bool (GZ s))∧σ'=σ):=by
 refine XL (by simp) ?_
 rw [Av]
 cases h0:(s==[]) with
 |true=>
  (repeat' (first|refine Run.ct rfl ?_|((first|refine Run.reg mixed ?_|refine Run.AJ ?_|refine Run.Ad Li (AM.le_refl _) ?_)<;>try simp -implicitDefEqProofs only [EB,h0,go_sem])|fail))
  simp [GZ,h0]
 |false=>
  (repeat' (first|refine Run.ct rfl ?_|((first|refine Run.reg mixed ?_|refine Run.AJ ?_|refine Run.Ad Li (AM.le_refl _) ?_|refine AH.det (Du s _) ?_)<;>try simp -implicitDefEqProofs only [EB,h0,go_sem])|fail))
  simp [GZ,h0]
def Mo (l:List Str) (strict:Bool):Bool:=decide (l.length≤6)&&l.all (fun s=>D5 s||(s==[]&& !strict))
theorem gt6 (n:Nat):decide ((6:Int) < (n:Int))=!decide (n≤6):=gtN n 6
theorem Xx {α:Type} {p:α→Bool} {l:List α} {i:Nat} {x:α} (hx:l[i]?=some x) (hp:p x=false):l.all p=false:=by
 rw [List.all_eq_false];exact ⟨x,Ae hx,by rw [hp];simp⟩
theorem Kg {α:Type} {p:α→Bool} {l:List α} {i:Nat} {x:α} (h:(l.take i).all p=true) (hx:l[i]?=some x) (hp:p x=true):(l.take (i+1)).all p=true:=by
 rw [Fl hx,CH,h];simp [hp]
theorem Ik (l:List Str) (strict:Bool) (σ:AM):AP Tryz.prog 55 [.d (.sl (l.map B0)),.d (.bool strict)] σ (fun v σ'=>v= .d (.bool (Mo l strict))∧σ'=σ):=by
 refine kP (by simp) ?_
 rw [BP]
 by_cases h6:l.length≤6
 case neg=>
  (repeat' (first|refine Run.ct rfl ?_|((first|refine Run.reg mixed ?_|refine Run.AJ ?_|refine Run.Ad NB (AM.le_refl _) ?_)<;>try simp -implicitDefEqProofs only [gt6,AG,decide_eq_false h6,go_sem])|fail))
  simp [Mo,h6]
 (repeat' (first|refine Run.ct rfl ?_|((first|refine Run.reg mixed ?_|refine Run.AJ ?_)<;>try simp -implicitDefEqProofs only [gt6,AG,decide_eq_true h6,go_sem])|fail))
 refine Run.Ba ?_
 refine Run.Bd ((fun (a0:AV) (a1:AV)=>fun (i:Nat)=>put 0 a0 (put 1 a1 (put 5 (.d (.int .i64 i)) U))) _ _) (fun _=>E) (fun _=>σ) (fun i=>i≤l.length∧(l.take i).all (fun s=>D5 s||(s==[]&& !strict))=true) (fun i=>l.length - i) ?_ 0 ⟨by simp,by simp⟩
 rintro i ⟨hi,hok⟩ ih
 by_cases hlt:i < l.length
 · obtain ⟨x,hx⟩:=C7 hlt
   have he:=CR (enc:=B0) hx
   simp only [B0] at he
   have hw1:=BU (show i+1≤9000000000000000000 by omega)
   have hn:=DP x 1 σ
   rw [show GS 1 x=D5 x from rfl] at hn
   cases hp:(D5 x||(x==[]&& !strict)) with
   |true=>
    cases hnm:D5 x with
    |true=>
     rw [hnm] at hn
     (repeat' (first|refine Run.ct rfl ?_|((first|refine Run.reg mixed ?_|refine Run.AJ ?_|refine AH.det (hn) ?_)<;>try simp -implicitDefEqProofs only [BZ hlt,AG,he,hw1,EB,go_sem])|fail))
     exact ih (i+1) ⟨by omega,Kg hok hx hp⟩ (by omega)
    |false=>
     rw [hnm] at hn
     simp only [hnm,Ml,AN,CS] at hp
     obtain ⟨hp1,rfl⟩:=hp
     (repeat' (first|refine Run.ct rfl ?_|((first|refine Run.reg mixed ?_|refine Run.AJ ?_|refine AH.det (hn) ?_)<;>try simp -implicitDefEqProofs only [BZ hlt,AG,he,hw1,EB,hp1,go_sem])|fail))
     exact ih (i+1) ⟨by omega,Kg hok hx (by simp [hnm,hp1])⟩ (by omega)
   |false=>
    have hnm:D5 x=false:=(Dw.1 hp).1
    rw [hnm] at hn
    have hres:Mo l strict=false:=by rw [Mo,Xx hx hp,D9]
    cases h0:(x==[]) with
    |false=>
     (repeat' (first|refine Run.ct rfl ?_|((first|refine Run.reg mixed ?_|refine Run.AJ ?_|refine Run.Ad NB (AM.le_refl _) ?_|refine AH.det (hn) ?_)<;>try simp -implicitDefEqProofs only [BZ hlt,AG,he,hw1,EB,h0,go_sem])|fail))
     rw [hres]
    |true=>
     have hst:strict=true:=by simpa [hnm,h0] using hp
     (repeat' (first|refine Run.ct rfl ?_|((first|refine Run.reg mixed ?_|refine Run.AJ ?_|refine Run.Ad NB (AM.le_refl _) ?_|refine AH.det (hn) ?_)<;>try simp -implicitDefEqProofs only [BZ hlt,AG,he,hw1,EB,h0,hst,go_sem])|fail))
     rw [← hst,hres]
 · (repeat' (first|refine Run.ct rfl ?_|((first|refine Run.reg mixed ?_|refine Run.AJ ?_|refine Run.Ad NB (AM.le_refl _) ?_)<;>try simp -implicitDefEqProofs only [FD hlt,AG,go_sem])|fail))
   rw [A8 (by omega)] at hok
   rw [Mo,hok];simp [h6]
end Go.Ab
