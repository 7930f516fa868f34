/- Lists searched with a function. Names. Valid written types. Conditions: none. -/
import Derived.Test.YtlckhmkeihbhmaaGreatXXd
set_option linter.unusedSimpArgs false
set_option linter.unusedVariables false
set_option maxRecDepth 4000
set_option maxHeartbeats 8000000
open List renaming findIdx?_eq_some_iff_getElem→dW,getElem?_eq_some_iff→AR,mem_append→A7,mem_singleton→Bd,length_map→AA,mem_of_getElem?→AT,take_of_length_le→AK,any_eq_not_all_not→Kr,map_cons→AG,map_nil→AQ
open Bool renaming false_or→DL,and_eq_true→AP,not_eq_true'→B1,or_eq_false_iff→N7,and_false→Bm
namespace Go.Ab
open Go.Proofs
theorem DX {α:Type} {p:α→Bool} {l:List α} {i:Nat} {x:α} (h:∀y∈l.take i,p y=false) (hx:l[i]?=some x) (hp:p x=true):l.findIdx? p=some i:=by
 rw [dW]
 obtain ⟨hl,he⟩:=AR.1 hx
 refine ⟨hl,by rw [he];exact hp,fun j hj=>?_⟩
 rw [h (l[j]'(by omega)) (List.mem_take_iff_getElem.2 ⟨j,by omega,rfl⟩)];simp
theorem DY {α:Type} {p:α→Bool} {l:List α} (h:∀y∈l,p y=false):l.findIdx? p=none:=by
 rw [List.findIdx?_eq_none_iff];exact h
theorem Eb {α:Type} {p:α→Bool} {l:List α} {i:Nat} {x:α} (h:∀y∈l.take i,p y=false) (hx:l[i]?=some x) (hp:p x=false):∀y∈l.take (i+1),p y=false:=by
 intro y hy
 rw [BH hx] at hy
 rcases A7.1 hy with hy|hy
 · exact h y hy
 · simp only [Bd] at hy;subst hy;exact hp
theorem Od (o:Option Nat):decide (0≤E9 o)=o.isSome:=by
 cases o<;>simp [E9]
theorem Il {α:Type} (p:α→Bool) (l:List α):(l.findIdx? p).isSome=l.any p:=by
 rw [List.findIdx?_isSome]
theorem Om {fid:FuncId} {caps:List AV} (hb:C2 Tryz.prog fid=true) (hcp:caps.all AV.BY=true) (p:Str→Bool) (l:List Str) (σ:AF) (hf:∀x∈l,AL Tryz.prog fid ((.d (.str x))::caps) σ (fun v σ'=>v= .d (.bool (p x))∧σ'=σ)):
 AL Tryz.prog 150 [.d (.sl (l.map Aw)),.fn fid [] caps] σ (fun v σ'=>v= .d (.int .i64 (E9 (l.findIdx? p)))∧σ'=σ):=by
 refine Kl (by simp) ?_
 rw [BX]
 refine Run.slot 0 (fun hb0=>?_)
 simp only [EX,if_true,AV.FY,AA] at hb0
 (repeat' (first|refine Run.ct rfl ?_|((first|refine Run.reg mixed ?_|refine Run.AE ?_)<;>try simp -implicitDefEqProofs only [AA,go_sem])|fail))
 refine Run.BD ?_
 refine Run.BK ((fun (a0:AV) (a1:AV) (a7:AV)=>fun (i:Nat)=>put 0 a0 (put 1 a1 (put 7 a7 (put 8 (.d (.int .i64 i)) U)))) _ _ _) (fun _=>E) (fun _=>σ) (fun i=>i≤l.length∧∀x∈l.take i,p x=false) (fun i=>l.length - i) ?_ 0 ⟨by simp,by simp⟩
 rintro i ⟨hi,hno⟩ ih
 by_cases hlt:i < l.length
 · obtain ⟨x,hx⟩:=BC hlt
   have he:=BA (enc:=Aw) hx
   have hw1:IntKind.i64.wrap ((i:Int)+1)=((i+1:Nat):Int):=by rw [BL (by omega) (by omega)];omega
   have hc:=hf x (AT hx)
   simp only [Aw] at he
   cases hp:p x with
   |true=>
    rw [hp] at hc
    (repeat' (first|refine Run.ct rfl ?_|((first|refine Run.reg mixed ?_|refine Run.AE ?_|refine Run.A1 E6 (AF.le_refl _) ?_|(refine ⟨fid,[],caps,rfl,hb,AI.det hc ?_ (by simp [hcp,Fb,DM])⟩))<;>try simp -implicitDefEqProofs only [Ac hlt,he,hw1,go_sem])|fail))
    rw [DX hno hx hp];rfl
   |false=>
    rw [hp] at hc
    (repeat' (first|refine Run.ct rfl ?_|((first|refine Run.reg mixed ?_|refine Run.AE ?_|(refine ⟨fid,[],caps,rfl,hb,AI.det hc ?_ (by simp [hcp,Fb,DM])⟩))<;>try simp -implicitDefEqProofs only [Ac hlt,he,hw1,go_sem])|fail))
    exact ih (i+1) ⟨by omega,Eb hno hx hp⟩ (by omega)
 · (repeat' (first|refine Run.ct rfl ?_|((first|refine Run.reg mixed ?_|refine Run.AE ?_|refine Run.A1 E6 (AF.le_refl _) ?_)<;>try simp -implicitDefEqProofs only [Bi hlt,go_sem])|fail))
   rw [AK (by omega)] at hno
   rw [DY hno];rfl
theorem MU {fid:FuncId} {caps:List AV} (hb:C2 Tryz.prog fid=true) (hcp:caps.all AV.BY=true) (p:Str→Bool) (l:List Str) (σ:AF) (hf:∀x∈l,AL Tryz.prog fid ((.d (.str x))::caps) σ (fun v σ'=>v= .d (.bool (p x))∧σ'=σ)):
 AL Tryz.prog 126 [.d (.sl (l.map Aw)),.fn fid [] caps] σ (fun v σ'=>v= .d (.bool (l.any p))∧σ'=σ):=by
 refine JY (by simp) ?_
 rw [BX]
 (repeat' (first|refine Run.ct rfl ?_|((first|refine Run.reg mixed ?_|refine Run.AE ?_|refine Run.A1 FX (AF.le_refl _) ?_|refine AI.det (Om hb hcp p l σ hf) ?_)<;>try simp -implicitDefEqProofs only [Od,Il,go_sem])|fail))
theorem Sa {fid:FuncId} {caps:List AV} (hb:C2 Tryz.prog fid=true) (hcp:caps.all AV.BY=true) (x:Str) (b:Bool) (j:Nat) (σ:AF) (hj:σ.blk j=some [.fn fid [] caps]) (hf:AL Tryz.prog fid ((.d (.str x))::caps) σ (fun v σ'=>v= .d (.bool b)∧σ'=σ)):
 AL Tryz.prog 127 [(.d (.str x)),.gp j 0] σ (fun v σ'=>v= .d (.bool (!b))∧σ'=σ):=by
 refine NT (by simp) ?_
 rw [BX]
 (repeat' (first|refine Run.ct rfl ?_|((first|refine Run.reg mixed ?_|refine Run.AE ?_|refine Run.A1 IP (AF.le_refl _) ?_|(refine ⟨fid,[],caps,rfl,hb,AI.det hf ?_ (by simp [hcp,Fb,DM])⟩))<;>try simp -implicitDefEqProofs only [hj,go_sem])|fail))
theorem Gb {fid:FuncId} {caps:List AV} (hb:C2 Tryz.prog fid=true) (hcp:caps.all AV.BY=true) (p:Str→Bool) (l:List Str) (σ:AF) (hf:∀x∈l,∀σ1,σ.le σ1→AL Tryz.prog fid ((.d (.str x))::caps) σ1 (fun v σ'=>v= .d (.bool (p x))∧σ'=σ1)):
 AL Tryz.prog 97 [.d (.sl (l.map Aw)),.fn fid [] caps] σ (fun v σ'=>v= .d (.bool (l.all p))∧σ'=σ):=by
 refine PB (by simp) ?_
 rw [BX]
 (repeat' (first|refine Run.ct rfl ?_|((first|refine Run.reg mixed ?_|refine Run.AE ?_)<;>try simp -implicitDefEqProofs only [go_sem])|fail))
 intro j hj
 have hle:=Bl (cs:=[.fn fid [] caps]) hj
 (repeat' (first|refine Run.ct rfl ?_|((first|refine Run.reg mixed ?_|refine Run.AE ?_|(refine Run.A1 Jf (σ2:=σ) hle ?_)|refine AI.det (MU (by kernel_rfl) rfl (fun x=>!p x) l _ (fun x hx=>Sa hb hcp x (p x) j _ (by simp only [AM,if_true]) (hf x hx _ hle))) ?_)<;>try simp -implicitDefEqProofs only [go_sem])|fail))
 simp [Kr]
theorem Kh {fid:FuncId} {caps:List AV} (hb:C2 Tryz.prog fid=true) (hcp:caps.all AV.BY=true) (p:TE→Bool) (l:List TE) (σ:AF) (hf:∀x∈l,AL Tryz.prog fid ((teA x)::caps) σ (fun v σ'=>v= .d (.bool (p x))∧σ'=σ)):
 AL Tryz.prog 161 [.d (.sl (l.map TE.enc)),.fn fid [] caps] σ (fun v σ'=>v= .d (.int .i64 (E9 (l.findIdx? p)))∧σ'=σ):=by
 refine Hx (by simp) ?_
 rw [BX]
 refine Run.slot 0 (fun hb0=>?_)
 simp only [EX,if_true,AV.FY,AA] at hb0
 (repeat' (first|refine Run.ct rfl ?_|((first|refine Run.reg mixed ?_|refine Run.AE ?_)<;>try simp -implicitDefEqProofs only [AA,go_sem])|fail))
 refine Run.BD ?_
 refine Run.BK ((fun (a0:AV) (a1:AV) (a7:AV)=>fun (i:Nat)=>put 0 a0 (put 1 a1 (put 7 a7 (put 8 (.d (.int .i64 i)) U)))) _ _ _) (fun _=>E) (fun _=>σ) (fun i=>i≤l.length∧∀x∈l.take i,p x=false) (fun i=>l.length - i) ?_ 0 ⟨by simp,by simp⟩
 rintro i ⟨hi,hno⟩ ih
 by_cases hlt:i < l.length
 · obtain ⟨x,hx⟩:=BC hlt
   have he:=BA (enc:=TE.enc) hx
   have hw1:IntKind.i64.wrap ((i:Int)+1)=((i+1:Nat):Int):=by rw [BL (by omega) (by omega)];omega
   have hc:=hf x (AT hx)
   obtain ⟨k,n,al⟩:=x
   simp only [TE.A4,teA,AG,AQ] at he hc
   cases hp:p (.mk k n al) with
   |true=>
    rw [hp] at hc
    (repeat' (first|refine Run.ct rfl ?_|((first|refine Run.reg mixed ?_|refine Run.AE ?_|refine Run.A1 DG (AF.le_refl _) ?_|(refine ⟨fid,[],caps,rfl,hb,AI.det hc ?_ (by simp [hcp,Fb,DM])⟩))<;>try simp -implicitDefEqProofs only [Ac hlt,he,hw1,go_sem])|fail))
    rw [DX hno hx hp];rfl
   |false=>
    rw [hp] at hc
    (repeat' (first|refine Run.ct rfl ?_|((first|refine Run.reg mixed ?_|refine Run.AE ?_|(refine ⟨fid,[],caps,rfl,hb,AI.det hc ?_ (by simp [hcp,Fb,DM])⟩))<;>try simp -implicitDefEqProofs only [Ac hlt,he,hw1,go_sem])|fail))
    exact ih (i+1) ⟨by omega,Eb hno hx hp⟩ (by omega)
 · (repeat' (first|refine Run.ct rfl ?_|((first|refine Run.reg mixed ?_|refine Run.AE ?_|refine Run.A1 DG (AF.le_refl _) ?_)<;>try simp -implicitDefEqProofs only [Bi hlt,go_sem])|fail))
   rw [AK (by omega)] at hno
   rw [DY hno];rfl
theorem JP {fid:FuncId} {caps:List AV} (hb:C2 Tryz.prog fid=true) (hcp:caps.all AV.BY=true) (p:TE→Bool) (l:List TE) (σ:AF) (hf:∀x∈l,AL Tryz.prog fid ((teA x)::caps) σ (fun v σ'=>v= .d (.bool (p x))∧σ'=σ)):
 AL Tryz.prog 146 [.d (.sl (l.map TE.enc)),.fn fid [] caps] σ (fun v σ'=>v= .d (.bool (l.any p))∧σ'=σ):=by
 refine HE (by simp) ?_
 rw [BX]
 (repeat' (first|refine Run.ct rfl ?_|((first|refine Run.reg mixed ?_|refine Run.AE ?_|refine Run.A1 EN (AF.le_refl _) ?_|refine AI.det (Kh hb hcp p l σ hf) ?_)<;>try simp -implicitDefEqProofs only [Od,Il,go_sem])|fail))
theorem NL {fid:FuncId} {caps:List AV} (hb:C2 Tryz.prog fid=true) (hcp:caps.all AV.BY=true) (x:TE) (b:Bool) (j:Nat) (σ:AF) (hj:σ.blk j=some [.fn fid [] caps]) (hf:AL Tryz.prog fid ((teA x)::caps) σ (fun v σ'=>v= .d (.bool b)∧σ'=σ)):
 AL Tryz.prog 147 [(teA x),.gp j 0] σ (fun v σ'=>v= .d (.bool (!b))∧σ'=σ):=by
 refine Jt (by simp) ?_
 rw [BX]
 obtain ⟨k,n,al⟩:=x
 simp only [TE.A4,teA,AG,AQ] at hf ⊢
 (repeat' (first|refine Run.ct rfl ?_|((first|refine Run.reg mixed ?_|refine Run.AE ?_|refine Run.A1 Fj (AF.le_refl _) ?_|(refine ⟨fid,[],caps,rfl,hb,AI.det hf ?_ (by simp [hcp,Fb,DM])⟩))<;>try simp -implicitDefEqProofs only [hj,go_sem])|fail))
theorem J8 {fid:FuncId} {caps:List AV} (hb:C2 Tryz.prog fid=true) (hcp:caps.all AV.BY=true) (p:TE→Bool) (l:List TE) (σ:AF) (hf:∀x∈l,∀σ1,σ.le σ1→AL Tryz.prog fid ((teA x)::caps) σ1 (fun v σ'=>v= .d (.bool (p x))∧σ'=σ1)):
 AL Tryz.prog 122 [.d (.sl (l.map TE.enc)),.fn fid [] caps] σ (fun v σ'=>v= .d (.bool (l.all p))∧σ'=σ):=by
 refine Km (by simp) ?_
 rw [BX]
 (repeat' (first|refine Run.ct rfl ?_|((first|refine Run.reg mixed ?_|refine Run.AE ?_)<;>try simp -implicitDefEqProofs only [go_sem])|fail))
 intro j hj
 have hle:=Bl (cs:=[.fn fid [] caps]) hj
 (repeat' (first|refine Run.ct rfl ?_|((first|refine Run.reg mixed ?_|refine Run.AE ?_|(refine Run.A1 G5 (σ2:=σ) hle ?_)|refine AI.det (JP (by kernel_rfl) rfl (fun x=>!p x) l _ (fun x hx=>NL hb hcp x (p x) j _ (by simp only [AM,if_true]) (hf x hx _ hle))) ?_)<;>try simp -implicitDefEqProofs only [go_sem])|fail))
 simp [Kr]
theorem LL {fid:FuncId} {caps:List AV} (hb:C2 Tryz.prog fid=true) (hcp:caps.all AV.BY=true) (p:CE→Bool) (l:List CE) (σ:AF) (hf:∀x∈l,AL Tryz.prog fid ((ceA x)::caps) σ (fun v σ'=>v= .d (.bool (p x))∧σ'=σ)):
 AL Tryz.prog 160 [.d (.sl (l.map CE.enc)),.fn fid [] caps] σ (fun v σ'=>v= .d (.int .i64 (E9 (l.findIdx? p)))∧σ'=σ):=by
 refine I5 (by simp) ?_
 rw [BX]
 refine Run.slot 0 (fun hb0=>?_)
 simp only [EX,if_true,AV.FY,AA] at hb0
 (repeat' (first|refine Run.ct rfl ?_|((first|refine Run.reg mixed ?_|refine Run.AE ?_)<;>try simp -implicitDefEqProofs only [AA,go_sem])|fail))
 refine Run.BD ?_
 refine Run.BK ((fun (a0:AV) (a1:AV) (a7:AV)=>fun (i:Nat)=>put 0 a0 (put 1 a1 (put 7 a7 (put 8 (.d (.int .i64 i)) U)))) _ _ _) (fun _=>E) (fun _=>σ) (fun i=>i≤l.length∧∀x∈l.take i,p x=false) (fun i=>l.length - i) ?_ 0 ⟨by simp,by simp⟩
 rintro i ⟨hi,hno⟩ ih
 by_cases hlt:i < l.length
 · obtain ⟨x,hx⟩:=BC hlt
   have he:=BA (enc:=CE.enc) hx
   have hw1:IntKind.i64.wrap ((i:Int)+1)=((i+1:Nat):Int):=by rw [BL (by omega) (by omega)];omega
   have hc:=hf x (AT hx)
   obtain ⟨nm,ar⟩:=x
   simp only [CE.enc,ceA,AG,AQ] at he hc
   cases hp:p (⟨nm,ar⟩) with
   |true=>
    rw [hp] at hc
    (repeat' (first|refine Run.ct rfl ?_|((first|refine Run.reg mixed ?_|refine Run.AE ?_|refine Run.A1 D0 (AF.le_refl _) ?_|(refine ⟨fid,[],caps,rfl,hb,AI.det hc ?_ (by simp [hcp,Fb,DM])⟩))<;>try simp -implicitDefEqProofs only [Ac hlt,he,hw1,go_sem])|fail))
    rw [DX hno hx hp];rfl
   |false=>
    rw [hp] at hc
    (repeat' (first|refine Run.ct rfl ?_|((first|refine Run.reg mixed ?_|refine Run.AE ?_|(refine ⟨fid,[],caps,rfl,hb,AI.det hc ?_ (by simp [hcp,Fb,DM])⟩))<;>try simp -implicitDefEqProofs only [Ac hlt,he,hw1,go_sem])|fail))
    exact ih (i+1) ⟨by omega,Eb hno hx hp⟩ (by omega)
 · (repeat' (first|refine Run.ct rfl ?_|((first|refine Run.reg mixed ?_|refine Run.AE ?_|refine Run.A1 D0 (AF.le_refl _) ?_)<;>try simp -implicitDefEqProofs only [Bi hlt,go_sem])|fail))
   rw [AK (by omega)] at hno
   rw [DY hno];rfl
theorem Jk {fid:FuncId} {caps:List AV} (hb:C2 Tryz.prog fid=true) (hcp:caps.all AV.BY=true) (p:CE→Bool) (l:List CE) (σ:AF) (hf:∀x∈l,AL Tryz.prog fid ((ceA x)::caps) σ (fun v σ'=>v= .d (.bool (p x))∧σ'=σ)):
 AL Tryz.prog 144 [.d (.sl (l.map CE.enc)),.fn fid [] caps] σ (fun v σ'=>v= .d (.bool (l.any p))∧σ'=σ):=by
 refine HW (by simp) ?_
 rw [BX]
 (repeat' (first|refine Run.ct rfl ?_|((first|refine Run.reg mixed ?_|refine Run.AE ?_|refine Run.A1 E3 (AF.le_refl _) ?_|refine AI.det (LL hb hcp p l σ hf) ?_)<;>try simp -implicitDefEqProofs only [Od,Il,go_sem])|fail))
theorem Nc {fid:FuncId} {caps:List AV} (hb:C2 Tryz.prog fid=true) (hcp:caps.all AV.BY=true) (x:CE) (b:Bool) (j:Nat) (σ:AF) (hj:σ.blk j=some [.fn fid [] caps]) (hf:AL Tryz.prog fid ((ceA x)::caps) σ (fun v σ'=>v= .d (.bool b)∧σ'=σ)):
 AL Tryz.prog 145 [(ceA x),.gp j 0] σ (fun v σ'=>v= .d (.bool (!b))∧σ'=σ):=by
 refine KY (by simp) ?_
 rw [BX]
 obtain ⟨nm,ar⟩:=x
 simp only [CE.enc,ceA,AG,AQ] at hf ⊢
 (repeat' (first|refine Run.ct rfl ?_|((first|refine Run.reg mixed ?_|refine Run.AE ?_|refine Run.A1 GH (AF.le_refl _) ?_|(refine ⟨fid,[],caps,rfl,hb,AI.det hf ?_ (by simp [hcp,Fb,DM])⟩))<;>try simp -implicitDefEqProofs only [hj,go_sem])|fail))
theorem Pn {fid:FuncId} {caps:List AV} (hb:C2 Tryz.prog fid=true) (hcp:caps.all AV.BY=true) (p:CE→Bool) (l:List CE) (σ:AF) (hf:∀x∈l,∀σ1,σ.le σ1→AL Tryz.prog fid ((ceA x)::caps) σ1 (fun v σ'=>v= .d (.bool (p x))∧σ'=σ1)):
 AL Tryz.prog 120 [.d (.sl (l.map CE.enc)),.fn fid [] caps] σ (fun v σ'=>v= .d (.bool (l.all p))∧σ'=σ):=by
 refine L2 (by simp) ?_
 rw [BX]
 (repeat' (first|refine Run.ct rfl ?_|((first|refine Run.reg mixed ?_|refine Run.AE ?_)<;>try simp -implicitDefEqProofs only [go_sem])|fail))
 intro j hj
 have hle:=Bl (cs:=[.fn fid [] caps]) hj
 (repeat' (first|refine Run.ct rfl ?_|((first|refine Run.reg mixed ?_|refine Run.AE ?_|(refine Run.A1 Gi (σ2:=σ) hle ?_)|refine AI.det (Jk (by kernel_rfl) rfl (fun x=>!p x) l _ (fun x hx=>Nc hb hcp x (p x) j _ (by simp only [AM,if_true]) (hf x hx _ hle))) ?_)<;>try simp -implicitDefEqProofs only [go_sem])|fail))
 simp [Kr]
theorem Na {fid:FuncId} {caps:List AV} (hb:C2 Tryz.prog fid=true) (hcp:caps.all AV.BY=true) (p:Al→Bool) (l:List Al) (σ:AF) (hf:∀x∈l,AL Tryz.prog fid ((alA x)::caps) σ (fun v σ'=>v= .d (.bool (p x))∧σ'=σ)):
 AL Tryz.prog 174 [.d (.sl (l.map Al.enc)),.fn fid [] caps] σ (fun v σ'=>v= .d (.int .i64 (E9 (l.findIdx? p)))∧σ'=σ):=by
 refine KX (by simp) ?_
 rw [BX]
 refine Run.slot 0 (fun hb0=>?_)
 simp only [EX,if_true,AV.FY,AA] at hb0
 (repeat' (first|refine Run.ct rfl ?_|((first|refine Run.reg mixed ?_|refine Run.AE ?_)<;>try simp -implicitDefEqProofs only [AA,go_sem])|fail))
 refine Run.BD ?_
 refine Run.BK ((fun (a0:AV) (a1:AV) (a7:AV)=>fun (i:Nat)=>put 0 a0 (put 1 a1 (put 7 a7 (put 8 (.d (.int .i64 i)) U)))) _ _ _) (fun _=>E) (fun _=>σ) (fun i=>i≤l.length∧∀x∈l.take i,p x=false) (fun i=>l.length - i) ?_ 0 ⟨by simp,by simp⟩
 rintro i ⟨hi,hno⟩ ih
 by_cases hlt:i < l.length
 · obtain ⟨x,hx⟩:=BC hlt
   have he:=BA (enc:=Al.enc) hx
   have hw1:IntKind.i64.wrap ((i:Int)+1)=((i+1:Nat):Int):=by rw [BL (by omega) (by omega)];omega
   have hc:=hf x (AT hx)
   obtain ⟨c,vs,o,n,u,ns,ks,al⟩:=x
   simp only [Al.A4,alA,AG,AQ] at he hc
   cases hp:p (.mk c vs (.mk o n u ns ks al)) with
   |true=>
    rw [hp] at hc
    (repeat' (first|refine Run.ct rfl ?_|((first|refine Run.reg mixed ?_|refine Run.AE ?_|refine Run.A1 EO (AF.le_refl _) ?_|(refine ⟨fid,[],caps,rfl,hb,AI.det hc ?_ (by simp [hcp,Fb,DM])⟩))<;>try simp -implicitDefEqProofs only [Ac hlt,he,hw1,go_sem])|fail))
    rw [DX hno hx hp];rfl
   |false=>
    rw [hp] at hc
    (repeat' (first|refine Run.ct rfl ?_|((first|refine Run.reg mixed ?_|refine Run.AE ?_|(refine ⟨fid,[],caps,rfl,hb,AI.det hc ?_ (by simp [hcp,Fb,DM])⟩))<;>try simp -implicitDefEqProofs only [Ac hlt,he,hw1,go_sem])|fail))
    exact ih (i+1) ⟨by omega,Eb hno hx hp⟩ (by omega)
 · (repeat' (first|refine Run.ct rfl ?_|((first|refine Run.reg mixed ?_|refine Run.AE ?_|refine Run.A1 EO (AF.le_refl _) ?_)<;>try simp -implicitDefEqProofs only [Bi hlt,go_sem])|fail))
   rw [AK (by omega)] at hno
   rw [DY hno];rfl
theorem La {fid:FuncId} {caps:List AV} (hb:C2 Tryz.prog fid=true) (hcp:caps.all AV.BY=true) (p:Al→Bool) (l:List Al) (σ:AF) (hf:∀x∈l,AL Tryz.prog fid ((alA x)::caps) σ (fun v σ'=>v= .d (.bool (p x))∧σ'=σ)):
 AL Tryz.prog 164 [.d (.sl (l.map Al.enc)),.fn fid [] caps] σ (fun v σ'=>v= .d (.bool (l.any p))∧σ'=σ):=by
 refine JH (by simp) ?_
 rw [BX]
 (repeat' (first|refine Run.ct rfl ?_|((first|refine Run.reg mixed ?_|refine Run.AE ?_|refine Run.A1 FN (AF.le_refl _) ?_|refine AI.det (Na hb hcp p l σ hf) ?_)<;>try simp -implicitDefEqProofs only [Od,Il,go_sem])|fail))
theorem RQ {fid:FuncId} {caps:List AV} (hb:C2 Tryz.prog fid=true) (hcp:caps.all AV.BY=true) (x:Al) (b:Bool) (j:Nat) (σ:AF) (hj:σ.blk j=some [.fn fid [] caps]) (hf:AL Tryz.prog fid ((alA x)::caps) σ (fun v σ'=>v= .d (.bool b)∧σ'=σ)):
 AL Tryz.prog 165 [(alA x),.gp j 0] σ (fun v σ'=>v= .d (.bool (!b))∧σ'=σ):=by
 refine Md (by simp) ?_
 rw [BX]
 obtain ⟨c,vs,o,n,u,ns,ks,al⟩:=x
 simp only [Al.A4,alA,AG,AQ] at hf ⊢
 (repeat' (first|refine Run.ct rfl ?_|((first|refine Run.reg mixed ?_|refine Run.AE ?_|refine Run.A1 Ha (AF.le_refl _) ?_|(refine ⟨fid,[],caps,rfl,hb,AI.det hf ?_ (by simp [hcp,Fb,DM])⟩))<;>try simp -implicitDefEqProofs only [hj,go_sem])|fail))
theorem T0 {fid:FuncId} {caps:List AV} (hb:C2 Tryz.prog fid=true) (hcp:caps.all AV.BY=true) (p:Al→Bool) (l:List Al) (σ:AF) (hf:∀x∈l,∀σ1,σ.le σ1→AL Tryz.prog fid ((alA x)::caps) σ1 (fun v σ'=>v= .d (.bool (p x))∧σ'=σ1)):
 AL Tryz.prog 154 [.d (.sl (l.map Al.enc)),.fn fid [] caps] σ (fun v σ'=>v= .d (.bool (l.all p))∧σ'=σ):=by
 refine OI (by simp) ?_
 rw [BX]
 (repeat' (first|refine Run.ct rfl ?_|((first|refine Run.reg mixed ?_|refine Run.AE ?_)<;>try simp -implicitDefEqProofs only [go_sem])|fail))
 intro j hj
 have hle:=Bl (cs:=[.fn fid [] caps]) hj
 (repeat' (first|refine Run.ct rfl ?_|((first|refine Run.reg mixed ?_|refine Run.AE ?_|(refine Run.A1 JD (σ2:=σ) hle ?_)|refine AI.det (La (by kernel_rfl) rfl (fun x=>!p x) l _ (fun x hx=>RQ hb hcp x (p x) j _ (by simp only [AM,if_true]) (hf x hx _ hle))) ?_)<;>try simp -implicitDefEqProofs only [go_sem])|fail))
 simp [Kr]
end Go.Ab
namespace Go.Ab
open Go.Proofs
def singleR (r:List Tok×Nat×Int) (k:Int) (s:Str):Bool:=
 r.2.2==0&&(r.1.length==2&&(match r.1 with|[]=>false|a::_=>a.kind==k&&a.text==s))
theorem Ul (k:Int) (s:Str):HA k s=singleR (GP s) k s:=rfl
theorem Zw {α:Type} {l:List α} (h:l.length=2):∃a b,l=[a,b]:=by
 match l,h with
 |[a,b],_=>exact ⟨a,b,rfl⟩
theorem Cv (s:Str) (k:Int) (σ:AF):AL Tryz.prog 91 [.d (.str s),.d (.int .i64 k)] σ (fun v σ'=>v= .d (.bool (HA k s))∧σ'=σ):=by
 refine X7 (by simp) ?_
 rw [BX,Ul]
 have hsp:=Xo s σ
 generalize GP s=r at hsp ⊢
 obtain ⟨l,q,e⟩:=r
 simp only [Hq] at hsp
 cases he:(e==0) with
 |false=>
  (repeat' (first|refine Run.ct rfl ?_|((first|refine Run.reg mixed ?_|refine Run.AE ?_|refine Run.A1 JB (AF.le_refl _) ?_|refine AI.det (hsp) ?_)<;>try simp -implicitDefEqProofs only [he,go_sem])|fail))
  simp [singleR,he]
 |true=>
 by_cases hl:l.length=2
 · obtain ⟨⟨ak,at',ap⟩,b,rfl⟩:=Zw hl
   simp only [Tok.enc,AG,AQ] at hsp
   cases hk:(ak==k) with
   |false=>
    (repeat' (first|refine Run.ct rfl ?_|((first|refine Run.reg mixed ?_|refine Run.AE ?_|refine Run.A1 JB (AF.le_refl _) ?_|refine AI.det (hsp) ?_|(refine Ce rfl (fun h=>?_) (fun h=>?_)<;>try (cases h;done)))<;>try simp -implicitDefEqProofs only [he,hk,go_sem])|fail))
    simp [singleR,hk]
   |true=>
    (repeat' (first|refine Run.ct rfl ?_|((first|refine Run.reg mixed ?_|refine Run.AE ?_|refine Run.A1 JB (AF.le_refl _) ?_|refine AI.det (hsp) ?_|(refine Ce rfl (fun h=>?_) (fun h=>?_)<;>try (cases h;done)))<;>try simp -implicitDefEqProofs only [he,hk,BM,go_sem])|fail))
    simp [singleR,hk,he]
 · have h2:((l.length:Int)==2)=false:=by simp only [beq_eq_false_iff_ne,ne_eq];omega
   (repeat' (first|refine Run.ct rfl ?_|((first|refine Run.reg mixed ?_|refine Run.AE ?_|refine Run.A1 JB (AF.le_refl _) ?_|refine AI.det (hsp) ?_)<;>try simp -implicitDefEqProofs only [he,AA,h2,go_sem])|fail))
   simp [singleR,hl]
theorem LI (s:Str) (k:Int) (σ:AF):AL Tryz.prog 125 [.d (.str s),.d (.int .i64 k)] σ (fun v σ'=>v= .d (.bool (HA k s))∧σ'=σ):=by
 refine Rh (by simp) ?_
 rw [BX,Ul]
 have hsp:=Up s σ
 generalize GP s=r at hsp ⊢
 obtain ⟨l,q,e⟩:=r
 simp only [Hq] at hsp
 cases he:(e==0) with
 |false=>
  (repeat' (first|refine Run.ct rfl ?_|((first|refine Run.reg mixed ?_|refine Run.AE ?_|refine Run.A1 Er (AF.le_refl _) ?_|refine AI.det (hsp) ?_)<;>try simp -implicitDefEqProofs only [he,go_sem])|fail))
  simp [singleR,he]
 |true=>
 by_cases hl:l.length=2
 · obtain ⟨⟨ak,at',ap⟩,b,rfl⟩:=Zw hl
   simp only [Tok.enc,AG,AQ] at hsp
   cases hk:(ak==k) with
   |false=>
    (repeat' (first|refine Run.ct rfl ?_|((first|refine Run.reg mixed ?_|refine Run.AE ?_|refine Run.A1 Er (AF.le_refl _) ?_|refine AI.det (hsp) ?_|(refine Ce rfl (fun h=>?_) (fun h=>?_)<;>try (cases h;done)))<;>try simp -implicitDefEqProofs only [he,hk,go_sem])|fail))
    simp [singleR,hk]
   |true=>
    (repeat' (first|refine Run.ct rfl ?_|((first|refine Run.reg mixed ?_|refine Run.AE ?_|refine Run.A1 Er (AF.le_refl _) ?_|refine AI.det (hsp) ?_|(refine Ce rfl (fun h=>?_) (fun h=>?_)<;>try (cases h;done)))<;>try simp -implicitDefEqProofs only [he,hk,BM,go_sem])|fail))
    simp [singleR,hk,he]
 · have h2:((l.length:Int)==2)=false:=by simp only [beq_eq_false_iff_ne,ne_eq];omega
   (repeat' (first|refine Run.ct rfl ?_|((first|refine Run.reg mixed ?_|refine Run.AE ?_|refine Run.A1 Er (AF.le_refl _) ?_|refine AI.det (hsp) ?_)<;>try simp -implicitDefEqProofs only [he,AA,h2,go_sem])|fail))
   simp [singleR,hl]
theorem D3 (s:Str) (σ:AF):AL Tryz.prog 96 [.d (.str s)] σ (fun v σ'=>v= .d (.bool (EJ s))∧σ'=σ):=by
 refine Sl (by simp) ?_
 rw [Bj]
 (repeat' (first|refine Run.ct rfl ?_|((first|refine Run.reg mixed ?_|refine Run.AE ?_|refine Run.A1 NG (AF.le_refl _) ?_|refine AI.det (LI s 1 _) ?_)<;>try simp -implicitDefEqProofs only [go_sem])|fail))
 rfl
theorem Bh (s:Str) (σ:AF):AL Tryz.prog 119 [.d (.str s)] σ (fun v σ'=>v= .d (.bool (Ev s))∧σ'=σ):=by
 refine Ri (by simp) ?_
 rw [Bj]
 (repeat' (first|refine Run.ct rfl ?_|((first|refine Run.reg mixed ?_|refine Run.AE ?_|refine Run.A1 MA (AF.le_refl _) ?_|refine AI.det (LI s 2 _) ?_)<;>try simp -implicitDefEqProofs only [go_sem])|fail))
 rfl
theorem Ic (s:Str) (σ:AF):AL Tryz.prog 153 [.d (.str s)] σ (fun v σ'=>v= .d (.bool (Nd s))∧σ'=σ):=by
 refine Sk (by simp) ?_
 rw [Bj]
 cases h0:(s==[]) with
 |true=>
  (repeat' (first|refine Run.ct rfl ?_|((first|refine Run.reg mixed ?_|refine Run.AE ?_|refine Run.A1 JX (AF.le_refl _) ?_)<;>try simp -implicitDefEqProofs only [BM,h0,go_sem])|fail))
  simp [Nd,h0]
 |false=>
  (repeat' (first|refine Run.ct rfl ?_|((first|refine Run.reg mixed ?_|refine Run.AE ?_|refine Run.A1 JX (AF.le_refl _) ?_|refine AI.det (D3 s _) ?_)<;>try simp -implicitDefEqProofs only [BM,h0,go_sem])|fail))
  simp [Nd,h0]
def KF (l:List Str) (strict:Bool):Bool:=decide (l.length≤6)&&l.all (fun s=>EJ s||(s==[]&& !strict))
theorem gt6 (n:Nat):decide ((6:Int) < (n:Int))=!decide (n≤6):=gtN n 6
theorem T1 {α:Type} {p:α→Bool} {l:List α} {i:Nat} {x:α} (hx:l[i]?=some x) (hp:p x=false):l.all p=false:=by
 rw [List.all_eq_false];exact ⟨x,AT hx,by rw [hp];simp⟩
theorem Ik {α:Type} {p:α→Bool} {l:List α} {i:Nat} {x:α} (h:(l.take i).all p=true) (hx:l[i]?=some x) (hp:p x=true):(l.take (i+1)).all p=true:=by
 rw [BH hx,List.all_append,h];simp [hp]
theorem HQ (l:List Str) (strict:Bool) (σ:AF):AL Tryz.prog 92 [.d (.sl (l.map Aw)),.d (.bool strict)] σ (fun v σ'=>v= .d (.bool (KF l strict))∧σ'=σ):=by
 refine Yy (by simp) ?_
 rw [BX]
 by_cases h6:l.length≤6
 case neg=>
  (repeat' (first|refine Run.ct rfl ?_|((first|refine Run.reg mixed ?_|refine Run.AE ?_|refine Run.A1 KR (AF.le_refl _) ?_)<;>try simp -implicitDefEqProofs only [gt6,AA,decide_eq_false h6,go_sem])|fail))
  simp [KF,h6]
 (repeat' (first|refine Run.ct rfl ?_|((first|refine Run.reg mixed ?_|refine Run.AE ?_)<;>try simp -implicitDefEqProofs only [gt6,AA,decide_eq_true h6,go_sem])|fail))
 refine Run.BD ?_
 refine Run.BK ((fun (a0:AV) (a1:AV)=>fun (i:Nat)=>put 0 a0 (put 1 a1 (put 5 (.d (.int .i64 i)) U))) _ _) (fun _=>E) (fun _=>σ) (fun i=>i≤l.length∧(l.take i).all (fun s=>EJ s||(s==[]&& !strict))=true) (fun i=>l.length - i) ?_ 0 ⟨by simp,by simp⟩
 rintro i ⟨hi,hok⟩ ih
 by_cases hlt:i < l.length
 · obtain ⟨x,hx⟩:=BC hlt
   have he:=BA (enc:=Aw) hx
   simp only [Aw] at he
   have hw1:=A5 (show i+1≤9000000000000000000 by omega)
   have hn:=Cv x 1 σ
   rw [show HA 1 x=EJ x from rfl] at hn
   cases hp:(EJ x||(x==[]&& !strict)) with
   |true=>
    cases hnm:EJ x with
    |true=>
     rw [hnm] at hn
     (repeat' (first|refine Run.ct rfl ?_|((first|refine Run.reg mixed ?_|refine Run.AE ?_|refine AI.det (hn) ?_)<;>try simp -implicitDefEqProofs only [Ac hlt,AA,he,hw1,BM,go_sem])|fail))
     exact ih (i+1) ⟨by omega,Ik hok hx hp⟩ (by omega)
    |false=>
     rw [hnm] at hn
     simp only [hnm,DL,AP,B1] at hp
     obtain ⟨hp1,rfl⟩:=hp
     (repeat' (first|refine Run.ct rfl ?_|((first|refine Run.reg mixed ?_|refine Run.AE ?_|refine AI.det (hn) ?_)<;>try simp -implicitDefEqProofs only [Ac hlt,AA,he,hw1,BM,hp1,go_sem])|fail))
     exact ih (i+1) ⟨by omega,Ik hok hx (by simp [hnm,hp1])⟩ (by omega)
   |false=>
    have hnm:EJ x=false:=(N7.1 hp).1
    rw [hnm] at hn
    have hres:KF l strict=false:=by rw [KF,T1 hx hp,Bm]
    cases h0:(x==[]) with
    |false=>
     (repeat' (first|refine Run.ct rfl ?_|((first|refine Run.reg mixed ?_|refine Run.AE ?_|refine Run.A1 KR (AF.le_refl _) ?_|refine AI.det (hn) ?_)<;>try simp -implicitDefEqProofs only [Ac hlt,AA,he,hw1,BM,h0,go_sem])|fail))
     rw [hres]
    |true=>
     have hst:strict=true:=by simpa [hnm,h0] using hp
     (repeat' (first|refine Run.ct rfl ?_|((first|refine Run.reg mixed ?_|refine Run.AE ?_|refine Run.A1 KR (AF.le_refl _) ?_|refine AI.det (hn) ?_)<;>try simp -implicitDefEqProofs only [Ac hlt,AA,he,hw1,BM,h0,hst,go_sem])|fail))
     rw [← hst,hres]
 · (repeat' (first|refine Run.ct rfl ?_|((first|refine Run.reg mixed ?_|refine Run.AE ?_|refine Run.A1 KR (AF.le_refl _) ?_)<;>try simp -implicitDefEqProofs only [Bi hlt,AA,go_sem])|fail))
   rw [AK (by omega)] at hok
   rw [KF,hok];simp [h6]
end Go.Ab
namespace Go.Ab
open Go.Proofs
set_option maxHeartbeats 4000000 in
theorem Sq:∀(d:Nat) (t:TE) (σ:AF),d≤40→t.size≤1000000→AL Tryz.prog 93 [teA t,.d (.int .i64 d)] σ (fun v σ'=>v= .d (.bool (Dj d t))∧σ'=σ):=by
 intro d
 induction d with
 |zero=>
  rintro ⟨k,n,l⟩ σ _ _
  refine OC (by simp) ?_
  rw [BX,teA,TE.A4]
  have h0:(((0:Nat):Int)==0)=true:=by decide
  (repeat' (first|refine Run.ct rfl ?_|((first|refine Run.reg mixed ?_|refine Run.AE ?_|refine Run.A1 GC (AF.le_refl _) ?_)<;>try simp -implicitDefEqProofs only [h0,go_sem])|fail))
  rfl
 |succ d ihd=>
  rintro ⟨k,n,l⟩ σ hd hsz
  have hlen:=TE.C8 l
  have hsz1:TE.A2 l+1≤1000000:=by simpa [TE.size,Nat.add_comm] using hsz
  refine OC (by simp) ?_
  rw [BX,teA,TE.A4]
  have h0:(((d+1:Nat):Int)==0)=false:=by simp only [beq_eq_false_iff_ne,ne_eq];omega
  have hws:IntKind.i64.wrap (((d+1:Nat):Int) - 1)=(d:Int):=Ie (by omega)
  have hloop:TP k n l.length=true→Run Ez (fun v σ'=>v= .d (.bool (Dj (d+1) (.mk k n l)))∧σ'=σ) [.code (.loop Kx),.blk 1,.code (.seq (.reg [⟨some 4,.mv (.c (.d (.bool true))),none⟩] [4]) .ret)]
   (put 1 (.d (.int .i64 ((d+1:Nat):Int))) (put 2 (.lp 2 0) (put 5 (.d (.int .i64 l.length)) (put 6 (.d (.int .i64 0)) U)))) (Az 2 [.d (.int .i64 k),.d (.str n),.d (.sl (l.map TE.enc))] E) σ:=by
   intro hsh
   refine Run.BD ?_
   refine Run.BK ((fun (a1:AV) (a2:AV) (a5:AV)=>fun (i:Nat)=>put 1 a1 (put 2 a2 (put 5 a5 (put 6 (.d (.int .i64 i)) U)))) _ _ _) (fun _=>Az 2 [.d (.int .i64 k),.d (.str n),.d (.sl (l.map TE.enc))] E) (fun _=>σ) (fun i=>i≤l.length∧(l.take i).all (Dj d)=true) (fun i=>l.length - i) ?_ 0 ⟨by simp,by simp⟩
   rintro i ⟨hi,hok⟩ ih
   by_cases hlt:i < l.length
   · obtain ⟨x,hx⟩:=BC hlt
     have he:=BA (enc:=TE.enc) hx
     have hms:=TE.J0 (AT hx)
     have hc:=ihd x σ (by omega) (by omega)
     have hw1:=A5 (show i+1≤9000000000000000000 by omega)
     cases hp:Dj d x with
     |true=>
      rw [hp] at hc
      obtain ⟨xk,xn,xl⟩:=x
      simp only [TE.A4,teA,AG,AQ] at he hc
      (repeat' (first|refine Run.ct rfl ?_|((first|refine Run.reg mixed ?_|refine Run.AE ?_|refine AI.det (hc) ?_)<;>try simp -implicitDefEqProofs only [Ac hlt,he,hw1,hws,go_sem])|fail))
      exact ih (i+1) ⟨by omega,Ik hok hx hp⟩ (by omega)
     |false=>
      rw [hp] at hc
      have hres:Dj (d+1) (.mk k n l)=false:=by rw [Dj,T1 hx hp,Bm]
      obtain ⟨xk,xn,xl⟩:=x
      simp only [TE.A4,teA,AG,AQ] at he hc
      (repeat' (first|refine Run.ct rfl ?_|((first|refine Run.reg mixed ?_|refine Run.AE ?_|refine Run.A1 GC (AF.le_refl _) ?_|refine AI.det (hc) ?_)<;>try simp -implicitDefEqProofs only [Ac hlt,he,hw1,hws,go_sem])|fail))
      rw [hres]
   · (repeat' (first|refine Run.ct rfl ?_|((first|refine Run.reg mixed ?_|refine Run.AE ?_|refine Run.A1 GC (AF.le_refl _) ?_)<;>try simp -implicitDefEqProofs only [Bi hlt,go_sem])|fail))
     rw [AK (by omega)] at hok
     rw [Dj,hsh,hok];rfl
  clear ihd
  (repeat' (first|refine Run.ct rfl ?_|((first|refine Run.reg mixed ?_|refine Run.AE ?_|refine Run.A1 GC (AF.le_refl _) ?_|((refine hloop ?_))|refine AI.det (Cv _ _ _) ?_|(refine Ce rfl (fun h=>?_) (fun h=>?_)<;>try (cases h;done)))<;>try simp -implicitDefEqProofs only [h0,BM,Cb,AA,go_sem])|(refine ⟨fun h=>?_,fun h=>?_⟩<;>first|(cases h;done)|try simp only [h])|fail))
  all_goals clear hloop hws h0
  all_goals (simp only [beq_iff_eq,beq_eq_false_iff_ne,ne_eq,B1,Bool.not_eq_false',decide_eq_true_eq,decide_eq_false_iff_not] at *;simp_all [Dj,TP,EJ,Ev];first|done|omega|(intros;omega)|(intros;exfalso;omega)|(rcases l with _|⟨a,l⟩<;>simp<;>omega))
end Go.Ab
