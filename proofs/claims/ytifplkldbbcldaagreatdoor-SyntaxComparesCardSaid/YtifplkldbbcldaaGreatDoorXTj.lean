/- Equality of rows, the package's. The compact codes of the functions of this seat, computed out of the translation. Conditions: none. -/
import Derived.Test.YtifplkldbbcldaaGreatDoorProg
import Derived.KernelRfl
import Derived.Test.YtifplkldbbcldaaGreatDoorXTc
set_option linter.unusedSimpArgs false
set_option linter.unusedVariables false
set_option maxRecDepth 4000
set_option maxHeartbeats 8000000
open List renaming length_map→AF,mem_of_getElem?→A6,map_cons→AD,map_nil→AG,cons_append→AX,nil_append→A0
namespace Go.Ab
open Go.Proofs
theorem IT (l m:List Str) (σ:AM):AQ Tryz.prog 120 [.d (.sl (l.map Dt)),.d (.sl (m.map Dt))] σ (fun v σ'=>v= .d (.bool (eqB l m))∧σ'=σ):=by
 refine Qy (by simp) ?_
 rw [Ax]
 refine Run.slot 0 (fun hb0=>?_)
 have hb0:l.length≤9223372036854775807:=by simpa [Eg,AV.Dz] using hb0
 by_cases hl:l.length=m.length
 rotate_left
 · rw [BF (I4 hl)]
   (repeat' (first|refine Run.ct rfl ?_|((first|refine Run.reg mixed ?_|refine Run.AJ ?_|refine Run.A9 FA (AM.le_refl _) ?_|(refine AP rfl (fun h=>?_) (fun h=>?_)<;>try (cases h;done)))<;>try simp -implicitDefEqProofs only [AF,I3 hl,go_sem])|(refine ⟨fun h=>?_,fun h=>?_⟩<;>first|(cases h;done)|try simp only [h])|fail))
 (repeat' (first|refine Run.ct rfl ?_|((first|refine Run.reg mixed ?_|refine Run.AJ ?_|(refine AP rfl (fun h=>?_) (fun h=>?_)<;>try (cases h;done)))<;>try simp -implicitDefEqProofs only [AF,bne_self_eq_false,hl,go_sem])|(refine ⟨fun h=>?_,fun h=>?_⟩<;>first|(cases h;done)|try simp only [h])|fail))
 refine Run.Bl ?_
 refine Run.Bm ((fun (a0:AV) (a1:AV) (a12:AV)=>fun (i:Nat)=>put 0 a0 (put 1 a1 (put 12 a12 (put 13 (.d (.int .i64 i)) U)))) _ _ _) (fun _=>E) (fun _=>σ) (fun i=>i≤l.length∧l.take i=m.take i) (fun i=>l.length - i) ?_ 0 ⟨by simp,by simp⟩
 rintro i ⟨hi,ht⟩ ih
 have hlm:decide ((i:Int) < (m.length:Int))=decide (i < l.length):=decide_eq_decide.2 (by omega)
 by_cases hlt:i < l.length
 · obtain ⟨x,hx⟩:=B4 hlt
   obtain ⟨y,hy⟩:=B4 (show i < m.length by omega)
   have he:=BK (enc:=Dt) hx
   have he':=BK (enc:=Dt) hy
   simp only [Dt] at he he'
   have hw1:IntKind.i64.wrap ((i:Int)+1)=((i+1:Nat):Int):=by rw [Au (by omega) (by omega)];omega
   by_cases hxy:x=y
   · subst hxy
     (repeat' (first|refine Run.ct rfl ?_|((first|refine Run.reg mixed ?_|refine Run.AJ ?_|(refine AP rfl (fun h=>?_) (fun h=>?_)<;>try (cases h;done)))<;>try simp -implicitDefEqProofs only [hlm,decide_eq_true hlt,he,he',hw1,beq_self_eq_true,BS,go_sem])|(refine ⟨fun h=>?_,fun h=>?_⟩<;>first|(cases h;done)|try simp only [h])|fail))
     exact ih (i+1) ⟨by omega,Dp ht hx hy⟩ (by omega)
   · rw [BF (Mr hx hy hxy)]
     (repeat' (first|refine Run.ct rfl ?_|((first|refine Run.reg mixed ?_|refine Run.AJ ?_|refine Run.A9 FA (AM.le_refl _) ?_|(refine AP rfl (fun h=>?_) (fun h=>?_)<;>try (cases h;done)))<;>try simp -implicitDefEqProofs only [hlm,decide_eq_true hlt,he,he',r7 hxy,BS,go_sem])|(refine ⟨fun h=>?_,fun h=>?_⟩<;>first|(cases h;done)|try simp only [h])|fail))
 · rw [JS (Ep ht hl hlt)]
   (repeat' (first|refine Run.ct rfl ?_|((first|refine Run.reg mixed ?_|refine Run.AJ ?_|refine Run.A9 FA (AM.le_refl _) ?_|(refine AP rfl (fun h=>?_) (fun h=>?_)<;>try (cases h;done)))<;>try simp -implicitDefEqProofs only [hlm,decide_eq_false hlt,go_sem])|(refine ⟨fun h=>?_,fun h=>?_⟩<;>first|(cases h;done)|try simp only [h])|fail))
theorem H9 {fid:FuncId} (hb:Am Tryz.prog fid=true) (l m:List TE) (σ:AM) (hf:∀x∈l,∀y∈m,AQ Tryz.prog fid [teA x,teA y] σ (fun v σ'=>v= .d (.bool (eqB x y))∧σ'=σ)):
 AQ Tryz.prog 161 [.d (.sl (l.map TE.enc)),.d (.sl (m.map TE.enc)),.fn fid [] []] σ (fun v σ'=>v= .d (.bool (eqB l m))∧σ'=σ):=by
 refine Jk (by simp) ?_
 rw [Fb]
 refine Run.slot 0 (fun hb0=>?_)
 have hb0:l.length≤9223372036854775807:=by simpa [Eg,AV.Dz] using hb0
 by_cases hl:l.length=m.length
 rotate_left
 · rw [BF (I4 hl)]
   (repeat' (first|refine Run.ct rfl ?_|((first|refine Run.reg mixed ?_|refine Run.AJ ?_|refine Run.A9 CQ (AM.le_refl _) ?_|(refine AP rfl (fun h=>?_) (fun h=>?_)<;>try (cases h;done)))<;>try simp -implicitDefEqProofs only [AF,I3 hl,go_sem])|(refine ⟨fun h=>?_,fun h=>?_⟩<;>first|(cases h;done)|try simp only [h])|fail))
 (repeat' (first|refine Run.ct rfl ?_|((first|refine Run.reg mixed ?_|refine Run.AJ ?_|(refine AP rfl (fun h=>?_) (fun h=>?_)<;>try (cases h;done)))<;>try simp -implicitDefEqProofs only [AF,bne_self_eq_false,hl,go_sem])|(refine ⟨fun h=>?_,fun h=>?_⟩<;>first|(cases h;done)|try simp only [h])|fail))
 refine Run.Bl ?_
 refine Run.Bm ((fun (a1:AV) (a2:AV) (a15:AV) (a16:AV)=>fun (i:Nat)=>put 1 a1 (put 2 a2 (put 15 a15 (put 16 a16 (put 17 (.d (.int .i64 i)) U))))) _ _ _ _) (fun _=>E) (fun _=>σ) (fun i=>i≤l.length∧l.take i=m.take i) (fun i=>l.length - i) ?_ 0 ⟨by simp,by simp⟩
 rintro i ⟨hi,ht⟩ ih
 have hlm:decide ((i:Int) < (m.length:Int))=decide (i < l.length):=decide_eq_decide.2 (by omega)
 by_cases hlt:i < l.length
 · obtain ⟨x,hx⟩:=B4 hlt
   obtain ⟨y,hy⟩:=B4 (show i < m.length by omega)
   have he:=BK (enc:=TE.enc) hx
   have he':=BK (enc:=TE.enc) hy
   have hw1:IntKind.i64.wrap ((i:Int)+1)=((i+1:Nat):Int):=by rw [Au (by omega) (by omega)];omega
   have hc:=hf x (A6 hx) y (A6 hy)
   by_cases hxy:x=y
   · have hih:=fun h=>ih (i+1) ⟨by omega,Dp ht hx (hxy ▸ hy)⟩ h
     rw [JS hxy] at hc
     clear hxy
     obtain ⟨k0,n0,l0⟩:=x
     obtain ⟨k1,n1,l1⟩:=y
     simp only [teA,TE.A2,AD,AG] at he he' hc
     (repeat' (first|refine Run.ct rfl ?_|((first|refine Run.reg mixed ?_|refine Run.AJ ?_|(refine ⟨fid,[],[],rfl,hb,AI.det hc ?_ (by simp [E0,Bu])⟩)|(refine AP rfl (fun h=>?_) (fun h=>?_)<;>try (cases h;done)))<;>try simp -implicitDefEqProofs only [hlm,decide_eq_true hlt,he,he',hw1,go_sem])|(refine ⟨fun h=>?_,fun h=>?_⟩<;>first|(cases h;done)|try simp only [h])|fail))
     exact hih (by omega)
   · rw [BF (Mr hx hy hxy)]
     rw [BF hxy] at hc
     clear hxy
     obtain ⟨k0,n0,l0⟩:=x
     obtain ⟨k1,n1,l1⟩:=y
     simp only [teA,TE.A2,AD,AG] at he he' hc
     (repeat' (first|refine Run.ct rfl ?_|((first|refine Run.reg mixed ?_|refine Run.AJ ?_|refine Run.A9 CQ (AM.le_refl _) ?_|(refine ⟨fid,[],[],rfl,hb,AI.det hc ?_ (by simp [E0,Bu])⟩)|(refine AP rfl (fun h=>?_) (fun h=>?_)<;>try (cases h;done)))<;>try simp -implicitDefEqProofs only [hlm,decide_eq_true hlt,he,he',go_sem])|(refine ⟨fun h=>?_,fun h=>?_⟩<;>first|(cases h;done)|try simp only [h])|fail))
 · rw [JS (Ep ht hl hlt)]
   (repeat' (first|refine Run.ct rfl ?_|((first|refine Run.reg mixed ?_|refine Run.AJ ?_|refine Run.A9 CQ (AM.le_refl _) ?_|(refine AP rfl (fun h=>?_) (fun h=>?_)<;>try (cases h;done)))<;>try simp -implicitDefEqProofs only [hlm,decide_eq_false hlt,go_sem])|(refine ⟨fun h=>?_,fun h=>?_⟩<;>first|(cases h;done)|try simp only [h])|fail))
theorem ON {fid:FuncId} (hb:Am Tryz.prog fid=true) (l m:List CE) (σ:AM) (hf:∀x∈l,∀y∈m,AQ Tryz.prog fid [ceA x,ceA y] σ (fun v σ'=>v= .d (.bool (eqB x y))∧σ'=σ)):
 AQ Tryz.prog 121 [.d (.sl (l.map CE.enc)),.d (.sl (m.map CE.enc)),.fn fid [] []] σ (fun v σ'=>v= .d (.bool (eqB l m))∧σ'=σ):=by
 refine K4 (by simp) ?_
 rw [Fb]
 refine Run.slot 0 (fun hb0=>?_)
 have hb0:l.length≤9223372036854775807:=by simpa [Eg,AV.Dz] using hb0
 by_cases hl:l.length=m.length
 rotate_left
 · rw [BF (I4 hl)]
   (repeat' (first|refine Run.ct rfl ?_|((first|refine Run.reg mixed ?_|refine Run.AJ ?_|refine Run.A9 C3 (AM.le_refl _) ?_|(refine AP rfl (fun h=>?_) (fun h=>?_)<;>try (cases h;done)))<;>try simp -implicitDefEqProofs only [AF,I3 hl,go_sem])|(refine ⟨fun h=>?_,fun h=>?_⟩<;>first|(cases h;done)|try simp only [h])|fail))
 (repeat' (first|refine Run.ct rfl ?_|((first|refine Run.reg mixed ?_|refine Run.AJ ?_|(refine AP rfl (fun h=>?_) (fun h=>?_)<;>try (cases h;done)))<;>try simp -implicitDefEqProofs only [AF,bne_self_eq_false,hl,go_sem])|(refine ⟨fun h=>?_,fun h=>?_⟩<;>first|(cases h;done)|try simp only [h])|fail))
 refine Run.Bl ?_
 refine Run.Bm ((fun (a1:AV) (a2:AV) (a15:AV) (a16:AV)=>fun (i:Nat)=>put 1 a1 (put 2 a2 (put 15 a15 (put 16 a16 (put 17 (.d (.int .i64 i)) U))))) _ _ _ _) (fun _=>E) (fun _=>σ) (fun i=>i≤l.length∧l.take i=m.take i) (fun i=>l.length - i) ?_ 0 ⟨by simp,by simp⟩
 rintro i ⟨hi,ht⟩ ih
 have hlm:decide ((i:Int) < (m.length:Int))=decide (i < l.length):=decide_eq_decide.2 (by omega)
 by_cases hlt:i < l.length
 · obtain ⟨x,hx⟩:=B4 hlt
   obtain ⟨y,hy⟩:=B4 (show i < m.length by omega)
   have he:=BK (enc:=CE.enc) hx
   have he':=BK (enc:=CE.enc) hy
   have hw1:IntKind.i64.wrap ((i:Int)+1)=((i+1:Nat):Int):=by rw [Au (by omega) (by omega)];omega
   have hc:=hf x (A6 hx) y (A6 hy)
   by_cases hxy:x=y
   · have hih:=fun h=>ih (i+1) ⟨by omega,Dp ht hx (hxy ▸ hy)⟩ h
     rw [JS hxy] at hc
     clear hxy
     obtain ⟨n0,l0⟩:=x
     obtain ⟨n1,l1⟩:=y
     simp only [ceA,CE.enc,AD,AG] at he he' hc
     (repeat' (first|refine Run.ct rfl ?_|((first|refine Run.reg mixed ?_|refine Run.AJ ?_|(refine ⟨fid,[],[],rfl,hb,AI.det hc ?_ (by simp [E0,Bu])⟩)|(refine AP rfl (fun h=>?_) (fun h=>?_)<;>try (cases h;done)))<;>try simp -implicitDefEqProofs only [hlm,decide_eq_true hlt,he,he',hw1,go_sem])|(refine ⟨fun h=>?_,fun h=>?_⟩<;>first|(cases h;done)|try simp only [h])|fail))
     exact hih (by omega)
   · rw [BF (Mr hx hy hxy)]
     rw [BF hxy] at hc
     clear hxy
     obtain ⟨n0,l0⟩:=x
     obtain ⟨n1,l1⟩:=y
     simp only [ceA,CE.enc,AD,AG] at he he' hc
     (repeat' (first|refine Run.ct rfl ?_|((first|refine Run.reg mixed ?_|refine Run.AJ ?_|refine Run.A9 C3 (AM.le_refl _) ?_|(refine ⟨fid,[],[],rfl,hb,AI.det hc ?_ (by simp [E0,Bu])⟩)|(refine AP rfl (fun h=>?_) (fun h=>?_)<;>try (cases h;done)))<;>try simp -implicitDefEqProofs only [hlm,decide_eq_true hlt,he,he',go_sem])|(refine ⟨fun h=>?_,fun h=>?_⟩<;>first|(cases h;done)|try simp only [h])|fail))
 · rw [JS (Ep ht hl hlt)]
   (repeat' (first|refine Run.ct rfl ?_|((first|refine Run.reg mixed ?_|refine Run.AJ ?_|refine Run.A9 C3 (AM.le_refl _) ?_|(refine AP rfl (fun h=>?_) (fun h=>?_)<;>try (cases h;done)))<;>try simp -implicitDefEqProofs only [hlm,decide_eq_false hlt,go_sem])|(refine ⟨fun h=>?_,fun h=>?_⟩<;>first|(cases h;done)|try simp only [h])|fail))
theorem Nd {fid:FuncId} (hb:Am Tryz.prog fid=true) (l m:List DE) (σ:AM) (hf:∀x∈l,∀y∈m,AQ Tryz.prog fid [deA x,deA y] σ (fun v σ'=>v= .d (.bool (eqB x y))∧σ'=σ)):
 AQ Tryz.prog 60 [.d (.sl (l.map DE.enc)),.d (.sl (m.map DE.enc)),.fn fid [] []] σ (fun v σ'=>v= .d (.bool (eqB l m))∧σ'=σ):=by
 refine Jj (by simp) ?_
 rw [Fb]
 refine Run.slot 0 (fun hb0=>?_)
 have hb0:l.length≤9223372036854775807:=by simpa [Eg,AV.Dz] using hb0
 by_cases hl:l.length=m.length
 rotate_left
 · rw [BF (I4 hl)]
   (repeat' (first|refine Run.ct rfl ?_|((first|refine Run.reg mixed ?_|refine Run.AJ ?_|refine Run.A9 CP (AM.le_refl _) ?_|(refine AP rfl (fun h=>?_) (fun h=>?_)<;>try (cases h;done)))<;>try simp -implicitDefEqProofs only [AF,I3 hl,go_sem])|(refine ⟨fun h=>?_,fun h=>?_⟩<;>first|(cases h;done)|try simp only [h])|fail))
 (repeat' (first|refine Run.ct rfl ?_|((first|refine Run.reg mixed ?_|refine Run.AJ ?_|(refine AP rfl (fun h=>?_) (fun h=>?_)<;>try (cases h;done)))<;>try simp -implicitDefEqProofs only [AF,bne_self_eq_false,hl,go_sem])|(refine ⟨fun h=>?_,fun h=>?_⟩<;>first|(cases h;done)|try simp only [h])|fail))
 refine Run.Bl ?_
 refine Run.Bm ((fun (a1:AV) (a2:AV) (a15:AV) (a16:AV)=>fun (i:Nat)=>put 1 a1 (put 2 a2 (put 15 a15 (put 16 a16 (put 17 (.d (.int .i64 i)) U))))) _ _ _ _) (fun _=>E) (fun _=>σ) (fun i=>i≤l.length∧l.take i=m.take i) (fun i=>l.length - i) ?_ 0 ⟨by simp,by simp⟩
 rintro i ⟨hi,ht⟩ ih
 have hlm:decide ((i:Int) < (m.length:Int))=decide (i < l.length):=decide_eq_decide.2 (by omega)
 by_cases hlt:i < l.length
 · obtain ⟨x,hx⟩:=B4 hlt
   obtain ⟨y,hy⟩:=B4 (show i < m.length by omega)
   have he:=BK (enc:=DE.enc) hx
   have he':=BK (enc:=DE.enc) hy
   have hw1:IntKind.i64.wrap ((i:Int)+1)=((i+1:Nat):Int):=by rw [Au (by omega) (by omega)];omega
   have hc:=hf x (A6 hx) y (A6 hy)
   by_cases hxy:x=y
   · have hih:=fun h=>ih (i+1) ⟨by omega,Dp ht hx (hxy ▸ hy)⟩ h
     rw [JS hxy] at hc
     clear hxy
     obtain ⟨n0,v0,l0⟩:=x
     obtain ⟨n1,v1,l1⟩:=y
     simp only [deA,DE.enc,AD,AG] at he he' hc
     (repeat' (first|refine Run.ct rfl ?_|((first|refine Run.reg mixed ?_|refine Run.AJ ?_|(refine ⟨fid,[],[],rfl,hb,AI.det hc ?_ (by simp [E0,Bu])⟩)|(refine AP rfl (fun h=>?_) (fun h=>?_)<;>try (cases h;done)))<;>try simp -implicitDefEqProofs only [hlm,decide_eq_true hlt,he,he',hw1,go_sem])|(refine ⟨fun h=>?_,fun h=>?_⟩<;>first|(cases h;done)|try simp only [h])|fail))
     exact hih (by omega)
   · rw [BF (Mr hx hy hxy)]
     rw [BF hxy] at hc
     clear hxy
     obtain ⟨n0,v0,l0⟩:=x
     obtain ⟨n1,v1,l1⟩:=y
     simp only [deA,DE.enc,AD,AG] at he he' hc
     (repeat' (first|refine Run.ct rfl ?_|((first|refine Run.reg mixed ?_|refine Run.AJ ?_|refine Run.A9 CP (AM.le_refl _) ?_|(refine ⟨fid,[],[],rfl,hb,AI.det hc ?_ (by simp [E0,Bu])⟩)|(refine AP rfl (fun h=>?_) (fun h=>?_)<;>try (cases h;done)))<;>try simp -implicitDefEqProofs only [hlm,decide_eq_true hlt,he,he',go_sem])|(refine ⟨fun h=>?_,fun h=>?_⟩<;>first|(cases h;done)|try simp only [h])|fail))
 · rw [JS (Ep ht hl hlt)]
   (repeat' (first|refine Run.ct rfl ?_|((first|refine Run.reg mixed ?_|refine Run.AJ ?_|refine Run.A9 CP (AM.le_refl _) ?_|(refine AP rfl (fun h=>?_) (fun h=>?_)<;>try (cases h;done)))<;>try simp -implicitDefEqProofs only [hlm,decide_eq_false hlt,go_sem])|(refine ⟨fun h=>?_,fun h=>?_⟩<;>first|(cases h;done)|try simp only [h])|fail))
theorem Qt {fid:FuncId} (hb:Am Tryz.prog fid=true) (l m:List Ex) (σ:AM) (hf:∀x∈l,∀y∈m,AQ Tryz.prog fid [exA x,exA y] σ (fun v σ'=>v= .d (.bool (eqB x y))∧σ'=σ)):
 AQ Tryz.prog 163 [.d (.sl (l.map Ex.enc)),.d (.sl (m.map Ex.enc)),.fn fid [] []] σ (fun v σ'=>v= .d (.bool (eqB l m))∧σ'=σ):=by
 refine M6 (by simp) ?_
 rw [Fb]
 refine Run.slot 0 (fun hb0=>?_)
 have hb0:l.length≤9223372036854775807:=by simpa [Eg,AV.Dz] using hb0
 by_cases hl:l.length=m.length
 rotate_left
 · rw [BF (I4 hl)]
   (repeat' (first|refine Run.ct rfl ?_|((first|refine Run.reg mixed ?_|refine Run.AJ ?_|refine Run.A9 DF (AM.le_refl _) ?_|(refine AP rfl (fun h=>?_) (fun h=>?_)<;>try (cases h;done)))<;>try simp -implicitDefEqProofs only [AF,I3 hl,go_sem])|(refine ⟨fun h=>?_,fun h=>?_⟩<;>first|(cases h;done)|try simp only [h])|fail))
 (repeat' (first|refine Run.ct rfl ?_|((first|refine Run.reg mixed ?_|refine Run.AJ ?_|(refine AP rfl (fun h=>?_) (fun h=>?_)<;>try (cases h;done)))<;>try simp -implicitDefEqProofs only [AF,bne_self_eq_false,hl,go_sem])|(refine ⟨fun h=>?_,fun h=>?_⟩<;>first|(cases h;done)|try simp only [h])|fail))
 refine Run.Bl ?_
 refine Run.Bm ((fun (a1:AV) (a2:AV) (a15:AV) (a16:AV)=>fun (i:Nat)=>put 1 a1 (put 2 a2 (put 15 a15 (put 16 a16 (put 17 (.d (.int .i64 i)) U))))) _ _ _ _) (fun _=>E) (fun _=>σ) (fun i=>i≤l.length∧l.take i=m.take i) (fun i=>l.length - i) ?_ 0 ⟨by simp,by simp⟩
 rintro i ⟨hi,ht⟩ ih
 have hlm:decide ((i:Int) < (m.length:Int))=decide (i < l.length):=decide_eq_decide.2 (by omega)
 by_cases hlt:i < l.length
 · obtain ⟨x,hx⟩:=B4 hlt
   obtain ⟨y,hy⟩:=B4 (show i < m.length by omega)
   have he:=BK (enc:=Ex.enc) hx
   have he':=BK (enc:=Ex.enc) hy
   have hw1:IntKind.i64.wrap ((i:Int)+1)=((i+1:Nat):Int):=by rw [Au (by omega) (by omega)];omega
   have hc:=hf x (A6 hx) y (A6 hy)
   by_cases hxy:x=y
   · have hih:=fun h=>ih (i+1) ⟨by omega,Dp ht hx (hxy ▸ hy)⟩ h
     rw [JS hxy] at hc
     clear hxy
     obtain ⟨o0,n0,u0,ns0,ks0,al0⟩:=x
     obtain ⟨o1,n1,u1,ns1,ks1,al1⟩:=y
     simp only [exA,Ex.A2,AD,AG] at he he' hc
     (repeat' (first|refine Run.ct rfl ?_|((first|refine Run.reg mixed ?_|refine Run.AJ ?_|(refine ⟨fid,[],[],rfl,hb,AI.det hc ?_ (by simp [E0,Bu])⟩)|(refine AP rfl (fun h=>?_) (fun h=>?_)<;>try (cases h;done)))<;>try simp -implicitDefEqProofs only [hlm,decide_eq_true hlt,he,he',hw1,go_sem])|(refine ⟨fun h=>?_,fun h=>?_⟩<;>first|(cases h;done)|try simp only [h])|fail))
     exact hih (by omega)
   · rw [BF (Mr hx hy hxy)]
     rw [BF hxy] at hc
     clear hxy
     obtain ⟨o0,n0,u0,ns0,ks0,al0⟩:=x
     obtain ⟨o1,n1,u1,ns1,ks1,al1⟩:=y
     simp only [exA,Ex.A2,AD,AG] at he he' hc
     (repeat' (first|refine Run.ct rfl ?_|((first|refine Run.reg mixed ?_|refine Run.AJ ?_|refine Run.A9 DF (AM.le_refl _) ?_|(refine ⟨fid,[],[],rfl,hb,AI.det hc ?_ (by simp [E0,Bu])⟩)|(refine AP rfl (fun h=>?_) (fun h=>?_)<;>try (cases h;done)))<;>try simp -implicitDefEqProofs only [hlm,decide_eq_true hlt,he,he',go_sem])|(refine ⟨fun h=>?_,fun h=>?_⟩<;>first|(cases h;done)|try simp only [h])|fail))
 · rw [JS (Ep ht hl hlt)]
   (repeat' (first|refine Run.ct rfl ?_|((first|refine Run.reg mixed ?_|refine Run.AJ ?_|refine Run.A9 DF (AM.le_refl _) ?_|(refine AP rfl (fun h=>?_) (fun h=>?_)<;>try (cases h;done)))<;>try simp -implicitDefEqProofs only [hlm,decide_eq_false hlt,go_sem])|(refine ⟨fun h=>?_,fun h=>?_⟩<;>first|(cases h;done)|try simp only [h])|fail))
theorem OO {fid:FuncId} (hb:Am Tryz.prog fid=true) (l m:List FE) (σ:AM) (hf:∀x∈l,∀y∈m,AQ Tryz.prog fid [feA x,feA y] σ (fun v σ'=>v= .d (.bool (eqB x y))∧σ'=σ)):
 AQ Tryz.prog 62 [.d (.sl (l.map FE.enc)),.d (.sl (m.map FE.enc)),.fn fid [] []] σ (fun v σ'=>v= .d (.bool (eqB l m))∧σ'=σ):=by
 refine K5 (by simp) ?_
 rw [Fb]
 refine Run.slot 0 (fun hb0=>?_)
 have hb0:l.length≤9223372036854775807:=by simpa [Eg,AV.Dz] using hb0
 by_cases hl:l.length=m.length
 rotate_left
 · rw [BF (I4 hl)]
   (repeat' (first|refine Run.ct rfl ?_|((first|refine Run.reg mixed ?_|refine Run.AJ ?_|refine Run.A9 C4 (AM.le_refl _) ?_|(refine AP rfl (fun h=>?_) (fun h=>?_)<;>try (cases h;done)))<;>try simp -implicitDefEqProofs only [AF,I3 hl,go_sem])|(refine ⟨fun h=>?_,fun h=>?_⟩<;>first|(cases h;done)|try simp only [h])|fail))
 (repeat' (first|refine Run.ct rfl ?_|((first|refine Run.reg mixed ?_|refine Run.AJ ?_|(refine AP rfl (fun h=>?_) (fun h=>?_)<;>try (cases h;done)))<;>try simp -implicitDefEqProofs only [AF,bne_self_eq_false,hl,go_sem])|(refine ⟨fun h=>?_,fun h=>?_⟩<;>first|(cases h;done)|try simp only [h])|fail))
 refine Run.Bl ?_
 refine Run.Bm ((fun (a1:AV) (a2:AV) (a15:AV) (a16:AV)=>fun (i:Nat)=>put 1 a1 (put 2 a2 (put 15 a15 (put 16 a16 (put 17 (.d (.int .i64 i)) U))))) _ _ _ _) (fun _=>E) (fun _=>σ) (fun i=>i≤l.length∧l.take i=m.take i) (fun i=>l.length - i) ?_ 0 ⟨by simp,by simp⟩
 rintro i ⟨hi,ht⟩ ih
 have hlm:decide ((i:Int) < (m.length:Int))=decide (i < l.length):=decide_eq_decide.2 (by omega)
 by_cases hlt:i < l.length
 · obtain ⟨x,hx⟩:=B4 hlt
   obtain ⟨y,hy⟩:=B4 (show i < m.length by omega)
   have he:=BK (enc:=FE.enc) hx
   have he':=BK (enc:=FE.enc) hy
   have hw1:IntKind.i64.wrap ((i:Int)+1)=((i+1:Nat):Int):=by rw [Au (by omega) (by omega)];omega
   have hc:=hf x (A6 hx) y (A6 hy)
   by_cases hxy:x=y
   · have hih:=fun h=>ih (i+1) ⟨by omega,Dp ht hx (hxy ▸ hy)⟩ h
     rw [JS hxy] at hc
     clear hxy
     obtain ⟨f0,ps0,⟨o0,n0,u0,ns0,ks0,al0⟩⟩:=x
     obtain ⟨f1,ps1,⟨o1,n1,u1,ns1,ks1,al1⟩⟩:=y
     simp only [feA,FE.enc,Ex.A2,AX,A0,AD,AG] at he he' hc
     (repeat' (first|refine Run.ct rfl ?_|((first|refine Run.reg mixed ?_|refine Run.AJ ?_|(refine ⟨fid,[],[],rfl,hb,AI.det hc ?_ (by simp [E0,Bu])⟩)|(refine AP rfl (fun h=>?_) (fun h=>?_)<;>try (cases h;done)))<;>try simp -implicitDefEqProofs only [hlm,decide_eq_true hlt,he,he',hw1,go_sem])|(refine ⟨fun h=>?_,fun h=>?_⟩<;>first|(cases h;done)|try simp only [h])|fail))
     exact hih (by omega)
   · rw [BF (Mr hx hy hxy)]
     rw [BF hxy] at hc
     clear hxy
     obtain ⟨f0,ps0,⟨o0,n0,u0,ns0,ks0,al0⟩⟩:=x
     obtain ⟨f1,ps1,⟨o1,n1,u1,ns1,ks1,al1⟩⟩:=y
     simp only [feA,FE.enc,Ex.A2,AX,A0,AD,AG] at he he' hc
     (repeat' (first|refine Run.ct rfl ?_|((first|refine Run.reg mixed ?_|refine Run.AJ ?_|refine Run.A9 C4 (AM.le_refl _) ?_|(refine ⟨fid,[],[],rfl,hb,AI.det hc ?_ (by simp [E0,Bu])⟩)|(refine AP rfl (fun h=>?_) (fun h=>?_)<;>try (cases h;done)))<;>try simp -implicitDefEqProofs only [hlm,decide_eq_true hlt,he,he',go_sem])|(refine ⟨fun h=>?_,fun h=>?_⟩<;>first|(cases h;done)|try simp only [h])|fail))
 · rw [JS (Ep ht hl hlt)]
   (repeat' (first|refine Run.ct rfl ?_|((first|refine Run.reg mixed ?_|refine Run.AJ ?_|refine Run.A9 C4 (AM.le_refl _) ?_|(refine AP rfl (fun h=>?_) (fun h=>?_)<;>try (cases h;done)))<;>try simp -implicitDefEqProofs only [hlm,decide_eq_false hlt,go_sem])|(refine ⟨fun h=>?_,fun h=>?_⟩<;>first|(cases h;done)|try simp only [h])|fail))
theorem Rb {fid:FuncId} (hb:Am Tryz.prog fid=true) (l m:List Al) (σ:AM) (hf:∀x∈l,∀y∈m,AQ Tryz.prog fid [alA x,alA y] σ (fun v σ'=>v= .d (.bool (eqB x y))∧σ'=σ)):
 AQ Tryz.prog 164 [.d (.sl (l.map Al.enc)),.d (.sl (m.map Al.enc)),.fn fid [] []] σ (fun v σ'=>v= .d (.bool (eqB l m))∧σ'=σ):=by
 refine NO (by simp) ?_
 rw [Fb]
 refine Run.slot 0 (fun hb0=>?_)
 have hb0:l.length≤9223372036854775807:=by simpa [Eg,AV.Dz] using hb0
 by_cases hl:l.length=m.length
 rotate_left
 · rw [BF (I4 hl)]
   (repeat' (first|refine Run.ct rfl ?_|((first|refine Run.reg mixed ?_|refine Run.AJ ?_|refine Run.A9 DK (AM.le_refl _) ?_|(refine AP rfl (fun h=>?_) (fun h=>?_)<;>try (cases h;done)))<;>try simp -implicitDefEqProofs only [AF,I3 hl,go_sem])|(refine ⟨fun h=>?_,fun h=>?_⟩<;>first|(cases h;done)|try simp only [h])|fail))
 (repeat' (first|refine Run.ct rfl ?_|((first|refine Run.reg mixed ?_|refine Run.AJ ?_|(refine AP rfl (fun h=>?_) (fun h=>?_)<;>try (cases h;done)))<;>try simp -implicitDefEqProofs only [AF,bne_self_eq_false,hl,go_sem])|(refine ⟨fun h=>?_,fun h=>?_⟩<;>first|(cases h;done)|try simp only [h])|fail))
 refine Run.Bl ?_
 refine Run.Bm ((fun (a1:AV) (a2:AV) (a15:AV) (a16:AV)=>fun (i:Nat)=>put 1 a1 (put 2 a2 (put 15 a15 (put 16 a16 (put 17 (.d (.int .i64 i)) U))))) _ _ _ _) (fun _=>E) (fun _=>σ) (fun i=>i≤l.length∧l.take i=m.take i) (fun i=>l.length - i) ?_ 0 ⟨by simp,by simp⟩
 rintro i ⟨hi,ht⟩ ih
 have hlm:decide ((i:Int) < (m.length:Int))=decide (i < l.length):=decide_eq_decide.2 (by omega)
 by_cases hlt:i < l.length
 · obtain ⟨x,hx⟩:=B4 hlt
   obtain ⟨y,hy⟩:=B4 (show i < m.length by omega)
   have he:=BK (enc:=Al.enc) hx
   have he':=BK (enc:=Al.enc) hy
   have hw1:IntKind.i64.wrap ((i:Int)+1)=((i+1:Nat):Int):=by rw [Au (by omega) (by omega)];omega
   have hc:=hf x (A6 hx) y (A6 hy)
   by_cases hxy:x=y
   · have hih:=fun h=>ih (i+1) ⟨by omega,Dp ht hx (hxy ▸ hy)⟩ h
     rw [JS hxy] at hc
     clear hxy
     obtain ⟨c0,vs0,⟨o0,n0,u0,ns0,ks0,al0⟩⟩:=x
     obtain ⟨c1,vs1,⟨o1,n1,u1,ns1,ks1,al1⟩⟩:=y
     simp only [alA,Al.A2,AD,AG] at he he' hc
     (repeat' (first|refine Run.ct rfl ?_|((first|refine Run.reg mixed ?_|refine Run.AJ ?_|(refine ⟨fid,[],[],rfl,hb,AI.det hc ?_ (by simp [E0,Bu])⟩)|(refine AP rfl (fun h=>?_) (fun h=>?_)<;>try (cases h;done)))<;>try simp -implicitDefEqProofs only [hlm,decide_eq_true hlt,he,he',hw1,go_sem])|(refine ⟨fun h=>?_,fun h=>?_⟩<;>first|(cases h;done)|try simp only [h])|fail))
     exact hih (by omega)
   · rw [BF (Mr hx hy hxy)]
     rw [BF hxy] at hc
     clear hxy
     obtain ⟨c0,vs0,⟨o0,n0,u0,ns0,ks0,al0⟩⟩:=x
     obtain ⟨c1,vs1,⟨o1,n1,u1,ns1,ks1,al1⟩⟩:=y
     simp only [alA,Al.A2,AD,AG] at he he' hc
     (repeat' (first|refine Run.ct rfl ?_|((first|refine Run.reg mixed ?_|refine Run.AJ ?_|refine Run.A9 DK (AM.le_refl _) ?_|(refine ⟨fid,[],[],rfl,hb,AI.det hc ?_ (by simp [E0,Bu])⟩)|(refine AP rfl (fun h=>?_) (fun h=>?_)<;>try (cases h;done)))<;>try simp -implicitDefEqProofs only [hlm,decide_eq_true hlt,he,he',go_sem])|(refine ⟨fun h=>?_,fun h=>?_⟩<;>first|(cases h;done)|try simp only [h])|fail))
 · rw [JS (Ep ht hl hlt)]
   (repeat' (first|refine Run.ct rfl ?_|((first|refine Run.reg mixed ?_|refine Run.AJ ?_|refine Run.A9 DK (AM.le_refl _) ?_|(refine AP rfl (fun h=>?_) (fun h=>?_)<;>try (cases h;done)))<;>try simp -implicitDefEqProofs only [hlm,decide_eq_false hlt,go_sem])|(refine ⟨fun h=>?_,fun h=>?_⟩<;>first|(cases h;done)|try simp only [h])|fail))
end Go.Ab
namespace Go.Ab
open Go.Proofs
variable {args:List AV} {σ:AM} {K:AV→AM→Prop}
def UC:C:=(.seq (.reg [Qo 17 (.bin .lss (.t 16) (.t 15))] [1,3,14,15,16,17])
 (.seq (.cond (.t 17) .skip
 (.exit 0))
 (.seq (.block 1 (.seq (.reg [Qo 18 (.ix (.t 14) (.t 16) 3),
 Qo 19 (.ld (.t 18) (some 3)),
 Qo 5 (.al [(.d (.str [])),.AW,.AW] false),
 ⟨none,.st (.t 5) (.t 19) 3,none⟩] [1,3,5,14,15,16])
 (.reg [Qm 20 3,
 Qo 21 (.ldl (.t 5) (some 3)),
 Qo 22 (.call 42 [(.t 20),(.t 21)])] [1,3,14,15,16])))
 (.reg [Qo 23 (.bin .add (.t 16) (.c (.d (.int .i64 1)))),
 Qm 16 23] [1,3,14,15,16]))))
def UD:C:=(.seq (.reg [Qo 28 (.bin .lss (.t 27) (.t 26))] [3,25,26,27,28])
 (.seq (.cond (.t 28) .skip
 (.exit 2))
 (.seq (.block 3 (.seq (.reg [Qo 29 (.ix (.t 25) (.t 27) 8),
 Qo 30 (.ld (.t 29) (some 8)),
 Qo 7 (.al [(.d (.str [])),.AW,(.d (.int .i64 0)),(.d (.str [])),(.d (.int .i64 0)),.AW,.AW,.AW] false),
 ⟨none,.st (.t 7) (.t 30) 8,none⟩] [3,7,25,26,27])
 (.seq (.reg [Qm 31 3,
 Qo 32 (.nck (.t 31)),
 Qo 33 (.fld (.t 32) 0),
 Qo 34 (.fld (.t 7) 0),
 Qo 35 (.ldl (.t 34) none),
 Qo 36 (.bin .add (.c (.d (.str [102,117,110,32]))) (.t 35)),
 Qo 37 (.bin .add (.t 36) (.c (.d (.str [40])))),
 Qo 38 (.fld (.t 7) 1),
 Qo 39 (.ldl (.t 38) none),
 Qo 40 (.call 44 [(.t 39),(.c (.d (.str [44,32])))]),
 Qo 41 (.bin .add (.t 37) (.t 40)),
 Qo 42 (.bin .add (.t 41) (.c (.d (.str [41,32,61,32])))),
 Qo 43 (.call 43 [(.t 33),(.t 42)])] [3,7,25,26,27])
 (.seq (.reg [Qm 44 3,
 Qo 45 (.fld (.t 7) 2),
 Qo 46 (.ldl (.t 45) (some 6)),
 Qo 47 (.call 45 [(.t 44),(.t 46),(.c (.d (.int .i64 0)))])] [3,25,26,27])
 (.reg [Qm 48 3,
 Qo 49 (.nck (.t 48)),
 Qo 50 (.fld (.t 49) 0),
 Qo 51 (.call 43 [(.t 50),(.c (.d (.str [59,10])))])] [3,25,26,27])))))
 (.reg [Qo 52 (.bin .add (.t 27) (.c (.d (.int .i64 1)))),
 Qm 27 52] [3,25,26,27]))))
def Qg:C:=(.seq (.reg [Qo 1 (.box (.t 0) false),
 Qo 2 (.mv (.c (.d (.str []))))] [1])
 (.seq (.seq (.reg [Qo 8 (.ldl (.t 1) (some 2)),
 Qo 9 (.call 19 [(.t 8)]),
 Qo 10 (.un .not (.t 9))] [1,10])
 (.cond (.t 10) (.seq (.reg [Qo 2 (.mv (.c (.d (.str []))))] [2])
 .ret)
 .skip))
 (.seq (.reg [Qo 11 (.bld [.FK,.AW] []),
 Qo 12 (.ex (.dB 87 2) [(.t 11)]),
 Qm 3 12] [1,3])
 (.seq (.seq (.reg [Qo 13 (.fld (.t 1) 0),
 Qo 14 (.ldl (.t 13) none),
 Qo 15 (.len (.t 14)),
 Qo 16 (.mv (.c (.d (.int .i64 0))))] [1,3,14,15,16])
 (.block 0 (.loop UC)))
 (.seq (.seq (.reg [Qo 24 (.fld (.t 1) 1),
 Qo 25 (.ldl (.t 24) none),
 Qo 26 (.len (.t 25)),
 Qo 27 (.mv (.c (.d (.int .i64 0))))] [3,25,26,27])
 (.block 2 (.loop UD)))
 (.seq (.reg [Qm 53 3,
 Qo 54 (.nck (.t 53)),
 Qo 55 (.fld (.t 54) 0),
 Qo 56 (.call 46 [(.t 55)]),
 Qm 2 56] [2])
 .ret))))))
noncomputable def G3:Cx:=⟨Tryz.prog,17,Tryz.f17,57,[12,100012,300008,300014,300021,300025,300035,300039,300046],[],[.t 2]⟩
theorem Lo:Good G3:=⟨Tryz.func17,by kernel_rfl⟩
theorem WM:G3.rs=[.t 2]:=rfl
theorem Wq (hl:args.length≤57) (h:Run G3 K [.code Qg] (Ao args) E σ):AQ Tryz.prog 17 args σ K:=
 AU (cx:=G3) (code:=Tryz.f17.body.getD .skip) Lo (by kernel_rfl) Tryz.ntmps17 hl (AY G3 _ (As Qg) _ [] (by kernel_rfl)) h
def KA:C:=(.seq (.reg [Qo 2 (.box (.t 0) true),
 Qo 3 (.box (.t 1) false)] [2,3])
 (.seq (.reg [Qo 4 (.ld (.t 2) none),
 Qo 5 (.nck (.t 4)),
 Qo 6 (.fld (.t 5) 0),
 Qo 7 (.fld (.t 3) 0),
 Qo 8 (.ldl (.t 7) none),
 Qo 9 (.bin .add (.c (.d (.str [100,97,116,97,32]))) (.t 8)),
 Qo 10 (.call 43 [(.t 6),(.t 9)])] [2,3])
 (.seq (.reg [Qo 11 (.ld (.t 2) none),
 Qo 12 (.fld (.t 3) 1),
 Qo 13 (.ldl (.t 12) none),
 Qo 14 (.ld (.t 2) none),
 Qo 15 (.mkf 80 [(.t 14)] []),
 Qo 16 (.call 79 [(.t 11),(.t 13),(.t 15)])] [2,3])
 (.seq (.reg [Qo 17 (.ld (.t 2) none),
 Qo 18 (.nck (.t 17)),
 Qo 19 (.fld (.t 18) 0),
 Qo 20 (.call 43 [(.t 19),(.c (.d (.str [32,61,32])))])] [2,3])
 (.seq (.reg [Qo 21 (.ld (.t 2) none),
 Qo 22 (.fld (.t 3) 2),
 Qo 23 (.ldl (.t 22) none),
 Qo 24 (.mkf 82 [] [(.t 2)]),
 Qo 25 (.call 81 [(.t 21),(.c (.d (.str [32,124,32]))),(.t 23),(.t 24)])] [2])
 (.reg [Qo 26 (.ld (.t 2) none),
 Qo 27 (.nck (.t 26)),
 Qo 28 (.fld (.t 27) 0),
 Qo 29 (.call 43 [(.t 28),(.c (.d (.str [59,10])))])] []))))))
noncomputable def Dc:Cx:=⟨Tryz.prog,42,Tryz.f42,30,[2,300008,300013,300023],[],[]⟩
theorem KM:Good Dc:=⟨Tryz.func42,by kernel_rfl⟩
theorem Q3:Dc.rs=[]:=rfl
theorem RF (hl:args.length≤30) (h:Run Dc K [.code KA] (Ao args) E σ):AQ Tryz.prog 42 args σ K:=
 AU (cx:=Dc) (code:=Tryz.f42.body.getD .skip) KM (by kernel_rfl) Tryz.ntmps42 hl (AY Dc _ (As KA) _ [] (by kernel_rfl)) h
def GF:C:=(.seq (.reg [Qo 4 (.mv (.c (.d (.int .i64 0)))),
 Qo 5 (.mv (.c .undef))] [0,1])
 (.seq (.reg [Qm 6 0,
 Qo 7 (.call 85 [(.t 6)])] [0,1])
 (.seq (.reg [Qm 8 0,
 Qm 9 0,
 Qo 10 (.nck (.t 9)),
 Qo 11 (.fld (.t 10) 1),
 Qo 12 (.ld (.t 11) none),
 Qm 13 1,
 Qo 14 (.ex (.apps 5) [(.t 12),(.t 13)]),
 Qo 15 (.nck (.t 8)),
 Qo 16 (.fld (.t 15) 1),
 ⟨none,.st (.t 16) (.t 14) 1,none⟩] [1])
 (.seq (.reg [Qm 17 1,
 Qo 18 (.Mm (.t 17)),
 Qm 4 18,
 Qo 5 (.mv (.c .undef))] [4,5])
 .ret))))
noncomputable def Br:Cx:=⟨Tryz.prog,43,Tryz.f43,19,[],[],[.t 4,.t 5]⟩
theorem GI:Good Br:=⟨Tryz.func43,by kernel_rfl⟩
theorem Kg:Br.rs=[.t 4,.t 5]:=rfl
theorem L2 (hl:args.length≤19) (h:Run Br K [.code GF] (Ao args) E σ):AQ Tryz.prog 43 args σ K:=
 AU (cx:=Br) (code:=Tryz.f43.body.getD .skip) GI (by kernel_rfl) Tryz.ntmps43 hl (AY Br _ (As GF) _ [] (by kernel_rfl)) h
def KB:C:=(.seq (.reg [Qo 4 (.box (.t 1) false)] [0,2,4])
 (.seq (.seq (.reg [Qo 9 (.ldl (.t 4) (some 6)),
 Qo 10 (.call 87 [(.t 9)]),
 Qm 11 2,
 Qo 12 (.bin .lss (.t 10) (.t 11))] [0,4,12])
 (.cond (.t 12) (.seq (.reg [Qm 13 0,
 Qo 14 (.ldl (.t 4) (some 6)),
 Qo 15 (.call 88 [(.t 13),(.t 14)])] [])
 .ret)
 .skip))
 (.seq (.reg [Qo 16 (.fld (.t 4) 0),
 Qo 17 (.ldl (.t 16) none)] [0,4,17])
 (.block 0 (.seq (.seq (.reg [Qo 22 (.bin .eql (.t 17) (.c (.d (.int .i64 7)))),
 Qm 21 22] [0,4,17,21])
 (.cond (.t 21) .skip
 (.seq (.reg [Qo 23 (.bin .eql (.t 17) (.c (.d (.int .i64 8)))),
 Qm 21 23] [0,4,17,21])
 (.cond (.t 21) .skip
 (.seq (.reg [Qo 24 (.bin .eql (.t 17) (.c (.d (.int .i64 9)))),
 Qm 21 24] [0,4,17,21])
 (.cond (.t 21) .skip
 (.seq (.reg [Qo 25 (.bin .eql (.t 17) (.c (.d (.int .i64 10)))),
 Qm 21 25] [0,4,17,21])
 (.cond (.t 21) .skip
 (.seq (.reg [Qo 26 (.bin .eql (.t 17) (.c (.d (.int .i64 11)))),
 Qm 21 26] [0,4,17,21])
 (.cond (.t 21) .skip
 (.reg [Qo 27 (.bin .eql (.t 17) (.c (.d (.int .i64 17)))),
 Qm 21 27] [0,4,17,21])))))))))))
 (.cond (.t 21) (.reg [Qm 28 0,
 Qo 29 (.ldl (.t 4) (some 6)),
 Qo 30 (.call 89 [(.t 28),(.t 29)])] [])
 (.seq (.reg [Qo 32 (.bin .eql (.t 17) (.c (.d (.int .i64 13)))),
 Qm 31 32] [0,4,17,31])
 (.cond (.t 31) (.seq (.reg [Qo 34 (.fld (.t 4) 2),
 Qo 35 (.ldl (.t 34) none),
 Qo 36 (.call 90 [(.t 35)]),
 Qm 33 36,
 Qo 37 (.ext (.t 33) 0),
 Qo 38 (.ext (.t 33) 1),
 Qm 6 37,
 Qm 7 38] [0,4,6,7])
 (.seq (.reg [Qm 39 0,
 Qo 40 (.fld (.t 4) 4),
 Qo 41 (.ldl (.t 40) none),
 Qo 42 (.ix (.t 41) (.c (.d (.int .i64 0))) 6),
 Qo 43 (.ld (.t 42) (some 6)),
 Qm 44 6,
 Qo 45 (.call 45 [(.t 39),(.t 43),(.t 44)])] [0,4,7])
 (.seq (.reg [Qm 46 0,
 Qo 47 (.nck (.t 46)),
 Qo 48 (.fld (.t 47) 0),
 Qo 49 (.fld (.t 4) 2),
 Qo 50 (.ldl (.t 49) none),
 Qo 51 (.call 91 [(.t 50)]),
 Qo 52 (.bin .add (.c (.d (.str [32]))) (.t 51)),
 Qo 53 (.bin .add (.t 52) (.c (.d (.str [32])))),
 Qo 54 (.call 43 [(.t 48),(.t 53)])] [0,4,7])
 (.reg [Qm 55 0,
 Qo 56 (.fld (.t 4) 4),
 Qo 57 (.ldl (.t 56) none),
 Qo 58 (.ix (.t 57) (.c (.d (.int .i64 1))) 6),
 Qo 59 (.ld (.t 58) (some 6)),
 Qm 60 7,
 Qo 61 (.call 45 [(.t 55),(.t 59),(.t 60)])] []))))
 (.seq (.reg [Qo 63 (.bin .eql (.t 17) (.c (.d (.int .i64 12)))),
 Qm 62 63] [0,4,62])
 (.cond (.t 62) (.seq (.seq (.reg [Qo 64 (.fld (.t 4) 4),
 Qo 65 (.ldl (.t 64) none),
 Qo 66 (.ix (.t 65) (.c (.d (.int .i64 0))) 6),
 Qo 67 (.ld (.t 66) (some 6)),
 Qo 8 (.al [(.d (.int .i64 0)),(.d (.str [])),(.d (.int .i64 0)),.AW,.AW,.AW] false),
 ⟨none,.st (.t 8) (.t 67) 6,none⟩] [0,4,8])
 (.seq (.reg [Qo 68 (.fld (.t 8) 0),
 Qo 69 (.ldl (.t 68) none),
 Qo 70 (.bin .eql (.t 69) (.c (.d (.int .i64 6)))),
 Qm 71 70,
 ⟨some 72,.fld (.t 8) 4,some (71,true)⟩,
 ⟨some 73,.ldl (.t 72) none,some (71,true)⟩,
 ⟨some 74,.len (.t 73),some (71,true)⟩,
 ⟨some 75,.bin .eql (.t 74) (.c (.d (.int .i64 0))),some (71,true)⟩,
 Qo 76 (.pick (.t 71) (.t 75) (.c (.d (.bool false))))] [0,4,8,76])
 (.cond (.t 76) (.reg [Qm 77 0,
 Qo 78 (.ldl (.t 8) (some 6)),
 Qo 79 (.call 88 [(.t 77),(.t 78)])] [0,4])
 (.reg [Qm 80 0,
 Qo 81 (.ldl (.t 8) (some 6)),
 Qo 82 (.call 45 [(.t 80),(.t 81),(.c (.d (.int .i64 4)))])] [0,4]))))
 (.reg [Qm 83 0,
 Qo 84 (.fld (.t 4) 4),
 Qo 85 (.ldl (.t 84) none),
 Qo 86 (.sls (.t 85) (some (.c (.d (.int .i64 1)))) none none 6),
 Qo 87 (.call 92 [(.t 83),(.t 86)])] []))
 (.reg [Qm 18 0,
 Qo 19 (.ldl (.t 4) (some 6)),
 Qo 20 (.call 93 [(.t 18),(.t 19)])] [])))))))))))
noncomputable def Dd:Cx:=⟨Tryz.prog,45,Tryz.f45,88,[300009,300014,300017,300029,300035,300041,300050,300057,300065,300069,300073,300078,300081,300085,300019],[],[]⟩
theorem Bc:Good Dd:=⟨Tryz.func45,by kernel_rfl⟩
theorem Q4:Dd.rs=[]:=rfl
theorem KS (hl:args.length≤88) (h:Run Dd K [.code KB] (Ao args) E σ):AQ Tryz.prog 45 args σ K:=
 AU (cx:=Dd) (code:=Tryz.f45.body.getD .skip) Bc (by kernel_rfl) Tryz.ntmps45 hl (AY Dd _ (As KB) _ [] (by kernel_rfl)) h
def Hp:C:=(.seq (.reg [Qo 2 (.mv (.c (.d (.str []))))] [0])
 (.seq (.reg [Qm 3 0,
 Qo 4 (.nck (.t 3)),
 Qo 5 (.fld (.t 4) 1),
 Qo 6 (.ld (.t 5) none),
 Qo 7 (.ex .usd [(.t 6)]),
 Qm 8 0,
 Qo 9 (.nck (.t 8)),
 Qo 10 (.fld (.t 9) 1),
 Qo 11 (.ld (.t 10) none),
 Qo 12 (.len (.t 11)),
 Qo 13 (.ex (.fH 5) [(.t 7),(.t 12)]),
 Qm 2 13] [2])
 .ret))
noncomputable def Ck:Cx:=⟨Tryz.prog,46,Tryz.f46,14,[],[],[.t 2]⟩
theorem Hy:Good Ck:=⟨Tryz.func46,by kernel_rfl⟩
theorem No:Ck.rs=[.t 2]:=rfl
theorem OV (hl:args.length≤14) (h:Run Ck K [.code Hp] (Ao args) E σ):AQ Tryz.prog 46 args σ K:=
 AU (cx:=Ck) (code:=Tryz.f46.body.getD .skip) Hy (by kernel_rfl) Tryz.ntmps46 hl (AY Ck _ (As Hp) _ [] (by kernel_rfl)) h
def Hu:C:=(.seq (.reg [Qm 6 1,
 Qo 7 (.len (.t 6)),
 Qo 8 (.bin .gtr (.t 7) (.c (.d (.int .i64 0))))] [0,1,2,8])
 (.cond (.t 8) (.seq (.reg [Qm 9 0,
 Qo 10 (.nck (.t 9)),
 Qo 11 (.fld (.t 10) 0),
 Qo 12 (.call 43 [(.t 11),(.c (.d (.str [40])))])] [0,1,2])
 (.seq (.reg [Qm 13 0,
 Qm 14 1,
 Qm 15 2,
 Qo 16 (.call 134 [(.t 13),(.c (.d (.str [44,32]))),(.t 14),(.t 15)])] [0])
 (.reg [Qm 17 0,
 Qo 18 (.nck (.t 17)),
 Qo 19 (.fld (.t 18) 0),
 Qo 20 (.call 43 [(.t 19),(.c (.d (.str [41])))])] [])))
 .skip))
noncomputable def Cp:Cx:=⟨Tryz.prog,79,Tryz.f79,21,[],[],[]⟩
theorem FZ:Good Cp:=⟨Tryz.func79,by kernel_rfl⟩
theorem Nt:Cp.rs=[]:=rfl
theorem O0 (hl:args.length≤21) (h:Run Cp K [.code Hu] (Ao args) E σ):AQ Tryz.prog 79 args σ K:=
 AU (cx:=Cp) (code:=Tryz.f79.body.getD .skip) FZ (by kernel_rfl) Tryz.ntmps79 hl (AY Cp _ (As Hu) _ [] (by kernel_rfl)) h
def KF:C:=(.reg [Qm 4 0,
 Qo 5 (.nck (.t 4)),
 Qo 6 (.fld (.t 5) 0),
 Qm 7 1,
 Qo 8 (.call 43 [(.t 6),(.t 7)])] [])
noncomputable def Di:Cx:=⟨Tryz.prog,80,Tryz.f80,9,[],[],[]⟩
theorem KQ:Good Di:=⟨Tryz.func80,by kernel_rfl⟩
theorem Q9:Di.rs=[]:=rfl
theorem RL (hl:args.length≤9) (h:Run Di K [.code KF] (Ao args) E σ):AQ Tryz.prog 80 args σ K:=
 AU (cx:=Di) (code:=Tryz.f80.body.getD .skip) KQ (by kernel_rfl) Tryz.ntmps80 hl (AY Di _ (As KF) _ [] (by kernel_rfl)) h
def Iw:C:=(.seq (.reg [Qo 13 (.bin .lss (.t 12) (.t 11))] [0,1,3,10,11,12,13])
 (.seq (.cond (.t 13) .skip
 (.exit 0))
 (.seq (.block 1 (.seq (.reg [Qm 14 12,
 Qo 15 (.ix (.t 10) (.t 12) 2),
 Qo 16 (.ld (.t 15) (some 2)),
 Qo 9 (.al [(.d (.str [])),.AW] false),
 Qm 8 14,
 ⟨none,.st (.t 9) (.t 16) 2,none⟩] [0,1,3,8,9,10,11,12])
 (.seq (.seq (.reg [Qm 17 8,
 Qo 18 (.bin .gtr (.t 17) (.c (.d (.int .i64 0))))] [0,1,3,9,10,11,12,18])
 (.cond (.t 18) (.reg [Qm 19 0,
 Qo 20 (.nck (.t 19)),
 Qo 21 (.fld (.t 20) 0),
 Qm 22 1,
 Qo 23 (.call 43 [(.t 21),(.t 22)])] [0,1,3,9,10,11,12])
 .skip))
 (.reg [Qm 24 3,
 Qo 25 (.ldl (.t 9) (some 2)),
 Qo 26 (.DI (.t 24) [(.t 25)])] [0,1,3,10,11,12]))))
 (.reg [Qo 27 (.bin .add (.t 12) (.c (.d (.int .i64 1)))),
 Qm 12 27] [0,1,3,10,11,12]))))
def Fi:C:=(.seq (.reg [Qm 10 2,
 Qo 11 (.len (.t 10)),
 Qo 12 (.mv (.c (.d (.int .i64 0))))] [0,1,3,10,11,12])
 (.block 0 (.loop Iw)))
noncomputable def Bj:Cx:=⟨Tryz.prog,81,Tryz.f81,28,[300025],[],[]⟩
theorem Fp:Good Bj:=⟨Tryz.func81,by kernel_rfl⟩
theorem Jt:Bj.rs=[]:=rfl
theorem K9 (hl:args.length≤28) (h:Run Bj K [.code Fi] (Ao args) E σ):AQ Tryz.prog 81 args σ K:=
 AU (cx:=Bj) (code:=Tryz.f81.body.getD .skip) Fp (by kernel_rfl) Tryz.ntmps81 hl (AY Bj _ (As Fi) _ [] (by kernel_rfl)) h
def If:C:=(.seq (.reg [Qo 2 (.box (.t 0) false)] [1,2])
 (.seq (.reg [Qo 3 (.ld (.t 1) none),
 Qo 4 (.nck (.t 3)),
 Qo 5 (.fld (.t 4) 0),
 Qo 6 (.fld (.t 2) 0),
 Qo 7 (.ldl (.t 6) none),
 Qo 8 (.call 43 [(.t 5),(.t 7)])] [1,2])
 (.reg [Qo 9 (.ld (.t 1) none),
 Qo 10 (.fld (.t 2) 1),
 Qo 11 (.ldl (.t 10) none),
 Qo 12 (.ld (.t 1) none),
 Qo 13 (.mkf 84 [(.t 12)] []),
 Qo 14 (.call 83 [(.t 9),(.t 11),(.t 13)])] [])))
noncomputable def DB:Cx:=⟨Tryz.prog,82,Tryz.f82,15,[300007,300011],[],[]⟩
theorem Im:Good DB:=⟨Tryz.func82,by kernel_rfl⟩
theorem Oa:DB.rs=[]:=rfl
theorem PB (hl:args.length≤15) (h:Run DB K [.code If] (Ao args) E σ):AQ Tryz.prog 82 args σ K:=
 AU (cx:=DB) (code:=Tryz.f82.body.getD .skip) Im (by kernel_rfl) Tryz.ntmps82 hl (AY DB _ (As If) _ [] (by kernel_rfl)) h
def Fg:C:=(.seq (.reg [Qm 6 1,
 Qo 7 (.len (.t 6)),
 Qo 8 (.bin .gtr (.t 7) (.c (.d (.int .i64 0))))] [0,1,2,8])
 (.cond (.t 8) (.seq (.reg [Qm 9 0,
 Qo 10 (.nck (.t 9)),
 Qo 11 (.fld (.t 10) 0),
 Qo 12 (.call 43 [(.t 11),(.c (.d (.str [40])))])] [0,1,2])
 (.seq (.reg [Qm 13 0,
 Qm 14 1,
 Qm 15 2,
 Qo 16 (.call 135 [(.t 13),(.c (.d (.str [44,32]))),(.t 14),(.t 15)])] [0])
 (.reg [Qm 17 0,
 Qo 18 (.nck (.t 17)),
 Qo 19 (.fld (.t 18) 0),
 Qo 20 (.call 43 [(.t 19),(.c (.d (.str [41])))])] [])))
 .skip))
noncomputable def Bg:Cx:=⟨Tryz.prog,83,Tryz.f83,21,[],[],[]⟩
theorem Dl:Good Bg:=⟨Tryz.func83,by kernel_rfl⟩
theorem Jr:Bg.rs=[]:=rfl
theorem K7 (hl:args.length≤21) (h:Run Bg K [.code Fg] (Ao args) E σ):AQ Tryz.prog 83 args σ K:=
 AU (cx:=Bg) (code:=Tryz.f83.body.getD .skip) Dl (by kernel_rfl) Tryz.ntmps83 hl (AY Bg _ (As Fg) _ [] (by kernel_rfl)) h
def LJ:C:=(.seq (.reg [Qo 3 (.box (.t 1) false)] [0,3])
 (.seq (.reg [Qo 5 (.fld (.t 3) 0),
 Qo 6 (.ldl (.t 5) none)] [0,3,6])
 (.block 0 (.seq (.reg [Qo 20 (.bin .eql (.t 6) (.c (.d (.int .i64 1)))),
 Qm 19 20] [0,3,6,19])
 (.cond (.t 19) (.reg [Qm 21 0,
 Qo 22 (.nck (.t 21)),
 Qo 23 (.fld (.t 22) 0),
 Qo 24 (.call 43 [(.t 23),(.c (.d (.str [105,110,116])))])] [])
 (.seq (.reg [Qo 26 (.bin .eql (.t 6) (.c (.d (.int .i64 2)))),
 Qm 25 26] [0,3,6,25])
 (.cond (.t 25) (.reg [Qm 27 0,
 Qo 28 (.nck (.t 27)),
 Qo 29 (.fld (.t 28) 0),
 Qo 30 (.call 43 [(.t 29),(.c (.d (.str [98,111,111,108])))])] [])
 (.seq (.reg [Qo 32 (.bin .eql (.t 6) (.c (.d (.int .i64 3)))),
 Qm 31 32] [0,3,6,31])
 (.cond (.t 31) (.reg [Qm 33 0,
 Qo 34 (.nck (.t 33)),
 Qo 35 (.fld (.t 34) 0),
 Qo 36 (.call 43 [(.t 35),(.c (.d (.str [117,110,105,116])))])] [])
 (.seq (.reg [Qo 38 (.bin .eql (.t 6) (.c (.d (.int .i64 7)))),
 Qm 37 38] [0,3,6,37])
 (.cond (.t 37) (.seq (.reg [Qm 39 0,
 Qo 40 (.nck (.t 39)),
 Qo 41 (.fld (.t 40) 0),
 Qo 42 (.call 43 [(.t 41),(.c (.d (.str [97,114,114,97,121])))])] [0,3])
 (.reg [Qm 43 0,
 Qo 44 (.fld (.t 3) 2),
 Qo 45 (.ldl (.t 44) none),
 Qm 46 0,
 Qo 47 (.mkf 84 [(.t 46)] []),
 Qo 48 (.call 83 [(.t 43),(.t 45),(.t 47)])] []))
 (.seq (.reg [Qo 50 (.bin .eql (.t 6) (.c (.d (.int .i64 8)))),
 Qm 49 50] [0,3,6,49])
 (.cond (.t 49) (.seq (.reg [Qm 51 0,
 Qo 52 (.nck (.t 51)),
 Qo 53 (.fld (.t 52) 0),
 Qo 54 (.call 43 [(.t 53),(.c (.d (.str [114,101,102])))])] [0,3])
 (.reg [Qm 55 0,
 Qo 56 (.fld (.t 3) 2),
 Qo 57 (.ldl (.t 56) none),
 Qm 58 0,
 Qo 59 (.mkf 84 [(.t 58)] []),
 Qo 60 (.call 83 [(.t 55),(.t 57),(.t 59)])] []))
 (.seq (.reg [Qo 62 (.bin .eql (.t 6) (.c (.d (.int .i64 9)))),
 Qm 61 62] [0,3,61])
 (.cond (.t 61) (.seq (.reg [Qo 63 (.fld (.t 3) 2),
 Qo 64 (.ldl (.t 63) none),
 Qo 65 (.len (.t 64)),
 Qo 66 (.bin .sub (.t 65) (.c (.d (.int .i64 1)))),
 Qm 4 66] [0,3,4])
 (.seq (.reg [Qm 67 0,
 Qo 68 (.nck (.t 67)),
 Qo 69 (.fld (.t 68) 0),
 Qo 70 (.call 43 [(.t 69),(.c (.d (.str [102,110,40])))])] [0,3,4])
 (.seq (.reg [Qm 71 0,
 Qo 72 (.fld (.t 3) 2),
 Qo 73 (.ldl (.t 72) none),
 Qm 74 4,
 Qo 75 (.sls (.t 73) none (some (.t 74)) none 3),
 Qm 76 0,
 Qo 77 (.mkf 84 [(.t 76)] []),
 Qo 78 (.call 135 [(.t 71),(.c (.d (.str [44,32]))),(.t 75),(.t 77)])] [0,3,4])
 (.seq (.reg [Qm 79 0,
 Qo 80 (.nck (.t 79)),
 Qo 81 (.fld (.t 80) 0),
 Qo 82 (.call 43 [(.t 81),(.c (.d (.str [41,32,45,62,32])))])] [0,3,4])
 (.reg [Qm 83 0,
 Qo 84 (.fld (.t 3) 2),
 Qo 85 (.ldl (.t 84) none),
 Qm 86 4,
 Qo 87 (.ix (.t 85) (.t 86) 3),
 Qo 88 (.ld (.t 87) (some 3)),
 Qo 89 (.call 84 [(.t 83),(.t 88)])] [])))))
 (.seq (.reg [Qm 7 0,
 Qo 8 (.nck (.t 7)),
 Qo 9 (.fld (.t 8) 0),
 Qo 10 (.fld (.t 3) 1),
 Qo 11 (.ldl (.t 10) none),
 Qo 12 (.call 43 [(.t 9),(.t 11)])] [0,3])
 (.reg [Qm 13 0,
 Qo 14 (.fld (.t 3) 2),
 Qo 15 (.ldl (.t 14) none),
 Qm 16 0,
 Qo 17 (.mkf 84 [(.t 16)] []),
 Qo 18 (.call 83 [(.t 13),(.t 15),(.t 17)])] [])))))))))))))))))
noncomputable def ES:Cx:=⟨Tryz.prog,84,Tryz.f84,90,[300006,300045,300057,300064,300073,300085,300011,300015],[],[]⟩
theorem Bo:Good ES:=⟨Tryz.func84,by kernel_rfl⟩
theorem R5:ES.rs=[]:=rfl
theorem SK (hl:args.length≤90) (h:Run ES K [.code LJ] (Ao args) E σ):AQ Tryz.prog 84 args σ K:=
 AU (cx:=ES) (code:=Tryz.f84.body.getD .skip) Bo (by kernel_rfl) Tryz.ntmps84 hl (AY ES _ (As LJ) _ [] (by kernel_rfl)) h
def Rn:C:=(.seq (.reg [Qo 1 (.box (.t 0) false),
 Qo 2 (.mv (.c (.d (.int .i64 0))))] [1])
 (.seq (.block 0 (.seq (.seq (.reg [Qo 4 (.fld (.t 1) 0),
 Qo 5 (.ldl (.t 4) none),
 Qo 6 (.bin .eql (.t 5) (.c (.d (.int .i64 7)))),
 Qm 3 6] [1,3])
 (.cond (.t 3) .skip
 (.seq (.reg [Qo 7 (.fld (.t 1) 0),
 Qo 8 (.ldl (.t 7) none),
 Qo 9 (.bin .eql (.t 8) (.c (.d (.int .i64 8)))),
 Qm 3 9] [1,3])
 (.cond (.t 3) .skip
 (.seq (.reg [Qo 10 (.fld (.t 1) 0),
 Qo 11 (.ldl (.t 10) none),
 Qo 12 (.bin .eql (.t 11) (.c (.d (.int .i64 9)))),
 Qm 3 12] [1,3])
 (.cond (.t 3) .skip
 (.seq (.reg [Qo 13 (.fld (.t 1) 0),
 Qo 14 (.ldl (.t 13) none),
 Qo 15 (.bin .eql (.t 14) (.c (.d (.int .i64 10)))),
 Qm 3 15] [1,3])
 (.cond (.t 3) .skip
 (.seq (.reg [Qo 16 (.fld (.t 1) 0),
 Qo 17 (.ldl (.t 16) none),
 Qo 18 (.bin .eql (.t 17) (.c (.d (.int .i64 11)))),
 Qm 3 18] [1,3])
 (.cond (.t 3) .skip
 (.reg [Qo 19 (.fld (.t 1) 0),
 Qo 20 (.ldl (.t 19) none),
 Qo 21 (.bin .eql (.t 20) (.c (.d (.int .i64 17)))),
 Qm 3 21] [1,3])))))))))))
 (.cond (.t 3) (.seq (.reg [Qo 2 (.mv (.c (.d (.int .i64 0))))] [2])
 .ret)
 (.seq (.reg [Qo 23 (.fld (.t 1) 0),
 Qo 24 (.ldl (.t 23) none),
 Qo 25 (.bin .eql (.t 24) (.c (.d (.int .i64 13)))),
 Qm 22 25] [1,22])
 (.cond (.t 22) (.seq (.reg [Qo 26 (.fld (.t 1) 2),
 Qo 27 (.ldl (.t 26) none),
 Qo 28 (.call 138 [(.t 27)]),
 Qm 2 28] [2])
 .ret)
 (.seq (.reg [Qo 30 (.fld (.t 1) 0),
 Qo 31 (.ldl (.t 30) none),
 Qo 32 (.bin .eql (.t 31) (.c (.d (.int .i64 12)))),
 Qm 29 32] [29])
 (.cond (.t 29) (.seq (.reg [Qo 2 (.mv (.c (.d (.int .i64 4))))] [2])
 .ret)
 .skip)))))))
 (.seq (.reg [Qo 2 (.mv (.c (.d (.int .i64 5))))] [2])
 .ret)))
noncomputable def H2:Cx:=⟨Tryz.prog,87,Tryz.f87,33,[300005,300008,300011,300014,300017,300020,300024,300027,300031],[],[.t 2]⟩
theorem HJ:Good H2:=⟨Tryz.func87,by kernel_rfl⟩
theorem XD:H2.rs=[.t 2]:=rfl
theorem YC (hl:args.length≤33) (h:Run H2 K [.code Rn] (Ao args) E σ):AQ Tryz.prog 87 args σ K:=
 AU (cx:=H2) (code:=Tryz.f87.body.getD .skip) HJ (by kernel_rfl) Tryz.ntmps87 hl (AY H2 _ (As Rn) _ [] (by kernel_rfl)) h
def Fh:C:=(.seq (.reg [Qo 3 (.box (.t 1) false)] [0,3])
 (.seq (.reg [Qm 4 0,
 Qo 5 (.nck (.t 4)),
 Qo 6 (.fld (.t 5) 0),
 Qo 7 (.call 43 [(.t 6),(.c (.d (.str [40])))])] [0,3])
 (.seq (.reg [Qm 8 0,
 Qo 9 (.ldl (.t 3) (some 6)),
 Qo 10 (.call 139 [(.t 8),(.t 9)])] [0])
 (.reg [Qm 11 0,
 Qo 12 (.nck (.t 11)),
 Qo 13 (.fld (.t 12) 0),
 Qo 14 (.call 43 [(.t 13),(.c (.d (.str [41])))])] []))))
noncomputable def Bi:Cx:=⟨Tryz.prog,88,Tryz.f88,15,[300009],[],[]⟩
theorem Fo:Good Bi:=⟨Tryz.func88,by kernel_rfl⟩
theorem Js:Bi.rs=[]:=rfl
theorem K8 (hl:args.length≤15) (h:Run Bi K [.code Fh] (Ao args) E σ):AQ Tryz.prog 88 args σ K:=
 AU (cx:=Bi) (code:=Tryz.f88.body.getD .skip) Fo (by kernel_rfl) Tryz.ntmps88 hl (AY Bi _ (As Fh) _ [] (by kernel_rfl)) h
def Qw:C:=(.seq (.reg [Qo 2 (.box (.t 0) true),
 Qo 3 (.box (.t 1) false)] [2,3])
 (.seq (.reg [Qo 4 (.fld (.t 3) 0),
 Qo 5 (.ldl (.t 4) none)] [2,3,5])
 (.block 0 (.seq (.seq (.reg [Qo 7 (.bin .eql (.t 5) (.c (.d (.int .i64 7)))),
 Qm 6 7] [2,3,5,6])
 (.cond (.t 6) .skip
 (.reg [Qo 8 (.bin .eql (.t 5) (.c (.d (.int .i64 8)))),
 Qm 6 8] [2,3,5,6])))
 (.cond (.t 6) (.seq (.reg [Qo 9 (.ld (.t 2) none),
 Qo 10 (.nck (.t 9)),
 Qo 11 (.fld (.t 10) 0),
 Qo 12 (.call 43 [(.t 11),(.c (.d (.str [108,101,116,32])))])] [2,3])
 (.seq (.seq (.reg [Qo 13 (.fld (.t 3) 0),
 Qo 14 (.ldl (.t 13) none),
 Qo 15 (.bin .eql (.t 14) (.c (.d (.int .i64 7))))] [2,3,15])
 (.cond (.t 15) (.reg [Qo 16 (.ld (.t 2) none),
 Qo 17 (.fld (.t 3) 1),
 Qo 18 (.ldl (.t 17) none),
 Qo 19 (.call 140 [(.t 16),(.t 18)])] [2,3])
 (.reg [Qo 20 (.ld (.t 2) none),
 Qo 21 (.fld (.t 3) 3),
 Qo 22 (.ldl (.t 21) none),
 Qo 23 (.ld (.t 2) none),
 Qo 24 (.mkf 140 [(.t 23)] []),
 Qo 25 (.call 79 [(.t 20),(.t 22),(.t 24)])] [2,3])))
 (.reg [Qo 26 (.ld (.t 2) none),
 Qo 27 (.fld (.t 3) 4),
 Qo 28 (.ldl (.t 27) none),
 Qo 29 (.ix (.t 28) (.c (.d (.int .i64 0))) 6),
 Qo 30 (.ld (.t 29) (some 6)),
 Qo 31 (.fld (.t 3) 4),
 Qo 32 (.ldl (.t 31) none),
 Qo 33 (.ix (.t 32) (.c (.d (.int .i64 1))) 6),
 Qo 34 (.ld (.t 33) (some 6)),
 Qo 35 (.call 141 [(.t 26),(.c (.d (.str [32,61,32]))),(.t 30),(.c (.d (.str [32,105,110,32]))),(.t 34),(.c (.d (.str [])))])] [])))
 (.seq (.reg [Qo 37 (.bin .eql (.t 5) (.c (.d (.int .i64 9)))),
 Qm 36 37] [2,3,5,36])
 (.cond (.t 36) (.seq (.reg [Qo 38 (.ld (.t 2) none),
 Qo 39 (.fld (.t 3) 4),
 Qo 40 (.ldl (.t 39) none),
 Qo 41 (.ix (.t 40) (.c (.d (.int .i64 0))) 6),
 Qo 42 (.ld (.t 41) (some 6)),
 Qo 43 (.fld (.t 3) 4),
 Qo 44 (.ldl (.t 43) none),
 Qo 45 (.ix (.t 44) (.c (.d (.int .i64 1))) 6),
 Qo 46 (.ld (.t 45) (some 6)),
 Qo 47 (.call 141 [(.t 38),(.c (.d (.str [105,102,32]))),(.t 42),(.c (.d (.str [32,116,104,101,110,32]))),(.t 46),(.c (.d (.str [32,101,108,115,101,32])))])] [2,3])
 (.reg [Qo 48 (.ld (.t 2) none),
 Qo 49 (.fld (.t 3) 4),
 Qo 50 (.ldl (.t 49) none),
 Qo 51 (.ix (.t 50) (.c (.d (.int .i64 2))) 6),
 Qo 52 (.ld (.t 51) (some 6)),
 Qo 53 (.call 139 [(.t 48),(.t 52)])] []))
 (.seq (.reg [Qo 55 (.bin .eql (.t 5) (.c (.d (.int .i64 10)))),
 Qm 54 55] [2,3,5,54])
 (.cond (.t 54) (.seq (.reg [Qo 56 (.ld (.t 2) none),
 Qo 57 (.nck (.t 56)),
 Qo 58 (.fld (.t 57) 0),
 Qo 59 (.call 43 [(.t 58),(.c (.d (.str [109,97,116,99,104,32])))])] [2,3])
 (.seq (.reg [Qo 60 (.ld (.t 2) none),
 Qo 61 (.fld (.t 3) 4),
 Qo 62 (.ldl (.t 61) none),
 Qo 63 (.ix (.t 62) (.c (.d (.int .i64 0))) 6),
 Qo 64 (.ld (.t 63) (some 6)),
 Qo 65 (.call 139 [(.t 60),(.t 64)])] [2,3])
 (.seq (.reg [Qo 66 (.ld (.t 2) none),
 Qo 67 (.nck (.t 66)),
 Qo 68 (.fld (.t 67) 0),
 Qo 69 (.call 43 [(.t 68),(.c (.d (.str [32,119,105,116,104,32])))])] [2,3])
 (.seq (.reg [Qo 70 (.ld (.t 2) none),
 Qo 71 (.fld (.t 3) 5),
 Qo 72 (.ldl (.t 71) none),
 Qo 73 (.mkf 143 [] [(.t 2)]),
 Qo 74 (.call 142 [(.t 70),(.c (.d (.str [32,124,32]))),(.t 72),(.t 73)])] [2])
 (.reg [Qo 75 (.ld (.t 2) none),
 Qo 76 (.nck (.t 75)),
 Qo 77 (.fld (.t 76) 0),
 Qo 78 (.call 43 [(.t 77),(.c (.d (.str [32,101,110,100])))])] [])))))
 (.seq (.reg [Qo 80 (.bin .eql (.t 5) (.c (.d (.int .i64 11)))),
 Qm 79 80] [2,3,5,79])
 (.cond (.t 79) (.seq (.SZ (.one (Qo 84 (.fld (.t 3) 3))
 (.one (Qo 85 (.ldl (.t 84) none))
 (.alt (Qo 81 (.ld (.t 2) none))
 (.one (Qo 82 (.nck (.t 81)))
 (.one (Qo 83 (.fld (.t 82) 0))
 (.one (Qo 86 (.call 44 [(.t 85),(.c (.d (.str [44,32])))]))
 (.one (Qo 87 (.bin .add (.c (.d (.str [102,110,40]))) (.t 86)))
 (.one (Qo 88 (.bin .add (.t 87) (.c (.d (.str [41,32,45,62,32])))))
 (.one (Qo 89 (.call 43 [(.t 83),(.t 88)]))
 .done))))))
 (.alt (Qo 86 (.call 44 [(.t 85),(.c (.d (.str [44,32])))]))
 (.one (Qo 81 (.ld (.t 2) none))
 (.one (Qo 82 (.nck (.t 81)))
 (.one (Qo 83 (.fld (.t 82) 0))
 (.one (Qo 87 (.bin .add (.c (.d (.str [102,110,40]))) (.t 86)))
 (.one (Qo 88 (.bin .add (.t 87) (.c (.d (.str [41,32,45,62,32])))))
 (.one (Qo 89 (.call 43 [(.t 83),(.t 88)]))
 .done))))))
 .done)))) [2,3])
 (.reg [Qo 90 (.ld (.t 2) none),
 Qo 91 (.fld (.t 3) 4),
 Qo 92 (.ldl (.t 91) none),
 Qo 93 (.ix (.t 92) (.c (.d (.int .i64 0))) 6),
 Qo 94 (.ld (.t 93) (some 6)),
 Qo 95 (.call 139 [(.t 90),(.t 94)])] []))
 (.seq (.reg [Qo 97 (.bin .eql (.t 5) (.c (.d (.int .i64 17)))),
 Qm 96 97] [2,3,96])
 (.cond (.t 96) (.seq (.reg [Qo 98 (.ld (.t 2) none),
 Qo 99 (.nck (.t 98)),
 Qo 100 (.fld (.t 99) 0),
 Qo 101 (.call 43 [(.t 100),(.c (.d (.str [116,114,121,32])))])] [2,3])
 (.seq (.reg [Qo 102 (.ld (.t 2) none),
 Qo 103 (.fld (.t 3) 4),
 Qo 104 (.ldl (.t 103) none),
 Qo 105 (.ix (.t 104) (.c (.d (.int .i64 0))) 6),
 Qo 106 (.ld (.t 105) (some 6)),
 Qo 107 (.call 139 [(.t 102),(.t 106)])] [2,3])
 (.seq (.reg [Qo 108 (.ld (.t 2) none),
 Qo 109 (.nck (.t 108)),
 Qo 110 (.fld (.t 109) 0),
 Qo 111 (.call 43 [(.t 110),(.c (.d (.str [32,99,97,116,99,104,32])))])] [2,3])
 (.seq (.reg [Qo 112 (.ld (.t 2) none),
 Qo 113 (.fld (.t 3) 1),
 Qo 114 (.ldl (.t 113) none),
 Qo 115 (.call 140 [(.t 112),(.t 114)])] [2,3])
 (.seq (.reg [Qo 116 (.ld (.t 2) none),
 Qo 117 (.nck (.t 116)),
 Qo 118 (.fld (.t 117) 0),
 Qo 119 (.call 43 [(.t 118),(.c (.d (.str [32,45,62,32])))])] [2,3])
 (.seq (.reg [Qo 120 (.ld (.t 2) none),
 Qo 121 (.fld (.t 3) 4),
 Qo 122 (.ldl (.t 121) none),
 Qo 123 (.ix (.t 122) (.c (.d (.int .i64 1))) 6),
 Qo 124 (.ld (.t 123) (some 6)),
 Qo 125 (.call 139 [(.t 120),(.t 124)])] [2])
 (.reg [Qo 126 (.ld (.t 2) none),
 Qo 127 (.nck (.t 126)),
 Qo 128 (.fld (.t 127) 0),
 Qo 129 (.call 43 [(.t 128),(.c (.d (.str [32,101,110,100])))])] [])))))))
 .skip)))))))))))))
def R9:List (List Nat×PT):=[([2,3],.done),([2,3,5],.done),([2,3,5,6],.done),([2,3,5,6],.done),([2,3],.done),([2,3,15],.done),([2,3],.done),([2,3],.done),([],.done),([2,3,5,36],.done),([2,3],.done),([],.done),([2,3,5,54],.done),([2,3],.done),([2,3],.done),([2,3],.done),([2],.done),([],.done),([2,3,5,79],.done),([2,3],(.one 3 (.one 4 (.alt 0 (.one 1 (.one 2 (.one 5 (.one 6 (.one 7 (.one 8 .done)))))) (.alt 5 (.one 0 (.one 1 (.one 2 (.one 6 (.one 7 (.one 8 .done)))))) .done))))),([],.done),([2,3,96],.done),([2,3],.done),([2,3],.done),([2,3],.done),([2,3],.done),([2,3],.done),([2],.done),([],.done)]
noncomputable def Df:Cx:=⟨Tryz.prog,89,Tryz.f89,130,[2,300005,300014,300018,300022,300028,300032,300040,300044,300050,300062,300072,300085,300092,300104,300114,300122],[],[]⟩
theorem CD:Good Df:=⟨Tryz.func89,by kernel_rfl⟩
theorem Q6:Df.rs=[]:=rfl
theorem RH (hl:args.length≤130) (h:Run Df K [.code Qw] (Ao args) E σ):AQ Tryz.prog 89 args σ K:=
 AU (cx:=Df) (code:=Tryz.f89.body.getD .skip) CD (by kernel_rfl) Tryz.ntmps89 hl (AY Df _ R9 _ [] (by kernel_rfl)) h
def JH:C:=(.seq (.reg [Qo 2 (.mv (.c (.d (.int .i64 0)))),
 Qo 3 (.mv (.c (.d (.int .i64 0))))] [0])
 (.seq (.reg [Qm 5 0,
 Qo 6 (.call 138 [(.t 5)]),
 Qm 4 6] [4])
 (.seq (.seq (.reg [Qm 7 4,
 Qo 8 (.bin .eql (.t 7) (.c (.d (.int .i64 1))))] [4,8])
 (.cond (.t 8) (.seq (.reg [Qo 2 (.mv (.c (.d (.int .i64 2)))),
 Qo 3 (.mv (.c (.d (.int .i64 2))))] [2,3])
 .ret)
 .skip))
 (.seq (.reg [Qm 9 4,
 Qm 10 4,
 Qo 11 (.bin .add (.t 10) (.c (.d (.int .i64 1)))),
 Qm 2 9,
 Qm 3 11] [2,3])
 .ret))))
noncomputable def DU:Cx:=⟨Tryz.prog,90,Tryz.f90,12,[],[],[.t 2,.t 3]⟩
theorem JY:Good DU:=⟨Tryz.func90,by kernel_rfl⟩
theorem PW:DU.rs=[.t 2,.t 3]:=rfl
theorem QG (hl:args.length≤12) (h:Run DU K [.code JH] (Ao args) E σ):AQ Tryz.prog 90 args σ K:=
 AU (cx:=DU) (code:=Tryz.f90.body.getD .skip) JY (by kernel_rfl) Tryz.ntmps90 hl (AY DU _ (As JH) _ [] (by kernel_rfl)) h
def KC:C:=(.seq (.reg [Qm 4 0,
 Qo 5 (.nck (.t 4)),
 Qo 6 (.fld (.t 5) 0),
 Qo 7 (.call 43 [(.t 6),(.c (.d (.str [40])))])] [0,1])
 (.seq (.reg [Qm 8 0,
 Qm 9 1,
 Qm 10 0,
 Qo 11 (.mkf 139 [(.t 10)] []),
 Qo 12 (.call 144 [(.t 8),(.c (.d (.str [44,32]))),(.t 9),(.t 11)])] [0])
 (.reg [Qm 13 0,
 Qo 14 (.nck (.t 13)),
 Qo 15 (.fld (.t 14) 0),
 Qo 16 (.call 43 [(.t 15),(.c (.d (.str [41])))])] [])))
noncomputable def De:Cx:=⟨Tryz.prog,92,Tryz.f92,17,[],[],[]⟩
theorem KN:Good De:=⟨Tryz.func92,by kernel_rfl⟩
theorem Q5:De.rs=[]:=rfl
theorem RG (hl:args.length≤17) (h:Run De K [.code KC] (Ao args) E σ):AQ Tryz.prog 92 args σ K:=
 AU (cx:=De) (code:=Tryz.f92.body.getD .skip) KN (by kernel_rfl) Tryz.ntmps92 hl (AY De _ (As KC) _ [] (by kernel_rfl)) h
def KE:C:=(.seq (.reg [Qo 3 (.box (.t 1) false)] [0,3])
 (.seq (.reg [Qo 6 (.fld (.t 3) 0),
 Qo 7 (.ldl (.t 6) none)] [0,3,7])
 (.block 0 (.seq (.reg [Qo 21 (.bin .eql (.t 7) (.c (.d (.int .i64 1)))),
 Qm 20 21] [0,3,7,20])
 (.cond (.t 20) (.reg [Qm 22 0,
 Qo 23 (.nck (.t 22)),
 Qo 24 (.fld (.t 23) 0),
 Qo 25 (.call 43 [(.t 24),(.c (.d (.str [40,41])))])] [])
 (.seq (.reg [Qo 27 (.bin .eql (.t 7) (.c (.d (.int .i64 2)))),
 Qm 26 27] [0,3,7,26])
 (.cond (.t 26) (.reg [Qm 28 0,
 Qo 29 (.nck (.t 28)),
 Qo 30 (.fld (.t 29) 0),
 Qo 31 (.fld (.t 3) 2),
 Qo 32 (.ldl (.t 31) none),
 Qo 33 (.bin .eql (.t 32) (.c (.d (.int .i64 1)))),
 Qo 34 (.call 145 [(.t 33)]),
 Qo 35 (.call 43 [(.t 30),(.t 34)])] [])
 (.seq (.reg [Qo 37 (.bin .eql (.t 7) (.c (.d (.int .i64 3)))),
 Qm 36 37] [0,3,7,36])
 (.cond (.t 36) (.reg [Qm 38 0,
 Qo 39 (.nck (.t 38)),
 Qo 40 (.fld (.t 39) 0),
 Qo 41 (.fld (.t 3) 2),
 Qo 42 (.ldl (.t 41) none),
 Qo 43 (.call 146 [(.t 42),(.c (.d (.int .i64 10)))]),
 Qo 44 (.call 43 [(.t 40),(.t 43)])] [])
 (.seq (.reg [Qo 46 (.bin .eql (.t 7) (.c (.d (.int .i64 5)))),
 Qm 45 46] [0,3,7,45])
 (.cond (.t 45) (.reg [Qm 47 0,
 Qo 48 (.fld (.t 3) 4),
 Qo 49 (.ldl (.t 48) none),
 Qo 50 (.call 92 [(.t 47),(.t 49)])] [])
 (.seq (.reg [Qo 52 (.bin .eql (.t 7) (.c (.d (.int .i64 14)))),
 Qm 51 52] [0,3,7,51])
 (.cond (.t 51) (.seq (.reg [Qo 54 (.fld (.t 3) 2),
 Qo 55 (.ldl (.t 54) none),
 Qo 56 (.call 147 [(.t 55)]),
 Qm 53 56,
 Qo 57 (.ext (.t 53) 0),
 Qo 58 (.ext (.t 53) 1),
 Qm 4 57,
 Qm 5 58] [0,3,4])
 (.seq (.reg [Qm 59 0,
 Qo 60 (.nck (.t 59)),
 Qo 61 (.fld (.t 60) 0),
 Qm 62 4,
 Qo 63 (.call 43 [(.t 61),(.t 62)])] [0,3])
 (.reg [Qm 64 0,
 Qo 65 (.fld (.t 3) 4),
 Qo 66 (.ldl (.t 65) none),
 Qo 67 (.call 92 [(.t 64),(.t 66)])] [])))
 (.seq (.reg [Qo 69 (.bin .eql (.t 7) (.c (.d (.int .i64 16)))),
 Qm 68 69] [0,3,7,68])
 (.cond (.t 68) (.seq (.reg [Qm 70 0,
 Qo 71 (.nck (.t 70)),
 Qo 72 (.fld (.t 71) 0),
 Qo 73 (.call 43 [(.t 72),(.c (.d (.str [114,97,105,115,101])))])] [0,3])
 (.reg [Qm 74 0,
 Qo 75 (.fld (.t 3) 4),
 Qo 76 (.ldl (.t 75) none),
 Qo 77 (.call 92 [(.t 74),(.t 76)])] []))
 (.seq (.reg [Qo 79 (.bin .eql (.t 7) (.c (.d (.int .i64 15)))),
 Qm 78 79] [0,3,78])
 (.cond (.t 78) (.reg [Qm 80 0,
 Qo 81 (.nck (.t 80)),
 Qo 82 (.fld (.t 81) 0),
 Qo 83 (.fld (.t 3) 2),
 Qo 84 (.ldl (.t 83) none),
 Qo 85 (.call 146 [(.t 84),(.c (.d (.int .i64 10)))]),
 Qo 86 (.bin .add (.c (.d (.str [116,105,99,107,40]))) (.t 85)),
 Qo 87 (.bin .add (.t 86) (.c (.d (.str [41])))),
 Qo 88 (.call 43 [(.t 82),(.t 87)])] [])
 (.seq (.reg [Qm 8 0,
 Qo 9 (.nck (.t 8)),
 Qo 10 (.fld (.t 9) 0),
 Qo 11 (.fld (.t 3) 1),
 Qo 12 (.ldl (.t 11) none),
 Qo 13 (.call 43 [(.t 10),(.t 12)])] [0,3])
 (.reg [Qm 14 0,
 Qo 15 (.fld (.t 3) 4),
 Qo 16 (.ldl (.t 15) none),
 Qm 17 0,
 Qo 18 (.mkf 139 [(.t 17)] []),
 Qo 19 (.call 148 [(.t 14),(.t 16),(.t 18)])] [])))))))))))))))))))
noncomputable def Dh:Cx:=⟨Tryz.prog,93,Tryz.f93,89,[300007,300032,300042,300049,300055,300066,300076,300084,300012,300016],[],[]⟩
theorem BH:Good Dh:=⟨Tryz.func93,by kernel_rfl⟩
theorem Q8:Dh.rs=[]:=rfl
theorem RK (hl:args.length≤89) (h:Run Dh K [.code KE] (Ao args) E σ):AQ Tryz.prog 93 args σ K:=
 AU (cx:=Dh) (code:=Tryz.f93.body.getD .skip) BH (by kernel_rfl) Tryz.ntmps93 hl (AY Dh _ (As KE) _ [] (by kernel_rfl)) h
def Ln:C:=(.seq (.reg [Qo 13 (.bin .lss (.t 12) (.t 11))] [0,1,3,10,11,12,13])
 (.seq (.cond (.t 13) .skip
 (.exit 0))
 (.seq (.block 1 (.seq (.reg [Qm 14 12,
 Qo 15 (.ix (.t 10) (.t 12) 1),
 Qo 16 (.ld (.t 15) none),
 Qm 8 14,
 Qm 9 16] [0,1,3,8,9,10,11,12])
 (.seq (.seq (.reg [Qm 17 8,
 Qo 18 (.bin .gtr (.t 17) (.c (.d (.int .i64 0))))] [0,1,3,9,10,11,12,18])
 (.cond (.t 18) (.reg [Qm 19 0,
 Qo 20 (.nck (.t 19)),
 Qo 21 (.fld (.t 20) 0),
 Qm 22 1,
 Qo 23 (.call 43 [(.t 21),(.t 22)])] [0,1,3,9,10,11,12])
 .skip))
 (.reg [Qm 24 3,
 Qm 25 9,
 Qo 26 (.DI (.t 24) [(.t 25)])] [0,1,3,10,11,12]))))
 (.reg [Qo 27 (.bin .add (.t 12) (.c (.d (.int .i64 1)))),
 Qm 12 27] [0,1,3,10,11,12]))))
def He:C:=(.seq (.reg [Qm 10 2,
 Qo 11 (.len (.t 10)),
 Qo 12 (.mv (.c (.d (.int .i64 0))))] [0,1,3,10,11,12])
 (.block 0 (.loop Ln)))
noncomputable def Cd:Cx:=⟨Tryz.prog,134,Tryz.f134,28,[],[],[]⟩
theorem Hh:Good Cd:=⟨Tryz.func134,by kernel_rfl⟩
theorem N5:Cd.rs=[]:=rfl
theorem Nn (hl:args.length≤28) (h:Run Cd K [.code He] (Ao args) E σ):AQ Tryz.prog 134 args σ K:=
 AU (cx:=Cd) (code:=Tryz.f134.body.getD .skip) Hh (by kernel_rfl) Tryz.ntmps134 hl (AY Cd _ (As He) _ [] (by kernel_rfl)) h
def IY:C:=(.seq (.reg [Qo 13 (.bin .lss (.t 12) (.t 11))] [0,1,3,10,11,12,13])
 (.seq (.cond (.t 13) .skip
 (.exit 0))
 (.seq (.block 1 (.seq (.reg [Qm 14 12,
 Qo 15 (.ix (.t 10) (.t 12) 3),
 Qo 16 (.ld (.t 15) (some 3)),
 Qo 9 (.al [(.d (.int .i64 0)),(.d (.str [])),.AW] false),
 Qm 8 14,
 ⟨none,.st (.t 9) (.t 16) 3,none⟩] [0,1,3,8,9,10,11,12])
 (.seq (.seq (.reg [Qm 17 8,
 Qo 18 (.bin .gtr (.t 17) (.c (.d (.int .i64 0))))] [0,1,3,9,10,11,12,18])
 (.cond (.t 18) (.reg [Qm 19 0,
 Qo 20 (.nck (.t 19)),
 Qo 21 (.fld (.t 20) 0),
 Qm 22 1,
 Qo 23 (.call 43 [(.t 21),(.t 22)])] [0,1,3,9,10,11,12])
 .skip))
 (.reg [Qm 24 3,
 Qo 25 (.ldl (.t 9) (some 3)),
 Qo 26 (.DI (.t 24) [(.t 25)])] [0,1,3,10,11,12]))))
 (.reg [Qo 27 (.bin .add (.t 12) (.c (.d (.int .i64 1)))),
 Qm 12 27] [0,1,3,10,11,12]))))
def F8:C:=(.seq (.reg [Qm 10 2,
 Qo 11 (.len (.t 10)),
 Qo 12 (.mv (.c (.d (.int .i64 0))))] [0,1,3,10,11,12])
 (.block 0 (.loop IY)))
noncomputable def Ba:Cx:=⟨Tryz.prog,135,Tryz.f135,28,[300025],[],[]⟩
theorem F9:Good Ba:=⟨Tryz.func135,by kernel_rfl⟩
theorem Jc:Ba.rs=[]:=rfl
theorem Jm (hl:args.length≤28) (h:Run Ba K [.code F8] (Ao args) E σ):AQ Tryz.prog 135 args σ K:=
 AU (cx:=Ba) (code:=Tryz.f135.body.getD .skip) F9 (by kernel_rfl) Tryz.ntmps135 hl (AY Ba _ (As F8) _ [] (by kernel_rfl)) h
def KD:C:=(.seq (.reg [Qo 3 (.box (.t 1) false)] [0,3])
 (.reg [Qm 4 0,
 Qo 5 (.ldl (.t 3) (some 6)),
 Qo 6 (.call 45 [(.t 4),(.t 5),(.c (.d (.int .i64 0)))])] []))
noncomputable def Dg:Cx:=⟨Tryz.prog,139,Tryz.f139,7,[300005],[],[]⟩
theorem KO:Good Dg:=⟨Tryz.func139,by kernel_rfl⟩
theorem Q7:Dg.rs=[]:=rfl
theorem RJ (hl:args.length≤7) (h:Run Dg K [.code KD] (Ao args) E σ):AQ Tryz.prog 139 args σ K:=
 AU (cx:=Dg) (code:=Tryz.f139.body.getD .skip) KO (by kernel_rfl) Tryz.ntmps139 hl (AY Dg _ (As KD) _ [] (by kernel_rfl)) h
def Jz:C:=(.seq (.seq (.reg [Qm 4 1,
 Qo 5 (.bin .eql (.t 4) (.c (.d (.str []))))] [0,1,5])
 (.cond (.t 5) (.reg [Qo 1 (.mv (.c (.d (.str [95]))))] [0,1])
 .skip))
 (.reg [Qm 6 0,
 Qo 7 (.nck (.t 6)),
 Qo 8 (.fld (.t 7) 0),
 Qm 9 1,
 Qo 10 (.call 43 [(.t 8),(.t 9)])] []))
noncomputable def Db:Cx:=⟨Tryz.prog,140,Tryz.f140,11,[],[],[]⟩
theorem Gc:Good Db:=⟨Tryz.func140,by kernel_rfl⟩
theorem Q2:Db.rs=[]:=rfl
theorem RE (hl:args.length≤11) (h:Run Db K [.code Jz] (Ao args) E σ):AQ Tryz.prog 140 args σ K:=
 AU (cx:=Db) (code:=Tryz.f140.body.getD .skip) Gc (by kernel_rfl) Tryz.ntmps140 hl (AY Db _ (As Jz) _ [] (by kernel_rfl)) h
def JP:C:=(.seq (.reg [Qo 8 (.box (.t 2) false),
 Qo 10 (.box (.t 4) false)] [0,1,3,5,8,10])
 (.seq (.reg [Qm 12 0,
 Qo 13 (.nck (.t 12)),
 Qo 14 (.fld (.t 13) 0),
 Qm 15 1,
 Qo 16 (.call 43 [(.t 14),(.t 15)])] [0,3,5,8,10])
 (.seq (.reg [Qm 17 0,
 Qo 18 (.ldl (.t 8) (some 6)),
 Qo 19 (.call 139 [(.t 17),(.t 18)])] [0,3,5,10])
 (.seq (.reg [Qm 20 0,
 Qo 21 (.nck (.t 20)),
 Qo 22 (.fld (.t 21) 0),
 Qm 23 3,
 Qo 24 (.call 43 [(.t 22),(.t 23)])] [0,5,10])
 (.seq (.reg [Qm 25 0,
 Qo 26 (.ldl (.t 10) (some 6)),
 Qo 27 (.call 139 [(.t 25),(.t 26)])] [0,5])
 (.reg [Qm 28 0,
 Qo 29 (.nck (.t 28)),
 Qo 30 (.fld (.t 29) 0),
 Qm 31 5,
 Qo 32 (.call 43 [(.t 30),(.t 31)])] []))))))
noncomputable def D1:Cx:=⟨Tryz.prog,141,Tryz.f141,33,[300018,300026],[],[]⟩
theorem J0:Good D1:=⟨Tryz.func141,by kernel_rfl⟩
theorem P2:D1.rs=[]:=rfl
theorem QL (hl:args.length≤33) (h:Run D1 K [.code JP] (Ao args) E σ):AQ Tryz.prog 141 args σ K:=
 AU (cx:=D1) (code:=Tryz.f141.body.getD .skip) J0 (by kernel_rfl) Tryz.ntmps141 hl (AY D1 _ (As JP) _ [] (by kernel_rfl)) h
def LK:C:=(.seq (.reg [Qo 13 (.bin .lss (.t 12) (.t 11))] [0,1,3,10,11,12,13])
 (.seq (.cond (.t 13) .skip
 (.exit 0))
 (.seq (.block 1 (.seq (.reg [Qm 14 12,
 Qo 15 (.ix (.t 10) (.t 12) 8),
 Qo 16 (.ld (.t 15) (some 8)),
 Qo 9 (.al [(.d (.str [])),.AW,(.d (.int .i64 0)),(.d (.str [])),(.d (.int .i64 0)),.AW,.AW,.AW] false),
 Qm 8 14,
 ⟨none,.st (.t 9) (.t 16) 8,none⟩] [0,1,3,8,9,10,11,12])
 (.seq (.seq (.reg [Qm 17 8,
 Qo 18 (.bin .gtr (.t 17) (.c (.d (.int .i64 0))))] [0,1,3,9,10,11,12,18])
 (.cond (.t 18) (.reg [Qm 19 0,
 Qo 20 (.nck (.t 19)),
 Qo 21 (.fld (.t 20) 0),
 Qm 22 1,
 Qo 23 (.call 43 [(.t 21),(.t 22)])] [0,1,3,9,10,11,12])
 .skip))
 (.reg [Qm 24 3,
 Qo 25 (.ldl (.t 9) (some 8)),
 Qo 26 (.DI (.t 24) [(.t 25)])] [0,1,3,10,11,12]))))
 (.reg [Qo 27 (.bin .add (.t 12) (.c (.d (.int .i64 1)))),
 Qm 12 27] [0,1,3,10,11,12]))))
def HC:C:=(.seq (.reg [Qm 10 2,
 Qo 11 (.len (.t 10)),
 Qo 12 (.mv (.c (.d (.int .i64 0))))] [0,1,3,10,11,12])
 (.block 0 (.loop LK)))
noncomputable def C0:Cx:=⟨Tryz.prog,142,Tryz.f142,28,[300025],[],[]⟩
theorem HP:Good C0:=⟨Tryz.func142,by kernel_rfl⟩
theorem Mj:C0.rs=[]:=rfl
theorem NT (hl:args.length≤28) (h:Run C0 K [.code HC] (Ao args) E σ):AQ Tryz.prog 142 args σ K:=
 AU (cx:=C0) (code:=Tryz.f142.body.getD .skip) HP (by kernel_rfl) Tryz.ntmps142 hl (AY C0 _ (As HC) _ [] (by kernel_rfl)) h
def Ig:C:=(.seq (.reg [Qo 2 (.box (.t 0) false)] [1,2])
 (.seq (.reg [Qo 3 (.ld (.t 1) none),
 Qo 4 (.nck (.t 3)),
 Qo 5 (.fld (.t 4) 0),
 Qo 6 (.fld (.t 2) 0),
 Qo 7 (.ldl (.t 6) none),
 Qo 8 (.call 43 [(.t 5),(.t 7)])] [1,2])
 (.seq (.reg [Qo 9 (.ld (.t 1) none),
 Qo 10 (.fld (.t 2) 1),
 Qo 11 (.ldl (.t 10) none),
 Qo 12 (.ld (.t 1) none),
 Qo 13 (.mkf 140 [(.t 12)] []),
 Qo 14 (.call 79 [(.t 9),(.t 11),(.t 13)])] [1,2])
 (.seq (.reg [Qo 15 (.ld (.t 1) none),
 Qo 16 (.nck (.t 15)),
 Qo 17 (.fld (.t 16) 0),
 Qo 18 (.call 43 [(.t 17),(.c (.d (.str [32,45,62,32])))])] [1,2])
 (.reg [Qo 19 (.ld (.t 1) none),
 Qo 20 (.fld (.t 2) 2),
 Qo 21 (.ldl (.t 20) (some 6)),
 Qo 22 (.call 139 [(.t 19),(.t 21)])] [])))))
noncomputable def DC:Cx:=⟨Tryz.prog,143,Tryz.f143,23,[300007,300011,300021],[],[]⟩
theorem Io:Good DC:=⟨Tryz.func143,by kernel_rfl⟩
theorem Ob:DC.rs=[]:=rfl
theorem PD (hl:args.length≤23) (h:Run DC K [.code Ig] (Ao args) E σ):AQ Tryz.prog 143 args σ K:=
 AU (cx:=DC) (code:=Tryz.f143.body.getD .skip) Io (by kernel_rfl) Tryz.ntmps143 hl (AY DC _ (As Ig) _ [] (by kernel_rfl)) h
def K0:C:=(.seq (.reg [Qo 13 (.bin .lss (.t 12) (.t 11))] [0,1,3,10,11,12,13])
 (.seq (.cond (.t 13) .skip
 (.exit 0))
 (.seq (.block 1 (.seq (.reg [Qm 14 12,
 Qo 15 (.ix (.t 10) (.t 12) 6),
 Qo 16 (.ld (.t 15) (some 6)),
 Qo 9 (.al [(.d (.int .i64 0)),(.d (.str [])),(.d (.int .i64 0)),.AW,.AW,.AW] false),
 Qm 8 14,
 ⟨none,.st (.t 9) (.t 16) 6,none⟩] [0,1,3,8,9,10,11,12])
 (.seq (.seq (.reg [Qm 17 8,
 Qo 18 (.bin .gtr (.t 17) (.c (.d (.int .i64 0))))] [0,1,3,9,10,11,12,18])
 (.cond (.t 18) (.reg [Qm 19 0,
 Qo 20 (.nck (.t 19)),
 Qo 21 (.fld (.t 20) 0),
 Qm 22 1,
 Qo 23 (.call 43 [(.t 21),(.t 22)])] [0,1,3,9,10,11,12])
 .skip))
 (.reg [Qm 24 3,
 Qo 25 (.ldl (.t 9) (some 6)),
 Qo 26 (.DI (.t 24) [(.t 25)])] [0,1,3,10,11,12]))))
 (.reg [Qo 27 (.bin .add (.t 12) (.c (.d (.int .i64 1)))),
 Qm 12 27] [0,1,3,10,11,12]))))
def Gi:C:=(.seq (.reg [Qm 10 2,
 Qo 11 (.len (.t 10)),
 Qo 12 (.mv (.c (.d (.int .i64 0))))] [0,1,3,10,11,12])
 (.block 0 (.loop K0)))
noncomputable def CM:Cx:=⟨Tryz.prog,144,Tryz.f144,28,[300025],[],[]⟩
theorem Gn:Good CM:=⟨Tryz.func144,by kernel_rfl⟩
theorem MB:CM.rs=[]:=rfl
theorem Ma (hl:args.length≤28) (h:Run CM K [.code Gi] (Ao args) E σ):AQ Tryz.prog 144 args σ K:=
 AU (cx:=CM) (code:=Tryz.f144.body.getD .skip) Gn (by kernel_rfl) Tryz.ntmps144 hl (AY CM _ (As Gi) _ [] (by kernel_rfl)) h
def HB:C:=(.seq (.reg [Qm 6 1,
 Qo 7 (.len (.t 6)),
 Qo 8 (.bin .gtr (.t 7) (.c (.d (.int .i64 0))))] [0,1,2,8])
 (.cond (.t 8) (.seq (.reg [Qm 9 0,
 Qo 10 (.nck (.t 9)),
 Qo 11 (.fld (.t 10) 0),
 Qo 12 (.call 43 [(.t 11),(.c (.d (.str [40])))])] [0,1,2])
 (.seq (.reg [Qm 13 0,
 Qm 14 1,
 Qm 15 2,
 Qo 16 (.call 144 [(.t 13),(.c (.d (.str [44,32]))),(.t 14),(.t 15)])] [0])
 (.reg [Qm 17 0,
 Qo 18 (.nck (.t 17)),
 Qo 19 (.fld (.t 18) 0),
 Qo 20 (.call 43 [(.t 19),(.c (.d (.str [41])))])] [])))
 .skip))
noncomputable def CZ:Cx:=⟨Tryz.prog,148,Tryz.f148,21,[],[],[]⟩
theorem Eo:Good CZ:=⟨Tryz.func148,by kernel_rfl⟩
theorem Mi:CZ.rs=[]:=rfl
theorem NS (hl:args.length≤21) (h:Run CZ K [.code HB] (Ao args) E σ):AQ Tryz.prog 148 args σ K:=
 AU (cx:=CZ) (code:=Tryz.f148.body.getD .skip) Eo (by kernel_rfl) Tryz.ntmps148 hl (AY CZ _ (As HB) _ [] (by kernel_rfl)) h
attribute [go_sem] WM Q3 Kg Q4 No Nt Q9 Jt Oa Jr R5 XD Js Q6 PW Q5 Q8 N5 Jc Q7 Q2 P2 Mj Ob MB Mi
end Go.Ab
