/- The law ScopeCalls over abstract values. The given statement ScopeCalls: for every input the law returns true. Conditions: none. -/
import Derived.Test.YtlckhmkeihbhmaaGreatRows
import Derived.Test.YtlckhmkeihbhmaaGreatXWm
set_option linter.unusedSimpArgs false
set_option linter.unusedVariables false
set_option maxRecDepth 4000
set_option maxHeartbeats 8000000
open List renaming map_cons→AI,map_nil→AO,mem_cons→Bf
namespace Go.Ab
open Go.Proofs
def awP:Pg:=⟨[],[⟨[102],[],.mk 4 [103] 0 [] [] []⟩]⟩
theorem kB:My awP=(3,0,0):=by decide+kernel
theorem Ur (σ:AF):AM Tryz.prog 14 [] σ (fun v σ'=>v= .d (.bool true)∧σ'=σ):=by
 have hc:=Ou awP σ (fun d hd=>by cases hd)
 rw [kB] at hc
 refine WB (by simp) ?_
 rw [show BP []=U from by funext s;simp [BP,U]]
 simp only [pgA,awP,Pg.enc,FE.enc,Ex.A7,AI,AO,dgA] at hc
 have hc':AM Tryz.prog 18 [.agg [.AY,.d (.sl [[.str [102],.sl [],.int .i64 4,.str [103],.int .i64 0,.sl [],.sl [],.sl []]])]] σ (fun v σ'=>v= .agg [.d (.int .i64 3),.d (.int .i64 0),.d (.int .i64 0)]∧σ'=σ):=
  AM.plain (by simp only [AV.DM,Ij,NR,Gc];exact hc)
 (repeat' (first|refine Run.ct rfl ?_|((first|refine Run.reg mixed ?_|refine Run.AD ?_|refine Run.A1 QE (AF.le_refl _) ?_|refine AJ.det (hc') ?_)<;>try simp -implicitDefEqProofs only [go_sem])|fail))
theorem Vl (p:Pg) (σ:AF):AM Tryz.prog 3 [pgA p] σ (fun v σ'=>v= .d (.bool true)∧σ'=σ):=by
 have hk:=X7 p σ
 refine Q8 (by simp) ?_
 rw [Bg]
 obtain ⟨ds,fs⟩:=p
 simp only [pgA,Pg.enc,AI,AO] at hk ⊢
 (repeat' (first|refine Run.ct rfl ?_|((first|refine Run.reg mixed ?_|refine Run.AD ?_|(refine AJ.mk rfl hk ?_;rintro _ σ ⟨b,⟨rfl,rfl⟩,hb⟩;cases b)|(refine Run.A1 HO (AF.le_refl _) ?_))<;>try simp -implicitDefEqProofs only [go_sem])|fail))
 have hsm:=hb rfl
 have hsd:∀d∈(⟨ds,fs⟩:Pg).data,Gd d:=fun d hd c hc t ht=>by have:=((hsm.1.2 d hd).2.2.2 c hc).2.2 t ht;omega
 have hcl:=Ot ⟨ds,fs⟩ σ hsd
 have hcl2:=TK ⟨ds,fs⟩ σ hsd
 have hgr:=Tp ⟨ds,fs⟩ σ hsd
 have hgr2:=Xh ⟨ds,fs⟩ σ hsd
 have haw:=Ur σ
 have hsr:=M5 (Ey ⟨ds,fs⟩) (Ey ⟨ds,fs⟩) σ
 rw [show (Ey ⟨ds,fs⟩==Ey ⟨ds,fs⟩)=true by simp] at hsr
 have hsr2:=M5 (KB ⟨ds,fs⟩) (KB ⟨ds,fs⟩) σ
 rw [show (KB ⟨ds,fs⟩==KB ⟨ds,fs⟩)=true by simp] at hsr2
 generalize Ey ⟨ds,fs⟩=cl at hcl hcl2 hsr
 generalize KB ⟨ds,fs⟩=gr at hgr hgr2 hsr2
 simp only [pgA,Pg.enc,AI,AO] at hcl hcl2 hgr hgr2
 (repeat' (first|refine Run.ct rfl ?_|((first|refine Run.reg mixed ?_|refine Run.AD ?_|(refine Run.A1 HO (AF.le_refl _) ?_)|refine AJ.det (hcl) ?_|refine AJ.det (hcl2) ?_|refine AJ.det (hgr) ?_|refine AJ.det (hgr2) ?_|refine AJ.det (hsr) ?_|refine AJ.det (hsr2) ?_|refine AJ.det (haw) ?_)<;>try simp -implicitDefEqProofs only [go_sem])|fail))
end Go.Ab
namespace Go.Ab
open Go.Proofs
theorem To (av:List AV) (h:Sn Tryz.prog [25] av):AM Tryz.prog 3 av bC (fun v _=>v= .d (.bool true)):=by
 obtain ⟨p,rfl⟩:=kA h
 exact (Vl p bC).mono (fun _ _ h=>h.1)
end Go.Ab
namespace Go.Proofs.YtlckhmkeihbhmaaGreat
open Go.ChangeShapes Go.WideShapes Go.ChangeAt Go.RowKit
theorem Tryz.own:ownKnob Tryz.prog.godebug=none:=by kernel_rfl
theorem Tryz.laidOut:laidOutB Tryz.prog=true:=by kernel_rfl
set_option maxRecDepth 100000 in
theorem Rr (os:Os) (started:os.Started) (H:Type) (enc:TypeId×Value→H):
 ReturnsInHanded {} Tryz.checked os 3 .any (Rows.scopeCallsSpec.pre6 enc Tryz.prog Tryz.f3 Rows.scopeCallsRow.domain false) (Rows.scopeCallsSpec.post enc Tryz.prog Tryz.f3 false true false false):=by
 refine returnsInHanded_of_change (C:=Tryz.checked) Tryz.own started (by kernel_rfl) Tryz.func3
  (ChangeSpec.witness6 (enc:=enc) (C:=Tryz.checked) false ⟨#[],#[.agg #[.slice none 0 0,.slice none 0 0]],[]⟩ 8 (by kernel_rfl) (by kernel_rfl) (by kernel_rfl) (by kernel_rfl)) ?_
 intro W base args ds gs before hval hW _ _
 refine Go.Ab.X9 (P:=Tryz.prog) [25,22,68,9,38,66,72,70,74,3,23,44,42,2,39,40,129] Tryz.laidOut (by kernel_rfl) ?_ ?_ (tb:=4) (by kernel_rfl) Tryz.underlying4 rfl ?_ ?_ W base args ds gs before hval hW
 · rw [Tryz.params3];simp
 · rw [Tryz.params3]
   intro t ht
   simp only [Bf,List.not_mem_nil,or_false] at ht
   subst ht
   exact ⟨by kernel_rfl,of_decide_eq_true (by kernel_rfl)⟩
 · rw [Tryz.params3]
   intro ds hd
   match ds,hd with
   |[d0],_=>rfl
 · rw [Tryz.params3]
   exact Go.Ab.To
theorem scopeCalls_holds:Rows.ScopeCallsSaid:=
 OpenClaim.holds_of_wide 3 Tryz.f3 rfl rfl rfl rfl rfl rfl rfl ⟨rfl,rfl,rfl,rfl,rfl⟩ rfl rfl rfl rfl rfl (by kernel_rfl) Tryz.func3 (by kernel_rfl)
  (of_decide_eq_true (by kernel_rfl)) (by unfold Func.isWrapper;first|(rw [if_pos (by decide+kernel)];kernel_rfl)|(rw [if_neg (by decide+kernel)];exact ⟨rfl,rfl⟩))
  (fun os started H enc _=>Rr os started H enc)
end Go.Proofs.YtlckhmkeihbhmaaGreat
#print axioms Go.Proofs.YtlckhmkeihbhmaaGreat.scopeCalls_holds
