/- The compact codes of the functions of this seat, computed out of the translation. The law ScopeRenames over abstract values. Conditions: none. -/
import Derived.Test.YtlckhmkeihbhmaaProg
import Derived.KernelRfl
import Derived.Test.YtlckhmkeihbhmaaXXg
set_option linter.unusedSimpArgs false
namespace Go.Ab
open Go.Proofs
variable {args : List AV} {σ : Heap} {K : AV → Heap → Prop}
def c_law05_ScopeRenames : C := (.seq (.reg [⟨some 1,.box (.t 0) false,none⟩,
 ⟨some 2,.mv (.c (.d (.bool false))),none⟩] [1])
 (.seq (.seq (.reg [⟨some 4,.ldl (.t 1) (some 2),none⟩,
 ⟨some 5,.call 4 [(.t 4)],none⟩,
 ⟨some 6,.un .not (.t 5),none⟩,
 ⟨some 7,.mv (.t 6),none⟩,
 ⟨some 8,.ldl (.t 1) (some 2),some (7,false)⟩,
 ⟨some 9,.call 5 [(.t 8)],some (7,false)⟩,
 ⟨some 10,.un .not (.t 9),some (7,false)⟩,
 ⟨some 11,.pick (.t 7) (.c (.d (.bool true))) (.t 10),none⟩,
 ⟨some 12,.mv (.t 11),none⟩,
 ⟨some 13,.ldl (.t 1) (some 2),some (12,false)⟩,
 ⟨some 14,.call 6 [(.t 13),(.c (.d (.int .i64 23)))],some (12,false)⟩,
 ⟨some 15,.pick (.t 12) (.c (.d (.bool true))) (.t 14),none⟩] [1,15])
 (.cond (.t 15) (.seq (.reg [⟨some 2,.mv (.c (.d (.bool true))),none⟩] [2])
 .ret)
 .skip))
 (.seq (.reg [⟨some 16,.ldl (.t 1) (some 2),none⟩,
 ⟨some 17,.call 7 [(.t 16),(.c (.d (.str [81])))],none⟩,
 ⟨some 3,.al [.nils,.nils] false,none⟩,
 ⟨none,.st (.t 3) (.t 17) 2,none⟩] [1,3])
 (.seq (.reg [⟨some 18,.ldl (.t 1) (some 2),none⟩,
 ⟨some 20,.ldl (.t 3) (some 2),none⟩,
 ⟨some 19,.call 8 [(.t 18)],none⟩,
 ⟨some 21,.call 8 [(.t 20)],none⟩,
 ⟨some 22,.steq false 3 (.t 19) (.t 21),none⟩,
 ⟨some 23,.mv (.t 22),none⟩,
 ⟨some 24,.ldl (.t 1) (some 2),some (23,true)⟩,
 ⟨some 26,.ldl (.t 3) (some 2),some (23,true)⟩,
 ⟨some 25,.call 10 [(.t 24)],some (23,true)⟩,
 ⟨some 27,.call 10 [(.t 26)],some (23,true)⟩,
 ⟨some 28,.call 9 [(.t 25),(.t 27)],some (23,true)⟩,
 ⟨some 29,.pick (.t 23) (.t 28) (.c (.d (.bool false))),none⟩,
 ⟨some 30,.mv (.t 29),none⟩,
 ⟨some 31,.call 11 [],some (30,true)⟩,
 ⟨some 32,.pick (.t 30) (.t 31) (.c (.d (.bool false))),none⟩,
 ⟨some 2,.mv (.t 32),none⟩] [2])
 .ret))))
def t_law05_ScopeRenames : List (List Nat × PT) := [([1],.done),([1,15],.done),([2],.done),([1,3],.done),([2],(.one 0 (.one 2 (.one 1 (.one 3 (.one 4 (.one 5 (.one 6 (.one 8 (.one 7 (.one 9 (.one 10 (.one 11 (.one 12 (.one 13 (.one 14 (.one 15 .done)))))))))))))))))]
noncomputable def x_law05_ScopeRenames : Cx := ⟨Try.prog,3,Try.f3,33,[300004,300008,300013,300016,300018,300020,300024,300026],[],[.t 2]⟩
theorem g_law05_ScopeRenames : Good x_law05_ScopeRenames := ⟨Try.func3,by kernel_rfl⟩
theorem rs_law05_ScopeRenames : x_law05_ScopeRenames.rs = [.t 2] := rfl
theorem i_law05_ScopeRenames (hl : args.length ≤ 33) (h : Run x_law05_ScopeRenames K [.code c_law05_ScopeRenames] (argF args) E σ) : ACalls Try.prog 3 args σ K :=
  acalls_of (cx := x_law05_ScopeRenames) (code := Try.f3.body.getD .skip) g_law05_ScopeRenames (by kernel_rfl) Try.ntmps3 hl (compC_rc x_law05_ScopeRenames _ t_law05_ScopeRenames _ [] (by kernel_rfl)) h
def c_law05_awake : C := (.seq (.reg [⟨some 0,.mv (.c (.d (.bool false))),none⟩] [])
 (.seq (.reg [⟨some 2,.bld [(.d (.int .i64 0)),(.d (.str [])),(.d (.int .i64 0)),.nils,.nils,.nils] [(0,1,(.c (.d (.int .i64 4)))),(1,1,(.c (.d (.str [103]))))],none⟩,
 ⟨some 3,.bld [(.d (.str [])),.nils,(.d (.int .i64 0)),(.d (.str [])),(.d (.int .i64 0)),.nils,.nils,.nils] [(0,1,(.c (.d (.str [102])))),(2,6,(.t 2))],none⟩,
 ⟨some 4,.bsl 8 1 [(.d (.str [])),.nils,(.d (.int .i64 0)),(.d (.str [])),(.d (.int .i64 0)),.nils,.nils,.nils] [(0,8,(.t 3))],none⟩,
 ⟨some 5,.bld [.nils,.nils] [(1,1,(.t 4))],none⟩,
 ⟨some 1,.al [.nils,.nils] false,none⟩,
 ⟨none,.st (.t 1) (.t 5) 2,none⟩] [1])
 (.seq (.reg [⟨some 6,.ldl (.t 1) (some 2),none⟩,
 ⟨some 7,.call 8 [(.t 6)],none⟩,
 ⟨some 8,.bld [(.d (.int .i64 0)),(.d (.int .i64 0)),(.d (.int .i64 0))] [(0,1,(.c (.d (.int .i64 3))))],none⟩,
 ⟨some 9,.steq false 3 (.t 7) (.t 8),none⟩,
 ⟨some 0,.mv (.t 9),none⟩] [0])
 .ret)))
noncomputable def x_law05_awake : Cx := ⟨Try.prog,11,Try.f11,10,[300006],[],[.t 0]⟩
theorem g_law05_awake : Good x_law05_awake := ⟨Try.func11,by kernel_rfl⟩
theorem rs_law05_awake : x_law05_awake.rs = [.t 0] := rfl
theorem i_law05_awake (hl : args.length ≤ 10) (h : Run x_law05_awake K [.code c_law05_awake] (argF args) E σ) : ACalls Try.prog 11 args σ K :=
  acalls_of (cx := x_law05_awake) (code := Try.f11.body.getD .skip) g_law05_awake (by kernel_rfl) Try.ntmps11 hl (compC_rc x_law05_awake _ (ctOf c_law05_awake) _ [] (by kernel_rfl)) h
attribute [go_sem] rs_law05_ScopeRenames rs_law05_awake
end Go.Ab

namespace Go.Ab
open Go.Proofs
def awP : Pg := ⟨[], [⟨[102], [], .mk 4 [103] 0 [] [] []⟩]⟩
theorem awP_chk : chkP awP = (3, 0, 0) := by decide +kernel
theorem law05_awake_ok (σ : Heap) : ACalls Try.prog 11 [] σ (fun v σ' => v = .d (.bool true) ∧ σ' = σ) := by
  have hc := scope_Check_ok awP σ (fun d hd => by cases hd)
  rw [awP_chk] at hc
  refine i_law05_awake (by simp) ?_
  rw [show argF [] = U from by funext s; simp [argF, U]]
  simp only [pgA, awP, Pg.enc, FE.enc, Ex.enc_mk, List.map_cons, List.map_nil, dgA] at hc
  have hc' : ACalls Try.prog 8 [.agg [.nils, .d (.sl [[.str [102], .sl [], .int .i64 4, .str [103], .int .i64 0, .sl [], .sl [], .sl []]])]] σ (fun v σ' => v = .agg [.d (.int .i64 3), .d (.int .i64 0), .d (.int .i64 0)] ∧ σ' = σ) :=
    ACalls.plain (by simp only [AV.plains, plain_agg, plain_nils, plain_d]; exact hc)
  (repeat' (first|refine Run.ct rfl ?_|((first|refine Run.reg mixed ?_|refine Run.condM ?_|refine Run.retP g_law05_awake (Heap.le_refl _) ?_|refine XCall.det (hc') ?_|(refine xo_gs rfl (fun h => ?_) (fun h => ?_) <;> try (cases h; done))) <;> try simp -implicitDefEqProofs only [go_sem, Nat.reduceEqDiff, Nat.reduceBEq, Nat.reduceAdd, Nat.reduceLeDiff, reduceIte, reduceCtorEq])|(refine ⟨fun h => ?_, fun h => ?_⟩ <;> first|(cases h; done)|try simp only [h])|fail))
set_option maxRecDepth 4000 in
set_option maxHeartbeats 8000000 in
theorem ScopeRenames_ok (p : Pg) (σ : Heap) : ACalls Try.prog 3 [pgA p] σ (fun v σ' => v = .d (.bool true) ∧ σ' = σ) := by
  have hk := keep_Prog_ok p σ
  refine i_law05_ScopeRenames (by simp) ?_
  rw [argF_1]
  obtain ⟨ds, fs⟩ := p
  simp only [pgA, Pg.enc, List.map_cons, List.map_nil] at hk ⊢
  (repeat' (first|refine Run.ct rfl ?_|((first|refine Run.reg mixed ?_|refine Run.condM ?_|(refine XCall.mk rfl hk ?_; rintro _ σ ⟨b, ⟨rfl, rfl⟩, hb⟩; cases b)|(refine Run.retP g_law05_ScopeRenames (Heap.le_refl _) ?_)|(refine xo_gs rfl (fun h => ?_) (fun h => ?_) <;> try (cases h; done))) <;> try simp -implicitDefEqProofs only [go_sem, Nat.reduceEqDiff, Nat.reduceBEq, Nat.reduceAdd, Nat.reduceLeDiff, reduceIte, reduceCtorEq])|(refine ⟨fun h => ?_, fun h => ?_⟩ <;> first|(cases h; done)|try simp only [h])|fail))
  have hsm := hb rfl
  have hsd : ∀ d ∈ (⟨ds, fs⟩ : Pg).data, smallDE d := fun d hd c hc t ht => by have := ((hsm.1.2 d hd).2.2.2 c hc).2.2 t ht; omega
  have hval := r4_Valid_ok ⟨ds, fs⟩ σ hsd
  have hlg := keep_Long_ok ⟨ds, fs⟩ 23 σ
  have hren := keep_Renamed_ok ⟨ds, fs⟩ hsm σ
  have hck := scope_Check_ok ⟨ds, fs⟩ σ hsd
  have hcl := scope_Calls_ok ⟨ds, fs⟩ σ hsd
  have hsd2 : ∀ d ∈ (Pg.ren ⟨ds, fs⟩).data, smallDE d := fun d hd => by
    obtain ⟨d', hd', rfl⟩ := List.mem_map.1 hd
    exact smallDE_ren (hsd d' hd')
  have hck2 := scope_Check_ok (Pg.ren ⟨ds, fs⟩) σ hsd2
  have hcl2 := scope_Calls_ok (Pg.ren ⟨ds, fs⟩) σ hsd2
  have haw := law05_awake_ok σ
  simp only [pgA, Pg.enc, List.map_cons, List.map_nil] at hval hlg
  cases hv : validB ⟨ds, fs⟩ with
  | false =>
    rw [hv] at hval
    (repeat' (first|refine Run.ct rfl ?_|((first|refine Run.reg mixed ?_|refine Run.condM ?_|(refine Run.retP g_law05_ScopeRenames (Heap.le_refl _) ?_)|refine XCall.det (hval) ?_|(refine xo_gs rfl (fun h => ?_) (fun h => ?_) <;> try (cases h; done))) <;> try simp -implicitDefEqProofs only [go_sem, Nat.reduceEqDiff, Nat.reduceBEq, Nat.reduceAdd, Nat.reduceLeDiff, reduceIte, reduceCtorEq])|(refine ⟨fun h => ?_, fun h => ?_⟩ <;> first|(cases h; done)|try simp only [h])|fail))
  | true =>
  rw [hv] at hval
  (repeat' (first|refine Run.ct rfl ?_|((first|refine Run.reg mixed ?_|refine Run.condM ?_|(refine XCall.mk rfl hlg ?_; rintro _ σ ⟨b, ⟨rfl, rfl⟩, hb2⟩; cases b)|(refine Run.retP g_law05_ScopeRenames (Heap.le_refl _) ?_)|refine XCall.det (hval) ?_|(refine xo_gs rfl (fun h => ?_) (fun h => ?_) <;> try (cases h; done))) <;> try simp -implicitDefEqProofs only [go_sem, Nat.reduceEqDiff, Nat.reduceBEq, Nat.reduceAdd, Nat.reduceLeDiff, reduceIte, reduceCtorEq])|(refine ⟨fun h => ?_, fun h => ?_⟩ <;> first|(cases h; done)|try simp only [h])|fail))
  have hsh := hb2 rfl
  have hsr := keep_SameRows_ok (callsP ⟨ds, fs⟩) (callsP ⟨ds, fs⟩) σ
  rw [show (callsP ⟨ds, fs⟩ == callsP ⟨ds, fs⟩) = true by simp] at hsr
  rw [chkP_ren hv hsh] at hck2
  rw [callsP_ren hv hsh] at hcl2
  generalize chkP ⟨ds, fs⟩ = g at hck hck2
  obtain ⟨g1, g2, g3⟩ := g
  generalize callsP ⟨ds, fs⟩ = cl at hcl hcl2 hsr
  simp only [pgA, Pg.enc, Pg.ren, List.map_cons, List.map_nil, dgA] at hren hck hck2 hcl hcl2
  (repeat' (first|refine Run.ct rfl ?_|((first|refine Run.reg mixed ?_|refine Run.condM ?_|(refine Run.retP g_law05_ScopeRenames (Heap.le_refl _) ?_)|refine XCall.det (hren) ?_|refine XCall.det (hck) ?_|refine XCall.det (hck2) ?_|refine XCall.det (hcl) ?_|refine XCall.det (hcl2) ?_|refine XCall.det (hsr) ?_|refine XCall.det (haw) ?_|(refine xo_gs rfl (fun h => ?_) (fun h => ?_) <;> try (cases h; done))) <;> try simp -implicitDefEqProofs only [beq_self_eq_true, Bool.and_self, go_sem, Nat.reduceEqDiff, Nat.reduceBEq, Nat.reduceAdd, Nat.reduceLeDiff, reduceIte, reduceCtorEq])|(refine ⟨fun h => ?_, fun h => ?_⟩ <;> first|(cases h; done)|try simp only [h])|fail))
end Go.Ab
