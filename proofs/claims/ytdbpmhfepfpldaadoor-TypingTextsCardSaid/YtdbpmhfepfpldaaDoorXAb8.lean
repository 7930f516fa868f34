/- Every operation that only yields a value does in the model what it does at the abstract level. Conditions: none. -/
import Derived.Test.YtdbpmhfepfpldaaDoorXAb7
set_option linter.unusedSimpArgs false
set_option linter.unusedVariables false
namespace Go.Ab
open Go.RowKit

variable {P : Program} {σ : Heap} {F : Fm} {L : Lm}

theorem execOp_v {ρ : Operand → Value} {o : Oper} {s : Sem Value} (h : execOp ρ o = (do pure (.value (← s)) : Sem Next)) {w w' : World} {x : Value} (hs : s.run P w = .ok x w') :
    (execOp ρ o).run P w = .ok (.value x) w' := by rw [h]; simp [hs]

theorem call_sound {dst : Option Tmp} {c : Call} {ty : TypeId} {pos : String} {after : Array Edge} {guard : Option (Nat × Bool)} {co : O} {v : AV} {sh : Bool} (hc : compCall P sh c = some co) (hv : pv F L σ co = some v) :
    VOp P ⟨dst, .call c, ty, pos, after, guard⟩ F L σ v := by
  obtain ⟨callee, args, argTypes⟩ := c
  obtain ⟨args⟩ := args
  obtain ⟨argTypes⟩ := argTypes
  unfold compCall at hc
  cases callee with
  | invoke r m => cases hc
  | value f =>
    cases f <;> simp only at hc
    · simp only [Option.map_eq_some_iff] at hc
      obtain ⟨xs, _, rfl⟩ := hc
      simp [pv] at hv
    · cases hc
    · cases hc
    · split at hc
      · simp only [Option.map_eq_some_iff] at hc
        obtain ⟨xs, _, rfl⟩ := hc
        simp [pv] at hv
      · cases hc
  | builtin b =>
    simp only at hc
    unfold compB at hc
    split at hc
    · rename_i x t
      cases hu : P.underlying t with
      | none => rw [hu] at hc; cases hc
      | some d =>
        rw [hu] at hc
        cases d <;> try (cases hc; done)
        · simp only [Option.map_eq_some_iff] at hc
          obtain ⟨xx, hx, rfl⟩ := hc
          exact .same fun base g lam Pr N a w0 w h => by
            obtain ⟨u, hz, hs⟩ := slen_sound (P := P) (w := w) hu ty (xo_sound hx h) hv
            exact ⟨u, by simp [execOp, resolve, invoke, builtin, hz], hs⟩
        · simp only [Option.map_eq_some_iff] at hc
          obtain ⟨xx, hx, rfl⟩ := hc
          exact .same fun base g lam Pr N a w0 w h => by
            obtain ⟨u, hz, hs⟩ := len_sound (P := P) (w := w) hu ty (xo_sound hx h) hv
            exact ⟨u, by simp [execOp, resolve, invoke, builtin, hz], hs⟩
    · simp only [Option.bind_eq_bind, Option.bind_eq_some_iff] at hc
      obtain ⟨x, hx, x2, hx2, hh⟩ := hc
      cases hh
      exact .same fun base g lam Pr N a w0 w h => by
        obtain ⟨u, hz, hs⟩ := mm_sound (P := P) (w := w) (b := true) argTypes.toArray ty (xo_sound hx h) (xo_sound hx2 h) hv
        exact ⟨u, by simp only [if_true] at hz; simp [execOp, resolve, invoke, builtin, hz], hs⟩
    · simp only [Option.bind_eq_bind, Option.bind_eq_some_iff] at hc
      obtain ⟨x, hx, x2, hx2, x3, hx3, hh⟩ := hc
      cases hh
      simp only [pv, Option.bind_eq_some_iff] at hv
      obtain ⟨v1, hv1, hv2⟩ := hv
      exact .same fun base g lam Pr N a w0 w h => by
        have hs1 := xo_sound hx h
        have hs2 := xo_sound hx2 h
        have hs3 := xo_sound hx3 h
        obtain ⟨u, hz, hs⟩ := mm_sound (P := P) (w := w) (b := true) argTypes.toArray ty hs1 hs2 hv1
        obtain ⟨u2, hz2, hs'⟩ := mm_sound (P := P) (w := w) (b := true) argTypes.toArray ty hs hs3 hv2
        refine ⟨u2, ?_, hs'⟩
        simp only [if_true, Builtin.max_] at hz hz2
        simp only [List.foldlM_cons, List.foldlM_nil, bind_pure] at hz hz2
        simp [execOp, resolve, invoke, builtin, Builtin.max_, hz, hz2]
    · simp only [Option.bind_eq_bind, Option.bind_eq_some_iff] at hc
      obtain ⟨x, hx, x2, hx2, hh⟩ := hc
      cases hh
      exact .same fun base g lam Pr N a w0 w h => by
        obtain ⟨u, hz, hs⟩ := mm_sound (P := P) (w := w) (b := false) argTypes.toArray ty (xo_sound hx h) (xo_sound hx2 h) hv
        exact ⟨u, by simp only [Bool.false_eq_true, if_false] at hz; simp [execOp, resolve, invoke, builtin, hz], hs⟩
    · simp only [Option.bind_eq_bind, Option.bind_eq_some_iff] at hc
      obtain ⟨e, _, i, _, z, _, hh⟩ := hc
      split at hh
      · simp only [Option.bind_eq_some_iff] at hh
        obtain ⟨xl, _, xc, _, hh⟩ := hh
        cases sh
        · cases hh; simp [pv] at hv
        · cases hh; simp [pv] at hv
      · cases hh
    · cases hc

theorem pv_sound {sh im lc : Bool} {o : Oper} {c : O} {v : AV} (hc : compO P sh im lc o.op = some c) (hv : pv F L σ c = some v) : VOp P o F L σ v := by
  obtain ⟨dst, op, ty, pos, after, guard⟩ := o
  cases op <;> simp only [compO] at hc
  case move y =>
    simp only [Option.map_eq_some_iff] at hc
    obtain ⟨x, hx, rfl⟩ := hc
    simp only [pv, Option.some.injEq] at hv; subst hv
    exact .same fun base g lam Pr N a w0 w h => ⟨a.eval y, by simp [execOp], xo_sound hx h⟩
  case assign y =>
    simp only [Option.map_eq_some_iff] at hc
    obtain ⟨x, hx, rfl⟩ := hc
    simp only [pv, Option.some.injEq] at hv; subst hv
    exact .same fun base g lam Pr N a w0 w h => ⟨a.eval y, by simp [execOp], xo_sound hx h⟩
  case pick c y z =>
    simp only [Option.bind_eq_bind, Option.bind_eq_some_iff] at hc
    obtain ⟨xc, h1, xy, h2, xz, h3, he⟩ := hc
    cases he
    exact .same fun base g lam Pr N a w0 w h => pick_sound (xo_sound h1 h) (xo_sound h2 h) (xo_sound h3 h) hv
  case alloc t =>
    simp only [Option.map_eq_some_iff] at hc
    obtain ⟨z, hz, rfl⟩ := hc
    simp [pv] at hv
  case box t y =>
    simp only [Option.map_eq_some_iff] at hc
    obtain ⟨z, hz, rfl⟩ := hc
    cases im
    · simp [pv] at hv
    · simp only [if_true, pv, Option.map_eq_some_iff] at hv
      obtain ⟨l, hl, rfl⟩ := hv
      intro base g lam Pr N a w0 w h
      obtain ⟨x, g', w', hr, h1, h2, h3, h4⟩ := boxi_sound (P := P) (t := t) hz h hl
      exact ⟨x, g', w', execOp_v rfl hr, h1, h2, SV.of_vr h3, h4⟩
  case field s y f =>
    simp only [Option.bind_eq_bind, Option.bind_eq_some_iff] at hc
    obtain ⟨x, hx, off, ho, n, hn, he⟩ := hc
    cases he
    exact .same fun base g lam Pr N a w0 w h => by
      obtain ⟨z, hz, hs⟩ := fd_sound (P := P) (w := w) ho hn (xo_sound hx h) hv
      exact ⟨z, execOp_v rfl hz, SV.of_vr hs⟩
  case slice t y lo hi mx =>
    cases hu : P.underlying t with
    | none => rw [hu] at hc; cases hc
    | some d =>
      rw [hu] at hc
      cases d <;> try (cases hc; done)
      · cases mx with
        | some _ => cases hc
        | none =>
          simp only [Option.bind_eq_bind, Option.bind_eq_some_iff] at hc
          obtain ⟨x, hx, xl, hxl, xh, hxh, hh⟩ := hc
          cases hh
          exact .same fun base g lam Pr N a w0 w h => by
            obtain ⟨z, hz, hs⟩ := ssl_sound (P := P) (w := w) hu (xo_sound hx h) (xoo_sound hxl h) (xoo_sound hxh h) hv
            exact ⟨z, execOp_v rfl hz, SV.of_vr hs⟩
      · rename_i e
        cases sh
        · simp only [Bool.false_eq_true, if_false, Option.bind_eq_bind, Option.bind_eq_some_iff] at hc
          obtain ⟨x, hx, xl, hxl, xh, hxh, xm, hxm, sz, hsz, hh⟩ := hc
          cases hh
          exact .same fun base g lam Pr N a w0 w h => by
            obtain ⟨z, hz, hs⟩ := sls_sound (P := P) (w := w) hu hsz (xo_sound hx h) (xoo_sound hxl h) (xoo_sound hxh h) (xoo_sound hxm h) hv
            exact ⟨z, execOp_v rfl hz, SV.of_vr hs⟩
        · simp only [if_true] at hc
          obtain ⟨rfl, z, rfl, rfl, x, xh, sz, _, _, _, rfl⟩ := trnC_spec hc
          simp [pv] at hv
  case fieldAddr s y f =>
    simp only [Option.bind_eq_bind, Option.bind_eq_some_iff] at hc
    obtain ⟨x, hx, off, ho, he⟩ := hc
    cases he
    exact .same fun base g lam Pr N a w0 w h => by
      obtain ⟨z, hz, hs⟩ := fld_sound (P := P) (w := w) ho (xo_sound hx h) hv
      exact ⟨z, execOp_v rfl hz, hs⟩
  case load t y =>
    simp only [Option.bind_eq_bind, Option.bind_eq_some_iff] at hc
    obtain ⟨x, hx, n, hn, he⟩ := hc
    have hv2 : ldA L σ (xv F x) n = some v := by
      cases lc
      · cases he; exact hv
      · cases he
        have hv : ldlA L (xv F x) n = some v := hv
        cases hxx : xv F x <;> rw [hxx] at hv <;> simp only [ldlA] at hv <;> try (cases hv; done)
        exact hv
    exact .same fun base g lam Pr N a w0 w h => by
      obtain ⟨z, hz, hs⟩ := ld_sound hn h (xo_sound hx h) hv2
      exact ⟨z, execOp_v rfl hz, SV.of_vr hs⟩
  case store t y z =>
    simp only [Option.bind_eq_bind, Option.bind_eq_some_iff] at hc
    obtain ⟨x, hx, x2, hx2, n, hn, he⟩ := hc
    cases he
    simp [pv] at hv
  case indexAddr t y i =>
    simp only [Option.bind_eq_bind, Option.bind_eq_some_iff] at hc
    obtain ⟨x, hx, xi, hxi, e, he, n, hn, hh⟩ := hc
    cases hh
    exact .same fun base g lam Pr N a w0 w h => by
      obtain ⟨z, hz, hs⟩ := ix_sound (P := P) (w := w) he hn (xo_sound hx h) (xo_sound hxi h) hv
      exact ⟨z, execOp_v rfl hz, hs⟩
  case index t y i =>
    cases hu : P.underlying t with
    | none => rw [hu] at hc; cases hc
    | some d =>
      rw [hu] at hc
      cases d <;> try (cases hc; done)
      simp only [Option.bind_eq_bind, Option.bind_eq_some_iff] at hc
      obtain ⟨x, hx, xi, hxi, hh⟩ := hc
      cases hh
      exact .same fun base g lam Pr N a w0 w h => by
        obtain ⟨z, hz, hs⟩ := sidx_sound (P := P) (w := w) hu (xo_sound hx h) (xo_sound hxi h) hv
        exact ⟨z, execOp_v rfl hz, hs⟩
  case binOp op t y z t2 =>
    cases hu : P.underlying t with
    | none => rw [hu] at hc; cases hc
    | some d =>
      rw [hu] at hc
      cases d <;> try (cases hc; done)
      case bool =>
        simp only [Option.bind_eq_bind, Option.bind_eq_some_iff] at hc
        obtain ⟨x, hx, xi, hxi, hh⟩ := hc
        cases hh
        exact .same fun base g lam Pr N a w0 w h => by
          obtain ⟨u, hz, hs⟩ := binb_sound (P := P) (w := w) hu y z (xo_sound hx h) (xo_sound hxi h) hv
          exact ⟨u, execOp_v rfl hz, hs⟩
      case pointer e =>
        obtain ⟨rfl, ne, x, hop, hx, rfl⟩ := pnilC_spec hc
        exact .same fun base g lam Pr N a w0 w h => by
          obtain ⟨u, hz, hs⟩ := pnil_sound (P := P) (w := w) (op := op) hu hop y (.const (.pointer none)) (xo_sound hx h) hv
          exact ⟨u, execOp_v rfl hz, hs⟩
      case struct fs =>
        have hc : (if intStruct P t then steqC op fs.size y z else none) = some c := hc
        split at hc
        · rename_i his
          obtain ⟨ne, x, xi, hop, hx, hxi, rfl⟩ := steqC_spec hc
          exact .same fun base g lam Pr N a w0 w h => by
            obtain ⟨u, hz, hs⟩ := steq_sound (P := P) (w := w) hu his hop y z (xo_sound hx h) (xo_sound hxi h) hv
            exact ⟨u, execOp_v rfl hz, hs⟩
        · cases hc
      all_goals
        simp only [Option.bind_eq_bind, Option.bind_eq_some_iff] at hc
        obtain ⟨x, hx, xi, hxi, hh⟩ := hc
        cases hh
        exact .same fun base g lam Pr N a w0 w h => by
          obtain ⟨u, hz, hs⟩ := bin_sound (P := P) (w := w) (t := t) y z (xo_sound hx h) (xo_sound hxi h) hv
          exact ⟨u, execOp_v rfl hz, hs⟩
  case unOp op t y =>
    simp only [Option.bind_eq_bind, Option.bind_eq_some_iff] at hc
    obtain ⟨x, hx, hh⟩ := hc
    cases hh
    exact .same fun base g lam Pr N a w0 w h => by
      obtain ⟨u, hz, hs⟩ := un_sound (P := P) (w := w) (xo_sound hx h) hv
      exact ⟨u, execOp_v rfl hz, hs⟩
  case convert s t y =>
    cases hu : P.underlying s with
    | none => rw [hu] at hc; cases hc
    | some d =>
      rw [hu] at hc
      cases d <;> try (cases hc; done)
      cases hu2 : P.underlying t with
      | none => rw [hu2] at hc; cases hc
      | some d2 =>
        rw [hu2] at hc
        cases d2 <;> try (cases hc; done)
        simp only [Option.bind_eq_bind, Option.bind_eq_some_iff] at hc
        obtain ⟨x, hx, hh⟩ := hc
        cases hh
        exact .same fun base g lam Pr N a w0 w h => by
          obtain ⟨u, hz, hs⟩ := conv_sound (P := P) (w := w) hu hu2 (xo_sound hx h) hv
          exact ⟨u, execOp_v rfl hz, hs⟩
  case build t ps =>
    simp only [Option.bind_eq_bind, Option.bind_eq_some_iff] at hc
    obtain ⟨z, hz, pl, hpl, cps, hcps, hh⟩ := hc
    cases hh
    simp only [pv, Option.map_eq_some_iff] at hv
    obtain ⟨cs, hcs, rfl⟩ := hv
    exact .same fun base g lam Pr N a w0 w h => by
      obtain ⟨u, hu, hs⟩ := bld_sound hz hpl hcps h hcs
      exact ⟨u, execOp_v rfl hu, SV.of_vr hs⟩
  case buildSlice t len ps =>
    simp only [Option.bind_eq_bind, Option.bind_eq_some_iff] at hc
    obtain ⟨e, he, z, hz, n, hn, hh⟩ := hc
    split at hh
    · rename_i hcond
      simp only [Option.bind_eq_some_iff] at hh
      obtain ⟨cps, hcps, hh⟩ := hh
      have hv2 : pv F L σ (.bsl n len (List.replicate len z).flatten cps) = some v := by
        cases sh
        · cases hh; exact hv
        · cases hh; simp [pv] at hv
      simp only [pv, Option.map_eq_some_iff, Option.bind_eq_some_iff] at hv2
      obtain ⟨l, ⟨cs, hcs, hl⟩, rfl⟩ := hv2
      intro base g lam Pr N a w0 w h
      obtain ⟨x, g', w', hr, h1, h2, h3, h4⟩ := bsl_sound he hz hn hcond hcps h hcs hl
      exact ⟨x, g', w', execOp_v rfl hr, h1, h2, SV.of_vr h3, h4⟩
    · cases hh
  case makeFunc fn first caps =>
    cases fn <;> simp only [Option.bind_eq_bind, Option.bind_eq_some_iff] at hc <;> try (cases hc; done)
    rename_i f
    obtain ⟨xf, hxf, xc, hxc, hh⟩ := hc
    cases hh
    simp only [pv] at hv
    split at hv
    · rename_i hn
      cases hv
      simp only [List.all_append, Bool.and_eq_true] at hn
      exact .same fun base g lam Pr N a w0 w h => by
        have h1 := xos_sound h first.toList xf hxf hn.1
        have h2 := xos_sound h caps.toList xc hxc hn.2
        refine ⟨.func (.func f) (first.map a.eval) (caps.map a.eval), by simp [execOp, Instr.makeFunc], SV.of_vr ?_⟩
        have e1 : first.map a.eval = (first.toList.map a.eval).toArray := Array.ext' (by simp)
        have e2 : caps.map a.eval = (caps.toList.map a.eval).toArray := Array.ext' (by simp)
        rw [e1, e2]
        exact .fn h1.length h2.length h1.idx h2.idx
    · cases hv
  case extract y i =>
    simp only [Option.map_eq_some_iff] at hc
    obtain ⟨x, hx, rfl⟩ := hc
    exact .same fun base g lam Pr N a w0 w h => by
      obtain ⟨u, hz, hs⟩ := ext_sound (P := P) (w := w) (xo_sound hx h) hv
      exact ⟨u, execOp_v rfl hz, SV.of_vr hs⟩
  case nilCheck y =>
    simp only [Option.map_eq_some_iff] at hc
    obtain ⟨x, hx, rfl⟩ := hc
    simp only [pv] at hv
    exact .same fun base g lam Pr N a w0 w h => by
      have hs := xo_sound hx h
      have key : ∀ p : Addr, a.eval y = .pointer (some p) → (execOp a.eval ⟨dst, .nilCheck y, ty, pos, after, guard⟩).run P w = .ok (.value (.pointer (some p))) w := by
        intro p hp
        simp only [execOp, hp]; rfl
      generalize a.eval y = vy at hs key
      cases hxv : xv F x <;> rw [hxv] at hv hs <;> simp only [nckA, Option.some.injEq] at hv <;> try (cases hv; done)
      · rename_i dx
        cases dx <;> simp only [Option.some.injEq] at hv <;> try (cases hv; done)
        subst hv; cases hs with | d hs => cases hs with | ptr hi hr => exact ⟨_, key _ rfl, .d (.ptr hi hr)⟩
      · subst hv; obtain ⟨b, hb, rfl⟩ := hs; exact ⟨_, key _ rfl, b, hb, rfl⟩
      · subst hv; cases hs with | gp hm => exact ⟨_, key _ rfl, .gp hm⟩
      · subst hv; cases hs with | ep hi hr => exact ⟨_, key _ rfl, .ep hi hr⟩
  case makeSlice t l c =>
    simp only [Option.bind_eq_bind, Option.bind_eq_some_iff] at hc
    obtain ⟨e, he, i, hi, z, hz, hh⟩ := hc
    split at hh
    · simp only [Option.bind_eq_some_iff] at hh
      obtain ⟨xl, _, xc, _, hh⟩ := hh
      cases hh
      simp [pv] at hv
    · cases hh
  case call c => exact call_sound hc hv
  all_goals (cases hc; done)

end Go.Ab
