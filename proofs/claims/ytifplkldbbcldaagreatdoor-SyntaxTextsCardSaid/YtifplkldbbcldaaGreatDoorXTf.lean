/- The law SyntaxBack over abstract values. The law SyntaxTexts over abstract values. The given statement SyntaxTexts, as a card: for every input the law returns true. Conditions: none. -/
import Derived.Test.YtifplkldbbcldaaGreatDoorXTc
set_option linter.unusedSimpArgs false
set_option linter.unusedVariables false
set_option maxRecDepth 4000
set_option maxHeartbeats 8000000
open Bool renaming and_eq_true→AK
open List renaming all_eq_true→A4,map_cons→AE,map_nil→AH,mem_cons→By
open Nat renaming le_trans→At
open Int renaming reduceBEq→A5
open Option.some renaming inj→GI
namespace Go.Ab
open Go.Proofs
theorem dF {p:Pg} (h:EW p=true):∀d∈p.data,∀c∈d.cons,c.args.length≤1000000:=fun d hd c hc=>by
 have:=(Qv h).1.2 d hd
 simp only [IT,AK,decide_eq_true_eq,A4] at this
 have:=this.2 c hc
 simp only [To,AK,decide_eq_true_eq] at this
 omega
theorem vH (n:Nat):decide ((16384:Int) < (n:Int))=decide (16384 < n):=decide_eq_decide.2 (by omega)
end Go.Ab
namespace Go.Ab
open Go.Proofs
theorem Zj {a:Str} (h:(Ea a).2.2=0):∀d∈(Ea a).1.data,∀c∈d.cons,∀t∈c.args,t.size≤17000:=by
 obtain ⟨h1,h2,h3,_⟩:=Zi h
 obtain ⟨w,o⟩:=Wb h1
 rw [h3]
 exact Ug w (by have:=o.1;omega) h2
theorem Zl {a:Str} (h:(Ea a).2.2=0):EW (Ea a).1=true:=by
 obtain ⟨_,_,_,h4⟩:=Zi h
 first|exact h4|exact h4.1
theorem V5 (a:Str) (σ:AN) (hg:VZ σ) (hp:σ.gt Q7=some Se):AT Tryz.prog 7 [.d (.str a)] σ (fun v σ'=>v= .d (.bool true)∧σ'=σ):=by
 have haw:=Vy σ hg hp
 have hpa:=Km a σ hg
 refine RY (by simp) ?_
 rw [BM]
 have hvalid:=Zl (a:=a)
 have hsmall:=Zj (a:=a)
 generalize Ea a=r at hpa hvalid hsmall
 obtain ⟨p,at',code⟩:=r
 simp only at hvalid hsmall
 by_cases hc:code=0
 rotate_left
 · obtain ⟨ds,fs⟩:=p
   simp only [Yf,pgA,Pg.enc,AE,AH] at hpa
   (repeat' (first|refine Run.ct rfl ?_|((first|refine Run.reg mixed ?_|refine Run.AM ?_|refine Run.Af Eu (AN.le_refl _) ?_|refine AG.det (hpa) ?_|refine AG.det (haw) ?_|(refine AQ rfl (fun h=>?_) (fun h=>?_)<;>try (cases h;done)))<;>try simp -implicitDefEqProofs only [YX hc,go_sem])|(refine ⟨fun h=>?_,fun h=>?_⟩<;>first|(cases h;done)|try simp only [h])|fail))
 subst hc
 have hv:=hvalid rfl
 have hs:=hsmall rfl
 have hf:=Nz p σ hp (fun d hd c hc t ht=>At (hs d hd c hc t ht) (by omega))
 have hpb:=Km (Up p) σ hg
 have heq:=Zq p p σ (dF hv)
 have hvl:=Kn p σ (fun d hd c hc t ht=>At (hs d hd c hc t ht) (by omega))
 rw [PD] at heq
 have hbk:=fun hl=>WG (p:=p) hv hl
 rw [hv] at hf hvl
 simp only [if_true] at hf
 generalize Up p=txt at hf hpb hbk
 obtain ⟨ds,fs⟩:=p
 simp only [Yf,pgA,Pg.enc,AE,AH] at hpa hf heq hvl
 by_cases hl:16384 < txt.length
 · (repeat' (first|refine Run.ct rfl ?_|((first|refine Run.reg mixed ?_|refine Run.AM ?_|refine Run.Af Eu (AN.le_refl _) ?_|refine AG.det (hpa) ?_|refine AG.det (hf) ?_|refine AG.det (haw) ?_|(refine AQ rfl (fun h=>?_) (fun h=>?_)<;>try (cases h;done)))<;>try simp -implicitDefEqProofs only [vH,decide_eq_true hl,bne_self_eq_false,go_sem])|(refine ⟨fun h=>?_,fun h=>?_⟩<;>first|(cases h;done)|try simp only [h])|fail))
 · have hq:=hbk (by omega)
   rw [hq] at hpb
   simp only [Yf,pgA,Pg.enc,AE,AH] at hpb
   (repeat' (first|refine Run.ct rfl ?_|((first|refine Run.reg mixed ?_|refine Run.AM ?_|refine Run.Af Eu (AN.le_refl _) ?_|refine AG.det (hpa) ?_|refine AG.det (hf) ?_|refine AG.det (hpb) ?_|refine AG.det (heq) ?_|refine AG.det (hvl) ?_|refine AG.det (haw) ?_|(refine AQ rfl (fun h=>?_) (fun h=>?_)<;>try (cases h;done)))<;>try simp -implicitDefEqProofs only [vH,decide_eq_false hl,bne_self_eq_false,A5,beq_self_eq_true,Qp,go_sem])|(refine ⟨fun h=>?_,fun h=>?_⟩<;>first|(cases h;done)|try simp only [h])|fail))
end Go.Ab
namespace Go.Ab
open Go.Proofs
theorem UX (te:TypeId) (pe:Value) (av:List AV) (h:VY Tryz.prog [9] av):AT Tryz.prog 7 av (Kl (gtT te pe)) (fun v _=>v= .d (.bool true)):=by
 obtain ⟨x0,rfl⟩:=jZ h
 exact (V5 x0 (Kl (gtT te pe)) (oJ te pe) (oK te pe)).mono (fun _ _ h=>h.1)
end Go.Ab
namespace Go.Proofs.YtifplkldbbcldaaGreatDoor
open Go.ChangeShapes Go.WideShapes Go.ChangeAt Go.RowKit
set_option maxRecDepth 100000 in
theorem Si (os:Os) (started:os.Started) (H:Type) (enc:TypeId×Value→H):
 ReturnsInHanded {} Tryz.checked os 7 .any (fun w args=>(Rows.syntaxTextsSpec.pre enc Tryz.prog Tryz.f7 [] false w args∧laidMetH Tryz.prog Z6 w)∧sizedMet enc Tryz.prog Tryz.f7 (OpenSpec.ofChange Rows.syntaxTextsSpec) false w args)
  (Rows.syntaxTextsSpec.post enc Tryz.prog Tryz.f7 false true false false):=by
 refine returnsInHanded_of_change_and (C:=Tryz.checked) (X:=fun w _=>laidMetH Tryz.prog Z6 w) (fun _ _ _ hh h=>h.of_heap hh) Tryz.own started (by kernel_rfl) Tryz.func7
  (ChangeSpec.witness_shaped (enc:=enc) (C:=Tryz.checked) (os:=os) (X:=fun w _=>laidMetH Tryz.prog Z6 w) false (World.doorLaid Tryz.prog 400 os) #[.string ⟨#[]⟩] 8 rfl (World.shaped_of_RefB (by kernel_rfl) (by kernel_rfl)) (by kernel_rfl) (by kernel_rfl) (by kernel_rfl) (kJ os _)) ?_
 intro W base args ds gs before hval hW _ _ hL _
 obtain ⟨te,pe,hT⟩:=oL hL
 refine Go.Ab.XU (P:=Tryz.prog) (gt:=Go.Ab.gtT te pe) [9] Tryz.laidOut (by kernel_rfl) ?_ ?_ (tb:=4) (by kernel_rfl) Tryz.underlying4 rfl ?_ ?_ W hT base args ds gs before hval hW
 · rw [Tryz.params7];simp
 · rw [Tryz.params7]
   intro t ht
   simp only [By,List.not_mem_nil,or_false] at ht
   subst ht
   exact ⟨by kernel_rfl,of_decide_eq_true (by kernel_rfl)⟩
 · rw [Tryz.params7]
   intro ds hd
   match ds,hd with
   |[d0],_=>rfl
 · rw [Tryz.params7]
   exact Go.Ab.UX te pe
theorem VH:Rows.SyntaxTextsSaid:=
 OpenClaim.holds_of_wide 7 Tryz.f7 rfl rfl rfl rfl rfl rfl rfl ⟨rfl,rfl,rfl,rfl,rfl⟩ rfl rfl rfl rfl rfl (by kernel_rfl) Tryz.func7 (by kernel_rfl)
  (of_decide_eq_true (by kernel_rfl)) (by unfold Func.isWrapper;first|(rw [if_pos (by decide+kernel)];kernel_rfl)|(rw [if_neg (by decide+kernel)];exact ⟨rfl,rfl⟩))
  (fun os started H enc _=>Si os started H enc)
theorem syntaxTexts_holds:Rows.SyntaxTextsCardSaid:=
 Claim7.holds_tied_plain_at .later [] [.data,.data,.data,.sentinel,.sentinel] true (true,"21a277a3e8a610eced9e93bcce68d99d4ad37844a2772ead4278e0ed35489f0c") true
  VH (fun _ h=>by cases h) (by kernel_rfl) (fun _ h=>by cases h) syntaxTexts_row_tie rfl ⟨rfl,rfl⟩ (by kernel_rfl) rfl
  (fun f fn hf hfn=>by
    obtain rfl:f=7:=GI ((show Tryz.prog.funcNamed "amortcost/amortcostlaw04.SyntaxTexts"=some 7 by kernel_rfl).symm.trans hf)|>.symm
    obtain rfl:fn=Tryz.f7:=(GI (Tryz.func7.symm.trans hfn)).symm
    exact ⟨by kernel_rfl,fun j t ht=>by
     rw [Tryz.params7] at ht
     have hm:t∈[9]:=by simpa using Array.mem_of_getElem? ht
     have hall:([9].all fun u=>!Tryz.prog.wantsStandIn u)=true:=by kernel_rfl
     exact (show Tryz.prog.wantsStandIn t=false by simpa using A4.1 hall t hm)⟩)
  (by kernel_rfl)
end Go.Proofs.YtifplkldbbcldaaGreatDoor
#print axioms Go.Proofs.YtifplkldbbcldaaGreatDoor.syntaxTexts_holds
