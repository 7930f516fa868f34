/- The reference's Parse; the law SyntaxParses over abstract values. The given statement SyntaxParses, as a card: for every input the law returns true. Conditions: none. -/
import Derived.Test.YtifplkldbbcldaaGreatDoorXTc
set_option linter.unusedSimpArgs false
set_option linter.unusedVariables false
set_option maxRecDepth 4000
set_option maxHeartbeats 8000000
open List renaming suffix_refl→Lx,map_cons→AB,map_nil→AE,mem_cons→Cm,all_eq_true→A7
open Nat renaming le_trans→Ay
open Bool renaming false_eq_true→AL
open Option.some renaming inj→DK
namespace Go.Ab
open Go.Proofs
set_option maxHeartbeats 4000000 in
theorem jS (src:Str) (σ:AK):AP Tryz.prog 13 [.d (.str src)] σ (fun v σ'=>v=Y0 (WK src)∧σ'=σ):=by
 refine lY (by simp) ?_
 rw [Ar]
 have hsp:=YB src σ
 by_cases he:(Au src).2.2=0
 · obtain ⟨hw,ho⟩:=bL he
   have hN:=eZ he
   have hrp:WK src=if (H8.run ⟨(Au src).1,false⟩).2.b then (⟨[],[]⟩,(H8.run ⟨(Au src).1,false⟩).2.hd.pos,2)
                                                                               else if DM (H8.run ⟨(Au src).1,false⟩).1 then ((H8.run ⟨(Au src).1,false⟩).1,0,0) else (⟨[],[]⟩,0,9):=if_neg (by simp [he])
   have hsim:=kF (Au src).1 0 hw ho
   have hsm:=Xz (p:=0) hw ho.1
   have hrok:ROk (Au src).1 ⟨(Au src).1,false⟩:=⟨hw,Lx _,ho.1⟩
   have hrr:=hrok.run H8
   rw [hrp]
   clear hrp
   simp only [Gy] at hsp
   rw [he] at hsp
   generalize (Au src).2.1=pos at hsp
   generalize (Au src).1=L at hsp hw ho hN hsm hsim hrok hrr ⊢
   have hL0:=fun Q rest j=>w7 Q rest j hN σ hrok
   have hsd:(H8.run ⟨L,false⟩).2.b=false→∀d∈(H8.run ⟨L,false⟩).1.data,∀c∈d.cons,∀t∈c.args,t.size≤17000:=fun hb=>by
    obtain ⟨h1,h2⟩:=hsim
    rcases h1 with ⟨f1,f2,_⟩|⟨f1,f2,f3⟩
    · rw [← h2 f1];exact hsm f1
    · rw [hb] at f2;cases f2
   generalize H8.run ⟨L,false⟩=y at hL0 hsd hrr ⊢
   obtain ⟨p,s1⟩:=y
   obtain ⟨ds,fs⟩:=p
   simp only at hL0 hsd hrr ⊢
   have h00:((0:Int) != 0)=false:=rfl
   (repeat' (first|refine ctQ rfl ?_|((first|refine rgQ mxQ ?_|refine cdQ ?_|refine AD.det (hsp) ?_)<;>try simp -implicitDefEqProofs only [h00,go_sem])|fail))
   intro j hj
   have hle:=oZ hj (rsA L s1)
   rw [AFC]
   (repeat' (first|refine ctQ rfl ?_|((first|refine rgQ mxQ ?_|refine cdQ ?_)<;>try simp -implicitDefEqProofs only [go_sem])|fail))
   refine Run.BU ?_
   refine hL0 _ _ j ?_
   have hat:=hrr.at
   cases hf:s1.b with
   |true=>
    have hb:(σ.AH j (rsA L s1)).blk j=some [.d (.sl (L.map Tok.enc)),.d (.int .i64 ((L.length - s1.r.length:Nat):Int)),.d (.bool true)]:=Jh hf AX
    simp only [if_true,Y0,pgA,Pg.enc,AB,AE]
    generalize σ.AH j (rsA L s1)=τ at hb hle ⊢
    (repeat' (first|refine ctQ rfl ?_|((first|refine rgQ mxQ ?_|refine cdQ ?_|(refine Run.Q8 mixed ?_)|(with_reducible refine And.intro ?_ ?_)|(refine Run.A2 NP hle ?_))<;>try simp -implicitDefEqProofs only [hb,hat,go_sem])|fail))
   |false=>
    have hb:(σ.AH j (rsA L s1)).blk j=some [.d (.sl (L.map Tok.enc)),.d (.int .i64 ((L.length - s1.r.length:Nat):Int)),.d (.bool false)]:=Jh hf AX
    have hV:=jT ⟨ds,fs⟩ (σ.AH j (rsA L s1)) (fun d hd c hc t ht=>Ay (hsd hf d hd c hc t ht) (by omega))
    simp only [pgA,Pg.enc,AB,AE] at hV
    simp only [if_false,AL]
    generalize σ.AH j (rsA L s1)=τ at hb hle hV ⊢
    cases hv:DM ⟨ds,fs⟩ with
    |true=>
     rw [hv] at hV
     simp only [if_true,Y0,pgA,Pg.enc,AB,AE]
     (repeat' (first|refine ctQ rfl ?_|((first|refine rgQ mxQ ?_|refine cdQ ?_|(refine Run.A2 NP hle ?_)|refine AD.det (hV) ?_)<;>try simp -implicitDefEqProofs only [hb,go_sem])|fail))
     rfl
    |false=>
     rw [hv] at hV
     simp only [if_false,AL,Y0,pgA,Pg.enc,AB,AE]
     (repeat' (first|refine ctQ rfl ?_|((first|refine rgQ mxQ ?_|refine cdQ ?_|(refine Run.A2 NP hle ?_)|refine AD.det (hV) ?_)<;>try simp -implicitDefEqProofs only [hb,go_sem])|fail))
     rfl
 · have hne:((Au src).2.2 != 0)=true:=by simpa using he
   have hp:WK src=(⟨[],[]⟩,(Au src).2.1,(Au src).2.2):=if_pos he
   rw [hp]
   simp only [Gy] at hsp
   simp only [Y0,pgA,Pg.enc,AB,AE]
   (repeat' (first|refine ctQ rfl ?_|((first|refine rgQ mxQ ?_|refine cdQ ?_|refine Run.A2 NP (AK.le_refl _) ?_|refine AD.det (hsp) ?_)<;>try simp -implicitDefEqProofs only [hne,go_sem])|fail))
theorem mU (a:Str):∀d∈(Ew a).1.data,∀c∈d.cons,c.args.length≤1000000:=by
 by_cases h:(Ew a).2.2=0
 · exact oD (jL h)
 · have he:(Ew a).1=⟨[],[]⟩:=by
    by_cases he:(Au a).2.2=0
    · rw [VF he] at h ⊢
      unfold rA at h ⊢
      split
      · rfl
      · rename_i hf
        rw [if_neg hf] at h
        split
        · rename_i hv
          rw [if_pos hv] at h
          exact absurd rfl h
        · rfl
    · have hp:Ew a=(⟨[],[]⟩,(Au a).2.1,(Au a).2.2):=if_pos he
      rw [hp]
   rw [he]
   intro d hd
   cases hd
theorem YL (a:Str) (σ:AK) (hg:ZG σ) (hp:σ.gt TD=some VJ):AP Tryz.prog 3 [.d (.str a)] σ (fun v σ'=>v= .d (.bool true)∧σ'=σ):=by
 have haw:=Zs σ hg hp
 have hpa:=R6 a σ hg
 have hpr:=jS a σ
 rw [mV] at hpr
 have heq:=jR (Ew a).1 (Ew a).1 σ (mU a)
 rw [RY] at heq
 refine Sc (by simp) ?_
 rw [Ar]
 generalize Ew a=r at hpa hpr heq
 obtain ⟨p,at',code⟩:=r
 obtain ⟨ds,fs⟩:=p
 simp only [Y0,pgA,Pg.enc,AB,AE] at hpa hpr heq
 (repeat' (first|refine ctQ rfl ?_|((first|refine rgQ mxQ ?_|refine cdQ ?_|refine Run.A2 LV (AK.le_refl _) ?_|refine AD.det (hpa) ?_|refine AD.det (hpr) ?_|refine AD.det (heq) ?_|refine AD.det (haw) ?_)<;>try simp -implicitDefEqProofs only [beq_self_eq_true,go_sem])|fail))
end Go.Ab
namespace Go.Ab
open Go.Proofs
theorem W3 (te:TypeId) (pe:Value) (av:List AV) (h:ZF Tryz.prog [9] av):AP Tryz.prog 3 av (MO (gtT te pe)) (fun v _=>v= .d (.bool true)):=by
 obtain ⟨x0,rfl⟩:=tR h
 exact (YL x0 (MO (gtT te pe)) (y5 te pe) (y6 te pe)).mono (fun _ _ h=>h.1)
end Go.Ab
namespace Go.Proofs.YtifplkldbbcldaaGreatDoor
open Go.ChangeShapes Go.WideShapes Go.ChangeAt Go.RowKit
set_option maxRecDepth 100000 in
theorem UH (os:Os) (started:os.Started) (H:Type) (enc:TypeId×Value→H):
 ReturnsInHanded {} Tryz.checked os 3 .any (fun w args=>(Rows.syntaxParsesSpec.pre enc Tryz.prog Tryz.f3 [] false w args∧laidMetH Tryz.prog jB w)∧sizedMet enc Tryz.prog Tryz.f3 (OpenSpec.ofChange Rows.syntaxParsesSpec) false w args)
  (Rows.syntaxParsesSpec.post enc Tryz.prog Tryz.f3 false true false false):=by
 refine returnsInHanded_of_change_and (C:=Tryz.checked) (X:=fun w _=>laidMetH Tryz.prog jB w) (fun _ _ _ hh h=>h.of_heap hh) Tryz.own started (by kernel_rfl) Tryz.func3
  (ChangeSpec.witness_shaped (enc:=enc) (C:=Tryz.checked) (os:=os) (X:=fun w _=>laidMetH Tryz.prog jB w) false (World.doorLaid Tryz.prog 400 os) #[.string ⟨#[]⟩] 8 rfl (World.shaped_of_RefB (by kernel_rfl) (by kernel_rfl)) (by kernel_rfl) (by kernel_rfl) (by kernel_rfl) (uH os _)) ?_
 intro W base args ds gs before hval hW _ _ hL _
 obtain ⟨te,pe,hT⟩:=y7 hL
 refine Go.Ab.dE (P:=Tryz.prog) (gt:=Go.Ab.gtT te pe) [9] Tryz.laidOut (by kernel_rfl) ?_ ?_ (tb:=4) (by kernel_rfl) Tryz.underlying4 rfl ?_ ?_ W hT base args ds gs before hval hW
 · rw [Tryz.params3];simp
 · rw [Tryz.params3]
   intro t ht
   simp only [Cm,List.not_mem_nil,or_false] at ht
   subst ht
   exact ⟨by kernel_rfl,of_decide_eq_true (by kernel_rfl)⟩
 · rw [Tryz.params3]
   intro ds hd
   match ds,hd with
   |[d0],_=>rfl
 · rw [Tryz.params3]
   exact Go.Ab.W3 te pe
theorem X6:Rows.SyntaxParsesSaid:=
 OpenClaim.holds_of_wide 3 Tryz.f3 rfl rfl rfl rfl rfl rfl rfl ⟨rfl,rfl,rfl,rfl,rfl⟩ rfl rfl rfl rfl rfl (by kernel_rfl) Tryz.func3 (by kernel_rfl)
  (of_decide_eq_true (by kernel_rfl)) (by unfold Func.isWrapper;first|(rw [if_pos (by decide+kernel)];kernel_rfl)|(rw [if_neg (by decide+kernel)];exact ⟨rfl,rfl⟩))
  (fun os started H enc _=>UH os started H enc)
theorem syntaxParses_holds:Rows.SyntaxParsesCardSaid:=
 Claim7.holds_tied_plain_at .later [] [.data,.data,.data,.sentinel,.sentinel] true (true,"21a277a3e8a610eced9e93bcce68d99d4ad37844a2772ead4278e0ed35489f0c") true
  X6 (fun _ h=>by cases h) (by kernel_rfl) (fun _ h=>by cases h) syntaxParses_row_tie rfl ⟨rfl,rfl⟩ (by kernel_rfl) rfl
  (fun f fn hf hfn=>by
    obtain rfl:f=3:=DK ((show Tryz.prog.funcNamed "amortcost/amortcostlaw04.SyntaxParses"=some 3 by kernel_rfl).symm.trans hf)|>.symm
    obtain rfl:fn=Tryz.f3:=(DK (Tryz.func3.symm.trans hfn)).symm
    exact ⟨by kernel_rfl,fun j t ht=>by
     rw [Tryz.params3] at ht
     have hm:t∈[9]:=by simpa using Array.mem_of_getElem? ht
     have hall:([9].all fun u=>!Tryz.prog.wantsStandIn u)=true:=by kernel_rfl
     exact (show Tryz.prog.wantsStandIn t=false by simpa using A7.1 hall t hm)⟩)
  (by kernel_rfl)
end Go.Proofs.YtifplkldbbcldaaGreatDoor
#print axioms Go.Proofs.YtifplkldbbcldaaGreatDoor.syntaxParses_holds
