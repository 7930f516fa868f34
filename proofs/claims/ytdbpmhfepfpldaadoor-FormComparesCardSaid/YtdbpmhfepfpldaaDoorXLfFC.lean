/- The given statement FormCompares, as a card: for every input the law returns true. Conditions: none. -/
import Derived.Test.YtdbpmhfepfpldaaDoorXGe
set_option linter.unusedSimpArgs false
set_option linter.unusedVariables false
set_option maxRecDepth 4000
set_option maxHeartbeats 8000000
open List renaming mem_cons_self→A5,mem_cons_of_mem→Am,mem_cons→BD,all_eq_true→A6
open Option.some renaming inj→FF
namespace Go.Ab
open Go.Proofs
theorem Q6 (ds:List DV) (h:DT Tryd.prog 33 ds):∃l:Ln,ds=l.enc∧MW l.ts:=by
 obtain ⟨a,b,rfl,h1,hb⟩:=(h.GB Tryd.underlying33).EH
 obtain ⟨a2,b2,rfl,h2,hb2⟩:=hb.EH
 cases hb2.KV
 obtain ⟨m,rfl,_⟩:=h1.GA Tryd.underlying2
 obtain ⟨rows,rfl,_,hr⟩:=h2.SO Tryd.underlying31
 have hd:∀ds,DT Tryd.prog 49 ds→∃x:Int×Int,ds=tmR x∧-9223372036854775808≤x.2∧x.2≤9223372036854775807:=fun ds h=>by
  obtain ⟨a,b,rfl,h1,hb⟩:=(h.GB Tryd.underlying49).EH
  obtain ⟨a2,b2,rfl,h2,hb2⟩:=hb.EH
  cases hb2.KV
  obtain ⟨k,rfl,_⟩:=h1.GA Tryd.underlying3
  obtain ⟨m,rfl,hm⟩:=h2.GA Tryd.underlying2
  exact ⟨(k,m),rfl,hm.1,hm.2⟩
 have key:∀rows:List (List DV),(∀r∈rows,DT Tryd.prog 49 r)→∃l:List (Int×Int),rows=l.map tmR∧MW l:=by
  intro rows
  induction rows with
  |nil=>intro _;exact ⟨[],rfl,fun x hx=>by cases hx⟩
  |cons r rows ih=>
   intro hr
   obtain ⟨x,rfl,hx⟩:=hd r (hr r (A5 ..))
   obtain ⟨l,rfl,hl⟩:=ih (fun r h=>hr r (Am _ h))
   exact ⟨x::l,rfl,fun y hy=>by rcases BD.1 hy with rfl|hy;exact hx;exact hl y hy⟩
 obtain ⟨l,hl,hk⟩:=key rows hr
 exact ⟨⟨m,l⟩,by rw [hl];rfl,hk⟩
theorem I9 (av:List AV) (h:MI Tryd.prog [33,33,33,3] av):AM Tryd.prog 9 av (F3 gtT) (fun v _=>v= .d (.bool true)):=by
 cases h with|cons h1 h=>
 cases h with|cons h2 h=>
 cases h with|cons h3 h=>
 cases h with|cons h4 h=>
 cases h
 obtain ⟨x0,rfl,hb0⟩:=Q6 _ h1
 obtain ⟨x1,rfl⟩:=Po _ h2
 obtain ⟨x2,rfl⟩:=Po _ h3
 obtain ⟨x3,rfl,_⟩:=h4.GA Tryd.underlying3
 rw [FM Tryd.underlying33,FM Tryd.underlying33,FM Tryd.underlying33,N1 Tryd.underlying3 (by simp)]
 exact (Jx x0 x1 x2 x3 hb0 (F3 gtT) Tg).mono (fun _ _ h=>h.1)
end Go.Ab
namespace Go.Proofs.YtdbpmhfepfpldaaDoor
open Go.ChangeShapes Go.WideShapes Go.ChangeAt Go.RowKit
set_option maxRecDepth 100000 in
theorem HX (os:Os) (started:os.Started) (H:Type) (enc:TypeId×Value→H):
 ReturnsInHanded {} Tryd.checked os 9 .any (fun w args=>(Rows.formComparesSpec.pre enc Tryd.prog Tryd.f9 [] false w args∧laidMetH Tryd.prog Nw w)∧sizedMet enc Tryd.prog Tryd.f9 (OpenSpec.ofChange Rows.formComparesSpec) false w args)
  (Rows.formComparesSpec.post enc Tryd.prog Tryd.f9 false true false false):=by
 refine returnsInHanded_of_change_and (C:=Tryd.checked) (X:=fun w _=>laidMetH Tryd.prog Nw w) (fun _ _ _ hh h=>h.of_heap hh) Tryd.own started (by kernel_rfl) Tryd.func9
  (ChangeSpec.witness_shaped (enc:=enc) (C:=Tryd.checked) (os:=os) (X:=fun w _=>laidMetH Tryd.prog Nw w) false (World.doorLaid Tryd.prog 400 os) #[.agg #[.int .i64 0,.slice none 0 0],.agg #[.int .i64 0,.slice none 0 0],.agg #[.int .i64 0,.slice none 0 0],.int .i64 0] 8 rfl (World.shaped_of_RefB (by kernel_rfl) (by kernel_rfl)) (by kernel_rfl) (by kernel_rfl) (by kernel_rfl) (SF os _)) ?_
 intro W base args ds gs before hval hW _ _ hL _
 refine Go.Ab.Lv (P:=Tryd.prog) (gt:=Go.Ab.gtT) [2,3,33,31,49] Tryd.laidOut (by kernel_rfl) ?_ ?_ (tb:=4) (by kernel_rfl) Tryd.underlying4 rfl ?_ ?_ W (Sn hL) base args ds gs before hval hW
 · rw [Tryd.params9];simp
 · rw [Tryd.params9]
   intro t ht
   simp only [BD,List.not_mem_nil,or_false] at ht
   rcases ht with rfl|rfl|rfl|rfl
   · exact ⟨by kernel_rfl,of_decide_eq_true (by kernel_rfl)⟩
   · exact ⟨by kernel_rfl,of_decide_eq_true (by kernel_rfl)⟩
   · exact ⟨by kernel_rfl,of_decide_eq_true (by kernel_rfl)⟩
   · exact ⟨by kernel_rfl,of_decide_eq_true (by kernel_rfl)⟩
 · rw [Tryd.params9]
   intro ds hd
   match ds,hd with
   |[d0,d1,d2,d3],_=>rfl
 · rw [Tryd.params9]
   exact Go.Ab.I9
theorem JL:Rows.FormComparesSaid:=
 OpenClaim.holds_of_wide 9 Tryd.f9 rfl rfl rfl rfl rfl rfl rfl ⟨rfl,rfl,rfl,rfl,rfl⟩ rfl rfl rfl rfl rfl (by kernel_rfl) Tryd.func9 (by kernel_rfl)
  (of_decide_eq_true (by kernel_rfl)) (by unfold Func.isWrapper;first|(rw [if_pos (by decide+kernel)];kernel_rfl)|(rw [if_neg (by decide+kernel)];exact ⟨rfl,rfl⟩))
  (fun os started H enc _=>HX os started H enc)
theorem formCompares_holds:Rows.FormComparesCardSaid:=
 Claim7.holds_tied_plain_at .later [] [.data,.data,.data] true (true,"77d8020c10c3e82ea6b5e5ed0f848ba91c8775fd7cc19528a90a5aa01435b65e") false
  JL (fun _ h=>by cases h) (by kernel_rfl) (fun _ h=>by cases h) formCompares_row_tie rfl ⟨rfl,rfl⟩ (by kernel_rfl) rfl
  (fun f fn hf hfn=>by
    obtain rfl:f=9:=FF ((show Tryd.prog.funcNamed "amortcost/amortcostlaw19.FormCompares"=some 9 by kernel_rfl).symm.trans hf)|>.symm
    obtain rfl:fn=Tryd.f9:=(FF (Tryd.func9.symm.trans hfn)).symm
    exact ⟨by kernel_rfl,fun j t ht=>by
     rw [Tryd.params9] at ht
     have hm:t∈[33,33,33,3]:=by simpa using Array.mem_of_getElem? ht
     have hall:([33,33,33,3].all fun u=>!Tryd.prog.wantsStandIn u)=true:=by kernel_rfl
     exact (show Tryd.prog.wantsStandIn t=false by simpa using A6.1 hall t hm)⟩)
  (by kernel_rfl)
end Go.Proofs.YtdbpmhfepfpldaaDoor
#print axioms Go.Proofs.YtdbpmhfepfpldaaDoor.formCompares_holds
