/- The law SyntaxBack over abstract values. The law SyntaxTexts over abstract values. The law SyntaxBlanks over abstract values. The given statement SyntaxBlanks, as a card: for every input the law returns true. Conditions: none. -/
import Derived.Test.YtifplkldbbcldaaGreatDoorXTc
set_option linter.unusedSimpArgs false
set_option linter.unusedVariables false
set_option maxRecDepth 4000
set_option maxHeartbeats 8000000
open Bool renaming and_eq_true→AK
open List renaming all_eq_true→A4,mem_append→BF,mem_singleton→Da,length_drop→Ad,length→Mf,length_append→AA,map_cons→AE,map_nil→AH,length_map→AI,mem_of_getElem?→Ah,mem_of_mem_take→Bf,length_take→BU,mem_cons→Bm
open Nat renaming mul_le_mul_right→Ai
open Int renaming reduceBEq→A5
open Option.some renaming inj→GN
namespace Go.Ab
open Go.Proofs
theorem dY {p:Pg} (h:E6 p=true):∀d∈p.data,∀c∈d.cons,c.args.length≤1000000:=fun d hd c hc=>by
 have:=(RA h).1.2 d hd
 simp only [IY,AK,decide_eq_true_eq,A4] at this
 have:=this.2 c hc
 simp only [UA,AK,decide_eq_true_eq] at this
 omega
theorem wG (n:Nat):decide ((16384:Int) < (n:Int))=decide (16384 < n):=decide_eq_decide.2 (by omega)
end Go.Ab
namespace Go.Ab
open Go.Proofs
theorem Zx {a:Str} (h:(Dg a).2.2=0):E6 (Dg a).1=true:=by
 obtain ⟨_,_,_,h4⟩:=mT h
 first|exact h4|exact h4.1
end Go.Ab
namespace Go.Ab
open Go.Proofs
theorem Tg:∀(n:Nat) (rest:Str) (i:Nat) (acc:List Tok),rest.length≤20000→(∀t∈acc,t.text.length≤20000)→∀t∈(Cd n rest i acc).1,t.text.length≤20000
 |0,rest,i,acc,_,_=>fun t ht=>by cases ht
 |n+1,[],i,acc,_,ha=>fun t ht=>by
  rcases BF.1 ht with ht|ht
  · exact ha t ht
  · rw [Da] at ht;subst ht;simp
 |n+1,b::r,i,acc,hl,ha=>by
  rw [Cd]
  by_cases hb:TA b.toNat=true
  · rw [if_pos hb]
    exact Tg n r (i+1) acc (by simp at hl;omega) ha
  · rw [if_neg hb]
    by_cases hc:(b==35)=true
    · rw [if_pos hc]
      exact Tg n _ _ acc (by rw [Ad];omega) ha
    · rw [if_neg hc]
      cases hs:Cc (b::r) with
      |error e=>
       intro t ht
       cases ht
      |ok x=>
       obtain ⟨k,t⟩:=x
       refine Tg n _ _ _ (by rw [Ad];omega) (fun u hu=>?_)
       rcases BF.1 hu with hu|hu
       · exact ha u hu
       · rw [Da] at hu
         subst hu
         have h1:=congrArg Mf (aH hs)
         rw [AA] at h1
         simp only
         omega
theorem dM {s:Str}:∀t∈(Ao s).1,t.text.length≤20000:=by
 unfold Ao
 split
 · intro t ht;cases ht
 · exact Tg _ _ _ _ (by omega) (by simp)
theorem ZV {l:List Tok} {i:Nat} {t:Tok} (h:l[i]?=some t):DM (l.take (i+1))=DM (l.take i)++(t.text++Vr):=by
 rw [Jg h,Vm];simp [DM]
theorem bJ {l:List Tok} (h:∀t∈l,t.text.length≤20000):(DM l).length≤l.length * 20004:=by
 have:=RN (fun t:Tok=>t.text++Vr) 20004 l (fun t ht=>by rw [AA];have:=h t ht;have:Vr.length=4:=rfl;omega)
 exact this
theorem sA (n:Nat):decide ((500:Int) < (n:Int))=decide (500 < n):=decide_eq_decide.2 (by omega)
theorem Uy (a:Str) (σ:AN) (hg:Va σ) (hp:σ.gt Qg=some Sj):AT Tryz.prog 8 [.d (.str a)] σ (fun v σ'=>v= .d (.bool true)∧σ'=σ):=by
 have haw:=WN σ hg hp
 have hpa:=Ku a σ hg
 have hsp:=MV a σ
 refine QP (by simp) ?_
 rw [BO]
 have hvalid:=Zx (a:=a)
 have hbl:=Yr (a:=a)
 have htl:=dM (s:=a)
 have hpb:=Ku (DM (Ao a).1) σ hg
 generalize Dg (DM (Ao a).1)=r2 at hpb hbl
 generalize Dg a=r at hpa hvalid hbl
 obtain ⟨p,at',code⟩:=r
 obtain ⟨p2,at2,code2⟩:=r2
 generalize Ao a=sp at hsp htl hbl hpb
 obtain ⟨toks,sat,scode⟩:=sp
 simp only at hvalid hbl htl hpb
 have heq:=fun h=>aD p p σ (dY (hvalid h))
 rw [PK] at heq
 simp only [cU,pgA,Pg.enc,AE,AH] at hpa hpb heq
 simp only [Qv] at hsp
 by_cases hc:code=0
 rotate_left
 · (repeat' (first|refine Run.ct rfl ?_|((first|refine Run.reg mixed ?_|refine Run.AM ?_|refine Run.Ag Cg (AN.le_refl _) ?_|refine AG.det (hpa) ?_|refine AG.det (hsp) ?_|refine AG.det (haw) ?_|(refine AQ rfl (fun h=>?_) (fun h=>?_)<;>try (cases h;done)))<;>try simp -implicitDefEqProofs only [WI hc,go_sem])|(refine ⟨fun h=>?_,fun h=>?_⟩<;>first|(cases h;done)|try simp only [h])|fail))
 subst hc
 by_cases hs:scode=0
 rotate_left
 · (repeat' (first|refine Run.ct rfl ?_|((first|refine Run.reg mixed ?_|refine Run.AM ?_|refine Run.Ag Cg (AN.le_refl _) ?_|refine AG.det (hpa) ?_|refine AG.det (hsp) ?_|refine AG.det (haw) ?_|(refine AQ rfl (fun h=>?_) (fun h=>?_)<;>try (cases h;done)))<;>try simp -implicitDefEqProofs only [WI hs,bne_self_eq_false,go_sem])|(refine ⟨fun h=>?_,fun h=>?_⟩<;>first|(cases h;done)|try simp only [h])|fail))
 subst hs
 by_cases h5:500 < toks.length
 · (repeat' (first|refine Run.ct rfl ?_|((first|refine Run.reg mixed ?_|refine Run.AM ?_|refine Run.Ag Cg (AN.le_refl _) ?_|refine AG.det (hpa) ?_|refine AG.det (hsp) ?_|refine AG.det (haw) ?_|(refine AQ rfl (fun h=>?_) (fun h=>?_)<;>try (cases h;done)))<;>try simp -implicitDefEqProofs only [bne_self_eq_false,AI,sA,decide_eq_true h5,go_sem])|(refine ⟨fun h=>?_,fun h=>?_⟩<;>first|(cases h;done)|try simp only [h])|fail))
 (repeat' (first|refine Run.ct rfl ?_|((first|refine Run.reg mixed ?_|refine Run.AM ?_|refine AG.det (hpa) ?_|refine AG.det (hsp) ?_|(refine AQ rfl (fun h=>?_) (fun h=>?_)<;>try (cases h;done)))<;>try simp -implicitDefEqProofs only [bne_self_eq_false,AI,sA,decide_eq_false h5,go_sem])|(refine ⟨fun h=>?_,fun h=>?_⟩<;>first|(cases h;done)|try simp only [h])|fail))
 refine Run.Co ?_
 refine Run.Cp ((fun (a3:AV) (a39:AV) (a40:AV)=>fun (i:Nat)=>put 3 a3 (put 9 (.d (.str (DM (toks.take i)))) (put 39 a39 (put 40 a40 (put 41 (.d (.int .i64 i)) U))))) _ _ _) (fun _=>Be 3 [.d (.sl (p.data.map DE.enc)),.d (.sl (p.R4.map FE.enc))] E) (fun _=>σ) (fun i=>i≤toks.length) (fun i=>toks.length - i) ?_ 0 (by simp)
 rintro i hi ih
 by_cases hlt:i < toks.length
 · obtain ⟨t,ht⟩:=DN hlt
   have he:=CW (enc:=Tok.enc) ht
   have hw1:IntKind.i64.wrap ((i:Int)+1)=((i+1:Nat):Int):=by rw [BJ (by omega) (by omega)];omega
   have hl1:=htl t (Ah ht)
   have hl2:=bJ (l:=toks.take i) (fun t ht=>htl t (Bf ht))
   have hl3:(toks.take i).length * 20004≤500 * 20004:=Ai _ (by rw [BU];omega)
   have hbt:=ZV ht
   obtain ⟨k,tx,q⟩:=t
   simp only [Tok.enc] at he hl1 hbt
   have ha1:=FQ (a:=tx) (b:=Vr) (by have:Vr.length=4:=rfl;omega)
   have ha2:=FQ (a:=DM (toks.take i)) (b:=tx++Vr) (by rw [AA];have:Vr.length=4:=rfl;omega)
   rw [← hbt] at ha2
   unfold Vr at ha1 ha2
   (repeat' (first|refine Run.ct rfl ?_|((first|refine Run.reg mixed ?_|refine Run.AM ?_|(refine AQ rfl (fun h=>?_) (fun h=>?_)<;>try (cases h;done)))<;>try simp -implicitDefEqProofs only [C9 hlt,he,hw1,ha1,ha2,go_sem])|(refine ⟨fun h=>?_,fun h=>?_⟩<;>first|(cases h;done)|try simp only [h])|fail))
   exact ih (i+1) (by omega) (by omega)
 have hie:i=toks.length:=by omega
 subst hie
 simp only [List.take_length]
 generalize DM toks=txt at hbl hpb
 by_cases hl:16384 < txt.length
 · (repeat' (first|refine Run.ct rfl ?_|((first|refine Run.reg mixed ?_|refine Run.AM ?_|refine Run.Ag Cg (AN.le_refl _) ?_|refine AG.det (haw) ?_|(refine AQ rfl (fun h=>?_) (fun h=>?_)<;>try (cases h;done)))<;>try simp -implicitDefEqProofs only [Ib hlt,wG,decide_eq_true hl,go_sem])|(refine ⟨fun h=>?_,fun h=>?_⟩<;>first|(cases h;done)|try simp only [h])|fail))
 · obtain ⟨e1,e2⟩:=hbl rfl (by omega)
   subst e1 e2
   have heq:=heq rfl
   (repeat' (first|refine Run.ct rfl ?_|((first|refine Run.reg mixed ?_|refine Run.AM ?_|refine Run.Ag Cg (AN.le_refl _) ?_|refine AG.det (hpb) ?_|refine AG.det (heq) ?_|refine AG.det (haw) ?_|(refine AQ rfl (fun h=>?_) (fun h=>?_)<;>try (cases h;done)))<;>try simp -implicitDefEqProofs only [Ib hlt,wG,decide_eq_false hl,A5,go_sem])|(refine ⟨fun h=>?_,fun h=>?_⟩<;>first|(cases h;done)|try simp only [h])|fail))
end Go.Ab
namespace Go.Ab
open Go.Proofs
theorem Tk (te:TypeId) (pe:Value) (av:List AV) (h:V9 Tryz.prog [9] av):AT Tryz.prog 8 av (Kt (gtT te pe)) (fun v _=>v= .d (.bool true)):=by
 obtain ⟨x0,rfl⟩:=kJ h
 exact (Uy x0 (Kt (gtT te pe)) (pC te pe) (pD te pe)).mono (fun _ _ h=>h.1)
end Go.Ab
namespace Go.Proofs.YtifplkldbbcldaaGreatDoor
open Go.ChangeShapes Go.WideShapes Go.ChangeAt Go.RowKit
set_option maxRecDepth 100000 in
theorem Rm (os:Os) (started:os.Started) (H:Type) (enc:TypeId×Value→H):
 ReturnsInHanded {} Tryz.checked os 8 .any (fun w args=>(Rows.syntaxBlanksSpec.pre enc Tryz.prog Tryz.f8 [] false w args∧laidMetH Tryz.prog Zj w)∧sizedMet enc Tryz.prog Tryz.f8 (OpenSpec.ofChange Rows.syntaxBlanksSpec) false w args)
  (Rows.syntaxBlanksSpec.post enc Tryz.prog Tryz.f8 false true false false):=by
 refine returnsInHanded_of_change_and (C:=Tryz.checked) (X:=fun w _=>laidMetH Tryz.prog Zj w) (fun _ _ _ hh h=>h.of_heap hh) Tryz.own started (by kernel_rfl) Tryz.func8
  (ChangeSpec.witness_shaped (enc:=enc) (C:=Tryz.checked) (os:=os) (X:=fun w _=>laidMetH Tryz.prog Zj w) false (World.doorLaid Tryz.prog 400 os) #[.string ⟨#[]⟩] 8 rfl (World.shaped_of_RefB (by kernel_rfl) (by kernel_rfl)) (by kernel_rfl) (by kernel_rfl) (by kernel_rfl) (k7 os _)) ?_
 intro W base args ds gs before hval hW _ _ hL _
 obtain ⟨te,pe,hT⟩:=pE hL
 refine Go.Ab.X7 (P:=Tryz.prog) (gt:=Go.Ab.gtT te pe) [9] Tryz.laidOut (by kernel_rfl) ?_ ?_ (tb:=4) (by kernel_rfl) Tryz.underlying4 rfl ?_ ?_ W hT base args ds gs before hval hW
 · rw [Tryz.params8];simp
 · rw [Tryz.params8]
   intro t ht
   simp only [Bm,List.not_mem_nil,or_false] at ht
   subst ht
   exact ⟨by kernel_rfl,of_decide_eq_true (by kernel_rfl)⟩
 · rw [Tryz.params8]
   intro ds hd
   match ds,hd with
   |[d0],_=>rfl
 · rw [Tryz.params8]
   exact Go.Ab.Tk te pe
theorem U8:Rows.SyntaxBlanksSaid:=
 OpenClaim.holds_of_wide 8 Tryz.f8 rfl rfl rfl rfl rfl rfl rfl ⟨rfl,rfl,rfl,rfl,rfl⟩ rfl rfl rfl rfl rfl (by kernel_rfl) Tryz.func8 (by kernel_rfl)
  (of_decide_eq_true (by kernel_rfl)) (by unfold Func.isWrapper;first|(rw [if_pos (by decide+kernel)];kernel_rfl)|(rw [if_neg (by decide+kernel)];exact ⟨rfl,rfl⟩))
  (fun os started H enc _=>Rm os started H enc)
theorem syntaxBlanks_holds:Rows.SyntaxBlanksCardSaid:=
 Claim7.holds_tied_plain_at .later [] [.data,.data,.data,.sentinel,.sentinel] true (true,"21a277a3e8a610eced9e93bcce68d99d4ad37844a2772ead4278e0ed35489f0c") true
  U8 (fun _ h=>by cases h) (by kernel_rfl) (fun _ h=>by cases h) syntaxBlanks_row_tie rfl ⟨rfl,rfl⟩ (by kernel_rfl) rfl
  (fun f fn hf hfn=>by
    obtain rfl:f=8:=GN ((show Tryz.prog.funcNamed "amortcost/amortcostlaw04.SyntaxBlanks"=some 8 by kernel_rfl).symm.trans hf)|>.symm
    obtain rfl:fn=Tryz.f8:=(GN (Tryz.func8.symm.trans hfn)).symm
    exact ⟨by kernel_rfl,fun j t ht=>by
     rw [Tryz.params8] at ht
     have hm:t∈[9]:=by simpa using Array.mem_of_getElem? ht
     have hall:([9].all fun u=>!Tryz.prog.wantsStandIn u)=true:=by kernel_rfl
     exact (show Tryz.prog.wantsStandIn t=false by simpa using A4.1 hall t hm)⟩)
  (by kernel_rfl)
end Go.Proofs.YtifplkldbbcldaaGreatDoor
#print axioms Go.Proofs.YtifplkldbbcldaaGreatDoor.syntaxBlanks_holds
