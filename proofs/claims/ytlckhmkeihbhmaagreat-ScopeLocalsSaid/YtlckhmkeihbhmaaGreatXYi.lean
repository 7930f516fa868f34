/- Programs with their variables set apart: Locals, and the law ScopeLocals over abstract values. The given statement ScopeLocals: for every input the law returns true. Conditions: none. -/
import Derived.Test.YtlckhmkeihbhmaaGreatRows
import Derived.Test.YtlckhmkeihbhmaaGreatXXo
set_option linter.unusedSimpArgs false
set_option linter.unusedVariables false
set_option maxRecDepth 4000
set_option maxHeartbeats 8000000
open List renaming map_cons→AH,map_nil→AM,length_map→AA,mem_of_getElem?→AS,take_of_length_le→AG,mem_map→CN,getElem?_eq_some_iff→AR,mem_cons→BW
open Nat renaming le_refl→A0,zero_le→C1
open Bool renaming and_false→Bg,false_and→B2,and_self→K5
namespace Go.Ab
open Go.Proofs
theorem VV (p:Pg) (hp:p.sm) (σ:AF):AK Tryz.prog 17 [pgA p,.d (.str [81,81])] σ (fun v σ'=>v=pgA p.loc∧σ'=σ):=by
 obtain ⟨_,hfl,hfm⟩:=hp
 refine Wf (by simp) ?_
 rw [BR]
 obtain ⟨ds,fs⟩:=p
 simp only [pgA,Pg.enc,Pg.loc,AH,AM] at hfl hfm ⊢
 (repeat' (first|refine Run.ct rfl ?_|((first|refine Run.reg mixed ?_|refine Run.AD ?_|(refine BO rfl (fun h=>?_) (fun h=>?_)<;>try (cases h;done)))<;>try simp -implicitDefEqProofs only [AA,go_sem])|(refine ⟨fun h=>?_,fun h=>?_⟩<;>first|(cases h;done)|try simp only [h])|fail))
 refine Run.Ay ?_
 refine Run.BB ((fun (a1:AV) (a4:AV) (a5:AV) (a12:AV) (a13:AV)=>fun (y:Nat×AV×AF)=>put 1 a1 (put 4 a4 (put 5 a5 (put 12 a12 (put 13 a13 (put 14 (.d (.int .i64 y.1)) U)))))) _ _ _ _ _) (fun y=>BA 4 [.AU,.AU] (BA 5 [.d (.sl (ds.map DE.enc)),y.2.1] E)) (fun y=>y.2.2) (fun y=>y.1≤fs.length∧Cl σ 44 8 (((fs.take y.1).map FE.loc).map FE.enc) y.2.1 y.2.2) (fun y=>fs.length - y.1) ?_ (0,.AU,σ) ⟨by simp,Cl.nil _ _ _⟩
 rintro ⟨i,v,τ⟩ ⟨hi,ho⟩ ih
 simp only at hi ho
 by_cases hlt:i < fs.length
 · obtain ⟨f,hf⟩:=Aw hlt
   have he:=Aq (enc:=FE.enc) hf
   have hw1:=A7 (show i+1≤9000000000000000000 by omega)
   obtain ⟨hf1,hf2,hf3,hf4⟩:=hfm f (AS hf)
   have hnx:((fs.take (i+1)).map FE.loc).map FE.enc=((fs.take i).map FE.loc).map FE.enc++[f.loc.enc]:=by
    rw [Am hf];simp
   obtain ⟨fn,fps,fb⟩:=f
   simp only at hf1 hf2 hf3 hf4
   have hf21:=hf2.1
   have hc:=Wp fb.size fb (A0 _) (by omega) hf3 fps τ (by omega)
   have hsv:=UT fps hf2 τ
   simp only [FE.loc] at hnx
   generalize fb.loc fps=fe at hc hnx
   obtain ⟨xo,xn,xu,xns,xks,xal⟩:=fb
   obtain ⟨yo,yn,yu,yns,yks,yal⟩:=fe
   simp only [FE.enc,exA,Ex.A3,AH,AM] at he hc hnx
   (repeat' (first|refine Run.ct rfl ?_|((first|refine Run.reg mixed ?_|refine Run.AD ?_|(refine Dh.own ho rfl (by simp) (by simp;omega) (by decide) (fun v3 σ3 ho3 hbk=>?_))|refine AI.det (hc) ?_|refine AI.det (hsv) ?_|(refine BO rfl (fun h=>?_) (fun h=>?_)<;>try (cases h;done)))<;>try simp -implicitDefEqProofs only [A8 hlt,he,hw1,ho.cell,ho.cells,ho.BF,ho.BG,go_sem])|(refine ⟨fun h=>?_,fun h=>?_⟩<;>first|(cases h;done)|try simp only [h])|fail))
   simp -implicitDefEqProofs only [ho3.cells,ho3.cell,go_sem]
   (repeat' (first|refine Run.ct rfl ?_|((first|refine Run.reg mixed ?_|refine Run.AD ?_|(refine BO rfl (fun h=>?_) (fun h=>?_)<;>try (cases h;done)))<;>try simp -implicitDefEqProofs only [hw1,ho3.cell,ho3.cells,go_sem])|(refine ⟨fun h=>?_,fun h=>?_⟩<;>first|(cases h;done)|try simp only [h])|fail))
   exact ih (i+1,v3,σ3) ⟨by simp only;omega,by simp only;rw [hnx];exact ho3⟩ (by simp only;omega)
 · rw [AG (by omega)] at ho
   (repeat' (first|refine Run.ct rfl ?_|((first|refine Run.reg mixed ?_|refine Run.AD ?_|(refine Run.A1 QO (σ2:=σ) ho.le ?_)|(refine BO rfl (fun h=>?_) (fun h=>?_)<;>try (cases h;done)))<;>try simp -implicitDefEqProofs only [B8 hlt,ho.cell,ho.cells,ho.BF,ho.BG,go_sem])|(refine ⟨fun h=>?_,fun h=>?_⟩<;>first|(cases h;done)|try simp only [h])|fail))
   simp -implicitDefEqProofs only [ho.plain,ho.BF,go_sem]
def qqB (s:Str):Bool:=decide (2≤s.length)&&s.drop (s.length - 2)==qq
theorem oL (m:Str):qqB (m++qq)=true:=by simp [qqB,qq]
theorem UY (p:Pg) (σ:AF):AK Tryz.prog 5 [pgA p] σ (fun v σ'=>v= .d (.bool true)∧σ'=σ):=by
 have hk:=YV p σ
 refine Pj (by simp) ?_
 rw [Bf]
 obtain ⟨ds,fs⟩:=p
 simp only [pgA,Pg.enc,AH,AM] at hk ⊢
 (repeat' (first|refine Run.ct rfl ?_|((first|refine Run.reg mixed ?_|refine Run.AD ?_|(refine AI.mk rfl hk ?_;rintro _ σ ⟨b,⟨rfl,rfl⟩,hb⟩;cases b)|(refine Run.A1 DI (AF.le_refl _) ?_)|(refine BO rfl (fun h=>?_) (fun h=>?_)<;>try (cases h;done)))<;>try simp -implicitDefEqProofs only [go_sem])|(refine ⟨fun h=>?_,fun h=>?_⟩<;>first|(cases h;done)|try simp only [h])|fail))
 have hsm:=hb rfl
 have hsd:∀d∈(⟨ds,fs⟩:Pg).data,HT d:=fun d hd c hc t ht=>by have:=((hsm.1.2 d hd).2.2.2 c hc).2.2 t ht;omega
 have hfl:fs.length≤26:=hsm.2.1
 have hfm:=hsm.2.2
 have hck:=Zq ⟨ds,fs⟩ σ hsd
 have hlg:=YU ⟨ds,fs⟩ 22 σ
 have hlo:=VV ⟨ds,fs⟩ hsm σ
 have haw:=VW σ
 simp only [pgA,Pg.enc,AH,AM] at hlg
 by_cases hc0:(KJ ⟨ds,fs⟩).1=0
 · have hne:((KJ ⟨ds,fs⟩).1 != 0)=false:=by rw [hc0];rfl
   simp only [pgA,Pg.enc,AH,AM,dgA] at hck hlo
   generalize hgd:KJ ⟨ds,fs⟩=gd at hck hne hc0
   obtain ⟨g1,g2,g3⟩:=gd
   (repeat' (first|refine Run.ct rfl ?_|((first|refine Run.reg mixed ?_|refine Run.AD ?_|(refine AI.mk rfl hlg ?_;rintro _ σ ⟨b,⟨rfl,rfl⟩,hb2⟩;cases b)|(refine Run.A1 DI (AF.le_refl _) ?_)|refine AI.det (hck) ?_|(refine BO rfl (fun h=>?_) (fun h=>?_)<;>try (cases h;done)))<;>try simp -implicitDefEqProofs only [hne,go_sem])|(refine ⟨fun h=>?_,fun h=>?_⟩<;>first|(cases h;done)|try simp only [h])|fail))
   have hsh:=hb2 rfl
   (repeat' (first|refine Run.ct rfl ?_|((first|refine Run.reg mixed ?_|refine Run.AD ?_|refine AI.det (hlo) ?_|(refine BO rfl (fun h=>?_) (fun h=>?_)<;>try (cases h;done)))<;>try simp -implicitDefEqProofs only [AA,go_sem])|(refine ⟨fun h=>?_,fun h=>?_⟩<;>first|(cases h;done)|try simp only [h])|fail))
   refine Run.Ay ?_
   refine Run.BB ((fun (a1:AV) (a3:AV) (a23:AV) (a24:AV)=>fun (y:Nat)=>put 1 a1 (put 3 a3 (put 23 a23 (put 24 a24 (put 25 (.d (.int .i64 y)) U))))) _ _ _ _) (fun _=>BA 1 [.d (.sl (ds.map DE.enc)),.d (.sl (fs.map FE.enc))] (BA 3 [.d (.sl (ds.map DE.enc)),.d (.sl ((fs.map FE.loc).map FE.enc))] E)) (fun _=>σ) (fun y=>y≤fs.length∧∀k f,k < y→fs[k]?=some f→qqB f.name=false) (fun y=>fs.length - y) ?_ 0 ⟨C1 _,fun k f hk=>by omega⟩
   rintro i ⟨hi,hall⟩ ih
   by_cases hlt:i < fs.length
   · obtain ⟨f,hf⟩:=Aw hlt
     have he:=Aq (enc:=FE.enc) hf
     have hw1:=A7 (show i+1≤9000000000000000000 by omega)
     have hf1:=(hfm f (AS hf)).1
     have hih:=fun h=>ih (i+1) ⟨hlt,h⟩ (by omega)
     have hq:∀k g,k < i+1→fs[k]?=some g→qqB f.name=false→qqB g.name=false:=fun k g hk hg h=>by
      by_cases hki:k < i
      · exact hall k g hki hg
      · have:k=i:=by omega
        subst this
        rw [hf] at hg;cases hg;exact h
     obtain ⟨fn,fps,fb⟩:=f
     obtain ⟨xo,xn,xu,xns,xks,xal⟩:=fb
     simp only [FE.enc,Ex.A3,AH,AM] at he hf1 hq
     by_cases h2:2≤fn.length
     · have hs:=dQ (s:=fn) (n:=fn.length - 2) (by omega)
       have hw2:IntKind.i64.wrap ((fn.length:Int) - 2)=((fn.length - 2:Nat):Int):=by rw [As (by omega) (by omega)];omega
       have h2d:decide ((2:Int)≤(fn.length:Int))=true:=by simp;omega
       cases hqq:(fn.drop (fn.length - 2)==[81,81]) with
       |true=>
        (repeat' (first|refine Run.ct rfl ?_|((first|refine Run.reg mixed ?_|refine Run.AD ?_|(refine Run.A1 DI (AF.le_refl _) ?_)|refine AI.det (haw) ?_|(refine BO rfl (fun h=>?_) (fun h=>?_)<;>try (cases h;done)))<;>try simp -implicitDefEqProofs only [A8 hlt,he,h2d,hw2,hs,hqq,go_sem])|(refine ⟨fun h=>?_,fun h=>?_⟩<;>first|(cases h;done)|try simp only [h])|fail))
       |false=>
        (repeat' (first|refine Run.ct rfl ?_|((first|refine Run.reg mixed ?_|refine Run.AD ?_|(refine BO rfl (fun h=>?_) (fun h=>?_)<;>try (cases h;done)))<;>try simp -implicitDefEqProofs only [A8 hlt,he,h2d,hw2,hs,hqq,hw1,go_sem])|(refine ⟨fun h=>?_,fun h=>?_⟩<;>first|(cases h;done)|try simp only [h])|fail))
        exact hih (fun k g hk hg=>hq k g hk hg (by rw [qqB,show (fn.drop (fn.length - 2)==qq)=false from hqq,Bg]))
     · have h2d:decide ((2:Int)≤(fn.length:Int))=false:=by simp;omega
       (repeat' (first|refine Run.ct rfl ?_|((first|refine Run.reg mixed ?_|refine Run.AD ?_|(refine BO rfl (fun h=>?_) (fun h=>?_)<;>try (cases h;done)))<;>try simp -implicitDefEqProofs only [A8 hlt,he,h2d,hw1,go_sem])|(refine ⟨fun h=>?_,fun h=>?_⟩<;>first|(cases h;done)|try simp only [h])|fail))
       exact hih (fun k g hk hg=>hq k g hk hg (by rw [qqB,decide_eq_false h2,B2]))
   · have hno:Zh (⟨ds,fs⟩:Pg).Hp:=fun n hn m e=>by
      obtain ⟨f,hf,rfl⟩:=CN.1 hn
      obtain ⟨k,hk⟩:=List.mem_iff_getElem?.1 hf
      have hkl:=(AR.1 hk).1
      have:=hall k f (by simp only at hkl;omega) hk
      rw [e,oL] at this
      cases this
     have hc0':(KJ ⟨ds,fs⟩).1=0:=by rw [hgd];exact hc0
     have hsd2:∀d∈(Pg.loc ⟨ds,fs⟩).data,HT d:=hsd
     have hck2:=Kx (Pg.loc ⟨ds,fs⟩) σ hsd2
     have hcl:=Kw ⟨ds,fs⟩ σ hsd
     have hcl2:=Kw (Pg.loc ⟨ds,fs⟩) σ hsd2
     have hgr:=Nr ⟨ds,fs⟩ σ hsd
     have hgr2:=Nr (Pg.loc ⟨ds,fs⟩) σ hsd2
     have hsr:=M5 (Ez ⟨ds,fs⟩) (Ez ⟨ds,fs⟩) σ
     rw [show (Ez ⟨ds,fs⟩==Ez ⟨ds,fs⟩)=true by simp] at hsr
     have hsr2:=M5 (KO ⟨ds,fs⟩) (KO ⟨ds,fs⟩) σ
     rw [show (KO ⟨ds,fs⟩==KO ⟨ds,fs⟩)=true by simp] at hsr2
     rw [ZM hsh hno hc0'] at hck2
     rw [Uw hsh hno hc0'] at hcl2
     rw [KO,Uw hsh hno hc0',← KO] at hgr2
     generalize Ez ⟨ds,fs⟩=cl at hcl hcl2 hsr
     generalize KO ⟨ds,fs⟩=gr at hgr hgr2 hsr2
     simp only [pgA,Pg.enc,Pg.loc,AH,AM,dgA] at hck2 hcl hcl2 hgr hgr2
     (repeat' (first|refine Run.ct rfl ?_|((first|refine Run.reg mixed ?_|refine Run.AD ?_|(refine Run.A1 DI (AF.le_refl _) ?_)|refine AI.det (hck2) ?_|refine AI.det (hcl) ?_|refine AI.det (hcl2) ?_|refine AI.det (hgr) ?_|refine AI.det (hgr2) ?_|refine AI.det (hsr) ?_|refine AI.det (hsr2) ?_|refine AI.det (haw) ?_|(refine BO rfl (fun h=>?_) (fun h=>?_)<;>try (cases h;done)))<;>try simp -implicitDefEqProofs only [B8 hlt,beq_self_eq_true,K5,go_sem])|(refine ⟨fun h=>?_,fun h=>?_⟩<;>first|(cases h;done)|try simp only [h])|fail))
 · have hne:((KJ ⟨ds,fs⟩).1 != 0)=true:=by simpa using hc0
   simp only [pgA,Pg.enc,AH,AM,dgA] at hck
   generalize KJ ⟨ds,fs⟩=gd at hck hne
   obtain ⟨g1,g2,g3⟩:=gd
   (repeat' (first|refine Run.ct rfl ?_|((first|refine Run.reg mixed ?_|refine Run.AD ?_|(refine Run.A1 DI (AF.le_refl _) ?_)|refine AI.det (hck) ?_|(refine BO rfl (fun h=>?_) (fun h=>?_)<;>try (cases h;done)))<;>try simp -implicitDefEqProofs only [hne,go_sem])|(refine ⟨fun h=>?_,fun h=>?_⟩<;>first|(cases h;done)|try simp only [h])|fail))
end Go.Ab
namespace Go.Ab
open Go.Proofs
theorem Sz (av:List AV) (h:TG Tryz.prog [25] av):AK Tryz.prog 5 av dS (fun v _=>v= .d (.bool true)):=by
 obtain ⟨p,rfl⟩:=m4 h
 exact (UY p dS).mono (fun _ _ h=>h.1)
end Go.Ab
namespace Go.Proofs.YtlckhmkeihbhmaaGreat
open Go.ChangeShapes Go.WideShapes Go.ChangeAt Go.RowKit
theorem Tryz.own:ownKnob Tryz.prog.godebug=none:=by kernel_rfl
theorem Tryz.laidOut:laidOutB Tryz.prog=true:=by kernel_rfl
set_option maxRecDepth 100000 in
theorem Qx (os:Os) (started:os.Started) (H:Type) (enc:TypeId×Value→H):
 ReturnsInHanded {} Tryz.checked os 5 .any (Rows.scopeLocalsSpec.pre6 enc Tryz.prog Tryz.f5 Rows.scopeLocalsRow.domain false) (Rows.scopeLocalsSpec.post enc Tryz.prog Tryz.f5 false true false false):=by
 refine returnsInHanded_of_change (C:=Tryz.checked) Tryz.own started (by kernel_rfl) Tryz.func5
  (ChangeSpec.witness6 (enc:=enc) (C:=Tryz.checked) false ⟨#[],#[.agg #[.slice none 0 0,.slice none 0 0]],[]⟩ 8 (by kernel_rfl) (by kernel_rfl) (by kernel_rfl) (by kernel_rfl)) ?_
 intro W base args ds gs before hval hW _ _
 refine Go.Ab.YZ (P:=Tryz.prog) [25,22,68,9,38,66,72,70,74,3,23,44,42,2,39,40,129] Tryz.laidOut (by kernel_rfl) ?_ ?_ (tb:=4) (by kernel_rfl) Tryz.underlying4 rfl ?_ ?_ W base args ds gs before hval hW
 · rw [Tryz.params5];simp
 · rw [Tryz.params5]
   intro t ht
   simp only [BW,List.not_mem_nil,or_false] at ht
   subst ht
   exact ⟨by kernel_rfl,of_decide_eq_true (by kernel_rfl)⟩
 · rw [Tryz.params5]
   intro ds hd
   match ds,hd with
   |[d0],_=>rfl
 · rw [Tryz.params5]
   exact Go.Ab.Sz
theorem scopeLocals_holds:Rows.ScopeLocalsSaid:=
 OpenClaim.holds_of_wide 5 Tryz.f5 rfl rfl rfl rfl rfl rfl rfl ⟨rfl,rfl,rfl,rfl,rfl⟩ rfl rfl rfl rfl rfl (by kernel_rfl) Tryz.func5 (by kernel_rfl)
  (of_decide_eq_true (by kernel_rfl)) (by unfold Func.isWrapper;first|(rw [if_pos (by decide+kernel)];kernel_rfl)|(rw [if_neg (by decide+kernel)];exact ⟨rfl,rfl⟩))
  (fun os started H enc _=>Qx os started H enc)
end Go.Proofs.YtlckhmkeihbhmaaGreat
#print axioms Go.Proofs.YtlckhmkeihbhmaaGreat.scopeLocals_holds
