/- The printer: primary expressions, long ones. The printer: long expressions. The printer: expressions. Conditions: none. -/
import Derived.Test.YtifplkldbbcldaaGreatDoorXCdQe
set_option linter.unusedSimpArgs false
set_option linter.unusedVariables false
set_option maxRecDepth 4000
set_option maxHeartbeats 8000000
open Bool renaming and_eq_true→AM,false_eq_true→AU
open List renaming map_cons→AG,map_nil→AH,length_cons→AB,length_append→AA,length_nil→AD,append_assoc→AS,cons_append→A0,nil_append→A1,append_nil→AY,all_eq_true→A4,mem_cons→CW,mem_map→Iw,take_of_length_le→A6,mem_cons_of_mem→An,mem_cons_self→Ag,getElem?_cons_zero→A5,length_map→AE
open Int renaming reduceBEq→AP,toNat_zero→Ok
open Option renaming bind_some→B2
namespace Go.Ab
open Go.Proofs
def vQ (o:Int):Prop:=o=1∨o=2∨o=3∨o=4∨o=5∨o=6∨o=14∨o=15∨o=16
set_option maxHeartbeats 4000000 in
theorem vS {i:Nat} {o:Int} {n:Str} {u:Int} {ns:List Str} {ks:List Ex} {al:List Al} (hn:GJ o n u ns ks.length al=true) (ho:vQ o)
 (hk:∀x∈ks,WC 139 [.gp i 0,exA x] i (Af x)):WC 93 [.gp i 0,exA (.mk o n u ns ks al)] i (Af (.mk o n u ns ks al)):=by
 intro σ0 σ0' s hH hb0 hlen
 have hli:=oE hk
 have hop:=Sg (H:=fun _=>True) i (first:=[.gp i 0]) (caps:=[]) (by kernel_rfl:Aw Tryz.prog 139=true) ⟨rfl,rfl⟩ Af ks hk
 have hpow:σ0'.gt Sk=some Un:=by rw [← hb0.le.gt];exact hH.2
 simp only [GJ,AM] at hn
 obtain ⟨⟨⟨⟨hnm,hnu⟩,hns⟩,has⟩,hnk⟩:=hn
 refine R0 (by simp) ?_
 rw [BP]
 simp only [exA,Ex.A3,AG,AH]
 rw [Af,Ij] at hlen ⊢
 rcases ho with rfl|rfl|rfl|rfl|rfl|rfl|rfl|rfl|rfl
 · have e:G9 1 n u ns ks (ks.map Af) (KF al)=[40,41]:=rfl
   rw [e] at hlen ⊢
   (repeat' (first|refine Run.ct rfl ?_|((first|refine Run.reg mixed ?_|refine Run.AJ ?_|(refine AI.mk rfl (A7 [40,41] hb0 (by (try simp only [AB,AA,AD] at hlen ⊢);omega)) ?_;rintro _ σ1 ⟨rfl,hb1⟩))<;>try simp -implicitDefEqProofs only [AP,go_sem])|fail))
   try simp only [AS,A0,A1,AY] at hb1 ⊢
   exact Run.fin BT rfl (fun _ _ h=>h) (AN.le_refl _) ⟨rfl,hb1⟩
 · by_cases hu:u=1
   · subst hu
     have e:G9 2 n 1 ns ks (ks.map Af) (KF al)=[116,114,117,101]:=rfl
     rw [e] at hlen ⊢
     have hfb:=Tr true σ0'
     simp only [if_true] at hfb
     (repeat' (first|refine Run.ct rfl ?_|((first|refine Run.reg mixed ?_|refine Run.AJ ?_|(refine AI.mk rfl (A7 [116,114,117,101] hb0 hlen) ?_;rintro _ σ1 ⟨rfl,hb1⟩)|refine AI.det (hfb) ?_)<;>try simp -implicitDefEqProofs only [AP,go_sem])|fail))
     try simp only [AS,A0,A1,AY] at hb1 ⊢
     exact Run.fin BT rfl (fun _ _ h=>h) (AN.le_refl _) ⟨rfl,hb1⟩
   · have e:G9 2 n u ns ks (ks.map Af) (KF al)=[102,97,108,115,101]:=by show (if u=1 then _ else _)=_;rw [if_neg hu]
     rw [e] at hlen ⊢
     have hfb:=Tr false σ0'
     simp only [AU,if_false] at hfb
     (repeat' (first|refine Run.ct rfl ?_|((first|refine Run.reg mixed ?_|refine Run.AJ ?_|(refine AI.mk rfl (A7 [102,97,108,115,101] hb0 hlen) ?_;rintro _ σ1 ⟨rfl,hb1⟩)|refine AI.det (hfb) ?_)<;>try simp -implicitDefEqProofs only [AP,Bt hu,go_sem])|fail))
     try simp only [AS,A0,A1,AY] at hb1 ⊢
     exact Run.fin BT rfl (fun _ _ h=>h) (AN.le_refl _) ⟨rfl,hb1⟩
 · have e:G9 3 n u ns ks (ks.map Af) (KF al)=Lib.itoa u:=rfl
   rw [e] at hlen ⊢
   have hfi:=La u σ0' hpow
   (repeat' (first|refine Run.ct rfl ?_|((first|refine Run.reg mixed ?_|refine Run.AJ ?_|(refine AI.mk rfl (A7 (Lib.itoa u) hb0 hlen) ?_;rintro _ σ1 ⟨rfl,hb1⟩)|refine AI.det (hfi) ?_)<;>try simp -implicitDefEqProofs only [AP,go_sem])|fail))
   try simp only [AS,A0,A1,AY] at hb1 ⊢
   exact Run.fin BT rfl (fun _ _ h=>h) (AN.le_refl _) ⟨rfl,hb1⟩
 · have e:G9 4 n u ns ks (ks.map Af) (KF al)=n++Dc (ks.map Af):=rfl
   rw [e] at hlen ⊢
   (repeat' (first|refine Run.ct rfl ?_|((first|refine Run.reg mixed ?_|refine Run.AJ ?_|(refine AI.mk rfl (A7 n hb0 (by (try simp only [AB,AA,AD] at hlen ⊢);omega)) ?_;rintro _ σ1 ⟨rfl,hb1⟩))<;>try simp -implicitDefEqProofs only [AP,go_sem])|fail))
   (repeat' (first|refine Run.ct rfl ?_|((first|refine Run.reg mixed ?_|refine Run.AJ ?_|(refine AI.mk rfl (hop σ0 σ1 _ hH hb1 (by (try simp only [AB,AA,AD] at hlen ⊢);omega)) ?_;rintro _ σ2 ⟨rfl,hb2⟩))<;>try simp -implicitDefEqProofs only [AP,go_sem])|fail))
   try simp only [AS,A0,A1,AY] at hb2 ⊢
   exact Run.fin BT rfl (fun _ _ h=>h) (AN.le_refl _) ⟨rfl,hb2⟩
 · have e:G9 5 n u ns ks (ks.map Af) (KF al)=FU (ks.map Af):=rfl
   rw [e] at hlen ⊢
   (repeat' (first|refine Run.ct rfl ?_|((first|refine Run.reg mixed ?_|refine Run.AJ ?_|(refine AI.mk rfl (hli σ0 σ0' _ hH hb0 (by (try simp only [AB,AA,AD] at hlen ⊢);omega)) ?_;rintro _ σ1 ⟨rfl,hb1⟩))<;>try simp -implicitDefEqProofs only [AP,go_sem])|fail))
   try simp only [AS,A0,A1,AY] at hb1 ⊢
   exact Run.fin BT rfl (fun _ _ h=>h) (AN.le_refl _) ⟨rfl,hb1⟩
 · have e:G9 6 n u ns ks (ks.map Af) (KF al)=n++Dc (ks.map Af):=rfl
   rw [e] at hlen ⊢
   (repeat' (first|refine Run.ct rfl ?_|((first|refine Run.reg mixed ?_|refine Run.AJ ?_|(refine AI.mk rfl (A7 n hb0 (by (try simp only [AB,AA,AD] at hlen ⊢);omega)) ?_;rintro _ σ1 ⟨rfl,hb1⟩))<;>try simp -implicitDefEqProofs only [AP,go_sem])|fail))
   (repeat' (first|refine Run.ct rfl ?_|((first|refine Run.reg mixed ?_|refine Run.AJ ?_|(refine AI.mk rfl (hop σ0 σ1 _ hH hb1 (by (try simp only [AB,AA,AD] at hlen ⊢);omega)) ?_;rintro _ σ2 ⟨rfl,hb2⟩))<;>try simp -implicitDefEqProofs only [AP,go_sem])|fail))
   try simp only [AS,A0,A1,AY] at hb2 ⊢
   exact Run.fin BT rfl (fun _ _ h=>h) (AN.le_refl _) ⟨rfl,hb2⟩
 · simp [nuB] at hnu
   obtain ⟨k,rfl⟩:∃k:Nat,u=k:=⟨u.toNat,by omega⟩
   have hpr:=XF k (by omega) (by omega) σ0'
   have e:G9 14 n (k:Int) ns ks (ks.map Af) (KF al)=prT (k:Int)++FU (ks.map Af):=rfl
   rw [e] at hlen ⊢
   (repeat' (first|refine Run.ct rfl ?_|((first|refine Run.reg mixed ?_|refine Run.AJ ?_|(refine AI.mk rfl (A7 (prT (k:Int)) hb0 (by (try simp only [AB,AA,AD] at hlen ⊢);omega)) ?_;rintro _ σ1 ⟨rfl,hb1⟩)|refine AI.det (hpr) ?_)<;>try simp -implicitDefEqProofs only [AP,go_sem])|fail))
   (repeat' (first|refine Run.ct rfl ?_|((first|refine Run.reg mixed ?_|refine Run.AJ ?_|(refine AI.mk rfl (hli σ0 σ1 _ hH hb1 (by (try simp only [AB,AA,AD] at hlen ⊢);omega)) ?_;rintro _ σ2 ⟨rfl,hb2⟩))<;>try simp -implicitDefEqProofs only [AP,go_sem])|fail))
   try simp only [AS,A0,A1,AY] at hb2 ⊢
   exact Run.fin BT rfl (fun _ _ h=>h) (AN.le_refl _) ⟨rfl,hb2⟩
 · have e:G9 15 n u ns ks (ks.map Af) (KF al)=[116,105,99,107,40]++(Lib.itoa u++[41]):=rfl
   rw [e] at hlen ⊢
   have hfi:=La u σ0' hpow
   have ha1:=B7 (a:=[116,105,99,107,40]) (b:=Lib.itoa u) (by simp only [AB,AA,AD] at hlen ⊢;omega)
   have ha2:=B7 (a:=[116,105,99,107,40]++Lib.itoa u) (b:=[41]) (by simp only [AB,AA,AD] at hlen ⊢;omega)
   simp only [A0,A1] at ha1 ha2
   (repeat' (first|refine Run.ct rfl ?_|((first|refine Run.reg mixed ?_|refine Run.AJ ?_|(refine AI.mk rfl (A7 _ hb0 (by (try simp only [AB,AA,AD] at hlen ⊢);omega)) ?_;rintro _ σ1 ⟨rfl,hb1⟩)|refine AI.det (hfi) ?_)<;>try simp -implicitDefEqProofs only [AP,ha1,ha2,go_sem])|fail))
   try simp only [AS,A0,A1,AY] at hb1 ⊢
   exact Run.fin BT rfl (fun _ _ h=>h) (AN.le_refl _) ⟨rfl,hb1⟩
 · have e:G9 16 n u ns ks (ks.map Af) (KF al)=[114,97,105,115,101]++FU (ks.map Af):=rfl
   rw [e] at hlen ⊢
   (repeat' (first|refine Run.ct rfl ?_|((first|refine Run.reg mixed ?_|refine Run.AJ ?_|(refine AI.mk rfl (A7 [114,97,105,115,101] hb0 (by (try simp only [AB,AA,AD] at hlen ⊢);omega)) ?_;rintro _ σ1 ⟨rfl,hb1⟩))<;>try simp -implicitDefEqProofs only [AP,go_sem])|fail))
   (repeat' (first|refine Run.ct rfl ?_|((first|refine Run.reg mixed ?_|refine Run.AJ ?_|(refine AI.mk rfl (hli σ0 σ1 _ hH hb1 (by (try simp only [AB,AA,AD] at hlen ⊢);omega)) ?_;rintro _ σ2 ⟨rfl,hb2⟩))<;>try simp -implicitDefEqProofs only [AP,go_sem])|fail))
   try simp only [AS,A0,A1,AY] at hb2 ⊢
   exact Run.fin BT rfl (fun _ _ h=>h) (AN.le_refl _) ⟨rfl,hb2⟩
end Go.Ab
namespace Go.Ab
open Go.Proofs
theorem ABC:Aw Tryz.prog 140=true:=by kernel_rfl
theorem yI:Aw Tryz.prog 143=true:=by kernel_rfl
theorem oY (i:Nat) (ns:List Str):WC 79 [.gp i 0,.d (.sl (ns.map BM)),.fn 140 [.gp i 0] []] i (Dc (ns.map shown)):=
 NW (H:=fun _=>True) i (first:=[.gp i 0]) (caps:=[]) ABC ⟨rfl,rfl⟩ shown ns (fun x _=>fZ i x)
theorem AA3 {i:Nat} (j:Nat) {c:Str} {vs:List Str} {b:Ex} (hb:WC 139 [.gp i 0,exA b] i (Af b)):
 WX (fun σ=>σ.blk j=some [.gp i 0]) 143 ([]++[alA (.mk c vs b)]++[.gp j 0]) i (E5 (.mk c vs b)):=by
 intro σ0 σ s hH0 hb0 hlen
 have hjs:=hH0.1
 have hH:(fun _=>True) σ0∧σ0.gt Sk=some Un:=⟨trivial,hH0.2⟩
 have hvs:=oY i vs
 refine PK (by simp) ?_
 show Run _ _ _ (Ar [_,_]) _ _
 rw [BP]
 rw [E5,alT] at hlen ⊢
 generalize Af b=tb at hb hlen ⊢
 obtain ⟨o',n',u',ns',ks',al'⟩:=b
 simp only [exA,alA,Al.A3,Ex.A3,AG,AH] at hb ⊢
 (repeat' (first|refine Run.ct rfl ?_|((first|refine Run.reg mixed ?_|refine Run.AJ ?_|(refine AI.mk rfl (A7 c hb0 (by (try simp only [AB,AA,AD] at hlen ⊢);omega)) ?_;rintro _ σ1 ⟨rfl,hb1⟩))<;>try simp -implicitDefEqProofs only [Al.A3,(hb0.le.blk j _ hjs),go_sem])|fail))
 try simp -implicitDefEqProofs only [(hb1.le.blk j _ hjs),go_sem]
 (repeat' (first|refine Run.ct rfl ?_|((first|refine Run.reg mixed ?_|refine Run.AJ ?_|(refine AI.mk rfl (hvs σ0 σ1 _ hH hb1 (by (try simp only [AB,AA,AD] at hlen ⊢);omega)) ?_;rintro _ σ2 ⟨rfl,hb2⟩))<;>try simp -implicitDefEqProofs only [Al.A3,(hb1.le.blk j _ hjs),go_sem])|fail))
 try simp -implicitDefEqProofs only [(hb2.le.blk j _ hjs),go_sem]
 (repeat' (first|refine Run.ct rfl ?_|((first|refine Run.reg mixed ?_|refine Run.AJ ?_|(refine AI.mk rfl (A7 [32,45,62,32] hb2 (by (try simp only [AB,AA,AD] at hlen ⊢);omega)) ?_;rintro _ σ3 ⟨rfl,hb3⟩))<;>try simp -implicitDefEqProofs only [Al.A3,(hb2.le.blk j _ hjs),go_sem])|fail))
 try simp -implicitDefEqProofs only [(hb3.le.blk j _ hjs),go_sem]
 (repeat' (first|refine Run.ct rfl ?_|((first|refine Run.reg mixed ?_|refine Run.AJ ?_|(refine AI.mk rfl (hb σ0 σ3 _ hH hb3 (by (try simp only [AB,AA,AD] at hlen ⊢);omega)) ?_;rintro _ σ4 ⟨rfl,hb4⟩))<;>try simp -implicitDefEqProofs only [Al.A3,(hb3.le.blk j _ hjs),go_sem])|fail))
 try simp only [AS,A0,A1,AY] at hb4 ⊢
 exact Run.fin Ip rfl (fun _ _ h=>h) (AN.le_refl _) ⟨rfl,hb4⟩
def oF (o:Int):Prop:=o=7∨o=8∨o=9∨o=10∨o=11∨o=17
set_option maxHeartbeats 8000000 in
theorem yJ {i:Nat} {o:Int} {n:Str} {u:Int} {ns:List Str} {ks:List Ex} {al:List Al} (hn:GJ o n u ns ks.length al=true) (ho:oF o)
 (hk:∀x∈ks,WC 139 [.gp i 0,exA x] i (Af x))
 (ha:∀x∈al,∀j,WX (fun σ=>σ.blk j=some [.gp i 0]) 143 ([]++[alA x]++[.gp j 0]) i (E5 x)):WC 89 [.gp i 0,exA (.mk o n u ns ks al)] i (Af (.mk o n u ns ks al)):=by
 intro σ0 σ s hH hbu hlen
 have hvs:=oY i ns
 have hbn:=fZ i n
 simp only [GJ,AM] at hn
 obtain ⟨⟨⟨⟨hnm,hnu⟩,hns⟩,has⟩,hnk⟩:=hn
 refine RY (by simp) ?_
 rw [BP]
 simp only [exA,Ex.A3,AG,AH]
 rw [Af,Ij,Ox] at hlen ⊢
 (repeat' (first|refine Run.ct rfl ?_|((first|refine Run.reg mixed ?_|refine Run.AJ ?_)<;>try simp -implicitDefEqProofs only [go_sem])|fail))
 intro j hj
 have hun:∀s' σ',BuS (σ0.AK j [.gp i 0]) i s' σ'→BuS σ0 i s' σ':=fun s' σ' h=>hbu.oW hj h
 have hjs:(σ0.AK j [.gp i 0]).blk j=some [.gp i 0]:=by simp [AO]
 have hH:(fun _=>True) (σ0.AK j [.gp i 0])∧(σ0.AK j [.gp i 0]).gt Sk=some Un:=⟨trivial,hH.2⟩
 have hb0:=hbu.share (cs:=[.gp i 0]) hj
 generalize σ.AK j [.gp i 0]=τ at hb0 ⊢
 generalize σ0.AK j [.gp i 0]=τ0 at hun hjs hH hb0
 have hHj:(fun σ=>σ.blk j=some [.gp i 0]) τ0∧τ0.gt Sk=some Un:=⟨hjs,hH.2⟩
 rcases ho with rfl|rfl|rfl|rfl|rfl|rfl
 · obtain ⟨a,b,rfl⟩:=PR (by simpa [nkB] using hnk)
   have hka:=hk a (by simp)
   have hkb:=hk b (by simp)
   have hp:=ZI [32,61,32] [32,105,110,32] [] hka hkb
   have e:G9 7 n u ns [a,b] ([a,b].map Af) (al.map E5)=[108,101,116,32]++(shown n++([32,61,32]++(Af a++([32,105,110,32]++(Af b++[]))))):=by show _=_;rw [AY];rfl
   rw [e] at hlen ⊢
   clear e
   generalize Af a=ta at *
   obtain ⟨oa,na,ua,nsa,ksa,ala⟩:=a
   generalize Af b=tb at *
   obtain ⟨ob,nb,ub,nsb,ksb,alb⟩:=b
   simp only [exA,Ex.A3,AG,AH] at hka hkb hp ⊢
   (repeat' (first|refine Run.ct rfl ?_|((first|refine Run.reg mixed ?_|refine Run.AJ ?_|(refine AI.mk rfl (A7 [108,101,116,32] hb0 (by (try simp only [AB,AA,AD] at hlen ⊢);omega)) ?_;rintro _ σ1 ⟨rfl,hb1⟩))<;>try simp -implicitDefEqProofs only [AP,(hb0.le.blk j _ hjs),go_sem])|fail))
   try simp -implicitDefEqProofs only [(hb1.le.blk j _ hjs),go_sem]
   (repeat' (first|refine Run.ct rfl ?_|((first|refine Run.reg mixed ?_|refine Run.AJ ?_|(refine AI.mk rfl (hbn τ0 σ1 _ hH hb1 (by (try simp only [AB,AA,AD] at hlen ⊢);omega)) ?_;rintro _ σ2 ⟨rfl,hb2⟩))<;>try simp -implicitDefEqProofs only [AP,(hb1.le.blk j _ hjs),go_sem])|fail))
   try simp -implicitDefEqProofs only [(hb2.le.blk j _ hjs),go_sem]
   (repeat' (first|refine Run.ct rfl ?_|((first|refine Run.reg mixed ?_|refine Run.AJ ?_|(refine AI.mk rfl (hp τ0 σ2 _ hH hb2 (by (try simp only [AB,AA,AD] at hlen ⊢);omega)) ?_;rintro _ σ3 ⟨rfl,hb3⟩))<;>try simp -implicitDefEqProofs only [AP,(hb2.le.blk j _ hjs),go_sem])|fail))
   try simp only [AS,A0,A1,AY] at hb3 ⊢
   exact Run.fin CL rfl (fun _ _ h=>h) (AN.le_refl _) ⟨rfl,hun _ _ hb3⟩
 · obtain ⟨a,b,rfl⟩:=PR (by simpa [nkB] using hnk)
   have hka:=hk a (by simp)
   have hkb:=hk b (by simp)
   have hp:=ZI [32,61,32] [32,105,110,32] [] hka hkb
   have e:G9 8 n u ns [a,b] ([a,b].map Af) (al.map E5)=[108,101,116,32]++(Dc (ns.map shown)++([32,61,32]++(Af a++([32,105,110,32]++(Af b++[]))))):=by show _=_;rw [AY];rfl
   rw [e] at hlen ⊢
   clear e
   generalize Af a=ta at *
   obtain ⟨oa,na,ua,nsa,ksa,ala⟩:=a
   generalize Af b=tb at *
   obtain ⟨ob,nb,ub,nsb,ksb,alb⟩:=b
   simp only [exA,Ex.A3,AG,AH] at hka hkb hp ⊢
   (repeat' (first|refine Run.ct rfl ?_|((first|refine Run.reg mixed ?_|refine Run.AJ ?_|(refine AI.mk rfl (A7 [108,101,116,32] hb0 (by (try simp only [AB,AA,AD] at hlen ⊢);omega)) ?_;rintro _ σ1 ⟨rfl,hb1⟩))<;>try simp -implicitDefEqProofs only [AP,(hb0.le.blk j _ hjs),go_sem])|fail))
   try simp -implicitDefEqProofs only [(hb1.le.blk j _ hjs),go_sem]
   (repeat' (first|refine Run.ct rfl ?_|((first|refine Run.reg mixed ?_|refine Run.AJ ?_|(refine AI.mk rfl (hvs τ0 σ1 _ hH hb1 (by (try simp only [AB,AA,AD] at hlen ⊢);omega)) ?_;rintro _ σ2 ⟨rfl,hb2⟩))<;>try simp -implicitDefEqProofs only [AP,(hb1.le.blk j _ hjs),go_sem])|fail))
   try simp -implicitDefEqProofs only [(hb2.le.blk j _ hjs),go_sem]
   (repeat' (first|refine Run.ct rfl ?_|((first|refine Run.reg mixed ?_|refine Run.AJ ?_|(refine AI.mk rfl (hp τ0 σ2 _ hH hb2 (by (try simp only [AB,AA,AD] at hlen ⊢);omega)) ?_;rintro _ σ3 ⟨rfl,hb3⟩))<;>try simp -implicitDefEqProofs only [AP,(hb2.le.blk j _ hjs),go_sem])|fail))
   try simp only [AS,A0,A1,AY] at hb3 ⊢
   exact Run.fin CL rfl (fun _ _ h=>h) (AN.le_refl _) ⟨rfl,hun _ _ hb3⟩
 · obtain ⟨a,b,c,rfl⟩:=iB (by simpa [nkB] using hnk)
   have hka:=hk a (by simp)
   have hkb:=hk b (by simp)
   have hkc:=hk c (by simp)
   have hp:=ZI [105,102,32] [32,116,104,101,110,32] [32,101,108,115,101,32] hka hkb
   have e:G9 9 n u ns [a,b,c] ([a,b,c].map Af) (al.map E5)=([105,102,32]++(Af a++([32,116,104,101,110,32]++(Af b++[32,101,108,115,101,32]))))++Af c:=by show [105,102,32]++(Af a++([32,116,104,101,110,32]++(Af b++([32,101,108,115,101,32]++Af c))))=_;simp only [AS,A0,A1]
   rw [e] at hlen ⊢
   clear e
   generalize Af a=ta at *
   obtain ⟨oa,na,ua,nsa,ksa,ala⟩:=a
   generalize Af b=tb at *
   obtain ⟨ob,nb,ub,nsb,ksb,alb⟩:=b
   generalize Af c=tc at *
   obtain ⟨oc,nc,uc,nsc,ksc,alc⟩:=c
   simp only [exA,Ex.A3,AG,AH] at hka hkb hkc hp ⊢
   (repeat' (first|refine Run.ct rfl ?_|((first|refine Run.reg mixed ?_|refine Run.AJ ?_|(refine AI.mk rfl (hp τ0 τ _ hH hb0 (by (try simp only [AB,AA,AD] at hlen ⊢);omega)) ?_;rintro _ σ1 ⟨rfl,hb1⟩))<;>try simp -implicitDefEqProofs only [AP,(hb0.le.blk j _ hjs),go_sem])|fail))
   try simp -implicitDefEqProofs only [(hb1.le.blk j _ hjs),go_sem]
   (repeat' (first|refine Run.ct rfl ?_|((first|refine Run.reg mixed ?_|refine Run.AJ ?_|(refine AI.mk rfl (hkc τ0 σ1 _ hH hb1 (by (try simp only [AB,AA,AD] at hlen ⊢);omega)) ?_;rintro _ σ2 ⟨rfl,hb2⟩))<;>try simp -implicitDefEqProofs only [AP,(hb1.le.blk j _ hjs),go_sem])|fail))
   try simp only [AS,A0,A1,AY] at hb2 ⊢
   exact Run.fin CL rfl (fun _ _ h=>h) (AN.le_refl _) ⟨rfl,hun _ _ hb2⟩
 · obtain ⟨a,rfl⟩:=Ui (by simpa [nkB] using hnk)
   have hka:=hk a (by simp)
   have hsep:=Sy (H:=fun σ=>σ.blk j=some [.gp i 0]) i (first:=[]) (caps:=[.gp j 0]) yI ⟨rfl,rfl⟩ [32,124,32] E5 al (fun x hx=>ha x hx j)
   have e:G9 10 n u ns [a] ([a].map Af) (al.map E5)=[109,97,116,99,104,32]++(Af a++([32,119,105,116,104,32]++(Lib.join (al.map E5) [32,124,32]++[32,101,110,100]))):=rfl
   rw [e] at hlen ⊢
   clear e
   generalize Af a=ta at *
   obtain ⟨oa,na,ua,nsa,ksa,ala⟩:=a
   simp only [exA,Ex.A3,AG,AH] at hka ⊢
   (repeat' (first|refine Run.ct rfl ?_|((first|refine Run.reg mixed ?_|refine Run.AJ ?_|(refine AI.mk rfl (A7 [109,97,116,99,104,32] hb0 (by (try simp only [AB,AA,AD] at hlen ⊢);omega)) ?_;rintro _ σ1 ⟨rfl,hb1⟩))<;>try simp -implicitDefEqProofs only [AP,(hb0.le.blk j _ hjs),go_sem])|fail))
   try simp -implicitDefEqProofs only [(hb1.le.blk j _ hjs),go_sem]
   (repeat' (first|refine Run.ct rfl ?_|((first|refine Run.reg mixed ?_|refine Run.AJ ?_|(refine AI.mk rfl (hka τ0 σ1 _ hH hb1 (by (try simp only [AB,AA,AD] at hlen ⊢);omega)) ?_;rintro _ σ2 ⟨rfl,hb2⟩))<;>try simp -implicitDefEqProofs only [AP,(hb1.le.blk j _ hjs),go_sem])|fail))
   try simp -implicitDefEqProofs only [(hb2.le.blk j _ hjs),go_sem]
   (repeat' (first|refine Run.ct rfl ?_|((first|refine Run.reg mixed ?_|refine Run.AJ ?_|(refine AI.mk rfl (A7 [32,119,105,116,104,32] hb2 (by (try simp only [AB,AA,AD] at hlen ⊢);omega)) ?_;rintro _ σ3 ⟨rfl,hb3⟩))<;>try simp -implicitDefEqProofs only [AP,(hb2.le.blk j _ hjs),go_sem])|fail))
   try simp -implicitDefEqProofs only [(hb3.le.blk j _ hjs),go_sem]
   (repeat' (first|refine Run.ct rfl ?_|((first|refine Run.reg mixed ?_|refine Run.AJ ?_|(refine AI.mk rfl (hsep τ0 σ3 _ hHj hb3 (by (try simp only [AB,AA,AD] at hlen ⊢);omega)) ?_;rintro _ σ4 ⟨rfl,hb4⟩))<;>try simp -implicitDefEqProofs only [AP,(hb3.le.blk j _ hjs),go_sem])|fail))
   try simp -implicitDefEqProofs only [(hb4.le.blk j _ hjs),go_sem]
   (repeat' (first|refine Run.ct rfl ?_|((first|refine Run.reg mixed ?_|refine Run.AJ ?_|(refine AI.mk rfl (A7 [32,101,110,100] hb4 (by (try simp only [AB,AA,AD] at hlen ⊢);omega)) ?_;rintro _ σ5 ⟨rfl,hb5⟩))<;>try simp -implicitDefEqProofs only [AP,(hb4.le.blk j _ hjs),go_sem])|fail))
   try simp only [AS,A0,A1,AY] at hb5 ⊢
   exact Run.fin CL rfl (fun _ _ h=>h) (AN.le_refl _) ⟨rfl,hun _ _ hb5⟩
 · obtain ⟨a,rfl⟩:=Ui (by simpa [nkB] using hnk)
   have hka:=hk a (by simp)
   have e:G9 11 n u ns [a] ([a].map Af) (al.map E5)=[102,110,40]++(Lib.join ns [44,32]++([41,32,45,62,32]++Af a)):=by show [102,110]++(FU ns++([32,45,62,32]++Af a))=_;simp [FU,GB,cms]
   rw [e] at hlen ⊢
   clear e
   generalize Af a=ta at *
   obtain ⟨oa,na,ua,nsa,ksa,ala⟩:=a
   simp only [exA,Ex.A3,AG,AH] at hka ⊢
   simp [nsB] at hns
   have hlen2:=hlen
   simp only [AB,AA,AD] at hlen2
   have hjn:=nE ns [44,32] τ (by omega) (by omega)
   have ha1:=B7 (a:=[102,110,40]) (b:=Lib.join ns [44,32]) (by simp only [AB,AD];omega)
   have ha2:=B7 (a:=[102,110,40]++Lib.join ns [44,32]) (b:=[41,32,45,62,32]) (by simp only [AA,AB,AD];omega)
   simp only [A0,A1] at ha1 ha2
   (repeat' (first|refine Run.ct rfl ?_|((first|refine Run.reg mixed ?_|refine Run.AJ ?_)<;>try simp -implicitDefEqProofs only [AP,(hb0.le.blk j _ hjs),go_sem])|fail))
   refine Run.FA mixed ?_
   simp -implicitDefEqProofs only [(hb0.le.blk j _ hjs),ha1,ha2,go_sem]
   refine ⟨?_,?_⟩
   all_goals (repeat' (first|refine Run.ct rfl ?_|((first|refine Run.reg mixed ?_|refine Run.AJ ?_|(refine AI.mk rfl (A7 _ hb0 (by (try simp only [AB,AA,AD] at hlen ⊢);omega)) ?_;rintro _ σ1 ⟨rfl,hb1⟩)|refine AI.det (hjn) ?_)<;>try simp -implicitDefEqProofs only [AP,ha1,ha2,(hb0.le.blk j _ hjs),go_sem])|fail))
   all_goals try simp -implicitDefEqProofs only [(hb1.le.blk j _ hjs),go_sem]
   all_goals (repeat' (first|refine Run.ct rfl ?_|((first|refine Run.reg mixed ?_|refine Run.AJ ?_|(refine AI.mk rfl (hka τ0 σ1 _ hH hb1 (by (try simp only [AB,AA,AD] at hlen ⊢);omega)) ?_;rintro _ σ2 ⟨rfl,hb2⟩))<;>try simp -implicitDefEqProofs only [AP,ha1,ha2,(hb1.le.blk j _ hjs),go_sem])|fail))
   all_goals try simp only [AS,A0,A1,AY] at hb2 ⊢
   all_goals exact Run.fin CL rfl (fun _ _ h=>h) (AN.le_refl _) ⟨rfl,hun _ _ hb2⟩
 · obtain ⟨a,b,rfl⟩:=PR (by simpa [nkB] using hnk)
   have hka:=hk a (by simp)
   have hkb:=hk b (by simp)
   have e:G9 17 n u ns [a,b] ([a,b].map Af) (al.map E5)=[116,114,121,32]++(Af a++([32,99,97,116,99,104,32]++(shown n++([32,45,62,32]++(Af b++[32,101,110,100]))))):=rfl
   rw [e] at hlen ⊢
   clear e
   generalize Af a=ta at *
   obtain ⟨oa,na,ua,nsa,ksa,ala⟩:=a
   generalize Af b=tb at *
   obtain ⟨ob,nb,ub,nsb,ksb,alb⟩:=b
   simp only [exA,Ex.A3,AG,AH] at hka hkb ⊢
   (repeat' (first|refine Run.ct rfl ?_|((first|refine Run.reg mixed ?_|refine Run.AJ ?_|(refine AI.mk rfl (A7 [116,114,121,32] hb0 (by (try simp only [AB,AA,AD] at hlen ⊢);omega)) ?_;rintro _ σ1 ⟨rfl,hb1⟩))<;>try simp -implicitDefEqProofs only [AP,(hb0.le.blk j _ hjs),go_sem])|fail))
   try simp -implicitDefEqProofs only [(hb1.le.blk j _ hjs),go_sem]
   (repeat' (first|refine Run.ct rfl ?_|((first|refine Run.reg mixed ?_|refine Run.AJ ?_|(refine AI.mk rfl (hka τ0 σ1 _ hH hb1 (by (try simp only [AB,AA,AD] at hlen ⊢);omega)) ?_;rintro _ σ2 ⟨rfl,hb2⟩))<;>try simp -implicitDefEqProofs only [AP,(hb1.le.blk j _ hjs),go_sem])|fail))
   try simp -implicitDefEqProofs only [(hb2.le.blk j _ hjs),go_sem]
   (repeat' (first|refine Run.ct rfl ?_|((first|refine Run.reg mixed ?_|refine Run.AJ ?_|(refine AI.mk rfl (A7 [32,99,97,116,99,104,32] hb2 (by (try simp only [AB,AA,AD] at hlen ⊢);omega)) ?_;rintro _ σ3 ⟨rfl,hb3⟩))<;>try simp -implicitDefEqProofs only [AP,(hb2.le.blk j _ hjs),go_sem])|fail))
   try simp -implicitDefEqProofs only [(hb3.le.blk j _ hjs),go_sem]
   (repeat' (first|refine Run.ct rfl ?_|((first|refine Run.reg mixed ?_|refine Run.AJ ?_|(refine AI.mk rfl (hbn τ0 σ3 _ hH hb3 (by (try simp only [AB,AA,AD] at hlen ⊢);omega)) ?_;rintro _ σ4 ⟨rfl,hb4⟩))<;>try simp -implicitDefEqProofs only [AP,(hb3.le.blk j _ hjs),go_sem])|fail))
   try simp -implicitDefEqProofs only [(hb4.le.blk j _ hjs),go_sem]
   (repeat' (first|refine Run.ct rfl ?_|((first|refine Run.reg mixed ?_|refine Run.AJ ?_|(refine AI.mk rfl (A7 [32,45,62,32] hb4 (by (try simp only [AB,AA,AD] at hlen ⊢);omega)) ?_;rintro _ σ5 ⟨rfl,hb5⟩))<;>try simp -implicitDefEqProofs only [AP,(hb4.le.blk j _ hjs),go_sem])|fail))
   try simp -implicitDefEqProofs only [(hb5.le.blk j _ hjs),go_sem]
   (repeat' (first|refine Run.ct rfl ?_|((first|refine Run.reg mixed ?_|refine Run.AJ ?_|(refine AI.mk rfl (hkb τ0 σ5 _ hH hb5 (by (try simp only [AB,AA,AD] at hlen ⊢);omega)) ?_;rintro _ σ6 ⟨rfl,hb6⟩))<;>try simp -implicitDefEqProofs only [AP,(hb5.le.blk j _ hjs),go_sem])|fail))
   try simp -implicitDefEqProofs only [(hb6.le.blk j _ hjs),go_sem]
   (repeat' (first|refine Run.ct rfl ?_|((first|refine Run.reg mixed ?_|refine Run.AJ ?_|(refine AI.mk rfl (A7 [32,101,110,100] hb6 (by (try simp only [AB,AA,AD] at hlen ⊢);omega)) ?_;rintro _ σ7 ⟨rfl,hb7⟩))<;>try simp -implicitDefEqProofs only [AP,(hb6.le.blk j _ hjs),go_sem])|fail))
   try simp only [AS,A0,A1,AY] at hb7 ⊢
   exact Run.fin CL rfl (fun _ _ h=>h) (AN.le_refl _) ⟨rfl,hun _ _ hb7⟩
end Go.Ab
namespace Go.Ab
open Go.Proofs
theorem ltI (a b:Nat):decide ((a:Int) < (b:Int))=decide (a < b):=decide_eq_decide.2 (by omega)
theorem eqS (n:Nat):(((n+1:Nat):Int)==0)=false:=Bt (by omega)
theorem wE (f:Ex) (l:List Ex):Ur (List.map Ex.enc (f::l)) (some (.d (.int .i64 1))) none none 6=some (.d (.sl (l.map Ex.enc))):=by
 simp [Ur,VG,Th]
 refine ⟨?_,?_⟩
 · rw [fG,A4]
   intro r hr
   rw [beq_iff_eq]
   rcases CW.1 hr with rfl|hr
   · obtain ⟨o,n,u,ns,ks,al⟩:=f;rfl
   · obtain ⟨x,_,rfl⟩:=Iw.1 hr
     obtain ⟨o,n,u,ns,ks,al⟩:=x;rfl
 · rw [A6 (by simp)]
set_option maxHeartbeats 8000000 in
theorem cA {i:Nat} {o:Int} {n:Str} {u:Int} {ns:List Str} {ks:List Ex} {al:List Al} (hn:GJ o n u ns ks.length al=true)
 (hk:∀x∈ks,∀lev,EC i x lev)
 (ha:∀x∈al,∀j,WX (fun σ=>σ.blk j=some [.gp i 0]) 143 ([]++[alA x]++[.gp j 0]) i (E5 x)) (lev:Nat) (hlv0:¬lvl (.mk o n u ns ks al) < lev):EC i (.mk o n u ns ks al) lev:=by
 have hko:∀x∈ks,WC 139 [.gp i 0,exA x] i (Af x):=fun x hx=>eO (hk x hx 0)
 intro σ0 σ s hH hb0 hlen
 rw [pl,if_neg hlv0] at hlen ⊢
 have hlv:=iC (.mk o n u ns ks al) σ
 have hlt:decide (lvl (.mk o n u ns ks al) < lev)=false:=decide_eq_false hlv0
 refine KQ (by simp) ?_
 rw [Hm]
 by_cases ho:oF o
 · have hl:=yJ hn ho hko ha
   simp only [exA,Ex.A3,AG,AH] at hlv hl ⊢
   generalize lvl (.mk o n u ns ks al)=lv at hlv hlt
   generalize Af (.mk o n u ns ks al)=txt at hl hlen ⊢
   rcases ho with rfl|rfl|rfl|rfl|rfl|rfl
   all_goals (repeat' (first|refine Run.ct rfl ?_|((first|refine Run.reg mixed ?_|refine Run.AJ ?_|(refine AI.mk rfl (hl σ0 σ _ hH hb0 (by (try simp only [AB,AA,AD] at hlen ⊢);omega)) ?_;rintro _ σ1 ⟨rfl,hb1⟩)|refine AI.det (hlv) ?_)<;>try simp -implicitDefEqProofs only [AP,ltI,hlt,go_sem])|fail))
   all_goals try simp only [AS,A0,A1,AY] at hb1 ⊢
   all_goals exact Run.fin Bn rfl (fun _ _ h=>h) (AN.le_refl _) ⟨rfl,hb1⟩
 by_cases h13:o=13
 · subst h13
   have hn':=hn
   simp only [GJ,AM] at hn'
   obtain ⟨⟨⟨⟨hnm,hnu⟩,hns⟩,has⟩,hnk⟩:=hn'
   simp [nuB] at hnu
   obtain ⟨a,b,rfl⟩:=PR (by simpa [nkB] using hnk)
   have hka:=hk a (by simp) (plL u)
   have hkb:=hk b (by simp) (plR u)
   have hpl:=W1 u σ
   have e:Af (.mk 13 n u ns [a,b] al)=pl (plL u) a (Af a)++([32]++(opT u++([32]++pl (plR u) b (Af b)))):=by
    rw [Af,Ij];rfl
   rw [e] at hlen ⊢
   clear e
   unfold EC at hka hkb
   generalize pl (plL u) a (Af a)=ta at *
   generalize pl (plR u) b (Af b)=tb at *
   obtain ⟨oa,na,ua,nsa,ksa,ala⟩:=a
   obtain ⟨ob,nb,ub,nsb,ksb,alb⟩:=b
   simp only [exA,Ex.A3,AG,AH] at hka hkb hlv ⊢
   generalize lvl _=lv at hlv hlt
   have hlen2:=hlen
   simp only [AB,AA,AD] at hlen2
   have ha1:=B7 (a:=[32]) (b:=opT u) (by simp only [AB,AD];omega)
   have ha2:=B7 (a:=[32]++opT u) (b:=[32]) (by simp only [AA,AB,AD];omega)
   simp only [A0,A1] at ha1 ha2
   have hot:=fun σ=>RB u σ ⟨hnu.1,hnu.2⟩
   (repeat' (first|refine Run.ct rfl ?_|((first|refine Run.reg mixed ?_|refine Run.AJ ?_|(refine AI.mk rfl (hka σ0 σ _ hH hb0 (by (try simp only [AB,AA,AD] at hlen ⊢);omega)) ?_;rintro _ σ1 ⟨rfl,hb1⟩)|refine AI.det (hlv) ?_|refine AI.det (hpl) ?_)<;>try simp -implicitDefEqProofs only [AP,ltI,hlt,ha1,ha2,go_sem])|fail))
   (repeat' (first|refine Run.ct rfl ?_|((first|refine Run.reg mixed ?_|refine Run.AJ ?_|(refine AI.mk rfl (A7 _ hb1 (by (try simp only [AB,AA,AD] at hlen ⊢);omega)) ?_;rintro _ σ2 ⟨rfl,hb2⟩)|refine AI.det (hot _) ?_)<;>try simp -implicitDefEqProofs only [AP,ltI,hlt,ha1,ha2,go_sem])|fail))
   (repeat' (first|refine Run.ct rfl ?_|((first|refine Run.reg mixed ?_|refine Run.AJ ?_|(refine AI.mk rfl (hkb σ0 σ2 _ hH hb2 (by (try simp only [AB,AA,AD] at hlen ⊢);omega)) ?_;rintro _ σ3 ⟨rfl,hb3⟩))<;>try simp -implicitDefEqProofs only [AP,ltI,hlt,ha1,ha2,go_sem])|fail))
   try simp only [AS,A0,A1,AY] at hb3 ⊢
   exact Run.fin Bn rfl (fun _ _ h=>h) (AN.le_refl _) ⟨rfl,hb3⟩
 by_cases h12:o=12
 · subst h12
   have hn':=hn
   simp only [GJ,AM] at hn'
   obtain ⟨⟨⟨⟨hnm,hnu⟩,hns⟩,has⟩,hnk⟩:=hn'
   cases ks with
   |nil=>simp [nkB] at hnk
   |cons f l=>
   have hli:=oE (i:=i) (ks:=l) (fun x hx=>hko x (An _ hx))
   have hf4:=hk f (Ag ..) 4
   have hfp:=PW (hko f (Ag ..))
   have e:Af (.mk 12 n u ns (f::l) al)=(if Hc f then GB (Af f) else pl 4 f (Af f))++FU (l.map Af):=by
    rw [Af,Ij];rfl
   rw [e] at hlen ⊢
   clear e
   unfold EC at hf4
   have hsl:Ur (List.map Ex.enc (f::l)) (some (.d (.int .i64 1))) none none 6=some (.d (.sl (l.map Ex.enc))):=wE f l
   generalize hpp:GB (Af f)=tp at *
   generalize pl 4 f (Af f)=tq at *
   clear hpp
   obtain ⟨of,nf,uf,nsf,ksf,alf⟩:=f
   simp only [exA,Ex.A3,AG,AH] at hf4 hfp hlv hsl ⊢
   generalize lvl _=lv at hlv hlt
   by_cases h6:of=6
   · subst h6
     cases ksf with
     |nil=>
      have hbc:Hc (.mk 6 nf uf nsf [] alf)=true:=rfl
      rw [hbc,if_pos rfl] at hlen ⊢
      simp only [AH] at hf4 hfp hlv hsl ⊢
      (repeat' (first|refine Run.ct rfl ?_|((first|refine Run.reg mixed ?_|refine Run.AJ ?_|(refine AI.mk rfl (hfp σ0 σ _ hH hb0 (by (try simp only [AB,AA,AD] at hlen ⊢);omega)) ?_;rintro _ σ1 ⟨rfl,hb1⟩)|refine AI.det (hlv) ?_)<;>try simp -implicitDefEqProofs only [AP,ltI,hlt,hsl,Int.le_refl,if_true,Ok,A5,B2,AB,AD,go_sem])|(refine ⟨fun h=>?_,fun h=>?_⟩<;>first|(cases h;done)|try simp only [h])|fail))
      (repeat' (first|refine Run.ct rfl ?_|((first|refine Run.reg mixed ?_|refine Run.AJ ?_|(refine AI.mk rfl (hli σ0 σ1 _ hH hb1 (by (try simp only [AB,AA,AD] at hlen ⊢);omega)) ?_;rintro _ σ2 ⟨rfl,hb2⟩))<;>try simp -implicitDefEqProofs only [AP,ltI,hlt,hsl,Int.le_refl,if_true,Ok,A5,B2,AB,AD,go_sem])|fail))
      try simp only [AS,A0,A1,AY] at hb2 ⊢
      exact Run.fin Bn rfl (fun _ _ h=>h) (AN.le_refl _) ⟨rfl,hb2⟩
     |cons k1 l1=>
      have hbc:Hc (.mk 6 nf uf nsf (k1::l1) alf)=false:=rfl
      rw [hbc,if_neg (by decide)] at hlen ⊢
      simp only [AG] at hf4 hfp hlv hsl ⊢
      (repeat' (first|refine Run.ct rfl ?_|((first|refine Run.reg mixed ?_|refine Run.AJ ?_|(refine AI.mk rfl (hf4 σ0 σ _ hH hb0 (by (try simp only [AB,AA,AD] at hlen ⊢);omega)) ?_;rintro _ σ1 ⟨rfl,hb1⟩)|refine AI.det (hlv) ?_)<;>try simp -implicitDefEqProofs only [AP,ltI,hlt,hsl,Int.le_refl,if_true,Ok,A5,B2,AB,AD,eqS,AE,go_sem])|fail))
      (repeat' (first|refine Run.ct rfl ?_|((first|refine Run.reg mixed ?_|refine Run.AJ ?_|(refine AI.mk rfl (hli σ0 σ1 _ hH hb1 (by (try simp only [AB,AA,AD] at hlen ⊢);omega)) ?_;rintro _ σ2 ⟨rfl,hb2⟩))<;>try simp -implicitDefEqProofs only [AP,ltI,hlt,hsl,Int.le_refl,if_true,Ok,A5,B2,AB,AD,eqS,AE,go_sem])|fail))
      try simp only [AS,A0,A1,AY] at hb2 ⊢
      exact Run.fin Bn rfl (fun _ _ h=>h) (AN.le_refl _) ⟨rfl,hb2⟩
   · have hbc:Hc (.mk of nf uf nsf ksf alf)=false:=by show (of==6&&_)=false;rw [Bt h6];rfl
     rw [hbc,if_neg (by decide)] at hlen ⊢
     (repeat' (first|refine Run.ct rfl ?_|((first|refine Run.reg mixed ?_|refine Run.AJ ?_|(refine AI.mk rfl (hf4 σ0 σ _ hH hb0 (by (try simp only [AB,AA,AD] at hlen ⊢);omega)) ?_;rintro _ σ1 ⟨rfl,hb1⟩)|refine AI.det (hlv) ?_)<;>try simp -implicitDefEqProofs only [AP,ltI,hlt,hsl,Int.le_refl,if_true,Ok,A5,B2,AB,AD,Bt h6,go_sem])|fail))
     (repeat' (first|refine Run.ct rfl ?_|((first|refine Run.reg mixed ?_|refine Run.AJ ?_|(refine AI.mk rfl (hli σ0 σ1 _ hH hb1 (by (try simp only [AB,AA,AD] at hlen ⊢);omega)) ?_;rintro _ σ2 ⟨rfl,hb2⟩))<;>try simp -implicitDefEqProofs only [AP,ltI,hlt,hsl,Int.le_refl,if_true,Ok,A5,B2,AB,AD,Bt h6,go_sem])|fail))
     try simp only [AS,A0,A1,AY] at hb2 ⊢
     exact Run.fin Bn rfl (fun _ _ h=>h) (AN.le_refl _) ⟨rfl,hb2⟩
 have hn':=hn
 simp only [GJ,AM] at hn'
 obtain ⟨⟨⟨⟨hnm,hnu⟩,hns⟩,has⟩,hnk⟩:=hn'
 have hop:=iH hnk
 have hpo:vQ o:=by unfold vQ;unfold oF at ho;omega
 have hl:=vS hn hpo hko
 simp only [exA,Ex.A3,AG,AH] at hlv hl ⊢
 generalize lvl (.mk o n u ns ks al)=lv at hlv hlt
 generalize Af (.mk o n u ns ks al)=txt at hl hlen ⊢
 simp only [oF,not_or] at ho
 obtain ⟨h1,h2,h3,h4,h5,h6⟩:=ho
 (repeat' (first|refine Run.ct rfl ?_|((first|refine Run.reg mixed ?_|refine Run.AJ ?_|(refine AI.mk rfl (hl σ0 σ _ hH hb0 (by (try simp only [AB,AA,AD] at hlen ⊢);omega)) ?_;rintro _ σ1 ⟨rfl,hb1⟩)|refine AI.det (hlv) ?_)<;>try simp -implicitDefEqProofs only [AP,ltI,hlt,Bt h1,Bt h2,Bt h3,Bt h4,Bt h5,Bt h6,Bt h12,Bt h13,go_sem])|fail))
 try simp only [AS,A0,A1,AY] at hb1 ⊢
 exact Run.fin Bn rfl (fun _ _ h=>h) (AN.le_refl _) ⟨rfl,hb1⟩
theorem pW {i:Nat} {o:Int} {n:Str} {u:Int} {ns:List Str} {ks:List Ex} {al:List Al} (hn:GJ o n u ns ks.length al=true)
 (hk:∀x∈ks,∀lev,EC i x lev)
 (ha:∀x∈al,∀j,WX (fun σ=>σ.blk j=some [.gp i 0]) 143 ([]++[alA x]++[.gp j 0]) i (E5 x)) (lev:Nat):EC i (.mk o n u ns ks al) lev:=by
 by_cases hlv0:lvl (.mk o n u ns ks al) < lev
 · have hpa:=PW (eO (cA hn hk ha 0 (by omega)))
   intro σ0 σ s hH hb0 hlen
   rw [pl,if_pos hlv0] at hlen ⊢
   have hlv:=iC (.mk o n u ns ks al) σ
   have hlt:decide (lvl (.mk o n u ns ks al) < lev)=true:=decide_eq_true hlv0
   refine KQ (by simp) ?_
   rw [Hm]
   simp only [exA,Ex.A3,AG,AH] at hlv hpa ⊢
   generalize lvl (.mk o n u ns ks al)=lv at hlv hlt
   generalize GB (Af (.mk o n u ns ks al))=txt at hpa hlen ⊢
   (repeat' (first|refine Run.ct rfl ?_|((first|refine Run.reg mixed ?_|refine Run.AJ ?_|(refine AI.mk rfl (hpa σ0 σ _ hH hb0 (by (try simp only [AB,AA,AD] at hlen ⊢);omega)) ?_;rintro _ σ1 ⟨rfl,hb1⟩)|refine AI.det (hlv) ?_)<;>try simp -implicitDefEqProofs only [ltI,hlt,go_sem])|fail))
   exact Run.Fq Bn (AN.le_refl _) ⟨rfl,hb1⟩
 · exact cA hn hk ha lev hlv0
mutual
theorem dQ (i:Nat):∀(e:Ex),e.nb→∀lev,EC i e lev
 | .mk o n u ns ks al,h,lev=>by
  rw [Ex.nb] at h
  exact pW h.1 (gK i ks h.2.1) (nH i al h.2.2) lev
theorem gK (i:Nat):∀(l:List Ex),Ex.nbs l→∀x∈l,∀lev,EC i x lev
 |[],_,x,hx,_=>by cases hx
 |e::l,h,x,hx,lev=>by
  rw [Ex.nbs] at h
  rcases CW.1 hx with hxe|hx
  · rw [hxe];exact dQ i e h.1 lev
  · exact gK i l h.2 x hx lev
theorem nH (i:Nat):∀(l:List Al),Al.nbs l→∀x∈l,∀j,WX (fun σ=>σ.blk j=some [.gp i 0]) 143 ([]++[alA x]++[.gp j 0]) i (E5 x)
 |[],_,x,hx,_=>by cases hx
 | .mk c vs b::l,h,x,hx,j=>by
  rw [Al.nbs,Al.nb] at h
  rcases CW.1 hx with hxe|hx
  · rw [hxe];exact AA3 j (eO (dQ i b h.1 0))
  · exact nH i l h.2 x hx j
end
end Go.Ab
