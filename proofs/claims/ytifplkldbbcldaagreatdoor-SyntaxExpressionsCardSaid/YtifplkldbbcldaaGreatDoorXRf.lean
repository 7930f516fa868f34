/- The printer: primary expressions, long ones. The printer: long expressions. Conditions: none. -/
import Derived.Test.YtifplkldbbcldaaGreatDoorXCdQe
set_option linter.unusedSimpArgs false
set_option linter.unusedVariables false
set_option maxRecDepth 4000
set_option maxHeartbeats 8000000
open Bool renaming and_eq_true→AN,false_eq_true→AW
open List renaming map_cons→AF,map_nil→AI,length_cons→AB,length_append→AA,length_nil→AE,append_assoc→AT,cons_append→A0,nil_append→A3,append_nil→A1
open Int renaming reduceBEq→AS
namespace Go.Ab
open Go.Proofs
def vC (o:Int):Prop:=o=1∨o=2∨o=3∨o=4∨o=5∨o=6∨o=14∨o=15∨o=16
set_option maxHeartbeats 4000000 in
theorem vE {i:Nat} {o:Int} {n:Str} {u:Int} {ns:List Str} {ks:List Ex} {al:List Al} (hn:Fi o n u ns ks.length al=true) (ho:vC o)
 (hk:∀x∈ks,WC 139 [.gp i 0,exA x] i (Af x)):WC 93 [.gp i 0,exA (.mk o n u ns ks al)] i (Af (.mk o n u ns ks al)):=by
 intro σ0 σ0' s hH hb0 hlen
 have hli:=nW hk
 have hop:=S3 (H:=fun _=>True) i (first:=[.gp i 0]) (caps:=[]) (by kernel_rfl:Aw Tryz.prog 139=true) ⟨rfl,rfl⟩ Af ks hk
 have hpow:σ0'.gt RT=some T7:=by rw [← hb0.le.gt];exact hH.2
 simp only [Fi,AN] at hn
 obtain ⟨⟨⟨⟨hnm,hnu⟩,hns⟩,has⟩,hnk⟩:=hn
 refine RO (by simp) ?_
 rw [BP]
 simp only [exA,Ex.A2,AF,AI]
 rw [Af,H3] at hlen ⊢
 rcases ho with rfl|rfl|rfl|rfl|rfl|rfl|rfl|rfl|rfl
 · have e:G4 1 n u ns ks (ks.map Af) (Ju al)=[40,41]:=rfl
   rw [e] at hlen ⊢
   (repeat' (first|refine Run.ct rfl ?_|((first|refine Run.reg mixed ?_|refine Run.AJ ?_|(refine AH.mk rfl (A6 [40,41] hb0 (by (try simp only [AB,AA,AE] at hlen ⊢);omega)) ?_;rintro _ σ1 ⟨rfl,hb1⟩)|(refine AQ rfl (fun h=>?_) (fun h=>?_)<;>try (cases h;done)))<;>try simp -implicitDefEqProofs only [AS,go_sem])|(refine ⟨fun h=>?_,fun h=>?_⟩<;>first|(cases h;done)|try simp only [h])|fail))
   try simp only [AT,A0,A3,A1] at hb1 ⊢
   exact Run.fin BQ rfl (fun _ _ h=>h) (AM.le_refl _) ⟨rfl,hb1⟩
 · by_cases hu:u=1
   · subst hu
     have e:G4 2 n 1 ns ks (ks.map Af) (Ju al)=[116,114,117,101]:=rfl
     rw [e] at hlen ⊢
     have hfb:=Th true σ0'
     simp only [if_true] at hfb
     (repeat' (first|refine Run.ct rfl ?_|((first|refine Run.reg mixed ?_|refine Run.AJ ?_|(refine AH.mk rfl (A6 [116,114,117,101] hb0 hlen) ?_;rintro _ σ1 ⟨rfl,hb1⟩)|refine AH.det (hfb) ?_|(refine AQ rfl (fun h=>?_) (fun h=>?_)<;>try (cases h;done)))<;>try simp -implicitDefEqProofs only [AS,go_sem])|(refine ⟨fun h=>?_,fun h=>?_⟩<;>first|(cases h;done)|try simp only [h])|fail))
     try simp only [AT,A0,A3,A1] at hb1 ⊢
     exact Run.fin BQ rfl (fun _ _ h=>h) (AM.le_refl _) ⟨rfl,hb1⟩
   · have e:G4 2 n u ns ks (ks.map Af) (Ju al)=[102,97,108,115,101]:=by show (if u=1 then _ else _)=_;rw [if_neg hu]
     rw [e] at hlen ⊢
     have hfb:=Th false σ0'
     simp only [AW,if_false] at hfb
     (repeat' (first|refine Run.ct rfl ?_|((first|refine Run.reg mixed ?_|refine Run.AJ ?_|(refine AH.mk rfl (A6 [102,97,108,115,101] hb0 hlen) ?_;rintro _ σ1 ⟨rfl,hb1⟩)|refine AH.det (hfb) ?_|(refine AQ rfl (fun h=>?_) (fun h=>?_)<;>try (cases h;done)))<;>try simp -implicitDefEqProofs only [AS,Bq hu,go_sem])|(refine ⟨fun h=>?_,fun h=>?_⟩<;>first|(cases h;done)|try simp only [h])|fail))
     try simp only [AT,A0,A3,A1] at hb1 ⊢
     exact Run.fin BQ rfl (fun _ _ h=>h) (AM.le_refl _) ⟨rfl,hb1⟩
 · have e:G4 3 n u ns ks (ks.map Af) (Ju al)=Lib.itoa u:=rfl
   rw [e] at hlen ⊢
   have hfi:=L1 u σ0' hpow
   (repeat' (first|refine Run.ct rfl ?_|((first|refine Run.reg mixed ?_|refine Run.AJ ?_|(refine AH.mk rfl (A6 (Lib.itoa u) hb0 hlen) ?_;rintro _ σ1 ⟨rfl,hb1⟩)|refine AH.det (hfi) ?_|(refine AQ rfl (fun h=>?_) (fun h=>?_)<;>try (cases h;done)))<;>try simp -implicitDefEqProofs only [AS,go_sem])|(refine ⟨fun h=>?_,fun h=>?_⟩<;>first|(cases h;done)|try simp only [h])|fail))
   try simp only [AT,A0,A3,A1] at hb1 ⊢
   exact Run.fin BQ rfl (fun _ _ h=>h) (AM.le_refl _) ⟨rfl,hb1⟩
 · have e:G4 4 n u ns ks (ks.map Af) (Ju al)=n++Fw (ks.map Af):=rfl
   rw [e] at hlen ⊢
   (repeat' (first|refine Run.ct rfl ?_|((first|refine Run.reg mixed ?_|refine Run.AJ ?_|(refine AH.mk rfl (A6 n hb0 (by (try simp only [AB,AA,AE] at hlen ⊢);omega)) ?_;rintro _ σ1 ⟨rfl,hb1⟩)|(refine AQ rfl (fun h=>?_) (fun h=>?_)<;>try (cases h;done)))<;>try simp -implicitDefEqProofs only [AS,go_sem])|(refine ⟨fun h=>?_,fun h=>?_⟩<;>first|(cases h;done)|try simp only [h])|fail))
   (repeat' (first|refine Run.ct rfl ?_|((first|refine Run.reg mixed ?_|refine Run.AJ ?_|(refine AH.mk rfl (hop σ0 σ1 _ hH hb1 (by (try simp only [AB,AA,AE] at hlen ⊢);omega)) ?_;rintro _ σ2 ⟨rfl,hb2⟩)|(refine AQ rfl (fun h=>?_) (fun h=>?_)<;>try (cases h;done)))<;>try simp -implicitDefEqProofs only [AS,go_sem])|(refine ⟨fun h=>?_,fun h=>?_⟩<;>first|(cases h;done)|try simp only [h])|fail))
   try simp only [AT,A0,A3,A1] at hb2 ⊢
   exact Run.fin BQ rfl (fun _ _ h=>h) (AM.le_refl _) ⟨rfl,hb2⟩
 · have e:G4 5 n u ns ks (ks.map Af) (Ju al)=FC (ks.map Af):=rfl
   rw [e] at hlen ⊢
   (repeat' (first|refine Run.ct rfl ?_|((first|refine Run.reg mixed ?_|refine Run.AJ ?_|(refine AH.mk rfl (hli σ0 σ0' _ hH hb0 (by (try simp only [AB,AA,AE] at hlen ⊢);omega)) ?_;rintro _ σ1 ⟨rfl,hb1⟩)|(refine AQ rfl (fun h=>?_) (fun h=>?_)<;>try (cases h;done)))<;>try simp -implicitDefEqProofs only [AS,go_sem])|(refine ⟨fun h=>?_,fun h=>?_⟩<;>first|(cases h;done)|try simp only [h])|fail))
   try simp only [AT,A0,A3,A1] at hb1 ⊢
   exact Run.fin BQ rfl (fun _ _ h=>h) (AM.le_refl _) ⟨rfl,hb1⟩
 · have e:G4 6 n u ns ks (ks.map Af) (Ju al)=n++Fw (ks.map Af):=rfl
   rw [e] at hlen ⊢
   (repeat' (first|refine Run.ct rfl ?_|((first|refine Run.reg mixed ?_|refine Run.AJ ?_|(refine AH.mk rfl (A6 n hb0 (by (try simp only [AB,AA,AE] at hlen ⊢);omega)) ?_;rintro _ σ1 ⟨rfl,hb1⟩)|(refine AQ rfl (fun h=>?_) (fun h=>?_)<;>try (cases h;done)))<;>try simp -implicitDefEqProofs only [AS,go_sem])|(refine ⟨fun h=>?_,fun h=>?_⟩<;>first|(cases h;done)|try simp only [h])|fail))
   (repeat' (first|refine Run.ct rfl ?_|((first|refine Run.reg mixed ?_|refine Run.AJ ?_|(refine AH.mk rfl (hop σ0 σ1 _ hH hb1 (by (try simp only [AB,AA,AE] at hlen ⊢);omega)) ?_;rintro _ σ2 ⟨rfl,hb2⟩)|(refine AQ rfl (fun h=>?_) (fun h=>?_)<;>try (cases h;done)))<;>try simp -implicitDefEqProofs only [AS,go_sem])|(refine ⟨fun h=>?_,fun h=>?_⟩<;>first|(cases h;done)|try simp only [h])|fail))
   try simp only [AT,A0,A3,A1] at hb2 ⊢
   exact Run.fin BQ rfl (fun _ _ h=>h) (AM.le_refl _) ⟨rfl,hb2⟩
 · simp [nuB] at hnu
   obtain ⟨k,rfl⟩:∃k:Nat,u=k:=⟨u.toNat,by omega⟩
   have hpr:=Wv k (by omega) (by omega) σ0'
   have e:G4 14 n (k:Int) ns ks (ks.map Af) (Ju al)=prT (k:Int)++FC (ks.map Af):=rfl
   rw [e] at hlen ⊢
   (repeat' (first|refine Run.ct rfl ?_|((first|refine Run.reg mixed ?_|refine Run.AJ ?_|(refine AH.mk rfl (A6 (prT (k:Int)) hb0 (by (try simp only [AB,AA,AE] at hlen ⊢);omega)) ?_;rintro _ σ1 ⟨rfl,hb1⟩)|refine AH.det (hpr) ?_|(refine AQ rfl (fun h=>?_) (fun h=>?_)<;>try (cases h;done)))<;>try simp -implicitDefEqProofs only [AS,go_sem])|(refine ⟨fun h=>?_,fun h=>?_⟩<;>first|(cases h;done)|try simp only [h])|fail))
   (repeat' (first|refine Run.ct rfl ?_|((first|refine Run.reg mixed ?_|refine Run.AJ ?_|(refine AH.mk rfl (hli σ0 σ1 _ hH hb1 (by (try simp only [AB,AA,AE] at hlen ⊢);omega)) ?_;rintro _ σ2 ⟨rfl,hb2⟩)|(refine AQ rfl (fun h=>?_) (fun h=>?_)<;>try (cases h;done)))<;>try simp -implicitDefEqProofs only [AS,go_sem])|(refine ⟨fun h=>?_,fun h=>?_⟩<;>first|(cases h;done)|try simp only [h])|fail))
   try simp only [AT,A0,A3,A1] at hb2 ⊢
   exact Run.fin BQ rfl (fun _ _ h=>h) (AM.le_refl _) ⟨rfl,hb2⟩
 · have e:G4 15 n u ns ks (ks.map Af) (Ju al)=[116,105,99,107,40]++(Lib.itoa u++[41]):=rfl
   rw [e] at hlen ⊢
   have hfi:=L1 u σ0' hpow
   have ha1:=DB (a:=[116,105,99,107,40]) (b:=Lib.itoa u) (by simp only [AB,AA,AE] at hlen ⊢;omega)
   have ha2:=DB (a:=[116,105,99,107,40]++Lib.itoa u) (b:=[41]) (by simp only [AB,AA,AE] at hlen ⊢;omega)
   simp only [A0,A3] at ha1 ha2
   (repeat' (first|refine Run.ct rfl ?_|((first|refine Run.reg mixed ?_|refine Run.AJ ?_|(refine AH.mk rfl (A6 _ hb0 (by (try simp only [AB,AA,AE] at hlen ⊢);omega)) ?_;rintro _ σ1 ⟨rfl,hb1⟩)|refine AH.det (hfi) ?_|(refine AQ rfl (fun h=>?_) (fun h=>?_)<;>try (cases h;done)))<;>try simp -implicitDefEqProofs only [AS,ha1,ha2,go_sem])|(refine ⟨fun h=>?_,fun h=>?_⟩<;>first|(cases h;done)|try simp only [h])|fail))
   try simp only [AT,A0,A3,A1] at hb1 ⊢
   exact Run.fin BQ rfl (fun _ _ h=>h) (AM.le_refl _) ⟨rfl,hb1⟩
 · have e:G4 16 n u ns ks (ks.map Af) (Ju al)=[114,97,105,115,101]++FC (ks.map Af):=rfl
   rw [e] at hlen ⊢
   (repeat' (first|refine Run.ct rfl ?_|((first|refine Run.reg mixed ?_|refine Run.AJ ?_|(refine AH.mk rfl (A6 [114,97,105,115,101] hb0 (by (try simp only [AB,AA,AE] at hlen ⊢);omega)) ?_;rintro _ σ1 ⟨rfl,hb1⟩)|(refine AQ rfl (fun h=>?_) (fun h=>?_)<;>try (cases h;done)))<;>try simp -implicitDefEqProofs only [AS,go_sem])|(refine ⟨fun h=>?_,fun h=>?_⟩<;>first|(cases h;done)|try simp only [h])|fail))
   (repeat' (first|refine Run.ct rfl ?_|((first|refine Run.reg mixed ?_|refine Run.AJ ?_|(refine AH.mk rfl (hli σ0 σ1 _ hH hb1 (by (try simp only [AB,AA,AE] at hlen ⊢);omega)) ?_;rintro _ σ2 ⟨rfl,hb2⟩)|(refine AQ rfl (fun h=>?_) (fun h=>?_)<;>try (cases h;done)))<;>try simp -implicitDefEqProofs only [AS,go_sem])|(refine ⟨fun h=>?_,fun h=>?_⟩<;>first|(cases h;done)|try simp only [h])|fail))
   try simp only [AT,A0,A3,A1] at hb2 ⊢
   exact Run.fin BQ rfl (fun _ _ h=>h) (AM.le_refl _) ⟨rfl,hb2⟩
end Go.Ab
namespace Go.Ab
open Go.Proofs
theorem AAZ:Aw Tryz.prog 140=true:=by kernel_rfl
theorem xX:Aw Tryz.prog 143=true:=by kernel_rfl
theorem oN (i:Nat) (ns:List Str):WC 79 [.gp i 0,.d (.sl (ns.map B0)),.fn 140 [.gp i 0] []] i (Fw (ns.map shown)):=
 NQ (H:=fun _=>True) i (first:=[.gp i 0]) (caps:=[]) AAZ ⟨rfl,rfl⟩ shown ns (fun x _=>fN i x)
theorem AAQ {i:Nat} (j:Nat) {c:Str} {vs:List Str} {b:Ex} (hb:WC 139 [.gp i 0,exA b] i (Af b)):
 WX (fun σ=>σ.blk j=some [.gp i 0]) 143 ([]++[alA (.mk c vs b)]++[.gp j 0]) i (E0 (.mk c vs b)):=by
 intro σ0 σ s hH0 hb0 hlen
 have hjs:=hH0.1
 have hH:(fun _=>True) σ0∧σ0.gt RT=some T7:=⟨trivial,hH0.2⟩
 have hvs:=oN i vs
 refine PD (by simp) ?_
 show Run _ _ _ (At [_,_]) _ _
 rw [BP]
 rw [E0,alT] at hlen ⊢
 generalize Af b=tb at hb hlen ⊢
 obtain ⟨o',n',u',ns',ks',al'⟩:=b
 simp only [exA,alA,Al.A2,Ex.A2,AF,AI] at hb ⊢
 (repeat' (first|refine Run.ct rfl ?_|((first|refine Run.reg mixed ?_|refine Run.AJ ?_|(refine AH.mk rfl (A6 c hb0 (by (try simp only [AB,AA,AE] at hlen ⊢);omega)) ?_;rintro _ σ1 ⟨rfl,hb1⟩)|(refine AQ rfl (fun h=>?_) (fun h=>?_)<;>try (cases h;done)))<;>try simp -implicitDefEqProofs only [Al.A2,(hb0.le.blk j _ hjs),go_sem])|(refine ⟨fun h=>?_,fun h=>?_⟩<;>first|(cases h;done)|try simp only [h])|fail))
 try simp -implicitDefEqProofs only [(hb1.le.blk j _ hjs),go_sem]
 (repeat' (first|refine Run.ct rfl ?_|((first|refine Run.reg mixed ?_|refine Run.AJ ?_|(refine AH.mk rfl (hvs σ0 σ1 _ hH hb1 (by (try simp only [AB,AA,AE] at hlen ⊢);omega)) ?_;rintro _ σ2 ⟨rfl,hb2⟩)|(refine AQ rfl (fun h=>?_) (fun h=>?_)<;>try (cases h;done)))<;>try simp -implicitDefEqProofs only [Al.A2,(hb1.le.blk j _ hjs),go_sem])|(refine ⟨fun h=>?_,fun h=>?_⟩<;>first|(cases h;done)|try simp only [h])|fail))
 try simp -implicitDefEqProofs only [(hb2.le.blk j _ hjs),go_sem]
 (repeat' (first|refine Run.ct rfl ?_|((first|refine Run.reg mixed ?_|refine Run.AJ ?_|(refine AH.mk rfl (A6 [32,45,62,32] hb2 (by (try simp only [AB,AA,AE] at hlen ⊢);omega)) ?_;rintro _ σ3 ⟨rfl,hb3⟩)|(refine AQ rfl (fun h=>?_) (fun h=>?_)<;>try (cases h;done)))<;>try simp -implicitDefEqProofs only [Al.A2,(hb2.le.blk j _ hjs),go_sem])|(refine ⟨fun h=>?_,fun h=>?_⟩<;>first|(cases h;done)|try simp only [h])|fail))
 try simp -implicitDefEqProofs only [(hb3.le.blk j _ hjs),go_sem]
 (repeat' (first|refine Run.ct rfl ?_|((first|refine Run.reg mixed ?_|refine Run.AJ ?_|(refine AH.mk rfl (hb σ0 σ3 _ hH hb3 (by (try simp only [AB,AA,AE] at hlen ⊢);omega)) ?_;rintro _ σ4 ⟨rfl,hb4⟩)|(refine AQ rfl (fun h=>?_) (fun h=>?_)<;>try (cases h;done)))<;>try simp -implicitDefEqProofs only [Al.A2,(hb3.le.blk j _ hjs),go_sem])|(refine ⟨fun h=>?_,fun h=>?_⟩<;>first|(cases h;done)|try simp only [h])|fail))
 try simp only [AT,A0,A3,A1] at hb4 ⊢
 exact Run.fin Ig rfl (fun _ _ h=>h) (AM.le_refl _) ⟨rfl,hb4⟩
def nX (o:Int):Prop:=o=7∨o=8∨o=9∨o=10∨o=11∨o=17
set_option maxHeartbeats 8000000 in
theorem xY {i:Nat} {o:Int} {n:Str} {u:Int} {ns:List Str} {ks:List Ex} {al:List Al} (hn:Fi o n u ns ks.length al=true) (ho:nX o)
 (hk:∀x∈ks,WC 139 [.gp i 0,exA x] i (Af x))
 (ha:∀x∈al,∀j,WX (fun σ=>σ.blk j=some [.gp i 0]) 143 ([]++[alA x]++[.gp j 0]) i (E0 x)):WC 89 [.gp i 0,exA (.mk o n u ns ks al)] i (Af (.mk o n u ns ks al)):=by
 intro σ0 σ s hH hbu hlen
 have hvs:=oN i ns
 have hbn:=fN i n
 simp only [Fi,AN] at hn
 obtain ⟨⟨⟨⟨hnm,hnu⟩,hns⟩,has⟩,hnk⟩:=hn
 refine RL (by simp) ?_
 rw [BP]
 simp only [exA,Ex.A2,AF,AI]
 rw [Af,H3,Mj] at hlen ⊢
 (repeat' (first|refine Run.ct rfl ?_|((first|refine Run.reg mixed ?_|refine Run.AJ ?_|(refine AQ rfl (fun h=>?_) (fun h=>?_)<;>try (cases h;done)))<;>try simp -implicitDefEqProofs only [go_sem])|(refine ⟨fun h=>?_,fun h=>?_⟩<;>first|(cases h;done)|try simp only [h])|fail))
 intro j hj
 have hun:∀s' σ',BuS (σ0.AL j [.gp i 0]) i s' σ'→BuS σ0 i s' σ':=fun s' σ' h=>hbu.oL hj h
 have hjs:(σ0.AL j [.gp i 0]).blk j=some [.gp i 0]:=by simp [AO]
 have hH:(fun _=>True) (σ0.AL j [.gp i 0])∧(σ0.AL j [.gp i 0]).gt RT=some T7:=⟨trivial,hH.2⟩
 have hb0:=hbu.share (cs:=[.gp i 0]) hj
 generalize σ.AL j [.gp i 0]=τ at hb0 ⊢
 generalize σ0.AL j [.gp i 0]=τ0 at hun hjs hH hb0
 have hHj:(fun σ=>σ.blk j=some [.gp i 0]) τ0∧τ0.gt RT=some T7:=⟨hjs,hH.2⟩
 rcases ho with rfl|rfl|rfl|rfl|rfl|rfl
 · obtain ⟨a,b,rfl⟩:=OZ (by simpa [nkB] using hnk)
   have hka:=hk a (by simp)
   have hkb:=hk b (by simp)
   have hp:=Yw [32,61,32] [32,105,110,32] [] hka hkb
   have e:G4 7 n u ns [a,b] ([a,b].map Af) (al.map E0)=[108,101,116,32]++(shown n++([32,61,32]++(Af a++([32,105,110,32]++(Af b++[]))))):=by show _=_;rw [A1];rfl
   rw [e] at hlen ⊢
   clear e
   generalize Af a=ta at *
   obtain ⟨oa,na,ua,nsa,ksa,ala⟩:=a
   generalize Af b=tb at *
   obtain ⟨ob,nb,ub,nsb,ksb,alb⟩:=b
   simp only [exA,Ex.A2,AF,AI] at hka hkb hp ⊢
   (repeat' (first|refine Run.ct rfl ?_|((first|refine Run.reg mixed ?_|refine Run.AJ ?_|(refine AH.mk rfl (A6 [108,101,116,32] hb0 (by (try simp only [AB,AA,AE] at hlen ⊢);omega)) ?_;rintro _ σ1 ⟨rfl,hb1⟩)|(refine AQ rfl (fun h=>?_) (fun h=>?_)<;>try (cases h;done)))<;>try simp -implicitDefEqProofs only [AS,(hb0.le.blk j _ hjs),go_sem])|(refine ⟨fun h=>?_,fun h=>?_⟩<;>first|(cases h;done)|try simp only [h])|fail))
   try simp -implicitDefEqProofs only [(hb1.le.blk j _ hjs),go_sem]
   (repeat' (first|refine Run.ct rfl ?_|((first|refine Run.reg mixed ?_|refine Run.AJ ?_|(refine AH.mk rfl (hbn τ0 σ1 _ hH hb1 (by (try simp only [AB,AA,AE] at hlen ⊢);omega)) ?_;rintro _ σ2 ⟨rfl,hb2⟩)|(refine AQ rfl (fun h=>?_) (fun h=>?_)<;>try (cases h;done)))<;>try simp -implicitDefEqProofs only [AS,(hb1.le.blk j _ hjs),go_sem])|(refine ⟨fun h=>?_,fun h=>?_⟩<;>first|(cases h;done)|try simp only [h])|fail))
   try simp -implicitDefEqProofs only [(hb2.le.blk j _ hjs),go_sem]
   (repeat' (first|refine Run.ct rfl ?_|((first|refine Run.reg mixed ?_|refine Run.AJ ?_|(refine AH.mk rfl (hp τ0 σ2 _ hH hb2 (by (try simp only [AB,AA,AE] at hlen ⊢);omega)) ?_;rintro _ σ3 ⟨rfl,hb3⟩)|(refine AQ rfl (fun h=>?_) (fun h=>?_)<;>try (cases h;done)))<;>try simp -implicitDefEqProofs only [AS,(hb2.le.blk j _ hjs),go_sem])|(refine ⟨fun h=>?_,fun h=>?_⟩<;>first|(cases h;done)|try simp only [h])|fail))
   try simp only [AT,A0,A3,A1] at hb3 ⊢
   exact Run.fin CG rfl (fun _ _ h=>h) (AM.le_refl _) ⟨rfl,hun _ _ hb3⟩
 · obtain ⟨a,b,rfl⟩:=OZ (by simpa [nkB] using hnk)
   have hka:=hk a (by simp)
   have hkb:=hk b (by simp)
   have hp:=Yw [32,61,32] [32,105,110,32] [] hka hkb
   have e:G4 8 n u ns [a,b] ([a,b].map Af) (al.map E0)=[108,101,116,32]++(Fw (ns.map shown)++([32,61,32]++(Af a++([32,105,110,32]++(Af b++[]))))):=by show _=_;rw [A1];rfl
   rw [e] at hlen ⊢
   clear e
   generalize Af a=ta at *
   obtain ⟨oa,na,ua,nsa,ksa,ala⟩:=a
   generalize Af b=tb at *
   obtain ⟨ob,nb,ub,nsb,ksb,alb⟩:=b
   simp only [exA,Ex.A2,AF,AI] at hka hkb hp ⊢
   (repeat' (first|refine Run.ct rfl ?_|((first|refine Run.reg mixed ?_|refine Run.AJ ?_|(refine AH.mk rfl (A6 [108,101,116,32] hb0 (by (try simp only [AB,AA,AE] at hlen ⊢);omega)) ?_;rintro _ σ1 ⟨rfl,hb1⟩)|(refine AQ rfl (fun h=>?_) (fun h=>?_)<;>try (cases h;done)))<;>try simp -implicitDefEqProofs only [AS,(hb0.le.blk j _ hjs),go_sem])|(refine ⟨fun h=>?_,fun h=>?_⟩<;>first|(cases h;done)|try simp only [h])|fail))
   try simp -implicitDefEqProofs only [(hb1.le.blk j _ hjs),go_sem]
   (repeat' (first|refine Run.ct rfl ?_|((first|refine Run.reg mixed ?_|refine Run.AJ ?_|(refine AH.mk rfl (hvs τ0 σ1 _ hH hb1 (by (try simp only [AB,AA,AE] at hlen ⊢);omega)) ?_;rintro _ σ2 ⟨rfl,hb2⟩)|(refine AQ rfl (fun h=>?_) (fun h=>?_)<;>try (cases h;done)))<;>try simp -implicitDefEqProofs only [AS,(hb1.le.blk j _ hjs),go_sem])|(refine ⟨fun h=>?_,fun h=>?_⟩<;>first|(cases h;done)|try simp only [h])|fail))
   try simp -implicitDefEqProofs only [(hb2.le.blk j _ hjs),go_sem]
   (repeat' (first|refine Run.ct rfl ?_|((first|refine Run.reg mixed ?_|refine Run.AJ ?_|(refine AH.mk rfl (hp τ0 σ2 _ hH hb2 (by (try simp only [AB,AA,AE] at hlen ⊢);omega)) ?_;rintro _ σ3 ⟨rfl,hb3⟩)|(refine AQ rfl (fun h=>?_) (fun h=>?_)<;>try (cases h;done)))<;>try simp -implicitDefEqProofs only [AS,(hb2.le.blk j _ hjs),go_sem])|(refine ⟨fun h=>?_,fun h=>?_⟩<;>first|(cases h;done)|try simp only [h])|fail))
   try simp only [AT,A0,A3,A1] at hb3 ⊢
   exact Run.fin CG rfl (fun _ _ h=>h) (AM.le_refl _) ⟨rfl,hun _ _ hb3⟩
 · obtain ⟨a,b,c,rfl⟩:=gT (by simpa [nkB] using hnk)
   have hka:=hk a (by simp)
   have hkb:=hk b (by simp)
   have hkc:=hk c (by simp)
   have hp:=Yw [105,102,32] [32,116,104,101,110,32] [32,101,108,115,101,32] hka hkb
   have e:G4 9 n u ns [a,b,c] ([a,b,c].map Af) (al.map E0)=([105,102,32]++(Af a++([32,116,104,101,110,32]++(Af b++[32,101,108,115,101,32]))))++Af c:=by show [105,102,32]++(Af a++([32,116,104,101,110,32]++(Af b++([32,101,108,115,101,32]++Af c))))=_;simp only [AT,A0,A3]
   rw [e] at hlen ⊢
   clear e
   generalize Af a=ta at *
   obtain ⟨oa,na,ua,nsa,ksa,ala⟩:=a
   generalize Af b=tb at *
   obtain ⟨ob,nb,ub,nsb,ksb,alb⟩:=b
   generalize Af c=tc at *
   obtain ⟨oc,nc,uc,nsc,ksc,alc⟩:=c
   simp only [exA,Ex.A2,AF,AI] at hka hkb hkc hp ⊢
   (repeat' (first|refine Run.ct rfl ?_|((first|refine Run.reg mixed ?_|refine Run.AJ ?_|(refine AH.mk rfl (hp τ0 τ _ hH hb0 (by (try simp only [AB,AA,AE] at hlen ⊢);omega)) ?_;rintro _ σ1 ⟨rfl,hb1⟩)|(refine AQ rfl (fun h=>?_) (fun h=>?_)<;>try (cases h;done)))<;>try simp -implicitDefEqProofs only [AS,(hb0.le.blk j _ hjs),go_sem])|(refine ⟨fun h=>?_,fun h=>?_⟩<;>first|(cases h;done)|try simp only [h])|fail))
   try simp -implicitDefEqProofs only [(hb1.le.blk j _ hjs),go_sem]
   (repeat' (first|refine Run.ct rfl ?_|((first|refine Run.reg mixed ?_|refine Run.AJ ?_|(refine AH.mk rfl (hkc τ0 σ1 _ hH hb1 (by (try simp only [AB,AA,AE] at hlen ⊢);omega)) ?_;rintro _ σ2 ⟨rfl,hb2⟩)|(refine AQ rfl (fun h=>?_) (fun h=>?_)<;>try (cases h;done)))<;>try simp -implicitDefEqProofs only [AS,(hb1.le.blk j _ hjs),go_sem])|(refine ⟨fun h=>?_,fun h=>?_⟩<;>first|(cases h;done)|try simp only [h])|fail))
   try simp only [AT,A0,A3,A1] at hb2 ⊢
   exact Run.fin CG rfl (fun _ _ h=>h) (AM.le_refl _) ⟨rfl,hun _ _ hb2⟩
 · obtain ⟨a,rfl⟩:=Ub (by simpa [nkB] using hnk)
   have hka:=hk a (by simp)
   have hsep:=Sl (H:=fun σ=>σ.blk j=some [.gp i 0]) i (first:=[]) (caps:=[.gp j 0]) xX ⟨rfl,rfl⟩ [32,124,32] E0 al (fun x hx=>ha x hx j)
   have e:G4 10 n u ns [a] ([a].map Af) (al.map E0)=[109,97,116,99,104,32]++(Af a++([32,119,105,116,104,32]++(Lib.join (al.map E0) [32,124,32]++[32,101,110,100]))):=rfl
   rw [e] at hlen ⊢
   clear e
   generalize Af a=ta at *
   obtain ⟨oa,na,ua,nsa,ksa,ala⟩:=a
   simp only [exA,Ex.A2,AF,AI] at hka ⊢
   (repeat' (first|refine Run.ct rfl ?_|((first|refine Run.reg mixed ?_|refine Run.AJ ?_|(refine AH.mk rfl (A6 [109,97,116,99,104,32] hb0 (by (try simp only [AB,AA,AE] at hlen ⊢);omega)) ?_;rintro _ σ1 ⟨rfl,hb1⟩)|(refine AQ rfl (fun h=>?_) (fun h=>?_)<;>try (cases h;done)))<;>try simp -implicitDefEqProofs only [AS,(hb0.le.blk j _ hjs),go_sem])|(refine ⟨fun h=>?_,fun h=>?_⟩<;>first|(cases h;done)|try simp only [h])|fail))
   try simp -implicitDefEqProofs only [(hb1.le.blk j _ hjs),go_sem]
   (repeat' (first|refine Run.ct rfl ?_|((first|refine Run.reg mixed ?_|refine Run.AJ ?_|(refine AH.mk rfl (hka τ0 σ1 _ hH hb1 (by (try simp only [AB,AA,AE] at hlen ⊢);omega)) ?_;rintro _ σ2 ⟨rfl,hb2⟩)|(refine AQ rfl (fun h=>?_) (fun h=>?_)<;>try (cases h;done)))<;>try simp -implicitDefEqProofs only [AS,(hb1.le.blk j _ hjs),go_sem])|(refine ⟨fun h=>?_,fun h=>?_⟩<;>first|(cases h;done)|try simp only [h])|fail))
   try simp -implicitDefEqProofs only [(hb2.le.blk j _ hjs),go_sem]
   (repeat' (first|refine Run.ct rfl ?_|((first|refine Run.reg mixed ?_|refine Run.AJ ?_|(refine AH.mk rfl (A6 [32,119,105,116,104,32] hb2 (by (try simp only [AB,AA,AE] at hlen ⊢);omega)) ?_;rintro _ σ3 ⟨rfl,hb3⟩)|(refine AQ rfl (fun h=>?_) (fun h=>?_)<;>try (cases h;done)))<;>try simp -implicitDefEqProofs only [AS,(hb2.le.blk j _ hjs),go_sem])|(refine ⟨fun h=>?_,fun h=>?_⟩<;>first|(cases h;done)|try simp only [h])|fail))
   try simp -implicitDefEqProofs only [(hb3.le.blk j _ hjs),go_sem]
   (repeat' (first|refine Run.ct rfl ?_|((first|refine Run.reg mixed ?_|refine Run.AJ ?_|(refine AH.mk rfl (hsep τ0 σ3 _ hHj hb3 (by (try simp only [AB,AA,AE] at hlen ⊢);omega)) ?_;rintro _ σ4 ⟨rfl,hb4⟩)|(refine AQ rfl (fun h=>?_) (fun h=>?_)<;>try (cases h;done)))<;>try simp -implicitDefEqProofs only [AS,(hb3.le.blk j _ hjs),go_sem])|(refine ⟨fun h=>?_,fun h=>?_⟩<;>first|(cases h;done)|try simp only [h])|fail))
   try simp -implicitDefEqProofs only [(hb4.le.blk j _ hjs),go_sem]
   (repeat' (first|refine Run.ct rfl ?_|((first|refine Run.reg mixed ?_|refine Run.AJ ?_|(refine AH.mk rfl (A6 [32,101,110,100] hb4 (by (try simp only [AB,AA,AE] at hlen ⊢);omega)) ?_;rintro _ σ5 ⟨rfl,hb5⟩)|(refine AQ rfl (fun h=>?_) (fun h=>?_)<;>try (cases h;done)))<;>try simp -implicitDefEqProofs only [AS,(hb4.le.blk j _ hjs),go_sem])|(refine ⟨fun h=>?_,fun h=>?_⟩<;>first|(cases h;done)|try simp only [h])|fail))
   try simp only [AT,A0,A3,A1] at hb5 ⊢
   exact Run.fin CG rfl (fun _ _ h=>h) (AM.le_refl _) ⟨rfl,hun _ _ hb5⟩
 · obtain ⟨a,rfl⟩:=Ub (by simpa [nkB] using hnk)
   have hka:=hk a (by simp)
   have e:G4 11 n u ns [a] ([a].map Af) (al.map E0)=[102,110,40]++(Lib.join ns [44,32]++([41,32,45,62,32]++Af a)):=by show [102,110]++(FC ns++([32,45,62,32]++Af a))=_;simp [FC,Fk,cms]
   rw [e] at hlen ⊢
   clear e
   generalize Af a=ta at *
   obtain ⟨oa,na,ua,nsa,ksa,ala⟩:=a
   simp only [exA,Ex.A2,AF,AI] at hka ⊢
   simp [nsB] at hns
   have hlen2:=hlen
   simp only [AB,AA,AE] at hlen2
   have hjn:=mR ns [44,32] τ (by omega) (by omega)
   have ha1:=DB (a:=[102,110,40]) (b:=Lib.join ns [44,32]) (by simp only [AB,AE];omega)
   have ha2:=DB (a:=[102,110,40]++Lib.join ns [44,32]) (b:=[41,32,45,62,32]) (by simp only [AA,AB,AE];omega)
   simp only [A0,A3] at ha1 ha2
   (repeat' (first|refine Run.ct rfl ?_|((first|refine Run.reg mixed ?_|refine Run.AJ ?_|(refine AQ rfl (fun h=>?_) (fun h=>?_)<;>try (cases h;done)))<;>try simp -implicitDefEqProofs only [AS,(hb0.le.blk j _ hjs),go_sem])|(refine ⟨fun h=>?_,fun h=>?_⟩<;>first|(cases h;done)|try simp only [h])|fail))
   refine Run.FZ mixed ?_
   simp -implicitDefEqProofs only [(hb0.le.blk j _ hjs),ha1,ha2,go_sem]
   refine ⟨?_,?_⟩
   all_goals (repeat' (first|refine Run.ct rfl ?_|((first|refine Run.reg mixed ?_|refine Run.AJ ?_|(refine AH.mk rfl (A6 _ hb0 (by (try simp only [AB,AA,AE] at hlen ⊢);omega)) ?_;rintro _ σ1 ⟨rfl,hb1⟩)|refine AH.det (hjn) ?_|(refine AQ rfl (fun h=>?_) (fun h=>?_)<;>try (cases h;done)))<;>try simp -implicitDefEqProofs only [AS,ha1,ha2,(hb0.le.blk j _ hjs),go_sem])|(refine ⟨fun h=>?_,fun h=>?_⟩<;>first|(cases h;done)|try simp only [h])|fail))
   all_goals try simp -implicitDefEqProofs only [(hb1.le.blk j _ hjs),go_sem]
   all_goals (repeat' (first|refine Run.ct rfl ?_|((first|refine Run.reg mixed ?_|refine Run.AJ ?_|(refine AH.mk rfl (hka τ0 σ1 _ hH hb1 (by (try simp only [AB,AA,AE] at hlen ⊢);omega)) ?_;rintro _ σ2 ⟨rfl,hb2⟩)|(refine AQ rfl (fun h=>?_) (fun h=>?_)<;>try (cases h;done)))<;>try simp -implicitDefEqProofs only [AS,ha1,ha2,(hb1.le.blk j _ hjs),go_sem])|(refine ⟨fun h=>?_,fun h=>?_⟩<;>first|(cases h;done)|try simp only [h])|fail))
   all_goals try simp only [AT,A0,A3,A1] at hb2 ⊢
   all_goals exact Run.fin CG rfl (fun _ _ h=>h) (AM.le_refl _) ⟨rfl,hun _ _ hb2⟩
 · obtain ⟨a,b,rfl⟩:=OZ (by simpa [nkB] using hnk)
   have hka:=hk a (by simp)
   have hkb:=hk b (by simp)
   have e:G4 17 n u ns [a,b] ([a,b].map Af) (al.map E0)=[116,114,121,32]++(Af a++([32,99,97,116,99,104,32]++(shown n++([32,45,62,32]++(Af b++[32,101,110,100]))))):=rfl
   rw [e] at hlen ⊢
   clear e
   generalize Af a=ta at *
   obtain ⟨oa,na,ua,nsa,ksa,ala⟩:=a
   generalize Af b=tb at *
   obtain ⟨ob,nb,ub,nsb,ksb,alb⟩:=b
   simp only [exA,Ex.A2,AF,AI] at hka hkb ⊢
   (repeat' (first|refine Run.ct rfl ?_|((first|refine Run.reg mixed ?_|refine Run.AJ ?_|(refine AH.mk rfl (A6 [116,114,121,32] hb0 (by (try simp only [AB,AA,AE] at hlen ⊢);omega)) ?_;rintro _ σ1 ⟨rfl,hb1⟩)|(refine AQ rfl (fun h=>?_) (fun h=>?_)<;>try (cases h;done)))<;>try simp -implicitDefEqProofs only [AS,(hb0.le.blk j _ hjs),go_sem])|(refine ⟨fun h=>?_,fun h=>?_⟩<;>first|(cases h;done)|try simp only [h])|fail))
   try simp -implicitDefEqProofs only [(hb1.le.blk j _ hjs),go_sem]
   (repeat' (first|refine Run.ct rfl ?_|((first|refine Run.reg mixed ?_|refine Run.AJ ?_|(refine AH.mk rfl (hka τ0 σ1 _ hH hb1 (by (try simp only [AB,AA,AE] at hlen ⊢);omega)) ?_;rintro _ σ2 ⟨rfl,hb2⟩)|(refine AQ rfl (fun h=>?_) (fun h=>?_)<;>try (cases h;done)))<;>try simp -implicitDefEqProofs only [AS,(hb1.le.blk j _ hjs),go_sem])|(refine ⟨fun h=>?_,fun h=>?_⟩<;>first|(cases h;done)|try simp only [h])|fail))
   try simp -implicitDefEqProofs only [(hb2.le.blk j _ hjs),go_sem]
   (repeat' (first|refine Run.ct rfl ?_|((first|refine Run.reg mixed ?_|refine Run.AJ ?_|(refine AH.mk rfl (A6 [32,99,97,116,99,104,32] hb2 (by (try simp only [AB,AA,AE] at hlen ⊢);omega)) ?_;rintro _ σ3 ⟨rfl,hb3⟩)|(refine AQ rfl (fun h=>?_) (fun h=>?_)<;>try (cases h;done)))<;>try simp -implicitDefEqProofs only [AS,(hb2.le.blk j _ hjs),go_sem])|(refine ⟨fun h=>?_,fun h=>?_⟩<;>first|(cases h;done)|try simp only [h])|fail))
   try simp -implicitDefEqProofs only [(hb3.le.blk j _ hjs),go_sem]
   (repeat' (first|refine Run.ct rfl ?_|((first|refine Run.reg mixed ?_|refine Run.AJ ?_|(refine AH.mk rfl (hbn τ0 σ3 _ hH hb3 (by (try simp only [AB,AA,AE] at hlen ⊢);omega)) ?_;rintro _ σ4 ⟨rfl,hb4⟩)|(refine AQ rfl (fun h=>?_) (fun h=>?_)<;>try (cases h;done)))<;>try simp -implicitDefEqProofs only [AS,(hb3.le.blk j _ hjs),go_sem])|(refine ⟨fun h=>?_,fun h=>?_⟩<;>first|(cases h;done)|try simp only [h])|fail))
   try simp -implicitDefEqProofs only [(hb4.le.blk j _ hjs),go_sem]
   (repeat' (first|refine Run.ct rfl ?_|((first|refine Run.reg mixed ?_|refine Run.AJ ?_|(refine AH.mk rfl (A6 [32,45,62,32] hb4 (by (try simp only [AB,AA,AE] at hlen ⊢);omega)) ?_;rintro _ σ5 ⟨rfl,hb5⟩)|(refine AQ rfl (fun h=>?_) (fun h=>?_)<;>try (cases h;done)))<;>try simp -implicitDefEqProofs only [AS,(hb4.le.blk j _ hjs),go_sem])|(refine ⟨fun h=>?_,fun h=>?_⟩<;>first|(cases h;done)|try simp only [h])|fail))
   try simp -implicitDefEqProofs only [(hb5.le.blk j _ hjs),go_sem]
   (repeat' (first|refine Run.ct rfl ?_|((first|refine Run.reg mixed ?_|refine Run.AJ ?_|(refine AH.mk rfl (hkb τ0 σ5 _ hH hb5 (by (try simp only [AB,AA,AE] at hlen ⊢);omega)) ?_;rintro _ σ6 ⟨rfl,hb6⟩)|(refine AQ rfl (fun h=>?_) (fun h=>?_)<;>try (cases h;done)))<;>try simp -implicitDefEqProofs only [AS,(hb5.le.blk j _ hjs),go_sem])|(refine ⟨fun h=>?_,fun h=>?_⟩<;>first|(cases h;done)|try simp only [h])|fail))
   try simp -implicitDefEqProofs only [(hb6.le.blk j _ hjs),go_sem]
   (repeat' (first|refine Run.ct rfl ?_|((first|refine Run.reg mixed ?_|refine Run.AJ ?_|(refine AH.mk rfl (A6 [32,101,110,100] hb6 (by (try simp only [AB,AA,AE] at hlen ⊢);omega)) ?_;rintro _ σ7 ⟨rfl,hb7⟩)|(refine AQ rfl (fun h=>?_) (fun h=>?_)<;>try (cases h;done)))<;>try simp -implicitDefEqProofs only [AS,(hb6.le.blk j _ hjs),go_sem])|(refine ⟨fun h=>?_,fun h=>?_⟩<;>first|(cases h;done)|try simp only [h])|fail))
   try simp only [AT,A0,A3,A1] at hb7 ⊢
   exact Run.fin CG rfl (fun _ _ h=>h) (AM.le_refl _) ⟨rfl,hun _ _ hb7⟩
end Go.Ab
