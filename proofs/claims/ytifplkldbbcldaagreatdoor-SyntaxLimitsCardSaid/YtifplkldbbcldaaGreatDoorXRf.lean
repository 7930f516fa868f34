/- The printer: primary expressions, long ones. The printer: long expressions. Conditions: none. -/
import Derived.Test.YtifplkldbbcldaaGreatDoorXCdQe
set_option linter.unusedSimpArgs false
set_option linter.unusedVariables false
set_option maxRecDepth 4000
set_option maxHeartbeats 8000000
open Bool renaming and_eq_true→AM,false_eq_true→AU
open List renaming map_cons→AF,map_nil→AI,length_cons→AD,length_append→AA,length_nil→AG,append_assoc→AT,cons_append→A0,nil_append→A3,append_nil→AY
open Int renaming reduceBEq→A5
namespace Go.Ab
open Go.Proofs
def rC (o:Int):Prop:=o=1∨o=2∨o=3∨o=4∨o=5∨o=6∨o=14∨o=15∨o=16
set_option maxHeartbeats 4000000 in
theorem rE {i:Nat} {o:Int} {n:Str} {u:Int} {ns:List Str} {ks:List Ex} {al:List Al} (hn:GM o n u ns ks.length al=true) (ho:rC o)
 (hk:∀x∈ks,WC 139 [.gp i 0,exA x] i (Ay x)):WC 93 [.gp i 0,exA (.mk o n u ns ks al)] i (Ay (.mk o n u ns ks al)):=by
 intro σ0 σ0' s hH hb0 hlen
 have hli:=j8 hk
 have hop:=Rr (H:=fun _=>True) i (first:=[.gp i 0]) (caps:=[]) (by kernel_rfl:Ap Tryz.prog 139=true) ⟨rfl,rfl⟩ Ay ks hk
 have hpow:σ0'.gt Rv=some Tt:=by rw [← hb0.le.gt];exact hH.2
 simp only [GM,AM] at hn
 obtain ⟨⟨⟨⟨hnm,hnu⟩,hns⟩,has⟩,hnk⟩:=hn
 refine Qa (by simp) ?_
 rw [BK]
 simp only [exA,Ex.A2,AF,AI]
 rw [Ay,MW] at hlen ⊢
 rcases ho with rfl|rfl|rfl|rfl|rfl|rfl|rfl|rfl|rfl
 · have e:PW 1 n u ns ks (ks.map Ay) (Jd al)=[40,41]:=rfl
   rw [e] at hlen ⊢
   (repeat' (first|refine Run.ct rfl ?_|((first|refine Run.reg mixed ?_|refine Run.AL ?_|(refine AH.mk rfl (A4 [40,41] hb0 (by (try simp only [AD,AA,AG] at hlen ⊢);omega)) ?_;rintro _ σ1 ⟨rfl,hb1⟩)|(refine AR rfl (fun h=>?_) (fun h=>?_)<;>try (cases h;done)))<;>try simp -implicitDefEqProofs only [A5,go_sem])|(refine ⟨fun h=>?_,fun h=>?_⟩<;>first|(cases h;done)|try simp only [h])|fail))
   try simp only [AT,A0,A3,AY] at hb1 ⊢
   exact Run.fin BL rfl (fun _ _ h=>h) (AN.le_refl _) ⟨rfl,hb1⟩
 · by_cases hu:u=1
   · subst hu
     have e:PW 2 n 1 ns ks (ks.map Ay) (Jd al)=[116,114,117,101]:=rfl
     rw [e] at hlen ⊢
     have hfb:=TA true σ0'
     simp only [if_true] at hfb
     (repeat' (first|refine Run.ct rfl ?_|((first|refine Run.reg mixed ?_|refine Run.AL ?_|(refine AH.mk rfl (A4 [116,114,117,101] hb0 hlen) ?_;rintro _ σ1 ⟨rfl,hb1⟩)|refine AH.det (hfb) ?_|(refine AR rfl (fun h=>?_) (fun h=>?_)<;>try (cases h;done)))<;>try simp -implicitDefEqProofs only [A5,go_sem])|(refine ⟨fun h=>?_,fun h=>?_⟩<;>first|(cases h;done)|try simp only [h])|fail))
     try simp only [AT,A0,A3,AY] at hb1 ⊢
     exact Run.fin BL rfl (fun _ _ h=>h) (AN.le_refl _) ⟨rfl,hb1⟩
   · have e:PW 2 n u ns ks (ks.map Ay) (Jd al)=[102,97,108,115,101]:=by show (if u=1 then _ else _)=_;rw [if_neg hu]
     rw [e] at hlen ⊢
     have hfb:=TA false σ0'
     simp only [AU,if_false] at hfb
     (repeat' (first|refine Run.ct rfl ?_|((first|refine Run.reg mixed ?_|refine Run.AL ?_|(refine AH.mk rfl (A4 [102,97,108,115,101] hb0 hlen) ?_;rintro _ σ1 ⟨rfl,hb1⟩)|refine AH.det (hfb) ?_|(refine AR rfl (fun h=>?_) (fun h=>?_)<;>try (cases h;done)))<;>try simp -implicitDefEqProofs only [A5,C8 hu,go_sem])|(refine ⟨fun h=>?_,fun h=>?_⟩<;>first|(cases h;done)|try simp only [h])|fail))
     try simp only [AT,A0,A3,AY] at hb1 ⊢
     exact Run.fin BL rfl (fun _ _ h=>h) (AN.le_refl _) ⟨rfl,hb1⟩
 · have e:PW 3 n u ns ks (ks.map Ay) (Jd al)=Lib.itoa u:=rfl
   rw [e] at hlen ⊢
   have hfi:=LG u σ0' hpow
   (repeat' (first|refine Run.ct rfl ?_|((first|refine Run.reg mixed ?_|refine Run.AL ?_|(refine AH.mk rfl (A4 (Lib.itoa u) hb0 hlen) ?_;rintro _ σ1 ⟨rfl,hb1⟩)|refine AH.det (hfi) ?_|(refine AR rfl (fun h=>?_) (fun h=>?_)<;>try (cases h;done)))<;>try simp -implicitDefEqProofs only [A5,go_sem])|(refine ⟨fun h=>?_,fun h=>?_⟩<;>first|(cases h;done)|try simp only [h])|fail))
   try simp only [AT,A0,A3,AY] at hb1 ⊢
   exact Run.fin BL rfl (fun _ _ h=>h) (AN.le_refl _) ⟨rfl,hb1⟩
 · have e:PW 4 n u ns ks (ks.map Ay) (Jd al)=n++Ia (ks.map Ay):=rfl
   rw [e] at hlen ⊢
   (repeat' (first|refine Run.ct rfl ?_|((first|refine Run.reg mixed ?_|refine Run.AL ?_|(refine AH.mk rfl (A4 n hb0 (by (try simp only [AD,AA,AG] at hlen ⊢);omega)) ?_;rintro _ σ1 ⟨rfl,hb1⟩)|(refine AR rfl (fun h=>?_) (fun h=>?_)<;>try (cases h;done)))<;>try simp -implicitDefEqProofs only [A5,go_sem])|(refine ⟨fun h=>?_,fun h=>?_⟩<;>first|(cases h;done)|try simp only [h])|fail))
   (repeat' (first|refine Run.ct rfl ?_|((first|refine Run.reg mixed ?_|refine Run.AL ?_|(refine AH.mk rfl (hop σ0 σ1 _ hH hb1 (by (try simp only [AD,AA,AG] at hlen ⊢);omega)) ?_;rintro _ σ2 ⟨rfl,hb2⟩)|(refine AR rfl (fun h=>?_) (fun h=>?_)<;>try (cases h;done)))<;>try simp -implicitDefEqProofs only [A5,go_sem])|(refine ⟨fun h=>?_,fun h=>?_⟩<;>first|(cases h;done)|try simp only [h])|fail))
   try simp only [AT,A0,A3,AY] at hb2 ⊢
   exact Run.fin BL rfl (fun _ _ h=>h) (AN.le_refl _) ⟨rfl,hb2⟩
 · have e:PW 5 n u ns ks (ks.map Ay) (Jd al)=I9 (ks.map Ay):=rfl
   rw [e] at hlen ⊢
   (repeat' (first|refine Run.ct rfl ?_|((first|refine Run.reg mixed ?_|refine Run.AL ?_|(refine AH.mk rfl (hli σ0 σ0' _ hH hb0 (by (try simp only [AD,AA,AG] at hlen ⊢);omega)) ?_;rintro _ σ1 ⟨rfl,hb1⟩)|(refine AR rfl (fun h=>?_) (fun h=>?_)<;>try (cases h;done)))<;>try simp -implicitDefEqProofs only [A5,go_sem])|(refine ⟨fun h=>?_,fun h=>?_⟩<;>first|(cases h;done)|try simp only [h])|fail))
   try simp only [AT,A0,A3,AY] at hb1 ⊢
   exact Run.fin BL rfl (fun _ _ h=>h) (AN.le_refl _) ⟨rfl,hb1⟩
 · have e:PW 6 n u ns ks (ks.map Ay) (Jd al)=n++Ia (ks.map Ay):=rfl
   rw [e] at hlen ⊢
   (repeat' (first|refine Run.ct rfl ?_|((first|refine Run.reg mixed ?_|refine Run.AL ?_|(refine AH.mk rfl (A4 n hb0 (by (try simp only [AD,AA,AG] at hlen ⊢);omega)) ?_;rintro _ σ1 ⟨rfl,hb1⟩)|(refine AR rfl (fun h=>?_) (fun h=>?_)<;>try (cases h;done)))<;>try simp -implicitDefEqProofs only [A5,go_sem])|(refine ⟨fun h=>?_,fun h=>?_⟩<;>first|(cases h;done)|try simp only [h])|fail))
   (repeat' (first|refine Run.ct rfl ?_|((first|refine Run.reg mixed ?_|refine Run.AL ?_|(refine AH.mk rfl (hop σ0 σ1 _ hH hb1 (by (try simp only [AD,AA,AG] at hlen ⊢);omega)) ?_;rintro _ σ2 ⟨rfl,hb2⟩)|(refine AR rfl (fun h=>?_) (fun h=>?_)<;>try (cases h;done)))<;>try simp -implicitDefEqProofs only [A5,go_sem])|(refine ⟨fun h=>?_,fun h=>?_⟩<;>first|(cases h;done)|try simp only [h])|fail))
   try simp only [AT,A0,A3,AY] at hb2 ⊢
   exact Run.fin BL rfl (fun _ _ h=>h) (AN.le_refl _) ⟨rfl,hb2⟩
 · simp [nuB] at hnu
   obtain ⟨k,rfl⟩:∃k:Nat,u=k:=⟨u.toNat,by omega⟩
   have hpr:=Vw k (by omega) (by omega) σ0'
   have e:PW 14 n (k:Int) ns ks (ks.map Ay) (Jd al)=prT (k:Int)++I9 (ks.map Ay):=rfl
   rw [e] at hlen ⊢
   (repeat' (first|refine Run.ct rfl ?_|((first|refine Run.reg mixed ?_|refine Run.AL ?_|(refine AH.mk rfl (A4 (prT (k:Int)) hb0 (by (try simp only [AD,AA,AG] at hlen ⊢);omega)) ?_;rintro _ σ1 ⟨rfl,hb1⟩)|refine AH.det (hpr) ?_|(refine AR rfl (fun h=>?_) (fun h=>?_)<;>try (cases h;done)))<;>try simp -implicitDefEqProofs only [A5,go_sem])|(refine ⟨fun h=>?_,fun h=>?_⟩<;>first|(cases h;done)|try simp only [h])|fail))
   (repeat' (first|refine Run.ct rfl ?_|((first|refine Run.reg mixed ?_|refine Run.AL ?_|(refine AH.mk rfl (hli σ0 σ1 _ hH hb1 (by (try simp only [AD,AA,AG] at hlen ⊢);omega)) ?_;rintro _ σ2 ⟨rfl,hb2⟩)|(refine AR rfl (fun h=>?_) (fun h=>?_)<;>try (cases h;done)))<;>try simp -implicitDefEqProofs only [A5,go_sem])|(refine ⟨fun h=>?_,fun h=>?_⟩<;>first|(cases h;done)|try simp only [h])|fail))
   try simp only [AT,A0,A3,AY] at hb2 ⊢
   exact Run.fin BL rfl (fun _ _ h=>h) (AN.le_refl _) ⟨rfl,hb2⟩
 · have e:PW 15 n u ns ks (ks.map Ay) (Jd al)=[116,105,99,107,40]++(Lib.itoa u++[41]):=rfl
   rw [e] at hlen ⊢
   have hfi:=LG u σ0' hpow
   have ha1:=HF (a:=[116,105,99,107,40]) (b:=Lib.itoa u) (by simp only [AD,AA,AG] at hlen ⊢;omega)
   have ha2:=HF (a:=[116,105,99,107,40]++Lib.itoa u) (b:=[41]) (by simp only [AD,AA,AG] at hlen ⊢;omega)
   simp only [A0,A3] at ha1 ha2
   (repeat' (first|refine Run.ct rfl ?_|((first|refine Run.reg mixed ?_|refine Run.AL ?_|(refine AH.mk rfl (A4 _ hb0 (by (try simp only [AD,AA,AG] at hlen ⊢);omega)) ?_;rintro _ σ1 ⟨rfl,hb1⟩)|refine AH.det (hfi) ?_|(refine AR rfl (fun h=>?_) (fun h=>?_)<;>try (cases h;done)))<;>try simp -implicitDefEqProofs only [A5,ha1,ha2,go_sem])|(refine ⟨fun h=>?_,fun h=>?_⟩<;>first|(cases h;done)|try simp only [h])|fail))
   try simp only [AT,A0,A3,AY] at hb1 ⊢
   exact Run.fin BL rfl (fun _ _ h=>h) (AN.le_refl _) ⟨rfl,hb1⟩
 · have e:PW 16 n u ns ks (ks.map Ay) (Jd al)=[114,97,105,115,101]++I9 (ks.map Ay):=rfl
   rw [e] at hlen ⊢
   (repeat' (first|refine Run.ct rfl ?_|((first|refine Run.reg mixed ?_|refine Run.AL ?_|(refine AH.mk rfl (A4 [114,97,105,115,101] hb0 (by (try simp only [AD,AA,AG] at hlen ⊢);omega)) ?_;rintro _ σ1 ⟨rfl,hb1⟩)|(refine AR rfl (fun h=>?_) (fun h=>?_)<;>try (cases h;done)))<;>try simp -implicitDefEqProofs only [A5,go_sem])|(refine ⟨fun h=>?_,fun h=>?_⟩<;>first|(cases h;done)|try simp only [h])|fail))
   (repeat' (first|refine Run.ct rfl ?_|((first|refine Run.reg mixed ?_|refine Run.AL ?_|(refine AH.mk rfl (hli σ0 σ1 _ hH hb1 (by (try simp only [AD,AA,AG] at hlen ⊢);omega)) ?_;rintro _ σ2 ⟨rfl,hb2⟩)|(refine AR rfl (fun h=>?_) (fun h=>?_)<;>try (cases h;done)))<;>try simp -implicitDefEqProofs only [A5,go_sem])|(refine ⟨fun h=>?_,fun h=>?_⟩<;>first|(cases h;done)|try simp only [h])|fail))
   try simp only [AT,A0,A3,AY] at hb2 ⊢
   exact Run.fin BL rfl (fun _ _ h=>h) (AN.le_refl _) ⟨rfl,hb2⟩
end Go.Ab
namespace Go.Ab
open Go.Proofs
theorem xE:Ap Tryz.prog 140=true:=by kernel_rfl
theorem tW:Ap Tryz.prog 143=true:=by kernel_rfl
theorem kR (i:Nat) (ns:List Str):WC 79 [.gp i 0,.d (.sl (ns.map Dr)),.fn 140 [.gp i 0] []] i (Ia (ns.map shown)):=
 Mt (H:=fun _=>True) i (first:=[.gp i 0]) (caps:=[]) xE ⟨rfl,rfl⟩ shown ns (fun x _=>cJ i x)
theorem w4 {i:Nat} (j:Nat) {c:Str} {vs:List Str} {b:Ex} (hb:WC 139 [.gp i 0,exA b] i (Ay b)):
 WX (fun σ=>σ.blk j=some [.gp i 0]) 143 ([]++[alA (.mk c vs b)]++[.gp j 0]) i (Mg (.mk c vs b)):=by
 intro σ0 σ s hH0 hb0 hlen
 have hjs:=hH0.1
 have hH:(fun _=>True) σ0∧σ0.gt Rv=some Tt:=⟨trivial,hH0.2⟩
 have hvs:=kR i vs
 refine O5 (by simp) ?_
 show Run _ _ _ (Ao [_,_]) _ _
 rw [BK]
 rw [Mg,alT] at hlen ⊢
 generalize Ay b=tb at hb hlen ⊢
 obtain ⟨o',n',u',ns',ks',al'⟩:=b
 simp only [exA,alA,Al.A2,Ex.A2,AF,AI] at hb ⊢
 (repeat' (first|refine Run.ct rfl ?_|((first|refine Run.reg mixed ?_|refine Run.AL ?_|(refine AH.mk rfl (A4 c hb0 (by (try simp only [AD,AA,AG] at hlen ⊢);omega)) ?_;rintro _ σ1 ⟨rfl,hb1⟩)|(refine AR rfl (fun h=>?_) (fun h=>?_)<;>try (cases h;done)))<;>try simp -implicitDefEqProofs only [Al.A2,(hb0.le.blk j _ hjs),go_sem])|(refine ⟨fun h=>?_,fun h=>?_⟩<;>first|(cases h;done)|try simp only [h])|fail))
 try simp -implicitDefEqProofs only [(hb1.le.blk j _ hjs),go_sem]
 (repeat' (first|refine Run.ct rfl ?_|((first|refine Run.reg mixed ?_|refine Run.AL ?_|(refine AH.mk rfl (hvs σ0 σ1 _ hH hb1 (by (try simp only [AD,AA,AG] at hlen ⊢);omega)) ?_;rintro _ σ2 ⟨rfl,hb2⟩)|(refine AR rfl (fun h=>?_) (fun h=>?_)<;>try (cases h;done)))<;>try simp -implicitDefEqProofs only [Al.A2,(hb1.le.blk j _ hjs),go_sem])|(refine ⟨fun h=>?_,fun h=>?_⟩<;>first|(cases h;done)|try simp only [h])|fail))
 try simp -implicitDefEqProofs only [(hb2.le.blk j _ hjs),go_sem]
 (repeat' (first|refine Run.ct rfl ?_|((first|refine Run.reg mixed ?_|refine Run.AL ?_|(refine AH.mk rfl (A4 [32,45,62,32] hb2 (by (try simp only [AD,AA,AG] at hlen ⊢);omega)) ?_;rintro _ σ3 ⟨rfl,hb3⟩)|(refine AR rfl (fun h=>?_) (fun h=>?_)<;>try (cases h;done)))<;>try simp -implicitDefEqProofs only [Al.A2,(hb2.le.blk j _ hjs),go_sem])|(refine ⟨fun h=>?_,fun h=>?_⟩<;>first|(cases h;done)|try simp only [h])|fail))
 try simp -implicitDefEqProofs only [(hb3.le.blk j _ hjs),go_sem]
 (repeat' (first|refine Run.ct rfl ?_|((first|refine Run.reg mixed ?_|refine Run.AL ?_|(refine AH.mk rfl (hb σ0 σ3 _ hH hb3 (by (try simp only [AD,AA,AG] at hlen ⊢);omega)) ?_;rintro _ σ4 ⟨rfl,hb4⟩)|(refine AR rfl (fun h=>?_) (fun h=>?_)<;>try (cases h;done)))<;>try simp -implicitDefEqProofs only [Al.A2,(hb3.le.blk j _ hjs),go_sem])|(refine ⟨fun h=>?_,fun h=>?_⟩<;>first|(cases h;done)|try simp only [h])|fail))
 try simp only [AT,A0,A3,AY] at hb4 ⊢
 exact Run.fin IX rfl (fun _ _ h=>h) (AN.le_refl _) ⟨rfl,hb4⟩
def j9 (o:Int):Prop:=o=7∨o=8∨o=9∨o=10∨o=11∨o=17
set_option maxHeartbeats 8000000 in
theorem tX {i:Nat} {o:Int} {n:Str} {u:Int} {ns:List Str} {ks:List Ex} {al:List Al} (hn:GM o n u ns ks.length al=true) (ho:j9 o)
 (hk:∀x∈ks,WC 139 [.gp i 0,exA x] i (Ay x))
 (ha:∀x∈al,∀j,WX (fun σ=>σ.blk j=some [.gp i 0]) 143 ([]++[alA x]++[.gp j 0]) i (Mg x)):WC 89 [.gp i 0,exA (.mk o n u ns ks al)] i (Ay (.mk o n u ns ks al)):=by
 intro σ0 σ s hH hbu hlen
 have hvs:=kR i ns
 have hbn:=cJ i n
 simp only [GM,AM] at hn
 obtain ⟨⟨⟨⟨hnm,hnu⟩,hns⟩,has⟩,hnk⟩:=hn
 refine Q8 (by simp) ?_
 rw [BK]
 simp only [exA,Ex.A2,AF,AI]
 rw [Ay,MW,VG] at hlen ⊢
 (repeat' (first|refine Run.ct rfl ?_|((first|refine Run.reg mixed ?_|refine Run.AL ?_|(refine AR rfl (fun h=>?_) (fun h=>?_)<;>try (cases h;done)))<;>try simp -implicitDefEqProofs only [go_sem])|(refine ⟨fun h=>?_,fun h=>?_⟩<;>first|(cases h;done)|try simp only [h])|fail))
 intro j hj
 have hun:∀s' σ',BuS (σ0.AK j [.gp i 0]) i s' σ'→BuS σ0 i s' σ':=fun s' σ' h=>hbu.kP hj h
 have hjs:(σ0.AK j [.gp i 0]).blk j=some [.gp i 0]:=by simp [AO]
 have hH:(fun _=>True) (σ0.AK j [.gp i 0])∧(σ0.AK j [.gp i 0]).gt Rv=some Tt:=⟨trivial,hH.2⟩
 have hb0:=hbu.share (cs:=[.gp i 0]) hj
 generalize σ.AK j [.gp i 0]=τ at hb0 ⊢
 generalize σ0.AK j [.gp i 0]=τ0 at hun hjs hH hb0
 have hHj:(fun σ=>σ.blk j=some [.gp i 0]) τ0∧τ0.gt Rv=some Tt:=⟨hjs,hH.2⟩
 rcases ho with rfl|rfl|rfl|rfl|rfl|rfl
 · obtain ⟨a,b,rfl⟩:=Sn (by simpa [nkB] using hnk)
   have hka:=hk a (by simp)
   have hkb:=hk b (by simp)
   have hp:=Xr [32,61,32] [32,105,110,32] [] hka hkb
   have e:PW 7 n u ns [a,b] ([a,b].map Ay) (al.map Mg)=[108,101,116,32]++(shown n++([32,61,32]++(Ay a++([32,105,110,32]++(Ay b++[]))))):=by show _=_;rw [AY];rfl
   rw [e] at hlen ⊢
   clear e
   generalize Ay a=ta at *
   obtain ⟨oa,na,ua,nsa,ksa,ala⟩:=a
   generalize Ay b=tb at *
   obtain ⟨ob,nb,ub,nsb,ksb,alb⟩:=b
   simp only [exA,Ex.A2,AF,AI] at hka hkb hp ⊢
   (repeat' (first|refine Run.ct rfl ?_|((first|refine Run.reg mixed ?_|refine Run.AL ?_|(refine AH.mk rfl (A4 [108,101,116,32] hb0 (by (try simp only [AD,AA,AG] at hlen ⊢);omega)) ?_;rintro _ σ1 ⟨rfl,hb1⟩)|(refine AR rfl (fun h=>?_) (fun h=>?_)<;>try (cases h;done)))<;>try simp -implicitDefEqProofs only [A5,(hb0.le.blk j _ hjs),go_sem])|(refine ⟨fun h=>?_,fun h=>?_⟩<;>first|(cases h;done)|try simp only [h])|fail))
   try simp -implicitDefEqProofs only [(hb1.le.blk j _ hjs),go_sem]
   (repeat' (first|refine Run.ct rfl ?_|((first|refine Run.reg mixed ?_|refine Run.AL ?_|(refine AH.mk rfl (hbn τ0 σ1 _ hH hb1 (by (try simp only [AD,AA,AG] at hlen ⊢);omega)) ?_;rintro _ σ2 ⟨rfl,hb2⟩)|(refine AR rfl (fun h=>?_) (fun h=>?_)<;>try (cases h;done)))<;>try simp -implicitDefEqProofs only [A5,(hb1.le.blk j _ hjs),go_sem])|(refine ⟨fun h=>?_,fun h=>?_⟩<;>first|(cases h;done)|try simp only [h])|fail))
   try simp -implicitDefEqProofs only [(hb2.le.blk j _ hjs),go_sem]
   (repeat' (first|refine Run.ct rfl ?_|((first|refine Run.reg mixed ?_|refine Run.AL ?_|(refine AH.mk rfl (hp τ0 σ2 _ hH hb2 (by (try simp only [AD,AA,AG] at hlen ⊢);omega)) ?_;rintro _ σ3 ⟨rfl,hb3⟩)|(refine AR rfl (fun h=>?_) (fun h=>?_)<;>try (cases h;done)))<;>try simp -implicitDefEqProofs only [A5,(hb2.le.blk j _ hjs),go_sem])|(refine ⟨fun h=>?_,fun h=>?_⟩<;>first|(cases h;done)|try simp only [h])|fail))
   try simp only [AT,A0,A3,AY] at hb3 ⊢
   exact Run.fin By rfl (fun _ _ h=>h) (AN.le_refl _) ⟨rfl,hun _ _ hb3⟩
 · obtain ⟨a,b,rfl⟩:=Sn (by simpa [nkB] using hnk)
   have hka:=hk a (by simp)
   have hkb:=hk b (by simp)
   have hp:=Xr [32,61,32] [32,105,110,32] [] hka hkb
   have e:PW 8 n u ns [a,b] ([a,b].map Ay) (al.map Mg)=[108,101,116,32]++(Ia (ns.map shown)++([32,61,32]++(Ay a++([32,105,110,32]++(Ay b++[]))))):=by show _=_;rw [AY];rfl
   rw [e] at hlen ⊢
   clear e
   generalize Ay a=ta at *
   obtain ⟨oa,na,ua,nsa,ksa,ala⟩:=a
   generalize Ay b=tb at *
   obtain ⟨ob,nb,ub,nsb,ksb,alb⟩:=b
   simp only [exA,Ex.A2,AF,AI] at hka hkb hp ⊢
   (repeat' (first|refine Run.ct rfl ?_|((first|refine Run.reg mixed ?_|refine Run.AL ?_|(refine AH.mk rfl (A4 [108,101,116,32] hb0 (by (try simp only [AD,AA,AG] at hlen ⊢);omega)) ?_;rintro _ σ1 ⟨rfl,hb1⟩)|(refine AR rfl (fun h=>?_) (fun h=>?_)<;>try (cases h;done)))<;>try simp -implicitDefEqProofs only [A5,(hb0.le.blk j _ hjs),go_sem])|(refine ⟨fun h=>?_,fun h=>?_⟩<;>first|(cases h;done)|try simp only [h])|fail))
   try simp -implicitDefEqProofs only [(hb1.le.blk j _ hjs),go_sem]
   (repeat' (first|refine Run.ct rfl ?_|((first|refine Run.reg mixed ?_|refine Run.AL ?_|(refine AH.mk rfl (hvs τ0 σ1 _ hH hb1 (by (try simp only [AD,AA,AG] at hlen ⊢);omega)) ?_;rintro _ σ2 ⟨rfl,hb2⟩)|(refine AR rfl (fun h=>?_) (fun h=>?_)<;>try (cases h;done)))<;>try simp -implicitDefEqProofs only [A5,(hb1.le.blk j _ hjs),go_sem])|(refine ⟨fun h=>?_,fun h=>?_⟩<;>first|(cases h;done)|try simp only [h])|fail))
   try simp -implicitDefEqProofs only [(hb2.le.blk j _ hjs),go_sem]
   (repeat' (first|refine Run.ct rfl ?_|((first|refine Run.reg mixed ?_|refine Run.AL ?_|(refine AH.mk rfl (hp τ0 σ2 _ hH hb2 (by (try simp only [AD,AA,AG] at hlen ⊢);omega)) ?_;rintro _ σ3 ⟨rfl,hb3⟩)|(refine AR rfl (fun h=>?_) (fun h=>?_)<;>try (cases h;done)))<;>try simp -implicitDefEqProofs only [A5,(hb2.le.blk j _ hjs),go_sem])|(refine ⟨fun h=>?_,fun h=>?_⟩<;>first|(cases h;done)|try simp only [h])|fail))
   try simp only [AT,A0,A3,AY] at hb3 ⊢
   exact Run.fin By rfl (fun _ _ h=>h) (AN.le_refl _) ⟨rfl,hun _ _ hb3⟩
 · obtain ⟨a,b,c,rfl⟩:=gY (by simpa [nkB] using hnk)
   have hka:=hk a (by simp)
   have hkb:=hk b (by simp)
   have hkc:=hk c (by simp)
   have hp:=Xr [105,102,32] [32,116,104,101,110,32] [32,101,108,115,101,32] hka hkb
   have e:PW 9 n u ns [a,b,c] ([a,b,c].map Ay) (al.map Mg)=([105,102,32]++(Ay a++([32,116,104,101,110,32]++(Ay b++[32,101,108,115,101,32]))))++Ay c:=by show [105,102,32]++(Ay a++([32,116,104,101,110,32]++(Ay b++([32,101,108,115,101,32]++Ay c))))=_;simp only [AT,A0,A3]
   rw [e] at hlen ⊢
   clear e
   generalize Ay a=ta at *
   obtain ⟨oa,na,ua,nsa,ksa,ala⟩:=a
   generalize Ay b=tb at *
   obtain ⟨ob,nb,ub,nsb,ksb,alb⟩:=b
   generalize Ay c=tc at *
   obtain ⟨oc,nc,uc,nsc,ksc,alc⟩:=c
   simp only [exA,Ex.A2,AF,AI] at hka hkb hkc hp ⊢
   (repeat' (first|refine Run.ct rfl ?_|((first|refine Run.reg mixed ?_|refine Run.AL ?_|(refine AH.mk rfl (hp τ0 τ _ hH hb0 (by (try simp only [AD,AA,AG] at hlen ⊢);omega)) ?_;rintro _ σ1 ⟨rfl,hb1⟩)|(refine AR rfl (fun h=>?_) (fun h=>?_)<;>try (cases h;done)))<;>try simp -implicitDefEqProofs only [A5,(hb0.le.blk j _ hjs),go_sem])|(refine ⟨fun h=>?_,fun h=>?_⟩<;>first|(cases h;done)|try simp only [h])|fail))
   try simp -implicitDefEqProofs only [(hb1.le.blk j _ hjs),go_sem]
   (repeat' (first|refine Run.ct rfl ?_|((first|refine Run.reg mixed ?_|refine Run.AL ?_|(refine AH.mk rfl (hkc τ0 σ1 _ hH hb1 (by (try simp only [AD,AA,AG] at hlen ⊢);omega)) ?_;rintro _ σ2 ⟨rfl,hb2⟩)|(refine AR rfl (fun h=>?_) (fun h=>?_)<;>try (cases h;done)))<;>try simp -implicitDefEqProofs only [A5,(hb1.le.blk j _ hjs),go_sem])|(refine ⟨fun h=>?_,fun h=>?_⟩<;>first|(cases h;done)|try simp only [h])|fail))
   try simp only [AT,A0,A3,AY] at hb2 ⊢
   exact Run.fin By rfl (fun _ _ h=>h) (AN.le_refl _) ⟨rfl,hun _ _ hb2⟩
 · obtain ⟨a,rfl⟩:=WT (by simpa [nkB] using hnk)
   have hka:=hk a (by simp)
   have hsep:=SH (H:=fun σ=>σ.blk j=some [.gp i 0]) i (first:=[]) (caps:=[.gp j 0]) tW ⟨rfl,rfl⟩ [32,124,32] Mg al (fun x hx=>ha x hx j)
   have e:PW 10 n u ns [a] ([a].map Ay) (al.map Mg)=[109,97,116,99,104,32]++(Ay a++([32,119,105,116,104,32]++(Lib.join (al.map Mg) [32,124,32]++[32,101,110,100]))):=rfl
   rw [e] at hlen ⊢
   clear e
   generalize Ay a=ta at *
   obtain ⟨oa,na,ua,nsa,ksa,ala⟩:=a
   simp only [exA,Ex.A2,AF,AI] at hka ⊢
   (repeat' (first|refine Run.ct rfl ?_|((first|refine Run.reg mixed ?_|refine Run.AL ?_|(refine AH.mk rfl (A4 [109,97,116,99,104,32] hb0 (by (try simp only [AD,AA,AG] at hlen ⊢);omega)) ?_;rintro _ σ1 ⟨rfl,hb1⟩)|(refine AR rfl (fun h=>?_) (fun h=>?_)<;>try (cases h;done)))<;>try simp -implicitDefEqProofs only [A5,(hb0.le.blk j _ hjs),go_sem])|(refine ⟨fun h=>?_,fun h=>?_⟩<;>first|(cases h;done)|try simp only [h])|fail))
   try simp -implicitDefEqProofs only [(hb1.le.blk j _ hjs),go_sem]
   (repeat' (first|refine Run.ct rfl ?_|((first|refine Run.reg mixed ?_|refine Run.AL ?_|(refine AH.mk rfl (hka τ0 σ1 _ hH hb1 (by (try simp only [AD,AA,AG] at hlen ⊢);omega)) ?_;rintro _ σ2 ⟨rfl,hb2⟩)|(refine AR rfl (fun h=>?_) (fun h=>?_)<;>try (cases h;done)))<;>try simp -implicitDefEqProofs only [A5,(hb1.le.blk j _ hjs),go_sem])|(refine ⟨fun h=>?_,fun h=>?_⟩<;>first|(cases h;done)|try simp only [h])|fail))
   try simp -implicitDefEqProofs only [(hb2.le.blk j _ hjs),go_sem]
   (repeat' (first|refine Run.ct rfl ?_|((first|refine Run.reg mixed ?_|refine Run.AL ?_|(refine AH.mk rfl (A4 [32,119,105,116,104,32] hb2 (by (try simp only [AD,AA,AG] at hlen ⊢);omega)) ?_;rintro _ σ3 ⟨rfl,hb3⟩)|(refine AR rfl (fun h=>?_) (fun h=>?_)<;>try (cases h;done)))<;>try simp -implicitDefEqProofs only [A5,(hb2.le.blk j _ hjs),go_sem])|(refine ⟨fun h=>?_,fun h=>?_⟩<;>first|(cases h;done)|try simp only [h])|fail))
   try simp -implicitDefEqProofs only [(hb3.le.blk j _ hjs),go_sem]
   (repeat' (first|refine Run.ct rfl ?_|((first|refine Run.reg mixed ?_|refine Run.AL ?_|(refine AH.mk rfl (hsep τ0 σ3 _ hHj hb3 (by (try simp only [AD,AA,AG] at hlen ⊢);omega)) ?_;rintro _ σ4 ⟨rfl,hb4⟩)|(refine AR rfl (fun h=>?_) (fun h=>?_)<;>try (cases h;done)))<;>try simp -implicitDefEqProofs only [A5,(hb3.le.blk j _ hjs),go_sem])|(refine ⟨fun h=>?_,fun h=>?_⟩<;>first|(cases h;done)|try simp only [h])|fail))
   try simp -implicitDefEqProofs only [(hb4.le.blk j _ hjs),go_sem]
   (repeat' (first|refine Run.ct rfl ?_|((first|refine Run.reg mixed ?_|refine Run.AL ?_|(refine AH.mk rfl (A4 [32,101,110,100] hb4 (by (try simp only [AD,AA,AG] at hlen ⊢);omega)) ?_;rintro _ σ5 ⟨rfl,hb5⟩)|(refine AR rfl (fun h=>?_) (fun h=>?_)<;>try (cases h;done)))<;>try simp -implicitDefEqProofs only [A5,(hb4.le.blk j _ hjs),go_sem])|(refine ⟨fun h=>?_,fun h=>?_⟩<;>first|(cases h;done)|try simp only [h])|fail))
   try simp only [AT,A0,A3,AY] at hb5 ⊢
   exact Run.fin By rfl (fun _ _ h=>h) (AN.le_refl _) ⟨rfl,hun _ _ hb5⟩
 · obtain ⟨a,rfl⟩:=WT (by simpa [nkB] using hnk)
   have hka:=hk a (by simp)
   have e:PW 11 n u ns [a] ([a].map Ay) (al.map Mg)=[102,110,40]++(Lib.join ns [44,32]++([41,32,45,62,32]++Ay a)):=by show [102,110]++(I9 ns++([32,45,62,32]++Ay a))=_;simp [I9,JH,cms]
   rw [e] at hlen ⊢
   clear e
   generalize Ay a=ta at *
   obtain ⟨oa,na,ua,nsa,ksa,ala⟩:=a
   simp only [exA,Ex.A2,AF,AI] at hka ⊢
   simp [nsB] at hns
   have hlen2:=hlen
   simp only [AD,AA,AG] at hlen2
   have hjn:=jJ ns [44,32] τ (by omega) (by omega)
   have ha1:=HF (a:=[102,110,40]) (b:=Lib.join ns [44,32]) (by simp only [AD,AG];omega)
   have ha2:=HF (a:=[102,110,40]++Lib.join ns [44,32]) (b:=[41,32,45,62,32]) (by simp only [AA,AD,AG];omega)
   simp only [A0,A3] at ha1 ha2
   (repeat' (first|refine Run.ct rfl ?_|((first|refine Run.reg mixed ?_|refine Run.AL ?_|(refine AR rfl (fun h=>?_) (fun h=>?_)<;>try (cases h;done)))<;>try simp -implicitDefEqProofs only [A5,(hb0.le.blk j _ hjs),go_sem])|(refine ⟨fun h=>?_,fun h=>?_⟩<;>first|(cases h;done)|try simp only [h])|fail))
   refine Run.Tu mixed ?_
   simp -implicitDefEqProofs only [(hb0.le.blk j _ hjs),ha1,ha2,go_sem]
   refine ⟨?_,?_⟩
   all_goals (repeat' (first|refine Run.ct rfl ?_|((first|refine Run.reg mixed ?_|refine Run.AL ?_|(refine AH.mk rfl (A4 _ hb0 (by (try simp only [AD,AA,AG] at hlen ⊢);omega)) ?_;rintro _ σ1 ⟨rfl,hb1⟩)|refine AH.det (hjn) ?_|(refine AR rfl (fun h=>?_) (fun h=>?_)<;>try (cases h;done)))<;>try simp -implicitDefEqProofs only [A5,ha1,ha2,(hb0.le.blk j _ hjs),go_sem])|(refine ⟨fun h=>?_,fun h=>?_⟩<;>first|(cases h;done)|try simp only [h])|fail))
   all_goals try simp -implicitDefEqProofs only [(hb1.le.blk j _ hjs),go_sem]
   all_goals (repeat' (first|refine Run.ct rfl ?_|((first|refine Run.reg mixed ?_|refine Run.AL ?_|(refine AH.mk rfl (hka τ0 σ1 _ hH hb1 (by (try simp only [AD,AA,AG] at hlen ⊢);omega)) ?_;rintro _ σ2 ⟨rfl,hb2⟩)|(refine AR rfl (fun h=>?_) (fun h=>?_)<;>try (cases h;done)))<;>try simp -implicitDefEqProofs only [A5,ha1,ha2,(hb1.le.blk j _ hjs),go_sem])|(refine ⟨fun h=>?_,fun h=>?_⟩<;>first|(cases h;done)|try simp only [h])|fail))
   all_goals try simp only [AT,A0,A3,AY] at hb2 ⊢
   all_goals exact Run.fin By rfl (fun _ _ h=>h) (AN.le_refl _) ⟨rfl,hun _ _ hb2⟩
 · obtain ⟨a,b,rfl⟩:=Sn (by simpa [nkB] using hnk)
   have hka:=hk a (by simp)
   have hkb:=hk b (by simp)
   have e:PW 17 n u ns [a,b] ([a,b].map Ay) (al.map Mg)=[116,114,121,32]++(Ay a++([32,99,97,116,99,104,32]++(shown n++([32,45,62,32]++(Ay b++[32,101,110,100]))))):=rfl
   rw [e] at hlen ⊢
   clear e
   generalize Ay a=ta at *
   obtain ⟨oa,na,ua,nsa,ksa,ala⟩:=a
   generalize Ay b=tb at *
   obtain ⟨ob,nb,ub,nsb,ksb,alb⟩:=b
   simp only [exA,Ex.A2,AF,AI] at hka hkb ⊢
   (repeat' (first|refine Run.ct rfl ?_|((first|refine Run.reg mixed ?_|refine Run.AL ?_|(refine AH.mk rfl (A4 [116,114,121,32] hb0 (by (try simp only [AD,AA,AG] at hlen ⊢);omega)) ?_;rintro _ σ1 ⟨rfl,hb1⟩)|(refine AR rfl (fun h=>?_) (fun h=>?_)<;>try (cases h;done)))<;>try simp -implicitDefEqProofs only [A5,(hb0.le.blk j _ hjs),go_sem])|(refine ⟨fun h=>?_,fun h=>?_⟩<;>first|(cases h;done)|try simp only [h])|fail))
   try simp -implicitDefEqProofs only [(hb1.le.blk j _ hjs),go_sem]
   (repeat' (first|refine Run.ct rfl ?_|((first|refine Run.reg mixed ?_|refine Run.AL ?_|(refine AH.mk rfl (hka τ0 σ1 _ hH hb1 (by (try simp only [AD,AA,AG] at hlen ⊢);omega)) ?_;rintro _ σ2 ⟨rfl,hb2⟩)|(refine AR rfl (fun h=>?_) (fun h=>?_)<;>try (cases h;done)))<;>try simp -implicitDefEqProofs only [A5,(hb1.le.blk j _ hjs),go_sem])|(refine ⟨fun h=>?_,fun h=>?_⟩<;>first|(cases h;done)|try simp only [h])|fail))
   try simp -implicitDefEqProofs only [(hb2.le.blk j _ hjs),go_sem]
   (repeat' (first|refine Run.ct rfl ?_|((first|refine Run.reg mixed ?_|refine Run.AL ?_|(refine AH.mk rfl (A4 [32,99,97,116,99,104,32] hb2 (by (try simp only [AD,AA,AG] at hlen ⊢);omega)) ?_;rintro _ σ3 ⟨rfl,hb3⟩)|(refine AR rfl (fun h=>?_) (fun h=>?_)<;>try (cases h;done)))<;>try simp -implicitDefEqProofs only [A5,(hb2.le.blk j _ hjs),go_sem])|(refine ⟨fun h=>?_,fun h=>?_⟩<;>first|(cases h;done)|try simp only [h])|fail))
   try simp -implicitDefEqProofs only [(hb3.le.blk j _ hjs),go_sem]
   (repeat' (first|refine Run.ct rfl ?_|((first|refine Run.reg mixed ?_|refine Run.AL ?_|(refine AH.mk rfl (hbn τ0 σ3 _ hH hb3 (by (try simp only [AD,AA,AG] at hlen ⊢);omega)) ?_;rintro _ σ4 ⟨rfl,hb4⟩)|(refine AR rfl (fun h=>?_) (fun h=>?_)<;>try (cases h;done)))<;>try simp -implicitDefEqProofs only [A5,(hb3.le.blk j _ hjs),go_sem])|(refine ⟨fun h=>?_,fun h=>?_⟩<;>first|(cases h;done)|try simp only [h])|fail))
   try simp -implicitDefEqProofs only [(hb4.le.blk j _ hjs),go_sem]
   (repeat' (first|refine Run.ct rfl ?_|((first|refine Run.reg mixed ?_|refine Run.AL ?_|(refine AH.mk rfl (A4 [32,45,62,32] hb4 (by (try simp only [AD,AA,AG] at hlen ⊢);omega)) ?_;rintro _ σ5 ⟨rfl,hb5⟩)|(refine AR rfl (fun h=>?_) (fun h=>?_)<;>try (cases h;done)))<;>try simp -implicitDefEqProofs only [A5,(hb4.le.blk j _ hjs),go_sem])|(refine ⟨fun h=>?_,fun h=>?_⟩<;>first|(cases h;done)|try simp only [h])|fail))
   try simp -implicitDefEqProofs only [(hb5.le.blk j _ hjs),go_sem]
   (repeat' (first|refine Run.ct rfl ?_|((first|refine Run.reg mixed ?_|refine Run.AL ?_|(refine AH.mk rfl (hkb τ0 σ5 _ hH hb5 (by (try simp only [AD,AA,AG] at hlen ⊢);omega)) ?_;rintro _ σ6 ⟨rfl,hb6⟩)|(refine AR rfl (fun h=>?_) (fun h=>?_)<;>try (cases h;done)))<;>try simp -implicitDefEqProofs only [A5,(hb5.le.blk j _ hjs),go_sem])|(refine ⟨fun h=>?_,fun h=>?_⟩<;>first|(cases h;done)|try simp only [h])|fail))
   try simp -implicitDefEqProofs only [(hb6.le.blk j _ hjs),go_sem]
   (repeat' (first|refine Run.ct rfl ?_|((first|refine Run.reg mixed ?_|refine Run.AL ?_|(refine AH.mk rfl (A4 [32,101,110,100] hb6 (by (try simp only [AD,AA,AG] at hlen ⊢);omega)) ?_;rintro _ σ7 ⟨rfl,hb7⟩)|(refine AR rfl (fun h=>?_) (fun h=>?_)<;>try (cases h;done)))<;>try simp -implicitDefEqProofs only [A5,(hb6.le.blk j _ hjs),go_sem])|(refine ⟨fun h=>?_,fun h=>?_⟩<;>first|(cases h;done)|try simp only [h])|fail))
   try simp only [AT,A0,A3,AY] at hb7 ⊢
   exact Run.fin By rfl (fun _ _ h=>h) (AN.le_refl _) ⟨rfl,hun _ _ hb7⟩
end Go.Ab
