/- The printer: levels, places, truth values; open, parenthesized, list, parts. The printer: primary expressions, long ones. The printer: long expressions. Conditions: none. -/
import Derived.Test.YtifplkldbbcldaaGreatDoorXCdQe
set_option linter.unusedSimpArgs false
set_option linter.unusedVariables false
set_option maxRecDepth 4000
set_option maxHeartbeats 8000000
open List renaming map_cons→AF,map_nil→AI,length_cons→AD,length_append→AA,length_nil→AG,append_assoc→AS,cons_append→AY,nil_append→A6,append_nil→A1
open Int renaming reduceBEq→A3
open Bool renaming and_eq_true→AL,false_eq_true→AU
namespace Go.Ab
open Go.Proofs
theorem Pn (b:Bool) (σ:AN):AQ Tryz.prog 176 [.d (.bool b)] σ (fun v σ'=>v= .d (.str (if b then [116,114,117,101] else [102,97,108,115,101]))∧σ'=σ):=by
 refine Kz (by simp) ?_
 rw [BE]
 cases b
 all_goals (repeat' (first|refine Run.ct rfl ?_|((first|refine Run.reg mixed ?_|refine Run.AJ ?_|refine Run.A9 Ft (AN.le_refl _) ?_|(refine AR rfl (fun h=>?_) (fun h=>?_)<;>try (cases h;done)))<;>try simp -implicitDefEqProofs only [go_sem])|(refine ⟨fun h=>?_,fun h=>?_⟩<;>first|(cases h;done)|try simp only [h])|fail))
 all_goals rfl
theorem TL (b:Bool) (σ:AN):AQ Tryz.prog 145 [.d (.bool b)] σ (fun v σ'=>v= .d (.str (if b then [116,114,117,101] else [102,97,108,115,101]))∧σ'=σ):=by
 refine R8 (by simp) ?_
 rw [BE]
 (repeat' (first|refine Run.ct rfl ?_|((first|refine Run.reg mixed ?_|refine Run.AJ ?_|refine Run.A9 Kq (AN.le_refl _) ?_|refine AH.det (Pn b _) ?_|(refine AR rfl (fun h=>?_) (fun h=>?_)<;>try (cases h;done)))<;>try simp -implicitDefEqProofs only [go_sem])|(refine ⟨fun h=>?_,fun h=>?_⟩<;>first|(cases h;done)|try simp only [h])|fail))
theorem dW (e:Ex) (σ:AN):AQ Tryz.prog 87 [exA e] σ (fun v σ'=>v= .d (.int .i64 ((lvl e:Nat):Int))∧σ'=σ):=by
 refine Xp (by simp) ?_
 rw [BE]
 obtain ⟨o,n,u,ns,ks,al⟩:=e
 simp only [exA,Ex.A0,AF,AI,lvl]
 by_cases h0:o=7∨o=8∨o=9∨o=10∨o=11∨o=17
 · rw [if_pos h0]
   rcases h0 with rfl|rfl|rfl|rfl|rfl|rfl
   all_goals (repeat' (first|refine Run.ct rfl ?_|((first|refine Run.reg mixed ?_|refine Run.AJ ?_|refine Run.A9 HB (AN.le_refl _) ?_|(refine AR rfl (fun h=>?_) (fun h=>?_)<;>try (cases h;done)))<;>try simp -implicitDefEqProofs only [A3,go_sem])|(refine ⟨fun h=>?_,fun h=>?_⟩<;>first|(cases h;done)|try simp only [h])|fail))
   all_goals rfl
 · rw [if_neg h0]
   simp only [not_or] at h0
   obtain ⟨h1,h2,h3,h4,h5,h6⟩:=h0
   by_cases h13:o=13
   · subst h13
     rw [if_pos rfl]
     (repeat' (first|refine Run.ct rfl ?_|((first|refine Run.reg mixed ?_|refine Run.AJ ?_|refine Run.A9 HB (AN.le_refl _) ?_|refine AH.det (KJ u _) ?_|(refine AR rfl (fun h=>?_) (fun h=>?_)<;>try (cases h;done)))<;>try simp -implicitDefEqProofs only [A3,go_sem])|(refine ⟨fun h=>?_,fun h=>?_⟩<;>first|(cases h;done)|try simp only [h])|fail))
   · rw [if_neg h13]
     by_cases h12:o=12
     · subst h12
       rw [if_pos rfl]
       (repeat' (first|refine Run.ct rfl ?_|((first|refine Run.reg mixed ?_|refine Run.AJ ?_|refine Run.A9 HB (AN.le_refl _) ?_|(refine AR rfl (fun h=>?_) (fun h=>?_)<;>try (cases h;done)))<;>try simp -implicitDefEqProofs only [A3,go_sem])|(refine ⟨fun h=>?_,fun h=>?_⟩<;>first|(cases h;done)|try simp only [h])|fail))
       all_goals rfl
     · rw [if_neg h12]
       (repeat' (first|refine Run.ct rfl ?_|((first|refine Run.reg mixed ?_|refine Run.AJ ?_|refine Run.A9 HB (AN.le_refl _) ?_|(refine AR rfl (fun h=>?_) (fun h=>?_)<;>try (cases h;done)))<;>try simp -implicitDefEqProofs only [Cb h1,Cb h2,Cb h3,Cb h4,Cb h5,Cb h6,Cb h12,Cb h13,go_sem])|(refine ⟨fun h=>?_,fun h=>?_⟩<;>first|(cases h;done)|try simp only [h])|fail))
       all_goals rfl
def plL (u:Int):Nat:=if Ee u=1 then 2 else Ee u
def plR (u:Int):Nat:=if Ee u=1 then 2 else Ee u+1
theorem Vb (u:Int) (σ:AN):AQ Tryz.prog 90 [.d (.int .i64 u)] σ (fun v σ'=>v= .tup [.d (.int .i64 ((plL u:Nat):Int)),.d (.int .i64 ((plR u:Nat):Int))]∧σ'=σ):=by
 refine Pe (by simp) ?_
 rw [BE]
 have hc:=KJ u σ
 have h3:Ee u=1∨Ee u=2∨Ee u=3:=by unfold Ee;split;exact .inr (.inl rfl);split;exact .inr (.inr rfl);exact .inl rfl
 unfold plL plR
 generalize Ee u=z at hc h3 ⊢
 rcases h3 with rfl|rfl|rfl
 all_goals (repeat' (first|refine Run.ct rfl ?_|((first|refine Run.reg mixed ?_|refine Run.AJ ?_|refine Run.A9 JI (AN.le_refl _) ?_|refine AH.det (hc) ?_|(refine AR rfl (fun h=>?_) (fun h=>?_)<;>try (cases h;done)))<;>try simp -implicitDefEqProofs only [A3,go_sem])|(refine ⟨fun h=>?_,fun h=>?_⟩<;>first|(cases h;done)|try simp only [h])|fail))
 all_goals rfl
def EC (i:Nat) (e:Ex) (lev:Nat):Prop:=WC 45 [.gp i 0,exA e,.d (.int .i64 (lev:Int))] i (pl lev e (BA e))
theorem bR {i:Nat} {e:Ex} (h:EC i e 0):WC 139 [.gp i 0,exA e] i (BA e):=by
 intro σ0 σ s hH hbu hlen
 have hc:=h σ0 σ s hH hbu (by rw [pl,if_neg (by omega)];exact hlen)
 rw [pl,if_neg (by omega)] at hc
 refine Qi (by simp) ?_
 rw [BI]
 obtain ⟨o,n,u,ns,ks,al⟩:=e
 simp only [exA,Ex.A0,AF,AI] at hc ⊢
 (repeat' (first|refine Run.ct rfl ?_|((first|refine Run.reg mixed ?_|refine Run.AJ ?_|(refine AH.mk rfl hc ?_;rintro _ σ1 ⟨rfl,hb1⟩)|(refine AR rfl (fun h=>?_) (fun h=>?_)<;>try (cases h;done)))<;>try simp -implicitDefEqProofs only [go_sem])|(refine ⟨fun h=>?_,fun h=>?_⟩<;>first|(cases h;done)|try simp only [h])|fail))
 exact Run.fin Jr rfl (fun _ _ h=>h) (AN.le_refl _) ⟨rfl,hb1⟩
theorem Oh {i:Nat} {e:Ex} (h:WC 139 [.gp i 0,exA e] i (BA e)):WC 88 [.gp i 0,exA e] i (JT (BA e)):=by
 intro σ0 σ s hH hbu hlen
 refine KF (by simp) ?_
 rw [BI]
 have e1:s++JT (BA e)=s++[40]++BA e++[41]:=by simp [JT]
 simp only [JT,AD,AA,AG] at hlen
 rw [e1]
 have hop:=fun σ1 hb1=>h σ0 σ1 (s++[40]) hH hb1 (by simp only [AD,AA,AG];omega)
 generalize BA e=x at hop hlen ⊢
 obtain ⟨o,n,u,ns,ks,al⟩:=e
 simp only [exA,Ex.A0,AF,AI] at hop ⊢
 (repeat' (first|refine Run.ct rfl ?_|((first|refine Run.reg mixed ?_|refine Run.AJ ?_|(refine AH.mk rfl (A4 [40] hbu (by simp only [AD,AG];omega)) ?_;rintro _ σ1 ⟨rfl,hb1⟩)|(refine AR rfl (fun h=>?_) (fun h=>?_)<;>try (cases h;done)))<;>try simp -implicitDefEqProofs only [go_sem])|(refine ⟨fun h=>?_,fun h=>?_⟩<;>first|(cases h;done)|try simp only [h])|fail))
 (repeat' (first|refine Run.ct rfl ?_|((first|refine Run.reg mixed ?_|refine Run.AJ ?_|(refine AH.mk rfl (hop σ1 hb1) ?_;rintro _ σ2 ⟨rfl,hb2⟩)|(refine AR rfl (fun h=>?_) (fun h=>?_)<;>try (cases h;done)))<;>try simp -implicitDefEqProofs only [go_sem])|(refine ⟨fun h=>?_,fun h=>?_⟩<;>first|(cases h;done)|try simp only [h])|fail))
 (repeat' (first|refine Run.ct rfl ?_|((first|refine Run.reg mixed ?_|refine Run.AJ ?_|(refine AH.mk rfl (A4 [41] hb2 (by simp only [AD,AA,AG];omega)) ?_;rintro _ σ3 ⟨rfl,hb3⟩)|(refine AR rfl (fun h=>?_) (fun h=>?_)<;>try (cases h;done)))<;>try simp -implicitDefEqProofs only [go_sem])|(refine ⟨fun h=>?_,fun h=>?_⟩<;>first|(cases h;done)|try simp only [h])|fail))
 exact Run.fin F9 rfl (fun _ _ h=>h) (AN.le_refl _) ⟨rfl,hb3⟩
theorem kR {i:Nat} {ks:List Ex} (h:∀e∈ks,WC 139 [.gp i 0,exA e] i (BA e)):WC 92 [.gp i 0,.d (.sl (ks.map Ex.enc))] i (Ij (ks.map BA)):=by
 intro σ0 σ s hH hbu hlen
 refine Qg (by simp) ?_
 rw [BI]
 have hsep:=Jx (H:=fun _=>True) i (first:=[.gp i 0]) (caps:=[]) (by kernel_rfl:Ar Tryz.prog 139=true) ⟨rfl,rfl⟩ [44,32] BA ks h
 have e1:s++Ij (ks.map BA)=s++[40]++Lib.join (ks.map BA) [44,32]++[41]:=by simp [Ij,JT,cms]
 simp only [Ij,JT,cms,AD,AA,AG] at hlen
 rw [e1]
 (repeat' (first|refine Run.ct rfl ?_|((first|refine Run.reg mixed ?_|refine Run.AJ ?_|(refine AH.mk rfl (A4 [40] hbu (by simp only [AD,AG];omega)) ?_;rintro _ σ1 ⟨rfl,hb1⟩)|(refine AR rfl (fun h=>?_) (fun h=>?_)<;>try (cases h;done)))<;>try simp -implicitDefEqProofs only [go_sem])|(refine ⟨fun h=>?_,fun h=>?_⟩<;>first|(cases h;done)|try simp only [h])|fail))
 (repeat' (first|refine Run.ct rfl ?_|((first|refine Run.reg mixed ?_|refine Run.AJ ?_|(refine AH.mk rfl (hsep σ0 σ1 _ hH hb1 (by simp only [AD,AA,AG];omega)) ?_;rintro _ σ2 ⟨rfl,hb2⟩)|(refine AR rfl (fun h=>?_) (fun h=>?_)<;>try (cases h;done)))<;>try simp -implicitDefEqProofs only [go_sem])|(refine ⟨fun h=>?_,fun h=>?_⟩<;>first|(cases h;done)|try simp only [h])|fail))
 (repeat' (first|refine Run.ct rfl ?_|((first|refine Run.reg mixed ?_|refine Run.AJ ?_|(refine AH.mk rfl (A4 [41] hb2 (by simp only [AD,AA,AG];omega)) ?_;rintro _ σ3 ⟨rfl,hb3⟩)|(refine AR rfl (fun h=>?_) (fun h=>?_)<;>try (cases h;done)))<;>try simp -implicitDefEqProofs only [go_sem])|(refine ⟨fun h=>?_,fun h=>?_⟩<;>first|(cases h;done)|try simp only [h])|fail))
 exact Run.fin Jq rfl (fun _ _ h=>h) (AN.le_refl _) ⟨rfl,hb3⟩
theorem yE (a b c d e f:AV):Aq [a,b,c,d,e,f]=put 0 a (put 1 b (put 2 c (put 3 d (put 4 e (put 5 f U))))):=by
 funext s;simp only [Aq,put,U]
 match s with|0=>rfl|1=>rfl|2=>rfl|3=>rfl|4=>rfl|5=>rfl|n+6=>simp
theorem YB {i:Nat} (x y z:Str) {a b:Ex} (ha:WC 139 [.gp i 0,exA a] i (BA a)) (hb:WC 139 [.gp i 0,exA b] i (BA b)):
 WC 141 [.gp i 0,.d (.str x),exA a,.d (.str y),exA b,.d (.str z)] i (x++(BA a++(y++(BA b++z)))):=by
 intro σ0 σ s hH hbu hlen
 refine Pl (by simp) ?_
 rw [yE]
 simp only [AA] at hlen
 have e1:s++(x++(BA a++(y++(BA b++z))))=s++x++BA a++y++BA b++z:=by simp only [AS]
 rw [e1]
 have ha:=fun σ1 hb1=>ha σ0 σ1 (s++x) hH hb1 (by simp only [AA];omega)
 have hb:=fun σ1 hb1=>hb σ0 σ1 (s++x++BA a++y) hH hb1 (by simp only [AA];omega)
 generalize BA a=ta at ha hb hlen ⊢
 generalize BA b=tb at hb hlen ⊢
 obtain ⟨o,n,u,ns,ks,al⟩:=a
 obtain ⟨o',n',u',ns',ks',al'⟩:=b
 simp only [exA,Ex.A0,AF,AI] at ha hb ⊢
 (repeat' (first|refine Run.ct rfl ?_|((first|refine Run.reg mixed ?_|refine Run.AJ ?_|(refine AH.mk rfl (A4 x hbu (by omega)) ?_;rintro _ σ1 ⟨rfl,hb1⟩)|(refine AR rfl (fun h=>?_) (fun h=>?_)<;>try (cases h;done)))<;>try simp -implicitDefEqProofs only [go_sem])|(refine ⟨fun h=>?_,fun h=>?_⟩<;>first|(cases h;done)|try simp only [h])|fail))
 (repeat' (first|refine Run.ct rfl ?_|((first|refine Run.reg mixed ?_|refine Run.AJ ?_|(refine AH.mk rfl (ha σ1 hb1) ?_;rintro _ σ2 ⟨rfl,hb2⟩)|(refine AR rfl (fun h=>?_) (fun h=>?_)<;>try (cases h;done)))<;>try simp -implicitDefEqProofs only [go_sem])|(refine ⟨fun h=>?_,fun h=>?_⟩<;>first|(cases h;done)|try simp only [h])|fail))
 (repeat' (first|refine Run.ct rfl ?_|((first|refine Run.reg mixed ?_|refine Run.AJ ?_|(refine AH.mk rfl (A4 y hb2 (by simp only [AA];omega)) ?_;rintro _ σ3 ⟨rfl,hb3⟩)|(refine AR rfl (fun h=>?_) (fun h=>?_)<;>try (cases h;done)))<;>try simp -implicitDefEqProofs only [go_sem])|(refine ⟨fun h=>?_,fun h=>?_⟩<;>first|(cases h;done)|try simp only [h])|fail))
 (repeat' (first|refine Run.ct rfl ?_|((first|refine Run.reg mixed ?_|refine Run.AJ ?_|(refine AH.mk rfl (hb σ3 hb3) ?_;rintro _ σ4 ⟨rfl,hb4⟩)|(refine AR rfl (fun h=>?_) (fun h=>?_)<;>try (cases h;done)))<;>try simp -implicitDefEqProofs only [go_sem])|(refine ⟨fun h=>?_,fun h=>?_⟩<;>first|(cases h;done)|try simp only [h])|fail))
 (repeat' (first|refine Run.ct rfl ?_|((first|refine Run.reg mixed ?_|refine Run.AJ ?_|(refine AH.mk rfl (A4 z hb4 (by simp only [AA];omega)) ?_;rintro _ σ5 ⟨rfl,hb5⟩)|(refine AR rfl (fun h=>?_) (fun h=>?_)<;>try (cases h;done)))<;>try simp -implicitDefEqProofs only [go_sem])|(refine ⟨fun h=>?_,fun h=>?_⟩<;>first|(cases h;done)|try simp only [h])|fail))
 exact Run.fin JK rfl (fun _ _ h=>h) (AN.le_refl _) ⟨rfl,hb5⟩
end Go.Ab
namespace Go.Ab
open Go.Proofs
def rZ (o:Int):Prop:=o=1∨o=2∨o=3∨o=4∨o=5∨o=6∨o=14∨o=15∨o=16
set_option maxHeartbeats 4000000 in
theorem r7 {i:Nat} {o:Int} {n:Str} {u:Int} {ns:List Str} {ks:List Ex} {al:List Al} (hn:GS o n u ns ks.length al=true) (ho:rZ o)
 (hk:∀x∈ks,WC 139 [.gp i 0,exA x] i (BA x)):WC 93 [.gp i 0,exA (.mk o n u ns ks al)] i (BA (.mk o n u ns ks al)):=by
 intro σ0 σ0' s hH hb0 hlen
 have hli:=kR hk
 have hop:=Ry (H:=fun _=>True) i (first:=[.gp i 0]) (caps:=[]) (by kernel_rfl:Ar Tryz.prog 139=true) ⟨rfl,rfl⟩ BA ks hk
 have hpow:σ0'.gt Qq=some Sz:=by rw [← hb0.le.gt];exact hH.2
 simp only [GS,AL] at hn
 obtain ⟨⟨⟨⟨hnm,hnu⟩,hns⟩,has⟩,hnk⟩:=hn
 refine Qj (by simp) ?_
 rw [BI]
 simp only [exA,Ex.A0,AF,AI]
 rw [BA,MW] at hlen ⊢
 rcases ho with rfl|rfl|rfl|rfl|rfl|rfl|rfl|rfl|rfl
 · have e:P0 1 n u ns ks (ks.map BA) (Jl al)=[40,41]:=rfl
   rw [e] at hlen ⊢
   (repeat' (first|refine Run.ct rfl ?_|((first|refine Run.reg mixed ?_|refine Run.AJ ?_|(refine AH.mk rfl (A4 [40,41] hb0 (by (try simp only [AD,AA,AG] at hlen ⊢);omega)) ?_;rintro _ σ1 ⟨rfl,hb1⟩)|(refine AR rfl (fun h=>?_) (fun h=>?_)<;>try (cases h;done)))<;>try simp -implicitDefEqProofs only [A3,go_sem])|(refine ⟨fun h=>?_,fun h=>?_⟩<;>first|(cases h;done)|try simp only [h])|fail))
   try simp only [AS,AY,A6,A1] at hb1 ⊢
   exact Run.fin BN rfl (fun _ _ h=>h) (AN.le_refl _) ⟨rfl,hb1⟩
 · by_cases hu:u=1
   · subst hu
     have e:P0 2 n 1 ns ks (ks.map BA) (Jl al)=[116,114,117,101]:=rfl
     rw [e] at hlen ⊢
     have hfb:=TL true σ0'
     simp only [if_true] at hfb
     (repeat' (first|refine Run.ct rfl ?_|((first|refine Run.reg mixed ?_|refine Run.AJ ?_|(refine AH.mk rfl (A4 [116,114,117,101] hb0 hlen) ?_;rintro _ σ1 ⟨rfl,hb1⟩)|refine AH.det (hfb) ?_|(refine AR rfl (fun h=>?_) (fun h=>?_)<;>try (cases h;done)))<;>try simp -implicitDefEqProofs only [A3,go_sem])|(refine ⟨fun h=>?_,fun h=>?_⟩<;>first|(cases h;done)|try simp only [h])|fail))
     try simp only [AS,AY,A6,A1] at hb1 ⊢
     exact Run.fin BN rfl (fun _ _ h=>h) (AN.le_refl _) ⟨rfl,hb1⟩
   · have e:P0 2 n u ns ks (ks.map BA) (Jl al)=[102,97,108,115,101]:=by show (if u=1 then _ else _)=_;rw [if_neg hu]
     rw [e] at hlen ⊢
     have hfb:=TL false σ0'
     simp only [AU,if_false] at hfb
     (repeat' (first|refine Run.ct rfl ?_|((first|refine Run.reg mixed ?_|refine Run.AJ ?_|(refine AH.mk rfl (A4 [102,97,108,115,101] hb0 hlen) ?_;rintro _ σ1 ⟨rfl,hb1⟩)|refine AH.det (hfb) ?_|(refine AR rfl (fun h=>?_) (fun h=>?_)<;>try (cases h;done)))<;>try simp -implicitDefEqProofs only [A3,Cb hu,go_sem])|(refine ⟨fun h=>?_,fun h=>?_⟩<;>first|(cases h;done)|try simp only [h])|fail))
     try simp only [AS,AY,A6,A1] at hb1 ⊢
     exact Run.fin BN rfl (fun _ _ h=>h) (AN.le_refl _) ⟨rfl,hb1⟩
 · have e:P0 3 n u ns ks (ks.map BA) (Jl al)=Lib.itoa u:=rfl
   rw [e] at hlen ⊢
   have hfi:=LM u σ0' hpow
   (repeat' (first|refine Run.ct rfl ?_|((first|refine Run.reg mixed ?_|refine Run.AJ ?_|(refine AH.mk rfl (A4 (Lib.itoa u) hb0 hlen) ?_;rintro _ σ1 ⟨rfl,hb1⟩)|refine AH.det (hfi) ?_|(refine AR rfl (fun h=>?_) (fun h=>?_)<;>try (cases h;done)))<;>try simp -implicitDefEqProofs only [A3,go_sem])|(refine ⟨fun h=>?_,fun h=>?_⟩<;>first|(cases h;done)|try simp only [h])|fail))
   try simp only [AS,AY,A6,A1] at hb1 ⊢
   exact Run.fin BN rfl (fun _ _ h=>h) (AN.le_refl _) ⟨rfl,hb1⟩
 · have e:P0 4 n u ns ks (ks.map BA) (Jl al)=n++Ik (ks.map BA):=rfl
   rw [e] at hlen ⊢
   (repeat' (first|refine Run.ct rfl ?_|((first|refine Run.reg mixed ?_|refine Run.AJ ?_|(refine AH.mk rfl (A4 n hb0 (by (try simp only [AD,AA,AG] at hlen ⊢);omega)) ?_;rintro _ σ1 ⟨rfl,hb1⟩)|(refine AR rfl (fun h=>?_) (fun h=>?_)<;>try (cases h;done)))<;>try simp -implicitDefEqProofs only [A3,go_sem])|(refine ⟨fun h=>?_,fun h=>?_⟩<;>first|(cases h;done)|try simp only [h])|fail))
   (repeat' (first|refine Run.ct rfl ?_|((first|refine Run.reg mixed ?_|refine Run.AJ ?_|(refine AH.mk rfl (hop σ0 σ1 _ hH hb1 (by (try simp only [AD,AA,AG] at hlen ⊢);omega)) ?_;rintro _ σ2 ⟨rfl,hb2⟩)|(refine AR rfl (fun h=>?_) (fun h=>?_)<;>try (cases h;done)))<;>try simp -implicitDefEqProofs only [A3,go_sem])|(refine ⟨fun h=>?_,fun h=>?_⟩<;>first|(cases h;done)|try simp only [h])|fail))
   try simp only [AS,AY,A6,A1] at hb2 ⊢
   exact Run.fin BN rfl (fun _ _ h=>h) (AN.le_refl _) ⟨rfl,hb2⟩
 · have e:P0 5 n u ns ks (ks.map BA) (Jl al)=Ij (ks.map BA):=rfl
   rw [e] at hlen ⊢
   (repeat' (first|refine Run.ct rfl ?_|((first|refine Run.reg mixed ?_|refine Run.AJ ?_|(refine AH.mk rfl (hli σ0 σ0' _ hH hb0 (by (try simp only [AD,AA,AG] at hlen ⊢);omega)) ?_;rintro _ σ1 ⟨rfl,hb1⟩)|(refine AR rfl (fun h=>?_) (fun h=>?_)<;>try (cases h;done)))<;>try simp -implicitDefEqProofs only [A3,go_sem])|(refine ⟨fun h=>?_,fun h=>?_⟩<;>first|(cases h;done)|try simp only [h])|fail))
   try simp only [AS,AY,A6,A1] at hb1 ⊢
   exact Run.fin BN rfl (fun _ _ h=>h) (AN.le_refl _) ⟨rfl,hb1⟩
 · have e:P0 6 n u ns ks (ks.map BA) (Jl al)=n++Ik (ks.map BA):=rfl
   rw [e] at hlen ⊢
   (repeat' (first|refine Run.ct rfl ?_|((first|refine Run.reg mixed ?_|refine Run.AJ ?_|(refine AH.mk rfl (A4 n hb0 (by (try simp only [AD,AA,AG] at hlen ⊢);omega)) ?_;rintro _ σ1 ⟨rfl,hb1⟩)|(refine AR rfl (fun h=>?_) (fun h=>?_)<;>try (cases h;done)))<;>try simp -implicitDefEqProofs only [A3,go_sem])|(refine ⟨fun h=>?_,fun h=>?_⟩<;>first|(cases h;done)|try simp only [h])|fail))
   (repeat' (first|refine Run.ct rfl ?_|((first|refine Run.reg mixed ?_|refine Run.AJ ?_|(refine AH.mk rfl (hop σ0 σ1 _ hH hb1 (by (try simp only [AD,AA,AG] at hlen ⊢);omega)) ?_;rintro _ σ2 ⟨rfl,hb2⟩)|(refine AR rfl (fun h=>?_) (fun h=>?_)<;>try (cases h;done)))<;>try simp -implicitDefEqProofs only [A3,go_sem])|(refine ⟨fun h=>?_,fun h=>?_⟩<;>first|(cases h;done)|try simp only [h])|fail))
   try simp only [AS,AY,A6,A1] at hb2 ⊢
   exact Run.fin BN rfl (fun _ _ h=>h) (AN.le_refl _) ⟨rfl,hb2⟩
 · simp [nuB] at hnu
   obtain ⟨k,rfl⟩:∃k:Nat,u=k:=⟨u.toNat,by omega⟩
   have hpr:=WO k (by omega) (by omega) σ0'
   have e:P0 14 n (k:Int) ns ks (ks.map BA) (Jl al)=prT (k:Int)++Ij (ks.map BA):=rfl
   rw [e] at hlen ⊢
   (repeat' (first|refine Run.ct rfl ?_|((first|refine Run.reg mixed ?_|refine Run.AJ ?_|(refine AH.mk rfl (A4 (prT (k:Int)) hb0 (by (try simp only [AD,AA,AG] at hlen ⊢);omega)) ?_;rintro _ σ1 ⟨rfl,hb1⟩)|refine AH.det (hpr) ?_|(refine AR rfl (fun h=>?_) (fun h=>?_)<;>try (cases h;done)))<;>try simp -implicitDefEqProofs only [A3,go_sem])|(refine ⟨fun h=>?_,fun h=>?_⟩<;>first|(cases h;done)|try simp only [h])|fail))
   (repeat' (first|refine Run.ct rfl ?_|((first|refine Run.reg mixed ?_|refine Run.AJ ?_|(refine AH.mk rfl (hli σ0 σ1 _ hH hb1 (by (try simp only [AD,AA,AG] at hlen ⊢);omega)) ?_;rintro _ σ2 ⟨rfl,hb2⟩)|(refine AR rfl (fun h=>?_) (fun h=>?_)<;>try (cases h;done)))<;>try simp -implicitDefEqProofs only [A3,go_sem])|(refine ⟨fun h=>?_,fun h=>?_⟩<;>first|(cases h;done)|try simp only [h])|fail))
   try simp only [AS,AY,A6,A1] at hb2 ⊢
   exact Run.fin BN rfl (fun _ _ h=>h) (AN.le_refl _) ⟨rfl,hb2⟩
 · have e:P0 15 n u ns ks (ks.map BA) (Jl al)=[116,105,99,107,40]++(Lib.itoa u++[41]):=rfl
   rw [e] at hlen ⊢
   have hfi:=LM u σ0' hpow
   have ha1:=Fe (a:=[116,105,99,107,40]) (b:=Lib.itoa u) (by simp only [AD,AA,AG] at hlen ⊢;omega)
   have ha2:=Fe (a:=[116,105,99,107,40]++Lib.itoa u) (b:=[41]) (by simp only [AD,AA,AG] at hlen ⊢;omega)
   simp only [AY,A6] at ha1 ha2
   (repeat' (first|refine Run.ct rfl ?_|((first|refine Run.reg mixed ?_|refine Run.AJ ?_|(refine AH.mk rfl (A4 _ hb0 (by (try simp only [AD,AA,AG] at hlen ⊢);omega)) ?_;rintro _ σ1 ⟨rfl,hb1⟩)|refine AH.det (hfi) ?_|(refine AR rfl (fun h=>?_) (fun h=>?_)<;>try (cases h;done)))<;>try simp -implicitDefEqProofs only [A3,ha1,ha2,go_sem])|(refine ⟨fun h=>?_,fun h=>?_⟩<;>first|(cases h;done)|try simp only [h])|fail))
   try simp only [AS,AY,A6,A1] at hb1 ⊢
   exact Run.fin BN rfl (fun _ _ h=>h) (AN.le_refl _) ⟨rfl,hb1⟩
 · have e:P0 16 n u ns ks (ks.map BA) (Jl al)=[114,97,105,115,101]++Ij (ks.map BA):=rfl
   rw [e] at hlen ⊢
   (repeat' (first|refine Run.ct rfl ?_|((first|refine Run.reg mixed ?_|refine Run.AJ ?_|(refine AH.mk rfl (A4 [114,97,105,115,101] hb0 (by (try simp only [AD,AA,AG] at hlen ⊢);omega)) ?_;rintro _ σ1 ⟨rfl,hb1⟩)|(refine AR rfl (fun h=>?_) (fun h=>?_)<;>try (cases h;done)))<;>try simp -implicitDefEqProofs only [A3,go_sem])|(refine ⟨fun h=>?_,fun h=>?_⟩<;>first|(cases h;done)|try simp only [h])|fail))
   (repeat' (first|refine Run.ct rfl ?_|((first|refine Run.reg mixed ?_|refine Run.AJ ?_|(refine AH.mk rfl (hli σ0 σ1 _ hH hb1 (by (try simp only [AD,AA,AG] at hlen ⊢);omega)) ?_;rintro _ σ2 ⟨rfl,hb2⟩)|(refine AR rfl (fun h=>?_) (fun h=>?_)<;>try (cases h;done)))<;>try simp -implicitDefEqProofs only [A3,go_sem])|(refine ⟨fun h=>?_,fun h=>?_⟩<;>first|(cases h;done)|try simp only [h])|fail))
   try simp only [AS,AY,A6,A1] at hb2 ⊢
   exact Run.fin BN rfl (fun _ _ h=>h) (AN.le_refl _) ⟨rfl,hb2⟩
end Go.Ab
namespace Go.Ab
open Go.Proofs
theorem yJ:Ar Tryz.prog 140=true:=by kernel_rfl
theorem uY:Ar Tryz.prog 143=true:=by kernel_rfl
theorem lG (i:Nat) (ns:List Str):WC 79 [.gp i 0,.d (.sl (ns.map D3)),.fn 140 [.gp i 0] []] i (Ik (ns.map shown)):=
 Mu (H:=fun _=>True) i (first:=[.gp i 0]) (caps:=[]) yJ ⟨rfl,rfl⟩ shown ns (fun x _=>cW i x)
theorem x9 {i:Nat} (j:Nat) {c:Str} {vs:List Str} {b:Ex} (hb:WC 139 [.gp i 0,exA b] i (BA b)):
 WX (fun σ=>σ.blk j=some [.gp i 0]) 143 ([]++[alA (.mk c vs b)]++[.gp j 0]) i (Mh (.mk c vs b)):=by
 intro σ0 σ s hH0 hb0 hlen
 have hjs:=hH0.1
 have hH:(fun _=>True) σ0∧σ0.gt Qq=some Sz:=⟨trivial,hH0.2⟩
 have hvs:=lG i vs
 refine O8 (by simp) ?_
 show Run _ _ _ (Aq [_,_]) _ _
 rw [BI]
 rw [Mh,alT] at hlen ⊢
 generalize BA b=tb at hb hlen ⊢
 obtain ⟨o',n',u',ns',ks',al'⟩:=b
 simp only [exA,alA,Al.A0,Ex.A0,AF,AI] at hb ⊢
 (repeat' (first|refine Run.ct rfl ?_|((first|refine Run.reg mixed ?_|refine Run.AJ ?_|(refine AH.mk rfl (A4 c hb0 (by (try simp only [AD,AA,AG] at hlen ⊢);omega)) ?_;rintro _ σ1 ⟨rfl,hb1⟩)|(refine AR rfl (fun h=>?_) (fun h=>?_)<;>try (cases h;done)))<;>try simp -implicitDefEqProofs only [Al.A0,(hb0.le.blk j _ hjs),go_sem])|(refine ⟨fun h=>?_,fun h=>?_⟩<;>first|(cases h;done)|try simp only [h])|fail))
 try simp -implicitDefEqProofs only [(hb1.le.blk j _ hjs),go_sem]
 (repeat' (first|refine Run.ct rfl ?_|((first|refine Run.reg mixed ?_|refine Run.AJ ?_|(refine AH.mk rfl (hvs σ0 σ1 _ hH hb1 (by (try simp only [AD,AA,AG] at hlen ⊢);omega)) ?_;rintro _ σ2 ⟨rfl,hb2⟩)|(refine AR rfl (fun h=>?_) (fun h=>?_)<;>try (cases h;done)))<;>try simp -implicitDefEqProofs only [Al.A0,(hb1.le.blk j _ hjs),go_sem])|(refine ⟨fun h=>?_,fun h=>?_⟩<;>first|(cases h;done)|try simp only [h])|fail))
 try simp -implicitDefEqProofs only [(hb2.le.blk j _ hjs),go_sem]
 (repeat' (first|refine Run.ct rfl ?_|((first|refine Run.reg mixed ?_|refine Run.AJ ?_|(refine AH.mk rfl (A4 [32,45,62,32] hb2 (by (try simp only [AD,AA,AG] at hlen ⊢);omega)) ?_;rintro _ σ3 ⟨rfl,hb3⟩)|(refine AR rfl (fun h=>?_) (fun h=>?_)<;>try (cases h;done)))<;>try simp -implicitDefEqProofs only [Al.A0,(hb2.le.blk j _ hjs),go_sem])|(refine ⟨fun h=>?_,fun h=>?_⟩<;>first|(cases h;done)|try simp only [h])|fail))
 try simp -implicitDefEqProofs only [(hb3.le.blk j _ hjs),go_sem]
 (repeat' (first|refine Run.ct rfl ?_|((first|refine Run.reg mixed ?_|refine Run.AJ ?_|(refine AH.mk rfl (hb σ0 σ3 _ hH hb3 (by (try simp only [AD,AA,AG] at hlen ⊢);omega)) ?_;rintro _ σ4 ⟨rfl,hb4⟩)|(refine AR rfl (fun h=>?_) (fun h=>?_)<;>try (cases h;done)))<;>try simp -implicitDefEqProofs only [Al.A0,(hb3.le.blk j _ hjs),go_sem])|(refine ⟨fun h=>?_,fun h=>?_⟩<;>first|(cases h;done)|try simp only [h])|fail))
 try simp only [AS,AY,A6,A1] at hb4 ⊢
 exact Run.fin I5 rfl (fun _ _ h=>h) (AN.le_refl _) ⟨rfl,hb4⟩
def kS (o:Int):Prop:=o=7∨o=8∨o=9∨o=10∨o=11∨o=17
set_option maxHeartbeats 8000000 in
theorem uZ {i:Nat} {o:Int} {n:Str} {u:Int} {ns:List Str} {ks:List Ex} {al:List Al} (hn:GS o n u ns ks.length al=true) (ho:kS o)
 (hk:∀x∈ks,WC 139 [.gp i 0,exA x] i (BA x))
 (ha:∀x∈al,∀j,WX (fun σ=>σ.blk j=some [.gp i 0]) 143 ([]++[alA x]++[.gp j 0]) i (Mh x)):WC 89 [.gp i 0,exA (.mk o n u ns ks al)] i (BA (.mk o n u ns ks al)):=by
 intro σ0 σ s hH hbu hlen
 have hvs:=lG i ns
 have hbn:=cW i n
 simp only [GS,AL] at hn
 obtain ⟨⟨⟨⟨hnm,hnu⟩,hns⟩,has⟩,hnk⟩:=hn
 refine Qh (by simp) ?_
 rw [BI]
 simp only [exA,Ex.A0,AF,AI]
 rw [BA,MW,VV] at hlen ⊢
 (repeat' (first|refine Run.ct rfl ?_|((first|refine Run.reg mixed ?_|refine Run.AJ ?_|(refine AR rfl (fun h=>?_) (fun h=>?_)<;>try (cases h;done)))<;>try simp -implicitDefEqProofs only [go_sem])|(refine ⟨fun h=>?_,fun h=>?_⟩<;>first|(cases h;done)|try simp only [h])|fail))
 intro j hj
 have hun:∀s' σ',BuS (σ0.AM j [.gp i 0]) i s' σ'→BuS σ0 i s' σ':=fun s' σ' h=>hbu.lE hj h
 have hjs:(σ0.AM j [.gp i 0]).blk j=some [.gp i 0]:=by simp [AO]
 have hH:(fun _=>True) (σ0.AM j [.gp i 0])∧(σ0.AM j [.gp i 0]).gt Qq=some Sz:=⟨trivial,hH.2⟩
 have hb0:=hbu.share (cs:=[.gp i 0]) hj
 generalize σ.AM j [.gp i 0]=τ at hb0 ⊢
 generalize σ0.AM j [.gp i 0]=τ0 at hun hjs hH hb0
 have hHj:(fun σ=>σ.blk j=some [.gp i 0]) τ0∧τ0.gt Qq=some Sz:=⟨hjs,hH.2⟩
 rcases ho with rfl|rfl|rfl|rfl|rfl|rfl
 · obtain ⟨a,b,rfl⟩:=Sx (by simpa [nkB] using hnk)
   have hka:=hk a (by simp)
   have hkb:=hk b (by simp)
   have hp:=YB [32,61,32] [32,105,110,32] [] hka hkb
   have e:P0 7 n u ns [a,b] ([a,b].map BA) (al.map Mh)=[108,101,116,32]++(shown n++([32,61,32]++(BA a++([32,105,110,32]++(BA b++[]))))):=by show _=_;rw [A1];rfl
   rw [e] at hlen ⊢
   clear e
   generalize BA a=ta at *
   obtain ⟨oa,na,ua,nsa,ksa,ala⟩:=a
   generalize BA b=tb at *
   obtain ⟨ob,nb,ub,nsb,ksb,alb⟩:=b
   simp only [exA,Ex.A0,AF,AI] at hka hkb hp ⊢
   (repeat' (first|refine Run.ct rfl ?_|((first|refine Run.reg mixed ?_|refine Run.AJ ?_|(refine AH.mk rfl (A4 [108,101,116,32] hb0 (by (try simp only [AD,AA,AG] at hlen ⊢);omega)) ?_;rintro _ σ1 ⟨rfl,hb1⟩)|(refine AR rfl (fun h=>?_) (fun h=>?_)<;>try (cases h;done)))<;>try simp -implicitDefEqProofs only [A3,(hb0.le.blk j _ hjs),go_sem])|(refine ⟨fun h=>?_,fun h=>?_⟩<;>first|(cases h;done)|try simp only [h])|fail))
   try simp -implicitDefEqProofs only [(hb1.le.blk j _ hjs),go_sem]
   (repeat' (first|refine Run.ct rfl ?_|((first|refine Run.reg mixed ?_|refine Run.AJ ?_|(refine AH.mk rfl (hbn τ0 σ1 _ hH hb1 (by (try simp only [AD,AA,AG] at hlen ⊢);omega)) ?_;rintro _ σ2 ⟨rfl,hb2⟩)|(refine AR rfl (fun h=>?_) (fun h=>?_)<;>try (cases h;done)))<;>try simp -implicitDefEqProofs only [A3,(hb1.le.blk j _ hjs),go_sem])|(refine ⟨fun h=>?_,fun h=>?_⟩<;>first|(cases h;done)|try simp only [h])|fail))
   try simp -implicitDefEqProofs only [(hb2.le.blk j _ hjs),go_sem]
   (repeat' (first|refine Run.ct rfl ?_|((first|refine Run.reg mixed ?_|refine Run.AJ ?_|(refine AH.mk rfl (hp τ0 σ2 _ hH hb2 (by (try simp only [AD,AA,AG] at hlen ⊢);omega)) ?_;rintro _ σ3 ⟨rfl,hb3⟩)|(refine AR rfl (fun h=>?_) (fun h=>?_)<;>try (cases h;done)))<;>try simp -implicitDefEqProofs only [A3,(hb2.le.blk j _ hjs),go_sem])|(refine ⟨fun h=>?_,fun h=>?_⟩<;>first|(cases h;done)|try simp only [h])|fail))
   try simp only [AS,AY,A6,A1] at hb3 ⊢
   exact Run.fin CG rfl (fun _ _ h=>h) (AN.le_refl _) ⟨rfl,hun _ _ hb3⟩
 · obtain ⟨a,b,rfl⟩:=Sx (by simpa [nkB] using hnk)
   have hka:=hk a (by simp)
   have hkb:=hk b (by simp)
   have hp:=YB [32,61,32] [32,105,110,32] [] hka hkb
   have e:P0 8 n u ns [a,b] ([a,b].map BA) (al.map Mh)=[108,101,116,32]++(Ik (ns.map shown)++([32,61,32]++(BA a++([32,105,110,32]++(BA b++[]))))):=by show _=_;rw [A1];rfl
   rw [e] at hlen ⊢
   clear e
   generalize BA a=ta at *
   obtain ⟨oa,na,ua,nsa,ksa,ala⟩:=a
   generalize BA b=tb at *
   obtain ⟨ob,nb,ub,nsb,ksb,alb⟩:=b
   simp only [exA,Ex.A0,AF,AI] at hka hkb hp ⊢
   (repeat' (first|refine Run.ct rfl ?_|((first|refine Run.reg mixed ?_|refine Run.AJ ?_|(refine AH.mk rfl (A4 [108,101,116,32] hb0 (by (try simp only [AD,AA,AG] at hlen ⊢);omega)) ?_;rintro _ σ1 ⟨rfl,hb1⟩)|(refine AR rfl (fun h=>?_) (fun h=>?_)<;>try (cases h;done)))<;>try simp -implicitDefEqProofs only [A3,(hb0.le.blk j _ hjs),go_sem])|(refine ⟨fun h=>?_,fun h=>?_⟩<;>first|(cases h;done)|try simp only [h])|fail))
   try simp -implicitDefEqProofs only [(hb1.le.blk j _ hjs),go_sem]
   (repeat' (first|refine Run.ct rfl ?_|((first|refine Run.reg mixed ?_|refine Run.AJ ?_|(refine AH.mk rfl (hvs τ0 σ1 _ hH hb1 (by (try simp only [AD,AA,AG] at hlen ⊢);omega)) ?_;rintro _ σ2 ⟨rfl,hb2⟩)|(refine AR rfl (fun h=>?_) (fun h=>?_)<;>try (cases h;done)))<;>try simp -implicitDefEqProofs only [A3,(hb1.le.blk j _ hjs),go_sem])|(refine ⟨fun h=>?_,fun h=>?_⟩<;>first|(cases h;done)|try simp only [h])|fail))
   try simp -implicitDefEqProofs only [(hb2.le.blk j _ hjs),go_sem]
   (repeat' (first|refine Run.ct rfl ?_|((first|refine Run.reg mixed ?_|refine Run.AJ ?_|(refine AH.mk rfl (hp τ0 σ2 _ hH hb2 (by (try simp only [AD,AA,AG] at hlen ⊢);omega)) ?_;rintro _ σ3 ⟨rfl,hb3⟩)|(refine AR rfl (fun h=>?_) (fun h=>?_)<;>try (cases h;done)))<;>try simp -implicitDefEqProofs only [A3,(hb2.le.blk j _ hjs),go_sem])|(refine ⟨fun h=>?_,fun h=>?_⟩<;>first|(cases h;done)|try simp only [h])|fail))
   try simp only [AS,AY,A6,A1] at hb3 ⊢
   exact Run.fin CG rfl (fun _ _ h=>h) (AN.le_refl _) ⟨rfl,hun _ _ hb3⟩
 · obtain ⟨a,b,c,rfl⟩:=iD (by simpa [nkB] using hnk)
   have hka:=hk a (by simp)
   have hkb:=hk b (by simp)
   have hkc:=hk c (by simp)
   have hp:=YB [105,102,32] [32,116,104,101,110,32] [32,101,108,115,101,32] hka hkb
   have e:P0 9 n u ns [a,b,c] ([a,b,c].map BA) (al.map Mh)=([105,102,32]++(BA a++([32,116,104,101,110,32]++(BA b++[32,101,108,115,101,32]))))++BA c:=by show [105,102,32]++(BA a++([32,116,104,101,110,32]++(BA b++([32,101,108,115,101,32]++BA c))))=_;simp only [AS,AY,A6]
   rw [e] at hlen ⊢
   clear e
   generalize BA a=ta at *
   obtain ⟨oa,na,ua,nsa,ksa,ala⟩:=a
   generalize BA b=tb at *
   obtain ⟨ob,nb,ub,nsb,ksb,alb⟩:=b
   generalize BA c=tc at *
   obtain ⟨oc,nc,uc,nsc,ksc,alc⟩:=c
   simp only [exA,Ex.A0,AF,AI] at hka hkb hkc hp ⊢
   (repeat' (first|refine Run.ct rfl ?_|((first|refine Run.reg mixed ?_|refine Run.AJ ?_|(refine AH.mk rfl (hp τ0 τ _ hH hb0 (by (try simp only [AD,AA,AG] at hlen ⊢);omega)) ?_;rintro _ σ1 ⟨rfl,hb1⟩)|(refine AR rfl (fun h=>?_) (fun h=>?_)<;>try (cases h;done)))<;>try simp -implicitDefEqProofs only [A3,(hb0.le.blk j _ hjs),go_sem])|(refine ⟨fun h=>?_,fun h=>?_⟩<;>first|(cases h;done)|try simp only [h])|fail))
   try simp -implicitDefEqProofs only [(hb1.le.blk j _ hjs),go_sem]
   (repeat' (first|refine Run.ct rfl ?_|((first|refine Run.reg mixed ?_|refine Run.AJ ?_|(refine AH.mk rfl (hkc τ0 σ1 _ hH hb1 (by (try simp only [AD,AA,AG] at hlen ⊢);omega)) ?_;rintro _ σ2 ⟨rfl,hb2⟩)|(refine AR rfl (fun h=>?_) (fun h=>?_)<;>try (cases h;done)))<;>try simp -implicitDefEqProofs only [A3,(hb1.le.blk j _ hjs),go_sem])|(refine ⟨fun h=>?_,fun h=>?_⟩<;>first|(cases h;done)|try simp only [h])|fail))
   try simp only [AS,AY,A6,A1] at hb2 ⊢
   exact Run.fin CG rfl (fun _ _ h=>h) (AN.le_refl _) ⟨rfl,hun _ _ hb2⟩
 · obtain ⟨a,rfl⟩:=W9 (by simpa [nkB] using hnk)
   have hka:=hk a (by simp)
   have hsep:=SO (H:=fun σ=>σ.blk j=some [.gp i 0]) i (first:=[]) (caps:=[.gp j 0]) uY ⟨rfl,rfl⟩ [32,124,32] Mh al (fun x hx=>ha x hx j)
   have e:P0 10 n u ns [a] ([a].map BA) (al.map Mh)=[109,97,116,99,104,32]++(BA a++([32,119,105,116,104,32]++(Lib.join (al.map Mh) [32,124,32]++[32,101,110,100]))):=rfl
   rw [e] at hlen ⊢
   clear e
   generalize BA a=ta at *
   obtain ⟨oa,na,ua,nsa,ksa,ala⟩:=a
   simp only [exA,Ex.A0,AF,AI] at hka ⊢
   (repeat' (first|refine Run.ct rfl ?_|((first|refine Run.reg mixed ?_|refine Run.AJ ?_|(refine AH.mk rfl (A4 [109,97,116,99,104,32] hb0 (by (try simp only [AD,AA,AG] at hlen ⊢);omega)) ?_;rintro _ σ1 ⟨rfl,hb1⟩)|(refine AR rfl (fun h=>?_) (fun h=>?_)<;>try (cases h;done)))<;>try simp -implicitDefEqProofs only [A3,(hb0.le.blk j _ hjs),go_sem])|(refine ⟨fun h=>?_,fun h=>?_⟩<;>first|(cases h;done)|try simp only [h])|fail))
   try simp -implicitDefEqProofs only [(hb1.le.blk j _ hjs),go_sem]
   (repeat' (first|refine Run.ct rfl ?_|((first|refine Run.reg mixed ?_|refine Run.AJ ?_|(refine AH.mk rfl (hka τ0 σ1 _ hH hb1 (by (try simp only [AD,AA,AG] at hlen ⊢);omega)) ?_;rintro _ σ2 ⟨rfl,hb2⟩)|(refine AR rfl (fun h=>?_) (fun h=>?_)<;>try (cases h;done)))<;>try simp -implicitDefEqProofs only [A3,(hb1.le.blk j _ hjs),go_sem])|(refine ⟨fun h=>?_,fun h=>?_⟩<;>first|(cases h;done)|try simp only [h])|fail))
   try simp -implicitDefEqProofs only [(hb2.le.blk j _ hjs),go_sem]
   (repeat' (first|refine Run.ct rfl ?_|((first|refine Run.reg mixed ?_|refine Run.AJ ?_|(refine AH.mk rfl (A4 [32,119,105,116,104,32] hb2 (by (try simp only [AD,AA,AG] at hlen ⊢);omega)) ?_;rintro _ σ3 ⟨rfl,hb3⟩)|(refine AR rfl (fun h=>?_) (fun h=>?_)<;>try (cases h;done)))<;>try simp -implicitDefEqProofs only [A3,(hb2.le.blk j _ hjs),go_sem])|(refine ⟨fun h=>?_,fun h=>?_⟩<;>first|(cases h;done)|try simp only [h])|fail))
   try simp -implicitDefEqProofs only [(hb3.le.blk j _ hjs),go_sem]
   (repeat' (first|refine Run.ct rfl ?_|((first|refine Run.reg mixed ?_|refine Run.AJ ?_|(refine AH.mk rfl (hsep τ0 σ3 _ hHj hb3 (by (try simp only [AD,AA,AG] at hlen ⊢);omega)) ?_;rintro _ σ4 ⟨rfl,hb4⟩)|(refine AR rfl (fun h=>?_) (fun h=>?_)<;>try (cases h;done)))<;>try simp -implicitDefEqProofs only [A3,(hb3.le.blk j _ hjs),go_sem])|(refine ⟨fun h=>?_,fun h=>?_⟩<;>first|(cases h;done)|try simp only [h])|fail))
   try simp -implicitDefEqProofs only [(hb4.le.blk j _ hjs),go_sem]
   (repeat' (first|refine Run.ct rfl ?_|((first|refine Run.reg mixed ?_|refine Run.AJ ?_|(refine AH.mk rfl (A4 [32,101,110,100] hb4 (by (try simp only [AD,AA,AG] at hlen ⊢);omega)) ?_;rintro _ σ5 ⟨rfl,hb5⟩)|(refine AR rfl (fun h=>?_) (fun h=>?_)<;>try (cases h;done)))<;>try simp -implicitDefEqProofs only [A3,(hb4.le.blk j _ hjs),go_sem])|(refine ⟨fun h=>?_,fun h=>?_⟩<;>first|(cases h;done)|try simp only [h])|fail))
   try simp only [AS,AY,A6,A1] at hb5 ⊢
   exact Run.fin CG rfl (fun _ _ h=>h) (AN.le_refl _) ⟨rfl,hun _ _ hb5⟩
 · obtain ⟨a,rfl⟩:=W9 (by simpa [nkB] using hnk)
   have hka:=hk a (by simp)
   have e:P0 11 n u ns [a] ([a].map BA) (al.map Mh)=[102,110,40]++(Lib.join ns [44,32]++([41,32,45,62,32]++BA a)):=by show [102,110]++(Ij ns++([32,45,62,32]++BA a))=_;simp [Ij,JT,cms]
   rw [e] at hlen ⊢
   clear e
   generalize BA a=ta at *
   obtain ⟨oa,na,ua,nsa,ksa,ala⟩:=a
   simp only [exA,Ex.A0,AF,AI] at hka ⊢
   simp [nsB] at hns
   have hlen2:=hlen
   simp only [AD,AA,AG] at hlen2
   have hjn:=jZ ns [44,32] τ (by omega) (by omega)
   have ha1:=Fe (a:=[102,110,40]) (b:=Lib.join ns [44,32]) (by simp only [AD,AG];omega)
   have ha2:=Fe (a:=[102,110,40]++Lib.join ns [44,32]) (b:=[41,32,45,62,32]) (by simp only [AA,AD,AG];omega)
   simp only [AY,A6] at ha1 ha2
   (repeat' (first|refine Run.ct rfl ?_|((first|refine Run.reg mixed ?_|refine Run.AJ ?_|(refine AR rfl (fun h=>?_) (fun h=>?_)<;>try (cases h;done)))<;>try simp -implicitDefEqProofs only [A3,(hb0.le.blk j _ hjs),go_sem])|(refine ⟨fun h=>?_,fun h=>?_⟩<;>first|(cases h;done)|try simp only [h])|fail))
   refine Run.SD mixed ?_
   simp -implicitDefEqProofs only [(hb0.le.blk j _ hjs),ha1,ha2,go_sem]
   refine ⟨?_,?_⟩
   all_goals (repeat' (first|refine Run.ct rfl ?_|((first|refine Run.reg mixed ?_|refine Run.AJ ?_|(refine AH.mk rfl (A4 _ hb0 (by (try simp only [AD,AA,AG] at hlen ⊢);omega)) ?_;rintro _ σ1 ⟨rfl,hb1⟩)|refine AH.det (hjn) ?_|(refine AR rfl (fun h=>?_) (fun h=>?_)<;>try (cases h;done)))<;>try simp -implicitDefEqProofs only [A3,ha1,ha2,(hb0.le.blk j _ hjs),go_sem])|(refine ⟨fun h=>?_,fun h=>?_⟩<;>first|(cases h;done)|try simp only [h])|fail))
   all_goals try simp -implicitDefEqProofs only [(hb1.le.blk j _ hjs),go_sem]
   all_goals (repeat' (first|refine Run.ct rfl ?_|((first|refine Run.reg mixed ?_|refine Run.AJ ?_|(refine AH.mk rfl (hka τ0 σ1 _ hH hb1 (by (try simp only [AD,AA,AG] at hlen ⊢);omega)) ?_;rintro _ σ2 ⟨rfl,hb2⟩)|(refine AR rfl (fun h=>?_) (fun h=>?_)<;>try (cases h;done)))<;>try simp -implicitDefEqProofs only [A3,ha1,ha2,(hb1.le.blk j _ hjs),go_sem])|(refine ⟨fun h=>?_,fun h=>?_⟩<;>first|(cases h;done)|try simp only [h])|fail))
   all_goals try simp only [AS,AY,A6,A1] at hb2 ⊢
   all_goals exact Run.fin CG rfl (fun _ _ h=>h) (AN.le_refl _) ⟨rfl,hun _ _ hb2⟩
 · obtain ⟨a,b,rfl⟩:=Sx (by simpa [nkB] using hnk)
   have hka:=hk a (by simp)
   have hkb:=hk b (by simp)
   have e:P0 17 n u ns [a,b] ([a,b].map BA) (al.map Mh)=[116,114,121,32]++(BA a++([32,99,97,116,99,104,32]++(shown n++([32,45,62,32]++(BA b++[32,101,110,100]))))):=rfl
   rw [e] at hlen ⊢
   clear e
   generalize BA a=ta at *
   obtain ⟨oa,na,ua,nsa,ksa,ala⟩:=a
   generalize BA b=tb at *
   obtain ⟨ob,nb,ub,nsb,ksb,alb⟩:=b
   simp only [exA,Ex.A0,AF,AI] at hka hkb ⊢
   (repeat' (first|refine Run.ct rfl ?_|((first|refine Run.reg mixed ?_|refine Run.AJ ?_|(refine AH.mk rfl (A4 [116,114,121,32] hb0 (by (try simp only [AD,AA,AG] at hlen ⊢);omega)) ?_;rintro _ σ1 ⟨rfl,hb1⟩)|(refine AR rfl (fun h=>?_) (fun h=>?_)<;>try (cases h;done)))<;>try simp -implicitDefEqProofs only [A3,(hb0.le.blk j _ hjs),go_sem])|(refine ⟨fun h=>?_,fun h=>?_⟩<;>first|(cases h;done)|try simp only [h])|fail))
   try simp -implicitDefEqProofs only [(hb1.le.blk j _ hjs),go_sem]
   (repeat' (first|refine Run.ct rfl ?_|((first|refine Run.reg mixed ?_|refine Run.AJ ?_|(refine AH.mk rfl (hka τ0 σ1 _ hH hb1 (by (try simp only [AD,AA,AG] at hlen ⊢);omega)) ?_;rintro _ σ2 ⟨rfl,hb2⟩)|(refine AR rfl (fun h=>?_) (fun h=>?_)<;>try (cases h;done)))<;>try simp -implicitDefEqProofs only [A3,(hb1.le.blk j _ hjs),go_sem])|(refine ⟨fun h=>?_,fun h=>?_⟩<;>first|(cases h;done)|try simp only [h])|fail))
   try simp -implicitDefEqProofs only [(hb2.le.blk j _ hjs),go_sem]
   (repeat' (first|refine Run.ct rfl ?_|((first|refine Run.reg mixed ?_|refine Run.AJ ?_|(refine AH.mk rfl (A4 [32,99,97,116,99,104,32] hb2 (by (try simp only [AD,AA,AG] at hlen ⊢);omega)) ?_;rintro _ σ3 ⟨rfl,hb3⟩)|(refine AR rfl (fun h=>?_) (fun h=>?_)<;>try (cases h;done)))<;>try simp -implicitDefEqProofs only [A3,(hb2.le.blk j _ hjs),go_sem])|(refine ⟨fun h=>?_,fun h=>?_⟩<;>first|(cases h;done)|try simp only [h])|fail))
   try simp -implicitDefEqProofs only [(hb3.le.blk j _ hjs),go_sem]
   (repeat' (first|refine Run.ct rfl ?_|((first|refine Run.reg mixed ?_|refine Run.AJ ?_|(refine AH.mk rfl (hbn τ0 σ3 _ hH hb3 (by (try simp only [AD,AA,AG] at hlen ⊢);omega)) ?_;rintro _ σ4 ⟨rfl,hb4⟩)|(refine AR rfl (fun h=>?_) (fun h=>?_)<;>try (cases h;done)))<;>try simp -implicitDefEqProofs only [A3,(hb3.le.blk j _ hjs),go_sem])|(refine ⟨fun h=>?_,fun h=>?_⟩<;>first|(cases h;done)|try simp only [h])|fail))
   try simp -implicitDefEqProofs only [(hb4.le.blk j _ hjs),go_sem]
   (repeat' (first|refine Run.ct rfl ?_|((first|refine Run.reg mixed ?_|refine Run.AJ ?_|(refine AH.mk rfl (A4 [32,45,62,32] hb4 (by (try simp only [AD,AA,AG] at hlen ⊢);omega)) ?_;rintro _ σ5 ⟨rfl,hb5⟩)|(refine AR rfl (fun h=>?_) (fun h=>?_)<;>try (cases h;done)))<;>try simp -implicitDefEqProofs only [A3,(hb4.le.blk j _ hjs),go_sem])|(refine ⟨fun h=>?_,fun h=>?_⟩<;>first|(cases h;done)|try simp only [h])|fail))
   try simp -implicitDefEqProofs only [(hb5.le.blk j _ hjs),go_sem]
   (repeat' (first|refine Run.ct rfl ?_|((first|refine Run.reg mixed ?_|refine Run.AJ ?_|(refine AH.mk rfl (hkb τ0 σ5 _ hH hb5 (by (try simp only [AD,AA,AG] at hlen ⊢);omega)) ?_;rintro _ σ6 ⟨rfl,hb6⟩)|(refine AR rfl (fun h=>?_) (fun h=>?_)<;>try (cases h;done)))<;>try simp -implicitDefEqProofs only [A3,(hb5.le.blk j _ hjs),go_sem])|(refine ⟨fun h=>?_,fun h=>?_⟩<;>first|(cases h;done)|try simp only [h])|fail))
   try simp -implicitDefEqProofs only [(hb6.le.blk j _ hjs),go_sem]
   (repeat' (first|refine Run.ct rfl ?_|((first|refine Run.reg mixed ?_|refine Run.AJ ?_|(refine AH.mk rfl (A4 [32,101,110,100] hb6 (by (try simp only [AD,AA,AG] at hlen ⊢);omega)) ?_;rintro _ σ7 ⟨rfl,hb7⟩)|(refine AR rfl (fun h=>?_) (fun h=>?_)<;>try (cases h;done)))<;>try simp -implicitDefEqProofs only [A3,(hb6.le.blk j _ hjs),go_sem])|(refine ⟨fun h=>?_,fun h=>?_⟩<;>first|(cases h;done)|try simp only [h])|fail))
   try simp only [AS,AY,A6,A1] at hb7 ⊢
   exact Run.fin CG rfl (fun _ _ h=>h) (AN.le_refl _) ⟨rfl,hun _ _ hb7⟩
end Go.Ab
