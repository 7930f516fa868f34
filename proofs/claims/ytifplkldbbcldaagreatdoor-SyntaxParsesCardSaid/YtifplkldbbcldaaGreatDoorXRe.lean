/- The printer: levels, places, truth values; open, parenthesized, list, parts. The printer: primary expressions, long ones. The printer: long expressions. Conditions: none. -/
import Derived.Test.YtifplkldbbcldaaGreatDoorXPm
set_option linter.unusedSimpArgs false
set_option linter.unusedVariables false
set_option maxRecDepth 4000
set_option maxHeartbeats 8000000
open List renaming map_cons→AB,map_nil→AE,length_cons→AG,length_append→AA,length_nil→AI,append_assoc→AY,cons_append→Ae,nil_append→A6,append_nil→Ap
open Int renaming reduceBEq→As
open Bool renaming and_eq_true→AR,false_eq_true→AL
namespace Go.Ab
open Go.Proofs
theorem Q0 (b:Bool) (σ:AK):AP Tryz.prog 176 [.d (.bool b)] σ (fun v σ'=>v= .d (.str (if b then [116,114,117,101] else [102,97,108,115,101]))∧σ'=σ):=by
 refine L6 (by simp) ?_
 rw [Ar]
 cases b
 all_goals (repeat' (first|refine ctQ rfl ?_|((first|refine rgQ mxQ ?_|refine cdQ ?_|refine Run.A2 GO (AK.le_refl _) ?_)<;>try simp -implicitDefEqProofs only [go_sem])|fail))
 all_goals rfl
theorem UM (b:Bool) (σ:AK):AP Tryz.prog 145 [.d (.bool b)] σ (fun v σ'=>v= .d (.str (if b then [116,114,117,101] else [102,97,108,115,101]))∧σ'=σ):=by
 refine Sf (by simp) ?_
 rw [Ar]
 (repeat' (first|refine ctQ rfl ?_|((first|refine rgQ mxQ ?_|refine cdQ ?_|refine Run.A2 LX (AK.le_refl _) ?_|refine AD.det (Q0 b _) ?_)<;>try simp -implicitDefEqProofs only [go_sem])|fail))
theorem jE (e:Ex) (σ:AK):AP Tryz.prog 87 [exA e] σ (fun v σ'=>v= .d (.int .i64 ((lvl e:Nat):Int))∧σ'=σ):=by
 refine Zn (by simp) ?_
 rw [Ar]
 obtain ⟨o,n,u,ns,ks,al⟩:=e
 simp only [exA,Ex.AS,AB,AE,lvl]
 by_cases h0:o=7∨o=8∨o=9∨o=10∨o=11∨o=17
 · rw [if_pos h0]
   rcases h0 with rfl|rfl|rfl|rfl|rfl|rfl
   all_goals (repeat' (first|refine ctQ rfl ?_|((first|refine rgQ mxQ ?_|refine cdQ ?_|refine Run.A2 HX (AK.le_refl _) ?_)<;>try simp -implicitDefEqProofs only [As,go_sem])|fail))
   all_goals rfl
 · rw [if_neg h0]
   simp only [not_or] at h0
   obtain ⟨h1,h2,h3,h4,h5,h6⟩:=h0
   by_cases h13:o=13
   · subst h13
     rw [if_pos rfl]
     (repeat' (first|refine ctQ rfl ?_|((first|refine rgQ mxQ ?_|refine cdQ ?_|refine Run.A2 HX (AK.le_refl _) ?_|refine AD.det (Ki u _) ?_)<;>try simp -implicitDefEqProofs only [As,go_sem])|fail))
   · rw [if_neg h13]
     by_cases h12:o=12
     · subst h12
       rw [if_pos rfl]
       (repeat' (first|refine ctQ rfl ?_|((first|refine rgQ mxQ ?_|refine cdQ ?_|refine Run.A2 HX (AK.le_refl _) ?_)<;>try simp -implicitDefEqProofs only [As,go_sem])|fail))
       all_goals rfl
     · rw [if_neg h12]
       (repeat' (first|refine ctQ rfl ?_|((first|refine rgQ mxQ ?_|refine cdQ ?_|refine Run.A2 HX (AK.le_refl _) ?_)<;>try simp -implicitDefEqProofs only [Ch h1,Ch h2,Ch h3,Ch h4,Ch h5,Ch h6,Ch h12,Ch h13,go_sem])|fail))
       all_goals rfl
def plL (u:Int):Nat:=if Hz u=1 then 2 else Hz u
def plR (u:Int):Nat:=if Hz u=1 then 2 else Hz u+1
theorem XC (u:Int) (σ:AK):AP Tryz.prog 90 [.d (.int .i64 u)] σ (fun v σ'=>v= .tup [.d (.int .i64 ((plL u:Nat):Int)),.d (.int .i64 ((plR u:Nat):Int))]∧σ'=σ):=by
 refine QS (by simp) ?_
 rw [Ar]
 have hc:=Ki u σ
 have h3:Hz u=1∨Hz u=2∨Hz u=3:=by unfold Hz;split;exact .inr (.inl rfl);split;exact .inr (.inr rfl);exact .inl rfl
 unfold plL plR
 generalize Hz u=z at hc h3 ⊢
 rcases h3 with rfl|rfl|rfl
 all_goals (repeat' (first|refine ctQ rfl ?_|((first|refine rgQ mxQ ?_|refine cdQ ?_|refine Run.A2 J6 (AK.le_refl _) ?_|refine AD.det (hc) ?_)<;>try simp -implicitDefEqProofs only [go_sem])|(refine ⟨fun h=>?_,fun h=>?_⟩<;>first|(cases h;done)|try simp only [h])|fail))
 all_goals rfl
def EC (i:Nat) (e:Ex) (lev:Nat):Prop:=WC 45 [.gp i 0,exA e,.d (.int .i64 (lev:Int))] i (pl lev e (BO e))
theorem gG {i:Nat} {e:Ex} (h:EC i e 0):WC 139 [.gp i 0,exA e] i (BO e):=by
 intro σ0 σ s hH hbu hlen
 have hc:=h σ0 σ s hH hbu (by rw [pl,if_neg (by omega)];exact hlen)
 rw [pl,if_neg (by omega)] at hc
 refine Rp (by simp) ?_
 rw [BH]
 obtain ⟨o,n,u,ns,ks,al⟩:=e
 simp only [exA,Ex.AS,AB,AE] at hc ⊢
 (repeat' (first|refine ctQ rfl ?_|((first|refine rgQ mxQ ?_|refine cdQ ?_|(refine AD.mk rfl hc ?_;rintro _ σ1 ⟨rfl,hb1⟩))<;>try simp -implicitDefEqProofs only [go_sem])|fail))
 exact Run.fin KV rfl (fun _ _ h=>h) (AK.le_refl _) ⟨rfl,hb1⟩
theorem P0 {i:Nat} {e:Ex} (h:WC 139 [.gp i 0,exA e] i (BO e)):WC 88 [.gp i 0,exA e] i (Lc (BO e)):=by
 intro σ0 σ s hH hbu hlen
 refine Ke (by simp) ?_
 rw [BH]
 have e1:s++Lc (BO e)=s++[40]++BO e++[41]:=by simp [Lc]
 simp only [Lc,AG,AA,AI] at hlen
 rw [e1]
 have hop:=fun σ1 hb1=>h σ0 σ1 (s++[40]) hH hb1 (by simp only [AG,AA,AI];omega)
 generalize BO e=x at hop hlen ⊢
 obtain ⟨o,n,u,ns,ks,al⟩:=e
 simp only [exA,Ex.AS,AB,AE] at hop ⊢
 (repeat' (first|refine ctQ rfl ?_|((first|refine rgQ mxQ ?_|refine cdQ ?_|(refine AD.mk rfl (A0 [40] hbu (by simp only [AG,AI];omega)) ?_;rintro _ σ1 ⟨rfl,hb1⟩))<;>try simp -implicitDefEqProofs only [go_sem])|fail))
 (repeat' (first|refine ctQ rfl ?_|((first|refine rgQ mxQ ?_|refine cdQ ?_|(refine AD.mk rfl (hop σ1 hb1) ?_;rintro _ σ2 ⟨rfl,hb2⟩))<;>try simp -implicitDefEqProofs only [go_sem])|fail))
 (repeat' (first|refine ctQ rfl ?_|((first|refine rgQ mxQ ?_|refine cdQ ?_|(refine AD.mk rfl (A0 [41] hb2 (by simp only [AG,AA,AI];omega)) ?_;rintro _ σ3 ⟨rfl,hb3⟩))<;>try simp -implicitDefEqProofs only [go_sem])|fail))
 exact Run.fin Fq rfl (fun _ _ h=>h) (AK.le_refl _) ⟨rfl,hb3⟩
theorem pA {i:Nat} {ks:List Ex} (h:∀e∈ks,WC 139 [.gp i 0,exA e] i (BO e)):WC 92 [.gp i 0,.d (.sl (ks.map Ex.enc))] i (L9 (ks.map BO)):=by
 intro σ0 σ s hH hbu hlen
 refine Rn (by simp) ?_
 rw [BH]
 have hsep:=K0 (H:=fun _=>True) i (first:=[.gp i 0]) (caps:=[]) (by kernel_rfl:Av Tryz.prog 139=true) ⟨rfl,rfl⟩ [44,32] BO ks h
 have e1:s++L9 (ks.map BO)=s++[40]++Lib.join (ks.map BO) [44,32]++[41]:=by simp [L9,Lc,cms]
 simp only [L9,Lc,cms,AG,AA,AI] at hlen
 rw [e1]
 (repeat' (first|refine ctQ rfl ?_|((first|refine rgQ mxQ ?_|refine cdQ ?_|(refine AD.mk rfl (A0 [40] hbu (by simp only [AG,AI];omega)) ?_;rintro _ σ1 ⟨rfl,hb1⟩))<;>try simp -implicitDefEqProofs only [go_sem])|fail))
 (repeat' (first|refine ctQ rfl ?_|((first|refine rgQ mxQ ?_|refine cdQ ?_|(refine AD.mk rfl (hsep σ0 σ1 _ hH hb1 (by simp only [AG,AA,AI];omega)) ?_;rintro _ σ2 ⟨rfl,hb2⟩))<;>try simp -implicitDefEqProofs only [go_sem])|fail))
 (repeat' (first|refine ctQ rfl ?_|((first|refine rgQ mxQ ?_|refine cdQ ?_|(refine AD.mk rfl (A0 [41] hb2 (by simp only [AG,AA,AI];omega)) ?_;rintro _ σ3 ⟨rfl,hb3⟩))<;>try simp -implicitDefEqProofs only [go_sem])|fail))
 exact Run.fin KU rfl (fun _ _ h=>h) (AK.le_refl _) ⟨rfl,hb3⟩
theorem ACK (a b c d e f:AV):Ak [a,b,c,d,e,f]=put 0 a (put 1 b (put 2 c (put 3 d (put 4 e (put 5 f U))))):=by
 funext s;simp only [Ak,put,U]
 match s with|0=>rfl|1=>rfl|2=>rfl|3=>rfl|4=>rfl|5=>rfl|n+6=>simp
theorem Zy {i:Nat} (x y z:Str) {a b:Ex} (ha:WC 139 [.gp i 0,exA a] i (BO a)) (hb:WC 139 [.gp i 0,exA b] i (BO b)):
 WC 141 [.gp i 0,.d (.str x),exA a,.d (.str y),exA b,.d (.str z)] i (x++(BO a++(y++(BO b++z)))):=by
 intro σ0 σ s hH hbu hlen
 refine QY (by simp) ?_
 rw [ACK]
 simp only [AA] at hlen
 have e1:s++(x++(BO a++(y++(BO b++z))))=s++x++BO a++y++BO b++z:=by simp only [AY]
 rw [e1]
 have ha:=fun σ1 hb1=>ha σ0 σ1 (s++x) hH hb1 (by simp only [AA];omega)
 have hb:=fun σ1 hb1=>hb σ0 σ1 (s++x++BO a++y) hH hb1 (by simp only [AA];omega)
 generalize BO a=ta at ha hb hlen ⊢
 generalize BO b=tb at hb hlen ⊢
 obtain ⟨o,n,u,ns,ks,al⟩:=a
 obtain ⟨o',n',u',ns',ks',al'⟩:=b
 simp only [exA,Ex.AS,AB,AE] at ha hb ⊢
 (repeat' (first|refine ctQ rfl ?_|((first|refine rgQ mxQ ?_|refine cdQ ?_|(refine AD.mk rfl (A0 x hbu (by omega)) ?_;rintro _ σ1 ⟨rfl,hb1⟩))<;>try simp -implicitDefEqProofs only [go_sem])|fail))
 (repeat' (first|refine ctQ rfl ?_|((first|refine rgQ mxQ ?_|refine cdQ ?_|(refine AD.mk rfl (ha σ1 hb1) ?_;rintro _ σ2 ⟨rfl,hb2⟩))<;>try simp -implicitDefEqProofs only [go_sem])|fail))
 (repeat' (first|refine ctQ rfl ?_|((first|refine rgQ mxQ ?_|refine cdQ ?_|(refine AD.mk rfl (A0 y hb2 (by simp only [AA];omega)) ?_;rintro _ σ3 ⟨rfl,hb3⟩))<;>try simp -implicitDefEqProofs only [go_sem])|fail))
 (repeat' (first|refine ctQ rfl ?_|((first|refine rgQ mxQ ?_|refine cdQ ?_|(refine AD.mk rfl (hb σ3 hb3) ?_;rintro _ σ4 ⟨rfl,hb4⟩))<;>try simp -implicitDefEqProofs only [go_sem])|fail))
 (repeat' (first|refine ctQ rfl ?_|((first|refine rgQ mxQ ?_|refine cdQ ?_|(refine AD.mk rfl (A0 z hb4 (by simp only [AA];omega)) ?_;rintro _ σ5 ⟨rfl,hb5⟩))<;>try simp -implicitDefEqProofs only [go_sem])|fail))
 exact Run.fin J8 rfl (fun _ _ h=>h) (AK.le_refl _) ⟨rfl,hb5⟩
end Go.Ab
namespace Go.Ab
open Go.Proofs
def wL (o:Int):Prop:=o=1∨o=2∨o=3∨o=4∨o=5∨o=6∨o=14∨o=15∨o=16
set_option maxHeartbeats 4000000 in
theorem wN {i:Nat} {o:Int} {n:Str} {u:Int} {ns:List Str} {ks:List Ex} {al:List Al} (hn:Iw o n u ns ks.length al=true) (ho:wL o)
 (hk:∀x∈ks,WC 139 [.gp i 0,exA x] i (BO x)):WC 93 [.gp i 0,exA (.mk o n u ns ks al)] i (BO (.mk o n u ns ks al)):=by
 intro σ0 σ0' s hH hb0 hlen
 have hli:=pA hk
 have hop:=TC (H:=fun _=>True) i (first:=[.gp i 0]) (caps:=[]) (by kernel_rfl:Av Tryz.prog 139=true) ⟨rfl,rfl⟩ BO ks hk
 have hpow:σ0'.gt TD=some VJ:=by rw [← hb0.le.gt];exact hH.2
 simp only [Iw,AR] at hn
 obtain ⟨⟨⟨⟨hnm,hnu⟩,hns⟩,has⟩,hnk⟩:=hn
 refine Rq (by simp) ?_
 rw [BH]
 simp only [exA,Ex.AS,AB,AE]
 rw [BO,PD] at hlen ⊢
 rcases ho with rfl|rfl|rfl|rfl|rfl|rfl|rfl|rfl|rfl
 · have e:QH 1 n u ns ks (ks.map BO) (KN al)=[40,41]:=rfl
   rw [e] at hlen ⊢
   (repeat' (first|refine ctQ rfl ?_|((first|refine rgQ mxQ ?_|refine cdQ ?_|(refine AD.mk rfl (A0 [40,41] hb0 (by (try simp only [AG,AI] at hlen ⊢);omega)) ?_;rintro _ σ1 ⟨rfl,hb1⟩))<;>try simp -implicitDefEqProofs only [go_sem])|fail))
   try simp only [AY,Ae,A6,Ap] at hb1 ⊢
   exact Run.fin BQ rfl (fun _ _ h=>h) (AK.le_refl _) ⟨rfl,hb1⟩
 · by_cases hu:u=1
   · subst hu
     have e:QH 2 n 1 ns ks (ks.map BO) (KN al)=[116,114,117,101]:=rfl
     rw [e] at hlen ⊢
     have hfb:=UM true σ0'
     simp only [if_true] at hfb
     (repeat' (first|refine ctQ rfl ?_|((first|refine rgQ mxQ ?_|refine cdQ ?_|(refine AD.mk rfl (A0 [116,114,117,101] hb0 hlen) ?_;rintro _ σ1 ⟨rfl,hb1⟩)|refine AD.det (hfb) ?_)<;>try simp -implicitDefEqProofs only [As,go_sem])|fail))
     try simp only [AY,Ae,A6,Ap] at hb1 ⊢
     exact Run.fin BQ rfl (fun _ _ h=>h) (AK.le_refl _) ⟨rfl,hb1⟩
   · have e:QH 2 n u ns ks (ks.map BO) (KN al)=[102,97,108,115,101]:=by show (if u=1 then _ else _)=_;rw [if_neg hu]
     rw [e] at hlen ⊢
     have hfb:=UM false σ0'
     simp only [AL,if_false] at hfb
     (repeat' (first|refine ctQ rfl ?_|((first|refine rgQ mxQ ?_|refine cdQ ?_|(refine AD.mk rfl (A0 [102,97,108,115,101] hb0 hlen) ?_;rintro _ σ1 ⟨rfl,hb1⟩)|refine AD.det (hfb) ?_)<;>try simp -implicitDefEqProofs only [As,Ch hu,go_sem])|fail))
     try simp only [AY,Ae,A6,Ap] at hb1 ⊢
     exact Run.fin BQ rfl (fun _ _ h=>h) (AK.le_refl _) ⟨rfl,hb1⟩
 · have e:QH 3 n u ns ks (ks.map BO) (KN al)=Lib.itoa u:=rfl
   rw [e] at hlen ⊢
   have hfi:=Lq u σ0' hpow
   (repeat' (first|refine ctQ rfl ?_|((first|refine rgQ mxQ ?_|refine cdQ ?_|(refine AD.mk rfl (A0 (Lib.itoa u) hb0 hlen) ?_;rintro _ σ1 ⟨rfl,hb1⟩)|refine AD.det (hfi) ?_)<;>try simp -implicitDefEqProofs only [As,go_sem])|fail))
   try simp only [AY,Ae,A6,Ap] at hb1 ⊢
   exact Run.fin BQ rfl (fun _ _ h=>h) (AK.le_refl _) ⟨rfl,hb1⟩
 · have e:QH 4 n u ns ks (ks.map BO) (KN al)=n++Lb (ks.map BO):=rfl
   rw [e] at hlen ⊢
   (repeat' (first|refine ctQ rfl ?_|((first|refine rgQ mxQ ?_|refine cdQ ?_|(refine AD.mk rfl (A0 n hb0 (by (try simp only [AA] at hlen ⊢);omega)) ?_;rintro _ σ1 ⟨rfl,hb1⟩))<;>try simp -implicitDefEqProofs only [As,go_sem])|fail))
   (repeat' (first|refine ctQ rfl ?_|((first|refine rgQ mxQ ?_|refine cdQ ?_|(refine AD.mk rfl (hop σ0 σ1 _ hH hb1 (by (try simp only [AA] at hlen ⊢);omega)) ?_;rintro _ σ2 ⟨rfl,hb2⟩))<;>try simp -implicitDefEqProofs only [go_sem])|fail))
   try simp only [AY] at hb2 ⊢
   exact Run.fin BQ rfl (fun _ _ h=>h) (AK.le_refl _) ⟨rfl,hb2⟩
 · have e:QH 5 n u ns ks (ks.map BO) (KN al)=L9 (ks.map BO):=rfl
   rw [e] at hlen ⊢
   (repeat' (first|refine ctQ rfl ?_|((first|refine rgQ mxQ ?_|refine cdQ ?_|(refine AD.mk rfl (hli σ0 σ0' _ hH hb0 (by (try simp only [AG,AA,AI] at hlen ⊢);omega)) ?_;rintro _ σ1 ⟨rfl,hb1⟩))<;>try simp -implicitDefEqProofs only [As,go_sem])|fail))
   try simp only [AY,Ae,A6,Ap] at hb1 ⊢
   exact Run.fin BQ rfl (fun _ _ h=>h) (AK.le_refl _) ⟨rfl,hb1⟩
 · have e:QH 6 n u ns ks (ks.map BO) (KN al)=n++Lb (ks.map BO):=rfl
   rw [e] at hlen ⊢
   (repeat' (first|refine ctQ rfl ?_|((first|refine rgQ mxQ ?_|refine cdQ ?_|(refine AD.mk rfl (A0 n hb0 (by (try simp only [AA] at hlen ⊢);omega)) ?_;rintro _ σ1 ⟨rfl,hb1⟩))<;>try simp -implicitDefEqProofs only [As,go_sem])|fail))
   (repeat' (first|refine ctQ rfl ?_|((first|refine rgQ mxQ ?_|refine cdQ ?_|(refine AD.mk rfl (hop σ0 σ1 _ hH hb1 (by (try simp only [AA] at hlen ⊢);omega)) ?_;rintro _ σ2 ⟨rfl,hb2⟩))<;>try simp -implicitDefEqProofs only [go_sem])|fail))
   try simp only [AY] at hb2 ⊢
   exact Run.fin BQ rfl (fun _ _ h=>h) (AK.le_refl _) ⟨rfl,hb2⟩
 · simp [nuB] at hnu
   obtain ⟨k,rfl⟩:∃k:Nat,u=k:=⟨u.toNat,by omega⟩
   have hpr:=Xy k (by omega) (by omega) σ0'
   have e:QH 14 n (k:Int) ns ks (ks.map BO) (KN al)=prT (k:Int)++L9 (ks.map BO):=rfl
   rw [e] at hlen ⊢
   (repeat' (first|refine ctQ rfl ?_|((first|refine rgQ mxQ ?_|refine cdQ ?_|(refine AD.mk rfl (A0 (prT (k:Int)) hb0 (by (try simp only [AA] at hlen ⊢);omega)) ?_;rintro _ σ1 ⟨rfl,hb1⟩)|refine AD.det (hpr) ?_)<;>try simp -implicitDefEqProofs only [As,go_sem])|fail))
   (repeat' (first|refine ctQ rfl ?_|((first|refine rgQ mxQ ?_|refine cdQ ?_|(refine AD.mk rfl (hli σ0 σ1 _ hH hb1 (by (try simp only [AA] at hlen ⊢);omega)) ?_;rintro _ σ2 ⟨rfl,hb2⟩))<;>try simp -implicitDefEqProofs only [go_sem])|fail))
   try simp only [AY] at hb2 ⊢
   exact Run.fin BQ rfl (fun _ _ h=>h) (AK.le_refl _) ⟨rfl,hb2⟩
 · have e:QH 15 n u ns ks (ks.map BO) (KN al)=[116,105,99,107,40]++(Lib.itoa u++[41]):=rfl
   rw [e] at hlen ⊢
   have hfi:=Lq u σ0' hpow
   have ha1:=Ha (a:=[116,105,99,107,40]) (b:=Lib.itoa u) (by simp only [AG,AA,AI] at hlen ⊢;omega)
   have ha2:=Ha (a:=[116,105,99,107,40]++Lib.itoa u) (b:=[41]) (by simp only [AG,AA,AI] at hlen ⊢;omega)
   simp only [Ae,A6] at ha1 ha2
   (repeat' (first|refine ctQ rfl ?_|((first|refine rgQ mxQ ?_|refine cdQ ?_|(refine AD.mk rfl (A0 _ hb0 (by (try simp only [AG,AA,AI] at hlen ⊢);omega)) ?_;rintro _ σ1 ⟨rfl,hb1⟩)|refine AD.det (hfi) ?_)<;>try simp -implicitDefEqProofs only [As,ha1,ha2,go_sem])|fail))
   try simp only [AY,Ae,A6,Ap] at hb1 ⊢
   exact Run.fin BQ rfl (fun _ _ h=>h) (AK.le_refl _) ⟨rfl,hb1⟩
 · have e:QH 16 n u ns ks (ks.map BO) (KN al)=[114,97,105,115,101]++L9 (ks.map BO):=rfl
   rw [e] at hlen ⊢
   (repeat' (first|refine ctQ rfl ?_|((first|refine rgQ mxQ ?_|refine cdQ ?_|(refine AD.mk rfl (A0 [114,97,105,115,101] hb0 (by (try simp only [AG,AA,AI] at hlen ⊢);omega)) ?_;rintro _ σ1 ⟨rfl,hb1⟩))<;>try simp -implicitDefEqProofs only [As,go_sem])|fail))
   (repeat' (first|refine ctQ rfl ?_|((first|refine rgQ mxQ ?_|refine cdQ ?_|(refine AD.mk rfl (hli σ0 σ1 _ hH hb1 (by (try simp only [AG,AA,AI] at hlen ⊢);omega)) ?_;rintro _ σ2 ⟨rfl,hb2⟩))<;>try simp -implicitDefEqProofs only [go_sem])|fail))
   try simp only [AY,Ae,A6] at hb2 ⊢
   exact Run.fin BQ rfl (fun _ _ h=>h) (AK.le_refl _) ⟨rfl,hb2⟩
end Go.Ab
namespace Go.Ab
open Go.Proofs
theorem ACR:Av Tryz.prog 140=true:=by kernel_rfl
theorem zJ:Av Tryz.prog 143=true:=by kernel_rfl
theorem qB (i:Nat) (ns:List Str):WC 79 [.gp i 0,.d (.sl (ns.map Br)),.fn 140 [.gp i 0] []] i (Lb (ns.map shown)):=
 N1 (H:=fun _=>True) i (first:=[.gp i 0]) (caps:=[]) ACR ⟨rfl,rfl⟩ shown ns (fun x _=>iC i x)
theorem ACF {i:Nat} (j:Nat) {c:Str} {vs:List Str} {b:Ex} (hb:WC 139 [.gp i 0,exA b] i (BO b)):
 WX (fun σ=>σ.blk j=some [.gp i 0]) 143 ([]++[alA (.mk c vs b)]++[.gp j 0]) i (Rg (.mk c vs b)):=by
 intro σ0 σ s hH0 hb0 hlen
 have hjs:=hH0.1
 have hH:(fun _=>True) σ0∧σ0.gt TD=some VJ:=⟨trivial,hH0.2⟩
 have hvs:=qB i vs
 refine PQ (by simp) ?_
 show Run _ _ _ (Ak [_,_]) _ _
 rw [BH]
 rw [Rg,alT] at hlen ⊢
 generalize BO b=tb at hb hlen ⊢
 obtain ⟨o',n',u',ns',ks',al'⟩:=b
 simp only [exA,alA,Al.AS,Ex.AS,AB,AE] at hb ⊢
 (repeat' (first|refine ctQ rfl ?_|((first|refine rgQ mxQ ?_|refine cdQ ?_|(refine AD.mk rfl (A0 c hb0 (by (try simp only [AG,AA,AI] at hlen ⊢);omega)) ?_;rintro _ σ1 ⟨rfl,hb1⟩))<;>try simp -implicitDefEqProofs only [(hb0.le.blk j _ hjs),go_sem])|fail))
 try simp -implicitDefEqProofs only [(hb1.le.blk j _ hjs),go_sem]
 (repeat' (first|refine ctQ rfl ?_|((first|refine rgQ mxQ ?_|refine cdQ ?_|(refine AD.mk rfl (hvs σ0 σ1 _ hH hb1 (by (try simp only [AG,AA,AI] at hlen ⊢);omega)) ?_;rintro _ σ2 ⟨rfl,hb2⟩))<;>try simp -implicitDefEqProofs only [go_sem])|fail))
 try simp -implicitDefEqProofs only [(hb2.le.blk j _ hjs),go_sem]
 (repeat' (first|refine ctQ rfl ?_|((first|refine rgQ mxQ ?_|refine cdQ ?_|(refine AD.mk rfl (A0 [32,45,62,32] hb2 (by (try simp only [AG,AA,AI] at hlen ⊢);omega)) ?_;rintro _ σ3 ⟨rfl,hb3⟩))<;>try simp -implicitDefEqProofs only [go_sem])|fail))
 try simp -implicitDefEqProofs only [(hb3.le.blk j _ hjs),go_sem]
 (repeat' (first|refine ctQ rfl ?_|((first|refine rgQ mxQ ?_|refine cdQ ?_|(refine AD.mk rfl (hb σ0 σ3 _ hH hb3 (by (try simp only [AG,AA,AI] at hlen ⊢);omega)) ?_;rintro _ σ4 ⟨rfl,hb4⟩))<;>try simp -implicitDefEqProofs only [go_sem])|fail))
 try simp only [AY,Ae,A6] at hb4 ⊢
 exact Run.fin Iv rfl (fun _ _ h=>h) (AK.le_refl _) ⟨rfl,hb4⟩
def pB (o:Int):Prop:=o=7∨o=8∨o=9∨o=10∨o=11∨o=17
set_option maxHeartbeats 8000000 in
theorem zK {i:Nat} {o:Int} {n:Str} {u:Int} {ns:List Str} {ks:List Ex} {al:List Al} (hn:Iw o n u ns ks.length al=true) (ho:pB o)
 (hk:∀x∈ks,WC 139 [.gp i 0,exA x] i (BO x))
 (ha:∀x∈al,∀j,WX (fun σ=>σ.blk j=some [.gp i 0]) 143 ([]++[alA x]++[.gp j 0]) i (Rg x)):WC 89 [.gp i 0,exA (.mk o n u ns ks al)] i (BO (.mk o n u ns ks al)):=by
 intro σ0 σ s hH hbu hlen
 have hvs:=qB i ns
 have hbn:=iC i n
 simp only [Iw,AR] at hn
 obtain ⟨⟨⟨⟨hnm,hnu⟩,hns⟩,has⟩,hnk⟩:=hn
 refine Ro (by simp) ?_
 rw [BH]
 simp only [exA,Ex.AS,AB,AE]
 rw [BO,PD,dZ] at hlen ⊢
 (repeat' (first|refine ctQ rfl ?_|((first|refine rgQ mxQ ?_|refine cdQ ?_)<;>try simp -implicitDefEqProofs only [go_sem])|fail))
 intro j hj
 have hun:∀s' σ',BuS (σ0.AH j [.gp i 0]) i s' σ'→BuS σ0 i s' σ':=fun s' σ' h=>hbu.qA hj h
 have hjs:(σ0.AH j [.gp i 0]).blk j=some [.gp i 0]:=by simp [AZ]
 have hH:(fun _=>True) (σ0.AH j [.gp i 0])∧(σ0.AH j [.gp i 0]).gt TD=some VJ:=⟨trivial,hH.2⟩
 have hb0:=hbu.share (cs:=[.gp i 0]) hj
 generalize σ.AH j [.gp i 0]=τ at hb0 ⊢
 generalize σ0.AH j [.gp i 0]=τ0 at hun hjs hH hb0
 have hHj:(fun σ=>σ.blk j=some [.gp i 0]) τ0∧τ0.gt TD=some VJ:=⟨hjs,hH.2⟩
 rcases ho with rfl|rfl|rfl|rfl|rfl|rfl
 · obtain ⟨a,b,rfl⟩:=zG (by simpa [nkB] using hnk)
   have hka:=hk a (by simp)
   have hkb:=hk b (by simp)
   have hp:=Zy [32,61,32] [32,105,110,32] [] hka hkb
   have e:QH 7 n u ns [a,b] ([a,b].map BO) (al.map Rg)=[108,101,116,32]++(shown n++([32,61,32]++(BO a++([32,105,110,32]++(BO b++[]))))):=by show _=_;rw [Ap];rfl
   rw [e] at hlen ⊢
   clear e
   generalize BO a=ta at *
   obtain ⟨oa,na,ua,nsa,ksa,ala⟩:=a
   generalize BO b=tb at *
   obtain ⟨ob,nb,ub,nsb,ksb,alb⟩:=b
   simp only [exA,Ex.AS,AB,AE] at hka hkb hp ⊢
   (repeat' (first|refine ctQ rfl ?_|((first|refine rgQ mxQ ?_|refine cdQ ?_|(refine AD.mk rfl (A0 [108,101,116,32] hb0 (by (try simp only [AG,AA,AI] at hlen ⊢);omega)) ?_;rintro _ σ1 ⟨rfl,hb1⟩))<;>try simp -implicitDefEqProofs only [(hb0.le.blk j _ hjs),go_sem])|fail))
   try simp -implicitDefEqProofs only [(hb1.le.blk j _ hjs),go_sem]
   (repeat' (first|refine ctQ rfl ?_|((first|refine rgQ mxQ ?_|refine cdQ ?_|(refine AD.mk rfl (hbn τ0 σ1 _ hH hb1 (by (try simp only [AG,AA,AI] at hlen ⊢);omega)) ?_;rintro _ σ2 ⟨rfl,hb2⟩))<;>try simp -implicitDefEqProofs only [go_sem])|fail))
   try simp -implicitDefEqProofs only [(hb2.le.blk j _ hjs),go_sem]
   (repeat' (first|refine ctQ rfl ?_|((first|refine rgQ mxQ ?_|refine cdQ ?_|(refine AD.mk rfl (hp τ0 σ2 _ hH hb2 (by (try simp only [AG,AA,AI] at hlen ⊢);omega)) ?_;rintro _ σ3 ⟨rfl,hb3⟩))<;>try simp -implicitDefEqProofs only [go_sem])|fail))
   try simp only [AY,Ae,A6,Ap] at hb3 ⊢
   exact Run.fin CQ rfl (fun _ _ h=>h) (AK.le_refl _) ⟨rfl,hun _ _ hb3⟩
 · obtain ⟨a,b,rfl⟩:=zG (by simpa [nkB] using hnk)
   have hka:=hk a (by simp)
   have hkb:=hk b (by simp)
   have hp:=Zy [32,61,32] [32,105,110,32] [] hka hkb
   have e:QH 8 n u ns [a,b] ([a,b].map BO) (al.map Rg)=[108,101,116,32]++(Lb (ns.map shown)++([32,61,32]++(BO a++([32,105,110,32]++(BO b++[]))))):=by show _=_;rw [Ap];rfl
   rw [e] at hlen ⊢
   clear e
   generalize BO a=ta at *
   obtain ⟨oa,na,ua,nsa,ksa,ala⟩:=a
   generalize BO b=tb at *
   obtain ⟨ob,nb,ub,nsb,ksb,alb⟩:=b
   simp only [exA,Ex.AS,AB,AE] at hka hkb hp ⊢
   (repeat' (first|refine ctQ rfl ?_|((first|refine rgQ mxQ ?_|refine cdQ ?_|(refine AD.mk rfl (A0 [108,101,116,32] hb0 (by (try simp only [AG,AA,AI] at hlen ⊢);omega)) ?_;rintro _ σ1 ⟨rfl,hb1⟩))<;>try simp -implicitDefEqProofs only [As,(hb0.le.blk j _ hjs),go_sem])|fail))
   try simp -implicitDefEqProofs only [(hb1.le.blk j _ hjs),go_sem]
   (repeat' (first|refine ctQ rfl ?_|((first|refine rgQ mxQ ?_|refine cdQ ?_|(refine AD.mk rfl (hvs τ0 σ1 _ hH hb1 (by (try simp only [AG,AA,AI] at hlen ⊢);omega)) ?_;rintro _ σ2 ⟨rfl,hb2⟩))<;>try simp -implicitDefEqProofs only [go_sem])|fail))
   try simp -implicitDefEqProofs only [(hb2.le.blk j _ hjs),go_sem]
   (repeat' (first|refine ctQ rfl ?_|((first|refine rgQ mxQ ?_|refine cdQ ?_|(refine AD.mk rfl (hp τ0 σ2 _ hH hb2 (by (try simp only [AG,AA,AI] at hlen ⊢);omega)) ?_;rintro _ σ3 ⟨rfl,hb3⟩))<;>try simp -implicitDefEqProofs only [go_sem])|fail))
   try simp only [AY,Ae,A6,Ap] at hb3 ⊢
   exact Run.fin CQ rfl (fun _ _ h=>h) (AK.le_refl _) ⟨rfl,hun _ _ hb3⟩
 · obtain ⟨a,b,c,rfl⟩:=vH (by simpa [nkB] using hnk)
   have hka:=hk a (by simp)
   have hkb:=hk b (by simp)
   have hkc:=hk c (by simp)
   have hp:=Zy [105,102,32] [32,116,104,101,110,32] [32,101,108,115,101,32] hka hkb
   have e:QH 9 n u ns [a,b,c] ([a,b,c].map BO) (al.map Rg)=([105,102,32]++(BO a++([32,116,104,101,110,32]++(BO b++[32,101,108,115,101,32]))))++BO c:=by show [105,102,32]++(BO a++([32,116,104,101,110,32]++(BO b++([32,101,108,115,101,32]++BO c))))=_;simp only [AY,Ae,A6]
   rw [e] at hlen ⊢
   clear e
   generalize BO a=ta at *
   obtain ⟨oa,na,ua,nsa,ksa,ala⟩:=a
   generalize BO b=tb at *
   obtain ⟨ob,nb,ub,nsb,ksb,alb⟩:=b
   generalize BO c=tc at *
   obtain ⟨oc,nc,uc,nsc,ksc,alc⟩:=c
   simp only [exA,Ex.AS,AB,AE] at hka hkb hkc hp ⊢
   (repeat' (first|refine ctQ rfl ?_|((first|refine rgQ mxQ ?_|refine cdQ ?_|(refine AD.mk rfl (hp τ0 τ _ hH hb0 (by (try simp only [AG,AA,AI] at hlen ⊢);omega)) ?_;rintro _ σ1 ⟨rfl,hb1⟩))<;>try simp -implicitDefEqProofs only [As,(hb0.le.blk j _ hjs),go_sem])|fail))
   try simp -implicitDefEqProofs only [(hb1.le.blk j _ hjs),go_sem]
   (repeat' (first|refine ctQ rfl ?_|((first|refine rgQ mxQ ?_|refine cdQ ?_|(refine AD.mk rfl (hkc τ0 σ1 _ hH hb1 (by (try simp only [AG,AA,AI] at hlen ⊢);omega)) ?_;rintro _ σ2 ⟨rfl,hb2⟩))<;>try simp -implicitDefEqProofs only [go_sem])|fail))
   try simp only [AY,Ae,A6] at hb2 ⊢
   exact Run.fin CQ rfl (fun _ _ h=>h) (AK.le_refl _) ⟨rfl,hun _ _ hb2⟩
 · obtain ⟨a,rfl⟩:=AC4 (by simpa [nkB] using hnk)
   have hka:=hk a (by simp)
   have hsep:=TQ (H:=fun σ=>σ.blk j=some [.gp i 0]) i (first:=[]) (caps:=[.gp j 0]) zJ ⟨rfl,rfl⟩ [32,124,32] Rg al (fun x hx=>ha x hx j)
   have e:QH 10 n u ns [a] ([a].map BO) (al.map Rg)=[109,97,116,99,104,32]++(BO a++([32,119,105,116,104,32]++(Lib.join (al.map Rg) [32,124,32]++[32,101,110,100]))):=rfl
   rw [e] at hlen ⊢
   clear e
   generalize BO a=ta at *
   obtain ⟨oa,na,ua,nsa,ksa,ala⟩:=a
   simp only [exA,Ex.AS,AB,AE] at hka ⊢
   (repeat' (first|refine ctQ rfl ?_|((first|refine rgQ mxQ ?_|refine cdQ ?_|(refine AD.mk rfl (A0 [109,97,116,99,104,32] hb0 (by (try simp only [AG,AA,AI] at hlen ⊢);omega)) ?_;rintro _ σ1 ⟨rfl,hb1⟩))<;>try simp -implicitDefEqProofs only [As,(hb0.le.blk j _ hjs),go_sem])|fail))
   try simp -implicitDefEqProofs only [(hb1.le.blk j _ hjs),go_sem]
   (repeat' (first|refine ctQ rfl ?_|((first|refine rgQ mxQ ?_|refine cdQ ?_|(refine AD.mk rfl (hka τ0 σ1 _ hH hb1 (by (try simp only [AG,AA,AI] at hlen ⊢);omega)) ?_;rintro _ σ2 ⟨rfl,hb2⟩))<;>try simp -implicitDefEqProofs only [go_sem])|fail))
   try simp -implicitDefEqProofs only [(hb2.le.blk j _ hjs),go_sem]
   (repeat' (first|refine ctQ rfl ?_|((first|refine rgQ mxQ ?_|refine cdQ ?_|(refine AD.mk rfl (A0 [32,119,105,116,104,32] hb2 (by (try simp only [AG,AA,AI] at hlen ⊢);omega)) ?_;rintro _ σ3 ⟨rfl,hb3⟩))<;>try simp -implicitDefEqProofs only [go_sem])|fail))
   try simp -implicitDefEqProofs only [(hb3.le.blk j _ hjs),go_sem]
   (repeat' (first|refine ctQ rfl ?_|((first|refine rgQ mxQ ?_|refine cdQ ?_|(refine AD.mk rfl (hsep τ0 σ3 _ hHj hb3 (by (try simp only [AG,AA,AI] at hlen ⊢);omega)) ?_;rintro _ σ4 ⟨rfl,hb4⟩))<;>try simp -implicitDefEqProofs only [go_sem])|fail))
   try simp -implicitDefEqProofs only [(hb4.le.blk j _ hjs),go_sem]
   (repeat' (first|refine ctQ rfl ?_|((first|refine rgQ mxQ ?_|refine cdQ ?_|(refine AD.mk rfl (A0 [32,101,110,100] hb4 (by (try simp only [AG,AA,AI] at hlen ⊢);omega)) ?_;rintro _ σ5 ⟨rfl,hb5⟩))<;>try simp -implicitDefEqProofs only [go_sem])|fail))
   try simp only [AY,Ae,A6] at hb5 ⊢
   exact Run.fin CQ rfl (fun _ _ h=>h) (AK.le_refl _) ⟨rfl,hun _ _ hb5⟩
 · obtain ⟨a,rfl⟩:=AC4 (by simpa [nkB] using hnk)
   have hka:=hk a (by simp)
   have e:QH 11 n u ns [a] ([a].map BO) (al.map Rg)=[102,110,40]++(Lib.join ns [44,32]++([41,32,45,62,32]++BO a)):=by show [102,110]++(L9 ns++([32,45,62,32]++BO a))=_;simp [L9,Lc,cms]
   rw [e] at hlen ⊢
   clear e
   generalize BO a=ta at *
   obtain ⟨oa,na,ua,nsa,ksa,ala⟩:=a
   simp only [exA,Ex.AS,AB,AE] at hka ⊢
   simp [nsB] at hns
   have hlen2:=hlen
   simp only [AG,AA,AI] at hlen2
   have hjn:=oI ns [44,32] τ (by omega) (by omega)
   have ha1:=Ha (a:=[102,110,40]) (b:=Lib.join ns [44,32]) (by simp only [AG,AI];omega)
   have ha2:=Ha (a:=[102,110,40]++Lib.join ns [44,32]) (b:=[41,32,45,62,32]) (by simp only [AA,AG,AI];omega)
   simp only [Ae,A6] at ha1 ha2
   (repeat' (first|refine ctQ rfl ?_|((first|refine rgQ mxQ ?_|refine cdQ ?_)<;>try simp -implicitDefEqProofs only [As,go_sem])|fail))
   refine Run.Q8 mixed ?_
   simp -implicitDefEqProofs only [(hb0.le.blk j _ hjs),go_sem]
   refine ⟨?_,?_⟩
   all_goals (repeat' (first|refine ctQ rfl ?_|((first|refine rgQ mxQ ?_|refine cdQ ?_|(refine AD.mk rfl (A0 _ hb0 (by (try simp only [AG,AA,AI] at hlen ⊢);omega)) ?_;rintro _ σ1 ⟨rfl,hb1⟩)|refine AD.det (hjn) ?_)<;>try simp -implicitDefEqProofs only [ha1,ha2,(hb0.le.blk j _ hjs),go_sem])|fail))
   all_goals try simp -implicitDefEqProofs only [(hb1.le.blk j _ hjs),go_sem]
   all_goals (repeat' (first|refine ctQ rfl ?_|((first|refine rgQ mxQ ?_|refine cdQ ?_|(refine AD.mk rfl (hka τ0 σ1 _ hH hb1 (by (try simp only [AG,AA,AI] at hlen ⊢);omega)) ?_;rintro _ σ2 ⟨rfl,hb2⟩))<;>try simp -implicitDefEqProofs only [go_sem])|fail))
   all_goals try simp only [AY,Ae,A6] at hb2 ⊢
   all_goals exact Run.fin CQ rfl (fun _ _ h=>h) (AK.le_refl _) ⟨rfl,hun _ _ hb2⟩
 · obtain ⟨a,b,rfl⟩:=zG (by simpa [nkB] using hnk)
   have hka:=hk a (by simp)
   have hkb:=hk b (by simp)
   have e:QH 17 n u ns [a,b] ([a,b].map BO) (al.map Rg)=[116,114,121,32]++(BO a++([32,99,97,116,99,104,32]++(shown n++([32,45,62,32]++(BO b++[32,101,110,100]))))):=rfl
   rw [e] at hlen ⊢
   clear e
   generalize BO a=ta at *
   obtain ⟨oa,na,ua,nsa,ksa,ala⟩:=a
   generalize BO b=tb at *
   obtain ⟨ob,nb,ub,nsb,ksb,alb⟩:=b
   simp only [exA,Ex.AS,AB,AE] at hka hkb ⊢
   (repeat' (first|refine ctQ rfl ?_|((first|refine rgQ mxQ ?_|refine cdQ ?_|(refine AD.mk rfl (A0 [116,114,121,32] hb0 (by (try simp only [AG,AA,AI] at hlen ⊢);omega)) ?_;rintro _ σ1 ⟨rfl,hb1⟩))<;>try simp -implicitDefEqProofs only [As,(hb0.le.blk j _ hjs),go_sem])|fail))
   try simp -implicitDefEqProofs only [(hb1.le.blk j _ hjs),go_sem]
   (repeat' (first|refine ctQ rfl ?_|((first|refine rgQ mxQ ?_|refine cdQ ?_|(refine AD.mk rfl (hka τ0 σ1 _ hH hb1 (by (try simp only [AG,AA,AI] at hlen ⊢);omega)) ?_;rintro _ σ2 ⟨rfl,hb2⟩))<;>try simp -implicitDefEqProofs only [go_sem])|fail))
   try simp -implicitDefEqProofs only [(hb2.le.blk j _ hjs),go_sem]
   (repeat' (first|refine ctQ rfl ?_|((first|refine rgQ mxQ ?_|refine cdQ ?_|(refine AD.mk rfl (A0 [32,99,97,116,99,104,32] hb2 (by (try simp only [AG,AA,AI] at hlen ⊢);omega)) ?_;rintro _ σ3 ⟨rfl,hb3⟩))<;>try simp -implicitDefEqProofs only [go_sem])|fail))
   try simp -implicitDefEqProofs only [(hb3.le.blk j _ hjs),go_sem]
   (repeat' (first|refine ctQ rfl ?_|((first|refine rgQ mxQ ?_|refine cdQ ?_|(refine AD.mk rfl (hbn τ0 σ3 _ hH hb3 (by (try simp only [AG,AA,AI] at hlen ⊢);omega)) ?_;rintro _ σ4 ⟨rfl,hb4⟩))<;>try simp -implicitDefEqProofs only [go_sem])|fail))
   try simp -implicitDefEqProofs only [(hb4.le.blk j _ hjs),go_sem]
   (repeat' (first|refine ctQ rfl ?_|((first|refine rgQ mxQ ?_|refine cdQ ?_|(refine AD.mk rfl (A0 [32,45,62,32] hb4 (by (try simp only [AG,AA,AI] at hlen ⊢);omega)) ?_;rintro _ σ5 ⟨rfl,hb5⟩))<;>try simp -implicitDefEqProofs only [go_sem])|fail))
   try simp -implicitDefEqProofs only [(hb5.le.blk j _ hjs),go_sem]
   (repeat' (first|refine ctQ rfl ?_|((first|refine rgQ mxQ ?_|refine cdQ ?_|(refine AD.mk rfl (hkb τ0 σ5 _ hH hb5 (by (try simp only [AG,AA,AI] at hlen ⊢);omega)) ?_;rintro _ σ6 ⟨rfl,hb6⟩))<;>try simp -implicitDefEqProofs only [go_sem])|fail))
   try simp -implicitDefEqProofs only [(hb6.le.blk j _ hjs),go_sem]
   (repeat' (first|refine ctQ rfl ?_|((first|refine rgQ mxQ ?_|refine cdQ ?_|(refine AD.mk rfl (A0 [32,101,110,100] hb6 (by (try simp only [AG,AA,AI] at hlen ⊢);omega)) ?_;rintro _ σ7 ⟨rfl,hb7⟩))<;>try simp -implicitDefEqProofs only [go_sem])|fail))
   try simp only [AY,Ae,A6] at hb7 ⊢
   exact Run.fin CQ rfl (fun _ _ h=>h) (AK.le_refl _) ⟨rfl,hun _ _ hb7⟩
end Go.Ab
