/- The printer: levels, places, truth values; open, parenthesized, list, parts. The printer: primary expressions, long ones. The printer: long expressions. Conditions: none. -/
import Derived.Test.YtifplkldbbcldaaGreatDoorXCdQe
set_option linter.unusedSimpArgs false
set_option linter.unusedVariables false
set_option maxRecDepth 4000
set_option maxHeartbeats 8000000
open List renaming map_cons→AF,map_nil→AI,length_cons→AE,length_append→AA,length_nil→AH,append_assoc→AT,cons_append→A0,nil_append→A3,append_nil→AZ
open Int renaming reduceBEq→A4
open Bool renaming and_eq_true→AN,false_eq_true→AU
namespace Go.Ab
open Go.Proofs
theorem Px (b:Bool) (σ:AM):AR Tryz.prog 176 [.d (.bool b)] σ (fun v σ'=>v= .d (.str (if b then [116,114,117,101] else [102,97,108,115,101]))∧σ'=σ):=by
 refine LD (by simp) ?_
 rw [BC]
 cases b
 all_goals (repeat' (first|refine Run.ct rfl ?_|((first|refine Run.reg mixed ?_|refine Run.AJ ?_|refine Run.Aa Fv (AM.le_refl _) ?_|(refine AP rfl (fun h=>?_) (fun h=>?_)<;>try (cases h;done)))<;>try simp -implicitDefEqProofs only [go_sem])|(refine ⟨fun h=>?_,fun h=>?_⟩<;>first|(cases h;done)|try simp only [h])|fail))
 all_goals rfl
theorem TS (b:Bool) (σ:AM):AR Tryz.prog 145 [.d (.bool b)] σ (fun v σ'=>v= .d (.str (if b then [116,114,117,101] else [102,97,108,115,101]))∧σ'=σ):=by
 refine Rk (by simp) ?_
 rw [BC]
 (repeat' (first|refine Run.ct rfl ?_|((first|refine Run.reg mixed ?_|refine Run.AJ ?_|refine Run.Aa Kv (AM.le_refl _) ?_|refine AG.det (Px b _) ?_|(refine AP rfl (fun h=>?_) (fun h=>?_)<;>try (cases h;done)))<;>try simp -implicitDefEqProofs only [go_sem])|(refine ⟨fun h=>?_,fun h=>?_⟩<;>first|(cases h;done)|try simp only [h])|fail))
theorem eY (e:Ex) (σ:AM):AR Tryz.prog 87 [exA e] σ (fun v σ'=>v= .d (.int .i64 ((lvl e:Nat):Int))∧σ'=σ):=by
 refine YD (by simp) ?_
 rw [BC]
 obtain ⟨o,n,u,ns,ks,al⟩:=e
 simp only [exA,Ex.A1,AF,AI,lvl]
 by_cases h0:o=7∨o=8∨o=9∨o=10∨o=11∨o=17
 · rw [if_pos h0]
   rcases h0 with rfl|rfl|rfl|rfl|rfl|rfl
   all_goals (repeat' (first|refine Run.ct rfl ?_|((first|refine Run.reg mixed ?_|refine Run.AJ ?_|refine Run.Aa HC (AM.le_refl _) ?_|(refine AP rfl (fun h=>?_) (fun h=>?_)<;>try (cases h;done)))<;>try simp -implicitDefEqProofs only [A4,go_sem])|(refine ⟨fun h=>?_,fun h=>?_⟩<;>first|(cases h;done)|try simp only [h])|fail))
   all_goals rfl
 · rw [if_neg h0]
   simp only [not_or] at h0
   obtain ⟨h1,h2,h3,h4,h5,h6⟩:=h0
   by_cases h13:o=13
   · subst h13
     rw [if_pos rfl]
     (repeat' (first|refine Run.ct rfl ?_|((first|refine Run.reg mixed ?_|refine Run.AJ ?_|refine Run.Aa HC (AM.le_refl _) ?_|refine AG.det (KL u _) ?_|(refine AP rfl (fun h=>?_) (fun h=>?_)<;>try (cases h;done)))<;>try simp -implicitDefEqProofs only [A4,go_sem])|(refine ⟨fun h=>?_,fun h=>?_⟩<;>first|(cases h;done)|try simp only [h])|fail))
   · rw [if_neg h13]
     by_cases h12:o=12
     · subst h12
       rw [if_pos rfl]
       (repeat' (first|refine Run.ct rfl ?_|((first|refine Run.reg mixed ?_|refine Run.AJ ?_|refine Run.Aa HC (AM.le_refl _) ?_|(refine AP rfl (fun h=>?_) (fun h=>?_)<;>try (cases h;done)))<;>try simp -implicitDefEqProofs only [A4,go_sem])|(refine ⟨fun h=>?_,fun h=>?_⟩<;>first|(cases h;done)|try simp only [h])|fail))
       all_goals rfl
     · rw [if_neg h12]
       (repeat' (first|refine Run.ct rfl ?_|((first|refine Run.reg mixed ?_|refine Run.AJ ?_|refine Run.Aa HC (AM.le_refl _) ?_|(refine AP rfl (fun h=>?_) (fun h=>?_)<;>try (cases h;done)))<;>try simp -implicitDefEqProofs only [C4 h1,C4 h2,C4 h3,C4 h4,C4 h5,C4 h6,C4 h12,C4 h13,go_sem])|(refine ⟨fun h=>?_,fun h=>?_⟩<;>first|(cases h;done)|try simp only [h])|fail))
       all_goals rfl
def plL (u:Int):Nat:=if Eb u=1 then 2 else Eb u
def plR (u:Int):Nat:=if Eb u=1 then 2 else Eb u+1
theorem Vk (u:Int) (σ:AM):AR Tryz.prog 90 [.d (.int .i64 u)] σ (fun v σ'=>v= .tup [.d (.int .i64 ((plL u:Nat):Int)),.d (.int .i64 ((plR u:Nat):Int))]∧σ'=σ):=by
 refine Pp (by simp) ?_
 rw [BC]
 have hc:=KL u σ
 have h3:Eb u=1∨Eb u=2∨Eb u=3:=by unfold Eb;split;exact .inr (.inl rfl);split;exact .inr (.inr rfl);exact .inl rfl
 unfold plL plR
 generalize Eb u=z at hc h3 ⊢
 rcases h3 with rfl|rfl|rfl
 all_goals (repeat' (first|refine Run.ct rfl ?_|((first|refine Run.reg mixed ?_|refine Run.AJ ?_|refine Run.Aa JJ (AM.le_refl _) ?_|refine AG.det (hc) ?_|(refine AP rfl (fun h=>?_) (fun h=>?_)<;>try (cases h;done)))<;>try simp -implicitDefEqProofs only [A4,go_sem])|(refine ⟨fun h=>?_,fun h=>?_⟩<;>first|(cases h;done)|try simp only [h])|fail))
 all_goals rfl
def EC (i:Nat) (e:Ex) (lev:Nat):Prop:=WC 45 [.gp i 0,exA e,.d (.int .i64 (lev:Int))] i (pl lev e (Az e))
theorem cP {i:Nat} {e:Ex} (h:EC i e 0):WC 139 [.gp i 0,exA e] i (Az e):=by
 intro σ0 σ s hH hbu hlen
 have hc:=h σ0 σ s hH hbu (by rw [pl,if_neg (by omega)];exact hlen)
 rw [pl,if_neg (by omega)] at hc
 refine Qs (by simp) ?_
 rw [BF]
 obtain ⟨o,n,u,ns,ks,al⟩:=e
 simp only [exA,Ex.A1,AF,AI] at hc ⊢
 (repeat' (first|refine Run.ct rfl ?_|((first|refine Run.reg mixed ?_|refine Run.AJ ?_|(refine AG.mk rfl hc ?_;rintro _ σ1 ⟨rfl,hb1⟩)|(refine AP rfl (fun h=>?_) (fun h=>?_)<;>try (cases h;done)))<;>try simp -implicitDefEqProofs only [go_sem])|(refine ⟨fun h=>?_,fun h=>?_⟩<;>first|(cases h;done)|try simp only [h])|fail))
 exact Run.fin Js rfl (fun _ _ h=>h) (AM.le_refl _) ⟨rfl,hb1⟩
theorem Ou {i:Nat} {e:Ex} (h:WC 139 [.gp i 0,exA e] i (Az e)):WC 88 [.gp i 0,exA e] i (JT (Az e)):=by
 intro σ0 σ s hH hbu hlen
 refine KG (by simp) ?_
 rw [BF]
 have e1:s++JT (Az e)=s++[40]++Az e++[41]:=by simp [JT]
 simp only [JT,AE,AA,AH] at hlen
 rw [e1]
 have hop:=fun σ1 hb1=>h σ0 σ1 (s++[40]) hH hb1 (by simp only [AE,AA,AH];omega)
 generalize Az e=x at hop hlen ⊢
 obtain ⟨o,n,u,ns,ks,al⟩:=e
 simp only [exA,Ex.A1,AF,AI] at hop ⊢
 (repeat' (first|refine Run.ct rfl ?_|((first|refine Run.reg mixed ?_|refine Run.AJ ?_|(refine AG.mk rfl (A5 [40] hbu (by simp only [AE,AH];omega)) ?_;rintro _ σ1 ⟨rfl,hb1⟩)|(refine AP rfl (fun h=>?_) (fun h=>?_)<;>try (cases h;done)))<;>try simp -implicitDefEqProofs only [go_sem])|(refine ⟨fun h=>?_,fun h=>?_⟩<;>first|(cases h;done)|try simp only [h])|fail))
 (repeat' (first|refine Run.ct rfl ?_|((first|refine Run.reg mixed ?_|refine Run.AJ ?_|(refine AG.mk rfl (hop σ1 hb1) ?_;rintro _ σ2 ⟨rfl,hb2⟩)|(refine AP rfl (fun h=>?_) (fun h=>?_)<;>try (cases h;done)))<;>try simp -implicitDefEqProofs only [go_sem])|(refine ⟨fun h=>?_,fun h=>?_⟩<;>first|(cases h;done)|try simp only [h])|fail))
 (repeat' (first|refine Run.ct rfl ?_|((first|refine Run.reg mixed ?_|refine Run.AJ ?_|(refine AG.mk rfl (A5 [41] hb2 (by simp only [AE,AA,AH];omega)) ?_;rintro _ σ3 ⟨rfl,hb3⟩)|(refine AP rfl (fun h=>?_) (fun h=>?_)<;>try (cases h;done)))<;>try simp -implicitDefEqProofs only [go_sem])|(refine ⟨fun h=>?_,fun h=>?_⟩<;>first|(cases h;done)|try simp only [h])|fail))
 exact Run.fin F8 rfl (fun _ _ h=>h) (AM.le_refl _) ⟨rfl,hb3⟩
theorem lM {i:Nat} {ks:List Ex} (h:∀e∈ks,WC 139 [.gp i 0,exA e] i (Az e)):WC 92 [.gp i 0,.d (.sl (ks.map Ex.enc))] i (Il (ks.map Az)):=by
 intro σ0 σ s hH hbu hlen
 refine Qq (by simp) ?_
 rw [BF]
 have hsep:=Jy (H:=fun _=>True) i (first:=[.gp i 0]) (caps:=[]) (by kernel_rfl:Ap Tryz.prog 139=true) ⟨rfl,rfl⟩ [44,32] Az ks h
 have e1:s++Il (ks.map Az)=s++[40]++Lib.join (ks.map Az) [44,32]++[41]:=by simp [Il,JT,cms]
 simp only [Il,JT,cms,AE,AA,AH] at hlen
 rw [e1]
 (repeat' (first|refine Run.ct rfl ?_|((first|refine Run.reg mixed ?_|refine Run.AJ ?_|(refine AG.mk rfl (A5 [40] hbu (by simp only [AE,AH];omega)) ?_;rintro _ σ1 ⟨rfl,hb1⟩)|(refine AP rfl (fun h=>?_) (fun h=>?_)<;>try (cases h;done)))<;>try simp -implicitDefEqProofs only [go_sem])|(refine ⟨fun h=>?_,fun h=>?_⟩<;>first|(cases h;done)|try simp only [h])|fail))
 (repeat' (first|refine Run.ct rfl ?_|((first|refine Run.reg mixed ?_|refine Run.AJ ?_|(refine AG.mk rfl (hsep σ0 σ1 _ hH hb1 (by simp only [AE,AA,AH];omega)) ?_;rintro _ σ2 ⟨rfl,hb2⟩)|(refine AP rfl (fun h=>?_) (fun h=>?_)<;>try (cases h;done)))<;>try simp -implicitDefEqProofs only [go_sem])|(refine ⟨fun h=>?_,fun h=>?_⟩<;>first|(cases h;done)|try simp only [h])|fail))
 (repeat' (first|refine Run.ct rfl ?_|((first|refine Run.reg mixed ?_|refine Run.AJ ?_|(refine AG.mk rfl (A5 [41] hb2 (by simp only [AE,AA,AH];omega)) ?_;rintro _ σ3 ⟨rfl,hb3⟩)|(refine AP rfl (fun h=>?_) (fun h=>?_)<;>try (cases h;done)))<;>try simp -implicitDefEqProofs only [go_sem])|(refine ⟨fun h=>?_,fun h=>?_⟩<;>first|(cases h;done)|try simp only [h])|fail))
 exact Run.fin Jr rfl (fun _ _ h=>h) (AM.le_refl _) ⟨rfl,hb3⟩
theorem yU (a b c d e f:AV):An [a,b,c,d,e,f]=put 0 a (put 1 b (put 2 c (put 3 d (put 4 e (put 5 f U))))):=by
 funext s;simp only [An,put,U]
 match s with|0=>rfl|1=>rfl|2=>rfl|3=>rfl|4=>rfl|5=>rfl|n+6=>simp
theorem YU {i:Nat} (x y z:Str) {a b:Ex} (ha:WC 139 [.gp i 0,exA a] i (Az a)) (hb:WC 139 [.gp i 0,exA b] i (Az b)):
 WC 141 [.gp i 0,.d (.str x),exA a,.d (.str y),exA b,.d (.str z)] i (x++(Az a++(y++(Az b++z)))):=by
 intro σ0 σ s hH hbu hlen
 refine Pv (by simp) ?_
 rw [yU]
 simp only [AA] at hlen
 have e1:s++(x++(Az a++(y++(Az b++z))))=s++x++Az a++y++Az b++z:=by simp only [AT]
 rw [e1]
 have ha:=fun σ1 hb1=>ha σ0 σ1 (s++x) hH hb1 (by simp only [AA];omega)
 have hb:=fun σ1 hb1=>hb σ0 σ1 (s++x++Az a++y) hH hb1 (by simp only [AA];omega)
 generalize Az a=ta at ha hb hlen ⊢
 generalize Az b=tb at hb hlen ⊢
 obtain ⟨o,n,u,ns,ks,al⟩:=a
 obtain ⟨o',n',u',ns',ks',al'⟩:=b
 simp only [exA,Ex.A1,AF,AI] at ha hb ⊢
 (repeat' (first|refine Run.ct rfl ?_|((first|refine Run.reg mixed ?_|refine Run.AJ ?_|(refine AG.mk rfl (A5 x hbu (by omega)) ?_;rintro _ σ1 ⟨rfl,hb1⟩)|(refine AP rfl (fun h=>?_) (fun h=>?_)<;>try (cases h;done)))<;>try simp -implicitDefEqProofs only [go_sem])|(refine ⟨fun h=>?_,fun h=>?_⟩<;>first|(cases h;done)|try simp only [h])|fail))
 (repeat' (first|refine Run.ct rfl ?_|((first|refine Run.reg mixed ?_|refine Run.AJ ?_|(refine AG.mk rfl (ha σ1 hb1) ?_;rintro _ σ2 ⟨rfl,hb2⟩)|(refine AP rfl (fun h=>?_) (fun h=>?_)<;>try (cases h;done)))<;>try simp -implicitDefEqProofs only [go_sem])|(refine ⟨fun h=>?_,fun h=>?_⟩<;>first|(cases h;done)|try simp only [h])|fail))
 (repeat' (first|refine Run.ct rfl ?_|((first|refine Run.reg mixed ?_|refine Run.AJ ?_|(refine AG.mk rfl (A5 y hb2 (by simp only [AA];omega)) ?_;rintro _ σ3 ⟨rfl,hb3⟩)|(refine AP rfl (fun h=>?_) (fun h=>?_)<;>try (cases h;done)))<;>try simp -implicitDefEqProofs only [go_sem])|(refine ⟨fun h=>?_,fun h=>?_⟩<;>first|(cases h;done)|try simp only [h])|fail))
 (repeat' (first|refine Run.ct rfl ?_|((first|refine Run.reg mixed ?_|refine Run.AJ ?_|(refine AG.mk rfl (hb σ3 hb3) ?_;rintro _ σ4 ⟨rfl,hb4⟩)|(refine AP rfl (fun h=>?_) (fun h=>?_)<;>try (cases h;done)))<;>try simp -implicitDefEqProofs only [go_sem])|(refine ⟨fun h=>?_,fun h=>?_⟩<;>first|(cases h;done)|try simp only [h])|fail))
 (repeat' (first|refine Run.ct rfl ?_|((first|refine Run.reg mixed ?_|refine Run.AJ ?_|(refine AG.mk rfl (A5 z hb4 (by simp only [AA];omega)) ?_;rintro _ σ5 ⟨rfl,hb5⟩)|(refine AP rfl (fun h=>?_) (fun h=>?_)<;>try (cases h;done)))<;>try simp -implicitDefEqProofs only [go_sem])|(refine ⟨fun h=>?_,fun h=>?_⟩<;>first|(cases h;done)|try simp only [h])|fail))
 exact Run.fin JM rfl (fun _ _ h=>h) (AM.le_refl _) ⟨rfl,hb5⟩
end Go.Ab
namespace Go.Ab
open Go.Proofs
def sR (o:Int):Prop:=o=1∨o=2∨o=3∨o=4∨o=5∨o=6∨o=14∨o=15∨o=16
set_option maxHeartbeats 4000000 in
theorem sT {i:Nat} {o:Int} {n:Str} {u:Int} {ns:List Str} {ks:List Ex} {al:List Al} (hn:GU o n u ns ks.length al=true) (ho:sR o)
 (hk:∀x∈ks,WC 139 [.gp i 0,exA x] i (Az x)):WC 93 [.gp i 0,exA (.mk o n u ns ks al)] i (Az (.mk o n u ns ks al)):=by
 intro σ0 σ0' s hH hb0 hlen
 have hli:=lM hk
 have hop:=SI (H:=fun _=>True) i (first:=[.gp i 0]) (caps:=[]) (by kernel_rfl:Ap Tryz.prog 139=true) ⟨rfl,rfl⟩ Az ks hk
 have hpow:σ0'.gt SM=some UO:=by rw [← hb0.le.gt];exact hH.2
 simp only [GU,AN] at hn
 obtain ⟨⟨⟨⟨hnm,hnu⟩,hns⟩,has⟩,hnk⟩:=hn
 refine Qt (by simp) ?_
 rw [BF]
 simp only [exA,Ex.A1,AF,AI]
 rw [Az,M6] at hlen ⊢
 rcases ho with rfl|rfl|rfl|rfl|rfl|rfl|rfl|rfl|rfl
 · have e:Pb 1 n u ns ks (ks.map Az) (Jm al)=[40,41]:=rfl
   rw [e] at hlen ⊢
   (repeat' (first|refine Run.ct rfl ?_|((first|refine Run.reg mixed ?_|refine Run.AJ ?_|(refine AG.mk rfl (A5 [40,41] hb0 (by (try simp only [AE,AA,AH] at hlen ⊢);omega)) ?_;rintro _ σ1 ⟨rfl,hb1⟩)|(refine AP rfl (fun h=>?_) (fun h=>?_)<;>try (cases h;done)))<;>try simp -implicitDefEqProofs only [A4,go_sem])|(refine ⟨fun h=>?_,fun h=>?_⟩<;>first|(cases h;done)|try simp only [h])|fail))
   try simp only [AT,A0,A3,AZ] at hb1 ⊢
   exact Run.fin BN rfl (fun _ _ h=>h) (AM.le_refl _) ⟨rfl,hb1⟩
 · by_cases hu:u=1
   · subst hu
     have e:Pb 2 n 1 ns ks (ks.map Az) (Jm al)=[116,114,117,101]:=rfl
     rw [e] at hlen ⊢
     have hfb:=TS true σ0'
     simp only [if_true] at hfb
     (repeat' (first|refine Run.ct rfl ?_|((first|refine Run.reg mixed ?_|refine Run.AJ ?_|(refine AG.mk rfl (A5 [116,114,117,101] hb0 hlen) ?_;rintro _ σ1 ⟨rfl,hb1⟩)|refine AG.det (hfb) ?_|(refine AP rfl (fun h=>?_) (fun h=>?_)<;>try (cases h;done)))<;>try simp -implicitDefEqProofs only [A4,go_sem])|(refine ⟨fun h=>?_,fun h=>?_⟩<;>first|(cases h;done)|try simp only [h])|fail))
     try simp only [AT,A0,A3,AZ] at hb1 ⊢
     exact Run.fin BN rfl (fun _ _ h=>h) (AM.le_refl _) ⟨rfl,hb1⟩
   · have e:Pb 2 n u ns ks (ks.map Az) (Jm al)=[102,97,108,115,101]:=by show (if u=1 then _ else _)=_;rw [if_neg hu]
     rw [e] at hlen ⊢
     have hfb:=TS false σ0'
     simp only [AU,if_false] at hfb
     (repeat' (first|refine Run.ct rfl ?_|((first|refine Run.reg mixed ?_|refine Run.AJ ?_|(refine AG.mk rfl (A5 [102,97,108,115,101] hb0 hlen) ?_;rintro _ σ1 ⟨rfl,hb1⟩)|refine AG.det (hfb) ?_|(refine AP rfl (fun h=>?_) (fun h=>?_)<;>try (cases h;done)))<;>try simp -implicitDefEqProofs only [A4,C4 hu,go_sem])|(refine ⟨fun h=>?_,fun h=>?_⟩<;>first|(cases h;done)|try simp only [h])|fail))
     try simp only [AT,A0,A3,AZ] at hb1 ⊢
     exact Run.fin BN rfl (fun _ _ h=>h) (AM.le_refl _) ⟨rfl,hb1⟩
 · have e:Pb 3 n u ns ks (ks.map Az) (Jm al)=Lib.itoa u:=rfl
   rw [e] at hlen ⊢
   have hfi:=LP u σ0' hpow
   (repeat' (first|refine Run.ct rfl ?_|((first|refine Run.reg mixed ?_|refine Run.AJ ?_|(refine AG.mk rfl (A5 (Lib.itoa u) hb0 hlen) ?_;rintro _ σ1 ⟨rfl,hb1⟩)|refine AG.det (hfi) ?_|(refine AP rfl (fun h=>?_) (fun h=>?_)<;>try (cases h;done)))<;>try simp -implicitDefEqProofs only [A4,go_sem])|(refine ⟨fun h=>?_,fun h=>?_⟩<;>first|(cases h;done)|try simp only [h])|fail))
   try simp only [AT,A0,A3,AZ] at hb1 ⊢
   exact Run.fin BN rfl (fun _ _ h=>h) (AM.le_refl _) ⟨rfl,hb1⟩
 · have e:Pb 4 n u ns ks (ks.map Az) (Jm al)=n++Im (ks.map Az):=rfl
   rw [e] at hlen ⊢
   (repeat' (first|refine Run.ct rfl ?_|((first|refine Run.reg mixed ?_|refine Run.AJ ?_|(refine AG.mk rfl (A5 n hb0 (by (try simp only [AE,AA,AH] at hlen ⊢);omega)) ?_;rintro _ σ1 ⟨rfl,hb1⟩)|(refine AP rfl (fun h=>?_) (fun h=>?_)<;>try (cases h;done)))<;>try simp -implicitDefEqProofs only [A4,go_sem])|(refine ⟨fun h=>?_,fun h=>?_⟩<;>first|(cases h;done)|try simp only [h])|fail))
   (repeat' (first|refine Run.ct rfl ?_|((first|refine Run.reg mixed ?_|refine Run.AJ ?_|(refine AG.mk rfl (hop σ0 σ1 _ hH hb1 (by (try simp only [AE,AA,AH] at hlen ⊢);omega)) ?_;rintro _ σ2 ⟨rfl,hb2⟩)|(refine AP rfl (fun h=>?_) (fun h=>?_)<;>try (cases h;done)))<;>try simp -implicitDefEqProofs only [A4,go_sem])|(refine ⟨fun h=>?_,fun h=>?_⟩<;>first|(cases h;done)|try simp only [h])|fail))
   try simp only [AT,A0,A3,AZ] at hb2 ⊢
   exact Run.fin BN rfl (fun _ _ h=>h) (AM.le_refl _) ⟨rfl,hb2⟩
 · have e:Pb 5 n u ns ks (ks.map Az) (Jm al)=Il (ks.map Az):=rfl
   rw [e] at hlen ⊢
   (repeat' (first|refine Run.ct rfl ?_|((first|refine Run.reg mixed ?_|refine Run.AJ ?_|(refine AG.mk rfl (hli σ0 σ0' _ hH hb0 (by (try simp only [AE,AA,AH] at hlen ⊢);omega)) ?_;rintro _ σ1 ⟨rfl,hb1⟩)|(refine AP rfl (fun h=>?_) (fun h=>?_)<;>try (cases h;done)))<;>try simp -implicitDefEqProofs only [A4,go_sem])|(refine ⟨fun h=>?_,fun h=>?_⟩<;>first|(cases h;done)|try simp only [h])|fail))
   try simp only [AT,A0,A3,AZ] at hb1 ⊢
   exact Run.fin BN rfl (fun _ _ h=>h) (AM.le_refl _) ⟨rfl,hb1⟩
 · have e:Pb 6 n u ns ks (ks.map Az) (Jm al)=n++Im (ks.map Az):=rfl
   rw [e] at hlen ⊢
   (repeat' (first|refine Run.ct rfl ?_|((first|refine Run.reg mixed ?_|refine Run.AJ ?_|(refine AG.mk rfl (A5 n hb0 (by (try simp only [AE,AA,AH] at hlen ⊢);omega)) ?_;rintro _ σ1 ⟨rfl,hb1⟩)|(refine AP rfl (fun h=>?_) (fun h=>?_)<;>try (cases h;done)))<;>try simp -implicitDefEqProofs only [A4,go_sem])|(refine ⟨fun h=>?_,fun h=>?_⟩<;>first|(cases h;done)|try simp only [h])|fail))
   (repeat' (first|refine Run.ct rfl ?_|((first|refine Run.reg mixed ?_|refine Run.AJ ?_|(refine AG.mk rfl (hop σ0 σ1 _ hH hb1 (by (try simp only [AE,AA,AH] at hlen ⊢);omega)) ?_;rintro _ σ2 ⟨rfl,hb2⟩)|(refine AP rfl (fun h=>?_) (fun h=>?_)<;>try (cases h;done)))<;>try simp -implicitDefEqProofs only [A4,go_sem])|(refine ⟨fun h=>?_,fun h=>?_⟩<;>first|(cases h;done)|try simp only [h])|fail))
   try simp only [AT,A0,A3,AZ] at hb2 ⊢
   exact Run.fin BN rfl (fun _ _ h=>h) (AM.le_refl _) ⟨rfl,hb2⟩
 · simp [nuB] at hnu
   obtain ⟨k,rfl⟩:∃k:Nat,u=k:=⟨u.toNat,by omega⟩
   have hpr:=WY k (by omega) (by omega) σ0'
   have e:Pb 14 n (k:Int) ns ks (ks.map Az) (Jm al)=prT (k:Int)++Il (ks.map Az):=rfl
   rw [e] at hlen ⊢
   (repeat' (first|refine Run.ct rfl ?_|((first|refine Run.reg mixed ?_|refine Run.AJ ?_|(refine AG.mk rfl (A5 (prT (k:Int)) hb0 (by (try simp only [AE,AA,AH] at hlen ⊢);omega)) ?_;rintro _ σ1 ⟨rfl,hb1⟩)|refine AG.det (hpr) ?_|(refine AP rfl (fun h=>?_) (fun h=>?_)<;>try (cases h;done)))<;>try simp -implicitDefEqProofs only [A4,go_sem])|(refine ⟨fun h=>?_,fun h=>?_⟩<;>first|(cases h;done)|try simp only [h])|fail))
   (repeat' (first|refine Run.ct rfl ?_|((first|refine Run.reg mixed ?_|refine Run.AJ ?_|(refine AG.mk rfl (hli σ0 σ1 _ hH hb1 (by (try simp only [AE,AA,AH] at hlen ⊢);omega)) ?_;rintro _ σ2 ⟨rfl,hb2⟩)|(refine AP rfl (fun h=>?_) (fun h=>?_)<;>try (cases h;done)))<;>try simp -implicitDefEqProofs only [A4,go_sem])|(refine ⟨fun h=>?_,fun h=>?_⟩<;>first|(cases h;done)|try simp only [h])|fail))
   try simp only [AT,A0,A3,AZ] at hb2 ⊢
   exact Run.fin BN rfl (fun _ _ h=>h) (AM.le_refl _) ⟨rfl,hb2⟩
 · have e:Pb 15 n u ns ks (ks.map Az) (Jm al)=[116,105,99,107,40]++(Lib.itoa u++[41]):=rfl
   rw [e] at hlen ⊢
   have hfi:=LP u σ0' hpow
   have ha1:=HN (a:=[116,105,99,107,40]) (b:=Lib.itoa u) (by simp only [AE,AA,AH] at hlen ⊢;omega)
   have ha2:=HN (a:=[116,105,99,107,40]++Lib.itoa u) (b:=[41]) (by simp only [AE,AA,AH] at hlen ⊢;omega)
   simp only [A0,A3] at ha1 ha2
   (repeat' (first|refine Run.ct rfl ?_|((first|refine Run.reg mixed ?_|refine Run.AJ ?_|(refine AG.mk rfl (A5 _ hb0 (by (try simp only [AE,AA,AH] at hlen ⊢);omega)) ?_;rintro _ σ1 ⟨rfl,hb1⟩)|refine AG.det (hfi) ?_|(refine AP rfl (fun h=>?_) (fun h=>?_)<;>try (cases h;done)))<;>try simp -implicitDefEqProofs only [A4,ha1,ha2,go_sem])|(refine ⟨fun h=>?_,fun h=>?_⟩<;>first|(cases h;done)|try simp only [h])|fail))
   try simp only [AT,A0,A3,AZ] at hb1 ⊢
   exact Run.fin BN rfl (fun _ _ h=>h) (AM.le_refl _) ⟨rfl,hb1⟩
 · have e:Pb 16 n u ns ks (ks.map Az) (Jm al)=[114,97,105,115,101]++Il (ks.map Az):=rfl
   rw [e] at hlen ⊢
   (repeat' (first|refine Run.ct rfl ?_|((first|refine Run.reg mixed ?_|refine Run.AJ ?_|(refine AG.mk rfl (A5 [114,97,105,115,101] hb0 (by (try simp only [AE,AA,AH] at hlen ⊢);omega)) ?_;rintro _ σ1 ⟨rfl,hb1⟩)|(refine AP rfl (fun h=>?_) (fun h=>?_)<;>try (cases h;done)))<;>try simp -implicitDefEqProofs only [A4,go_sem])|(refine ⟨fun h=>?_,fun h=>?_⟩<;>first|(cases h;done)|try simp only [h])|fail))
   (repeat' (first|refine Run.ct rfl ?_|((first|refine Run.reg mixed ?_|refine Run.AJ ?_|(refine AG.mk rfl (hli σ0 σ1 _ hH hb1 (by (try simp only [AE,AA,AH] at hlen ⊢);omega)) ?_;rintro _ σ2 ⟨rfl,hb2⟩)|(refine AP rfl (fun h=>?_) (fun h=>?_)<;>try (cases h;done)))<;>try simp -implicitDefEqProofs only [A4,go_sem])|(refine ⟨fun h=>?_,fun h=>?_⟩<;>first|(cases h;done)|try simp only [h])|fail))
   try simp only [AT,A0,A3,AZ] at hb2 ⊢
   exact Run.fin BN rfl (fun _ _ h=>h) (AM.le_refl _) ⟨rfl,hb2⟩
end Go.Ab
namespace Go.Ab
open Go.Proofs
theorem yZ:Ap Tryz.prog 140=true:=by kernel_rfl
theorem vS:Ap Tryz.prog 143=true:=by kernel_rfl
theorem mF (i:Nat) (ns:List Str):WC 79 [.gp i 0,.d (.sl (ns.map Cn)),.fn 140 [.gp i 0] []] i (Im (ns.map shown)):=
 NG (H:=fun _=>True) i (first:=[.gp i 0]) (caps:=[]) yZ ⟨rfl,rfl⟩ shown ns (fun x _=>dU i x)
theorem yP {i:Nat} (j:Nat) {c:Str} {vs:List Str} {b:Ex} (hb:WC 139 [.gp i 0,exA b] i (Az b)):
 WX (fun σ=>σ.blk j=some [.gp i 0]) 143 ([]++[alA (.mk c vs b)]++[.gp j 0]) i (Mr (.mk c vs b)):=by
 intro σ0 σ s hH0 hb0 hlen
 have hjs:=hH0.1
 have hH:(fun _=>True) σ0∧σ0.gt SM=some UO:=⟨trivial,hH0.2⟩
 have hvs:=mF i vs
 refine Oi (by simp) ?_
 show Run _ _ _ (An [_,_]) _ _
 rw [BF]
 rw [Mr,alT] at hlen ⊢
 generalize Az b=tb at hb hlen ⊢
 obtain ⟨o',n',u',ns',ks',al'⟩:=b
 simp only [exA,alA,Al.A1,Ex.A1,AF,AI] at hb ⊢
 (repeat' (first|refine Run.ct rfl ?_|((first|refine Run.reg mixed ?_|refine Run.AJ ?_|(refine AG.mk rfl (A5 c hb0 (by (try simp only [AE,AA,AH] at hlen ⊢);omega)) ?_;rintro _ σ1 ⟨rfl,hb1⟩)|(refine AP rfl (fun h=>?_) (fun h=>?_)<;>try (cases h;done)))<;>try simp -implicitDefEqProofs only [Al.A1,(hb0.le.blk j _ hjs),go_sem])|(refine ⟨fun h=>?_,fun h=>?_⟩<;>first|(cases h;done)|try simp only [h])|fail))
 try simp -implicitDefEqProofs only [(hb1.le.blk j _ hjs),go_sem]
 (repeat' (first|refine Run.ct rfl ?_|((first|refine Run.reg mixed ?_|refine Run.AJ ?_|(refine AG.mk rfl (hvs σ0 σ1 _ hH hb1 (by (try simp only [AE,AA,AH] at hlen ⊢);omega)) ?_;rintro _ σ2 ⟨rfl,hb2⟩)|(refine AP rfl (fun h=>?_) (fun h=>?_)<;>try (cases h;done)))<;>try simp -implicitDefEqProofs only [Al.A1,(hb1.le.blk j _ hjs),go_sem])|(refine ⟨fun h=>?_,fun h=>?_⟩<;>first|(cases h;done)|try simp only [h])|fail))
 try simp -implicitDefEqProofs only [(hb2.le.blk j _ hjs),go_sem]
 (repeat' (first|refine Run.ct rfl ?_|((first|refine Run.reg mixed ?_|refine Run.AJ ?_|(refine AG.mk rfl (A5 [32,45,62,32] hb2 (by (try simp only [AE,AA,AH] at hlen ⊢);omega)) ?_;rintro _ σ3 ⟨rfl,hb3⟩)|(refine AP rfl (fun h=>?_) (fun h=>?_)<;>try (cases h;done)))<;>try simp -implicitDefEqProofs only [Al.A1,(hb2.le.blk j _ hjs),go_sem])|(refine ⟨fun h=>?_,fun h=>?_⟩<;>first|(cases h;done)|try simp only [h])|fail))
 try simp -implicitDefEqProofs only [(hb3.le.blk j _ hjs),go_sem]
 (repeat' (first|refine Run.ct rfl ?_|((first|refine Run.reg mixed ?_|refine Run.AJ ?_|(refine AG.mk rfl (hb σ0 σ3 _ hH hb3 (by (try simp only [AE,AA,AH] at hlen ⊢);omega)) ?_;rintro _ σ4 ⟨rfl,hb4⟩)|(refine AP rfl (fun h=>?_) (fun h=>?_)<;>try (cases h;done)))<;>try simp -implicitDefEqProofs only [Al.A1,(hb3.le.blk j _ hjs),go_sem])|(refine ⟨fun h=>?_,fun h=>?_⟩<;>first|(cases h;done)|try simp only [h])|fail))
 try simp only [AT,A0,A3,AZ] at hb4 ⊢
 exact Run.fin I7 rfl (fun _ _ h=>h) (AM.le_refl _) ⟨rfl,hb4⟩
def lN (o:Int):Prop:=o=7∨o=8∨o=9∨o=10∨o=11∨o=17
set_option maxHeartbeats 8000000 in
theorem vT {i:Nat} {o:Int} {n:Str} {u:Int} {ns:List Str} {ks:List Ex} {al:List Al} (hn:GU o n u ns ks.length al=true) (ho:lN o)
 (hk:∀x∈ks,WC 139 [.gp i 0,exA x] i (Az x))
 (ha:∀x∈al,∀j,WX (fun σ=>σ.blk j=some [.gp i 0]) 143 ([]++[alA x]++[.gp j 0]) i (Mr x)):WC 89 [.gp i 0,exA (.mk o n u ns ks al)] i (Az (.mk o n u ns ks al)):=by
 intro σ0 σ s hH hbu hlen
 have hvs:=mF i ns
 have hbn:=dU i n
 simp only [GU,AN] at hn
 obtain ⟨⟨⟨⟨hnm,hnu⟩,hns⟩,has⟩,hnk⟩:=hn
 refine Qr (by simp) ?_
 rw [BF]
 simp only [exA,Ex.A1,AF,AI]
 rw [Az,M6,V4] at hlen ⊢
 (repeat' (first|refine Run.ct rfl ?_|((first|refine Run.reg mixed ?_|refine Run.AJ ?_|(refine AP rfl (fun h=>?_) (fun h=>?_)<;>try (cases h;done)))<;>try simp -implicitDefEqProofs only [go_sem])|(refine ⟨fun h=>?_,fun h=>?_⟩<;>first|(cases h;done)|try simp only [h])|fail))
 intro j hj
 have hun:∀s' σ',BuS (σ0.AL j [.gp i 0]) i s' σ'→BuS σ0 i s' σ':=fun s' σ' h=>hbu.mD hj h
 have hjs:(σ0.AL j [.gp i 0]).blk j=some [.gp i 0]:=by simp [AO]
 have hH:(fun _=>True) (σ0.AL j [.gp i 0])∧(σ0.AL j [.gp i 0]).gt SM=some UO:=⟨trivial,hH.2⟩
 have hb0:=hbu.share (cs:=[.gp i 0]) hj
 generalize σ.AL j [.gp i 0]=τ at hb0 ⊢
 generalize σ0.AL j [.gp i 0]=τ0 at hun hjs hH hb0
 have hHj:(fun σ=>σ.blk j=some [.gp i 0]) τ0∧τ0.gt SM=some UO:=⟨hjs,hH.2⟩
 rcases ho with rfl|rfl|rfl|rfl|rfl|rfl
 · obtain ⟨a,b,rfl⟩:=TG (by simpa [nkB] using hnk)
   have hka:=hk a (by simp)
   have hkb:=hk b (by simp)
   have hp:=YU [32,61,32] [32,105,110,32] [] hka hkb
   have e:Pb 7 n u ns [a,b] ([a,b].map Az) (al.map Mr)=[108,101,116,32]++(shown n++([32,61,32]++(Az a++([32,105,110,32]++(Az b++[]))))):=by show _=_;rw [AZ];rfl
   rw [e] at hlen ⊢
   clear e
   generalize Az a=ta at *
   obtain ⟨oa,na,ua,nsa,ksa,ala⟩:=a
   generalize Az b=tb at *
   obtain ⟨ob,nb,ub,nsb,ksb,alb⟩:=b
   simp only [exA,Ex.A1,AF,AI] at hka hkb hp ⊢
   (repeat' (first|refine Run.ct rfl ?_|((first|refine Run.reg mixed ?_|refine Run.AJ ?_|(refine AG.mk rfl (A5 [108,101,116,32] hb0 (by (try simp only [AE,AA,AH] at hlen ⊢);omega)) ?_;rintro _ σ1 ⟨rfl,hb1⟩)|(refine AP rfl (fun h=>?_) (fun h=>?_)<;>try (cases h;done)))<;>try simp -implicitDefEqProofs only [A4,(hb0.le.blk j _ hjs),go_sem])|(refine ⟨fun h=>?_,fun h=>?_⟩<;>first|(cases h;done)|try simp only [h])|fail))
   try simp -implicitDefEqProofs only [(hb1.le.blk j _ hjs),go_sem]
   (repeat' (first|refine Run.ct rfl ?_|((first|refine Run.reg mixed ?_|refine Run.AJ ?_|(refine AG.mk rfl (hbn τ0 σ1 _ hH hb1 (by (try simp only [AE,AA,AH] at hlen ⊢);omega)) ?_;rintro _ σ2 ⟨rfl,hb2⟩)|(refine AP rfl (fun h=>?_) (fun h=>?_)<;>try (cases h;done)))<;>try simp -implicitDefEqProofs only [A4,(hb1.le.blk j _ hjs),go_sem])|(refine ⟨fun h=>?_,fun h=>?_⟩<;>first|(cases h;done)|try simp only [h])|fail))
   try simp -implicitDefEqProofs only [(hb2.le.blk j _ hjs),go_sem]
   (repeat' (first|refine Run.ct rfl ?_|((first|refine Run.reg mixed ?_|refine Run.AJ ?_|(refine AG.mk rfl (hp τ0 σ2 _ hH hb2 (by (try simp only [AE,AA,AH] at hlen ⊢);omega)) ?_;rintro _ σ3 ⟨rfl,hb3⟩)|(refine AP rfl (fun h=>?_) (fun h=>?_)<;>try (cases h;done)))<;>try simp -implicitDefEqProofs only [A4,(hb2.le.blk j _ hjs),go_sem])|(refine ⟨fun h=>?_,fun h=>?_⟩<;>first|(cases h;done)|try simp only [h])|fail))
   try simp only [AT,A0,A3,AZ] at hb3 ⊢
   exact Run.fin CB rfl (fun _ _ h=>h) (AM.le_refl _) ⟨rfl,hun _ _ hb3⟩
 · obtain ⟨a,b,rfl⟩:=TG (by simpa [nkB] using hnk)
   have hka:=hk a (by simp)
   have hkb:=hk b (by simp)
   have hp:=YU [32,61,32] [32,105,110,32] [] hka hkb
   have e:Pb 8 n u ns [a,b] ([a,b].map Az) (al.map Mr)=[108,101,116,32]++(Im (ns.map shown)++([32,61,32]++(Az a++([32,105,110,32]++(Az b++[]))))):=by show _=_;rw [AZ];rfl
   rw [e] at hlen ⊢
   clear e
   generalize Az a=ta at *
   obtain ⟨oa,na,ua,nsa,ksa,ala⟩:=a
   generalize Az b=tb at *
   obtain ⟨ob,nb,ub,nsb,ksb,alb⟩:=b
   simp only [exA,Ex.A1,AF,AI] at hka hkb hp ⊢
   (repeat' (first|refine Run.ct rfl ?_|((first|refine Run.reg mixed ?_|refine Run.AJ ?_|(refine AG.mk rfl (A5 [108,101,116,32] hb0 (by (try simp only [AE,AA,AH] at hlen ⊢);omega)) ?_;rintro _ σ1 ⟨rfl,hb1⟩)|(refine AP rfl (fun h=>?_) (fun h=>?_)<;>try (cases h;done)))<;>try simp -implicitDefEqProofs only [A4,(hb0.le.blk j _ hjs),go_sem])|(refine ⟨fun h=>?_,fun h=>?_⟩<;>first|(cases h;done)|try simp only [h])|fail))
   try simp -implicitDefEqProofs only [(hb1.le.blk j _ hjs),go_sem]
   (repeat' (first|refine Run.ct rfl ?_|((first|refine Run.reg mixed ?_|refine Run.AJ ?_|(refine AG.mk rfl (hvs τ0 σ1 _ hH hb1 (by (try simp only [AE,AA,AH] at hlen ⊢);omega)) ?_;rintro _ σ2 ⟨rfl,hb2⟩)|(refine AP rfl (fun h=>?_) (fun h=>?_)<;>try (cases h;done)))<;>try simp -implicitDefEqProofs only [A4,(hb1.le.blk j _ hjs),go_sem])|(refine ⟨fun h=>?_,fun h=>?_⟩<;>first|(cases h;done)|try simp only [h])|fail))
   try simp -implicitDefEqProofs only [(hb2.le.blk j _ hjs),go_sem]
   (repeat' (first|refine Run.ct rfl ?_|((first|refine Run.reg mixed ?_|refine Run.AJ ?_|(refine AG.mk rfl (hp τ0 σ2 _ hH hb2 (by (try simp only [AE,AA,AH] at hlen ⊢);omega)) ?_;rintro _ σ3 ⟨rfl,hb3⟩)|(refine AP rfl (fun h=>?_) (fun h=>?_)<;>try (cases h;done)))<;>try simp -implicitDefEqProofs only [A4,(hb2.le.blk j _ hjs),go_sem])|(refine ⟨fun h=>?_,fun h=>?_⟩<;>first|(cases h;done)|try simp only [h])|fail))
   try simp only [AT,A0,A3,AZ] at hb3 ⊢
   exact Run.fin CB rfl (fun _ _ h=>h) (AM.le_refl _) ⟨rfl,hun _ _ hb3⟩
 · obtain ⟨a,b,c,rfl⟩:=jH (by simpa [nkB] using hnk)
   have hka:=hk a (by simp)
   have hkb:=hk b (by simp)
   have hkc:=hk c (by simp)
   have hp:=YU [105,102,32] [32,116,104,101,110,32] [32,101,108,115,101,32] hka hkb
   have e:Pb 9 n u ns [a,b,c] ([a,b,c].map Az) (al.map Mr)=([105,102,32]++(Az a++([32,116,104,101,110,32]++(Az b++[32,101,108,115,101,32]))))++Az c:=by show [105,102,32]++(Az a++([32,116,104,101,110,32]++(Az b++([32,101,108,115,101,32]++Az c))))=_;simp only [AT,A0,A3]
   rw [e] at hlen ⊢
   clear e
   generalize Az a=ta at *
   obtain ⟨oa,na,ua,nsa,ksa,ala⟩:=a
   generalize Az b=tb at *
   obtain ⟨ob,nb,ub,nsb,ksb,alb⟩:=b
   generalize Az c=tc at *
   obtain ⟨oc,nc,uc,nsc,ksc,alc⟩:=c
   simp only [exA,Ex.A1,AF,AI] at hka hkb hkc hp ⊢
   (repeat' (first|refine Run.ct rfl ?_|((first|refine Run.reg mixed ?_|refine Run.AJ ?_|(refine AG.mk rfl (hp τ0 τ _ hH hb0 (by (try simp only [AE,AA,AH] at hlen ⊢);omega)) ?_;rintro _ σ1 ⟨rfl,hb1⟩)|(refine AP rfl (fun h=>?_) (fun h=>?_)<;>try (cases h;done)))<;>try simp -implicitDefEqProofs only [A4,(hb0.le.blk j _ hjs),go_sem])|(refine ⟨fun h=>?_,fun h=>?_⟩<;>first|(cases h;done)|try simp only [h])|fail))
   try simp -implicitDefEqProofs only [(hb1.le.blk j _ hjs),go_sem]
   (repeat' (first|refine Run.ct rfl ?_|((first|refine Run.reg mixed ?_|refine Run.AJ ?_|(refine AG.mk rfl (hkc τ0 σ1 _ hH hb1 (by (try simp only [AE,AA,AH] at hlen ⊢);omega)) ?_;rintro _ σ2 ⟨rfl,hb2⟩)|(refine AP rfl (fun h=>?_) (fun h=>?_)<;>try (cases h;done)))<;>try simp -implicitDefEqProofs only [A4,(hb1.le.blk j _ hjs),go_sem])|(refine ⟨fun h=>?_,fun h=>?_⟩<;>first|(cases h;done)|try simp only [h])|fail))
   try simp only [AT,A0,A3,AZ] at hb2 ⊢
   exact Run.fin CB rfl (fun _ _ h=>h) (AM.le_refl _) ⟨rfl,hun _ _ hb2⟩
 · obtain ⟨a,rfl⟩:=Wi (by simpa [nkB] using hnk)
   have hka:=hk a (by simp)
   have hsep:=S1 (H:=fun σ=>σ.blk j=some [.gp i 0]) i (first:=[]) (caps:=[.gp j 0]) vS ⟨rfl,rfl⟩ [32,124,32] Mr al (fun x hx=>ha x hx j)
   have e:Pb 10 n u ns [a] ([a].map Az) (al.map Mr)=[109,97,116,99,104,32]++(Az a++([32,119,105,116,104,32]++(Lib.join (al.map Mr) [32,124,32]++[32,101,110,100]))):=rfl
   rw [e] at hlen ⊢
   clear e
   generalize Az a=ta at *
   obtain ⟨oa,na,ua,nsa,ksa,ala⟩:=a
   simp only [exA,Ex.A1,AF,AI] at hka ⊢
   (repeat' (first|refine Run.ct rfl ?_|((first|refine Run.reg mixed ?_|refine Run.AJ ?_|(refine AG.mk rfl (A5 [109,97,116,99,104,32] hb0 (by (try simp only [AE,AA,AH] at hlen ⊢);omega)) ?_;rintro _ σ1 ⟨rfl,hb1⟩)|(refine AP rfl (fun h=>?_) (fun h=>?_)<;>try (cases h;done)))<;>try simp -implicitDefEqProofs only [A4,(hb0.le.blk j _ hjs),go_sem])|(refine ⟨fun h=>?_,fun h=>?_⟩<;>first|(cases h;done)|try simp only [h])|fail))
   try simp -implicitDefEqProofs only [(hb1.le.blk j _ hjs),go_sem]
   (repeat' (first|refine Run.ct rfl ?_|((first|refine Run.reg mixed ?_|refine Run.AJ ?_|(refine AG.mk rfl (hka τ0 σ1 _ hH hb1 (by (try simp only [AE,AA,AH] at hlen ⊢);omega)) ?_;rintro _ σ2 ⟨rfl,hb2⟩)|(refine AP rfl (fun h=>?_) (fun h=>?_)<;>try (cases h;done)))<;>try simp -implicitDefEqProofs only [A4,(hb1.le.blk j _ hjs),go_sem])|(refine ⟨fun h=>?_,fun h=>?_⟩<;>first|(cases h;done)|try simp only [h])|fail))
   try simp -implicitDefEqProofs only [(hb2.le.blk j _ hjs),go_sem]
   (repeat' (first|refine Run.ct rfl ?_|((first|refine Run.reg mixed ?_|refine Run.AJ ?_|(refine AG.mk rfl (A5 [32,119,105,116,104,32] hb2 (by (try simp only [AE,AA,AH] at hlen ⊢);omega)) ?_;rintro _ σ3 ⟨rfl,hb3⟩)|(refine AP rfl (fun h=>?_) (fun h=>?_)<;>try (cases h;done)))<;>try simp -implicitDefEqProofs only [A4,(hb2.le.blk j _ hjs),go_sem])|(refine ⟨fun h=>?_,fun h=>?_⟩<;>first|(cases h;done)|try simp only [h])|fail))
   try simp -implicitDefEqProofs only [(hb3.le.blk j _ hjs),go_sem]
   (repeat' (first|refine Run.ct rfl ?_|((first|refine Run.reg mixed ?_|refine Run.AJ ?_|(refine AG.mk rfl (hsep τ0 σ3 _ hHj hb3 (by (try simp only [AE,AA,AH] at hlen ⊢);omega)) ?_;rintro _ σ4 ⟨rfl,hb4⟩)|(refine AP rfl (fun h=>?_) (fun h=>?_)<;>try (cases h;done)))<;>try simp -implicitDefEqProofs only [A4,(hb3.le.blk j _ hjs),go_sem])|(refine ⟨fun h=>?_,fun h=>?_⟩<;>first|(cases h;done)|try simp only [h])|fail))
   try simp -implicitDefEqProofs only [(hb4.le.blk j _ hjs),go_sem]
   (repeat' (first|refine Run.ct rfl ?_|((first|refine Run.reg mixed ?_|refine Run.AJ ?_|(refine AG.mk rfl (A5 [32,101,110,100] hb4 (by (try simp only [AE,AA,AH] at hlen ⊢);omega)) ?_;rintro _ σ5 ⟨rfl,hb5⟩)|(refine AP rfl (fun h=>?_) (fun h=>?_)<;>try (cases h;done)))<;>try simp -implicitDefEqProofs only [A4,(hb4.le.blk j _ hjs),go_sem])|(refine ⟨fun h=>?_,fun h=>?_⟩<;>first|(cases h;done)|try simp only [h])|fail))
   try simp only [AT,A0,A3,AZ] at hb5 ⊢
   exact Run.fin CB rfl (fun _ _ h=>h) (AM.le_refl _) ⟨rfl,hun _ _ hb5⟩
 · obtain ⟨a,rfl⟩:=Wi (by simpa [nkB] using hnk)
   have hka:=hk a (by simp)
   have e:Pb 11 n u ns [a] ([a].map Az) (al.map Mr)=[102,110,40]++(Lib.join ns [44,32]++([41,32,45,62,32]++Az a)):=by show [102,110]++(Il ns++([32,45,62,32]++Az a))=_;simp [Il,JT,cms]
   rw [e] at hlen ⊢
   clear e
   generalize Az a=ta at *
   obtain ⟨oa,na,ua,nsa,ksa,ala⟩:=a
   simp only [exA,Ex.A1,AF,AI] at hka ⊢
   simp [nsB] at hns
   have hlen2:=hlen
   simp only [AE,AA,AH] at hlen2
   have hjn:=kR ns [44,32] τ (by omega) (by omega)
   have ha1:=HN (a:=[102,110,40]) (b:=Lib.join ns [44,32]) (by simp only [AE,AH];omega)
   have ha2:=HN (a:=[102,110,40]++Lib.join ns [44,32]) (b:=[41,32,45,62,32]) (by simp only [AA,AE,AH];omega)
   simp only [A0,A3] at ha1 ha2
   (repeat' (first|refine Run.ct rfl ?_|((first|refine Run.reg mixed ?_|refine Run.AJ ?_|(refine AP rfl (fun h=>?_) (fun h=>?_)<;>try (cases h;done)))<;>try simp -implicitDefEqProofs only [A4,(hb0.le.blk j _ hjs),go_sem])|(refine ⟨fun h=>?_,fun h=>?_⟩<;>first|(cases h;done)|try simp only [h])|fail))
   refine Run.SO mixed ?_
   simp -implicitDefEqProofs only [(hb0.le.blk j _ hjs),ha1,ha2,go_sem]
   refine ⟨?_,?_⟩
   all_goals (repeat' (first|refine Run.ct rfl ?_|((first|refine Run.reg mixed ?_|refine Run.AJ ?_|(refine AG.mk rfl (A5 _ hb0 (by (try simp only [AE,AA,AH] at hlen ⊢);omega)) ?_;rintro _ σ1 ⟨rfl,hb1⟩)|refine AG.det (hjn) ?_|(refine AP rfl (fun h=>?_) (fun h=>?_)<;>try (cases h;done)))<;>try simp -implicitDefEqProofs only [A4,ha1,ha2,(hb0.le.blk j _ hjs),go_sem])|(refine ⟨fun h=>?_,fun h=>?_⟩<;>first|(cases h;done)|try simp only [h])|fail))
   all_goals try simp -implicitDefEqProofs only [(hb1.le.blk j _ hjs),go_sem]
   all_goals (repeat' (first|refine Run.ct rfl ?_|((first|refine Run.reg mixed ?_|refine Run.AJ ?_|(refine AG.mk rfl (hka τ0 σ1 _ hH hb1 (by (try simp only [AE,AA,AH] at hlen ⊢);omega)) ?_;rintro _ σ2 ⟨rfl,hb2⟩)|(refine AP rfl (fun h=>?_) (fun h=>?_)<;>try (cases h;done)))<;>try simp -implicitDefEqProofs only [A4,ha1,ha2,(hb1.le.blk j _ hjs),go_sem])|(refine ⟨fun h=>?_,fun h=>?_⟩<;>first|(cases h;done)|try simp only [h])|fail))
   all_goals try simp only [AT,A0,A3,AZ] at hb2 ⊢
   all_goals exact Run.fin CB rfl (fun _ _ h=>h) (AM.le_refl _) ⟨rfl,hun _ _ hb2⟩
 · obtain ⟨a,b,rfl⟩:=TG (by simpa [nkB] using hnk)
   have hka:=hk a (by simp)
   have hkb:=hk b (by simp)
   have e:Pb 17 n u ns [a,b] ([a,b].map Az) (al.map Mr)=[116,114,121,32]++(Az a++([32,99,97,116,99,104,32]++(shown n++([32,45,62,32]++(Az b++[32,101,110,100]))))):=rfl
   rw [e] at hlen ⊢
   clear e
   generalize Az a=ta at *
   obtain ⟨oa,na,ua,nsa,ksa,ala⟩:=a
   generalize Az b=tb at *
   obtain ⟨ob,nb,ub,nsb,ksb,alb⟩:=b
   simp only [exA,Ex.A1,AF,AI] at hka hkb ⊢
   (repeat' (first|refine Run.ct rfl ?_|((first|refine Run.reg mixed ?_|refine Run.AJ ?_|(refine AG.mk rfl (A5 [116,114,121,32] hb0 (by (try simp only [AE,AA,AH] at hlen ⊢);omega)) ?_;rintro _ σ1 ⟨rfl,hb1⟩)|(refine AP rfl (fun h=>?_) (fun h=>?_)<;>try (cases h;done)))<;>try simp -implicitDefEqProofs only [A4,(hb0.le.blk j _ hjs),go_sem])|(refine ⟨fun h=>?_,fun h=>?_⟩<;>first|(cases h;done)|try simp only [h])|fail))
   try simp -implicitDefEqProofs only [(hb1.le.blk j _ hjs),go_sem]
   (repeat' (first|refine Run.ct rfl ?_|((first|refine Run.reg mixed ?_|refine Run.AJ ?_|(refine AG.mk rfl (hka τ0 σ1 _ hH hb1 (by (try simp only [AE,AA,AH] at hlen ⊢);omega)) ?_;rintro _ σ2 ⟨rfl,hb2⟩)|(refine AP rfl (fun h=>?_) (fun h=>?_)<;>try (cases h;done)))<;>try simp -implicitDefEqProofs only [A4,(hb1.le.blk j _ hjs),go_sem])|(refine ⟨fun h=>?_,fun h=>?_⟩<;>first|(cases h;done)|try simp only [h])|fail))
   try simp -implicitDefEqProofs only [(hb2.le.blk j _ hjs),go_sem]
   (repeat' (first|refine Run.ct rfl ?_|((first|refine Run.reg mixed ?_|refine Run.AJ ?_|(refine AG.mk rfl (A5 [32,99,97,116,99,104,32] hb2 (by (try simp only [AE,AA,AH] at hlen ⊢);omega)) ?_;rintro _ σ3 ⟨rfl,hb3⟩)|(refine AP rfl (fun h=>?_) (fun h=>?_)<;>try (cases h;done)))<;>try simp -implicitDefEqProofs only [A4,(hb2.le.blk j _ hjs),go_sem])|(refine ⟨fun h=>?_,fun h=>?_⟩<;>first|(cases h;done)|try simp only [h])|fail))
   try simp -implicitDefEqProofs only [(hb3.le.blk j _ hjs),go_sem]
   (repeat' (first|refine Run.ct rfl ?_|((first|refine Run.reg mixed ?_|refine Run.AJ ?_|(refine AG.mk rfl (hbn τ0 σ3 _ hH hb3 (by (try simp only [AE,AA,AH] at hlen ⊢);omega)) ?_;rintro _ σ4 ⟨rfl,hb4⟩)|(refine AP rfl (fun h=>?_) (fun h=>?_)<;>try (cases h;done)))<;>try simp -implicitDefEqProofs only [A4,(hb3.le.blk j _ hjs),go_sem])|(refine ⟨fun h=>?_,fun h=>?_⟩<;>first|(cases h;done)|try simp only [h])|fail))
   try simp -implicitDefEqProofs only [(hb4.le.blk j _ hjs),go_sem]
   (repeat' (first|refine Run.ct rfl ?_|((first|refine Run.reg mixed ?_|refine Run.AJ ?_|(refine AG.mk rfl (A5 [32,45,62,32] hb4 (by (try simp only [AE,AA,AH] at hlen ⊢);omega)) ?_;rintro _ σ5 ⟨rfl,hb5⟩)|(refine AP rfl (fun h=>?_) (fun h=>?_)<;>try (cases h;done)))<;>try simp -implicitDefEqProofs only [A4,(hb4.le.blk j _ hjs),go_sem])|(refine ⟨fun h=>?_,fun h=>?_⟩<;>first|(cases h;done)|try simp only [h])|fail))
   try simp -implicitDefEqProofs only [(hb5.le.blk j _ hjs),go_sem]
   (repeat' (first|refine Run.ct rfl ?_|((first|refine Run.reg mixed ?_|refine Run.AJ ?_|(refine AG.mk rfl (hkb τ0 σ5 _ hH hb5 (by (try simp only [AE,AA,AH] at hlen ⊢);omega)) ?_;rintro _ σ6 ⟨rfl,hb6⟩)|(refine AP rfl (fun h=>?_) (fun h=>?_)<;>try (cases h;done)))<;>try simp -implicitDefEqProofs only [A4,(hb5.le.blk j _ hjs),go_sem])|(refine ⟨fun h=>?_,fun h=>?_⟩<;>first|(cases h;done)|try simp only [h])|fail))
   try simp -implicitDefEqProofs only [(hb6.le.blk j _ hjs),go_sem]
   (repeat' (first|refine Run.ct rfl ?_|((first|refine Run.reg mixed ?_|refine Run.AJ ?_|(refine AG.mk rfl (A5 [32,101,110,100] hb6 (by (try simp only [AE,AA,AH] at hlen ⊢);omega)) ?_;rintro _ σ7 ⟨rfl,hb7⟩)|(refine AP rfl (fun h=>?_) (fun h=>?_)<;>try (cases h;done)))<;>try simp -implicitDefEqProofs only [A4,(hb6.le.blk j _ hjs),go_sem])|(refine ⟨fun h=>?_,fun h=>?_⟩<;>first|(cases h;done)|try simp only [h])|fail))
   try simp only [AT,A0,A3,AZ] at hb7 ⊢
   exact Run.fin CB rfl (fun _ _ h=>h) (AM.le_refl _) ⟨rfl,hun _ _ hb7⟩
end Go.Ab
