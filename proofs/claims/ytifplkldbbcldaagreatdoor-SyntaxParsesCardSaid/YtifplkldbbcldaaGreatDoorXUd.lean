/- Valid written types and nodes. Valid nodes. The parser: numbers, operators, arguments. The reference's parser: lists of types, of expressions, of names; numbers. Conditions: none. -/
import Derived.Test.YtifplkldbbcldaaGreatDoorXSc
set_option linter.unusedSimpArgs false
set_option linter.unusedVariables false
set_option maxRecDepth 4000
set_option maxHeartbeats 8000000
open List renaming map_cons→AB,map_nil→AE,length_map→AJ,length_nil→AI,mem_cons_self→BB,length_cons→AG,length_append→AA,map_append→Ax,length_pos_iff→A5,nil_append→A6
open Bool renaming not_eq_true'→CZ,eq_iff_iff→Ds,and_eq_true→AR
open Int renaming reduceBEq→As
open Nat renaming le_trans→Ay
open Option renaming isSome_iff_exists→YK
namespace Go.Ab
open Go.Proofs
theorem SL (d:Nat) (hd:∀(t:TE) (σ:AK),t.size≤1000000→AP Tryz.prog 106 [teA t,.d (.int .i64 ((41 - d:Nat):Int))] σ (fun v σ'=>v= .d (.bool (Cq d t))∧σ'=σ)) (hd40:d < 40)
 (t:TE) (j:Nat) (σ:AK) (hsz:t.size≤1000000) (hj:σ.blk j=some [.d (.int .i64 ((40 - d:Nat):Int))]):
 AP Tryz.prog 153 [teA t,.gp j 0] σ (fun v σ'=>v= .d (.bool (Cq d t))∧σ'=σ):=by
 refine Sv (by simp) ?_
 rw [BH]
 have hc:=hd t σ hsz
 obtain ⟨k,n,l⟩:=t
 simp only [TE.AS,teA,AB,AE] at hc ⊢
 have hw:IntKind.i64.wrap (((40 - d:Nat):Int)+1)=((41 - d:Nat):Int):=by rw [BF (by omega) (by omega)];omega
 (repeat' (first|refine ctQ rfl ?_|((first|refine rgQ mxQ ?_|refine cdQ ?_|refine Run.A2 L5 (AK.le_refl _) ?_|refine AD.det (hc) ?_)<;>try simp -implicitDefEqProofs only [hj,hw,go_sem])|fail))
set_option maxHeartbeats 4000000 in
theorem UI:∀(d:Nat),d≤40→∀(t:TE) (σ:AK),t.size≤1000000→AP Tryz.prog 106 [teA t,.d (.int .i64 ((41 - d:Nat):Int))] σ (fun v σ'=>v= .d (.bool (Cq d t))∧σ'=σ):=by
 intro d
 induction d with
 |zero=>
  rintro _ ⟨k,n,l⟩ σ _
  refine N0 (by simp) ?_
  rw [BH,teA,TE.AS]
  (repeat' (first|refine ctQ rfl ?_|((first|refine rgQ mxQ ?_|refine cdQ ?_)<;>try simp -implicitDefEqProofs only [go_sem])|fail))
  intro j hj
  have hle:=FO (cs:=[.d (.int .i64 ((41 - 0:Nat):Int))]) hj
  have h0:decide ((40:Int) < ((41 - 0:Nat):Int))=true:=by decide
  (repeat' (first|refine ctQ rfl ?_|((first|refine rgQ mxQ ?_|refine cdQ ?_|(refine Run.A2 Ib (σ2:=σ) hle ?_))<;>try simp -implicitDefEqProofs only [h0,go_sem])|fail))
  rfl
 |succ d ihd=>
  rintro hd ⟨k,n,l⟩ σ hsz
  have hlen:=TE.Hl l
  have hsz1:TE.BY l+1≤1000000:=by simpa [TE.size,Nat.add_comm] using hsz
  have hd1:=ihd (by omega)
  refine N0 (by simp) ?_
  rw [BH,teA,TE.AS]
  have h0:decide ((40:Int) < ((41 - (d+1):Nat):Int))=false:=by simp only [decide_eq_false_iff_not];omega
  (repeat' (first|refine ctQ rfl ?_|((first|refine rgQ mxQ ?_|refine cdQ ?_)<;>try simp -implicitDefEqProofs only [go_sem])|fail))
  intro j hj
  have hle:=FO (cs:=[.d (.int .i64 ((41 - (d+1):Nat):Int))]) hj
  have hall:=MR (fid:=153) (caps:=[.gp j 0]) (by kernel_rfl) rfl (Cq d) l (σ.AH j [.d (.int .i64 ((41 - (d+1):Nat):Int))]) (fun x hx σ1 hle1=>by
   have hms:=TE.VC hx
   refine SL d hd1 (by omega) x j σ1 (by omega) ?_
   rw [hle1.blk j _ (by simp only [AZ,if_true];rfl)]
   rw [show 41 - (d+1)=40 - d by omega])
  clear hd1 ihd
  (repeat' (first|refine ctQ rfl ?_|((first|refine rgQ mxQ ?_|refine cdQ ?_|(refine Run.A2 Ib (σ2:=σ) hle ?_)|refine AD.det (Dy _ _) ?_|refine AD.det (Bi _ _) ?_|refine AD.det (hall) ?_|(refine GS rfl (fun h=>?_) (fun h=>?_)<;>try (cases h;done)))<;>try simp -implicitDefEqProofs only [h0,B0,AJ,go_sem])|(refine ⟨fun h=>?_,fun h=>?_⟩<;>first|(cases h;done)|try simp only [h])|fail))
  all_goals clear hall h0
  all_goals (simp only [bne,beq_iff_eq,beq_eq_false_iff_ne,ne_eq,CZ,Bool.not_eq_false',decide_eq_true_eq,decide_eq_false_iff_not] at *;simp_all [Cq,OT];first|done|omega|(intros;omega)|(intros;exfalso;omega)|(rcases l with _|⟨a,l⟩<;>simp<;>omega))
end Go.Ab
namespace Go.Ab
open Go.Proofs
theorem AFX (n:Nat):((n:Int)==0)=decide (n=0):=by rw [Ds];simp only [beq_iff_eq,decide_eq_true_eq];omega
def O9 (n:Str) (u:Int) (a b:Nat):Bool:=n==[]&&(u==0&&(decide (a=0)&&decide (b=0)))
theorem Ld (o:Int) (n:Str) (u:Int) (ns ks al:List (List DV)) (σ:AK):
 AP Tryz.prog 156 [.agg [.d (.int .i64 o),.d (.str n),.d (.int .i64 u),.d (.sl ns),.d (.sl ks),.d (.sl al)]] σ (fun v σ'=>v= .d (.bool (O9 n u ns.length al.length))∧σ'=σ):=by
 refine Zo (by simp) ?_
 rw [Ar]
 cases h1:(n==[])<;>cases h2:(u==0)<;>cases h3:decide (ns.length=0)
 all_goals (repeat' (first|refine ctQ rfl ?_|((first|refine rgQ mxQ ?_|refine cdQ ?_|refine Run.A2 Sa (AK.le_refl _) ?_)<;>try simp -implicitDefEqProofs only [Jl,h1,h2,h3,AFX,go_sem])|fail))
 all_goals (unfold O9;rw [h1,h2,h3];rfl)
theorem sG (o:Int) (n:Str) (u:Int) (ks al:List (List DV)) (σ:AK):
 AP Tryz.prog 156 [.agg [.d (.int .i64 o),.d (.str n),.d (.int .i64 u),.AO,.d (.sl ks),.d (.sl al)]] σ (fun v σ'=>v= .d (.bool (O9 n u 0 al.length))∧σ'=σ):=
 AP.plain (by simpa only [AV.E7,XD,gI,VH,AI] using Ld o n u [] ks al σ)
theorem sH (o:Int) (n:Str) (u:Int) (ns ks:List (List DV)) (σ:AK):
 AP Tryz.prog 156 [.agg [.d (.int .i64 o),.d (.str n),.d (.int .i64 u),.d (.sl ns),.d (.sl ks),.AO]] σ (fun v σ'=>v= .d (.bool (O9 n u ns.length 0))∧σ'=σ):=
 AP.plain (by simpa only [AV.E7,XD,gI,VH,AI] using Ld o n u ns ks [] σ)
theorem QB (n lo hi:Int) (σ:AK):AP Tryz.prog 160 [.d (.int .i64 n),.d (.int .i64 lo),.d (.int .i64 hi)] σ (fun v σ'=>v= .d (.bool (decide (lo≤n)&&decide (n≤hi)))∧σ'=σ):=by
 refine Wu (by simp) ?_
 rw [Hw]
 cases h1:decide (lo≤n)
 all_goals (repeat' (first|refine ctQ rfl ?_|((first|refine rgQ mxQ ?_|refine cdQ ?_|refine Run.A2 PG (AK.le_refl _) ?_)<;>try simp -implicitDefEqProofs only [h1,go_sem])|fail))
def wM (u:Int):Str:=if u=1 then [110,101,119] else if u=2 then [103,101,116] else if u=3 then [115,101,116] else if u=4 then [108,101,110] else if u=5 then [114,101,102] else if u=6 then [114,101,97,100] else if u=7 then [119,114,105,116,101] else []
theorem WG (u:Int) (σ:AK):AP Tryz.prog 147 [.d (.int .i64 u)] σ (fun v σ'=>v= .tup [.d (.str (wM u)),.d (.int .i64 (Le u))]∧σ'=σ):=by
 refine Uy (by simp) ?_
 rw [Ar]
 (repeat' (first|refine ctQ rfl ?_|((first|refine rgQ mxQ ?_|refine cdQ ?_|refine Run.A2 NS (AK.le_refl _) ?_)<;>try simp -implicitDefEqProofs only [go_sem])|(refine ⟨fun h=>?_,fun h=>?_⟩<;>first|(cases h;done)|try simp only [h])|fail))
 all_goals (simp only [beq_iff_eq,beq_eq_false_iff_ne,ne_eq] at *;simp_all [wM,Le])
set_option maxHeartbeats 1000000 in
theorem kN (a:Al) (σ:AK):AP Tryz.prog 159 [alA a] σ (fun v σ'=>v= .d (.bool (Re a))∧σ'=σ):=by
 refine Vp (by simp) ?_
 rw [Ar]
 obtain ⟨c,vs,o,n,u,ns,ks,al⟩:=a
 simp only [Al.AS,alA,AB,AE]
 have hl6:decide ((vs.length:Int)≤6)=decide (vs.length≤6):=leN vs.length 6
 cases h1:upperB c with
 |false=>
  (repeat' (first|refine ctQ rfl ?_|((first|refine rgQ mxQ ?_|refine cdQ ?_|refine Run.A2 HH (AK.le_refl _) ?_|refine AD.det (Bi c _) ?_)<;>try simp -implicitDefEqProofs only [h1,go_sem])|fail))
  simp [Re,h1]
 |true=>
  by_cases h6:vs.length≤6
  · (repeat' (first|refine ctQ rfl ?_|((first|refine rgQ mxQ ?_|refine cdQ ?_|refine Run.A2 HH (AK.le_refl _) ?_|refine AD.det (Bi c _) ?_|refine AD.det (IB (caps:=[]) (by kernel_rfl) rfl KA vs σ (fun x _ σ1 _=>Kp x σ1)) ?_)<;>try simp -implicitDefEqProofs only [h1,AJ,hl6,decide_eq_true h6,go_sem])|fail))
    simp [Re,h1,h6]
  · (repeat' (first|refine ctQ rfl ?_|((first|refine rgQ mxQ ?_|refine cdQ ?_|refine Run.A2 HH (AK.le_refl _) ?_|refine AD.det (Bi c _) ?_)<;>try simp -implicitDefEqProofs only [h1,AJ,hl6,decide_eq_false h6,go_sem])|fail))
    simp [Re,h6]
set_option maxHeartbeats 4000000 in
theorem hG (o:Int) (n:Str) (u:Int) (ns:List Str) (ks:List Ex) (al:List Al) (σ:AK) (ho:o=1∨o=2∨o=3∨o=4∨o=15):
 AP Tryz.prog 155 [exA (.mk o n u ns ks al)] σ (fun v σ'=>v= .d (.bool (nmB o n&&nuB o u&&nsB o ns&&asB o al))∧σ'=σ):=by
 refine VA (by simp) ?_
 rw [Ar,exA,Ex.AS]
 have fin:∀b c:Bool,(b=true↔c=true)→AV.d (.bool b)=AV.d (.bool c):=fun b c h=>by rw [Ds.2 h]
 rcases ho with rfl|rfl|rfl|rfl|rfl
 · (repeat' (first|refine ctQ rfl ?_|((first|refine rgQ mxQ ?_|refine cdQ ?_|refine Run.A2 Dw (AK.le_refl _) ?_|refine AD.det (Ld _ _ _ _ _ _ _) ?_)<;>try simp -implicitDefEqProofs only [AJ,go_sem])|fail))
   all_goals (refine fin _ _ ?_;simp [O9,nmB,nuB,nsB,asB, *];try grind)
 · (repeat' (first|refine ctQ rfl ?_|((first|refine rgQ mxQ ?_|refine cdQ ?_|refine Run.A2 Dw (AK.le_refl _) ?_|refine AD.det (Ld _ _ _ _ _ _ _) ?_|refine AD.det (QB _ _ _ _) ?_|(refine GS rfl (fun h=>?_) (fun h=>?_)<;>try (cases h;done)))<;>try simp -implicitDefEqProofs only [AJ,As,go_sem])|fail))
   all_goals (refine fin _ _ ?_;simp [O9,nmB,nuB,nsB,asB, *] at *;try grind)
 · (repeat' (first|refine ctQ rfl ?_|((first|refine rgQ mxQ ?_|refine cdQ ?_|refine Run.A2 Dw (AK.le_refl _) ?_|refine AD.det (Ld _ _ _ _ _ _ _) ?_|refine AD.det (QB _ _ _ _) ?_|(refine GS rfl (fun h=>?_) (fun h=>?_)<;>try (cases h;done)))<;>try simp -implicitDefEqProofs only [AJ,As,go_sem])|fail))
   all_goals (refine fin _ _ ?_;simp [O9,nmB,nuB,nsB,asB, *] at *;try grind)
 · (repeat' (first|refine ctQ rfl ?_|((first|refine rgQ mxQ ?_|refine cdQ ?_|refine Run.A2 Dw (AK.le_refl _) ?_|refine AD.det (Ld _ _ _ _ _ _ _) ?_|refine AD.det (Dy _ _) ?_|(refine GS rfl (fun h=>?_) (fun h=>?_)<;>try (cases h;done)))<;>try simp -implicitDefEqProofs only [AJ,As,go_sem])|fail))
   all_goals (refine fin _ _ ?_;simp [O9,nmB,nuB,nsB,asB, *] at *;try grind)
 · (repeat' (first|refine ctQ rfl ?_|((first|refine rgQ mxQ ?_|refine cdQ ?_|refine Run.A2 Dw (AK.le_refl _) ?_|refine AD.det (Ld _ _ _ _ _ _ _) ?_|refine AD.det (QB _ _ _ _) ?_|(refine GS rfl (fun h=>?_) (fun h=>?_)<;>try (cases h;done)))<;>try simp -implicitDefEqProofs only [AJ,As,go_sem])|fail))
   all_goals (refine fin _ _ ?_;simp [O9,nmB,nuB,nsB,asB, *] at *;try grind)
theorem eP (u:Int):0 < Le u↔1≤u∧u≤7:=by
 unfold Le;repeat' split
 all_goals omega
set_option maxHeartbeats 8000000 in
theorem hJ (o:Int) (n:Str) (u:Int) (ns:List Str) (ks:List Ex) (al:List Al) (σ:AK):
 AP Tryz.prog 110 [exA (.mk o n u ns ks al)] σ (fun v σ'=>v= .d (.bool (Iw o n u ns ks.length al))∧σ'=σ):=by
 refine VB (by simp) ?_
 rw [Ar,exA,Ex.AS]
 have fin:∀b c:Bool,(b=true↔c=true)→AV.d (.bool b)=AV.d (.bool c):=fun b c h=>by rw [Ds.2 h]
 have hleaf:=fun h=>hG o n u ns ks al σ h
 simp only [exA,Ex.AS,AB,AE] at hleaf ⊢
 have hbi:=IB (fid:=157) (caps:=[]) (by kernel_rfl) rfl KA ns σ (fun x _ σ1 _=>Kp x σ1)
 have hnm:=IB (fid:=51) (caps:=[]) (by kernel_rfl) rfl EE ns σ (fun x _ σ1 _=>Dy x σ1)
 have hal:=ZN (fid:=159) (caps:=[]) (by kernel_rfl) rfl Re al σ (fun x _ σ1 _=>kN x σ1)
 by_cases ho:o=1∨o=2∨o=3∨o=4∨o=5∨o=6∨o=7∨o=8∨o=9∨o=10∨o=11∨o=12∨o=13∨o=14∨o=15∨o=16∨o=17
 · rcases ho with rfl|rfl|rfl|rfl|rfl|rfl|rfl|rfl|rfl|rfl|rfl|rfl|rfl|rfl|rfl|rfl|rfl
   all_goals (repeat' (first|refine ctQ rfl ?_|((first|refine rgQ mxQ ?_|refine cdQ ?_|refine Run.A2 Ia (AK.le_refl _) ?_|refine AD.det (hleaf (by simp)) ?_|refine AD.det (Ld _ _ _ _ _ _ _) ?_|refine AD.det (sG _ _ _ _ _ _) ?_|refine AD.det (sH _ _ _ _ _ _) ?_|refine AD.det (Bi _ _) ?_|refine AD.det (Kp _ _) ?_|refine AD.det (QB _ _ _ _) ?_|refine AD.det (WG _ _) ?_|refine AD.det (hbi) ?_|refine AD.det (hnm) ?_|refine AD.det (hal) ?_|(refine GS rfl (fun h=>?_) (fun h=>?_)<;>try (cases h;done)))<;>try simp -implicitDefEqProofs only [AJ,As,go_sem])|fail))
   all_goals clear hleaf hbi hnm hal
   all_goals (refine fin _ _ ?_;simp [Iw,O9,nmB,nuB,nsB,asB,nkB, *] at *;try (have hpr:=eP u;grind))
 · have hno:Iw o n u ns ks.length al=false:=by
    simp only [not_or] at ho
    simp [Iw,nkB,ho]
   simp only [not_or] at ho
   obtain ⟨h1,h2,h3,h4,h5,h6,h7,h8,h9,h10,h11,h12,h13,h14,h15,h16,h17⟩:=ho
   (repeat' (first|refine ctQ rfl ?_|((first|refine rgQ mxQ ?_|refine cdQ ?_|refine Run.A2 Ia (AK.le_refl _) ?_)<;>try simp -implicitDefEqProofs only [Ch h1,Ch h2,Ch h3,Ch h4,Ch h5,Ch h6,Ch h7,Ch h8,Ch h9,Ch h10,Ch h11,Ch h12,Ch h13,Ch h14,Ch h15,Ch h16,Ch h17,go_sem])|fail))
   rw [hno]
end Go.Ab
namespace Go.Ab
open Go.Proofs
def NOk (L:List Tok):Prop:=∀t∈L,t.kind=3→Zw t.text
theorem kK {L:List Tok} {s:PSt} (hN:NOk L) (hs:POk L s):Zw ((PM.take 3 (by decide)).run s).1:=by
 cases hc:s.hd.kind==3 with
 |true=>
  have e:(PM.take 3 (by decide)).run s=(s.hd.text,s.adv):=if_pos hc
  rw [e]
  refine hN s.hd (hs.suf.subset ?_) (by simpa using hc)
  obtain ⟨r,f,p⟩:=s
  cases r with
  |nil=>exact hs.wf.elim
  |cons t l=>exact BB ..
 |false=>
  have e:(PM.take 3 (by decide)).run s=([],s.fail):=if_neg (by simp only;rw [hc];decide)
  rw [e];exact .inl rfl
theorem gF (i:Nat) {L:List Tok} (hN:NOk L) (n:Nat):PC 209 [.gp i 0] i L n JH (fun x=>.d (.int .i64 x)):=by
 intro σ s0 g0 h0 l0 b0
 refine QX (by simp) ?_
 rw [Ar]
 simp only [JH,run_map]
 have hn:=kK hN h0
 have c0:=gW i L n 3 (by decide) σ s0 g0 h0 l0 b0
 have c1:=hX _ (σ.AH i (psA L ((PM.take 3 (by decide)).run s0).2)) hn g0
 (repeat' (first|refine ctQ rfl ?_|((first|refine rgQ mxQ ?_|refine cdQ ?_|refine Run.A2 J7 (AK.le_refl _) ?_|(refine AD.upd c0 ?_)|refine AD.det (c1) ?_)<;>try simp -implicitDefEqProofs only [go_sem])|fail))
theorem R5 (u:Int) (σ:AK) (h:1≤u∧u≤8):AP Tryz.prog 91 [.d (.int .i64 u)] σ (fun v σ'=>v= .d (.str (opT u))∧σ'=σ):=by
 refine Rk (by simp) ?_
 rw [Ar]
 have hu:u=1∨u=2∨u=3∨u=4∨u=5∨u=6∨u=7∨u=8:=by omega
 rcases hu with rfl|rfl|rfl|rfl|rfl|rfl|rfl|rfl
 all_goals (repeat' (first|refine ctQ rfl ?_|((first|refine rgQ mxQ ?_|refine cdQ ?_|refine Run.A2 KR (AK.le_refl _) ?_)<;>try simp -implicitDefEqProofs only [As,go_sem])|fail))
 all_goals rfl
theorem Ki (u:Int) (σ:AK):AP Tryz.prog 138 [.d (.int .i64 u)] σ (fun v σ'=>v= .d (.int .i64 ((Hz u:Nat):Int))∧σ'=σ):=by
 refine QU (by simp) ?_
 rw [Ar]
 by_cases hu:u=1∨u=2∨u=3∨u=4∨u=5
 · rcases hu with rfl|rfl|rfl|rfl|rfl
   all_goals (repeat' (first|refine ctQ rfl ?_|((first|refine rgQ mxQ ?_|refine cdQ ?_|refine Run.A2 GY (AK.le_refl _) ?_)<;>try simp -implicitDefEqProofs only [As,go_sem])|fail))
   all_goals rfl
 · simp only [not_or] at hu
   obtain ⟨h1,h2,h3,h4,h5⟩:=hu
   have he:Hz u=1:=by unfold Hz;rw [if_neg (by omega),if_neg (by omega)]
   (repeat' (first|refine ctQ rfl ?_|((first|refine rgQ mxQ ?_|refine cdQ ?_|refine Run.A2 GY (AK.le_refl _) ?_)<;>try simp -implicitDefEqProofs only [Ch h1,Ch h2,Ch h3,Ch h4,Ch h5,he,go_sem])|fail))
   all_goals rfl
def Kh (lv:Nat) (t:Str):Nat→Nat→Nat
 |0,_=>0
 |n+1,k=>if Hz (k:Int)=lv∧(t==opT (k:Int))=true then k else Kh lv t n (k+1)
def opR (lv:Nat) (t:Str):Nat:=Kh lv t 8 1
theorem vF {k:Nat} (h:k≤8):decide ((k:Int)≤8)=true:=by simp;omega
theorem AE1 {k:Nat} (h:¬k≤8):decide ((k:Int)≤8)=false:=by simp;omega
theorem La {L:List Tok} {i:Nat} {s:PSt} (hs:POk L s) (lv:Nat) (σ:AK) (hb:σ.blk i=some (psA L s)):
 AP Tryz.prog 187 [.gp i 0,.d (.int .i64 (lv:Int))] σ (fun v σ'=>v= .d (.int .i64 ((opR lv s.hd.text:Nat):Int))∧σ'=if opR lv s.hd.text=0 then σ else σ.AH i (psA L s.adv)):=by
 refine O7 (by simp) ?_
 rw [BH]
 (repeat' (first|refine ctQ rfl ?_|((first|refine rgQ mxQ ?_|refine cdQ ?_)<;>try simp -implicitDefEqProofs only [go_sem])|fail))
 refine Run.BU ?_
 refine Run.BZ ((fun (a0:AV) (a1:AV)=>fun (k:Nat)=>put 0 a0 (put 1 a1 (put 5 (.d (.int .i64 (k:Nat))) U))) _ _) (fun _=>E) (fun _=>σ) (fun k=>1≤k∧k≤9∧Kh lv s.hd.text (9 - k) k=opR lv s.hd.text) (fun k=>9 - k) ?_ 1 ⟨by omega,by omega,rfl⟩
 rintro k ⟨hk1,hk9,hsc⟩ ih
 by_cases hk8:k≤8
 · have hT:=R5 (k:Int) σ (by omega)
   have hLv:=Ki (k:Int) σ
   obtain ⟨m,hm⟩:∃m,9 - k=m+1:=⟨8 - k,by omega⟩
   have hw:=BV (a:=k) (by omega)
   rw [hm,Kh] at hsc
   by_cases hl:Hz (k:Int)=lv
   · have hle:(((Hz (k:Int):Nat):Int)==(lv:Int))=true:=by rw [hl];simp
     cases ht:s.hd.text==opT (k:Int) with
     |true=>
      rw [if_pos ⟨hl,ht⟩] at hsc
      have hne:¬opR lv s.hd.text=0:=by omega
      rw [if_neg hne,← hsc]
      (repeat' (first|refine ctQ rfl ?_|((first|refine rgQ mxQ ?_|refine cdQ ?_|refine Run.A2 F6 (AK.le_refl _) ?_|(refine AD.upd (DO hs _ σ hb ht) ?_)|refine AD.det (hT) ?_|refine AD.det (hLv) ?_)<;>try simp -implicitDefEqProofs only [vF hk8,hle,go_sem])|fail))
     |false=>
      rw [if_neg (by rw [ht];simp)] at hsc
      (repeat' (first|refine ctQ rfl ?_|((first|refine rgQ mxQ ?_|refine cdQ ?_|(refine AD.upd (DN hs _ σ hb ht) ?_)|refine AD.det (hT) ?_|refine AD.det (hLv) ?_)<;>try simp -implicitDefEqProofs only [vF hk8,hle,hw,go_sem])|fail))
      exact ih (k+1) ⟨by omega,by omega,by rw [show 9 - (k+1)=m by omega];exact hsc⟩ (by omega)
   · have hle:(((Hz (k:Int):Nat):Int)==(lv:Int))=false:=by simpa using fun h:((Hz (k:Int):Nat):Int)=(lv:Int)=>hl (by omega)
     rw [if_neg (fun h=>hl h.1)] at hsc
     (repeat' (first|refine ctQ rfl ?_|((first|refine rgQ mxQ ?_|refine cdQ ?_|refine AD.det (hT) ?_|refine AD.det (hLv) ?_)<;>try simp -implicitDefEqProofs only [vF hk8,hle,hw,go_sem])|fail))
     exact ih (k+1) ⟨by omega,by omega,by rw [show 9 - (k+1)=m by omega];exact hsc⟩ (by omega)
 · have:k=9:=by omega
   subst this
   have h0:opR lv s.hd.text=0:=hsc.symm
   rw [h0,if_pos rfl]
   (repeat' (first|refine ctQ rfl ?_|((first|refine rgQ mxQ ?_|refine cdQ ?_|refine Run.A2 F6 (AK.le_refl _) ?_)<;>try simp -implicitDefEqProofs only [AE1 hk8,go_sem])|fail))
   rfl
theorem AF0 (t:Str):opR 1 t=if (t==[60])=true then 6 else if (t==[60,61])=true then 7 else if (t==[61,61])=true then 8 else 0:=by
 unfold opR;simp [Kh,Hz,opT,sE]
theorem AE4 (t:Str):opR 2 t=if (t==[43])=true then 1 else if (t==[45])=true then 2 else 0:=by
 unfold opR;simp [Kh,Hz,opT,sE]
theorem AE5 (t:Str):opR 3 t=if (t==[42])=true then 3 else if (t==[47])=true then 4 else if (t==[37])=true then 5 else 0:=by
 unfold opR;simp [Kh,Hz,opT,sE]
theorem W9 (u:Int) (a b:Ex) (σ:AK):AP Tryz.prog 188 [.d (.int .i64 u),exA a,exA b] σ (fun v σ'=>v=exA (E1 u a b)∧σ'=σ):=by
 refine YU (by simp) ?_
 obtain ⟨o0,n0,u0,ns0,ks0,al0⟩:=a
 obtain ⟨o1,n1,u1,ns1,ks1,al1⟩:=b
 rw [Hw]
 simp only [exA,E1,exN,Ex.AS,AB,AE]
 (repeat' (first|refine ctQ rfl ?_|((first|refine rgQ mxQ ?_|refine cdQ ?_|refine Run.A2 R1 (AK.le_refl _) ?_)<;>try simp -implicitDefEqProofs only [go_sem])|fail))
def dO (E:PM Ex):Nat→List Ex→PM (List Ex)
 |0,l=>.pure l
 |n+1,l=>(C1 [44]).bind fun _=>E.bind fun x=>dO E n (l++[x])
def UP (E:PM Ex) (n:Nat):PM (List Ex):=(C1 [40]).bind fun _=>E.bind fun x=>(dO E (n - 1) [x]).bind fun l=>(C1 [41]).bind fun _=>.pure l
theorem ACL (E:PM Ex) (s:PSt):(Jf E).run s=(UP E 1).run s:=rfl
theorem Zt {a b:Nat}:decide ((a:Int) < (b:Int))=decide (a < b):=decide_eq_decide.2 (by omega)
theorem oL (i:Nat) (L:List Tok) (n:Nat) {E:PM Ex} (hE:PC 131 [.gp i 0] i L n E exA) (m:Nat) (hm:1≤m∧m≤3):
 PC 213 [.gp i 0,.d (.int .i64 (m:Int))] i L n (UP E m) (fun l=>.d (.sl (l.map Ex.enc))):=by
 intro σ s0 g0 h0 l0 b0
 refine Ns (by simp) ?_
 rw [BH]
 simp only [UP,run_bind,run_pure]
 (have c0:=(DP i L n [40] (by decide)) σ s0 g0 h0 (by omega) b0;have h1:=h0.run (PM.exp [40] (by decide));have l1:=PM.le (PM.exp [40] (by decide)) h0.wf;generalize (PM.exp [40] (by decide)).run s0=y at c0 h1 l1 ⊢;obtain ⟨x0,s1⟩:=y;simp only at c0 h1 l1 ⊢;have b1:(σ.AH i (psA L s1)).blk i=some (psA L s1):=AX)
 (have c1:=hE (σ.AH i (psA L s1)) s1 g0 h1 (by omega) b1;rw [AN] at c1;have h2:=h1.run (E);have l2:=PM.le (E) h1.wf;generalize (E).run s1=y at c1 h2 l2 ⊢;obtain ⟨x1,s2⟩:=y;simp only at c1 h2 l2 ⊢;have b2:(σ.AH i (psA L s2)).blk i=some (psA L s2):=AX;obtain ⟨o0,n0,u0,ns0,ks0,al0⟩:=x1;simp only [exA,Ex.AS,AB,AE] at c1 ⊢)
 have hw0:IntKind.i64.wrap ((m:Int) - 1)=((m - 1:Nat):Int):=by rw [BF (by omega) (by omega)];omega
 (repeat' (first|refine ctQ rfl ?_|((first|refine rgQ mxQ ?_|refine cdQ ?_|(refine AD.upd c0 ?_)|(refine AD.upd c1 ?_)|(refine Fh.own rfl (by decide) (fun tk htk=>?_)))<;>try simp -implicitDefEqProofs only [hw0,go_sem])|fail))
 refine Run.BU ?_
 refine Run.BZ ((fun (a0:AV) (a12:AV)=>fun (y:PSt×List Ex×Nat×AV×AK)=>put 0 a0 (put 5 (y.2.2.2.1) (put 12 a12 (put 13 (.d (.int .i64 (y.2.2.1:Nat))) U)))) _ _) (fun _=>Ab.E) (fun y=>y.2.2.2.2) (fun y=>POk L y.1∧y.1.r.length≤n∧y.2.1.length≤1+y.2.2.1∧y.2.2.1≤m - 1∧LS σ i L y.1 44 6 (y.2.1.map Ex.enc) y.2.2.2.1 y.2.2.2.2∧(dO E (m - 1 - y.2.2.1) y.2.1).run y.1=(dO E (m - 1) [Ex.mk o0 n0 u0 ns0 ks0 al0]).run s2) (fun y=>m - 1 - y.2.2.1) ?_ (s2,[Ex.mk o0 n0 u0 ns0 ks0 al0],0,.own tk 44 6 _,_) ⟨h2,by simp only;omega,by simp,by simp only;omega,?_,rfl⟩
 rotate_left
 · simp only [AB,AE,Ex.AS]
   exact LS.lit htk
 rintro ⟨s2',l,k,v,τ⟩ ⟨f1,f2,f3,f4,f5,f6⟩ ih
 simp only at f1 f2 f3 f4 f5 f6
 by_cases hk:k < m - 1
 · obtain ⟨q,hq⟩:∃q,m - 1 - k=q+1:=⟨m - 2 - k,by omega⟩
   rw [hq] at f6
   simp only [dO,run_bind] at f6
   have e0:=Uu f1 [44] (by decide) τ f5.blk
   have f1a:=f1.run (PM.exp [44] (by decide))
   have l1a:=PM.le (PM.exp [44] (by decide)) f1.wf
   have f5a:=f5.step ((PM.exp [44] (by decide)).run s2').2
   generalize (PM.exp [44] (by decide)).run s2'=y at e0 f1a l1a f5a f6
   obtain ⟨z,s3⟩:=y
   simp only at e0 f1a l1a f5a f6
   have e1:=hE _ s3 (f5a.gt g0) f1a (by omega) f5a.blk
   rw [AN] at e1
   have f1b:=f1a.run E
   have l1b:=PM.le E f1a.wf
   have f5b:=f5.step (E.run s3).2
   generalize E.run s3=y at e1 f1b l1b f5b f6
   obtain ⟨x,s4⟩:=y
   simp only at e1 f1b l1b f5b f6
   obtain ⟨o,nm,u,ns,ks,al⟩:=x
   simp only [exA,Ex.AS,AB,AE] at e1
   have hw:=BV (a:=k) (by omega)
   (repeat' (first|refine ctQ rfl ?_|((first|refine rgQ mxQ ?_|refine cdQ ?_|(refine AD.upd e0 ?_)|(refine AD.upd e1 ?_))<;>try simp -implicitDefEqProofs only [Zt,decide_eq_true hk,go_sem])|fail))
   (apply LS.tok f5b;rfl;simp;(simp only [AJ,AG,AI];omega);decide;intro v2 τ2 ho);simp -implicitDefEqProofs only [if_true,go_sem]
   (repeat' (first|refine ctQ rfl ?_|((first|refine rgQ mxQ ?_|refine cdQ ?_)<;>try simp -implicitDefEqProofs only [if_true,hw,go_sem])|fail))
   refine ih (s4,l++[Ex.mk o nm u ns ks al],k+1,v2,τ2) ⟨f1b,by simp only;omega,by simp only [AA,AG,AI];omega,by simp only;omega,?_,?_⟩ (by simp only;omega)
   · simp only [Ax,AB,AE,Ex.AS];exact ho
   · simp only;rw [show m - 1 - (k+1)=q by omega];exact f6
 · have hk0:m - 1 - k=0:=by omega
   rw [hk0] at f6
   simp only [dO,run_pure] at f6
   rw [← f6]
   simp only
   have e0:=Uu f1 [41] (by decide) τ f5.blk
   have f5a:=f5.step ((PM.exp [41] (by decide)).run s2').2
   (repeat' (first|refine ctQ rfl ?_|((first|refine rgQ mxQ ?_|refine cdQ ?_|(refine AD.upd e0 ?_)|(refine Run.A2 Ht f5a.le ?_))<;>try simp -implicitDefEqProofs only [Zt,decide_eq_false hk,f5.own.BL,f5.own.plain,if_true,go_sem])|fail))
end Go.Ab
namespace Go.Ab
open Go.Proofs
theorem RS.nil (σ:AK) (i:Nat) (L:List Tok) (s:RSt) (e z:Nat):RS σ i L s e z [] .AO (σ.AH i (rsA L s)):=RS.of (Cg.nil _ _ _)
def RPo {α:Type} (fid:FuncId) (args:List AV) (i:Nat) (L:List Tok) (n:Nat) (m:RM (List α)) (e z:Nat) (enc:α→List DV):Prop:=
 ∀(σ:AK) (s:RSt),True→ROk L s→s.r.length≤n→σ.blk i=some (rsA L s)→AP Tryz.prog fid args σ (fun v σ'=>Cg (σ.AH i (rsA L (m.run s).2)) e z ((m.run s).1.map enc) v σ')
theorem RPo.pc {α:Type} {fid:FuncId} {args:List AV} {i:Nat} {L:List Tok} {n:Nat} {m:RM (List α)} {e z:Nat} {enc:α→List DV} (h:RPo fid args i L n m e z enc):RPC fid args i L n m (fun l=>.d (.sl (l.map enc))):=fun σ s hg h1 h2 h3=>(h σ s hg h1 h2 h3).vY
theorem RPo.mono {α:Type} {fid:FuncId} {args:List AV} {i:Nat} {L:List Tok} {n k:Nat} {m:RM (List α)} {e z:Nat} {enc:α→List DV} (h:RPo fid args i L n m e z enc) (hk:k≤n):RPo fid args i L k m e z enc:=fun σ s hg h1 h2 h3=>h σ s hg h1 (Ay h2 hk) h3
theorem Ig {α:Type} {read:RM α} {t:Str} {s:RSt}:(BX read t).run s=(B5 read t Af [(read.run s).1]).run (read.run s).2:=rfl
theorem Tb (i:Nat) (L:List Tok) (n:Nat) {T:RM TE} (hT:RPC 132 [.gp i 0] i L n T teA):
 RPo 76 [.gp i 0] i L n (BX T [44]) 75 3 TE.enc:=by
 intro σ s0 g0 h0 l0 b0
 refine OP (by simp) ?_
 rw [Ar,Ig]
 have hf0:=Bo
 have hl0:=h0.suf.length_le
 have hl1:=h0.len
 (have c0:=hT σ s0 g0 h0 (by omega) b0;have h1:=h0.run (T);have l1:=RM.le (T) h0.wf;generalize (T).run s0=y at c0 h1 l1 ⊢;obtain ⟨x0,s1⟩:=y;simp only at c0 h1 l1 ⊢;have b1:(σ.AH i (rsA L s1)).blk i=some (rsA L s1):=AX;obtain ⟨k0,n0,a0⟩:=x0;simp only [teA,TE.AS,AB,AE] at c0 ⊢)
 (repeat' (first|refine ctQ rfl ?_|((first|refine rgQ mxQ ?_|refine cdQ ?_|(refine AD.upd c0 ?_)|(refine Fh.own rfl (by decide) (fun tk htk=>?_)))<;>try simp -implicitDefEqProofs only [go_sem])|fail))
 refine Run.BU ?_
 refine Run.BZ ((fun (a0:AV)=>fun (y:RSt×List TE×Nat×AV×AK)=>put 0 a0 (put 3 (y.2.2.2.1) U)) _) (fun _=>E) (fun y=>y.2.2.2.2) (fun y=>ROk L y.1∧y.1.r.length≤n∧y.1.r.length≤y.2.2.1∧y.2.1.length+y.1.r.length≤17001∧RS σ i L y.1 75 3 (y.2.1.map TE.enc) y.2.2.2.1 y.2.2.2.2∧(B5 T [44] y.2.2.1 y.2.1).run y.1=(B5 T [44] Af [TE.mk k0 n0 a0]).run s1) (fun y=>y.1.r.length) ?_ (s1,[TE.mk k0 n0 a0],Af,.own tk 75 3 _,_) ⟨h1,by simp only;omega,by simp only;omega,by simp only [AG,AI];omega,?_,rfl⟩
 rotate_left
 · simp only [AB,AE,TE.AS]
   exact RS.lit htk
 rintro ⟨s2,l,q,v,τ⟩ ⟨g1,g2,g3,g4,g5,g6⟩ ih
 simp only at g1 g2 g3 g4 g5 g6
 obtain ⟨q,rfl⟩:∃m,q=m+1:=⟨q - 1,by have:=A5.2 g1.wf.ne;omega⟩
 cases hcc:s2.is [44] with
 |false=>
  rw [FP hcc] at g6
  rw [← g6]
  (repeat' (first|refine ctQ rfl ?_|((first|refine rgQ mxQ ?_|refine cdQ ?_|(refine AD.upd (CN g1 _ τ g5.blk hcc) ?_)|(refine Run.FT J0 (AK.le_refl _) ?_))<;>try simp -implicitDefEqProofs only [g5.own.BL,if_true,go_sem])|fail))
  exact g5.fin
 |true=>
  rw [Fw hcc] at g6
  have c1:=CU g1 _ τ g5.blk hcc
  have g1a:=g1.adv (t:=[44]) trivial hcc
  have hal:=Am g1.wf
  have hst0:=g5.step s2.adv
  generalize s2.adv=s3 at c1 g1a hal hst0 g6
  have c2:=hT _ s3 trivial g1a (by omega) hst0.blk
  rw [AN] at c2
  have h1':=g1a.run T
  have hle:=RM.le T g1a.wf
  have hst:=g5.step (T.run s3).2
  generalize T.run s3=y at c2 h1' hle g6 hst
  obtain ⟨x,s4⟩:=y
  simp only at c2 h1' hle g6 hst
  obtain ⟨k1,n1,a1⟩:=x
  simp only [teA,TE.AS,AB,AE] at c2
  (repeat' (first|refine ctQ rfl ?_|((first|refine rgQ mxQ ?_|refine cdQ ?_|(refine AD.upd c1 ?_)|(refine AD.upd c2 ?_)|(refine hst.tok rfl (by simp) (by simp;omega) (by decide) (fun v2 τ2 ho=>?_)))<;>try simp -implicitDefEqProofs only [go_sem])|fail))
  try (repeat' (first|refine ctQ rfl ?_|((first|refine rgQ mxQ ?_|refine cdQ ?_)<;>try simp -implicitDefEqProofs only [ho.own.w4,ho.own.plain,ho.own.dv,if_true,go_sem])|fail))
  refine ih (s4,l++[_],q,v2,τ2) ⟨h1',by simp only;omega,by simp only;omega,by simp only [AA,AG,AI];omega,?_,g6⟩ (by simp only;omega)
  simp only [Ax,AB,AE,TE.AS]
  exact ho
theorem XM (i:Nat) (L:List Tok) (n:Nat) {T:RM Ex} (hT:RPC 35 [.gp i 0] i L n T exA):
 RPo 190 [.gp i 0] i L n (BX T [44]) 44 6 Ex.enc:=by
 intro σ s0 g0 h0 l0 b0
 refine Vn (by simp) ?_
 rw [Ar,Ig]
 have hf0:=Bo
 have hl0:=h0.suf.length_le
 have hl1:=h0.len
 (have c0:=hT σ s0 g0 h0 (by omega) b0;have h1:=h0.run (T);have l1:=RM.le (T) h0.wf;generalize (T).run s0=y at c0 h1 l1 ⊢;obtain ⟨x0,s1⟩:=y;simp only at c0 h1 l1 ⊢;have b1:(σ.AH i (rsA L s1)).blk i=some (rsA L s1):=AX;obtain ⟨o0,n0,u0,ns0,ks0,al0⟩:=x0;simp only [exA,Ex.AS,AB,AE] at c0 ⊢)
 (repeat' (first|refine ctQ rfl ?_|((first|refine rgQ mxQ ?_|refine cdQ ?_|(refine AD.upd c0 ?_)|(refine Fh.own rfl (by decide) (fun tk htk=>?_)))<;>try simp -implicitDefEqProofs only [go_sem])|fail))
 refine Run.BU ?_
 refine Run.BZ ((fun (a0:AV)=>fun (y:RSt×List Ex×Nat×AV×AK)=>put 0 a0 (put 3 (y.2.2.2.1) U)) _) (fun _=>E) (fun y=>y.2.2.2.2) (fun y=>ROk L y.1∧y.1.r.length≤n∧y.1.r.length≤y.2.2.1∧y.2.1.length+y.1.r.length≤17001∧RS σ i L y.1 44 6 (y.2.1.map Ex.enc) y.2.2.2.1 y.2.2.2.2∧(B5 T [44] y.2.2.1 y.2.1).run y.1=(B5 T [44] Af [Ex.mk o0 n0 u0 ns0 ks0 al0]).run s1) (fun y=>y.1.r.length) ?_ (s1,[Ex.mk o0 n0 u0 ns0 ks0 al0],Af,.own tk 44 6 _,_) ⟨h1,by simp only;omega,by simp only;omega,by simp only [AG,AI];omega,?_,rfl⟩
 rotate_left
 · simp only [AB,AE,Ex.AS]
   exact RS.lit htk
 rintro ⟨s2,l,q,v,τ⟩ ⟨g1,g2,g3,g4,g5,g6⟩ ih
 simp only at g1 g2 g3 g4 g5 g6
 obtain ⟨q,rfl⟩:∃m,q=m+1:=⟨q - 1,by have:=A5.2 g1.wf.ne;omega⟩
 cases hcc:s2.is [44] with
 |false=>
  rw [FP hcc] at g6
  rw [← g6]
  (repeat' (first|refine ctQ rfl ?_|((first|refine rgQ mxQ ?_|refine cdQ ?_|(refine AD.upd (CN g1 _ τ g5.blk hcc) ?_)|(refine Run.FT OO (AK.le_refl _) ?_))<;>try simp -implicitDefEqProofs only [g5.own.BL,if_true,go_sem])|fail))
  exact g5.fin
 |true=>
  rw [Fw hcc] at g6
  have c1:=CU g1 _ τ g5.blk hcc
  have g1a:=g1.adv (t:=[44]) trivial hcc
  have hal:=Am g1.wf
  have hst0:=g5.step s2.adv
  generalize s2.adv=s3 at c1 g1a hal hst0 g6
  have c2:=hT _ s3 trivial g1a (by omega) hst0.blk
  rw [AN] at c2
  have h1':=g1a.run T
  have hle:=RM.le T g1a.wf
  have hst:=g5.step (T.run s3).2
  generalize T.run s3=y at c2 h1' hle g6 hst
  obtain ⟨x,s4⟩:=y
  simp only at c2 h1' hle g6 hst
  obtain ⟨o1,n1,u1,ns1,ks1,al1⟩:=x
  simp only [exA,Ex.AS,AB,AE] at c2
  (repeat' (first|refine ctQ rfl ?_|((first|refine rgQ mxQ ?_|refine cdQ ?_|(refine AD.upd c1 ?_)|(refine AD.upd c2 ?_)|(refine hst.tok rfl (by simp) (by simp;omega) (by decide) (fun v2 τ2 ho=>?_)))<;>try simp -implicitDefEqProofs only [go_sem])|fail))
  try (repeat' (first|refine ctQ rfl ?_|((first|refine rgQ mxQ ?_|refine cdQ ?_)<;>try simp -implicitDefEqProofs only [ho.own.w4,ho.own.plain,ho.own.dv,if_true,go_sem])|fail))
  refine ih (s4,l++[_],q,v2,τ2) ⟨h1',by simp only;omega,by simp only;omega,by simp only [AA,AG,AI];omega,?_,g6⟩ (by simp only;omega)
  simp only [Ax,AB,AE,Ex.AS]
  exact ho
theorem XL {α:Type} {read:RM α} {s:RSt} (h:s.is [41]=true):(Mp read).run s=([],s.adv):=if_pos h
theorem XK {α:Type} {read:RM α} {s:RSt} (h:s.is [41]=false):(Mp read).run s=(((BX read [44]).run s).1,((RM.A9 [41]).run ((BX read [44]).run s).2).2):=if_neg (by rw [h];decide)
theorem eS (i:Nat) (L:List Tok) (n:Nat):RPo 34 [.gp i 0] i L n Oc 9 1 Br:=by
 intro σ s0 g0 h0 l0 b0
 refine Vo (by simp) ?_
 rw [Ar]
 have hf0:=Bo
 have hl0:=h0.suf.length_le
 have hl1:=h0.len
 simp only [Oc,BD]
 (have c0:=(B7 i L n [40]) σ s0 g0 h0 (by omega) b0;have h1:=h0.run (RM.A9 [40]);have l1:=RM.le (RM.A9 [40]) h0.wf;generalize (RM.A9 [40]).run s0=y at c0 h1 l1 ⊢;obtain ⟨x0,s1⟩:=y;simp only at c0 h1 l1 ⊢;have b1:(σ.AH i (rsA L s1)).blk i=some (rsA L s1):=AX)
 cases hc1:s1.is [41] with
 |true=>
  rw [XL hc1]
  (have c1:=CU h1 [41] (σ.AH i (rsA L s1)) b1 hc1;rw [AN] at c1;have h2:=h1.adv (t:=[41]) (by decide) hc1;have l2:=Am h1.wf;generalize s1.adv=s2 at c1 h2 l2 ⊢;have b2:(σ.AH i (rsA L s2)).blk i=some (rsA L s2):=by rw [AZ,if_pos rfl])
  (repeat' (first|refine ctQ rfl ?_|((first|refine rgQ mxQ ?_|refine cdQ ?_|(refine AD.upd c0 ?_)|(refine AD.upd c1 ?_)|(refine Run.FT JZ (AK.le_refl _) ?_))<;>try simp -implicitDefEqProofs only [go_sem])|fail))
  exact Cg.nil _ _ _
 |false=>
  rw [XK hc1,Ig]
  have f1:=CN h1 _ (σ.AH i (rsA L s1)) b1 hc1
  (have c1:=(Lh i L n) (σ.AH i (rsA L s1)) s1 g0 h1 (by omega) b1;rw [AN] at c1;have h2:=h1.run (D9);have l2:=RM.le (D9) h1.wf;generalize (D9).run s1=y at c1 h2 l2 ⊢;obtain ⟨x1,s2⟩:=y;simp only at c1 h2 l2 ⊢;have b2:(σ.AH i (rsA L s2)).blk i=some (rsA L s2):=AX)
  (repeat' (first|refine ctQ rfl ?_|((first|refine rgQ mxQ ?_|refine cdQ ?_|(refine AD.upd c0 ?_)|(refine AD.upd c1 ?_)|(refine (RS.nil σ i L s2 _ _).tok rfl (by simp) (by simp) (by decide) (fun v2 τ2 ho=>?_))|refine AD.det (f1) ?_)<;>try simp -implicitDefEqProofs only [go_sem])|fail))
  (repeat' (first|refine ctQ rfl ?_|((first|refine rgQ mxQ ?_|refine cdQ ?_)<;>try simp -implicitDefEqProofs only [ho.own.w4,ho.own.plain,ho.own.dv,if_true,go_sem])|fail))
  rw [A6] at ho
  refine Run.BU ?_
  refine Run.BZ ((fun (a0:AV)=>fun (y:RSt×List Str×Nat×AV×AK)=>put 0 a0 (put 3 (y.2.2.2.1) U)) _) (fun _=>E) (fun y=>y.2.2.2.2) (fun y=>ROk L y.1∧y.1.r.length≤n∧y.1.r.length≤y.2.2.1∧y.2.1.length+y.1.r.length≤17001∧RS σ i L y.1 9 1 (y.2.1.map Br) y.2.2.2.1 y.2.2.2.2∧(B5 D9 [44] y.2.2.1 y.2.1).run y.1=(B5 D9 [44] Af [x1]).run s2) (fun y=>y.1.r.length) ?_ (s2,[x1],Af,v2,τ2) ⟨h2,by simp only;omega,by simp only;omega,by simp only [AG,AI];omega,ho,rfl⟩
  clear ho τ2 v2
  rintro ⟨s2,l,q,v,τ⟩ ⟨g1,g2,g3,g4,g5,g6⟩ ih
  simp only at g1 g2 g3 g4 g5 g6
  obtain ⟨q,rfl⟩:∃m,q=m+1:=⟨q - 1,by have:=A5.2 g1.wf.ne;omega⟩
  cases hcc:s2.is [44] with
  |false=>
   rw [FP hcc] at g6
   rw [← g6]
   have c4:=B7 i L n [41] τ s2 trivial g1 g2 g5.blk
   have g5a:=g5.step ((RM.A9 [41]).run s2).2
   (repeat' (first|refine ctQ rfl ?_|((first|refine rgQ mxQ ?_|refine cdQ ?_|(refine AD.upd (CN g1 _ τ g5.blk hcc) ?_)|(refine AD.upd c4 ?_)|(refine Run.FT JZ (AK.le_refl _) ?_))<;>try simp -implicitDefEqProofs only [g5.own.BL,if_true,go_sem])|fail))
   exact g5a.fin
  |true=>
   rw [Fw hcc] at g6
   have c1:=CU g1 _ τ g5.blk hcc
   have g1a:=g1.adv (t:=[44]) trivial hcc
   have hal:=Am g1.wf
   have hst0:=g5.step s2.adv
   generalize s2.adv=s3 at c1 g1a hal hst0 g6
   have c2:=Lh i L n _ s3 trivial g1a (by omega) hst0.blk
   rw [AN] at c2
   have h1':=g1a.run D9
   have hle:=RM.le D9 g1a.wf
   have hst:=g5.step (D9.run s3).2
   generalize D9.run s3=y at c2 h1' hle g6 hst
   obtain ⟨x,s4⟩:=y
   simp only at c2 h1' hle g6 hst
   (repeat' (first|refine ctQ rfl ?_|((first|refine rgQ mxQ ?_|refine cdQ ?_|(refine AD.upd c1 ?_)|(refine AD.upd c2 ?_)|(refine hst.tok rfl (by simp) (by simp;omega) (by decide) (fun v2 τ2 ho=>?_)))<;>try simp -implicitDefEqProofs only [go_sem])|fail))
   try (repeat' (first|refine ctQ rfl ?_|((first|refine rgQ mxQ ?_|refine cdQ ?_)<;>try simp -implicitDefEqProofs only [ho.own.w4,ho.own.plain,ho.own.dv,if_true,go_sem])|fail))
   refine ih (s4,l++[_],q,v2,τ2) ⟨h1',by simp only;omega,by simp only;omega,by simp only [AA,AG,AI];omega,?_,g6⟩ (by simp only;omega)
   simp only [Ax,AB,AE,Br]
   exact ho
theorem eT {L:List Tok} {s:RSt} (hN:NOk L) (hs:ROk L s):Zw ((RM.word 3 (by decide)).run s).1:=by
 by_cases hc:(!s.b&&s.hd.kind==3)=true
 · have e:(RM.word 3 (by decide)).run s=(s.hd.text,s.adv):=if_pos hc
   rw [e]
   simp only [AR] at hc
   refine hN s.hd (hs.suf.subset ?_) (by simpa using hc.2)
   obtain ⟨r,b⟩:=s
   cases r with
   |nil=>exact hs.wf.elim
   |cons t l=>exact BB ..
 · have e:(RM.word 3 (by decide)).run s=([],⟨s.r,true⟩):=if_neg hc
   rw [e];exact .inl rfl
theorem sD {s:Str} (h:Zw s):IW s 0=some (Rt s)∧s.length≤20000:=by
 rcases h with rfl|⟨_,_,h1,h2⟩
 · exact ⟨rfl,by simp⟩
 · obtain ⟨v,hv⟩:=YK.1 h1
   exact ⟨by rw [Rt,hv];rfl,h2⟩
theorem Yr (i:Nat) {L:List Tok} (hN:NOk L) (n:Nat):RPC 198 [.gp i 0] i L n Ju (fun x=>.d (.int .i64 x)):=by
 intro σ s0 g0 h0 l0 b0
 refine Ux (by simp) ?_
 rw [Ar]
 simp only [Ju,jX]
 have hn:=sD (eT hN h0)
 have c0:=bA i L n 3 (by decide) σ s0 g0 h0 l0 b0
 have c1:=YC ((RM.word 3 (by decide)).run s0).1 (σ.AH i (rsA L ((RM.word 3 (by decide)).run s0).2)) (by omega)
 rw [hn.1] at c1
 simp only at c1
 (repeat' (first|refine ctQ rfl ?_|((first|refine rgQ mxQ ?_|refine cdQ ?_|refine Run.A2 NR (AK.le_refl _) ?_|(refine AD.upd c0 ?_)|refine AD.det (c1) ?_)<;>try simp -implicitDefEqProofs only [go_sem])|fail))
theorem pQ {L:List Tok} {s:RSt} (hN:NOk L) (hs:ROk L s):0≤(Ju.run s).1∧(Ju.run s).1≤1000000:=gE (eT hN hs)
end Go.Ab
