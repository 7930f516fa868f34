/- Names. Valid written types. Valid written types and nodes. Valid nodes. The parser: numbers, operators, arguments. Conditions: none. -/
import Derived.Test.YtifplkldbbcldaaGreatDoorXPf
set_option linter.unusedSimpArgs false
set_option linter.unusedVariables false
set_option maxRecDepth 4000
set_option maxHeartbeats 8000000
open List renaming map_cons→AE,map_nil→AH,length_map→AI,mem_of_getElem?→Ai,all_append→CP,length_nil→AF,mem_cons_self→A9,length_cons→AD,length_append→AA,map_append→Bc
open Bool renaming not_eq_true'→Dy,eq_iff_iff→IA
open Int renaming reduceBEq→A5
namespace Go.Ab
open Go.Proofs
def singleR (r:List Tok×Nat×Int) (k:Int) (s:Str):Bool:=
 r.2.2==0&&(r.1.length==2&&(match r.1 with|[]=>false|a::_=>a.kind==k&&a.text==s))
theorem cS (k:Int) (s:Str):Ou k s=singleR (BF s) k s:=rfl
theorem oY {α:Type} {l:List α} (h:l.length=2):∃a b,l=[a,b]:=by
 match l,h with
 |[a,b],_=>exact ⟨a,b,rfl⟩
theorem Mf (s:Str) (k:Int) (σ:AN):AT Tryz.prog 107 [.d (.str s),.d (.int .i64 k)] σ (fun v σ'=>v= .d (.bool (Ou k s))∧σ'=σ):=by
 refine Tv (by simp) ?_
 rw [BH,cS]
 have hsp:=Qr s σ
 generalize BF s=r at hsp ⊢
 obtain ⟨l,q,e⟩:=r
 simp only [Sh] at hsp
 cases he:(e==0) with
 |false=>
  (repeat' (first|refine Run.ct rfl ?_|((first|refine Run.reg mixed ?_|refine Run.AM ?_|refine Run.Af FD (AN.le_refl _) ?_|refine AG.det (hsp) ?_)<;>try simp -implicitDefEqProofs only [he,go_sem])|fail))
  simp [singleR,he]
 |true=>
 by_cases hl:l.length=2
 · obtain ⟨⟨ak,at',ap⟩,b,rfl⟩:=oY hl
   simp only [Tok.enc,AE,AH] at hsp
   cases hk:(ak==k) with
   |false=>
    (repeat' (first|refine Run.ct rfl ?_|((first|refine Run.reg mixed ?_|refine Run.AM ?_|refine Run.Af FD (AN.le_refl _) ?_|refine AG.det (hsp) ?_|(refine AQ rfl (fun h=>?_) (fun h=>?_)<;>try (cases h;done)))<;>try simp -implicitDefEqProofs only [he,hk,go_sem])|fail))
    simp [singleR,hk]
   |true=>
    (repeat' (first|refine Run.ct rfl ?_|((first|refine Run.reg mixed ?_|refine Run.AM ?_|refine Run.Af FD (AN.le_refl _) ?_|refine AG.det (hsp) ?_|(refine AQ rfl (fun h=>?_) (fun h=>?_)<;>try (cases h;done)))<;>try simp -implicitDefEqProofs only [he,hk,Qp,go_sem])|fail))
    simp [singleR,hk,he]
 · have h2:((l.length:Int)==2)=false:=by simp only [beq_eq_false_iff_ne,ne_eq];omega
   (repeat' (first|refine Run.ct rfl ?_|((first|refine Run.reg mixed ?_|refine Run.AM ?_|refine Run.Af FD (AN.le_refl _) ?_|refine AG.det (hsp) ?_)<;>try simp -implicitDefEqProofs only [he,AI,h2,go_sem])|fail))
   simp [singleR,hl]
theorem DZ (s:Str) (σ:AN):AT Tryz.prog 51 [.d (.str s)] σ (fun v σ'=>v= .d (.bool (Gr s))∧σ'=σ):=by
 refine Ut (by simp) ?_
 rw [BM]
 (repeat' (first|refine Run.ct rfl ?_|((first|refine Run.reg mixed ?_|refine Run.AM ?_|refine Run.Af PF (AN.le_refl _) ?_|refine AG.det (Mf s 1 _) ?_)<;>try simp -implicitDefEqProofs only [go_sem])|fail))
 rfl
theorem BY (s:Str) (σ:AN):AT Tryz.prog 101 [.d (.str s)] σ (fun v σ'=>v= .d (.bool (upperB s))∧σ'=σ):=by
 refine Tw (by simp) ?_
 rw [BM]
 (repeat' (first|refine Run.ct rfl ?_|((first|refine Run.reg mixed ?_|refine Run.AM ?_|refine Run.Af NW (AN.le_refl _) ?_|refine AG.det (Mf s 2 _) ?_)<;>try simp -implicitDefEqProofs only [go_sem])|fail))
 rfl
theorem J9 (s:Str) (σ:AN):AT Tryz.prog 157 [.d (.str s)] σ (fun v σ'=>v= .d (.bool (Gi s))∧σ'=σ):=by
 refine Us (by simp) ?_
 rw [BM]
 cases h0:(s==[]) with
 |true=>
  (repeat' (first|refine Run.ct rfl ?_|((first|refine Run.reg mixed ?_|refine Run.AM ?_|refine Run.Af Ka (AN.le_refl _) ?_)<;>try simp -implicitDefEqProofs only [Qp,h0,go_sem])|fail))
  simp [Gi,h0]
 |false=>
  (repeat' (first|refine Run.ct rfl ?_|((first|refine Run.reg mixed ?_|refine Run.AM ?_|refine Run.Af Ka (AN.le_refl _) ?_|refine AG.det (DZ s _) ?_)<;>try simp -implicitDefEqProofs only [Qp,h0,go_sem])|fail))
  simp [Gi,h0]
theorem r1 {α:Type} {p:α→Bool} {l:List α} {i:Nat} {x:α} (hx:l[i]?=some x) (hp:p x=false):l.all p=false:=by
 rw [List.all_eq_false];exact ⟨x,Ai hx,by rw [hp];simp⟩
theorem jU {α:Type} {p:α→Bool} {l:List α} {i:Nat} {x:α} (h:(l.take i).all p=true) (hx:l[i]?=some x) (hp:p x=true):(l.take (i+1)).all p=true:=by
 rw [La hx,CP,h];simp [hp]
end Go.Ab
namespace Go.Ab
open Go.Proofs
end Go.Ab
namespace Go.Ab
open Go.Proofs
theorem Pn (d:Nat) (hd:∀(t:TE) (σ:AN),t.size≤1000000→AT Tryz.prog 106 [teA t,.d (.int .i64 ((41 - d:Nat):Int))] σ (fun v σ'=>v= .d (.bool (D3 d t))∧σ'=σ)) (hd40:d < 40)
 (t:TE) (j:Nat) (σ:AN) (hsz:t.size≤1000000) (hj:σ.blk j=some [.d (.int .i64 ((40 - d:Nat):Int))]):
 AT Tryz.prog 153 [teA t,.gp j 0] σ (fun v σ'=>v= .d (.bool (D3 d t))∧σ'=σ):=by
 refine QX (by simp) ?_
 rw [BH]
 have hc:=hd t σ hsz
 obtain ⟨k,n,l⟩:=t
 simp only [TE.A3,teA,AE,AH] at hc ⊢
 have hw:IntKind.i64.wrap (((40 - d:Nat):Int)+1)=((41 - d:Nat):Int):=by rw [BL (by omega) (by omega)];omega
 (repeat' (first|refine Run.ct rfl ?_|((first|refine Run.reg mixed ?_|refine Run.AM ?_|refine Run.Af KG (AN.le_refl _) ?_|refine AG.det (hc) ?_)<;>try simp -implicitDefEqProofs only [hj,hw,go_sem])|fail))
set_option maxHeartbeats 4000000 in
theorem Rg:∀(d:Nat),d≤40→∀(t:TE) (σ:AN),t.size≤1000000→AT Tryz.prog 106 [teA t,.d (.int .i64 ((41 - d:Nat):Int))] σ (fun v σ'=>v= .d (.bool (D3 d t))∧σ'=σ):=by
 intro d
 induction d with
 |zero=>
  rintro _ ⟨k,n,l⟩ σ _
  refine MB (by simp) ?_
  rw [BH,teA,TE.A3]
  (repeat' (first|refine Run.ct rfl ?_|((first|refine Run.reg mixed ?_|refine Run.AM ?_)<;>try simp -implicitDefEqProofs only [go_sem])|fail))
  intro j hj
  have hle:=Ec (cs:=[.d (.int .i64 ((41 - 0:Nat):Int))]) hj
  have h0:decide ((40:Int) < ((41 - 0:Nat):Int))=true:=by decide
  (repeat' (first|refine Run.ct rfl ?_|((first|refine Run.reg mixed ?_|refine Run.AM ?_|(refine Run.Af H5 (σ2:=σ) hle ?_))<;>try simp -implicitDefEqProofs only [h0,go_sem])|fail))
  rfl
 |succ d ihd=>
  rintro hd ⟨k,n,l⟩ σ hsz
  have hlen:=TE.Ho l
  have hsz1:TE.BK l+1≤1000000:=by simpa [TE.size,Nat.add_comm] using hsz
  have hd1:=ihd (by omega)
  refine MB (by simp) ?_
  rw [BH,teA,TE.A3]
  have h0:decide ((40:Int) < ((41 - (d+1):Nat):Int))=false:=by simp only [decide_eq_false_iff_not];omega
  (repeat' (first|refine Run.ct rfl ?_|((first|refine Run.reg mixed ?_|refine Run.AM ?_)<;>try simp -implicitDefEqProofs only [go_sem])|fail))
  intro j hj
  have hle:=Ec (cs:=[.d (.int .i64 ((41 - (d+1):Nat):Int))]) hj
  have hall:=Kp (fid:=153) (caps:=[.gp j 0]) (by kernel_rfl) rfl (D3 d) l (σ.AL j [.d (.int .i64 ((41 - (d+1):Nat):Int))]) (fun x hx σ1 hle1=>by
   have hms:=TE.Sa hx
   refine Pn d hd1 (by omega) x j σ1 (by omega) ?_
   rw [hle1.blk j _ (by simp only [AO,if_true];rfl)]
   rw [show 41 - (d+1)=40 - d by omega])
  clear hd1 ihd
  (repeat' (first|refine Run.ct rfl ?_|((first|refine Run.reg mixed ?_|refine Run.AM ?_|(refine Run.Af H5 (σ2:=σ) hle ?_)|refine AG.det (DZ _ _) ?_|refine AG.det (BY _ _) ?_|refine AG.det (hall) ?_|(refine AQ rfl (fun h=>?_) (fun h=>?_)<;>try (cases h;done)))<;>try simp -implicitDefEqProofs only [h0,BT,AI,go_sem])|(refine ⟨fun h=>?_,fun h=>?_⟩<;>first|(cases h;done)|try simp only [h])|fail))
  all_goals clear hall h0
  all_goals (simp only [bne,beq_iff_eq,beq_eq_false_iff_ne,ne_eq,Dy,Bool.not_eq_false',decide_eq_true_eq,decide_eq_false_iff_not] at *;simp_all [D3,Cp];first|done|omega|(intros;omega)|(intros;exfalso;omega)|(rcases l with _|⟨a,l⟩<;>simp<;>omega))
end Go.Ab
namespace Go.Ab
open Go.Proofs
theorem wK (n:Nat):((n:Int)==0)=decide (n=0):=by rw [IA];simp only [beq_iff_eq,decide_eq_true_eq];omega
def My (n:Str) (u:Int) (a b:Nat):Bool:=n==[]&&(u==0&&(decide (a=0)&&decide (b=0)))
theorem KN (o:Int) (n:Str) (u:Int) (ns ks al:List (List DV)) (σ:AN):
 AT Tryz.prog 156 [.agg [.d (.int .i64 o),.d (.str n),.d (.int .i64 u),.d (.sl ns),.d (.sl ks),.d (.sl al)]] σ (fun v σ'=>v= .d (.bool (My n u ns.length al.length))∧σ'=σ):=by
 refine Vr (by simp) ?_
 rw [BM]
 cases h1:(n==[])<;>cases h2:(u==0)<;>cases h3:decide (ns.length=0)
 all_goals (repeat' (first|refine Run.ct rfl ?_|((first|refine Run.reg mixed ?_|refine Run.AM ?_|refine Run.Af QF (AN.le_refl _) ?_)<;>try simp -implicitDefEqProofs only [Qp,h1,h2,h3,wK,go_sem])|fail))
 all_goals (unfold My;rw [h1,h2,h3];rfl)
theorem iH (o:Int) (n:Str) (u:Int) (ks al:List (List DV)) (σ:AN):
 AT Tryz.prog 156 [.agg [.d (.int .i64 o),.d (.str n),.d (.int .i64 u),.AU,.d (.sl ks),.d (.sl al)]] σ (fun v σ'=>v= .d (.bool (My n u 0 al.length))∧σ'=σ):=
 AT.plain (by simpa only [AV.Eb,UL,Yg,Sc,AF] using KN o n u [] ks al σ)
theorem iI (o:Int) (n:Str) (u:Int) (ns ks:List (List DV)) (σ:AN):
 AT Tryz.prog 156 [.agg [.d (.int .i64 o),.d (.str n),.d (.int .i64 u),.d (.sl ns),.d (.sl ks),.AU]] σ (fun v σ'=>v= .d (.bool (My n u ns.length 0))∧σ'=σ):=
 AT.plain (by simpa only [AV.Eb,UL,Yg,Sc,AF] using KN o n u ns ks [] σ)
theorem OH (n lo hi:Int) (σ:AN):AT Tryz.prog 160 [.d (.int .i64 n),.d (.int .i64 lo),.d (.int .i64 hi)] σ (fun v σ'=>v= .d (.bool (decide (lo≤n)&&decide (n≤hi)))∧σ'=σ):=by
 refine Tu (by simp) ?_
 rw [ID]
 cases h1:decide (lo≤n)
 all_goals (repeat' (first|refine Run.ct rfl ?_|((first|refine Run.reg mixed ?_|refine Run.AM ?_|refine Run.Af NV (AN.le_refl _) ?_)<;>try simp -implicitDefEqProofs only [h1,go_sem])|fail))
def mL (u:Int):Str:=if u=1 then [110,101,119] else if u=2 then [103,101,116] else if u=3 then [115,101,116] else if u=4 then [108,101,110] else if u=5 then [114,101,102] else if u=6 then [114,101,97,100] else if u=7 then [119,114,105,116,101] else []
theorem T2 (u:Int) (σ:AN):AT Tryz.prog 147 [.d (.int .i64 u)] σ (fun v σ'=>v= .tup [.d (.str (mL u)),.d (.int .i64 (Hq u))]∧σ'=σ):=by
 refine S4 (by simp) ?_
 rw [BM]
 (repeat' (first|refine Run.ct rfl ?_|((first|refine Run.reg mixed ?_|refine Run.AM ?_|refine Run.Af Ls (AN.le_refl _) ?_)<;>try simp -implicitDefEqProofs only [go_sem])|(refine ⟨fun h=>?_,fun h=>?_⟩<;>first|(cases h;done)|try simp only [h])|fail))
 all_goals (simp only [beq_iff_eq,beq_eq_false_iff_ne,ne_eq] at *;simp_all [mL,Hq])
set_option maxHeartbeats 1000000 in
theorem aB (a:Al) (σ:AN):AT Tryz.prog 159 [alA a] σ (fun v σ'=>v= .d (.bool (SP a))∧σ'=σ):=by
 refine TN (by simp) ?_
 rw [BM]
 obtain ⟨c,vs,o,n,u,ns,ks,al⟩:=a
 simp only [Al.A3,alA,AE,AH]
 have hl6:decide ((vs.length:Int)≤6)=decide (vs.length≤6):=leN vs.length 6
 cases h1:upperB c with
 |false=>
  (repeat' (first|refine Run.ct rfl ?_|((first|refine Run.reg mixed ?_|refine Run.AM ?_|refine Run.Af GG (AN.le_refl _) ?_|refine AG.det (BY c _) ?_)<;>try simp -implicitDefEqProofs only [h1,go_sem])|fail))
  simp [SP,h1]
 |true=>
  by_cases h6:vs.length≤6
  · (repeat' (first|refine Run.ct rfl ?_|((first|refine Run.reg mixed ?_|refine Run.AM ?_|refine Run.Af GG (AN.le_refl _) ?_|refine AG.det (BY c _) ?_|refine AG.det (Gx (caps:=[]) (by kernel_rfl) rfl Gi vs σ (fun x _ σ1 _=>J9 x σ1)) ?_)<;>try simp -implicitDefEqProofs only [h1,AI,hl6,decide_eq_true h6,go_sem])|fail))
    simp [SP,h1,h6]
  · (repeat' (first|refine Run.ct rfl ?_|((first|refine Run.reg mixed ?_|refine Run.AM ?_|refine Run.Af GG (AN.le_refl _) ?_|refine AG.det (BY c _) ?_)<;>try simp -implicitDefEqProofs only [h1,AI,hl6,decide_eq_false h6,go_sem])|fail))
    simp [SP,h6]
set_option maxHeartbeats 4000000 in
theorem Yy (o:Int) (n:Str) (u:Int) (ns:List Str) (ks:List Ex) (al:List Al) (σ:AN) (ho:o=1∨o=2∨o=3∨o=4∨o=15):
 AT Tryz.prog 155 [exA (.mk o n u ns ks al)] σ (fun v σ'=>v= .d (.bool (nmB o n&&nuB o u&&nsB o ns&&asB o al))∧σ'=σ):=by
 refine S6 (by simp) ?_
 rw [BM,exA,Ex.A3]
 have fin:∀b c:Bool,(b=true↔c=true)→AV.d (.bool b)=AV.d (.bool c):=fun b c h=>by rw [IA.2 h]
 rcases ho with rfl|rfl|rfl|rfl|rfl
 · (repeat' (first|refine Run.ct rfl ?_|((first|refine Run.reg mixed ?_|refine Run.AM ?_|refine Run.Af DY (AN.le_refl _) ?_|refine AG.det (KN _ _ _ _ _ _ _) ?_)<;>try simp -implicitDefEqProofs only [AI,A5,go_sem])|fail))
   all_goals (refine fin _ _ ?_;simp [My,nmB,nuB,nsB,asB, *];try grind)
 · (repeat' (first|refine Run.ct rfl ?_|((first|refine Run.reg mixed ?_|refine Run.AM ?_|refine Run.Af DY (AN.le_refl _) ?_|refine AG.det (KN _ _ _ _ _ _ _) ?_|refine AG.det (OH _ _ _ _) ?_|(refine AQ rfl (fun h=>?_) (fun h=>?_)<;>try (cases h;done)))<;>try simp -implicitDefEqProofs only [AI,A5,go_sem])|fail))
   all_goals (refine fin _ _ ?_;simp [My,nmB,nuB,nsB,asB, *] at *;try grind)
 · (repeat' (first|refine Run.ct rfl ?_|((first|refine Run.reg mixed ?_|refine Run.AM ?_|refine Run.Af DY (AN.le_refl _) ?_|refine AG.det (KN _ _ _ _ _ _ _) ?_|refine AG.det (OH _ _ _ _) ?_|(refine AQ rfl (fun h=>?_) (fun h=>?_)<;>try (cases h;done)))<;>try simp -implicitDefEqProofs only [AI,A5,go_sem])|fail))
   all_goals (refine fin _ _ ?_;simp [My,nmB,nuB,nsB,asB, *] at *;try grind)
 · (repeat' (first|refine Run.ct rfl ?_|((first|refine Run.reg mixed ?_|refine Run.AM ?_|refine Run.Af DY (AN.le_refl _) ?_|refine AG.det (KN _ _ _ _ _ _ _) ?_|refine AG.det (DZ _ _) ?_|(refine AQ rfl (fun h=>?_) (fun h=>?_)<;>try (cases h;done)))<;>try simp -implicitDefEqProofs only [AI,A5,go_sem])|fail))
   all_goals (refine fin _ _ ?_;simp [My,nmB,nuB,nsB,asB, *] at *;try grind)
 · (repeat' (first|refine Run.ct rfl ?_|((first|refine Run.reg mixed ?_|refine Run.AM ?_|refine Run.Af DY (AN.le_refl _) ?_|refine AG.det (KN _ _ _ _ _ _ _) ?_|refine AG.det (OH _ _ _ _) ?_|(refine AQ rfl (fun h=>?_) (fun h=>?_)<;>try (cases h;done)))<;>try simp -implicitDefEqProofs only [AI,A5,go_sem])|fail))
   all_goals (refine fin _ _ ?_;simp [My,nmB,nuB,nsB,asB, *] at *;try grind)
theorem iM (u:Int):0 < Hq u↔1≤u∧u≤7:=by
 unfold Hq;repeat' split
 all_goals omega
set_option maxHeartbeats 8000000 in
theorem Yz (o:Int) (n:Str) (u:Int) (ns:List Str) (ks:List Ex) (al:List Al) (σ:AN):
 AT Tryz.prog 110 [exA (.mk o n u ns ks al)] σ (fun v σ'=>v= .d (.bool (G5 o n u ns ks.length al))∧σ'=σ):=by
 refine S7 (by simp) ?_
 rw [BM,exA,Ex.A3]
 have fin:∀b c:Bool,(b=true↔c=true)→AV.d (.bool b)=AV.d (.bool c):=fun b c h=>by rw [IA.2 h]
 have hleaf:=fun h=>Yy o n u ns ks al σ h
 simp only [exA,Ex.A3,AE,AH] at hleaf ⊢
 have hbi:=Gx (fid:=157) (caps:=[]) (by kernel_rfl) rfl Gi ns σ (fun x _ σ1 _=>J9 x σ1)
 have hnm:=Gx (fid:=51) (caps:=[]) (by kernel_rfl) rfl Gr ns σ (fun x _ σ1 _=>DZ x σ1)
 have hal:=V9 (fid:=159) (caps:=[]) (by kernel_rfl) rfl SP al σ (fun x _ σ1 _=>aB x σ1)
 by_cases ho:o=1∨o=2∨o=3∨o=4∨o=5∨o=6∨o=7∨o=8∨o=9∨o=10∨o=11∨o=12∨o=13∨o=14∨o=15∨o=16∨o=17
 · rcases ho with rfl|rfl|rfl|rfl|rfl|rfl|rfl|rfl|rfl|rfl|rfl|rfl|rfl|rfl|rfl|rfl|rfl
   all_goals (repeat' (first|refine Run.ct rfl ?_|((first|refine Run.reg mixed ?_|refine Run.AM ?_|refine Run.Af H4 (AN.le_refl _) ?_|refine AG.det (hleaf (by simp)) ?_|refine AG.det (KN _ _ _ _ _ _ _) ?_|refine AG.det (iH _ _ _ _ _ _) ?_|refine AG.det (iI _ _ _ _ _ _) ?_|refine AG.det (BY _ _) ?_|refine AG.det (J9 _ _) ?_|refine AG.det (OH _ _ _ _) ?_|refine AG.det (T2 _ _) ?_|refine AG.det (hbi) ?_|refine AG.det (hnm) ?_|refine AG.det (hal) ?_|(refine AQ rfl (fun h=>?_) (fun h=>?_)<;>try (cases h;done)))<;>try simp -implicitDefEqProofs only [AI,A5,go_sem])|fail))
   all_goals clear hleaf hbi hnm hal
   all_goals (refine fin _ _ ?_;simp [G5,My,nmB,nuB,nsB,asB,nkB, *] at *;try (have hpr:=iM u;grind))
 · have hno:G5 o n u ns ks.length al=false:=by
    simp only [not_or] at ho
    simp [G5,nkB,ho]
   simp only [not_or] at ho
   obtain ⟨h1,h2,h3,h4,h5,h6,h7,h8,h9,h10,h11,h12,h13,h14,h15,h16,h17⟩:=ho
   (repeat' (first|refine Run.ct rfl ?_|((first|refine Run.reg mixed ?_|refine Run.AM ?_|refine Run.Af H4 (AN.le_refl _) ?_)<;>try simp -implicitDefEqProofs only [Ds h1,Ds h2,Ds h3,Ds h4,Ds h5,Ds h6,Ds h7,Ds h8,Ds h9,Ds h10,Ds h11,Ds h12,Ds h13,Ds h14,Ds h15,Ds h16,Ds h17,go_sem])|fail))
   rw [hno]
end Go.Ab
namespace Go.Ab
open Go.Proofs
def NOk (L:List Tok):Prop:=∀t∈L,t.kind=3→Ze t.text
theorem Zx {L:List Tok} {s:PSt} (hN:NOk L) (hs:POk L s):Ze ((PM.take 3 (by decide)).run s).1:=by
 cases hc:s.hd.kind==3 with
 |true=>
  have e:(PM.take 3 (by decide)).run s=(s.hd.text,s.adv):=if_pos hc
  rw [e]
  refine hN s.hd (hs.suf.subset ?_) (by simpa using hc)
  obtain ⟨r,f,p⟩:=s
  cases r with
  |nil=>exact hs.wf.elim
  |cons t l=>exact A9 ..
 |false=>
  have e:(PM.take 3 (by decide)).run s=([],s.fail):=if_neg (by simp only;rw [hc];decide)
  rw [e];exact .inl rfl
theorem Yb (i:Nat) {L:List Tok} (hN:NOk L) (n:Nat):PC 209 [.gp i 0] i L n Il (fun x=>.d (.int .i64 x)):=by
 intro σ s0 g0 h0 l0 b0
 refine O2 (by simp) ?_
 rw [BM]
 simp only [Il,run_map]
 have hn:=Zx hN h0
 have c0:=Ys i L n 3 (by decide) σ s0 g0 h0 l0 b0
 have c1:=ZA _ (σ.AL i (psA L ((PM.take 3 (by decide)).run s0).2)) hn g0
 (repeat' (first|refine Run.ct rfl ?_|((first|refine Run.reg mixed ?_|refine Run.AM ?_|refine Run.Af I0 (AN.le_refl _) ?_|(refine AG.upd c0 ?_)|refine AG.det (c1) ?_|(refine AQ rfl (fun h=>?_) (fun h=>?_)<;>try (cases h;done)))<;>try simp -implicitDefEqProofs only [go_sem])|(refine ⟨fun h=>?_,fun h=>?_⟩<;>first|(cases h;done)|try simp only [h])|fail))
theorem PH (u:Int) (σ:AN) (h:1≤u∧u≤8):AT Tryz.prog 91 [.d (.int .i64 u)] σ (fun v σ'=>v= .d (.str (opT u))∧σ'=σ):=by
 refine PR (by simp) ?_
 rw [BM]
 have hu:u=1∨u=2∨u=3∨u=4∨u=5∨u=6∨u=7∨u=8:=by omega
 rcases hu with rfl|rfl|rfl|rfl|rfl|rfl|rfl|rfl
 all_goals (repeat' (first|refine Run.ct rfl ?_|((first|refine Run.reg mixed ?_|refine Run.AM ?_|refine Run.Af JG (AN.le_refl _) ?_|(refine AQ rfl (fun h=>?_) (fun h=>?_)<;>try (cases h;done)))<;>try simp -implicitDefEqProofs only [A5,go_sem])|(refine ⟨fun h=>?_,fun h=>?_⟩<;>first|(cases h;done)|try simp only [h])|fail))
 all_goals rfl
theorem J2 (u:Int) (σ:AN):AT Tryz.prog 138 [.d (.int .i64 u)] σ (fun v σ'=>v= .d (.int .i64 ((EN u:Nat):Int))∧σ'=σ):=by
 refine OZ (by simp) ?_
 rw [BM]
 by_cases hu:u=1∨u=2∨u=3∨u=4∨u=5
 · rcases hu with rfl|rfl|rfl|rfl|rfl
   all_goals (repeat' (first|refine Run.ct rfl ?_|((first|refine Run.reg mixed ?_|refine Run.AM ?_|refine Run.Af F5 (AN.le_refl _) ?_|(refine AQ rfl (fun h=>?_) (fun h=>?_)<;>try (cases h;done)))<;>try simp -implicitDefEqProofs only [A5,go_sem])|(refine ⟨fun h=>?_,fun h=>?_⟩<;>first|(cases h;done)|try simp only [h])|fail))
   all_goals rfl
 · simp only [not_or] at hu
   obtain ⟨h1,h2,h3,h4,h5⟩:=hu
   have he:EN u=1:=by unfold EN;rw [if_neg (by omega),if_neg (by omega)]
   (repeat' (first|refine Run.ct rfl ?_|((first|refine Run.reg mixed ?_|refine Run.AM ?_|refine Run.Af F5 (AN.le_refl _) ?_|(refine AQ rfl (fun h=>?_) (fun h=>?_)<;>try (cases h;done)))<;>try simp -implicitDefEqProofs only [Ds h1,Ds h2,Ds h3,Ds h4,Ds h5,he,go_sem])|(refine ⟨fun h=>?_,fun h=>?_⟩<;>first|(cases h;done)|try simp only [h])|fail))
   all_goals rfl
def J1 (lv:Nat) (t:Str):Nat→Nat→Nat
 |0,_=>0
 |n+1,k=>if EN (k:Int)=lv∧(t==opT (k:Int))=true then k else J1 lv t n (k+1)
def opR (lv:Nat) (t:Str):Nat:=J1 lv t 8 1
theorem lC {k:Nat} (h:k≤8):decide ((k:Int)≤8)=true:=by simp;omega
theorem vL {k:Nat} (h:¬k≤8):decide ((k:Int)≤8)=false:=by simp;omega
theorem KL {L:List Tok} {i:Nat} {s:PSt} (hs:POk L s) (lv:Nat) (σ:AN) (hb:σ.blk i=some (psA L s)):
 AT Tryz.prog 187 [.gp i 0,.d (.int .i64 (lv:Int))] σ (fun v σ'=>v= .d (.int .i64 ((opR lv s.hd.text:Nat):Int))∧σ'=if opR lv s.hd.text=0 then σ else σ.AL i (psA L s.adv)):=by
 refine Mu (by simp) ?_
 rw [BH]
 (repeat' (first|refine Run.ct rfl ?_|((first|refine Run.reg mixed ?_|refine Run.AM ?_|(refine AQ rfl (fun h=>?_) (fun h=>?_)<;>try (cases h;done)))<;>try simp -implicitDefEqProofs only [go_sem])|(refine ⟨fun h=>?_,fun h=>?_⟩<;>first|(cases h;done)|try simp only [h])|fail))
 refine Run.Cm ?_
 refine Run.Cn ((fun (a0:AV) (a1:AV)=>fun (k:Nat)=>put 0 a0 (put 1 a1 (put 5 (.d (.int .i64 (k:Nat))) U))) _ _) (fun _=>E) (fun _=>σ) (fun k=>1≤k∧k≤9∧J1 lv s.hd.text (9 - k) k=opR lv s.hd.text) (fun k=>9 - k) ?_ 1 ⟨by omega,by omega,rfl⟩
 rintro k ⟨hk1,hk9,hsc⟩ ih
 by_cases hk8:k≤8
 · have hT:=PH (k:Int) σ (by omega)
   have hLv:=J2 (k:Int) σ
   obtain ⟨m,hm⟩:∃m,9 - k=m+1:=⟨8 - k,by omega⟩
   have hw:=FL (a:=k) (by omega)
   rw [hm,J1] at hsc
   by_cases hl:EN (k:Int)=lv
   · have hle:(((EN (k:Int):Nat):Int)==(lv:Int))=true:=by rw [hl];simp
     cases ht:s.hd.text==opT (k:Int) with
     |true=>
      rw [if_pos ⟨hl,ht⟩] at hsc
      have hne:¬opR lv s.hd.text=0:=by omega
      rw [if_neg hne,← hsc]
      (repeat' (first|refine Run.ct rfl ?_|((first|refine Run.reg mixed ?_|refine Run.AM ?_|refine Run.Af En (AN.le_refl _) ?_|(refine AG.upd (Cj hs _ σ hb ht) ?_)|refine AG.det (hT) ?_|refine AG.det (hLv) ?_|(refine AQ rfl (fun h=>?_) (fun h=>?_)<;>try (cases h;done)))<;>try simp -implicitDefEqProofs only [lC hk8,hle,go_sem])|(refine ⟨fun h=>?_,fun h=>?_⟩<;>first|(cases h;done)|try simp only [h])|fail))
     |false=>
      rw [if_neg (by rw [ht];simp)] at hsc
      (repeat' (first|refine Run.ct rfl ?_|((first|refine Run.reg mixed ?_|refine Run.AM ?_|(refine AG.upd (Ci hs _ σ hb ht) ?_)|refine AG.det (hT) ?_|refine AG.det (hLv) ?_|(refine AQ rfl (fun h=>?_) (fun h=>?_)<;>try (cases h;done)))<;>try simp -implicitDefEqProofs only [lC hk8,hle,hw,go_sem])|(refine ⟨fun h=>?_,fun h=>?_⟩<;>first|(cases h;done)|try simp only [h])|fail))
      exact ih (k+1) ⟨by omega,by omega,by rw [show 9 - (k+1)=m by omega];exact hsc⟩ (by omega)
   · have hle:(((EN (k:Int):Nat):Int)==(lv:Int))=false:=by simpa using fun h:((EN (k:Int):Nat):Int)=(lv:Int)=>hl (by omega)
     rw [if_neg (fun h=>hl h.1)] at hsc
     (repeat' (first|refine Run.ct rfl ?_|((first|refine Run.reg mixed ?_|refine Run.AM ?_|refine AG.det (hT) ?_|refine AG.det (hLv) ?_|(refine AQ rfl (fun h=>?_) (fun h=>?_)<;>try (cases h;done)))<;>try simp -implicitDefEqProofs only [lC hk8,hle,hw,go_sem])|(refine ⟨fun h=>?_,fun h=>?_⟩<;>first|(cases h;done)|try simp only [h])|fail))
     exact ih (k+1) ⟨by omega,by omega,by rw [show 9 - (k+1)=m by omega];exact hsc⟩ (by omega)
 · have:k=9:=by omega
   subst this
   have h0:opR lv s.hd.text=0:=hsc.symm
   rw [h0,if_pos rfl]
   (repeat' (first|refine Run.ct rfl ?_|((first|refine Run.reg mixed ?_|refine Run.AM ?_|refine Run.Af En (AN.le_refl _) ?_|(refine AQ rfl (fun h=>?_) (fun h=>?_)<;>try (cases h;done)))<;>try simp -implicitDefEqProofs only [vL hk8,go_sem])|(refine ⟨fun h=>?_,fun h=>?_⟩<;>first|(cases h;done)|try simp only [h])|fail))
   rfl
theorem wP (t:Str):opR 1 t=if (t==[60])=true then 6 else if (t==[60,61])=true then 7 else if (t==[61,61])=true then 8 else 0:=by
 unfold opR;simp [J1,EN,opT,TZ]
theorem vN (t:Str):opR 2 t=if (t==[43])=true then 1 else if (t==[45])=true then 2 else 0:=by
 unfold opR;simp [J1,EN,opT,TZ]
theorem vO (t:Str):opR 3 t=if (t==[42])=true then 3 else if (t==[47])=true then 4 else if (t==[37])=true then 5 else 0:=by
 unfold opR;simp [J1,EN,opT,TZ]
theorem Tg (u:Int) (a b:Ex) (σ:AN):AT Tryz.prog 188 [.d (.int .i64 u),exA a,exA b] σ (fun v σ'=>v=exA (Gu u a b)∧σ'=σ):=by
 refine Ur (by simp) ?_
 obtain ⟨o0,n0,u0,ns0,ks0,al0⟩:=a
 obtain ⟨o1,n1,u1,ns1,ks1,al1⟩:=b
 rw [ID]
 simp only [exA,Gu,exN,Ex.A3,AE,AH]
 (repeat' (first|refine Run.ct rfl ?_|((first|refine Run.reg mixed ?_|refine Run.AM ?_|refine Run.Af PE (AN.le_refl _) ?_|(refine AQ rfl (fun h=>?_) (fun h=>?_)<;>try (cases h;done)))<;>try simp -implicitDefEqProofs only [go_sem])|(refine ⟨fun h=>?_,fun h=>?_⟩<;>first|(cases h;done)|try simp only [h])|fail))
def X6 (E:PM Ex):Nat→List Ex→PM (List Ex)
 |0,l=>.pure l
 |n+1,l=>(FR [44]).bind fun _=>E.bind fun x=>X6 E n (l++[x])
def Rm (E:PM Ex) (n:Nat):PM (List Ex):=(FR [40]).bind fun _=>E.bind fun x=>(X6 E (n - 1) [x]).bind fun l=>(FR [41]).bind fun _=>.pure l
theorem sA (E:PM Ex) (s:PSt):(Mx E).run s=(Rm E 1).run s:=rfl
theorem lQ {a b:Nat}:decide ((a:Int) < (b:Int))=decide (a < b):=decide_eq_decide.2 (by omega)
theorem dQ (i:Nat) (L:List Tok) (n:Nat) {E:PM Ex} (hE:PC 131 [.gp i 0] i L n E exA) (m:Nat) (hm:1≤m∧m≤3):
 PC 213 [.gp i 0,.d (.int .i64 (m:Int))] i L n (Rm E m) (fun l=>.d (.sl (l.map Ex.enc))):=by
 intro σ s0 g0 h0 l0 b0
 refine MX (by simp) ?_
 rw [BH]
 simp only [Rm,run_bind,run_pure]
 (have c0:=(Ck i L n [40] (by decide)) σ s0 g0 h0 (by omega) b0;have h1:=h0.run (PM.exp [40] (by decide));have l1:=PM.le (PM.exp [40] (by decide)) h0.wf;generalize (PM.exp [40] (by decide)).run s0=y at c0 h1 l1 ⊢;obtain ⟨x0,s1⟩:=y;simp only at c0 h1 l1 ⊢;have b1:(σ.AL i (psA L s1)).blk i=some (psA L s1):=(by rw [AO,if_pos rfl]))
 (have c1:=hE (σ.AL i (psA L s1)) s1 g0 h1 (by omega) b1;rw [A0] at c1;have h2:=h1.run (E);have l2:=PM.le (E) h1.wf;generalize (E).run s1=y at c1 h2 l2 ⊢;obtain ⟨x1,s2⟩:=y;simp only at c1 h2 l2 ⊢;have b2:(σ.AL i (psA L s2)).blk i=some (psA L s2):=(by rw [AO,if_pos rfl]);obtain ⟨o0,n0,u0,ns0,ks0,al0⟩:=x1;simp only [exA,Ex.A3,AE,AH] at c1 ⊢)
 have hw0:IntKind.i64.wrap ((m:Int) - 1)=((m - 1:Nat):Int):=by rw [BL (by omega) (by omega)];omega
 (repeat' (first|refine Run.ct rfl ?_|((first|refine Run.reg mixed ?_|refine Run.AM ?_|(refine AG.upd c0 ?_)|(refine AG.upd c1 ?_)|(refine Hb.own rfl (by decide) (fun tk htk=>?_))|(refine AQ rfl (fun h=>?_) (fun h=>?_)<;>try (cases h;done)))<;>try simp -implicitDefEqProofs only [hw0,go_sem])|(refine ⟨fun h=>?_,fun h=>?_⟩<;>first|(cases h;done)|try simp only [h])|fail))
 refine Run.Cm ?_
 refine Run.Cn ((fun (a0:AV) (a12:AV)=>fun (y:PSt×List Ex×Nat×AV×AN)=>put 0 a0 (put 5 (y.2.2.2.1) (put 12 a12 (put 13 (.d (.int .i64 (y.2.2.1:Nat))) U)))) _ _) (fun _=>Ab.E) (fun y=>y.2.2.2.2) (fun y=>POk L y.1∧y.1.r.length≤n∧y.2.1.length≤1+y.2.2.1∧y.2.2.1≤m - 1∧LS σ i L y.1 44 6 (y.2.1.map Ex.enc) y.2.2.2.1 y.2.2.2.2∧(X6 E (m - 1 - y.2.2.1) y.2.1).run y.1=(X6 E (m - 1) [Ex.mk o0 n0 u0 ns0 ks0 al0]).run s2) (fun y=>m - 1 - y.2.2.1) ?_ (s2,[Ex.mk o0 n0 u0 ns0 ks0 al0],0,.own tk 44 6 _,_) ⟨h2,by simp only;omega,by simp,by simp only;omega,?_,rfl⟩
 rotate_left
 · simp only [AE,AH,Ex.A3]
   exact LS.lit htk
 rintro ⟨s2',l,k,v,τ⟩ ⟨f1,f2,f3,f4,f5,f6⟩ ih
 simp only at f1 f2 f3 f4 f5 f6
 by_cases hk:k < m - 1
 · obtain ⟨q,hq⟩:∃q,m - 1 - k=q+1:=⟨m - 2 - k,by omega⟩
   rw [hq] at f6
   simp only [X6,run_bind] at f6
   have e0:=SZ f1 [44] (by decide) τ f5.blk
   have f1a:=f1.run (PM.exp [44] (by decide))
   have l1a:=PM.le (PM.exp [44] (by decide)) f1.wf
   have f5a:=f5.step ((PM.exp [44] (by decide)).run s2').2
   generalize (PM.exp [44] (by decide)).run s2'=y at e0 f1a l1a f5a f6
   obtain ⟨z,s3⟩:=y
   simp only at e0 f1a l1a f5a f6
   have e1:=hE _ s3 (f5a.gt g0) f1a (by omega) f5a.blk
   rw [A0] at e1
   have f1b:=f1a.run E
   have l1b:=PM.le E f1a.wf
   have f5b:=f5.step (E.run s3).2
   generalize E.run s3=y at e1 f1b l1b f5b f6
   obtain ⟨x,s4⟩:=y
   simp only at e1 f1b l1b f5b f6
   obtain ⟨o,nm,u,ns,ks,al⟩:=x
   simp only [exA,Ex.A3,AE,AH] at e1
   have hw:=FL (a:=k) (by omega)
   (repeat' (first|refine Run.ct rfl ?_|((first|refine Run.reg mixed ?_|refine Run.AM ?_|(refine AG.upd e0 ?_)|(refine AG.upd e1 ?_)|(refine AQ rfl (fun h=>?_) (fun h=>?_)<;>try (cases h;done)))<;>try simp -implicitDefEqProofs only [f5.own.BO,lQ,decide_eq_true hk,hw,go_sem])|(refine ⟨fun h=>?_,fun h=>?_⟩<;>first|(cases h;done)|try simp only [h])|fail))
   (apply LS.tok f5b;rfl;simp;(simp only [AI,AD,AF];omega);decide;intro v2 τ2 ho);simp -implicitDefEqProofs only [ho.own.BO,ho.own.As,ho.own.cells,ho.own.cell,ho.own.plain,ho.own.dv,if_true,hw,go_sem]
   (repeat' (first|refine Run.ct rfl ?_|((first|refine Run.reg mixed ?_|refine Run.AM ?_|(refine AQ rfl (fun h=>?_) (fun h=>?_)<;>try (cases h;done)))<;>try simp -implicitDefEqProofs only [ho.own.BO,ho.own.As,ho.own.cells,ho.own.cell,ho.own.plain,ho.own.dv,if_true,hw,go_sem])|(refine ⟨fun h=>?_,fun h=>?_⟩<;>first|(cases h;done)|try simp only [h])|fail))
   refine ih (s4,l++[Ex.mk o nm u ns ks al],k+1,v2,τ2) ⟨f1b,by simp only;omega,by simp only [AA,AD,AF];omega,by simp only;omega,?_,?_⟩ (by simp only;omega)
   · simp only [Bc,AE,AH,Ex.A3];exact ho
   · simp only;rw [show m - 1 - (k+1)=q by omega];exact f6
 · have hk0:m - 1 - k=0:=by omega
   rw [hk0] at f6
   simp only [X6,run_pure] at f6
   rw [← f6]
   simp only
   have e0:=SZ f1 [41] (by decide) τ f5.blk
   have f5a:=f5.step ((PM.exp [41] (by decide)).run s2').2
   (repeat' (first|refine Run.ct rfl ?_|((first|refine Run.reg mixed ?_|refine Run.AM ?_|(refine AG.upd e0 ?_)|(refine Run.Af Gp f5a.le ?_)|(refine AQ rfl (fun h=>?_) (fun h=>?_)<;>try (cases h;done)))<;>try simp -implicitDefEqProofs only [f5.own.BO,lQ,decide_eq_false hk,f5.own.As,f5.own.plain,if_true,go_sem])|(refine ⟨fun h=>?_,fun h=>?_⟩<;>first|(cases h;done)|try simp only [h])|fail))
end Go.Ab
