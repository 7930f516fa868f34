/- Names. Valid written types. Valid written types and nodes. Valid nodes. The parser: numbers, operators, arguments. Conditions: none. -/
import Derived.Test.YtifplkldbbcldaaGreatDoorXPf
set_option linter.unusedSimpArgs false
set_option linter.unusedVariables false
set_option maxRecDepth 4000
set_option maxHeartbeats 8000000
open List renaming map_cons→AD,map_nil→AG,length_map→AF,mem_of_getElem?→A6,all_append→CF,length_nil→AH,mem_cons_self→Ad,length_cons→AE,length_append→AA,map_append→Bn
open Bool renaming not_eq_true'→E2,eq_iff_iff→Gr
open Int renaming reduceBEq→A7
namespace Go.Ab
open Go.Proofs
def singleR (r:List Tok×Nat×Int) (k:Int) (s:Str):Bool:=
 r.2.2==0&&(r.1.length==2&&(match r.1 with|[]=>false|a::_=>a.kind==k&&a.text==s))
theorem iU (k:Int) (s:Str):Qc k s=singleR (BR s) k s:=rfl
theorem tX {α:Type} {l:List α} (h:l.length=2):∃a b,l=[a,b]:=by
 match l,h with
 |[a,b],_=>exact ⟨a,b,rfl⟩
theorem OJ (s:Str) (k:Int) (σ:AM):AQ Tryz.prog 107 [.d (.str s),.d (.int .i64 k)] σ (fun v σ'=>v= .d (.bool (Qc k s))∧σ'=σ):=by
 refine Vq (by simp) ?_
 rw [Ax,iU]
 have hsp:=Sd s σ
 generalize BR s=r at hsp ⊢
 obtain ⟨l,q,e⟩:=r
 simp only [U5] at hsp
 cases he:(e==0) with
 |false=>
  (repeat' (first|refine Run.ct rfl ?_|((first|refine Run.reg mixed ?_|refine Run.AJ ?_|refine Run.A9 Fl (AM.le_refl _) ?_|refine AI.det (hsp) ?_)<;>try simp -implicitDefEqProofs only [he,go_sem])|fail))
  simp [singleR,he]
 |true=>
 by_cases hl:l.length=2
 · obtain ⟨⟨ak,at',ap⟩,b,rfl⟩:=tX hl
   simp only [Tok.enc,AD,AG] at hsp
   cases hk:(ak==k) with
   |false=>
    (repeat' (first|refine Run.ct rfl ?_|((first|refine Run.reg mixed ?_|refine Run.AJ ?_|refine Run.A9 Fl (AM.le_refl _) ?_|refine AI.det (hsp) ?_|(refine AP rfl (fun h=>?_) (fun h=>?_)<;>try (cases h;done)))<;>try simp -implicitDefEqProofs only [he,hk,go_sem])|fail))
    simp [singleR,hk]
   |true=>
    (repeat' (first|refine Run.ct rfl ?_|((first|refine Run.reg mixed ?_|refine Run.AJ ?_|refine Run.A9 Fl (AM.le_refl _) ?_|refine AI.det (hsp) ?_|(refine AP rfl (fun h=>?_) (fun h=>?_)<;>try (cases h;done)))<;>try simp -implicitDefEqProofs only [he,hk,C9,go_sem])|fail))
    simp [singleR,hk,he]
 · have h2:((l.length:Int)==2)=false:=by simp only [beq_eq_false_iff_ne,ne_eq];omega
   (repeat' (first|refine Run.ct rfl ?_|((first|refine Run.reg mixed ?_|refine Run.AJ ?_|refine Run.A9 Fl (AM.le_refl _) ?_|refine AI.det (hsp) ?_)<;>try simp -implicitDefEqProofs only [he,AF,h2,go_sem])|fail))
   simp [singleR,hl]
theorem Dn (s:Str) (σ:AM):AQ Tryz.prog 51 [.d (.str s)] σ (fun v σ'=>v= .d (.bool (Hi s))∧σ'=σ):=by
 refine Wt (by simp) ?_
 rw [BO]
 (repeat' (first|refine Run.ct rfl ?_|((first|refine Run.reg mixed ?_|refine Run.AJ ?_|refine Run.A9 Qn (AM.le_refl _) ?_|refine AI.det (OJ s 1 _) ?_)<;>try simp -implicitDefEqProofs only [go_sem])|fail))
 rfl
theorem B1 (s:Str) (σ:AM):AQ Tryz.prog 101 [.d (.str s)] σ (fun v σ'=>v= .d (.bool (upperB s))∧σ'=σ):=by
 refine Vr (by simp) ?_
 rw [BO]
 (repeat' (first|refine Run.ct rfl ?_|((first|refine Run.reg mixed ?_|refine Run.AJ ?_|refine Run.A9 Ov (AM.le_refl _) ?_|refine AI.det (OJ s 2 _) ?_)<;>try simp -implicitDefEqProofs only [go_sem])|fail))
 rfl
theorem Kl (s:Str) (σ:AM):AQ Tryz.prog 157 [.d (.str s)] σ (fun v σ'=>v= .d (.bool (Ha s))∧σ'=σ):=by
 refine Ws (by simp) ?_
 rw [BO]
 cases h0:(s==[]) with
 |true=>
  (repeat' (first|refine Run.ct rfl ?_|((first|refine Run.reg mixed ?_|refine Run.AJ ?_|refine Run.A9 Lp (AM.le_refl _) ?_)<;>try simp -implicitDefEqProofs only [C9,h0,go_sem])|fail))
  simp [Ha,h0]
 |false=>
  (repeat' (first|refine Run.ct rfl ?_|((first|refine Run.reg mixed ?_|refine Run.AJ ?_|refine Run.A9 Lp (AM.le_refl _) ?_|refine AI.det (Dn s _) ?_)<;>try simp -implicitDefEqProofs only [C9,h0,go_sem])|fail))
  simp [Ha,h0]
theorem w7 {α:Type} {p:α→Bool} {l:List α} {i:Nat} {x:α} (hx:l[i]?=some x) (hp:p x=false):l.all p=false:=by
 rw [List.all_eq_false];exact ⟨x,A6 hx,by rw [hp];simp⟩
theorem oP {α:Type} {p:α→Bool} {l:List α} {i:Nat} {x:α} (h:(l.take i).all p=true) (hx:l[i]?=some x) (hp:p x=true):(l.take (i+1)).all p=true:=by
 rw [Ft hx,CF,h];simp [hp]
end Go.Ab
namespace Go.Ab
open Go.Proofs
end Go.Ab
namespace Go.Ab
open Go.Proofs
theorem R8 (d:Nat) (hd:∀(t:TE) (σ:AM),t.size≤1000000→AQ Tryz.prog 106 [teA t,.d (.int .i64 ((41 - d:Nat):Int))] σ (fun v σ'=>v= .d (.bool (Du d t))∧σ'=σ)) (hd40:d < 40)
 (t:TE) (j:Nat) (σ:AM) (hsz:t.size≤1000000) (hj:σ.blk j=some [.d (.int .i64 ((40 - d:Nat):Int))]):
 AQ Tryz.prog 153 [teA t,.gp j 0] σ (fun v σ'=>v= .d (.bool (Du d t))∧σ'=σ):=by
 refine SM (by simp) ?_
 rw [Ax]
 have hc:=hd t σ hsz
 obtain ⟨k,n,l⟩:=t
 simp only [TE.A2,teA,AD,AG] at hc ⊢
 have hw:IntKind.i64.wrap (((40 - d:Nat):Int)+1)=((41 - d:Nat):Int):=by rw [Au (by omega) (by omega)];omega
 (repeat' (first|refine Run.ct rfl ?_|((first|refine Run.reg mixed ?_|refine Run.AJ ?_|refine Run.A9 LY (AM.le_refl _) ?_|refine AI.det (hc) ?_)<;>try simp -implicitDefEqProofs only [hj,hw,go_sem])|fail))
set_option maxHeartbeats 4000000 in
theorem TZ:∀(d:Nat),d≤40→∀(t:TE) (σ:AM),t.size≤1000000→AQ Tryz.prog 106 [teA t,.d (.int .i64 ((41 - d:Nat):Int))] σ (fun v σ'=>v= .d (.bool (Du d t))∧σ'=σ):=by
 intro d
 induction d with
 |zero=>
  rintro _ ⟨k,n,l⟩ σ _
  refine NU (by simp) ?_
  rw [Ax,teA,TE.A2]
  (repeat' (first|refine Run.ct rfl ?_|((first|refine Run.reg mixed ?_|refine Run.AJ ?_)<;>try simp -implicitDefEqProofs only [go_sem])|fail))
  intro j hj
  have hle:=FM (cs:=[.d (.int .i64 ((41 - 0:Nat):Int))]) hj
  have h0:decide ((40:Int) < ((41 - 0:Nat):Int))=true:=by decide
  (repeat' (first|refine Run.ct rfl ?_|((first|refine Run.reg mixed ?_|refine Run.AJ ?_|(refine Run.A9 I0 (σ2:=σ) hle ?_))<;>try simp -implicitDefEqProofs only [h0,go_sem])|fail))
  rfl
 |succ d ihd=>
  rintro hd ⟨k,n,l⟩ σ hsz
  have hlen:=TE.H6 l
  have hsz1:TE.At l+1≤1000000:=by simpa [TE.size,Nat.add_comm] using hsz
  have hd1:=ihd (by omega)
  refine NU (by simp) ?_
  rw [Ax,teA,TE.A2]
  have h0:decide ((40:Int) < ((41 - (d+1):Nat):Int))=false:=by simp only [decide_eq_false_iff_not];omega
  (repeat' (first|refine Run.ct rfl ?_|((first|refine Run.reg mixed ?_|refine Run.AJ ?_)<;>try simp -implicitDefEqProofs only [go_sem])|fail))
  intro j hj
  have hle:=FM (cs:=[.d (.int .i64 ((41 - (d+1):Nat):Int))]) hj
  have hall:=MF (fid:=153) (caps:=[.gp j 0]) (by kernel_rfl) rfl (Du d) l (σ.AL j [.d (.int .i64 ((41 - (d+1):Nat):Int))]) (fun x hx σ1 hle1=>by
   have hms:=TE.Ka hx
   refine R8 d hd1 (by omega) x j σ1 (by omega) ?_
   rw [hle1.blk j _ (by simp only [AO,if_true];rfl)]
   rw [show 41 - (d+1)=40 - d by omega])
  clear hd1 ihd
  (repeat' (first|refine Run.ct rfl ?_|((first|refine Run.reg mixed ?_|refine Run.AJ ?_|(refine Run.A9 I0 (σ2:=σ) hle ?_)|refine AI.det (Dn _ _) ?_|refine AI.det (B1 _ _) ?_|refine AI.det (hall) ?_|(refine AP rfl (fun h=>?_) (fun h=>?_)<;>try (cases h;done)))<;>try simp -implicitDefEqProofs only [h0,BS,AF,go_sem])|(refine ⟨fun h=>?_,fun h=>?_⟩<;>first|(cases h;done)|try simp only [h])|fail))
  all_goals clear hall h0
  all_goals (simp only [bne,beq_iff_eq,beq_eq_false_iff_ne,ne_eq,E2,Bool.not_eq_false',decide_eq_true_eq,decide_eq_false_iff_not] at *;simp_all [Du,DN];first|done|omega|(intros;omega)|(intros;exfalso;omega)|(rcases l with _|⟨a,l⟩<;>simp<;>omega))
end Go.Ab
namespace Go.Ab
open Go.Proofs
theorem ABB (n:Nat):((n:Int)==0)=decide (n=0):=by rw [Gr];simp only [beq_iff_eq,decide_eq_true_eq];omega
def O5 (n:Str) (u:Int) (a b:Nat):Bool:=n==[]&&(u==0&&(decide (a=0)&&decide (b=0)))
theorem L5 (o:Int) (n:Str) (u:Int) (ns ks al:List (List DV)) (σ:AM):
 AQ Tryz.prog 156 [.agg [.d (.int .i64 o),.d (.str n),.d (.int .i64 u),.d (.sl ns),.d (.sl ks),.d (.sl al)]] σ (fun v σ'=>v= .d (.bool (O5 n u ns.length al.length))∧σ'=σ):=by
 refine YD (by simp) ?_
 rw [BO]
 cases h1:(n==[])<;>cases h2:(u==0)<;>cases h3:decide (ns.length=0)
 all_goals (repeat' (first|refine Run.ct rfl ?_|((first|refine Run.reg mixed ?_|refine Run.AJ ?_|refine Run.A9 Rv (AM.le_refl _) ?_)<;>try simp -implicitDefEqProofs only [C9,h1,h2,h3,ABB,go_sem])|fail))
 all_goals (unfold O5;rw [h1,h2,h3];rfl)
theorem nF (o:Int) (n:Str) (u:Int) (ks al:List (List DV)) (σ:AM):
 AQ Tryz.prog 156 [.agg [.d (.int .i64 o),.d (.str n),.d (.int .i64 u),.AW,.d (.sl ks),.d (.sl al)]] σ (fun v σ'=>v= .d (.bool (O5 n u 0 al.length))∧σ'=σ):=
 AQ.plain (by simpa only [AV.FL,WI,b9,UX,AH] using L5 o n u [] ks al σ)
theorem nG (o:Int) (n:Str) (u:Int) (ns ks:List (List DV)) (σ:AM):
 AQ Tryz.prog 156 [.agg [.d (.int .i64 o),.d (.str n),.d (.int .i64 u),.d (.sl ns),.d (.sl ks),.AW]] σ (fun v σ'=>v= .d (.bool (O5 n u ns.length 0))∧σ'=σ):=
 AQ.plain (by simpa only [AV.FL,WI,b9,UX,AH] using L5 o n u ns ks [] σ)
theorem Pl (n lo hi:Int) (σ:AM):AQ Tryz.prog 160 [.d (.int .i64 n),.d (.int .i64 lo),.d (.int .i64 hi)] σ (fun v σ'=>v= .d (.bool (decide (lo≤n)&&decide (n≤hi)))∧σ'=σ):=by
 refine Vp (by simp) ?_
 rw [Fb]
 cases h1:decide (lo≤n)
 all_goals (repeat' (first|refine Run.ct rfl ?_|((first|refine Run.reg mixed ?_|refine Run.AJ ?_|refine Run.A9 Ou (AM.le_refl _) ?_)<;>try simp -implicitDefEqProofs only [h1,go_sem])|fail))
def rM (u:Int):Str:=if u=1 then [110,101,119] else if u=2 then [103,101,116] else if u=3 then [115,101,116] else if u=4 then [108,101,110] else if u=5 then [114,101,102] else if u=6 then [114,101,97,100] else if u=7 then [119,114,105,116,101] else []
theorem VY (u:Int) (σ:AM):AQ Tryz.prog 147 [.d (.int .i64 u)] σ (fun v σ'=>v= .tup [.d (.str (rM u)),.d (.int .i64 (Iq u))]∧σ'=σ):=by
 refine UO (by simp) ?_
 rw [BO]
 (repeat' (first|refine Run.ct rfl ?_|((first|refine Run.reg mixed ?_|refine Run.AJ ?_|refine Run.A9 NL (AM.le_refl _) ?_)<;>try simp -implicitDefEqProofs only [go_sem])|(refine ⟨fun h=>?_,fun h=>?_⟩<;>first|(cases h;done)|try simp only [h])|fail))
 all_goals (simp only [beq_iff_eq,beq_eq_false_iff_ne,ne_eq] at *;simp_all [rM,Iq])
set_option maxHeartbeats 1000000 in
theorem fI (a:Al) (σ:AM):AQ Tryz.prog 159 [alA a] σ (fun v σ'=>v= .d (.bool (Tz a))∧σ'=σ):=by
 refine VH (by simp) ?_
 rw [BO]
 obtain ⟨c,vs,o,n,u,ns,ks,al⟩:=a
 simp only [Al.A2,alA,AD,AG]
 have hl6:decide ((vs.length:Int)≤6)=decide (vs.length≤6):=leN vs.length 6
 cases h1:upperB c with
 |false=>
  (repeat' (first|refine Run.ct rfl ?_|((first|refine Run.reg mixed ?_|refine Run.AJ ?_|refine Run.A9 Gp (AM.le_refl _) ?_|refine AI.det (B1 c _) ?_)<;>try simp -implicitDefEqProofs only [h1,go_sem])|fail))
  simp [Tz,h1]
 |true=>
  by_cases h6:vs.length≤6
  · (repeat' (first|refine Run.ct rfl ?_|((first|refine Run.reg mixed ?_|refine Run.AJ ?_|refine Run.A9 Gp (AM.le_refl _) ?_|refine AI.det (B1 c _) ?_|refine AI.det (Hn (caps:=[]) (by kernel_rfl) rfl Ha vs σ (fun x _ σ1 _=>Kl x σ1)) ?_)<;>try simp -implicitDefEqProofs only [h1,AF,hl6,decide_eq_true h6,go_sem])|fail))
    simp [Tz,h1,h6]
  · (repeat' (first|refine Run.ct rfl ?_|((first|refine Run.reg mixed ?_|refine Run.AJ ?_|refine Run.A9 Gp (AM.le_refl _) ?_|refine AI.det (B1 c _) ?_)<;>try simp -implicitDefEqProofs only [h1,AF,hl6,decide_eq_false h6,go_sem])|fail))
    simp [Tz,h6]
set_option maxHeartbeats 4000000 in
theorem cT (o:Int) (n:Str) (u:Int) (ns:List Str) (ks:List Ex) (al:List Al) (σ:AM) (ho:o=1∨o=2∨o=3∨o=4∨o=15):
 AQ Tryz.prog 155 [exA (.mk o n u ns ks al)] σ (fun v σ'=>v= .d (.bool (nmB o n&&nuB o u&&nsB o ns&&asB o al))∧σ'=σ):=by
 refine UQ (by simp) ?_
 rw [BO,exA,Ex.A2]
 have fin:∀b c:Bool,(b=true↔c=true)→AV.d (.bool b)=AV.d (.bool c):=fun b c h=>by rw [Gr.2 h]
 rcases ho with rfl|rfl|rfl|rfl|rfl
 · (repeat' (first|refine Run.ct rfl ?_|((first|refine Run.reg mixed ?_|refine Run.AJ ?_|refine Run.A9 Dm (AM.le_refl _) ?_|refine AI.det (L5 _ _ _ _ _ _ _) ?_)<;>try simp -implicitDefEqProofs only [AF,A7,go_sem])|fail))
   all_goals (refine fin _ _ ?_;simp [O5,nmB,nuB,nsB,asB, *];try grind)
 · (repeat' (first|refine Run.ct rfl ?_|((first|refine Run.reg mixed ?_|refine Run.AJ ?_|refine Run.A9 Dm (AM.le_refl _) ?_|refine AI.det (L5 _ _ _ _ _ _ _) ?_|refine AI.det (Pl _ _ _ _) ?_|(refine AP rfl (fun h=>?_) (fun h=>?_)<;>try (cases h;done)))<;>try simp -implicitDefEqProofs only [AF,A7,go_sem])|fail))
   all_goals (refine fin _ _ ?_;simp [O5,nmB,nuB,nsB,asB, *] at *;try grind)
 · (repeat' (first|refine Run.ct rfl ?_|((first|refine Run.reg mixed ?_|refine Run.AJ ?_|refine Run.A9 Dm (AM.le_refl _) ?_|refine AI.det (L5 _ _ _ _ _ _ _) ?_|refine AI.det (Pl _ _ _ _) ?_|(refine AP rfl (fun h=>?_) (fun h=>?_)<;>try (cases h;done)))<;>try simp -implicitDefEqProofs only [AF,A7,go_sem])|fail))
   all_goals (refine fin _ _ ?_;simp [O5,nmB,nuB,nsB,asB, *] at *;try grind)
 · (repeat' (first|refine Run.ct rfl ?_|((first|refine Run.reg mixed ?_|refine Run.AJ ?_|refine Run.A9 Dm (AM.le_refl _) ?_|refine AI.det (L5 _ _ _ _ _ _ _) ?_|refine AI.det (Dn _ _) ?_|(refine AP rfl (fun h=>?_) (fun h=>?_)<;>try (cases h;done)))<;>try simp -implicitDefEqProofs only [AF,A7,go_sem])|fail))
   all_goals (refine fin _ _ ?_;simp [O5,nmB,nuB,nsB,asB, *] at *;try grind)
 · (repeat' (first|refine Run.ct rfl ?_|((first|refine Run.reg mixed ?_|refine Run.AJ ?_|refine Run.A9 Dm (AM.le_refl _) ?_|refine AI.det (L5 _ _ _ _ _ _ _) ?_|refine AI.det (Pl _ _ _ _) ?_|(refine AP rfl (fun h=>?_) (fun h=>?_)<;>try (cases h;done)))<;>try simp -implicitDefEqProofs only [AF,A7,go_sem])|fail))
   all_goals (refine fin _ _ ?_;simp [O5,nmB,nuB,nsB,asB, *] at *;try grind)
theorem nK (u:Int):0 < Iq u↔1≤u∧u≤7:=by
 unfold Iq;repeat' split
 all_goals omega
set_option maxHeartbeats 8000000 in
theorem cU (o:Int) (n:Str) (u:Int) (ns:List Str) (ks:List Ex) (al:List Al) (σ:AM):
 AQ Tryz.prog 110 [exA (.mk o n u ns ks al)] σ (fun v σ'=>v= .d (.bool (HT o n u ns ks.length al))∧σ'=σ):=by
 refine UR (by simp) ?_
 rw [BO,exA,Ex.A2]
 have fin:∀b c:Bool,(b=true↔c=true)→AV.d (.bool b)=AV.d (.bool c):=fun b c h=>by rw [Gr.2 h]
 have hleaf:=fun h=>cT o n u ns ks al σ h
 simp only [exA,Ex.A2,AD,AG] at hleaf ⊢
 have hbi:=Hn (fid:=157) (caps:=[]) (by kernel_rfl) rfl Ha ns σ (fun x _ σ1 _=>Kl x σ1)
 have hnm:=Hn (fid:=51) (caps:=[]) (by kernel_rfl) rfl Hi ns σ (fun x _ σ1 _=>Dn x σ1)
 have hal:=Xd (fid:=159) (caps:=[]) (by kernel_rfl) rfl Tz al σ (fun x _ σ1 _=>fI x σ1)
 by_cases ho:o=1∨o=2∨o=3∨o=4∨o=5∨o=6∨o=7∨o=8∨o=9∨o=10∨o=11∨o=12∨o=13∨o=14∨o=15∨o=16∨o=17
 · rcases ho with rfl|rfl|rfl|rfl|rfl|rfl|rfl|rfl|rfl|rfl|rfl|rfl|rfl|rfl|rfl|rfl|rfl
   all_goals (repeat' (first|refine Run.ct rfl ?_|((first|refine Run.reg mixed ?_|refine Run.AJ ?_|refine Run.A9 IZ (AM.le_refl _) ?_|refine AI.det (hleaf (by simp)) ?_|refine AI.det (L5 _ _ _ _ _ _ _) ?_|refine AI.det (nF _ _ _ _ _ _) ?_|refine AI.det (nG _ _ _ _ _ _) ?_|refine AI.det (B1 _ _) ?_|refine AI.det (Kl _ _) ?_|refine AI.det (Pl _ _ _ _) ?_|refine AI.det (VY _ _) ?_|refine AI.det (hbi) ?_|refine AI.det (hnm) ?_|refine AI.det (hal) ?_|(refine AP rfl (fun h=>?_) (fun h=>?_)<;>try (cases h;done)))<;>try simp -implicitDefEqProofs only [AF,A7,go_sem])|fail))
   all_goals clear hleaf hbi hnm hal
   all_goals (refine fin _ _ ?_;simp [HT,O5,nmB,nuB,nsB,asB,nkB, *] at *;try (have hpr:=nK u;grind))
 · have hno:HT o n u ns ks.length al=false:=by
    simp only [not_or] at ho
    simp [HT,nkB,ho]
   simp only [not_or] at ho
   obtain ⟨h1,h2,h3,h4,h5,h6,h7,h8,h9,h10,h11,h12,h13,h14,h15,h16,h17⟩:=ho
   (repeat' (first|refine Run.ct rfl ?_|((first|refine Run.reg mixed ?_|refine Run.AJ ?_|refine Run.A9 IZ (AM.le_refl _) ?_)<;>try simp -implicitDefEqProofs only [Ds h1,Ds h2,Ds h3,Ds h4,Ds h5,Ds h6,Ds h7,Ds h8,Ds h9,Ds h10,Ds h11,Ds h12,Ds h13,Ds h14,Ds h15,Ds h16,Ds h17,go_sem])|fail))
   rw [hno]
end Go.Ab
namespace Go.Ab
open Go.Proofs
def NOk (L:List Tok):Prop:=∀t∈L,t.kind=3→eL t.text
theorem fE {L:List Tok} {s:PSt} (hN:NOk L) (hs:POk L s):eL ((PM.take 3 (by decide)).run s).1:=by
 cases hc:s.hd.kind==3 with
 |true=>
  have e:(PM.take 3 (by decide)).run s=(s.hd.text,s.adv):=if_pos hc
  rw [e]
  refine hN s.hd (hs.suf.subset ?_) (by simpa using hc)
  obtain ⟨r,f,p⟩:=s
  cases r with
  |nil=>exact hs.wf.elim
  |cons t l=>exact Ad ..
 |false=>
  have e:(PM.take 3 (by decide)).run s=([],s.fail):=if_neg (by simp only;rw [hc];decide)
  rw [e];exact .inl rfl
theorem bW (i:Nat) {L:List Tok} (hN:NOk L) (n:Nat):PC 209 [.gp i 0] i L n Jn (fun x=>.d (.int .i64 x)):=by
 intro σ s0 g0 h0 l0 b0
 refine QK (by simp) ?_
 rw [BO]
 simp only [Jn,run_map]
 have hn:=fE hN h0
 have c0:=cO i L n 3 (by decide) σ s0 g0 h0 l0 b0
 have c1:=cV _ (σ.AL i (psA L ((PM.take 3 (by decide)).run s0).2)) hn g0
 (repeat' (first|refine Run.ct rfl ?_|((first|refine Run.reg mixed ?_|refine Run.AJ ?_|refine Run.A9 JZ (AM.le_refl _) ?_|(refine AI.upd c0 ?_)|refine AI.det (c1) ?_|(refine AP rfl (fun h=>?_) (fun h=>?_)<;>try (cases h;done)))<;>try simp -implicitDefEqProofs only [go_sem])|(refine ⟨fun h=>?_,fun h=>?_⟩<;>first|(cases h;done)|try simp only [h])|fail))
theorem Qq (u:Int) (σ:AM) (h:1≤u∧u≤8):AQ Tryz.prog 91 [.d (.int .i64 u)] σ (fun v σ'=>v= .d (.str (opT u))∧σ'=σ):=by
 refine RB (by simp) ?_
 rw [BO]
 have hu:u=1∨u=2∨u=3∨u=4∨u=5∨u=6∨u=7∨u=8:=by omega
 rcases hu with rfl|rfl|rfl|rfl|rfl|rfl|rfl|rfl
 all_goals (repeat' (first|refine Run.ct rfl ?_|((first|refine Run.reg mixed ?_|refine Run.AJ ?_|refine Run.A9 KL (AM.le_refl _) ?_|(refine AP rfl (fun h=>?_) (fun h=>?_)<;>try (cases h;done)))<;>try simp -implicitDefEqProofs only [A7,go_sem])|(refine ⟨fun h=>?_,fun h=>?_⟩<;>first|(cases h;done)|try simp only [h])|fail))
 all_goals rfl
theorem Kc (u:Int) (σ:AM):AQ Tryz.prog 138 [.d (.int .i64 u)] σ (fun v σ'=>v= .d (.int .i64 ((Ef u:Nat):Int))∧σ'=σ):=by
 refine QH (by simp) ?_
 rw [BO]
 by_cases hu:u=1∨u=2∨u=3∨u=4∨u=5
 · rcases hu with rfl|rfl|rfl|rfl|rfl
   all_goals (repeat' (first|refine Run.ct rfl ?_|((first|refine Run.reg mixed ?_|refine Run.AJ ?_|refine Run.A9 GP (AM.le_refl _) ?_|(refine AP rfl (fun h=>?_) (fun h=>?_)<;>try (cases h;done)))<;>try simp -implicitDefEqProofs only [A7,go_sem])|(refine ⟨fun h=>?_,fun h=>?_⟩<;>first|(cases h;done)|try simp only [h])|fail))
   all_goals rfl
 · simp only [not_or] at hu
   obtain ⟨h1,h2,h3,h4,h5⟩:=hu
   have he:Ef u=1:=by unfold Ef;rw [if_neg (by omega),if_neg (by omega)]
   (repeat' (first|refine Run.ct rfl ?_|((first|refine Run.reg mixed ?_|refine Run.AJ ?_|refine Run.A9 GP (AM.le_refl _) ?_|(refine AP rfl (fun h=>?_) (fun h=>?_)<;>try (cases h;done)))<;>try simp -implicitDefEqProofs only [Ds h1,Ds h2,Ds h3,Ds h4,Ds h5,he,go_sem])|(refine ⟨fun h=>?_,fun h=>?_⟩<;>first|(cases h;done)|try simp only [h])|fail))
   all_goals rfl
def Kb (lv:Nat) (t:Str):Nat→Nat→Nat
 |0,_=>0
 |n+1,k=>if Ef (k:Int)=lv∧(t==opT (k:Int))=true then k else Kb lv t n (k+1)
def opR (lv:Nat) (t:Str):Nat:=Kb lv t 8 1
theorem qG {k:Nat} (h:k≤8):decide ((k:Int)≤8)=true:=by simp;omega
theorem AAK {k:Nat} (h:¬k≤8):decide ((k:Int)≤8)=false:=by simp;omega
theorem L3 {L:List Tok} {i:Nat} {s:PSt} (hs:POk L s) (lv:Nat) (σ:AM) (hb:σ.blk i=some (psA L s)):
 AQ Tryz.prog 187 [.gp i 0,.d (.int .i64 (lv:Int))] σ (fun v σ'=>v= .d (.int .i64 ((opR lv s.hd.text:Nat):Int))∧σ'=if opR lv s.hd.text=0 then σ else σ.AL i (psA L s.adv)):=by
 refine O1 (by simp) ?_
 rw [Ax]
 (repeat' (first|refine Run.ct rfl ?_|((first|refine Run.reg mixed ?_|refine Run.AJ ?_|(refine AP rfl (fun h=>?_) (fun h=>?_)<;>try (cases h;done)))<;>try simp -implicitDefEqProofs only [go_sem])|(refine ⟨fun h=>?_,fun h=>?_⟩<;>first|(cases h;done)|try simp only [h])|fail))
 refine Run.Bl ?_
 refine Run.Bm ((fun (a0:AV) (a1:AV)=>fun (k:Nat)=>put 0 a0 (put 1 a1 (put 5 (.d (.int .i64 (k:Nat))) U))) _ _) (fun _=>E) (fun _=>σ) (fun k=>1≤k∧k≤9∧Kb lv s.hd.text (9 - k) k=opR lv s.hd.text) (fun k=>9 - k) ?_ 1 ⟨by omega,by omega,rfl⟩
 rintro k ⟨hk1,hk9,hsc⟩ ih
 by_cases hk8:k≤8
 · have hT:=Qq (k:Int) σ (by omega)
   have hLv:=Kc (k:Int) σ
   obtain ⟨m,hm⟩:∃m,9 - k=m+1:=⟨8 - k,by omega⟩
   have hw:=Cg (a:=k) (by omega)
   rw [hm,Kb] at hsc
   by_cases hl:Ef (k:Int)=lv
   · have hle:(((Ef (k:Int):Nat):Int)==(lv:Int))=true:=by rw [hl];simp
     cases ht:s.hd.text==opT (k:Int) with
     |true=>
      rw [if_pos ⟨hl,ht⟩] at hsc
      have hne:¬opR lv s.hd.text=0:=by omega
      rw [if_neg hne,← hsc]
      (repeat' (first|refine Run.ct rfl ?_|((first|refine Run.reg mixed ?_|refine Run.AJ ?_|refine Run.A9 F1 (AM.le_refl _) ?_|(refine AI.upd (DH hs _ σ hb ht) ?_)|refine AI.det (hT) ?_|refine AI.det (hLv) ?_|(refine AP rfl (fun h=>?_) (fun h=>?_)<;>try (cases h;done)))<;>try simp -implicitDefEqProofs only [qG hk8,hle,go_sem])|(refine ⟨fun h=>?_,fun h=>?_⟩<;>first|(cases h;done)|try simp only [h])|fail))
     |false=>
      rw [if_neg (by rw [ht];simp)] at hsc
      (repeat' (first|refine Run.ct rfl ?_|((first|refine Run.reg mixed ?_|refine Run.AJ ?_|(refine AI.upd (DG hs _ σ hb ht) ?_)|refine AI.det (hT) ?_|refine AI.det (hLv) ?_|(refine AP rfl (fun h=>?_) (fun h=>?_)<;>try (cases h;done)))<;>try simp -implicitDefEqProofs only [qG hk8,hle,hw,go_sem])|(refine ⟨fun h=>?_,fun h=>?_⟩<;>first|(cases h;done)|try simp only [h])|fail))
      exact ih (k+1) ⟨by omega,by omega,by rw [show 9 - (k+1)=m by omega];exact hsc⟩ (by omega)
   · have hle:(((Ef (k:Int):Nat):Int)==(lv:Int))=false:=by simpa using fun h:((Ef (k:Int):Nat):Int)=(lv:Int)=>hl (by omega)
     rw [if_neg (fun h=>hl h.1)] at hsc
     (repeat' (first|refine Run.ct rfl ?_|((first|refine Run.reg mixed ?_|refine Run.AJ ?_|refine AI.det (hT) ?_|refine AI.det (hLv) ?_|(refine AP rfl (fun h=>?_) (fun h=>?_)<;>try (cases h;done)))<;>try simp -implicitDefEqProofs only [qG hk8,hle,hw,go_sem])|(refine ⟨fun h=>?_,fun h=>?_⟩<;>first|(cases h;done)|try simp only [h])|fail))
     exact ih (k+1) ⟨by omega,by omega,by rw [show 9 - (k+1)=m by omega];exact hsc⟩ (by omega)
 · have:k=9:=by omega
   subst this
   have h0:opR lv s.hd.text=0:=hsc.symm
   rw [h0,if_pos rfl]
   (repeat' (first|refine Run.ct rfl ?_|((first|refine Run.reg mixed ?_|refine Run.AJ ?_|refine Run.A9 F1 (AM.le_refl _) ?_|(refine AP rfl (fun h=>?_) (fun h=>?_)<;>try (cases h;done)))<;>try simp -implicitDefEqProofs only [AAK hk8,go_sem])|(refine ⟨fun h=>?_,fun h=>?_⟩<;>first|(cases h;done)|try simp only [h])|fail))
   rfl
theorem ABG (t:Str):opR 1 t=if (t==[60])=true then 6 else if (t==[60,61])=true then 7 else if (t==[61,61])=true then 8 else 0:=by
 unfold opR;simp [Kb,Ef,opT,VV]
theorem AAM (t:Str):opR 2 t=if (t==[43])=true then 1 else if (t==[45])=true then 2 else 0:=by
 unfold opR;simp [Kb,Ef,opT,VV]
theorem AAN (t:Str):opR 3 t=if (t==[42])=true then 3 else if (t==[47])=true then 4 else if (t==[37])=true then 5 else 0:=by
 unfold opR;simp [Kb,Ef,opT,VV]
theorem Vc (u:Int) (a b:Ex) (σ:AM):AQ Tryz.prog 188 [.d (.int .i64 u),exA a,exA b] σ (fun v σ'=>v=exA (Hk u a b)∧σ'=σ):=by
 refine Wr (by simp) ?_
 obtain ⟨o0,n0,u0,ns0,ks0,al0⟩:=a
 obtain ⟨o1,n1,u1,ns1,ks1,al1⟩:=b
 rw [Fb]
 simp only [exA,Hk,exN,Ex.A2,AD,AG]
 (repeat' (first|refine Run.ct rfl ?_|((first|refine Run.reg mixed ?_|refine Run.AJ ?_|refine Run.A9 Ql (AM.le_refl _) ?_|(refine AP rfl (fun h=>?_) (fun h=>?_)<;>try (cases h;done)))<;>try simp -implicitDefEqProofs only [go_sem])|(refine ⟨fun h=>?_,fun h=>?_⟩<;>first|(cases h;done)|try simp only [h])|fail))
def Zc (E:PM Ex):Nat→List Ex→PM (List Ex)
 |0,l=>.pure l
 |n+1,l=>(GA [44]).bind fun _=>E.bind fun x=>Zc E n (l++[x])
def T5 (E:PM Ex) (n:Nat):PM (List Ex):=(GA [40]).bind fun _=>E.bind fun x=>(Zc E (n - 1) [x]).bind fun l=>(GA [41]).bind fun _=>.pure l
theorem xF (E:PM Ex) (s:PSt):(O4 E).run s=(T5 E 1).run s:=rfl
theorem qU {a b:Nat}:decide ((a:Int) < (b:Int))=decide (a < b):=decide_eq_decide.2 (by omega)
theorem jS (i:Nat) (L:List Tok) (n:Nat) {E:PM Ex} (hE:PC 131 [.gp i 0] i L n E exA) (m:Nat) (hm:1≤m∧m≤3):
 PC 213 [.gp i 0,.d (.int .i64 (m:Int))] i L n (T5 E m) (fun l=>.d (.sl (l.map Ex.enc))):=by
 intro σ s0 g0 h0 l0 b0
 refine Nl (by simp) ?_
 rw [Ax]
 simp only [T5,run_bind,run_pure]
 (have c0:=(DJ i L n [40] (by decide)) σ s0 g0 h0 (by omega) b0;have h1:=h0.run (PM.exp [40] (by decide));have l1:=PM.le (PM.exp [40] (by decide)) h0.wf;generalize (PM.exp [40] (by decide)).run s0=y at c0 h1 l1 ⊢;obtain ⟨x0,s1⟩:=y;simp only at c0 h1 l1 ⊢;have b1:(σ.AL i (psA L s1)).blk i=some (psA L s1):=(by rw [AO,if_pos rfl]))
 (have c1:=hE (σ.AL i (psA L s1)) s1 g0 h1 (by omega) b1;rw [A3] at c1;have h2:=h1.run (E);have l2:=PM.le (E) h1.wf;generalize (E).run s1=y at c1 h2 l2 ⊢;obtain ⟨x1,s2⟩:=y;simp only at c1 h2 l2 ⊢;have b2:(σ.AL i (psA L s2)).blk i=some (psA L s2):=(by rw [AO,if_pos rfl]);obtain ⟨o0,n0,u0,ns0,ks0,al0⟩:=x1;simp only [exA,Ex.A2,AD,AG] at c1 ⊢)
 have hw0:IntKind.i64.wrap ((m:Int) - 1)=((m - 1:Nat):Int):=by rw [Au (by omega) (by omega)];omega
 (repeat' (first|refine Run.ct rfl ?_|((first|refine Run.reg mixed ?_|refine Run.AJ ?_|(refine AI.upd c0 ?_)|(refine AI.upd c1 ?_)|(refine Ia.own rfl (by decide) (fun tk htk=>?_))|(refine AP rfl (fun h=>?_) (fun h=>?_)<;>try (cases h;done)))<;>try simp -implicitDefEqProofs only [hw0,go_sem])|(refine ⟨fun h=>?_,fun h=>?_⟩<;>first|(cases h;done)|try simp only [h])|fail))
 refine Run.Bl ?_
 refine Run.Bm ((fun (a0:AV) (a12:AV)=>fun (y:PSt×List Ex×Nat×AV×AM)=>put 0 a0 (put 5 (y.2.2.2.1) (put 12 a12 (put 13 (.d (.int .i64 (y.2.2.1:Nat))) U)))) _ _) (fun _=>Ab.E) (fun y=>y.2.2.2.2) (fun y=>POk L y.1∧y.1.r.length≤n∧y.2.1.length≤1+y.2.2.1∧y.2.2.1≤m - 1∧LS σ i L y.1 44 6 (y.2.1.map Ex.enc) y.2.2.2.1 y.2.2.2.2∧(Zc E (m - 1 - y.2.2.1) y.2.1).run y.1=(Zc E (m - 1) [Ex.mk o0 n0 u0 ns0 ks0 al0]).run s2) (fun y=>m - 1 - y.2.2.1) ?_ (s2,[Ex.mk o0 n0 u0 ns0 ks0 al0],0,.own tk 44 6 _,_) ⟨h2,by simp only;omega,by simp,by simp only;omega,?_,rfl⟩
 rotate_left
 · simp only [AD,AG,Ex.A2]
   exact LS.lit htk
 rintro ⟨s2',l,k,v,τ⟩ ⟨f1,f2,f3,f4,f5,f6⟩ ih
 simp only at f1 f2 f3 f4 f5 f6
 by_cases hk:k < m - 1
 · obtain ⟨q,hq⟩:∃q,m - 1 - k=q+1:=⟨m - 2 - k,by omega⟩
   rw [hq] at f6
   simp only [Zc,run_bind] at f6
   have e0:=UH f1 [44] (by decide) τ f5.blk
   have f1a:=f1.run (PM.exp [44] (by decide))
   have l1a:=PM.le (PM.exp [44] (by decide)) f1.wf
   have f5a:=f5.step ((PM.exp [44] (by decide)).run s2').2
   generalize (PM.exp [44] (by decide)).run s2'=y at e0 f1a l1a f5a f6
   obtain ⟨z,s3⟩:=y
   simp only at e0 f1a l1a f5a f6
   have e1:=hE _ s3 (f5a.gt g0) f1a (by omega) f5a.blk
   rw [A3] at e1
   have f1b:=f1a.run E
   have l1b:=PM.le E f1a.wf
   have f5b:=f5.step (E.run s3).2
   generalize E.run s3=y at e1 f1b l1b f5b f6
   obtain ⟨x,s4⟩:=y
   simp only at e1 f1b l1b f5b f6
   obtain ⟨o,nm,u,ns,ks,al⟩:=x
   simp only [exA,Ex.A2,AD,AG] at e1
   have hw:=Cg (a:=k) (by omega)
   (repeat' (first|refine Run.ct rfl ?_|((first|refine Run.reg mixed ?_|refine Run.AJ ?_|(refine AI.upd e0 ?_)|(refine AI.upd e1 ?_)|(refine AP rfl (fun h=>?_) (fun h=>?_)<;>try (cases h;done)))<;>try simp -implicitDefEqProofs only [f5.own.BQ,qU,decide_eq_true hk,hw,go_sem])|(refine ⟨fun h=>?_,fun h=>?_⟩<;>first|(cases h;done)|try simp only [h])|fail))
   (apply LS.tok f5b;rfl;simp;(simp only [AF,AE,AH];omega);decide;intro v2 τ2 ho);simp -implicitDefEqProofs only [ho.own.BQ,ho.own.Av,ho.own.cells,ho.own.cell,ho.own.plain,ho.own.dv,if_true,hw,go_sem]
   (repeat' (first|refine Run.ct rfl ?_|((first|refine Run.reg mixed ?_|refine Run.AJ ?_|(refine AP rfl (fun h=>?_) (fun h=>?_)<;>try (cases h;done)))<;>try simp -implicitDefEqProofs only [ho.own.BQ,ho.own.Av,ho.own.cells,ho.own.cell,ho.own.plain,ho.own.dv,if_true,hw,go_sem])|(refine ⟨fun h=>?_,fun h=>?_⟩<;>first|(cases h;done)|try simp only [h])|fail))
   refine ih (s4,l++[Ex.mk o nm u ns ks al],k+1,v2,τ2) ⟨f1b,by simp only;omega,by simp only [AA,AE,AH];omega,by simp only;omega,?_,?_⟩ (by simp only;omega)
   · simp only [Bn,AD,AG,Ex.A2];exact ho
   · simp only;rw [show m - 1 - (k+1)=q by omega];exact f6
 · have hk0:m - 1 - k=0:=by omega
   rw [hk0] at f6
   simp only [Zc,run_pure] at f6
   rw [← f6]
   simp only
   have e0:=UH f1 [41] (by decide) τ f5.blk
   have f5a:=f5.step ((PM.exp [41] (by decide)).run s2').2
   (repeat' (first|refine Run.ct rfl ?_|((first|refine Run.reg mixed ?_|refine Run.AJ ?_|(refine AI.upd e0 ?_)|(refine Run.A9 Hg f5a.le ?_)|(refine AP rfl (fun h=>?_) (fun h=>?_)<;>try (cases h;done)))<;>try simp -implicitDefEqProofs only [f5.own.BQ,qU,decide_eq_false hk,f5.own.Av,f5.own.plain,if_true,go_sem])|(refine ⟨fun h=>?_,fun h=>?_⟩<;>first|(cases h;done)|try simp only [h])|fail))
end Go.Ab
