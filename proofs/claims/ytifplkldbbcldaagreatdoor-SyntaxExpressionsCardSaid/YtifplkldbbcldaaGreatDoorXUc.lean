/- Valid written types. Valid written types and nodes. Valid nodes. The parser: numbers, operators, arguments. Conditions: none. -/
import Derived.Test.YtifplkldbbcldaaGreatDoorXSc
set_option linter.unusedSimpArgs false
set_option linter.unusedVariables false
set_option maxRecDepth 4000
set_option maxHeartbeats 8000000
open List renaming mem_of_getElem?→Ae,map_cons→AF,map_nil→AI,take_of_length_le→A8,length_map→AG,length_nil→AE,mem_cons_self→Ah,length_cons→AB,length_append→AA,map_append→Bp
open Bool renaming and_false→D9,not_eq_true'→CS,eq_iff_iff→Dn
open Int renaming reduceBEq→AS
namespace Go.Ab
open Go.Proofs
set_option maxHeartbeats 4000000 in
theorem XS:∀(d:Nat) (t:TE) (σ:AM),d≤40→t.size≤1000000→AP Tryz.prog 56 [teA t,.d (.int .i64 d)] σ (fun v σ'=>v= .d (.bool (Bo d t))∧σ'=σ):=by
 intro d
 induction d with
 |zero=>
  rintro ⟨k,n,l⟩ σ _ _
  refine SD (by simp) ?_
  rw [BP,teA,TE.A2]
  have h0:(((0:Nat):Int)==0)=true:=by decide
  (repeat' (first|refine Run.ct rfl ?_|((first|refine Run.reg mixed ?_|refine Run.AJ ?_|refine Run.Ad HG (AM.le_refl _) ?_)<;>try simp -implicitDefEqProofs only [h0,go_sem])|fail))
  rfl
 |succ d ihd=>
  rintro ⟨k,n,l⟩ σ hd hsz
  have hlen:=TE.Ds l
  have hsz1:TE.Ar l+1≤1000000:=by simpa [TE.size,Nat.add_comm] using hsz
  refine SD (by simp) ?_
  rw [BP,teA,TE.A2]
  have h0:(((d+1:Nat):Int)==0)=false:=by simp only [beq_eq_false_iff_ne,ne_eq];omega
  have hws:IntKind.i64.wrap (((d+1:Nat):Int) - 1)=(d:Int):=Ul (by omega)
  have hloop:Cv k n l.length=true→Run Fp (fun v σ'=>v= .d (.bool (Bo (d+1) (.mk k n l)))∧σ'=σ) [.code (.loop OE),.blk 1,.code (.seq (.reg [⟨some 4,.mv (.c (.d (.bool true))),none⟩] [4]) .ret)]
   (put 1 (.d (.int .i64 ((d+1:Nat):Int))) (put 2 (.lp 2 0) (put 5 (.d (.int .i64 l.length)) (put 6 (.d (.int .i64 0)) U)))) (B8 2 [.d (.int .i64 k),.d (.str n),.d (.sl (l.map TE.enc))] E) σ:=by
   intro hsh
   refine Run.Ba ?_
   refine Run.Bd ((fun (a1:AV) (a2:AV) (a5:AV)=>fun (i:Nat)=>put 1 a1 (put 2 a2 (put 5 a5 (put 6 (.d (.int .i64 i)) U)))) _ _ _) (fun _=>B8 2 [.d (.int .i64 k),.d (.str n),.d (.sl (l.map TE.enc))] E) (fun _=>σ) (fun i=>i≤l.length∧(l.take i).all (Bo d)=true) (fun i=>l.length - i) ?_ 0 ⟨by simp,by simp⟩
   rintro i ⟨hi,hok⟩ ih
   by_cases hlt:i < l.length
   · obtain ⟨x,hx⟩:=C7 hlt
     have he:=CR (enc:=TE.enc) hx
     have hms:=TE.KS (Ae hx)
     have hc:=ihd x σ (by omega) (by omega)
     have hw1:=BU (show i+1≤9000000000000000000 by omega)
     cases hp:Bo d x with
     |true=>
      rw [hp] at hc
      obtain ⟨xk,xn,xl⟩:=x
      simp only [TE.A2,teA,AF,AI] at he hc
      (repeat' (first|refine Run.ct rfl ?_|((first|refine Run.reg mixed ?_|refine Run.AJ ?_|refine AH.det (hc) ?_)<;>try simp -implicitDefEqProofs only [BZ hlt,he,hw1,hws,go_sem])|fail))
      exact ih (i+1) ⟨by omega,Kg hok hx hp⟩ (by omega)
     |false=>
      rw [hp] at hc
      have hres:Bo (d+1) (.mk k n l)=false:=by rw [Bo,Xx hx hp,D9]
      obtain ⟨xk,xn,xl⟩:=x
      simp only [TE.A2,teA,AF,AI] at he hc
      (repeat' (first|refine Run.ct rfl ?_|((first|refine Run.reg mixed ?_|refine Run.AJ ?_|refine Run.Ad HG (AM.le_refl _) ?_|refine AH.det (hc) ?_)<;>try simp -implicitDefEqProofs only [BZ hlt,he,hw1,hws,go_sem])|fail))
      rw [hres]
   · (repeat' (first|refine Run.ct rfl ?_|((first|refine Run.reg mixed ?_|refine Run.AJ ?_|refine Run.Ad HG (AM.le_refl _) ?_)<;>try simp -implicitDefEqProofs only [FD hlt,go_sem])|fail))
     rw [A8 (by omega)] at hok
     rw [Bo,hsh,hok];rfl
  clear ihd
  (repeat' (first|refine Run.ct rfl ?_|((first|refine Run.reg mixed ?_|refine Run.AJ ?_|refine Run.Ad HG (AM.le_refl _) ?_|((refine hloop ?_))|refine AH.det (DP _ _ _) ?_|(refine AQ rfl (fun h=>?_) (fun h=>?_)<;>try (cases h;done)))<;>try simp -implicitDefEqProofs only [h0,EB,J4,AG,go_sem])|(refine ⟨fun h=>?_,fun h=>?_⟩<;>first|(cases h;done)|try simp only [h])|fail))
  all_goals clear hloop hws h0
  all_goals (simp only [beq_iff_eq,beq_eq_false_iff_ne,ne_eq,CS,Bool.not_eq_false',decide_eq_true_eq,decide_eq_false_iff_not] at *;simp_all [Bo,Cv,D5,upperB];first|done|omega|(intros;omega)|(intros;exfalso;omega)|(rcases l with _|⟨a,l⟩<;>simp<;>omega))
end Go.Ab
namespace Go.Ab
open Go.Proofs
theorem Rb (d:Nat) (hd:∀(t:TE) (σ:AM),t.size≤1000000→AP Tryz.prog 106 [teA t,.d (.int .i64 ((41 - d:Nat):Int))] σ (fun v σ'=>v= .d (.bool (Bo d t))∧σ'=σ)) (hd40:d < 40)
 (t:TE) (j:Nat) (σ:AM) (hsz:t.size≤1000000) (hj:σ.blk j=some [.d (.int .i64 ((40 - d:Nat):Int))]):
 AP Tryz.prog 153 [teA t,.gp j 0] σ (fun v σ'=>v= .d (.bool (Bo d t))∧σ'=σ):=by
 refine SW (by simp) ?_
 rw [BP]
 have hc:=hd t σ hsz
 obtain ⟨k,n,l⟩:=t
 simp only [TE.A2,teA,AF,AI] at hc ⊢
 have hw:IntKind.i64.wrap (((40 - d:Nat):Int)+1)=((41 - d:Nat):Int):=by rw [BF (by omega) (by omega)];omega
 (repeat' (first|refine Run.ct rfl ?_|((first|refine Run.reg mixed ?_|refine Run.AJ ?_|refine Run.Ad LM (AM.le_refl _) ?_|refine AH.det (hc) ?_)<;>try simp -implicitDefEqProofs only [hj,hw,go_sem])|fail))
set_option maxHeartbeats 4000000 in
theorem Te:∀(d:Nat),d≤40→∀(t:TE) (σ:AM),t.size≤1000000→AP Tryz.prog 106 [teA t,.d (.int .i64 ((41 - d:Nat):Int))] σ (fun v σ'=>v= .d (.bool (Bo d t))∧σ'=σ):=by
 intro d
 induction d with
 |zero=>
  rintro _ ⟨k,n,l⟩ σ _
  refine NN (by simp) ?_
  rw [BP,teA,TE.A2]
  (repeat' (first|refine Run.ct rfl ?_|((first|refine Run.reg mixed ?_|refine Run.AJ ?_)<;>try simp -implicitDefEqProofs only [go_sem])|fail))
  intro j hj
  have hle:=FN (cs:=[.d (.int .i64 ((41 - 0:Nat):Int))]) hj
  have h0:decide ((40:Int) < ((41 - 0:Nat):Int))=true:=by decide
  (repeat' (first|refine Run.ct rfl ?_|((first|refine Run.reg mixed ?_|refine Run.AJ ?_|(refine Run.Ad IV (σ2:=σ) hle ?_))<;>try simp -implicitDefEqProofs only [h0,go_sem])|fail))
  rfl
 |succ d ihd=>
  rintro hd ⟨k,n,l⟩ σ hsz
  have hlen:=TE.Ds l
  have hsz1:TE.Ar l+1≤1000000:=by simpa [TE.size,Nat.add_comm] using hsz
  have hd1:=ihd (by omega)
  refine NN (by simp) ?_
  rw [BP,teA,TE.A2]
  have h0:decide ((40:Int) < ((41 - (d+1):Nat):Int))=false:=by simp only [decide_eq_false_iff_not];omega
  (repeat' (first|refine Run.ct rfl ?_|((first|refine Run.reg mixed ?_|refine Run.AJ ?_)<;>try simp -implicitDefEqProofs only [go_sem])|fail))
  intro j hj
  have hle:=FN (cs:=[.d (.int .i64 ((41 - (d+1):Nat):Int))]) hj
  have hall:=MD (fid:=153) (caps:=[.gp j 0]) (by kernel_rfl) rfl (Bo d) l (σ.AL j [.d (.int .i64 ((41 - (d+1):Nat):Int))]) (fun x hx σ1 hle1=>by
   have hms:=TE.KS hx
   refine Rb d hd1 (by omega) x j σ1 (by omega) ?_
   rw [hle1.blk j _ (by simp only [AO,if_true];rfl)]
   rw [show 41 - (d+1)=40 - d by omega])
  clear hd1 ihd
  (repeat' (first|refine Run.ct rfl ?_|((first|refine Run.reg mixed ?_|refine Run.AJ ?_|(refine Run.Ad IV (σ2:=σ) hle ?_)|refine AH.det (Du _ _) ?_|refine AH.det (Bc _ _) ?_|refine AH.det (hall) ?_|(refine AQ rfl (fun h=>?_) (fun h=>?_)<;>try (cases h;done)))<;>try simp -implicitDefEqProofs only [h0,J4,AG,go_sem])|(refine ⟨fun h=>?_,fun h=>?_⟩<;>first|(cases h;done)|try simp only [h])|fail))
  all_goals clear hall h0
  all_goals (simp only [bne,beq_iff_eq,beq_eq_false_iff_ne,ne_eq,CS,Bool.not_eq_false',decide_eq_true_eq,decide_eq_false_iff_not] at *;simp_all [Bo,Cv];first|done|omega|(intros;omega)|(intros;exfalso;omega)|(rcases l with _|⟨a,l⟩<;>simp<;>omega))
end Go.Ab
namespace Go.Ab
open Go.Proofs
theorem AD2 (n:Nat):((n:Int)==0)=decide (n=0):=by rw [Dn];simp only [beq_iff_eq,decide_eq_true_eq];omega
def O3 (n:Str) (u:Int) (a b:Nat):Bool:=n==[]&&(u==0&&(decide (a=0)&&decide (b=0)))
theorem LU (o:Int) (n:Str) (u:Int) (ns ks al:List (List DV)) (σ:AM):
 AP Tryz.prog 156 [.agg [.d (.int .i64 o),.d (.str n),.d (.int .i64 u),.d (.sl ns),.d (.sl ks),.d (.sl al)]] σ (fun v σ'=>v= .d (.bool (O3 n u ns.length al.length))∧σ'=σ):=by
 refine Yd (by simp) ?_
 rw [Av]
 cases h1:(n==[])<;>cases h2:(u==0)<;>cases h3:decide (ns.length=0)
 all_goals (repeat' (first|refine Run.ct rfl ?_|((first|refine Run.reg mixed ?_|refine Run.AJ ?_|refine Run.Ad SA (AM.le_refl _) ?_)<;>try simp -implicitDefEqProofs only [EB,h1,h2,h3,AD2,go_sem])|fail))
 all_goals (unfold O3;rw [h1,h2,h3];rfl)
theorem qY (o:Int) (n:Str) (u:Int) (ks al:List (List DV)) (σ:AM):
 AP Tryz.prog 156 [.agg [.d (.int .i64 o),.d (.str n),.d (.int .i64 u),.AY,.d (.sl ks),.d (.sl al)]] σ (fun v σ'=>v= .d (.bool (O3 n u 0 al.length))∧σ'=σ):=
 AP.plain (by simpa only [AV.Dt,KZ,QV,I0,AE] using LU o n u [] ks al σ)
theorem qZ (o:Int) (n:Str) (u:Int) (ns ks:List (List DV)) (σ:AM):
 AP Tryz.prog 156 [.agg [.d (.int .i64 o),.d (.str n),.d (.int .i64 u),.d (.sl ns),.d (.sl ks),.AY]] σ (fun v σ'=>v= .d (.bool (O3 n u ns.length 0))∧σ'=σ):=
 AP.plain (by simpa only [AV.Dt,KZ,QV,I0,AE] using LU o n u ns ks [] σ)
theorem Pn (n lo hi:Int) (σ:AM):AP Tryz.prog 160 [.d (.int .i64 n),.d (.int .i64 lo),.d (.int .i64 hi)] σ (fun v σ'=>v= .d (.bool (decide (lo≤n)&&decide (n≤hi)))∧σ'=σ):=by
 refine Vz (by simp) ?_
 rw [Hg]
 cases h1:decide (lo≤n)
 all_goals (repeat' (first|refine Run.ct rfl ?_|((first|refine Run.reg mixed ?_|refine Run.AJ ?_|refine Run.Ad Ou (AM.le_refl _) ?_)<;>try simp -implicitDefEqProofs only [h1,go_sem])|fail))
def vD (u:Int):Str:=if u=1 then [110,101,119] else if u=2 then [103,101,116] else if u=3 then [115,101,116] else if u=4 then [108,101,110] else if u=5 then [114,101,102] else if u=6 then [114,101,97,100] else if u=7 then [119,114,105,116,101] else []
theorem V8 (u:Int) (σ:AM):AP Tryz.prog 147 [.d (.int .i64 u)] σ (fun v σ'=>v= .tup [.d (.str (vD u)),.d (.int .i64 (He u))]∧σ'=σ):=by
 refine U5 (by simp) ?_
 rw [Av]
 (repeat' (first|refine Run.ct rfl ?_|((first|refine Run.reg mixed ?_|refine Run.AJ ?_|refine Run.Ad ND (AM.le_refl _) ?_)<;>try simp -implicitDefEqProofs only [go_sem])|(refine ⟨fun h=>?_,fun h=>?_⟩<;>first|(cases h;done)|try simp only [h])|fail))
 all_goals (simp only [beq_iff_eq,beq_eq_false_iff_ne,ne_eq] at *;simp_all [vD,He])
set_option maxHeartbeats 1000000 in
theorem jH (a:Al) (σ:AM):AP Tryz.prog 159 [alA a] σ (fun v σ'=>v= .d (.bool (MY a))∧σ'=σ):=by
 refine VQ (by simp) ?_
 rw [Av]
 obtain ⟨c,vs,o,n,u,ns,ks,al⟩:=a
 simp only [Al.A2,alA,AF,AI]
 have hl6:decide ((vs.length:Int)≤6)=decide (vs.length≤6):=leN vs.length 6
 cases h1:upperB c with
 |false=>
  (repeat' (first|refine Run.ct rfl ?_|((first|refine Run.reg mixed ?_|refine Run.AJ ?_|refine Run.Ad Gv (AM.le_refl _) ?_|refine AH.det (Bc c _) ?_)<;>try simp -implicitDefEqProofs only [h1,go_sem])|fail))
  simp [MY,h1]
 |true=>
  by_cases h6:vs.length≤6
  · (repeat' (first|refine Run.ct rfl ?_|((first|refine Run.reg mixed ?_|refine Run.AJ ?_|refine Run.Ad Gv (AM.le_refl _) ?_|refine AH.det (Bc c _) ?_|refine AH.det (Hm (caps:=[]) (by kernel_rfl) rfl GZ vs σ (fun x _ σ1 _=>K8 x σ1)) ?_)<;>try simp -implicitDefEqProofs only [h1,AG,hl6,decide_eq_true h6,go_sem])|fail))
    simp [MY,h1,h6]
  · (repeat' (first|refine Run.ct rfl ?_|((first|refine Run.reg mixed ?_|refine Run.AJ ?_|refine Run.Ad Gv (AM.le_refl _) ?_|refine AH.det (Bc c _) ?_)<;>try simp -implicitDefEqProofs only [h1,AG,hl6,decide_eq_false h6,go_sem])|fail))
    simp [MY,h6]
set_option maxHeartbeats 4000000 in
theorem fD (o:Int) (n:Str) (u:Int) (ns:List Str) (ks:List Ex) (al:List Al) (σ:AM) (ho:o=1∨o=2∨o=3∨o=4∨o=15):
 AP Tryz.prog 155 [exA (.mk o n u ns ks al)] σ (fun v σ'=>v= .d (.bool (nmB o n&&nuB o u&&nsB o ns&&asB o al))∧σ'=σ):=by
 refine U7 (by simp) ?_
 rw [Av,exA,Ex.A2]
 have fin:∀b c:Bool,(b=true↔c=true)→AV.d (.bool b)=AV.d (.bool c):=fun b c h=>by rw [Dn.2 h]
 rcases ho with rfl|rfl|rfl|rfl|rfl
 · (repeat' (first|refine Run.ct rfl ?_|((first|refine Run.reg mixed ?_|refine Run.AJ ?_|refine Run.Ad Dr (AM.le_refl _) ?_|refine AH.det (LU _ _ _ _ _ _ _) ?_)<;>try simp -implicitDefEqProofs only [AG,AS,go_sem])|fail))
   all_goals (refine fin _ _ ?_;simp [O3,nmB,nuB,nsB,asB, *];try grind)
 · (repeat' (first|refine Run.ct rfl ?_|((first|refine Run.reg mixed ?_|refine Run.AJ ?_|refine Run.Ad Dr (AM.le_refl _) ?_|refine AH.det (LU _ _ _ _ _ _ _) ?_|refine AH.det (Pn _ _ _ _) ?_|(refine AQ rfl (fun h=>?_) (fun h=>?_)<;>try (cases h;done)))<;>try simp -implicitDefEqProofs only [AG,AS,go_sem])|fail))
   all_goals (refine fin _ _ ?_;simp [O3,nmB,nuB,nsB,asB, *] at *;try grind)
 · (repeat' (first|refine Run.ct rfl ?_|((first|refine Run.reg mixed ?_|refine Run.AJ ?_|refine Run.Ad Dr (AM.le_refl _) ?_|refine AH.det (LU _ _ _ _ _ _ _) ?_|refine AH.det (Pn _ _ _ _) ?_|(refine AQ rfl (fun h=>?_) (fun h=>?_)<;>try (cases h;done)))<;>try simp -implicitDefEqProofs only [AG,AS,go_sem])|fail))
   all_goals (refine fin _ _ ?_;simp [O3,nmB,nuB,nsB,asB, *] at *;try grind)
 · (repeat' (first|refine Run.ct rfl ?_|((first|refine Run.reg mixed ?_|refine Run.AJ ?_|refine Run.Ad Dr (AM.le_refl _) ?_|refine AH.det (LU _ _ _ _ _ _ _) ?_|refine AH.det (Du _ _) ?_|(refine AQ rfl (fun h=>?_) (fun h=>?_)<;>try (cases h;done)))<;>try simp -implicitDefEqProofs only [AG,AS,go_sem])|fail))
   all_goals (refine fin _ _ ?_;simp [O3,nmB,nuB,nsB,asB, *] at *;try grind)
 · (repeat' (first|refine Run.ct rfl ?_|((first|refine Run.reg mixed ?_|refine Run.AJ ?_|refine Run.Ad Dr (AM.le_refl _) ?_|refine AH.det (LU _ _ _ _ _ _ _) ?_|refine AH.det (Pn _ _ _ _) ?_|(refine AQ rfl (fun h=>?_) (fun h=>?_)<;>try (cases h;done)))<;>try simp -implicitDefEqProofs only [AG,AS,go_sem])|fail))
   all_goals (refine fin _ _ ?_;simp [O3,nmB,nuB,nsB,asB, *] at *;try grind)
theorem cK (u:Int):0 < He u↔1≤u∧u≤7:=by
 unfold He;repeat' split
 all_goals omega
set_option maxHeartbeats 8000000 in
theorem fE (o:Int) (n:Str) (u:Int) (ns:List Str) (ks:List Ex) (al:List Al) (σ:AM):
 AP Tryz.prog 110 [exA (.mk o n u ns ks al)] σ (fun v σ'=>v= .d (.bool (Fi o n u ns ks.length al))∧σ'=σ):=by
 refine U8 (by simp) ?_
 rw [Av,exA,Ex.A2]
 have fin:∀b c:Bool,(b=true↔c=true)→AV.d (.bool b)=AV.d (.bool c):=fun b c h=>by rw [Dn.2 h]
 have hleaf:=fun h=>fD o n u ns ks al σ h
 simp only [exA,Ex.A2,AF,AI] at hleaf ⊢
 have hbi:=Hm (fid:=157) (caps:=[]) (by kernel_rfl) rfl GZ ns σ (fun x _ σ1 _=>K8 x σ1)
 have hnm:=Hm (fid:=51) (caps:=[]) (by kernel_rfl) rfl D5 ns σ (fun x _ σ1 _=>Du x σ1)
 have hal:=Xw (fid:=159) (caps:=[]) (by kernel_rfl) rfl MY al σ (fun x _ σ1 _=>jH x σ1)
 by_cases ho:o=1∨o=2∨o=3∨o=4∨o=5∨o=6∨o=7∨o=8∨o=9∨o=10∨o=11∨o=12∨o=13∨o=14∨o=15∨o=16∨o=17
 · rcases ho with rfl|rfl|rfl|rfl|rfl|rfl|rfl|rfl|rfl|rfl|rfl|rfl|rfl|rfl|rfl|rfl|rfl
   all_goals (repeat' (first|refine Run.ct rfl ?_|((first|refine Run.reg mixed ?_|refine Run.AJ ?_|refine Run.Ad IU (AM.le_refl _) ?_|refine AH.det (hleaf (by simp)) ?_|refine AH.det (LU _ _ _ _ _ _ _) ?_|refine AH.det (qY _ _ _ _ _ _) ?_|refine AH.det (qZ _ _ _ _ _ _) ?_|refine AH.det (Bc _ _) ?_|refine AH.det (K8 _ _) ?_|refine AH.det (Pn _ _ _ _) ?_|refine AH.det (V8 _ _) ?_|refine AH.det (hbi) ?_|refine AH.det (hnm) ?_|refine AH.det (hal) ?_|(refine AQ rfl (fun h=>?_) (fun h=>?_)<;>try (cases h;done)))<;>try simp -implicitDefEqProofs only [AG,AS,go_sem])|fail))
   all_goals clear hleaf hbi hnm hal
   all_goals (refine fin _ _ ?_;simp [Fi,O3,nmB,nuB,nsB,asB,nkB, *] at *;try (have hpr:=cK u;grind))
 · have hno:Fi o n u ns ks.length al=false:=by
    simp only [not_or] at ho
    simp [Fi,nkB,ho]
   simp only [not_or] at ho
   obtain ⟨h1,h2,h3,h4,h5,h6,h7,h8,h9,h10,h11,h12,h13,h14,h15,h16,h17⟩:=ho
   (repeat' (first|refine Run.ct rfl ?_|((first|refine Run.reg mixed ?_|refine Run.AJ ?_|refine Run.Ad IU (AM.le_refl _) ?_)<;>try simp -implicitDefEqProofs only [Bq h1,Bq h2,Bq h3,Bq h4,Bq h5,Bq h6,Bq h7,Bq h8,Bq h9,Bq h10,Bq h11,Bq h12,Bq h13,Bq h14,Bq h15,Bq h16,Bq h17,go_sem])|fail))
   rw [hno]
end Go.Ab
namespace Go.Ab
open Go.Proofs
def NOk (L:List Tok):Prop:=∀t∈L,t.kind=3→hG t.text
theorem jC {L:List Tok} {s:PSt} (hN:NOk L) (hs:POk L s):hG ((PM.take 3 (by decide)).run s).1:=by
 cases hc:s.hd.kind==3 with
 |true=>
  have e:(PM.take 3 (by decide)).run s=(s.hd.text,s.adv):=if_pos hc
  rw [e]
  refine hN s.hd (hs.suf.subset ?_) (by simpa using hc)
  obtain ⟨r,f,p⟩:=s
  cases r with
  |nil=>exact hs.wf.elim
  |cons t l=>exact Ah ..
 |false=>
  have e:(PM.take 3 (by decide)).run s=([],s.fail):=if_neg (by simp only;rw [hc];decide)
  rw [e];exact .inl rfl
theorem eE (i:Nat) {L:List Tok} (hN:NOk L) (n:Nat):PC 209 [.gp i 0] i L n Je (fun x=>.d (.int .i64 x)):=by
 intro σ s0 g0 h0 l0 b0
 refine QK (by simp) ?_
 rw [Av]
 simp only [Je,run_map]
 have hn:=jC hN h0
 have c0:=eX i L n 3 (by decide) σ s0 g0 h0 l0 b0
 have c1:=fH _ (σ.AL i (psA L ((PM.take 3 (by decide)).run s0).2)) hn g0
 (repeat' (first|refine Run.ct rfl ?_|((first|refine Run.reg mixed ?_|refine Run.AJ ?_|refine Run.Ad JR (AM.le_refl _) ?_|(refine AH.upd c0 ?_)|refine AH.det (c1) ?_|(refine AQ rfl (fun h=>?_) (fun h=>?_)<;>try (cases h;done)))<;>try simp -implicitDefEqProofs only [go_sem])|(refine ⟨fun h=>?_,fun h=>?_⟩<;>first|(cases h;done)|try simp only [h])|fail))
theorem Qt (u:Int) (σ:AM) (h:1≤u∧u≤8):AP Tryz.prog 91 [.d (.int .i64 u)] σ (fun v σ'=>v= .d (.str (opT u))∧σ'=σ):=by
 refine RG (by simp) ?_
 rw [Av]
 have hu:u=1∨u=2∨u=3∨u=4∨u=5∨u=6∨u=7∨u=8:=by omega
 rcases hu with rfl|rfl|rfl|rfl|rfl|rfl|rfl|rfl
 all_goals (repeat' (first|refine Run.ct rfl ?_|((first|refine Run.reg mixed ?_|refine Run.AJ ?_|refine Run.Ad Jx (AM.le_refl _) ?_|(refine AQ rfl (fun h=>?_) (fun h=>?_)<;>try (cases h;done)))<;>try simp -implicitDefEqProofs only [AS,go_sem])|(refine ⟨fun h=>?_,fun h=>?_⟩<;>first|(cases h;done)|try simp only [h])|fail))
 all_goals rfl
theorem KW (u:Int) (σ:AM):AP Tryz.prog 138 [.d (.int .i64 u)] σ (fun v σ'=>v= .d (.int .i64 ((Cf u:Nat):Int))∧σ'=σ):=by
 refine QH (by simp) ?_
 rw [Av]
 by_cases hu:u=1∨u=2∨u=3∨u=4∨u=5
 · rcases hu with rfl|rfl|rfl|rfl|rfl
   all_goals (repeat' (first|refine Run.ct rfl ?_|((first|refine Run.reg mixed ?_|refine Run.AJ ?_|refine Run.Ad GM (AM.le_refl _) ?_|(refine AQ rfl (fun h=>?_) (fun h=>?_)<;>try (cases h;done)))<;>try simp -implicitDefEqProofs only [AS,go_sem])|(refine ⟨fun h=>?_,fun h=>?_⟩<;>first|(cases h;done)|try simp only [h])|fail))
   all_goals rfl
 · simp only [not_or] at hu
   obtain ⟨h1,h2,h3,h4,h5⟩:=hu
   have he:Cf u=1:=by unfold Cf;rw [if_neg (by omega),if_neg (by omega)]
   (repeat' (first|refine Run.ct rfl ?_|((first|refine Run.reg mixed ?_|refine Run.AJ ?_|refine Run.Ad GM (AM.le_refl _) ?_|(refine AQ rfl (fun h=>?_) (fun h=>?_)<;>try (cases h;done)))<;>try simp -implicitDefEqProofs only [Bq h1,Bq h2,Bq h3,Bq h4,Bq h5,he,go_sem])|(refine ⟨fun h=>?_,fun h=>?_⟩<;>first|(cases h;done)|try simp only [h])|fail))
   all_goals rfl
def KV (lv:Nat) (t:Str):Nat→Nat→Nat
 |0,_=>0
 |n+1,k=>if Cf (k:Int)=lv∧(t==opT (k:Int))=true then k else KV lv t n (k+1)
def opR (lv:Nat) (t:Str):Nat:=KV lv t 8 1
theorem tT {k:Nat} (h:k≤8):decide ((k:Int)≤8)=true:=by simp;omega
theorem ADD {k:Nat} (h:¬k≤8):decide ((k:Int)≤8)=false:=by simp;omega
theorem LQ {L:List Tok} {i:Nat} {s:PSt} (hs:POk L s) (lv:Nat) (σ:AM) (hb:σ.blk i=some (psA L s)):
 AP Tryz.prog 187 [.gp i 0,.d (.int .i64 (lv:Int))] σ (fun v σ'=>v= .d (.int .i64 ((opR lv s.hd.text:Nat):Int))∧σ'=if opR lv s.hd.text=0 then σ else σ.AL i (psA L s.adv)):=by
 refine OY (by simp) ?_
 rw [BP]
 (repeat' (first|refine Run.ct rfl ?_|((first|refine Run.reg mixed ?_|refine Run.AJ ?_|(refine AQ rfl (fun h=>?_) (fun h=>?_)<;>try (cases h;done)))<;>try simp -implicitDefEqProofs only [go_sem])|(refine ⟨fun h=>?_,fun h=>?_⟩<;>first|(cases h;done)|try simp only [h])|fail))
 refine Run.Ba ?_
 refine Run.Bd ((fun (a0:AV) (a1:AV)=>fun (k:Nat)=>put 0 a0 (put 1 a1 (put 5 (.d (.int .i64 (k:Nat))) U))) _ _) (fun _=>E) (fun _=>σ) (fun k=>1≤k∧k≤9∧KV lv s.hd.text (9 - k) k=opR lv s.hd.text) (fun k=>9 - k) ?_ 1 ⟨by omega,by omega,rfl⟩
 rintro k ⟨hk1,hk9,hsc⟩ ih
 by_cases hk8:k≤8
 · have hT:=Qt (k:Int) σ (by omega)
   have hLv:=KW (k:Int) σ
   obtain ⟨m,hm⟩:∃m,9 - k=m+1:=⟨8 - k,by omega⟩
   have hw:=BU (a:=k) (by omega)
   rw [hm,KV] at hsc
   by_cases hl:Cf (k:Int)=lv
   · have hle:(((Cf (k:Int):Nat):Int)==(lv:Int))=true:=by rw [hl];simp
     cases ht:s.hd.text==opT (k:Int) with
     |true=>
      rw [if_pos ⟨hl,ht⟩] at hsc
      have hne:¬opR lv s.hd.text=0:=by omega
      rw [if_neg hne,← hsc]
      (repeat' (first|refine Run.ct rfl ?_|((first|refine Run.reg mixed ?_|refine Run.AJ ?_|refine Run.Ad FX (AM.le_refl _) ?_|(refine AH.upd (DK hs _ σ hb ht) ?_)|refine AH.det (hT) ?_|refine AH.det (hLv) ?_|(refine AQ rfl (fun h=>?_) (fun h=>?_)<;>try (cases h;done)))<;>try simp -implicitDefEqProofs only [tT hk8,hle,go_sem])|(refine ⟨fun h=>?_,fun h=>?_⟩<;>first|(cases h;done)|try simp only [h])|fail))
     |false=>
      rw [if_neg (by rw [ht];simp)] at hsc
      (repeat' (first|refine Run.ct rfl ?_|((first|refine Run.reg mixed ?_|refine Run.AJ ?_|(refine AH.upd (DJ hs _ σ hb ht) ?_)|refine AH.det (hT) ?_|refine AH.det (hLv) ?_|(refine AQ rfl (fun h=>?_) (fun h=>?_)<;>try (cases h;done)))<;>try simp -implicitDefEqProofs only [tT hk8,hle,hw,go_sem])|(refine ⟨fun h=>?_,fun h=>?_⟩<;>first|(cases h;done)|try simp only [h])|fail))
      exact ih (k+1) ⟨by omega,by omega,by rw [show 9 - (k+1)=m by omega];exact hsc⟩ (by omega)
   · have hle:(((Cf (k:Int):Nat):Int)==(lv:Int))=false:=by simpa using fun h:((Cf (k:Int):Nat):Int)=(lv:Int)=>hl (by omega)
     rw [if_neg (fun h=>hl h.1)] at hsc
     (repeat' (first|refine Run.ct rfl ?_|((first|refine Run.reg mixed ?_|refine Run.AJ ?_|refine AH.det (hT) ?_|refine AH.det (hLv) ?_|(refine AQ rfl (fun h=>?_) (fun h=>?_)<;>try (cases h;done)))<;>try simp -implicitDefEqProofs only [tT hk8,hle,hw,go_sem])|(refine ⟨fun h=>?_,fun h=>?_⟩<;>first|(cases h;done)|try simp only [h])|fail))
     exact ih (k+1) ⟨by omega,by omega,by rw [show 9 - (k+1)=m by omega];exact hsc⟩ (by omega)
 · have:k=9:=by omega
   subst this
   have h0:opR lv s.hd.text=0:=hsc.symm
   rw [h0,if_pos rfl]
   (repeat' (first|refine Run.ct rfl ?_|((first|refine Run.reg mixed ?_|refine Run.AJ ?_|refine Run.Ad FX (AM.le_refl _) ?_|(refine AQ rfl (fun h=>?_) (fun h=>?_)<;>try (cases h;done)))<;>try simp -implicitDefEqProofs only [ADD hk8,go_sem])|(refine ⟨fun h=>?_,fun h=>?_⟩<;>first|(cases h;done)|try simp only [h])|fail))
   rfl
theorem AD7 (t:Str):opR 1 t=if (t==[60])=true then 6 else if (t==[60,61])=true then 7 else if (t==[61,61])=true then 8 else 0:=by
 unfold opR;simp [KV,Cf,opT,V5]
theorem ADF (t:Str):opR 2 t=if (t==[43])=true then 1 else if (t==[45])=true then 2 else 0:=by
 unfold opR;simp [KV,Cf,opT,V5]
theorem ADG (t:Str):opR 3 t=if (t==[42])=true then 3 else if (t==[47])=true then 4 else if (t==[37])=true then 5 else 0:=by
 unfold opR;simp [KV,Cf,opT,V5]
theorem Vo (u:Int) (a b:Ex) (σ:AM):AP Tryz.prog 188 [.d (.int .i64 u),exA a,exA b] σ (fun v σ'=>v=exA (Hh u a b)∧σ'=σ):=by
 refine XK (by simp) ?_
 obtain ⟨o0,n0,u0,ns0,ks0,al0⟩:=a
 obtain ⟨o1,n1,u1,ns1,ks1,al1⟩:=b
 rw [Hg]
 simp only [exA,Hh,exN,Ex.A2,AF,AI]
 (repeat' (first|refine Run.ct rfl ?_|((first|refine Run.reg mixed ?_|refine Run.AJ ?_|refine Run.Ad Qq (AM.le_refl _) ?_|(refine AQ rfl (fun h=>?_) (fun h=>?_)<;>try (cases h;done)))<;>try simp -implicitDefEqProofs only [go_sem])|(refine ⟨fun h=>?_,fun h=>?_⟩<;>first|(cases h;done)|try simp only [h])|fail))
def bE (E:PM Ex):Nat→List Ex→PM (List Ex)
 |0,l=>.pure l
 |n+1,l=>(Fx [44]).bind fun _=>E.bind fun x=>bE E n (l++[x])
def Ti (E:PM Ex) (n:Nat):PM (List Ex):=(Fx [40]).bind fun _=>E.bind fun x=>(bE E (n - 1) [x]).bind fun l=>(Fx [41]).bind fun _=>.pure l
theorem AAW (E:PM Ex) (s:PSt):(O2 E).run s=(Ti E 1).run s:=rfl
theorem uH {a b:Nat}:decide ((a:Int) < (b:Int))=decide (a < b):=decide_eq_decide.2 (by omega)
theorem mV (i:Nat) (L:List Tok) (n:Nat) {E:PM Ex} (hE:PC 131 [.gp i 0] i L n E exA) (m:Nat) (hm:1≤m∧m≤3):
 PC 213 [.gp i 0,.d (.int .i64 (m:Int))] i L n (Ti E m) (fun l=>.d (.sl (l.map Ex.enc))):=by
 intro σ s0 g0 h0 l0 b0
 refine Np (by simp) ?_
 rw [BP]
 simp only [Ti,run_bind,run_pure]
 (have c0:=(DL i L n [40] (by decide)) σ s0 g0 h0 (by omega) b0;have h1:=h0.run (PM.exp [40] (by decide));have l1:=PM.le (PM.exp [40] (by decide)) h0.wf;generalize (PM.exp [40] (by decide)).run s0=y at c0 h1 l1 ⊢;obtain ⟨x0,s1⟩:=y;simp only at c0 h1 l1 ⊢;have b1:(σ.AL i (psA L s1)).blk i=some (psA L s1):=(by rw [AO,if_pos rfl]))
 (have c1:=hE (σ.AL i (psA L s1)) s1 g0 h1 (by omega) b1;rw [A4] at c1;have h2:=h1.run (E);have l2:=PM.le (E) h1.wf;generalize (E).run s1=y at c1 h2 l2 ⊢;obtain ⟨x1,s2⟩:=y;simp only at c1 h2 l2 ⊢;have b2:(σ.AL i (psA L s2)).blk i=some (psA L s2):=(by rw [AO,if_pos rfl]);obtain ⟨o0,n0,u0,ns0,ks0,al0⟩:=x1;simp only [exA,Ex.A2,AF,AI] at c1 ⊢)
 have hw0:IntKind.i64.wrap ((m:Int) - 1)=((m - 1:Nat):Int):=by rw [BF (by omega) (by omega)];omega
 (repeat' (first|refine Run.ct rfl ?_|((first|refine Run.reg mixed ?_|refine Run.AJ ?_|(refine AH.upd c0 ?_)|(refine AH.upd c1 ?_)|(refine I3.own rfl (by decide) (fun tk htk=>?_))|(refine AQ rfl (fun h=>?_) (fun h=>?_)<;>try (cases h;done)))<;>try simp -implicitDefEqProofs only [hw0,go_sem])|(refine ⟨fun h=>?_,fun h=>?_⟩<;>first|(cases h;done)|try simp only [h])|fail))
 refine Run.Ba ?_
 refine Run.Bd ((fun (a0:AV) (a12:AV)=>fun (y:PSt×List Ex×Nat×AV×AM)=>put 0 a0 (put 5 (y.2.2.2.1) (put 12 a12 (put 13 (.d (.int .i64 (y.2.2.1:Nat))) U)))) _ _) (fun _=>Ab.E) (fun y=>y.2.2.2.2) (fun y=>POk L y.1∧y.1.r.length≤n∧y.2.1.length≤1+y.2.2.1∧y.2.2.1≤m - 1∧LS σ i L y.1 44 6 (y.2.1.map Ex.enc) y.2.2.2.1 y.2.2.2.2∧(bE E (m - 1 - y.2.2.1) y.2.1).run y.1=(bE E (m - 1) [Ex.mk o0 n0 u0 ns0 ks0 al0]).run s2) (fun y=>m - 1 - y.2.2.1) ?_ (s2,[Ex.mk o0 n0 u0 ns0 ks0 al0],0,.own tk 44 6 _,_) ⟨h2,by simp only;omega,by simp,by simp only;omega,?_,rfl⟩
 rotate_left
 · simp only [AF,AI,Ex.A2]
   exact LS.lit htk
 rintro ⟨s2',l,k,v,τ⟩ ⟨f1,f2,f3,f4,f5,f6⟩ ih
 simp only at f1 f2 f3 f4 f5 f6
 by_cases hk:k < m - 1
 · obtain ⟨q,hq⟩:∃q,m - 1 - k=q+1:=⟨m - 2 - k,by omega⟩
   rw [hq] at f6
   simp only [bE,run_bind] at f6
   have e0:=U0 f1 [44] (by decide) τ f5.blk
   have f1a:=f1.run (PM.exp [44] (by decide))
   have l1a:=PM.le (PM.exp [44] (by decide)) f1.wf
   have f5a:=f5.step ((PM.exp [44] (by decide)).run s2').2
   generalize (PM.exp [44] (by decide)).run s2'=y at e0 f1a l1a f5a f6
   obtain ⟨z,s3⟩:=y
   simp only at e0 f1a l1a f5a f6
   have e1:=hE _ s3 (f5a.gt g0) f1a (by omega) f5a.blk
   rw [A4] at e1
   have f1b:=f1a.run E
   have l1b:=PM.le E f1a.wf
   have f5b:=f5.step (E.run s3).2
   generalize E.run s3=y at e1 f1b l1b f5b f6
   obtain ⟨x,s4⟩:=y
   simp only at e1 f1b l1b f5b f6
   obtain ⟨o,nm,u,ns,ks,al⟩:=x
   simp only [exA,Ex.A2,AF,AI] at e1
   have hw:=BU (a:=k) (by omega)
   (repeat' (first|refine Run.ct rfl ?_|((first|refine Run.reg mixed ?_|refine Run.AJ ?_|(refine AH.upd e0 ?_)|(refine AH.upd e1 ?_)|(refine AQ rfl (fun h=>?_) (fun h=>?_)<;>try (cases h;done)))<;>try simp -implicitDefEqProofs only [f5.own.BR,uH,decide_eq_true hk,hw,go_sem])|(refine ⟨fun h=>?_,fun h=>?_⟩<;>first|(cases h;done)|try simp only [h])|fail))
   (apply LS.tok f5b;rfl;simp;(simp only [AG,AB,AE];omega);decide;intro v2 τ2 ho);simp -implicitDefEqProofs only [ho.own.BR,ho.own.Ay,ho.own.cells,ho.own.cell,ho.own.plain,ho.own.dv,if_true,hw,go_sem]
   (repeat' (first|refine Run.ct rfl ?_|((first|refine Run.reg mixed ?_|refine Run.AJ ?_|(refine AQ rfl (fun h=>?_) (fun h=>?_)<;>try (cases h;done)))<;>try simp -implicitDefEqProofs only [ho.own.BR,ho.own.Ay,ho.own.cells,ho.own.cell,ho.own.plain,ho.own.dv,if_true,hw,go_sem])|(refine ⟨fun h=>?_,fun h=>?_⟩<;>first|(cases h;done)|try simp only [h])|fail))
   refine ih (s4,l++[Ex.mk o nm u ns ks al],k+1,v2,τ2) ⟨f1b,by simp only;omega,by simp only [AA,AB,AE];omega,by simp only;omega,?_,?_⟩ (by simp only;omega)
   · simp only [Bp,AF,AI,Ex.A2];exact ho
   · simp only;rw [show m - 1 - (k+1)=q by omega];exact f6
 · have hk0:m - 1 - k=0:=by omega
   rw [hk0] at f6
   simp only [bE,run_pure] at f6
   rw [← f6]
   simp only
   have e0:=U0 f1 [41] (by decide) τ f5.blk
   have f5a:=f5.step ((PM.exp [41] (by decide)).run s2').2
   (repeat' (first|refine Run.ct rfl ?_|((first|refine Run.reg mixed ?_|refine Run.AJ ?_|(refine AH.upd e0 ?_)|(refine Run.Ad Hc f5a.le ?_)|(refine AQ rfl (fun h=>?_) (fun h=>?_)<;>try (cases h;done)))<;>try simp -implicitDefEqProofs only [f5.own.BR,uH,decide_eq_false hk,f5.own.Ay,f5.own.plain,if_true,go_sem])|(refine ⟨fun h=>?_,fun h=>?_⟩<;>first|(cases h;done)|try simp only [h])|fail))
end Go.Ab
