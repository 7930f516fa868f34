/- Names. Valid written types. Valid written types and nodes. Valid nodes. Valid expressions. Conditions: none. -/
import Derived.Test.YtlckhmkeihbhmaaGreatXTq
set_option linter.unusedSimpArgs false
set_option linter.unusedVariables false
set_option maxRecDepth 4000
set_option maxHeartbeats 8000000
open List renaming map_cons→AH,map_nil→AM,length_map→AA,mem_of_getElem?→AS,take_of_length_le→AG,length_nil→CQ,take_append_drop→A4,mem_cons_of_mem→Ao,mem_cons_self→Ai,replicate→AO
open Bool renaming false_or→DW,and_eq_true→AN,not_eq_true'→Cf,or_eq_false_iff→Ix,and_false→Bg,eq_iff_iff→Af
open Int renaming reduceBEq→AW,reduceToNat→D4
open Option renaming bind_eq_bind→AL,bind_eq_some_iff→AB,bind_some→Di
open Nat renaming le_refl→A0
namespace Go.Ab
open Go.Proofs
def singleR (r:List Tok×Nat×Int) (k:Int) (s:Str):Bool:=
 r.2.2==0&&(r.1.length==2&&(match r.1 with|[]=>false|a::_=>a.kind==k&&a.text==s))
theorem WI (k:Int) (s:Str):GJ k s=singleR (FH s) k s:=rfl
theorem eS {α:Type} {l:List α} (h:l.length=2):∃a b,l=[a,b]:=by
 match l,h with
 |[a,b],_=>exact ⟨a,b,rfl⟩
theorem DC (s:Str) (k:Int) (σ:AF):AK Tryz.prog 91 [.d (.str s),.d (.int .i64 k)] σ (fun v σ'=>v= .d (.bool (GJ k s))∧σ'=σ):=by
 refine Z3 (by simp) ?_
 rw [BR,WI]
 have hsp:=Zn s σ
 generalize FH s=r at hsp ⊢
 obtain ⟨l,q,e⟩:=r
 simp only [IH] at hsp
 cases he:(e==0) with
 |false=>
  (repeat' (first|refine Run.ct rfl ?_|((first|refine Run.reg mixed ?_|refine Run.AD ?_|refine Run.A1 JQ (AF.le_refl _) ?_|refine AI.det (hsp) ?_)<;>try simp -implicitDefEqProofs only [he,go_sem])|fail))
  simp [singleR,he]
 |true=>
 by_cases hl:l.length=2
 · obtain ⟨⟨ak,at',ap⟩,b,rfl⟩:=eS hl
   simp only [Tok.enc,AH,AM] at hsp
   cases hk:(ak==k) with
   |false=>
    (repeat' (first|refine Run.ct rfl ?_|((first|refine Run.reg mixed ?_|refine Run.AD ?_|refine Run.A1 JQ (AF.le_refl _) ?_|refine AI.det (hsp) ?_|(refine BO rfl (fun h=>?_) (fun h=>?_)<;>try (cases h;done)))<;>try simp -implicitDefEqProofs only [he,hk,go_sem])|fail))
    simp [singleR,hk]
   |true=>
    (repeat' (first|refine Run.ct rfl ?_|((first|refine Run.reg mixed ?_|refine Run.AD ?_|refine Run.A1 JQ (AF.le_refl _) ?_|refine AI.det (hsp) ?_|(refine BO rfl (fun h=>?_) (fun h=>?_)<;>try (cases h;done)))<;>try simp -implicitDefEqProofs only [he,hk,BS,go_sem])|fail))
    simp [singleR,hk,he]
 · have h2:((l.length:Int)==2)=false:=by simp only [beq_eq_false_iff_ne,ne_eq];omega
   (repeat' (first|refine Run.ct rfl ?_|((first|refine Run.reg mixed ?_|refine Run.AD ?_|refine Run.A1 JQ (AF.le_refl _) ?_|refine AI.det (hsp) ?_)<;>try simp -implicitDefEqProofs only [he,AA,h2,go_sem])|fail))
   simp [singleR,hl]
theorem Lb (s:Str) (k:Int) (σ:AF):AK Tryz.prog 125 [.d (.str s),.d (.int .i64 k)] σ (fun v σ'=>v= .d (.bool (GJ k s))∧σ'=σ):=by
 refine S5 (by simp) ?_
 rw [BR,WI]
 have hsp:=WM s σ
 generalize FH s=r at hsp ⊢
 obtain ⟨l,q,e⟩:=r
 simp only [IH] at hsp
 cases he:(e==0) with
 |false=>
  (repeat' (first|refine Run.ct rfl ?_|((first|refine Run.reg mixed ?_|refine Run.AD ?_|refine Run.A1 FC (AF.le_refl _) ?_|refine AI.det (hsp) ?_)<;>try simp -implicitDefEqProofs only [he,go_sem])|fail))
  simp [singleR,he]
 |true=>
 by_cases hl:l.length=2
 · obtain ⟨⟨ak,at',ap⟩,b,rfl⟩:=eS hl
   simp only [Tok.enc,AH,AM] at hsp
   cases hk:(ak==k) with
   |false=>
    (repeat' (first|refine Run.ct rfl ?_|((first|refine Run.reg mixed ?_|refine Run.AD ?_|refine Run.A1 FC (AF.le_refl _) ?_|refine AI.det (hsp) ?_|(refine BO rfl (fun h=>?_) (fun h=>?_)<;>try (cases h;done)))<;>try simp -implicitDefEqProofs only [he,hk,go_sem])|fail))
    simp [singleR,hk]
   |true=>
    (repeat' (first|refine Run.ct rfl ?_|((first|refine Run.reg mixed ?_|refine Run.AD ?_|refine Run.A1 FC (AF.le_refl _) ?_|refine AI.det (hsp) ?_|(refine BO rfl (fun h=>?_) (fun h=>?_)<;>try (cases h;done)))<;>try simp -implicitDefEqProofs only [he,hk,BS,go_sem])|fail))
    simp [singleR,hk,he]
 · have h2:((l.length:Int)==2)=false:=by simp only [beq_eq_false_iff_ne,ne_eq];omega
   (repeat' (first|refine Run.ct rfl ?_|((first|refine Run.reg mixed ?_|refine Run.AD ?_|refine Run.A1 FC (AF.le_refl _) ?_|refine AI.det (hsp) ?_)<;>try simp -implicitDefEqProofs only [he,AA,h2,go_sem])|fail))
   simp [singleR,hl]
theorem Dd (s:Str) (σ:AF):AK Tryz.prog 96 [.d (.str s)] σ (fun v σ'=>v= .d (.bool (Cv s))∧σ'=σ):=by
 refine To (by simp) ?_
 rw [Bf]
 (repeat' (first|refine Run.ct rfl ?_|((first|refine Run.reg mixed ?_|refine Run.AD ?_|refine Run.A1 No (AF.le_refl _) ?_|refine AI.det (Lb s 1 _) ?_)<;>try simp -implicitDefEqProofs only [go_sem])|fail))
 rfl
theorem Bk (s:Str) (σ:AF):AK Tryz.prog 119 [.d (.str s)] σ (fun v σ'=>v= .d (.bool (FI s))∧σ'=σ):=by
 refine S6 (by simp) ?_
 rw [Bf]
 (repeat' (first|refine Run.ct rfl ?_|((first|refine Run.reg mixed ?_|refine Run.AD ?_|refine Run.A1 M0 (AF.le_refl _) ?_|refine AI.det (Lb s 2 _) ?_)<;>try simp -implicitDefEqProofs only [go_sem])|fail))
 rfl
theorem Ip (s:Str) (σ:AF):AK Tryz.prog 153 [.d (.str s)] σ (fun v σ'=>v= .d (.bool (LZ s))∧σ'=σ):=by
 refine Tn (by simp) ?_
 rw [Bf]
 cases h0:(s==[]) with
 |true=>
  (repeat' (first|refine Run.ct rfl ?_|((first|refine Run.reg mixed ?_|refine Run.AD ?_|refine Run.A1 Ji (AF.le_refl _) ?_)<;>try simp -implicitDefEqProofs only [BS,h0,go_sem])|fail))
  simp [LZ,h0]
 |false=>
  (repeat' (first|refine Run.ct rfl ?_|((first|refine Run.reg mixed ?_|refine Run.AD ?_|refine Run.A1 Ji (AF.le_refl _) ?_|refine AI.det (Dd s _) ?_)<;>try simp -implicitDefEqProofs only [BS,h0,go_sem])|fail))
  simp [LZ,h0]
def K8 (l:List Str) (strict:Bool):Bool:=decide (l.length≤6)&&l.all (fun s=>Cv s||(s==[]&& !strict))
theorem gt6 (n:Nat):decide ((6:Int) < (n:Int))=!decide (n≤6):=gtN n 6
theorem U5 {α:Type} {p:α→Bool} {l:List α} {i:Nat} {x:α} (hx:l[i]?=some x) (hp:p x=false):l.all p=false:=by
 rw [List.all_eq_false];exact ⟨x,AS hx,by rw [hp];simp⟩
theorem JA {α:Type} {p:α→Bool} {l:List α} {i:Nat} {x:α} (h:(l.take i).all p=true) (hx:l[i]?=some x) (hp:p x=true):(l.take (i+1)).all p=true:=by
 rw [Am hx,List.all_append,h];simp [hp]
theorem Hc (l:List Str) (strict:Bool) (σ:AF):AK Tryz.prog 92 [.d (.sl (l.map Ak)),.d (.bool strict)] σ (fun v σ'=>v= .d (.bool (K8 l strict))∧σ'=σ):=by
 refine cH (by simp) ?_
 rw [BR]
 by_cases h6:l.length≤6
 case neg=>
  (repeat' (first|refine Run.ct rfl ?_|((first|refine Run.reg mixed ?_|refine Run.AD ?_|refine Run.A1 Ki (AF.le_refl _) ?_)<;>try simp -implicitDefEqProofs only [gt6,AA,decide_eq_false h6,go_sem])|fail))
  simp [K8,h6]
 (repeat' (first|refine Run.ct rfl ?_|((first|refine Run.reg mixed ?_|refine Run.AD ?_)<;>try simp -implicitDefEqProofs only [gt6,AA,decide_eq_true h6,go_sem])|fail))
 refine Run.Ay ?_
 refine Run.BB ((fun (a0:AV) (a1:AV)=>fun (i:Nat)=>put 0 a0 (put 1 a1 (put 5 (.d (.int .i64 i)) U))) _ _) (fun _=>E) (fun _=>σ) (fun i=>i≤l.length∧(l.take i).all (fun s=>Cv s||(s==[]&& !strict))=true) (fun i=>l.length - i) ?_ 0 ⟨by simp,by simp⟩
 rintro i ⟨hi,hok⟩ ih
 by_cases hlt:i < l.length
 · obtain ⟨x,hx⟩:=Aw hlt
   have he:=Aq (enc:=Ak) hx
   simp only [Ak] at he
   have hw1:=A7 (show i+1≤9000000000000000000 by omega)
   have hn:=DC x 1 σ
   rw [show GJ 1 x=Cv x from rfl] at hn
   cases hp:(Cv x||(x==[]&& !strict)) with
   |true=>
    cases hnm:Cv x with
    |true=>
     rw [hnm] at hn
     (repeat' (first|refine Run.ct rfl ?_|((first|refine Run.reg mixed ?_|refine Run.AD ?_|refine AI.det (hn) ?_)<;>try simp -implicitDefEqProofs only [A8 hlt,AA,he,hw1,BS,go_sem])|fail))
     exact ih (i+1) ⟨by omega,JA hok hx hp⟩ (by omega)
    |false=>
     rw [hnm] at hn
     simp only [hnm,DW,AN,Cf] at hp
     obtain ⟨hp1,rfl⟩:=hp
     (repeat' (first|refine Run.ct rfl ?_|((first|refine Run.reg mixed ?_|refine Run.AD ?_|refine AI.det (hn) ?_)<;>try simp -implicitDefEqProofs only [A8 hlt,AA,he,hw1,BS,hp1,go_sem])|fail))
     exact ih (i+1) ⟨by omega,JA hok hx (by simp [hnm,hp1])⟩ (by omega)
   |false=>
    have hnm:Cv x=false:=(Ix.1 hp).1
    rw [hnm] at hn
    have hres:K8 l strict=false:=by rw [K8,U5 hx hp,Bg]
    cases h0:(x==[]) with
    |false=>
     (repeat' (first|refine Run.ct rfl ?_|((first|refine Run.reg mixed ?_|refine Run.AD ?_|refine Run.A1 Ki (AF.le_refl _) ?_|refine AI.det (hn) ?_)<;>try simp -implicitDefEqProofs only [A8 hlt,AA,he,hw1,BS,h0,go_sem])|fail))
     rw [hres]
    |true=>
     have hst:strict=true:=by simpa [hnm,h0] using hp
     (repeat' (first|refine Run.ct rfl ?_|((first|refine Run.reg mixed ?_|refine Run.AD ?_|refine Run.A1 Ki (AF.le_refl _) ?_|refine AI.det (hn) ?_)<;>try simp -implicitDefEqProofs only [A8 hlt,AA,he,hw1,BS,h0,hst,go_sem])|fail))
     rw [← hst,hres]
 · (repeat' (first|refine Run.ct rfl ?_|((first|refine Run.reg mixed ?_|refine Run.AD ?_|refine Run.A1 Ki (AF.le_refl _) ?_)<;>try simp -implicitDefEqProofs only [B8 hlt,AA,go_sem])|fail))
   rw [AG (by omega)] at hok
   rw [K8,hok];simp [h6]
end Go.Ab
namespace Go.Ab
open Go.Proofs
set_option maxHeartbeats 4000000 in
theorem Tu:∀(d:Nat) (t:TE) (σ:AF),d≤40→t.size≤1000000→AK Tryz.prog 93 [teA t,.d (.int .i64 d)] σ (fun v σ'=>v= .d (.bool (Dx d t))∧σ'=σ):=by
 intro d
 induction d with
 |zero=>
  rintro ⟨k,n,l⟩ σ _ _
  refine Of (by simp) ?_
  rw [BR,teA,TE.A3]
  have h0:(((0:Nat):Int)==0)=true:=by decide
  (repeat' (first|refine Run.ct rfl ?_|((first|refine Run.reg mixed ?_|refine Run.AD ?_|refine Run.A1 GW (AF.le_refl _) ?_)<;>try simp -implicitDefEqProofs only [h0,go_sem])|fail))
  rfl
 |succ d ihd=>
  rintro ⟨k,n,l⟩ σ hd hsz
  have hlen:=TE.CY l
  have hsz1:TE.A2 l+1≤1000000:=by simpa [TE.size,Nat.add_comm] using hsz
  refine Of (by simp) ?_
  rw [BR,teA,TE.A3]
  have h0:(((d+1:Nat):Int)==0)=false:=by simp only [beq_eq_false_iff_ne,ne_eq];omega
  have hws:IntKind.i64.wrap (((d+1:Nat):Int) - 1)=(d:Int):=Ir (by omega)
  have hloop:US k n l.length=true→Run FM (fun v σ'=>v= .d (.bool (Dx (d+1) (.mk k n l)))∧σ'=σ) [.code (.loop L3),.blk 1,.code (.seq (.reg [⟨some 4,.mv (.c (.d (.bool true))),none⟩] [4]) .ret)]
   (put 1 (.d (.int .i64 ((d+1:Nat):Int))) (put 2 (.lp 2 0) (put 5 (.d (.int .i64 l.length)) (put 6 (.d (.int .i64 0)) U)))) (BA 2 [.d (.int .i64 k),.d (.str n),.d (.sl (l.map TE.enc))] E) σ:=by
   intro hsh
   refine Run.Ay ?_
   refine Run.BB ((fun (a1:AV) (a2:AV) (a5:AV)=>fun (i:Nat)=>put 1 a1 (put 2 a2 (put 5 a5 (put 6 (.d (.int .i64 i)) U)))) _ _ _) (fun _=>BA 2 [.d (.int .i64 k),.d (.str n),.d (.sl (l.map TE.enc))] E) (fun _=>σ) (fun i=>i≤l.length∧(l.take i).all (Dx d)=true) (fun i=>l.length - i) ?_ 0 ⟨by simp,by simp⟩
   rintro i ⟨hi,hok⟩ ih
   by_cases hlt:i < l.length
   · obtain ⟨x,hx⟩:=Aw hlt
     have he:=Aq (enc:=TE.enc) hx
     have hms:=TE.G2 (AS hx)
     have hc:=ihd x σ (by omega) (by omega)
     have hw1:=A7 (show i+1≤9000000000000000000 by omega)
     cases hp:Dx d x with
     |true=>
      rw [hp] at hc
      obtain ⟨xk,xn,xl⟩:=x
      simp only [TE.A3,teA,AH,AM] at he hc
      (repeat' (first|refine Run.ct rfl ?_|((first|refine Run.reg mixed ?_|refine Run.AD ?_|refine AI.det (hc) ?_)<;>try simp -implicitDefEqProofs only [A8 hlt,he,hw1,hws,go_sem])|fail))
      exact ih (i+1) ⟨by omega,JA hok hx hp⟩ (by omega)
     |false=>
      rw [hp] at hc
      have hres:Dx (d+1) (.mk k n l)=false:=by rw [Dx,U5 hx hp,Bg]
      obtain ⟨xk,xn,xl⟩:=x
      simp only [TE.A3,teA,AH,AM] at he hc
      (repeat' (first|refine Run.ct rfl ?_|((first|refine Run.reg mixed ?_|refine Run.AD ?_|refine Run.A1 GW (AF.le_refl _) ?_|refine AI.det (hc) ?_)<;>try simp -implicitDefEqProofs only [A8 hlt,he,hw1,hws,go_sem])|fail))
      rw [hres]
   · (repeat' (first|refine Run.ct rfl ?_|((first|refine Run.reg mixed ?_|refine Run.AD ?_|refine Run.A1 GW (AF.le_refl _) ?_)<;>try simp -implicitDefEqProofs only [B8 hlt,go_sem])|fail))
     rw [AG (by omega)] at hok
     rw [Dx,hsh,hok];rfl
  clear ihd
  (repeat' (first|refine Run.ct rfl ?_|((first|refine Run.reg mixed ?_|refine Run.AD ?_|refine Run.A1 GW (AF.le_refl _) ?_|((refine hloop ?_))|refine AI.det (DC _ _ _) ?_|(refine BO rfl (fun h=>?_) (fun h=>?_)<;>try (cases h;done)))<;>try simp -implicitDefEqProofs only [h0,BS,C4,AA,go_sem])|(refine ⟨fun h=>?_,fun h=>?_⟩<;>first|(cases h;done)|try simp only [h])|fail))
  all_goals clear hloop hws h0
  all_goals (simp only [beq_iff_eq,beq_eq_false_iff_ne,ne_eq,Cf,Bool.not_eq_false',decide_eq_true_eq,decide_eq_false_iff_not] at *;simp_all [Dx,US,Cv,FI];first|done|omega|(intros;omega)|(intros;exfalso;omega)|(rcases l with _|⟨a,l⟩<;>simp<;>omega))
end Go.Ab
namespace Go.Ab
open Go.Proofs
theorem OK (d:Nat) (hd:∀(t:TE) (σ:AF),t.size≤1000000→AK Tryz.prog 124 [teA t,.d (.int .i64 ((41 - d:Nat):Int))] σ (fun v σ'=>v= .d (.bool (Dx d t))∧σ'=σ)) (hd40:d < 40)
 (t:TE) (j:Nat) (σ:AF) (hsz:t.size≤1000000) (hj:σ.blk j=some [.d (.int .i64 ((40 - d:Nat):Int))]):
 AK Tryz.prog 148 [teA t,.gp j 0] σ (fun v σ'=>v= .d (.bool (Dx d t))∧σ'=σ):=by
 refine On (by simp) ?_
 rw [BR]
 have hc:=hd t σ hsz
 obtain ⟨k,n,l⟩:=t
 simp only [TE.A3,teA,AH,AM] at hc ⊢
 have hw:IntKind.i64.wrap (((40 - d:Nat):Int)+1)=((41 - d:Nat):Int):=by rw [As (by omega) (by omega)];omega
 (repeat' (first|refine Run.ct rfl ?_|((first|refine Run.reg mixed ?_|refine Run.AD ?_|refine Run.A1 JU (AF.le_refl _) ?_|refine AI.det (hc) ?_)<;>try simp -implicitDefEqProofs only [hj,hw,go_sem])|fail))
set_option maxHeartbeats 4000000 in
theorem Pv:∀(d:Nat),d≤40→∀(t:TE) (σ:AF),t.size≤1000000→AK Tryz.prog 124 [teA t,.d (.int .i64 ((41 - d:Nat):Int))] σ (fun v σ'=>v= .d (.bool (Dx d t))∧σ'=σ):=by
 intro d
 induction d with
 |zero=>
  rintro _ ⟨k,n,l⟩ σ _
  refine Kq (by simp) ?_
  rw [BR,teA,TE.A3]
  (repeat' (first|refine Run.ct rfl ?_|((first|refine Run.reg mixed ?_|refine Run.AD ?_)<;>try simp -implicitDefEqProofs only [go_sem])|fail))
  intro j hj
  have hle:=Bp (cs:=[.d (.int .i64 ((41 - 0:Nat):Int))]) hj
  have h0:decide ((40:Int) < ((41 - 0:Nat):Int))=true:=by decide
  (repeat' (first|refine Run.ct rfl ?_|((first|refine Run.reg mixed ?_|refine Run.AD ?_|(refine Run.A1 HW (σ2:=σ) hle ?_))<;>try simp -implicitDefEqProofs only [h0,go_sem])|fail))
  rfl
 |succ d ihd=>
  rintro hd ⟨k,n,l⟩ σ hsz
  have hlen:=TE.CY l
  have hsz1:TE.A2 l+1≤1000000:=by simpa [TE.size,Nat.add_comm] using hsz
  have hd1:=ihd (by omega)
  refine Kq (by simp) ?_
  rw [BR,teA,TE.A3]
  have h0:decide ((40:Int) < ((41 - (d+1):Nat):Int))=false:=by simp only [decide_eq_false_iff_not];omega
  (repeat' (first|refine Run.ct rfl ?_|((first|refine Run.reg mixed ?_|refine Run.AD ?_)<;>try simp -implicitDefEqProofs only [go_sem])|fail))
  intro j hj
  have hle:=Bp (cs:=[.d (.int .i64 ((41 - (d+1):Nat):Int))]) hj
  have hall:=Jr (fid:=148) (caps:=[.gp j 0]) (by kernel_rfl) rfl (Dx d) l (σ.AQ j [.d (.int .i64 ((41 - (d+1):Nat):Int))]) (fun x hx σ1 hle1=>by
   have hms:=TE.G2 hx
   refine OK d hd1 (by omega) x j σ1 (by omega) ?_
   rw [hle1.blk j _ (by simp only [AP,if_true];rfl)]
   rw [show 41 - (d+1)=40 - d by omega])
  clear hd1 ihd
  (repeat' (first|refine Run.ct rfl ?_|((first|refine Run.reg mixed ?_|refine Run.AD ?_|(refine Run.A1 HW (σ2:=σ) hle ?_)|refine AI.det (Dd _ _) ?_|refine AI.det (Bk _ _) ?_|refine AI.det (hall) ?_|(refine BO rfl (fun h=>?_) (fun h=>?_)<;>try (cases h;done)))<;>try simp -implicitDefEqProofs only [h0,C4,AA,go_sem])|(refine ⟨fun h=>?_,fun h=>?_⟩<;>first|(cases h;done)|try simp only [h])|fail))
  all_goals clear hall h0
  all_goals (simp only [bne,beq_iff_eq,beq_eq_false_iff_ne,ne_eq,Cf,Bool.not_eq_false',decide_eq_true_eq,decide_eq_false_iff_not] at *;simp_all [Dx,US];first|done|omega|(intros;omega)|(intros;exfalso;omega)|(rcases l with _|⟨a,l⟩<;>simp<;>omega))
end Go.Ab
namespace Go.Ab
open Go.Proofs
theorem sS (n:Nat):((n:Int)==0)=decide (n=0):=by rw [Af];simp only [beq_iff_eq,decide_eq_true_eq];omega
def Lu (n:Str) (u:Int) (a b:Nat):Bool:=n==[]&&(u==0&&(decide (a=0)&&decide (b=0)))
theorem J0 (o:Int) (n:Str) (u:Int) (ns ks al:List (List DV)) (σ:AF):
 AK Tryz.prog 152 [.agg [.d (.int .i64 o),.d (.str n),.d (.int .i64 u),.d (.sl ns),.d (.sl ks),.d (.sl al)]] σ (fun v σ'=>v= .d (.bool (Lu n u ns.length al.length))∧σ'=σ):=by
 refine VQ (by simp) ?_
 rw [Bf]
 cases h1:(n==[])<;>cases h2:(u==0)<;>cases h3:decide (ns.length=0)
 all_goals (repeat' (first|refine Run.ct rfl ?_|((first|refine Run.reg mixed ?_|refine Run.AD ?_|refine Run.A1 Oc (AF.le_refl _) ?_)<;>try simp -implicitDefEqProofs only [BS,h1,h2,h3,sS,go_sem])|fail))
 all_goals (unfold Lu;rw [h1,h2,h3];rfl)
theorem iM (o:Int) (n:Str) (u:Int) (ks al:List (List DV)) (σ:AF):
 AK Tryz.prog 152 [.agg [.d (.int .i64 o),.d (.str n),.d (.int .i64 u),.AU,.d (.sl ks),.d (.sl al)]] σ (fun v σ'=>v= .d (.bool (Lu n u 0 al.length))∧σ'=σ):=
 AK.plain (by simpa only [AV.DA,H8,GG,NT,CQ] using J0 o n u [] ks al σ)
theorem iN (o:Int) (n:Str) (u:Int) (ns ks:List (List DV)) (σ:AF):
 AK Tryz.prog 152 [.agg [.d (.int .i64 o),.d (.str n),.d (.int .i64 u),.d (.sl ns),.d (.sl ks),.AU]] σ (fun v σ'=>v= .d (.bool (Lu n u ns.length 0))∧σ'=σ):=
 AK.plain (by simpa only [AV.DA,H8,GG,NT,CQ] using J0 o n u ns ks [] σ)
theorem Mr (n lo hi:Int) (σ:AF):AK Tryz.prog 156 [.d (.int .i64 n),.d (.int .i64 lo),.d (.int .i64 hi)] σ (fun v σ'=>v= .d (.bool (decide (lo≤n)&&decide (n≤hi)))∧σ'=σ):=by
 refine S4 (by simp) ?_
 rw [K7]
 cases h1:decide (lo≤n)
 all_goals (repeat' (first|refine Run.ct rfl ?_|((first|refine Run.reg mixed ?_|refine Run.AD ?_|refine Run.A1 MZ (AF.le_refl _) ?_)<;>try simp -implicitDefEqProofs only [h1,go_sem])|fail))
def pJ (u:Int):Str:=if u=1 then [110,101,119] else if u=2 then [103,101,116] else if u=3 then [115,101,116] else if u=4 then [108,101,110] else if u=5 then [114,101,102] else if u=6 then [114,101,97,100] else if u=7 then [119,114,105,116,101] else []
theorem Y9 (u:Int) (σ:AF):AK Tryz.prog 157 [.d (.int .i64 u)] σ (fun v σ'=>v= .tup [.d (.str (pJ u)),.d (.int .i64 (Vf u))]∧σ'=σ):=by
 refine Qk (by simp) ?_
 rw [Bf]
 (repeat' (first|refine Run.ct rfl ?_|((first|refine Run.reg mixed ?_|refine Run.AD ?_|refine Run.A1 Kl (AF.le_refl _) ?_)<;>try simp -implicitDefEqProofs only [go_sem])|(refine ⟨fun h=>?_,fun h=>?_⟩<;>first|(cases h;done)|try simp only [h])|fail))
 all_goals (simp only [beq_iff_eq,beq_eq_false_iff_ne,ne_eq] at *;simp_all [pJ,Vf])
set_option maxHeartbeats 1000000 in
theorem aP (a:Al) (σ:AF):AK Tryz.prog 155 [alA a] σ (fun v σ'=>v= .d (.bool (Nv a))∧σ'=σ):=by
 refine Ri (by simp) ?_
 rw [Bf]
 obtain ⟨c,vs,o,n,u,ns,ks,al⟩:=a
 simp only [Al.A3,alA,AH,AM]
 have hl6:decide ((vs.length:Int)≤6)=decide (vs.length≤6):=leN vs.length 6
 cases h1:FI c with
 |false=>
  (repeat' (first|refine Run.ct rfl ?_|((first|refine Run.reg mixed ?_|refine Run.AD ?_|refine Run.A1 GD (AF.le_refl _) ?_|refine AI.det (Bk c _) ?_)<;>try simp -implicitDefEqProofs only [h1,go_sem])|fail))
  simp [Nv,h1]
 |true=>
  by_cases h6:vs.length≤6
  · (repeat' (first|refine Run.ct rfl ?_|((first|refine Run.reg mixed ?_|refine Run.AD ?_|refine Run.A1 GD (AF.le_refl _) ?_|refine AI.det (Bk c _) ?_|refine AI.det (Gu (caps:=[]) (by kernel_rfl) rfl LZ vs σ (fun x _ σ1 _=>Ip x σ1)) ?_)<;>try simp -implicitDefEqProofs only [h1,AA,hl6,decide_eq_true h6,go_sem])|fail))
    simp [Nv,h1,h6]
  · (repeat' (first|refine Run.ct rfl ?_|((first|refine Run.reg mixed ?_|refine Run.AD ?_|refine Run.A1 GD (AF.le_refl _) ?_|refine AI.det (Bk c _) ?_)<;>try simp -implicitDefEqProofs only [h1,AA,hl6,decide_eq_false h6,go_sem])|fail))
    simp [Nv,h6]
set_option maxHeartbeats 4000000 in
theorem Yu (o:Int) (n:Str) (u:Int) (ns:List Str) (ks:List Ex) (al:List Al) (σ:AF) (ho:o=1∨o=2∨o=3∨o=4∨o=15):
 AK Tryz.prog 151 [exA (.mk o n u ns ks al)] σ (fun v σ'=>v= .d (.bool (nmB o n&&nuB o u&&nsB o ns&&asB o al))∧σ'=σ):=by
 refine Qn (by simp) ?_
 rw [Bf,exA,Ex.A3]
 have fin:∀b c:Bool,(b=true↔c=true)→AV.d (.bool b)=AV.d (.bool c):=fun b c h=>by rw [Af.2 h]
 rcases ho with rfl|rfl|rfl|rfl|rfl
 · (repeat' (first|refine Run.ct rfl ?_|((first|refine Run.reg mixed ?_|refine Run.AD ?_|refine Run.A1 Db (AF.le_refl _) ?_|refine AI.det (J0 _ _ _ _ _ _ _) ?_)<;>try simp -implicitDefEqProofs only [AA,AW,go_sem])|fail))
   all_goals (refine fin _ _ ?_;simp [Lu,nmB,nuB,nsB,asB, *];try grind)
 · (repeat' (first|refine Run.ct rfl ?_|((first|refine Run.reg mixed ?_|refine Run.AD ?_|refine Run.A1 Db (AF.le_refl _) ?_|refine AI.det (J0 _ _ _ _ _ _ _) ?_|refine AI.det (Mr _ _ _ _) ?_|(refine BO rfl (fun h=>?_) (fun h=>?_)<;>try (cases h;done)))<;>try simp -implicitDefEqProofs only [AA,AW,go_sem])|fail))
   all_goals (refine fin _ _ ?_;simp [Lu,nmB,nuB,nsB,asB, *] at *;try grind)
 · (repeat' (first|refine Run.ct rfl ?_|((first|refine Run.reg mixed ?_|refine Run.AD ?_|refine Run.A1 Db (AF.le_refl _) ?_|refine AI.det (J0 _ _ _ _ _ _ _) ?_|refine AI.det (Mr _ _ _ _) ?_|(refine BO rfl (fun h=>?_) (fun h=>?_)<;>try (cases h;done)))<;>try simp -implicitDefEqProofs only [AA,AW,go_sem])|fail))
   all_goals (refine fin _ _ ?_;simp [Lu,nmB,nuB,nsB,asB, *] at *;try grind)
 · (repeat' (first|refine Run.ct rfl ?_|((first|refine Run.reg mixed ?_|refine Run.AD ?_|refine Run.A1 Db (AF.le_refl _) ?_|refine AI.det (J0 _ _ _ _ _ _ _) ?_|refine AI.det (Dd _ _) ?_|(refine BO rfl (fun h=>?_) (fun h=>?_)<;>try (cases h;done)))<;>try simp -implicitDefEqProofs only [AA,AW,go_sem])|fail))
   all_goals (refine fin _ _ ?_;simp [Lu,nmB,nuB,nsB,asB, *] at *;try grind)
 · (repeat' (first|refine Run.ct rfl ?_|((first|refine Run.reg mixed ?_|refine Run.AD ?_|refine Run.A1 Db (AF.le_refl _) ?_|refine AI.det (J0 _ _ _ _ _ _ _) ?_|refine AI.det (Mr _ _ _ _) ?_|(refine BO rfl (fun h=>?_) (fun h=>?_)<;>try (cases h;done)))<;>try simp -implicitDefEqProofs only [AA,AW,go_sem])|fail))
   all_goals (refine fin _ _ ?_;simp [Lu,nmB,nuB,nsB,asB, *] at *;try grind)
theorem Xf (u:Int):0 < Vf u↔1≤u∧u≤7:=by
 unfold Vf;repeat' split
 all_goals omega
set_option maxHeartbeats 8000000 in
theorem Yw (o:Int) (n:Str) (u:Int) (ns:List Str) (ks:List Ex) (al:List Al) (σ:AF):
 AK Tryz.prog 128 [exA (.mk o n u ns ks al)] σ (fun v σ'=>v= .d (.bool (JZ o n u ns ks.length al))∧σ'=σ):=by
 refine Qp (by simp) ?_
 rw [Bf,exA,Ex.A3]
 have fin:∀b c:Bool,(b=true↔c=true)→AV.d (.bool b)=AV.d (.bool c):=fun b c h=>by rw [Af.2 h]
 have hleaf:=fun h=>Yu o n u ns ks al σ h
 simp only [exA,Ex.A3,AH,AM] at hleaf ⊢
 have hbi:=Gu (fid:=153) (caps:=[]) (by kernel_rfl) rfl LZ ns σ (fun x _ σ1 _=>Ip x σ1)
 have hnm:=Gu (fid:=96) (caps:=[]) (by kernel_rfl) rfl Cv ns σ (fun x _ σ1 _=>Dd x σ1)
 have hal:=U4 (fid:=155) (caps:=[]) (by kernel_rfl) rfl Nv al σ (fun x _ σ1 _=>aP x σ1)
 by_cases ho:o=1∨o=2∨o=3∨o=4∨o=5∨o=6∨o=7∨o=8∨o=9∨o=10∨o=11∨o=12∨o=13∨o=14∨o=15∨o=16∨o=17
 · rcases ho with rfl|rfl|rfl|rfl|rfl|rfl|rfl|rfl|rfl|rfl|rfl|rfl|rfl|rfl|rfl|rfl|rfl
   all_goals (repeat' (first|refine Run.ct rfl ?_|((first|refine Run.reg mixed ?_|refine Run.AD ?_|refine Run.A1 HV (AF.le_refl _) ?_|refine AI.det (hleaf (by simp)) ?_|refine AI.det (J0 _ _ _ _ _ _ _) ?_|refine AI.det (iM _ _ _ _ _ _) ?_|refine AI.det (iN _ _ _ _ _ _) ?_|refine AI.det (Bk _ _) ?_|refine AI.det (Ip _ _) ?_|refine AI.det (Mr _ _ _ _) ?_|refine AI.det (Y9 _ _) ?_|refine AI.det (hbi) ?_|refine AI.det (hnm) ?_|refine AI.det (hal) ?_|(refine BO rfl (fun h=>?_) (fun h=>?_)<;>try (cases h;done)))<;>try simp -implicitDefEqProofs only [AA,AW,go_sem])|fail))
   all_goals clear hleaf hbi hnm hal
   all_goals (refine fin _ _ ?_;simp [JZ,Lu,nmB,nuB,nsB,asB,nkB, *] at *;try (have hpr:=Xf u;grind))
 · have hno:JZ o n u ns ks.length al=false:=by
    simp only [not_or] at ho
    simp [JZ,nkB,ho]
   simp only [not_or] at ho
   obtain ⟨h1,h2,h3,h4,h5,h6,h7,h8,h9,h10,h11,h12,h13,h14,h15,h16,h17⟩:=ho
   (repeat' (first|refine Run.ct rfl ?_|((first|refine Run.reg mixed ?_|refine Run.AD ?_|refine Run.A1 HV (AF.le_refl _) ?_)<;>try simp -implicitDefEqProofs only [CA h1,CA h2,CA h3,CA h4,CA h5,CA h6,CA h7,CA h8,CA h9,CA h10,CA h11,CA h12,CA h13,CA h14,CA h15,CA h16,CA h17,go_sem])|fail))
   rw [hno]
end Go.Ab
namespace Go.Ab
open Go.Proofs
section
variable {α β:Type}
theorem If {f:β→α→Option β} {l:List α} {i:Nat} {x:α} {a b:β} (h:(l.take i).foldlM f a=some b) (hx:l[i]?=some x):(l.take (i+1)).foldlM f a=f b x:=by
 rw [Am hx,List.foldlM_append,h]
 simp [List.foldlM]
theorem Ie {f:β→α→Option β} {l:List α} {i:Nat} {x:α} {a b:β} (h:(l.take i).foldlM f a=some b) (hx:l[i]?=some x) (hn:f b x=none):l.foldlM f a=none:=by
 conv=>lhs;rw [← A4 i l]
 rw [List.foldlM_append,h,Bc hx]
 simp [List.foldlM,hn]
theorem VG {f:Nat→α→Option Nat}:∀(l:List α) (a b:Nat),(∀x∈l,∀a b,f a x=some b→b≤a)→l.foldlM f a=some b→b≤a
 |[],a,b,_,h=>by simp [List.foldlM] at h;omega
 |x::l,a,b,hf,h=>by
  simp only [List.foldlM,AL,AB] at h
  obtain ⟨c,hc,h⟩:=h
  have:=VG l c b (fun y hy=>hf y (Ao _ hy)) h
  have:=hf x (Ai ..) a c hc
  omega
end
theorem PL:∀(d q:Nat) (e:Ex) (r:Nat),vEx d q e=some r→r≤q
 |0,q,e,r,h=>by cases h
 |d+1,0,.mk ..,r,h=>by cases h
 |d+1,q+1,.mk o n u ns ks al,r,h=>by
  simp only [vEx] at h
  split at h
  · simp only [AB] at h
    obtain ⟨c,hc,h⟩:=h
    have h1:=VG ks q c (fun x _ a b hab=>PL d a x b hab) hc
    have h2:=VG al c r (fun x _ a b hab=>by cases x;exact PL d a _ b hab) h
    omega
  · cases h
def VXQ (enc:Nat→Int) (j d q:Nat) (e:Ex) (σ:AF) (v:AV) (σ':AF):Prop:=
 ∃b z,v= .d (.bool b)∧σ'=σ.AQ j [.d (.int .i64 z)]∧b=(vEx d q e).isSome∧∀r,vEx d q e=some r→z=enc r
theorem VXQ.yes {enc:Nat→Int} {j d q:Nat} {e:Ex} {σ:AF} {P:Program} {f:FuncId} {args:List AV} {r:Nat} (h:AK P f args σ (VXQ enc j d q e σ)) (hr:vEx d q e=some r):AK P f args σ (fun v σ'=>v= .d (.bool true)∧σ'=σ.AQ j [.d (.int .i64 (enc r))]):=
 h.mono (by
  rintro v σ' ⟨b,z,rfl,rfl,rfl,h⟩
  rw [h r hr,hr];exact ⟨rfl,rfl⟩)
theorem VXQ.no {enc:Nat→Int} {j d q:Nat} {e:Ex} {σ:AF} {P:Program} {f:FuncId} {args:List AV} (h:AK P f args σ (VXQ enc j d q e σ)) (hr:vEx d q e=none):AK P f args σ (fun v σ'=>v= .d (.bool false)∧∃z,σ'=σ.AQ j [.d (.int .i64 z)]):=
 h.mono (by
  rintro v σ' ⟨b,z,rfl,rfl,rfl,h⟩
  rw [hr];exact ⟨rfl,z,rfl⟩)
def fK (d:Nat):Nat→Ex→Option Nat:=fun q e=>vEx d q e
def fA (d:Nat):Nat→Al→Option Nat:=fun q a=>match a with| .mk _ _ b=>vEx d q b
theorem PM (d q:Nat) (o:Int) (n:Str) (u:Int) (ns:List Str) (ks:List Ex) (al:List Al):vEx (d+1) (q+1) (.mk o n u ns ks al)=if JZ o n u ns ks.length al then (ks.foldlM (fK d) q).bind fun q=>al.foldlM (fA d) q else none:=rfl
def KL (r:Nat):Int:=((600 - r:Nat):Int)
set_option maxHeartbeats 4000000 in
theorem Tg (j:Nat):∀(d q:Nat),d≤40→q≤600→∀(e:Ex) (σ:AF),σ.blk j=some [.d (.int .i64 (KL q))]→
 AK Tryz.prog 98 [.gp j 0,exA e,.d (.int .i64 ((41 - d:Nat):Int))] σ (VXQ KL j d q e σ):=by
 intro d
 induction d with
 |zero=>
  intro q _ hq e σ hj
  obtain ⟨o,n,u,ns,ks,al⟩:=e
  refine I5 (by simp) ?_
  rw [K7,exA,Ex.A3]
  have hw:IntKind.i64.wrap (KL q+1)=((601 - q:Nat):Int):=by rw [KL,As (by omega) (by omega)];omega
  have h4:decide ((40:Int) < ((41 - 0:Nat):Int))=true:=by decide
  (repeat' (first|refine Run.ct rfl ?_|((first|refine Run.reg mixed ?_|refine Run.AD ?_|refine Run.Er CP (AF.le_refl _) ?_|(refine BO rfl (fun h=>?_) (fun h=>?_)<;>try (cases h;done)))<;>try simp -implicitDefEqProofs only [hj,hw,h4,go_sem])|fail))
  all_goals exact ⟨false,_,rfl,rfl,rfl,fun r h=>by cases h⟩
 |succ d ihd=>
  intro q hd hq e σ hj
  obtain ⟨o,n,u,ns,ks,al⟩:=e
  refine I5 (by simp) ?_
  rw [K7,exA,Ex.A3]
  cases q with
  |zero=>
   have hw:IntKind.i64.wrap (KL 0+1)=601:=by decide
   have h6:decide ((600:Int) < 601)=true:=by decide
   (repeat' (first|refine Run.ct rfl ?_|((first|refine Run.reg mixed ?_|refine Run.AD ?_|refine Run.Er CP (AF.le_refl _) ?_)<;>try simp -implicitDefEqProofs only [hj,hw,h6,go_sem])|fail))
   exact ⟨false,_,rfl,rfl,rfl,fun r h=>by cases h⟩
  |succ q=>
  have hw:IntKind.i64.wrap (KL (q+1)+1)=KL q:=by
   have e:KL (q+1)+1=KL q:=by simp only [KL];omega
   rw [e];exact As (by simp only [KL];omega) (by simp only [KL];omega)
  have h6:decide ((600:Int) < KL q)=false:=decide_eq_false (Int.not_lt.2 (by unfold KL;omega))
  have h4:decide ((40:Int) < ((41 - (d+1):Nat):Int))=false:=by simp only [decide_eq_false_iff_not];omega
  have hnode:=Yw o n u ns ks al
  simp only [exA,Ex.A3,AH,AM] at hnode
  have hw2:IntKind.i64.wrap (((41 - (d+1):Nat):Int)+1)=((41 - d:Nat):Int):=by
   have e:((41 - (d+1):Nat):Int)+1=((41 - d:Nat):Int):=by omega
   rw [e];exact As (by omega) (by omega)
  cases hn:JZ o n u ns ks.length al with
  |false=>
   rw [hn] at hnode
   (repeat' (first|refine Run.ct rfl ?_|((first|refine Run.reg mixed ?_|refine Run.AD ?_|refine Run.Er CP (AF.le_refl _) ?_|refine AI.det (hnode _) ?_)<;>try simp -implicitDefEqProofs only [hj,hw,h6,h4,go_sem])|fail))
   exact ⟨false,_,rfl,rfl,by rw [PM,if_neg (by simp [hn])];rfl,fun r h=>by rw [PM,if_neg (by simp [hn])] at h;cases h⟩
  |true=>
  rw [hn] at hnode
  have hres:vEx (d+1) (q+1) (.mk o n u ns ks al)=(ks.foldlM (fK d) q).bind fun q=>al.foldlM (fA d) q:=by rw [PM,if_pos hn]
  generalize hV:VXQ KL j (d+1) (q+1) (.mk o n u ns ks al) σ=V
  have hno:∀z,vEx (d+1) (q+1) (.mk o n u ns ks al)=none→V (.d (.bool false)) (σ.AQ j [.d (.int .i64 z)]):=fun z h=>by
   rw [← hV];exact ⟨false,z,rfl,rfl,by rw [h];rfl,fun r hr=>by rw [h] at hr;cases hr⟩
  have hyes:∀r,vEx (d+1) (q+1) (.mk o n u ns ks al)=some r→V (.d (.bool true)) (σ.AQ j [.d (.int .i64 (KL r))]):=fun z h=>by
   rw [← hV];exact ⟨true,_,rfl,rfl,by rw [h];rfl,fun r hr=>by rw [h] at hr;cases hr;rfl⟩
  clear hV
  (repeat' (first|refine Run.ct rfl ?_|((first|refine Run.reg mixed ?_|refine Run.AD ?_|refine AI.det (hnode _) ?_)<;>try simp -implicitDefEqProofs only [hj,hw,h6,h4,AA,go_sem])|fail))
  refine Run.cell 4 4 rfl rfl (fun hb4=>?_)
  refine Run.cell 4 5 rfl rfl (fun hb5=>?_)
  simp only [AV.Dl,AA] at hb4 hb5
  refine Run.Ay ?_
  refine Run.BB ((fun (a0:AV) (a2:AV) (a4:AV) (a33:AV) (a34:AV)=>fun (y:Nat×Nat)=>put 0 a0 (put 2 a2 (put 4 a4 (put 33 a33 (put 34 a34 (put 35 (.d (.int .i64 y.1)) U)))))) _ _ _ _ _) (fun _=>BA 4 [.d (.int .i64 o),.d (.str n),.d (.int .i64 u),.d (.sl (ns.map Ak)),.d (.sl (ks.map Ex.enc)),.d (.sl (al.map Al.enc))] E) (fun y=>σ.AQ j [.d (.int .i64 (KL y.2))])
   (fun y=>y.1≤ks.length∧y.2≤q∧(ks.take y.1).foldlM (fK d) q=some y.2) (fun y=>ks.length - y.1) ?_ (0,q) ⟨by simp,A0 _,rfl⟩
  rintro ⟨i,p⟩ ⟨hi,hp,hok⟩ ih
  simp only at hi hp hok
  by_cases hlt:i < ks.length
  · obtain ⟨x,hx⟩:=Aw hlt
    have he:=Aq (enc:=Ex.enc) hx
    have hw1:IntKind.i64.wrap ((i:Int)+1)=((i+1:Nat):Int):=by rw [As (by omega) (by omega)];omega
    have hc:=ihd p (by omega) (by omega) x (σ.AQ j [.d (.int .i64 (KL p))]) (by simp only [AP,if_true])
    cases hv:vEx d p x with
    |some r=>
     have hr:=PL _ _ _ _ hv
     have hc:=VXQ.yes hc hv
     have hs:=If hok hx
     obtain ⟨xo,xn,xu,xs,xk,xa⟩:=x
     simp only [Ex.A3,exA,AH,AM] at he hc
     (repeat' (first|refine Run.ct rfl ?_|((first|refine Run.reg mixed ?_|refine Run.AD ?_|(refine AI.mk rfl hc ?_;rintro _ _ ⟨rfl,rfl⟩))<;>try simp -implicitDefEqProofs only [A8 hlt,he,hw1,hw2,go_sem])|fail))
     exact ih (i+1,r) ⟨by simp only;omega,by simp only;omega,by simp only;rw [hs];exact hv⟩ (by simp only;omega)
    |none=>
     have hc:=VXQ.no hc hv
     have hs:=Ie hok hx hv
     obtain ⟨xo,xn,xu,xs,xk,xa⟩:=x
     simp only [Ex.A3,exA,AH,AM] at he hc
     (repeat' (first|refine Run.ct rfl ?_|((first|refine Run.reg mixed ?_|refine Run.AD ?_|refine Run.Er CP (AF.le_refl _) ?_|(refine AI.mk rfl hc ?_;rintro _ _ ⟨rfl,z,rfl⟩))<;>try simp -implicitDefEqProofs only [A8 hlt,he,hw1,hw2,go_sem])|fail))
     exact hno z (by rw [hres,hs];rfl)
  · rw [AG (by omega)] at hok
    rw [hok,Di] at hres
    clear ih
    (repeat' (first|refine Run.ct rfl ?_|((first|refine Run.reg mixed ?_|refine Run.AD ?_)<;>try simp -implicitDefEqProofs only [B8 hlt,AA,go_sem])|fail))
    refine Run.Ay ?_
    refine Run.BB ((fun (a0:AV) (a2:AV) (a47:AV) (a48:AV)=>fun (y:Nat×Nat)=>put 0 a0 (put 2 a2 (put 47 a47 (put 48 a48 (put 49 (.d (.int .i64 y.1)) U))))) _ _ _ _) (fun _=>E) (fun y=>σ.AQ j [.d (.int .i64 (KL y.2))])
     (fun y=>y.1≤al.length∧y.2≤q∧(al.take y.1).foldlM (fA d) p=some y.2) (fun y=>al.length - y.1) ?_ (0,p) ⟨by simp,hp,rfl⟩
    rintro ⟨i,p⟩ ⟨hi,hp,hok⟩ ih
    simp only at hi hp hok
    by_cases hlt:i < al.length
    · obtain ⟨x,hx⟩:=Aw hlt
      have he:=Aq (enc:=Al.enc) hx
      have hw1:IntKind.i64.wrap ((i:Int)+1)=((i+1:Nat):Int):=by rw [As (by omega) (by omega)];omega
      obtain ⟨xc,xv,x⟩:=x
      have hc:=ihd p (by omega) (by omega) x (σ.AQ j [.d (.int .i64 (KL p))]) (by simp only [AP,if_true])
      cases hv:vEx d p x with
      |some r=>
       have hr:=PL _ _ _ _ hv
       have hc:=VXQ.yes hc hv
       have hs:=If hok hx
       obtain ⟨xo,xn,xu,xs,xk,xa⟩:=x
       simp only [Al.A3,Ex.A3,exA,AH,AM] at he hc
       (repeat' (first|refine Run.ct rfl ?_|((first|refine Run.reg mixed ?_|refine Run.AD ?_|(refine AI.mk rfl hc ?_;rintro _ _ ⟨rfl,rfl⟩))<;>try simp -implicitDefEqProofs only [A8 hlt,he,hw1,hw2,go_sem])|fail))
       exact ih (i+1,r) ⟨by simp only;omega,by simp only;omega,by simp only;rw [hs];exact hv⟩ (by simp only;omega)
      |none=>
       have hc:=VXQ.no hc hv
       have hs:=Ie hok hx hv
       obtain ⟨xo,xn,xu,xs,xk,xa⟩:=x
       simp only [Al.A3,Ex.A3,exA,AH,AM] at he hc
       (repeat' (first|refine Run.ct rfl ?_|((first|refine Run.reg mixed ?_|refine Run.AD ?_|refine Run.Er CP (AF.le_refl _) ?_|(refine AI.mk rfl hc ?_;rintro _ _ ⟨rfl,z,rfl⟩))<;>try simp -implicitDefEqProofs only [A8 hlt,he,hw1,hw2,go_sem])|fail))
       exact hno z (by rw [hres,hs])
    · rw [AG (by omega)] at hok
      (repeat' (first|refine Run.ct rfl ?_|((first|refine Run.reg mixed ?_|refine Run.AD ?_|refine Run.Er CP (AF.le_refl _) ?_)<;>try simp -implicitDefEqProofs only [B8 hlt,go_sem])|fail))
      exact hyes p (by rw [hres,hok])
theorem NV (u:Int) (σ:AF):AK Tryz.prog 118 [.d (.int .i64 u)] σ (fun v σ'=>v= .d (.int .i64 (Vf u))∧σ'=σ):=by
 refine VN (by simp) ?_
 rw [Bf]
 by_cases h:1≤u∧u≤7
 · obtain ⟨h1,h2⟩:=h
   obtain rfl|rfl|rfl|rfl|rfl|rfl|rfl:u=1∨u=2∨u=3∨u=4∨u=5∨u=6∨u=7:=by omega
   all_goals (repeat' (first|refine Run.ct rfl ?_|((first|refine Run.reg mixed ?_|refine Run.AD ?_|refine Run.A1 Hr (AF.le_refl _) ?_)<;>try simp -implicitDefEqProofs only [AO,Int.reduceLT,Int.reduceLE,D4,go_sem])|(refine ⟨fun h=>?_,fun h=>?_⟩<;>first|(cases h;done)|try simp only [h])|fail))
   all_goals rfl
 · have hp:Vf u=0:=by
    have:=Xf u;omega
   rw [hp]
   by_cases h1:u < 1
   · (repeat' (first|refine Run.ct rfl ?_|((first|refine Run.reg mixed ?_|refine Run.AD ?_|refine Run.A1 Hr (AF.le_refl _) ?_)<;>try simp -implicitDefEqProofs only [decide_eq_true h1,go_sem])|fail))
     rfl
   · have h8:decide (((8:Nat):Int)≤u)=true:=by simp;omega
     (repeat' (first|refine Run.ct rfl ?_|((first|refine Run.reg mixed ?_|refine Run.AD ?_|refine Run.A1 Hr (AF.le_refl _) ?_)<;>try simp -implicitDefEqProofs only [decide_eq_false h1,h8,go_sem])|fail))
     rfl
end Go.Ab
