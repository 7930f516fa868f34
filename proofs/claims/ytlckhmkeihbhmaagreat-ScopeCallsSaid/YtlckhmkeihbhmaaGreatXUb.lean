/- Names. Valid written types. Valid written types and nodes. Valid nodes. Valid expressions. Conditions: none. -/
import Derived.Test.YtlckhmkeihbhmaaGreatXTq
set_option linter.unusedSimpArgs false
set_option linter.unusedVariables false
set_option maxRecDepth 4000
set_option maxHeartbeats 8000000
open List renaming map_cons→AI,map_nil→AO,length_map→AA,mem_of_getElem?→AT,all_append→PX,take_of_length_le→AH,length_nil→BX,take_append_drop→A4,mem_cons_of_mem→B8,mem_cons_self→BT,replicate→AG
open Bool renaming false_or→DP,and_eq_true→AQ,not_eq_true'→Cb,or_eq_false_iff→OC,and_false→B3,eq_iff_iff→Ac
open Int renaming reduceBEq→AU,reduceToNat→D0
open Option renaming bind_eq_bind→AN,bind_eq_some_iff→AB,bind_some→Gm
open Nat renaming le_refl→A0
namespace Go.Ab
open Go.Proofs
def singleR (r:List Tok×Nat×Int) (k:Int) (s:Str):Bool:=
 r.2.2==0&&(r.1.length==2&&(match r.1 with|[]=>false|a::_=>a.kind==k&&a.text==s))
theorem V6 (k:Int) (s:Str):HM k s=singleR (G2 s) k s:=rfl
theorem bW {α:Type} {l:List α} (h:l.length=2):∃a b,l=[a,b]:=by
 match l,h with
 |[a,b],_=>exact ⟨a,b,rfl⟩
theorem Cy (s:Str) (k:Int) (σ:AF):AM Tryz.prog 91 [.d (.str s),.d (.int .i64 k)] σ (fun v σ'=>v= .d (.bool (HM k s))∧σ'=σ):=by
 refine YU (by simp) ?_
 rw [BY,V6]
 have hsp:=Yc s σ
 generalize G2 s=r at hsp ⊢
 obtain ⟨l,q,e⟩:=r
 simp only [IC] at hsp
 cases he:(e==0) with
 |false=>
  (repeat' (first|refine Run.ct rfl ?_|((first|refine Run.reg mixed ?_|refine Run.AD ?_|refine Run.A1 JK (AF.le_refl _) ?_|refine AJ.det (hsp) ?_)<;>try simp -implicitDefEqProofs only [he,go_sem])|fail))
  simp [singleR,he]
 |true=>
 by_cases hl:l.length=2
 · obtain ⟨⟨ak,at',ap⟩,b,rfl⟩:=bW hl
   simp only [Tok.enc,AI,AO] at hsp
   cases hk:(ak==k) with
   |false=>
    (repeat' (first|refine Run.ct rfl ?_|((first|refine Run.reg mixed ?_|refine Run.AD ?_|refine Run.A1 JK (AF.le_refl _) ?_|refine AJ.det (hsp) ?_|(refine FY rfl (fun h=>?_) (fun h=>?_)<;>try (cases h;done)))<;>try simp -implicitDefEqProofs only [he,hk,go_sem])|fail))
    simp [singleR,hk]
   |true=>
    (repeat' (first|refine Run.ct rfl ?_|((first|refine Run.reg mixed ?_|refine Run.AD ?_|refine Run.A1 JK (AF.le_refl _) ?_|refine AJ.det (hsp) ?_|(refine FY rfl (fun h=>?_) (fun h=>?_)<;>try (cases h;done)))<;>try simp -implicitDefEqProofs only [he,hk,BS,go_sem])|fail))
    simp [singleR,hk,he]
 · have h2:((l.length:Int)==2)=false:=by simp only [beq_eq_false_iff_ne,ne_eq];omega
   (repeat' (first|refine Run.ct rfl ?_|((first|refine Run.reg mixed ?_|refine Run.AD ?_|refine Run.A1 JK (AF.le_refl _) ?_|refine AJ.det (hsp) ?_)<;>try simp -implicitDefEqProofs only [he,AA,h2,go_sem])|fail))
   simp [singleR,hl]
theorem L7 (s:Str) (k:Int) (σ:AF):AM Tryz.prog 125 [.d (.str s),.d (.int .i64 k)] σ (fun v σ'=>v= .d (.bool (HM k s))∧σ'=σ):=by
 refine SR (by simp) ?_
 rw [BY,V6]
 have hsp:=Va s σ
 generalize G2 s=r at hsp ⊢
 obtain ⟨l,q,e⟩:=r
 simp only [IC] at hsp
 cases he:(e==0) with
 |false=>
  (repeat' (first|refine Run.ct rfl ?_|((first|refine Run.reg mixed ?_|refine Run.AD ?_|refine Run.A1 FA (AF.le_refl _) ?_|refine AJ.det (hsp) ?_)<;>try simp -implicitDefEqProofs only [he,go_sem])|fail))
  simp [singleR,he]
 |true=>
 by_cases hl:l.length=2
 · obtain ⟨⟨ak,at',ap⟩,b,rfl⟩:=bW hl
   simp only [Tok.enc,AI,AO] at hsp
   cases hk:(ak==k) with
   |false=>
    (repeat' (first|refine Run.ct rfl ?_|((first|refine Run.reg mixed ?_|refine Run.AD ?_|refine Run.A1 FA (AF.le_refl _) ?_|refine AJ.det (hsp) ?_|(refine FY rfl (fun h=>?_) (fun h=>?_)<;>try (cases h;done)))<;>try simp -implicitDefEqProofs only [he,hk,go_sem])|fail))
    simp [singleR,hk]
   |true=>
    (repeat' (first|refine Run.ct rfl ?_|((first|refine Run.reg mixed ?_|refine Run.AD ?_|refine Run.A1 FA (AF.le_refl _) ?_|refine AJ.det (hsp) ?_|(refine FY rfl (fun h=>?_) (fun h=>?_)<;>try (cases h;done)))<;>try simp -implicitDefEqProofs only [he,hk,BS,go_sem])|fail))
    simp [singleR,hk,he]
 · have h2:((l.length:Int)==2)=false:=by simp only [beq_eq_false_iff_ne,ne_eq];omega
   (repeat' (first|refine Run.ct rfl ?_|((first|refine Run.reg mixed ?_|refine Run.AD ?_|refine Run.A1 FA (AF.le_refl _) ?_|refine AJ.det (hsp) ?_)<;>try simp -implicitDefEqProofs only [he,AA,h2,go_sem])|fail))
   simp [singleR,hl]
theorem D7 (s:Str) (σ:AF):AM Tryz.prog 96 [.d (.str s)] σ (fun v σ'=>v= .d (.bool (EO s))∧σ'=σ):=by
 refine T7 (by simp) ?_
 rw [Bg]
 (repeat' (first|refine Run.ct rfl ?_|((first|refine Run.reg mixed ?_|refine Run.AD ?_|refine Run.A1 Ng (AF.le_refl _) ?_|refine AJ.det (L7 s 1 _) ?_)<;>try simp -implicitDefEqProofs only [go_sem])|fail))
 rfl
theorem Bl (s:Str) (σ:AF):AM Tryz.prog 119 [.d (.str s)] σ (fun v σ'=>v= .d (.bool (FH s))∧σ'=σ):=by
 refine SS (by simp) ?_
 rw [Bg]
 (repeat' (first|refine Run.ct rfl ?_|((first|refine Run.reg mixed ?_|refine Run.AD ?_|refine Run.A1 M0 (AF.le_refl _) ?_|refine AJ.det (L7 s 2 _) ?_)<;>try simp -implicitDefEqProofs only [go_sem])|fail))
 rfl
theorem Im (s:Str) (σ:AF):AM Tryz.prog 153 [.d (.str s)] σ (fun v σ'=>v= .d (.bool (OH s))∧σ'=σ):=by
 refine T6 (by simp) ?_
 rw [Bg]
 cases h0:(s==[]) with
 |true=>
  (repeat' (first|refine Run.ct rfl ?_|((first|refine Run.reg mixed ?_|refine Run.AD ?_|refine Run.A1 J7 (AF.le_refl _) ?_)<;>try simp -implicitDefEqProofs only [BS,h0,go_sem])|fail))
  simp [OH,h0]
 |false=>
  (repeat' (first|refine Run.ct rfl ?_|((first|refine Run.reg mixed ?_|refine Run.AD ?_|refine Run.A1 J7 (AF.le_refl _) ?_|refine AJ.det (D7 s _) ?_)<;>try simp -implicitDefEqProofs only [BS,h0,go_sem])|fail))
  simp [OH,h0]
def KX (l:List Str) (strict:Bool):Bool:=decide (l.length≤6)&&l.all (fun s=>EO s||(s==[]&& !strict))
theorem gt6 (n:Nat):decide ((6:Int) < (n:Int))=!decide (n≤6):=gtN n 6
theorem UM {α:Type} {p:α→Bool} {l:List α} {i:Nat} {x:α} (hx:l[i]?=some x) (hp:p x=false):l.all p=false:=by
 rw [List.all_eq_false];exact ⟨x,AT hx,by rw [hp];simp⟩
theorem Iv {α:Type} {p:α→Bool} {l:List α} {i:Nat} {x:α} (h:(l.take i).all p=true) (hx:l[i]?=some x) (hp:p x=true):(l.take (i+1)).all p=true:=by
 rw [Aw hx,PX,h];simp [hp]
theorem H5 (l:List Str) (strict:Bool) (σ:AF):AM Tryz.prog 92 [.d (.sl (l.map BF)),.d (.bool strict)] σ (fun v σ'=>v= .d (.bool (KX l strict))∧σ'=σ):=by
 refine Zo (by simp) ?_
 rw [BY]
 by_cases h6:l.length≤6
 case neg=>
  (repeat' (first|refine Run.ct rfl ?_|((first|refine Run.reg mixed ?_|refine Run.AD ?_|refine Run.A1 Ke (AF.le_refl _) ?_)<;>try simp -implicitDefEqProofs only [gt6,AA,decide_eq_false h6,go_sem])|fail))
  simp [KX,h6]
 (repeat' (first|refine Run.ct rfl ?_|((first|refine Run.reg mixed ?_|refine Run.AD ?_)<;>try simp -implicitDefEqProofs only [gt6,AA,decide_eq_true h6,go_sem])|fail))
 refine Run.BD ?_
 refine Run.BG ((fun (a0:AV) (a1:AV)=>fun (i:Nat)=>put 0 a0 (put 1 a1 (put 5 (.d (.int .i64 i)) U))) _ _) (fun _=>E) (fun _=>σ) (fun i=>i≤l.length∧(l.take i).all (fun s=>EO s||(s==[]&& !strict))=true) (fun i=>l.length - i) ?_ 0 ⟨by simp,by simp⟩
 rintro i ⟨hi,hok⟩ ih
 by_cases hlt:i < l.length
 · obtain ⟨x,hx⟩:=BC hlt
   have he:=Ay (enc:=BF) hx
   simp only [BF] at he
   have hw1:=A6 (show i+1≤9000000000000000000 by omega)
   have hn:=Cy x 1 σ
   rw [show HM 1 x=EO x from rfl] at hn
   cases hp:(EO x||(x==[]&& !strict)) with
   |true=>
    cases hnm:EO x with
    |true=>
     rw [hnm] at hn
     (repeat' (first|refine Run.ct rfl ?_|((first|refine Run.reg mixed ?_|refine Run.AD ?_|refine AJ.det (hn) ?_)<;>try simp -implicitDefEqProofs only [A8 hlt,AA,he,hw1,BS,go_sem])|fail))
     exact ih (i+1) ⟨by omega,Iv hok hx hp⟩ (by omega)
    |false=>
     rw [hnm] at hn
     simp only [hnm,DP,AQ,Cb] at hp
     obtain ⟨hp1,rfl⟩:=hp
     (repeat' (first|refine Run.ct rfl ?_|((first|refine Run.reg mixed ?_|refine Run.AD ?_|refine AJ.det (hn) ?_)<;>try simp -implicitDefEqProofs only [A8 hlt,AA,he,hw1,BS,hp1,go_sem])|fail))
     exact ih (i+1) ⟨by omega,Iv hok hx (by simp [hnm,hp1])⟩ (by omega)
   |false=>
    have hnm:EO x=false:=(OC.1 hp).1
    rw [hnm] at hn
    have hres:KX l strict=false:=by rw [KX,UM hx hp,B3]
    cases h0:(x==[]) with
    |false=>
     (repeat' (first|refine Run.ct rfl ?_|((first|refine Run.reg mixed ?_|refine Run.AD ?_|refine Run.A1 Ke (AF.le_refl _) ?_|refine AJ.det (hn) ?_)<;>try simp -implicitDefEqProofs only [A8 hlt,AA,he,hw1,BS,h0,go_sem])|fail))
     rw [hres]
    |true=>
     have hst:strict=true:=by simpa [hnm,h0] using hp
     (repeat' (first|refine Run.ct rfl ?_|((first|refine Run.reg mixed ?_|refine Run.AD ?_|refine Run.A1 Ke (AF.le_refl _) ?_|refine AJ.det (hn) ?_)<;>try simp -implicitDefEqProofs only [A8 hlt,AA,he,hw1,BS,h0,hst,go_sem])|fail))
     rw [← hst,hres]
 · (repeat' (first|refine Run.ct rfl ?_|((first|refine Run.reg mixed ?_|refine Run.AD ?_|refine Run.A1 Ke (AF.le_refl _) ?_)<;>try simp -implicitDefEqProofs only [Bd hlt,AA,go_sem])|fail))
   rw [AH (by omega)] at hok
   rw [KX,hok];simp [h6]
end Go.Ab
namespace Go.Ab
open Go.Proofs
set_option maxHeartbeats 4000000 in
theorem Tc:∀(d:Nat) (t:TE) (σ:AF),d≤40→t.size≤1000000→AM Tryz.prog 93 [teA t,.d (.int .i64 d)] σ (fun v σ'=>v= .d (.bool (Dp d t))∧σ'=σ):=by
 intro d
 induction d with
 |zero=>
  rintro ⟨k,n,l⟩ σ _ _
  refine O5 (by simp) ?_
  rw [BY,teA,TE.A7]
  have h0:(((0:Nat):Int)==0)=true:=by decide
  (repeat' (first|refine Run.ct rfl ?_|((first|refine Run.reg mixed ?_|refine Run.AD ?_|refine Run.A1 GP (AF.le_refl _) ?_)<;>try simp -implicitDefEqProofs only [h0,go_sem])|fail))
  rfl
 |succ d ihd=>
  rintro ⟨k,n,l⟩ σ hd hsz
  have hlen:=TE.C9 l
  have hsz1:TE.A2 l+1≤1000000:=by simpa [TE.size,Nat.add_comm] using hsz
  refine O5 (by simp) ?_
  rw [BY,teA,TE.A7]
  have h0:(((d+1:Nat):Int)==0)=false:=by simp only [beq_eq_false_iff_ne,ne_eq];omega
  have hws:IntKind.i64.wrap (((d+1:Nat):Int) - 1)=(d:Int):=Io (by omega)
  have hloop:UC k n l.length=true→Run FK (fun v σ'=>v= .d (.bool (Dp (d+1) (.mk k n l)))∧σ'=σ) [.code (.loop LU),.blk 1,.code (.seq (.reg [⟨some 4,.mv (.c (.d (.bool true))),none⟩] [4]) .ret)]
   (put 1 (.d (.int .i64 ((d+1:Nat):Int))) (put 2 (.lp 2 0) (put 5 (.d (.int .i64 l.length)) (put 6 (.d (.int .i64 0)) U)))) (BE 2 [.d (.int .i64 k),.d (.str n),.d (.sl (l.map TE.enc))] E) σ:=by
   intro hsh
   refine Run.BD ?_
   refine Run.BG ((fun (a1:AV) (a2:AV) (a5:AV)=>fun (i:Nat)=>put 1 a1 (put 2 a2 (put 5 a5 (put 6 (.d (.int .i64 i)) U)))) _ _ _) (fun _=>BE 2 [.d (.int .i64 k),.d (.str n),.d (.sl (l.map TE.enc))] E) (fun _=>σ) (fun i=>i≤l.length∧(l.take i).all (Dp d)=true) (fun i=>l.length - i) ?_ 0 ⟨by simp,by simp⟩
   rintro i ⟨hi,hok⟩ ih
   by_cases hlt:i < l.length
   · obtain ⟨x,hx⟩:=BC hlt
     have he:=Ay (enc:=TE.enc) hx
     have hms:=TE.Ja (AT hx)
     have hc:=ihd x σ (by omega) (by omega)
     have hw1:=A6 (show i+1≤9000000000000000000 by omega)
     cases hp:Dp d x with
     |true=>
      rw [hp] at hc
      obtain ⟨xk,xn,xl⟩:=x
      simp only [TE.A7,teA,AI,AO] at he hc
      (repeat' (first|refine Run.ct rfl ?_|((first|refine Run.reg mixed ?_|refine Run.AD ?_|refine AJ.det (hc) ?_)<;>try simp -implicitDefEqProofs only [A8 hlt,he,hw1,hws,go_sem])|fail))
      exact ih (i+1) ⟨by omega,Iv hok hx hp⟩ (by omega)
     |false=>
      rw [hp] at hc
      have hres:Dp (d+1) (.mk k n l)=false:=by rw [Dp,UM hx hp,B3]
      obtain ⟨xk,xn,xl⟩:=x
      simp only [TE.A7,teA,AI,AO] at he hc
      (repeat' (first|refine Run.ct rfl ?_|((first|refine Run.reg mixed ?_|refine Run.AD ?_|refine Run.A1 GP (AF.le_refl _) ?_|refine AJ.det (hc) ?_)<;>try simp -implicitDefEqProofs only [A8 hlt,he,hw1,hws,go_sem])|fail))
      rw [hres]
   · (repeat' (first|refine Run.ct rfl ?_|((first|refine Run.reg mixed ?_|refine Run.AD ?_|refine Run.A1 GP (AF.le_refl _) ?_)<;>try simp -implicitDefEqProofs only [Bd hlt,go_sem])|fail))
     rw [AH (by omega)] at hok
     rw [Dp,hsh,hok];rfl
  clear ihd
  (repeat' (first|refine Run.ct rfl ?_|((first|refine Run.reg mixed ?_|refine Run.AD ?_|refine Run.A1 GP (AF.le_refl _) ?_|((refine hloop ?_))|refine AJ.det (Cy _ _ _) ?_|(refine FY rfl (fun h=>?_) (fun h=>?_)<;>try (cases h;done)))<;>try simp -implicitDefEqProofs only [h0,BS,Cd,AA,go_sem])|(refine ⟨fun h=>?_,fun h=>?_⟩<;>first|(cases h;done)|try simp only [h])|fail))
  all_goals clear hloop hws h0
  all_goals (simp only [beq_iff_eq,beq_eq_false_iff_ne,ne_eq,Cb,Bool.not_eq_false',decide_eq_true_eq,decide_eq_false_iff_not] at *;simp_all [Dp,UC,EO,FH];first|done|omega|(intros;omega)|(intros;exfalso;omega)|(rcases l with _|⟨a,l⟩<;>simp<;>omega))
end Go.Ab
namespace Go.Ab
open Go.Proofs
theorem Nz (d:Nat) (hd:∀(t:TE) (σ:AF),t.size≤1000000→AM Tryz.prog 124 [teA t,.d (.int .i64 ((41 - d:Nat):Int))] σ (fun v σ'=>v= .d (.bool (Dp d t))∧σ'=σ)) (hd40:d < 40)
 (t:TE) (j:Nat) (σ:AF) (hsz:t.size≤1000000) (hj:σ.blk j=some [.d (.int .i64 ((40 - d:Nat):Int))]):
 AM Tryz.prog 148 [teA t,.gp j 0] σ (fun v σ'=>v= .d (.bool (Dp d t))∧σ'=σ):=by
 refine Od (by simp) ?_
 rw [BY]
 have hc:=hd t σ hsz
 obtain ⟨k,n,l⟩:=t
 simp only [TE.A7,teA,AI,AO] at hc ⊢
 have hw:IntKind.i64.wrap (((40 - d:Nat):Int)+1)=((41 - d:Nat):Int):=by rw [BI (by omega) (by omega)];omega
 (repeat' (first|refine Run.ct rfl ?_|((first|refine Run.reg mixed ?_|refine Run.AD ?_|refine Run.A1 JO (AF.le_refl _) ?_|refine AJ.det (hc) ?_)<;>try simp -implicitDefEqProofs only [hj,hw,go_sem])|fail))
set_option maxHeartbeats 4000000 in
theorem Ph:∀(d:Nat),d≤40→∀(t:TE) (σ:AF),t.size≤1000000→AM Tryz.prog 124 [teA t,.d (.int .i64 ((41 - d:Nat):Int))] σ (fun v σ'=>v= .d (.bool (Dp d t))∧σ'=σ):=by
 intro d
 induction d with
 |zero=>
  rintro _ ⟨k,n,l⟩ σ _
  refine Km (by simp) ?_
  rw [BY,teA,TE.A7]
  (repeat' (first|refine Run.ct rfl ?_|((first|refine Run.reg mixed ?_|refine Run.AD ?_)<;>try simp -implicitDefEqProofs only [go_sem])|fail))
  intro j hj
  have hle:=Bj (cs:=[.d (.int .i64 ((41 - 0:Nat):Int))]) hj
  have h0:decide ((40:Int) < ((41 - 0:Nat):Int))=true:=by decide
  (repeat' (first|refine Run.ct rfl ?_|((first|refine Run.reg mixed ?_|refine Run.AD ?_|(refine Run.A1 HQ (σ2:=σ) hle ?_))<;>try simp -implicitDefEqProofs only [h0,go_sem])|fail))
  rfl
 |succ d ihd=>
  rintro hd ⟨k,n,l⟩ σ hsz
  have hlen:=TE.C9 l
  have hsz1:TE.A2 l+1≤1000000:=by simpa [TE.size,Nat.add_comm] using hsz
  have hd1:=ihd (by omega)
  refine Km (by simp) ?_
  rw [BY,teA,TE.A7]
  have h0:decide ((40:Int) < ((41 - (d+1):Nat):Int))=false:=by simp only [decide_eq_false_iff_not];omega
  (repeat' (first|refine Run.ct rfl ?_|((first|refine Run.reg mixed ?_|refine Run.AD ?_)<;>try simp -implicitDefEqProofs only [go_sem])|fail))
  intro j hj
  have hle:=Bj (cs:=[.d (.int .i64 ((41 - (d+1):Nat):Int))]) hj
  have hall:=Jh (fid:=148) (caps:=[.gp j 0]) (by kernel_rfl) rfl (Dp d) l (σ.AP j [.d (.int .i64 ((41 - (d+1):Nat):Int))]) (fun x hx σ1 hle1=>by
   have hms:=TE.Ja hx
   refine Nz d hd1 (by omega) x j σ1 (by omega) ?_
   rw [hle1.blk j _ (by simp only [AL,if_true];rfl)]
   rw [show 41 - (d+1)=40 - d by omega])
  clear hd1 ihd
  (repeat' (first|refine Run.ct rfl ?_|((first|refine Run.reg mixed ?_|refine Run.AD ?_|(refine Run.A1 HQ (σ2:=σ) hle ?_)|refine AJ.det (D7 _ _) ?_|refine AJ.det (Bl _ _) ?_|refine AJ.det (hall) ?_|(refine FY rfl (fun h=>?_) (fun h=>?_)<;>try (cases h;done)))<;>try simp -implicitDefEqProofs only [h0,Cd,AA,go_sem])|(refine ⟨fun h=>?_,fun h=>?_⟩<;>first|(cases h;done)|try simp only [h])|fail))
  all_goals clear hall h0
  all_goals (simp only [bne,beq_iff_eq,beq_eq_false_iff_ne,ne_eq,Cb,Bool.not_eq_false',decide_eq_true_eq,decide_eq_false_iff_not] at *;simp_all [Dp,UC];first|done|omega|(intros;omega)|(intros;exfalso;omega)|(rcases l with _|⟨a,l⟩<;>simp<;>omega))
end Go.Ab
namespace Go.Ab
open Go.Proofs
theorem pW (n:Nat):((n:Int)==0)=decide (n=0):=by rw [Ac];simp only [beq_iff_eq,decide_eq_true_eq];omega
def Lr (n:Str) (u:Int) (a b:Nat):Bool:=n==[]&&(u==0&&(decide (a=0)&&decide (b=0)))
theorem JS (o:Int) (n:Str) (u:Int) (ns ks al:List (List DV)) (σ:AF):
 AM Tryz.prog 152 [.agg [.d (.int .i64 o),.d (.str n),.d (.int .i64 u),.d (.sl ns),.d (.sl ks),.d (.sl al)]] σ (fun v σ'=>v= .d (.bool (Lr n u ns.length al.length))∧σ'=σ):=by
 refine Un (by simp) ?_
 rw [Bg]
 cases h1:(n==[])<;>cases h2:(u==0)<;>cases h3:decide (ns.length=0)
 all_goals (repeat' (first|refine Run.ct rfl ?_|((first|refine Run.reg mixed ?_|refine Run.AD ?_|refine Run.A1 O2 (AF.le_refl _) ?_)<;>try simp -implicitDefEqProofs only [BS,h1,h2,h3,pW,go_sem])|fail))
 all_goals (unfold Lr;rw [h1,h2,h3];rfl)
theorem eU (o:Int) (n:Str) (u:Int) (ks al:List (List DV)) (σ:AF):
 AM Tryz.prog 152 [.agg [.d (.int .i64 o),.d (.str n),.d (.int .i64 u),.AY,.d (.sl ks),.d (.sl al)]] σ (fun v σ'=>v= .d (.bool (Lr n u 0 al.length))∧σ'=σ):=
 AM.plain (by simpa only [AV.DM,Ij,Gc,NR,BX] using JS o n u [] ks al σ)
theorem eV (o:Int) (n:Str) (u:Int) (ns ks:List (List DV)) (σ:AF):
 AM Tryz.prog 152 [.agg [.d (.int .i64 o),.d (.str n),.d (.int .i64 u),.d (.sl ns),.d (.sl ks),.AY]] σ (fun v σ'=>v= .d (.bool (Lr n u ns.length 0))∧σ'=σ):=
 AM.plain (by simpa only [AV.DM,Ij,Gc,NR,BX] using JS o n u ns ks [] σ)
theorem Mo (n lo hi:Int) (σ:AF):AM Tryz.prog 156 [.d (.int .i64 n),.d (.int .i64 lo),.d (.int .i64 hi)] σ (fun v σ'=>v= .d (.bool (decide (lo≤n)&&decide (n≤hi)))∧σ'=σ):=by
 refine SQ (by simp) ?_
 rw [Lc]
 cases h1:decide (lo≤n)
 all_goals (repeat' (first|refine Run.ct rfl ?_|((first|refine Run.reg mixed ?_|refine Run.AD ?_|refine Run.A1 MZ (AF.le_refl _) ?_)<;>try simp -implicitDefEqProofs only [h1,go_sem])|fail))
def mK (u:Int):Str:=if u=1 then [110,101,119] else if u=2 then [103,101,116] else if u=3 then [115,101,116] else if u=4 then [108,101,110] else if u=5 then [114,101,102] else if u=6 then [114,101,97,100] else if u=7 then [119,114,105,116,101] else []
theorem Xd (u:Int) (σ:AF):AM Tryz.prog 157 [.d (.int .i64 u)] σ (fun v σ'=>v= .tup [.d (.str (mK u)),.d (.int .i64 (VE u))]∧σ'=σ):=by
 refine Qb (by simp) ?_
 rw [Bg]
 (repeat' (first|refine Run.ct rfl ?_|((first|refine Run.reg mixed ?_|refine Run.AD ?_|refine Run.A1 Kh (AF.le_refl _) ?_)<;>try simp -implicitDefEqProofs only [go_sem])|(refine ⟨fun h=>?_,fun h=>?_⟩<;>first|(cases h;done)|try simp only [h])|fail))
 all_goals (simp only [beq_iff_eq,beq_eq_false_iff_ne,ne_eq] at *;simp_all [mK,VE])
set_option maxHeartbeats 1000000 in
theorem ZF (a:Al) (σ:AF):AM Tryz.prog 155 [alA a] σ (fun v σ'=>v= .d (.bool (QW a))∧σ'=σ):=by
 refine Rb (by simp) ?_
 rw [Bg]
 obtain ⟨c,vs,o,n,u,ns,ks,al⟩:=a
 simp only [Al.A7,alA,AI,AO]
 have hl6:decide ((vs.length:Int)≤6)=decide (vs.length≤6):=leN vs.length 6
 cases h1:FH c with
 |false=>
  (repeat' (first|refine Run.ct rfl ?_|((first|refine Run.reg mixed ?_|refine Run.AD ?_|refine Run.A1 GC (AF.le_refl _) ?_|refine AJ.det (Bl c _) ?_)<;>try simp -implicitDefEqProofs only [h1,go_sem])|fail))
  simp [QW,h1]
 |true=>
  by_cases h6:vs.length≤6
  · (repeat' (first|refine Run.ct rfl ?_|((first|refine Run.reg mixed ?_|refine Run.AD ?_|refine Run.A1 GC (AF.le_refl _) ?_|refine AJ.det (Bl c _) ?_|refine AJ.det (Gn (caps:=[]) (by kernel_rfl) rfl OH vs σ (fun x _ σ1 _=>Im x σ1)) ?_)<;>try simp -implicitDefEqProofs only [h1,AA,hl6,decide_eq_true h6,go_sem])|fail))
    simp [QW,h1,h6]
  · (repeat' (first|refine Run.ct rfl ?_|((first|refine Run.reg mixed ?_|refine Run.AD ?_|refine Run.A1 GC (AF.le_refl _) ?_|refine AJ.det (Bl c _) ?_)<;>try simp -implicitDefEqProofs only [h1,AA,hl6,decide_eq_false h6,go_sem])|fail))
    simp [QW,h6]
set_option maxHeartbeats 4000000 in
theorem Xu (o:Int) (n:Str) (u:Int) (ns:List Str) (ks:List Ex) (al:List Al) (σ:AF) (ho:o=1∨o=2∨o=3∨o=4∨o=15):
 AM Tryz.prog 151 [exA (.mk o n u ns ks al)] σ (fun v σ'=>v= .d (.bool (nmB o n&&nuB o u&&nsB o ns&&asB o al))∧σ'=σ):=by
 refine Qd (by simp) ?_
 rw [Bg,exA,Ex.A7]
 have fin:∀b c:Bool,(b=true↔c=true)→AV.d (.bool b)=AV.d (.bool c):=fun b c h=>by rw [Ac.2 h]
 rcases ho with rfl|rfl|rfl|rfl|rfl
 · (repeat' (first|refine Run.ct rfl ?_|((first|refine Run.reg mixed ?_|refine Run.AD ?_|refine Run.A1 D6 (AF.le_refl _) ?_|refine AJ.det (JS _ _ _ _ _ _ _) ?_)<;>try simp -implicitDefEqProofs only [AA,AU,go_sem])|fail))
   all_goals (refine fin _ _ ?_;simp [Lr,nmB,nuB,nsB,asB, *];try grind)
 · (repeat' (first|refine Run.ct rfl ?_|((first|refine Run.reg mixed ?_|refine Run.AD ?_|refine Run.A1 D6 (AF.le_refl _) ?_|refine AJ.det (JS _ _ _ _ _ _ _) ?_|refine AJ.det (Mo _ _ _ _) ?_|(refine FY rfl (fun h=>?_) (fun h=>?_)<;>try (cases h;done)))<;>try simp -implicitDefEqProofs only [AA,AU,go_sem])|fail))
   all_goals (refine fin _ _ ?_;simp [Lr,nmB,nuB,nsB,asB, *] at *;try grind)
 · (repeat' (first|refine Run.ct rfl ?_|((first|refine Run.reg mixed ?_|refine Run.AD ?_|refine Run.A1 D6 (AF.le_refl _) ?_|refine AJ.det (JS _ _ _ _ _ _ _) ?_|refine AJ.det (Mo _ _ _ _) ?_|(refine FY rfl (fun h=>?_) (fun h=>?_)<;>try (cases h;done)))<;>try simp -implicitDefEqProofs only [AA,AU,go_sem])|fail))
   all_goals (refine fin _ _ ?_;simp [Lr,nmB,nuB,nsB,asB, *] at *;try grind)
 · (repeat' (first|refine Run.ct rfl ?_|((first|refine Run.reg mixed ?_|refine Run.AD ?_|refine Run.A1 D6 (AF.le_refl _) ?_|refine AJ.det (JS _ _ _ _ _ _ _) ?_|refine AJ.det (D7 _ _) ?_|(refine FY rfl (fun h=>?_) (fun h=>?_)<;>try (cases h;done)))<;>try simp -implicitDefEqProofs only [AA,AU,go_sem])|fail))
   all_goals (refine fin _ _ ?_;simp [Lr,nmB,nuB,nsB,asB, *] at *;try grind)
 · (repeat' (first|refine Run.ct rfl ?_|((first|refine Run.reg mixed ?_|refine Run.AD ?_|refine Run.A1 D6 (AF.le_refl _) ?_|refine AJ.det (JS _ _ _ _ _ _ _) ?_|refine AJ.det (Mo _ _ _ _) ?_|(refine FY rfl (fun h=>?_) (fun h=>?_)<;>try (cases h;done)))<;>try simp -implicitDefEqProofs only [AA,AU,go_sem])|fail))
   all_goals (refine fin _ _ ?_;simp [Lr,nmB,nuB,nsB,asB, *] at *;try grind)
theorem Wt (u:Int):0 < VE u↔1≤u∧u≤7:=by
 unfold VE;repeat' split
 all_goals omega
set_option maxHeartbeats 8000000 in
theorem Xv (o:Int) (n:Str) (u:Int) (ns:List Str) (ks:List Ex) (al:List Al) (σ:AF):
 AM Tryz.prog 128 [exA (.mk o n u ns ks al)] σ (fun v σ'=>v= .d (.bool (L2 o n u ns ks.length al))∧σ'=σ):=by
 refine Qe (by simp) ?_
 rw [Bg,exA,Ex.A7]
 have fin:∀b c:Bool,(b=true↔c=true)→AV.d (.bool b)=AV.d (.bool c):=fun b c h=>by rw [Ac.2 h]
 have hleaf:=fun h=>Xu o n u ns ks al σ h
 simp only [exA,Ex.A7,AI,AO] at hleaf ⊢
 have hbi:=Gn (fid:=153) (caps:=[]) (by kernel_rfl) rfl OH ns σ (fun x _ σ1 _=>Im x σ1)
 have hnm:=Gn (fid:=96) (caps:=[]) (by kernel_rfl) rfl EO ns σ (fun x _ σ1 _=>D7 x σ1)
 have hal:=UL (fid:=155) (caps:=[]) (by kernel_rfl) rfl QW al σ (fun x _ σ1 _=>ZF x σ1)
 by_cases ho:o=1∨o=2∨o=3∨o=4∨o=5∨o=6∨o=7∨o=8∨o=9∨o=10∨o=11∨o=12∨o=13∨o=14∨o=15∨o=16∨o=17
 · rcases ho with rfl|rfl|rfl|rfl|rfl|rfl|rfl|rfl|rfl|rfl|rfl|rfl|rfl|rfl|rfl|rfl|rfl
   all_goals (repeat' (first|refine Run.ct rfl ?_|((first|refine Run.reg mixed ?_|refine Run.AD ?_|refine Run.A1 HP (AF.le_refl _) ?_|refine AJ.det (hleaf (by simp)) ?_|refine AJ.det (JS _ _ _ _ _ _ _) ?_|refine AJ.det (eU _ _ _ _ _ _) ?_|refine AJ.det (eV _ _ _ _ _ _) ?_|refine AJ.det (Bl _ _) ?_|refine AJ.det (Im _ _) ?_|refine AJ.det (Mo _ _ _ _) ?_|refine AJ.det (Xd _ _) ?_|refine AJ.det (hbi) ?_|refine AJ.det (hnm) ?_|refine AJ.det (hal) ?_|(refine FY rfl (fun h=>?_) (fun h=>?_)<;>try (cases h;done)))<;>try simp -implicitDefEqProofs only [AA,AU,go_sem])|fail))
   all_goals clear hleaf hbi hnm hal
   all_goals (refine fin _ _ ?_;simp [L2,Lr,nmB,nuB,nsB,asB,nkB, *] at *;try (have hpr:=Wt u;grind))
 · have hno:L2 o n u ns ks.length al=false:=by
    simp only [not_or] at ho
    simp [L2,nkB,ho]
   simp only [not_or] at ho
   obtain ⟨h1,h2,h3,h4,h5,h6,h7,h8,h9,h10,h11,h12,h13,h14,h15,h16,h17⟩:=ho
   (repeat' (first|refine Run.ct rfl ?_|((first|refine Run.reg mixed ?_|refine Run.AD ?_|refine Run.A1 HP (AF.le_refl _) ?_)<;>try simp -implicitDefEqProofs only [CZ h1,CZ h2,CZ h3,CZ h4,CZ h5,CZ h6,CZ h7,CZ h8,CZ h9,CZ h10,CZ h11,CZ h12,CZ h13,CZ h14,CZ h15,CZ h16,CZ h17,go_sem])|fail))
   rw [hno]
end Go.Ab
namespace Go.Ab
open Go.Proofs
section
variable {α β:Type}
theorem Ib {f:β→α→Option β} {l:List α} {i:Nat} {x:α} {a b:β} (h:(l.take i).foldlM f a=some b) (hx:l[i]?=some x):(l.take (i+1)).foldlM f a=f b x:=by
 rw [Aw hx,List.foldlM_append,h]
 simp [List.foldlM]
theorem Ia {f:β→α→Option β} {l:List α} {i:Nat} {x:α} {a b:β} (h:(l.take i).foldlM f a=some b) (hx:l[i]?=some x) (hn:f b x=none):l.foldlM f a=none:=by
 conv=>lhs;rw [← A4 i l]
 rw [List.foldlM_append,h,Bb hx]
 simp [List.foldlM,hn]
theorem Ue {f:Nat→α→Option Nat}:∀(l:List α) (a b:Nat),(∀x∈l,∀a b,f a x=some b→b≤a)→l.foldlM f a=some b→b≤a
 |[],a,b,_,h=>by simp [List.foldlM] at h;omega
 |x::l,a,b,hf,h=>by
  simp only [List.foldlM,AN,AB] at h
  obtain ⟨c,hc,h⟩:=h
  have:=Ue l c b (fun y hy=>hf y (B8 _ hy)) h
  have:=hf x (BT ..) a c hc
  omega
end
theorem PC:∀(d q:Nat) (e:Ex) (r:Nat),vEx d q e=some r→r≤q
 |0,q,e,r,h=>by cases h
 |d+1,0,.mk ..,r,h=>by cases h
 |d+1,q+1,.mk o n u ns ks al,r,h=>by
  simp only [vEx] at h
  split at h
  · simp only [AB] at h
    obtain ⟨c,hc,h⟩:=h
    have h1:=Ue ks q c (fun x _ a b hab=>PC d a x b hab) hc
    have h2:=Ue al c r (fun x _ a b hab=>by cases x;exact PC d a _ b hab) h
    omega
  · cases h
def VXQ (enc:Nat→Int) (j d q:Nat) (e:Ex) (σ:AF) (v:AV) (σ':AF):Prop:=
 ∃b z,v= .d (.bool b)∧σ'=σ.AP j [.d (.int .i64 z)]∧b=(vEx d q e).isSome∧∀r,vEx d q e=some r→z=enc r
theorem VXQ.yes {enc:Nat→Int} {j d q:Nat} {e:Ex} {σ:AF} {P:Program} {f:FuncId} {args:List AV} {r:Nat} (h:AM P f args σ (VXQ enc j d q e σ)) (hr:vEx d q e=some r):AM P f args σ (fun v σ'=>v= .d (.bool true)∧σ'=σ.AP j [.d (.int .i64 (enc r))]):=
 h.mono (by
  rintro v σ' ⟨b,z,rfl,rfl,rfl,h⟩
  rw [h r hr,hr];exact ⟨rfl,rfl⟩)
theorem VXQ.no {enc:Nat→Int} {j d q:Nat} {e:Ex} {σ:AF} {P:Program} {f:FuncId} {args:List AV} (h:AM P f args σ (VXQ enc j d q e σ)) (hr:vEx d q e=none):AM P f args σ (fun v σ'=>v= .d (.bool false)∧∃z,σ'=σ.AP j [.d (.int .i64 z)]):=
 h.mono (by
  rintro v σ' ⟨b,z,rfl,rfl,rfl,h⟩
  rw [hr];exact ⟨rfl,z,rfl⟩)
def fK (d:Nat):Nat→Ex→Option Nat:=fun q e=>vEx d q e
def fA (d:Nat):Nat→Al→Option Nat:=fun q a=>match a with| .mk _ _ b=>vEx d q b
theorem PD (d q:Nat) (o:Int) (n:Str) (u:Int) (ns:List Str) (ks:List Ex) (al:List Al):vEx (d+1) (q+1) (.mk o n u ns ks al)=if L2 o n u ns ks.length al then (ks.foldlM (fK d) q).bind fun q=>al.foldlM (fA d) q else none:=rfl
def Jy (r:Nat):Int:=((600 - r:Nat):Int)
set_option maxHeartbeats 4000000 in
theorem T0 (j:Nat):∀(d q:Nat),d≤40→q≤600→∀(e:Ex) (σ:AF),σ.blk j=some [.d (.int .i64 (Jy q))]→
 AM Tryz.prog 98 [.gp j 0,exA e,.d (.int .i64 ((41 - d:Nat):Int))] σ (VXQ Jy j d q e σ):=by
 intro d
 induction d with
 |zero=>
  intro q _ hq e σ hj
  obtain ⟨o,n,u,ns,ks,al⟩:=e
  refine I0 (by simp) ?_
  rw [Lc,exA,Ex.A7]
  have hw:IntKind.i64.wrap (Jy q+1)=((601 - q:Nat):Int):=by rw [Jy,BI (by omega) (by omega)];omega
  have h4:decide ((40:Int) < ((41 - 0:Nat):Int))=true:=by decide
  (repeat' (first|refine Run.ct rfl ?_|((first|refine Run.reg mixed ?_|refine Run.AD ?_|refine Run.Fu CN (AF.le_refl _) ?_|(refine FY rfl (fun h=>?_) (fun h=>?_)<;>try (cases h;done)))<;>try simp -implicitDefEqProofs only [hj,hw,h4,go_sem])|fail))
  all_goals exact ⟨false,_,rfl,rfl,rfl,fun r h=>by cases h⟩
 |succ d ihd=>
  intro q hd hq e σ hj
  obtain ⟨o,n,u,ns,ks,al⟩:=e
  refine I0 (by simp) ?_
  rw [Lc,exA,Ex.A7]
  cases q with
  |zero=>
   have hw:IntKind.i64.wrap (Jy 0+1)=601:=by decide
   have h6:decide ((600:Int) < 601)=true:=by decide
   (repeat' (first|refine Run.ct rfl ?_|((first|refine Run.reg mixed ?_|refine Run.AD ?_|refine Run.Fu CN (AF.le_refl _) ?_)<;>try simp -implicitDefEqProofs only [hj,hw,h6,go_sem])|fail))
   exact ⟨false,_,rfl,rfl,rfl,fun r h=>by cases h⟩
  |succ q=>
  have hw:IntKind.i64.wrap (Jy (q+1)+1)=Jy q:=by
   have e:Jy (q+1)+1=Jy q:=by simp only [Jy];omega
   rw [e];exact BI (by simp only [Jy];omega) (by simp only [Jy];omega)
  have h6:decide ((600:Int) < Jy q)=false:=decide_eq_false (Int.not_lt.2 (by unfold Jy;omega))
  have h4:decide ((40:Int) < ((41 - (d+1):Nat):Int))=false:=by simp only [decide_eq_false_iff_not];omega
  have hnode:=Xv o n u ns ks al
  simp only [exA,Ex.A7,AI,AO] at hnode
  have hw2:IntKind.i64.wrap (((41 - (d+1):Nat):Int)+1)=((41 - d:Nat):Int):=by
   have e:((41 - (d+1):Nat):Int)+1=((41 - d:Nat):Int):=by omega
   rw [e];exact BI (by omega) (by omega)
  cases hn:L2 o n u ns ks.length al with
  |false=>
   rw [hn] at hnode
   (repeat' (first|refine Run.ct rfl ?_|((first|refine Run.reg mixed ?_|refine Run.AD ?_|refine Run.Fu CN (AF.le_refl _) ?_|refine AJ.det (hnode _) ?_)<;>try simp -implicitDefEqProofs only [hj,hw,h6,h4,go_sem])|fail))
   exact ⟨false,_,rfl,rfl,by rw [PD,if_neg (by simp [hn])];rfl,fun r h=>by rw [PD,if_neg (by simp [hn])] at h;cases h⟩
  |true=>
  rw [hn] at hnode
  have hres:vEx (d+1) (q+1) (.mk o n u ns ks al)=(ks.foldlM (fK d) q).bind fun q=>al.foldlM (fA d) q:=by rw [PD,if_pos hn]
  generalize hV:VXQ Jy j (d+1) (q+1) (.mk o n u ns ks al) σ=V
  have hno:∀z,vEx (d+1) (q+1) (.mk o n u ns ks al)=none→V (.d (.bool false)) (σ.AP j [.d (.int .i64 z)]):=fun z h=>by
   rw [← hV];exact ⟨false,z,rfl,rfl,by rw [h];rfl,fun r hr=>by rw [h] at hr;cases hr⟩
  have hyes:∀r,vEx (d+1) (q+1) (.mk o n u ns ks al)=some r→V (.d (.bool true)) (σ.AP j [.d (.int .i64 (Jy r))]):=fun z h=>by
   rw [← hV];exact ⟨true,_,rfl,rfl,by rw [h];rfl,fun r hr=>by rw [h] at hr;cases hr;rfl⟩
  clear hV
  (repeat' (first|refine Run.ct rfl ?_|((first|refine Run.reg mixed ?_|refine Run.AD ?_|refine AJ.det (hnode _) ?_)<;>try simp -implicitDefEqProofs only [hj,hw,h6,h4,AA,go_sem])|fail))
  refine Run.cell 4 4 rfl rfl (fun hb4=>?_)
  refine Run.cell 4 5 rfl rfl (fun hb5=>?_)
  simp only [AV.FB,AA] at hb4 hb5
  refine Run.BD ?_
  refine Run.BG ((fun (a0:AV) (a2:AV) (a4:AV) (a33:AV) (a34:AV)=>fun (y:Nat×Nat)=>put 0 a0 (put 2 a2 (put 4 a4 (put 33 a33 (put 34 a34 (put 35 (.d (.int .i64 y.1)) U)))))) _ _ _ _ _) (fun _=>BE 4 [.d (.int .i64 o),.d (.str n),.d (.int .i64 u),.d (.sl (ns.map BF)),.d (.sl (ks.map Ex.enc)),.d (.sl (al.map Al.enc))] E) (fun y=>σ.AP j [.d (.int .i64 (Jy y.2))])
   (fun y=>y.1≤ks.length∧y.2≤q∧(ks.take y.1).foldlM (fK d) q=some y.2) (fun y=>ks.length - y.1) ?_ (0,q) ⟨by simp,A0 _,rfl⟩
  rintro ⟨i,p⟩ ⟨hi,hp,hok⟩ ih
  simp only at hi hp hok
  by_cases hlt:i < ks.length
  · obtain ⟨x,hx⟩:=BC hlt
    have he:=Ay (enc:=Ex.enc) hx
    have hw1:IntKind.i64.wrap ((i:Int)+1)=((i+1:Nat):Int):=by rw [BI (by omega) (by omega)];omega
    have hc:=ihd p (by omega) (by omega) x (σ.AP j [.d (.int .i64 (Jy p))]) (by simp only [AL,if_true])
    cases hv:vEx d p x with
    |some r=>
     have hr:=PC _ _ _ _ hv
     have hc:=VXQ.yes hc hv
     have hs:=Ib hok hx
     obtain ⟨xo,xn,xu,xs,xk,xa⟩:=x
     simp only [Ex.A7,exA,AI,AO] at he hc
     (repeat' (first|refine Run.ct rfl ?_|((first|refine Run.reg mixed ?_|refine Run.AD ?_|(refine AJ.mk rfl hc ?_;rintro _ _ ⟨rfl,rfl⟩))<;>try simp -implicitDefEqProofs only [A8 hlt,he,hw1,hw2,go_sem])|fail))
     exact ih (i+1,r) ⟨by simp only;omega,by simp only;omega,by simp only;rw [hs];exact hv⟩ (by simp only;omega)
    |none=>
     have hc:=VXQ.no hc hv
     have hs:=Ia hok hx hv
     obtain ⟨xo,xn,xu,xs,xk,xa⟩:=x
     simp only [Ex.A7,exA,AI,AO] at he hc
     (repeat' (first|refine Run.ct rfl ?_|((first|refine Run.reg mixed ?_|refine Run.AD ?_|refine Run.Fu CN (AF.le_refl _) ?_|(refine AJ.mk rfl hc ?_;rintro _ _ ⟨rfl,z,rfl⟩))<;>try simp -implicitDefEqProofs only [A8 hlt,he,hw1,hw2,go_sem])|fail))
     exact hno z (by rw [hres,hs];rfl)
  · rw [AH (by omega)] at hok
    rw [hok,Gm] at hres
    clear ih
    (repeat' (first|refine Run.ct rfl ?_|((first|refine Run.reg mixed ?_|refine Run.AD ?_)<;>try simp -implicitDefEqProofs only [Bd hlt,AA,go_sem])|fail))
    refine Run.BD ?_
    refine Run.BG ((fun (a0:AV) (a2:AV) (a47:AV) (a48:AV)=>fun (y:Nat×Nat)=>put 0 a0 (put 2 a2 (put 47 a47 (put 48 a48 (put 49 (.d (.int .i64 y.1)) U))))) _ _ _ _) (fun _=>E) (fun y=>σ.AP j [.d (.int .i64 (Jy y.2))])
     (fun y=>y.1≤al.length∧y.2≤q∧(al.take y.1).foldlM (fA d) p=some y.2) (fun y=>al.length - y.1) ?_ (0,p) ⟨by simp,hp,rfl⟩
    rintro ⟨i,p⟩ ⟨hi,hp,hok⟩ ih
    simp only at hi hp hok
    by_cases hlt:i < al.length
    · obtain ⟨x,hx⟩:=BC hlt
      have he:=Ay (enc:=Al.enc) hx
      have hw1:IntKind.i64.wrap ((i:Int)+1)=((i+1:Nat):Int):=by rw [BI (by omega) (by omega)];omega
      obtain ⟨xc,xv,x⟩:=x
      have hc:=ihd p (by omega) (by omega) x (σ.AP j [.d (.int .i64 (Jy p))]) (by simp only [AL,if_true])
      cases hv:vEx d p x with
      |some r=>
       have hr:=PC _ _ _ _ hv
       have hc:=VXQ.yes hc hv
       have hs:=Ib hok hx
       obtain ⟨xo,xn,xu,xs,xk,xa⟩:=x
       simp only [Al.A7,Ex.A7,exA,AI,AO] at he hc
       (repeat' (first|refine Run.ct rfl ?_|((first|refine Run.reg mixed ?_|refine Run.AD ?_|(refine AJ.mk rfl hc ?_;rintro _ _ ⟨rfl,rfl⟩))<;>try simp -implicitDefEqProofs only [A8 hlt,he,hw1,hw2,go_sem])|fail))
       exact ih (i+1,r) ⟨by simp only;omega,by simp only;omega,by simp only;rw [hs];exact hv⟩ (by simp only;omega)
      |none=>
       have hc:=VXQ.no hc hv
       have hs:=Ia hok hx hv
       obtain ⟨xo,xn,xu,xs,xk,xa⟩:=x
       simp only [Al.A7,Ex.A7,exA,AI,AO] at he hc
       (repeat' (first|refine Run.ct rfl ?_|((first|refine Run.reg mixed ?_|refine Run.AD ?_|refine Run.Fu CN (AF.le_refl _) ?_|(refine AJ.mk rfl hc ?_;rintro _ _ ⟨rfl,z,rfl⟩))<;>try simp -implicitDefEqProofs only [A8 hlt,he,hw1,hw2,go_sem])|fail))
       exact hno z (by rw [hres,hs])
    · rw [AH (by omega)] at hok
      (repeat' (first|refine Run.ct rfl ?_|((first|refine Run.reg mixed ?_|refine Run.AD ?_|refine Run.Fu CN (AF.le_refl _) ?_)<;>try simp -implicitDefEqProofs only [Bd hlt,go_sem])|fail))
      exact hyes p (by rw [hres,hok])
theorem NT (u:Int) (σ:AF):AM Tryz.prog 118 [.d (.int .i64 u)] σ (fun v σ'=>v= .d (.int .i64 (VE u))∧σ'=σ):=by
 refine Uk (by simp) ?_
 rw [Bg]
 by_cases h:1≤u∧u≤7
 · obtain ⟨h1,h2⟩:=h
   obtain rfl|rfl|rfl|rfl|rfl|rfl|rfl:u=1∨u=2∨u=3∨u=4∨u=5∨u=6∨u=7:=by omega
   all_goals (repeat' (first|refine Run.ct rfl ?_|((first|refine Run.reg mixed ?_|refine Run.AD ?_|refine Run.A1 Hj (AF.le_refl _) ?_)<;>try simp -implicitDefEqProofs only [AG,Int.reduceLT,Int.reduceLE,D0,go_sem])|(refine ⟨fun h=>?_,fun h=>?_⟩<;>first|(cases h;done)|try simp only [h])|fail))
   all_goals rfl
 · have hp:VE u=0:=by
    have:=Wt u;omega
   rw [hp]
   by_cases h1:u < 1
   · (repeat' (first|refine Run.ct rfl ?_|((first|refine Run.reg mixed ?_|refine Run.AD ?_|refine Run.A1 Hj (AF.le_refl _) ?_)<;>try simp -implicitDefEqProofs only [decide_eq_true h1,go_sem])|fail))
     rfl
   · have h8:decide (((8:Nat):Int)≤u)=true:=by simp;omega
     (repeat' (first|refine Run.ct rfl ?_|((first|refine Run.reg mixed ?_|refine Run.AD ?_|refine Run.A1 Hj (AF.le_refl _) ?_)<;>try simp -implicitDefEqProofs only [decide_eq_false h1,h8,go_sem])|fail))
     rfl
end Go.Ab
