/- Valid written types and nodes. Valid nodes. Valid expressions. Valid expressions, as the reference looks at them. Conditions: none. -/
import Derived.Test.YtlckhmkeihbhmaaGreatXUa
set_option linter.unusedSimpArgs false
set_option linter.unusedVariables false
set_option maxRecDepth 4000
set_option maxHeartbeats 8000000
open List renaming map_cons→AG,map_nil→AQ,length_map→AA,length_nil→CN,take_append_drop→A3,mem_cons_of_mem→B6,mem_cons_self→BG,take_of_length_le→AK,replicate→AH
open Bool renaming not_eq_true'→B1,eq_iff_iff→Af,not_false→E7,and_true→As,true_and→Au,and_eq_true→AP
open Int renaming reduceBEq→AU,reduceToNat→DW
open Option renaming bind_eq_bind→AN,bind_eq_some_iff→AB,bind_some→Ga
open Nat renaming le_refl→A0
namespace Go.Ab
open Go.Proofs
theorem N2 (d:Nat) (hd:∀(t:TE) (σ:AF),t.size≤1000000→AL Tryz.prog 124 [teA t,.d (.int .i64 ((41 - d:Nat):Int))] σ (fun v σ'=>v= .d (.bool (Dj d t))∧σ'=σ)) (hd40:d < 40)
 (t:TE) (j:Nat) (σ:AF) (hsz:t.size≤1000000) (hj:σ.blk j=some [.d (.int .i64 ((40 - d:Nat):Int))]):
 AL Tryz.prog 148 [teA t,.gp j 0] σ (fun v σ'=>v= .d (.bool (Dj d t))∧σ'=σ):=by
 refine OK (by simp) ?_
 rw [BX]
 have hc:=hd t σ hsz
 obtain ⟨k,n,l⟩:=t
 simp only [TE.A4,teA,AG,AQ] at hc ⊢
 have hw:IntKind.i64.wrap (((40 - d:Nat):Int)+1)=((41 - d:Nat):Int):=by rw [BL (by omega) (by omega)];omega
 (repeat' (first|refine Run.ct rfl ?_|((first|refine Run.reg mixed ?_|refine Run.AE ?_|refine Run.A1 JF (AF.le_refl _) ?_|refine AI.det (hc) ?_)<;>try simp -implicitDefEqProofs only [hj,hw,go_sem])|fail))
set_option maxHeartbeats 4000000 in
theorem PL:∀(d:Nat),d≤40→∀(t:TE) (σ:AF),t.size≤1000000→AL Tryz.prog 124 [teA t,.d (.int .i64 ((41 - d:Nat):Int))] σ (fun v σ'=>v= .d (.bool (Dj d t))∧σ'=σ):=by
 intro d
 induction d with
 |zero=>
  rintro _ ⟨k,n,l⟩ σ _
  refine KZ (by simp) ?_
  rw [BX,teA,TE.A4]
  (repeat' (first|refine Run.ct rfl ?_|((first|refine Run.reg mixed ?_|refine Run.AE ?_)<;>try simp -implicitDefEqProofs only [go_sem])|fail))
  intro j hj
  have hle:=Bl (cs:=[.d (.int .i64 ((41 - 0:Nat):Int))]) hj
  have h0:decide ((40:Int) < ((41 - 0:Nat):Int))=true:=by decide
  (repeat' (first|refine Run.ct rfl ?_|((first|refine Run.reg mixed ?_|refine Run.AE ?_|(refine Run.A1 HD (σ2:=σ) hle ?_))<;>try simp -implicitDefEqProofs only [h0,go_sem])|fail))
  rfl
 |succ d ihd=>
  rintro hd ⟨k,n,l⟩ σ hsz
  have hlen:=TE.C8 l
  have hsz1:TE.A2 l+1≤1000000:=by simpa [TE.size,Nat.add_comm] using hsz
  have hd1:=ihd (by omega)
  refine KZ (by simp) ?_
  rw [BX,teA,TE.A4]
  have h0:decide ((40:Int) < ((41 - (d+1):Nat):Int))=false:=by simp only [decide_eq_false_iff_not];omega
  (repeat' (first|refine Run.ct rfl ?_|((first|refine Run.reg mixed ?_|refine Run.AE ?_)<;>try simp -implicitDefEqProofs only [go_sem])|fail))
  intro j hj
  have hle:=Bl (cs:=[.d (.int .i64 ((41 - (d+1):Nat):Int))]) hj
  have hall:=J8 (fid:=148) (caps:=[.gp j 0]) (by kernel_rfl) rfl (Dj d) l (σ.AO j [.d (.int .i64 ((41 - (d+1):Nat):Int))]) (fun x hx σ1 hle1=>by
   have hms:=TE.J0 hx
   refine N2 d hd1 (by omega) x j σ1 (by omega) ?_
   rw [hle1.blk j _ (by simp only [AM,if_true];rfl)]
   rw [show 41 - (d+1)=40 - d by omega])
  clear hd1 ihd
  (repeat' (first|refine Run.ct rfl ?_|((first|refine Run.reg mixed ?_|refine Run.AE ?_|(refine Run.A1 HD (σ2:=σ) hle ?_)|refine AI.det (D3 _ _) ?_|refine AI.det (Bh _ _) ?_|refine AI.det (hall) ?_|(refine Ce rfl (fun h=>?_) (fun h=>?_)<;>try (cases h;done)))<;>try simp -implicitDefEqProofs only [h0,Cb,AA,go_sem])|(refine ⟨fun h=>?_,fun h=>?_⟩<;>first|(cases h;done)|try simp only [h])|fail))
  all_goals clear hall h0
  all_goals (simp only [bne,beq_iff_eq,beq_eq_false_iff_ne,ne_eq,B1,Bool.not_eq_false',decide_eq_true_eq,decide_eq_false_iff_not] at *;simp_all [Dj,TP];first|done|omega|(intros;omega)|(intros;exfalso;omega)|(rcases l with _|⟨a,l⟩<;>simp<;>omega))
end Go.Ab
namespace Go.Ab
open Go.Proofs
theorem oD (n:Nat):((n:Int)==0)=decide (n=0):=by rw [Af];simp only [beq_iff_eq,decide_eq_true_eq];omega
def L4 (n:Str) (u:Int) (a b:Nat):Bool:=n==[]&&(u==0&&(decide (a=0)&&decide (b=0)))
theorem JI (o:Int) (n:Str) (u:Int) (ns ks al:List (List DV)) (σ:AF):
 AL Tryz.prog 152 [.agg [.d (.int .i64 o),.d (.str n),.d (.int .i64 u),.d (.sl ns),.d (.sl ks),.d (.sl al)]] σ (fun v σ'=>v= .d (.bool (L4 n u ns.length al.length))∧σ'=σ):=by
 refine UD (by simp) ?_
 rw [Bj]
 cases h1:(n==[])<;>cases h2:(u==0)<;>cases h3:decide (ns.length=0)
 all_goals (repeat' (first|refine Run.ct rfl ?_|((first|refine Run.reg mixed ?_|refine Run.AE ?_|refine Run.A1 Nz (AF.le_refl _) ?_)<;>try simp -implicitDefEqProofs only [BM,h1,h2,h3,oD,go_sem])|fail))
 all_goals (unfold L4;rw [h1,h2,h3];rfl)
theorem c5 (o:Int) (n:Str) (u:Int) (ks al:List (List DV)) (σ:AF):
 AL Tryz.prog 152 [.agg [.d (.int .i64 o),.d (.str n),.d (.int .i64 u),.AZ,.d (.sl ks),.d (.sl al)]] σ (fun v σ'=>v= .d (.bool (L4 n u 0 al.length))∧σ'=σ):=
 AL.plain (by simpa only [AV.DI,I9,G0,Mk,CN] using JI o n u [] ks al σ)
theorem c6 (o:Int) (n:Str) (u:Int) (ns ks:List (List DV)) (σ:AF):
 AL Tryz.prog 152 [.agg [.d (.int .i64 o),.d (.str n),.d (.int .i64 u),.d (.sl ns),.d (.sl ks),.AZ]] σ (fun v σ'=>v= .d (.bool (L4 n u ns.length 0))∧σ'=σ):=
 AL.plain (by simpa only [AV.DI,I9,G0,Mk,CN] using JI o n u ns ks [] σ)
theorem MW (n lo hi:Int) (σ:AF):AL Tryz.prog 156 [.d (.int .i64 n),.d (.int .i64 lo),.d (.int .i64 hi)] σ (fun v σ'=>v= .d (.bool (decide (lo≤n)&&decide (n≤hi)))∧σ'=σ):=by
 refine Rg (by simp) ?_
 rw [LO]
 cases h1:decide (lo≤n)
 all_goals (repeat' (first|refine Run.ct rfl ?_|((first|refine Run.reg mixed ?_|refine Run.AE ?_|refine Run.A1 Lz (AF.le_refl _) ?_)<;>try simp -implicitDefEqProofs only [h1,go_sem])|fail))
def kW (u:Int):Str:=if u=1 then [110,101,119] else if u=2 then [103,101,116] else if u=3 then [115,101,116] else if u=4 then [108,101,110] else if u=5 then [114,101,102] else if u=6 then [114,101,97,100] else if u=7 then [119,114,105,116,101] else []
theorem Wn (u:Int) (σ:AF):AL Tryz.prog 157 [.d (.int .i64 u)] σ (fun v σ'=>v= .tup [.d (.str (kW u)),.d (.int .i64 (UU u))]∧σ'=σ):=by
 refine QA (by simp) ?_
 rw [Bj]
 (repeat' (first|refine Run.ct rfl ?_|((first|refine Run.reg mixed ?_|refine Run.AE ?_|refine Run.A1 KU (AF.le_refl _) ?_)<;>try simp -implicitDefEqProofs only [go_sem])|(refine ⟨fun h=>?_,fun h=>?_⟩<;>first|(cases h;done)|try simp only [h])|fail))
 all_goals (simp only [beq_iff_eq,beq_eq_false_iff_ne,ne_eq] at *;simp_all [kW,UU])
set_option maxHeartbeats 1000000 in
theorem YN (a:Al) (σ:AF):AL Tryz.prog 155 [alA a] σ (fun v σ'=>v= .d (.bool (Po a))∧σ'=σ):=by
 refine Qr (by simp) ?_
 rw [Bj]
 obtain ⟨c,vs,o,n,u,ns,ks,al⟩:=a
 simp only [Al.A4,alA,AG,AQ]
 have hl6:decide ((vs.length:Int)≤6)=decide (vs.length≤6):=leN vs.length 6
 cases h1:Ev c with
 |false=>
  (repeat' (first|refine Run.ct rfl ?_|((first|refine Run.reg mixed ?_|refine Run.AE ?_|refine Run.A1 Fk (AF.le_refl _) ?_|refine AI.det (Bh c _) ?_)<;>try simp -implicitDefEqProofs only [h1,go_sem])|fail))
  simp [Po,h1]
 |true=>
  by_cases h6:vs.length≤6
  · (repeat' (first|refine Run.ct rfl ?_|((first|refine Run.reg mixed ?_|refine Run.AE ?_|refine Run.A1 Fk (AF.le_refl _) ?_|refine AI.det (Bh c _) ?_|refine AI.det (Gb (caps:=[]) (by kernel_rfl) rfl Nd vs σ (fun x _ σ1 _=>Ic x σ1)) ?_)<;>try simp -implicitDefEqProofs only [h1,AA,hl6,decide_eq_true h6,go_sem])|fail))
    simp [Po,h1,h6]
  · (repeat' (first|refine Run.ct rfl ?_|((first|refine Run.reg mixed ?_|refine Run.AE ?_|refine Run.A1 Fk (AF.le_refl _) ?_|refine AI.det (Bh c _) ?_)<;>try simp -implicitDefEqProofs only [h1,AA,hl6,decide_eq_false h6,go_sem])|fail))
    simp [Po,h6]
set_option maxHeartbeats 4000000 in
theorem XB (o:Int) (n:Str) (u:Int) (ns:List Str) (ks:List Ex) (al:List Al) (σ:AF) (ho:o=1∨o=2∨o=3∨o=4∨o=15):
 AL Tryz.prog 151 [exA (.mk o n u ns ks al)] σ (fun v σ'=>v= .d (.bool (nmB o n&&nuB o u&&nsB o ns&&asB o al))∧σ'=σ):=by
 refine QC (by simp) ?_
 rw [Bj,exA,Ex.A4]
 have fin:∀b c:Bool,(b=true↔c=true)→AV.d (.bool b)=AV.d (.bool c):=fun b c h=>by rw [Af.2 h]
 rcases ho with rfl|rfl|rfl|rfl|rfl
 · (repeat' (first|refine Run.ct rfl ?_|((first|refine Run.reg mixed ?_|refine Run.AE ?_|refine Run.A1 D2 (AF.le_refl _) ?_|refine AI.det (JI _ _ _ _ _ _ _) ?_)<;>try simp -implicitDefEqProofs only [AA,AU,go_sem])|fail))
   all_goals (refine fin _ _ ?_;simp [L4,nmB,nuB,nsB,asB, *];try grind)
 · (repeat' (first|refine Run.ct rfl ?_|((first|refine Run.reg mixed ?_|refine Run.AE ?_|refine Run.A1 D2 (AF.le_refl _) ?_|refine AI.det (JI _ _ _ _ _ _ _) ?_|refine AI.det (MW _ _ _ _) ?_|(refine Ce rfl (fun h=>?_) (fun h=>?_)<;>try (cases h;done)))<;>try simp -implicitDefEqProofs only [AA,AU,go_sem])|fail))
   all_goals (refine fin _ _ ?_;simp [L4,nmB,nuB,nsB,asB, *] at *;try grind)
 · (repeat' (first|refine Run.ct rfl ?_|((first|refine Run.reg mixed ?_|refine Run.AE ?_|refine Run.A1 D2 (AF.le_refl _) ?_|refine AI.det (JI _ _ _ _ _ _ _) ?_|refine AI.det (MW _ _ _ _) ?_|(refine Ce rfl (fun h=>?_) (fun h=>?_)<;>try (cases h;done)))<;>try simp -implicitDefEqProofs only [AA,AU,go_sem])|fail))
   all_goals (refine fin _ _ ?_;simp [L4,nmB,nuB,nsB,asB, *] at *;try grind)
 · (repeat' (first|refine Run.ct rfl ?_|((first|refine Run.reg mixed ?_|refine Run.AE ?_|refine Run.A1 D2 (AF.le_refl _) ?_|refine AI.det (JI _ _ _ _ _ _ _) ?_|refine AI.det (D3 _ _) ?_|(refine Ce rfl (fun h=>?_) (fun h=>?_)<;>try (cases h;done)))<;>try simp -implicitDefEqProofs only [AA,AU,go_sem])|fail))
   all_goals (refine fin _ _ ?_;simp [L4,nmB,nuB,nsB,asB, *] at *;try grind)
 · (repeat' (first|refine Run.ct rfl ?_|((first|refine Run.reg mixed ?_|refine Run.AE ?_|refine Run.A1 D2 (AF.le_refl _) ?_|refine AI.det (JI _ _ _ _ _ _ _) ?_|refine AI.det (MW _ _ _ _) ?_|(refine Ce rfl (fun h=>?_) (fun h=>?_)<;>try (cases h;done)))<;>try simp -implicitDefEqProofs only [AA,AU,go_sem])|fail))
   all_goals (refine fin _ _ ?_;simp [L4,nmB,nuB,nsB,asB, *] at *;try grind)
theorem WA (u:Int):0 < UU u↔1≤u∧u≤7:=by
 unfold UU;repeat' split
 all_goals omega
set_option maxHeartbeats 8000000 in
theorem XC (o:Int) (n:Str) (u:Int) (ns:List Str) (ks:List Ex) (al:List Al) (σ:AF):
 AL Tryz.prog 128 [exA (.mk o n u ns ks al)] σ (fun v σ'=>v= .d (.bool (LC o n u ns ks.length al))∧σ'=σ):=by
 refine QD (by simp) ?_
 rw [Bj,exA,Ex.A4]
 have fin:∀b c:Bool,(b=true↔c=true)→AV.d (.bool b)=AV.d (.bool c):=fun b c h=>by rw [Af.2 h]
 have hleaf:=fun h=>XB o n u ns ks al σ h
 simp only [exA,Ex.A4,AG,AQ] at hleaf ⊢
 have hbi:=Gb (fid:=153) (caps:=[]) (by kernel_rfl) rfl Nd ns σ (fun x _ σ1 _=>Ic x σ1)
 have hnm:=Gb (fid:=96) (caps:=[]) (by kernel_rfl) rfl EJ ns σ (fun x _ σ1 _=>D3 x σ1)
 have hal:=T0 (fid:=155) (caps:=[]) (by kernel_rfl) rfl Po al σ (fun x _ σ1 _=>YN x σ1)
 by_cases ho:o=1∨o=2∨o=3∨o=4∨o=5∨o=6∨o=7∨o=8∨o=9∨o=10∨o=11∨o=12∨o=13∨o=14∨o=15∨o=16∨o=17
 · rcases ho with rfl|rfl|rfl|rfl|rfl|rfl|rfl|rfl|rfl|rfl|rfl|rfl|rfl|rfl|rfl|rfl|rfl
   all_goals (repeat' (first|refine Run.ct rfl ?_|((first|refine Run.reg mixed ?_|refine Run.AE ?_|refine Run.A1 HC (AF.le_refl _) ?_|refine AI.det (hleaf (by simp)) ?_|refine AI.det (JI _ _ _ _ _ _ _) ?_|refine AI.det (c5 _ _ _ _ _ _) ?_|refine AI.det (c6 _ _ _ _ _ _) ?_|refine AI.det (Bh _ _) ?_|refine AI.det (Ic _ _) ?_|refine AI.det (MW _ _ _ _) ?_|refine AI.det (Wn _ _) ?_|refine AI.det (hbi) ?_|refine AI.det (hnm) ?_|refine AI.det (hal) ?_|(refine Ce rfl (fun h=>?_) (fun h=>?_)<;>try (cases h;done)))<;>try simp -implicitDefEqProofs only [AA,AU,go_sem])|fail))
   all_goals clear hleaf hbi hnm hal
   all_goals (refine fin _ _ ?_;simp [LC,L4,nmB,nuB,nsB,asB,nkB, *] at *;try (have hpr:=WA u;grind))
 · have hno:LC o n u ns ks.length al=false:=by
    simp only [not_or] at ho
    simp [LC,nkB,ho]
   simp only [not_or] at ho
   obtain ⟨h1,h2,h3,h4,h5,h6,h7,h8,h9,h10,h11,h12,h13,h14,h15,h16,h17⟩:=ho
   (repeat' (first|refine Run.ct rfl ?_|((first|refine Run.reg mixed ?_|refine Run.AE ?_|refine Run.A1 HC (AF.le_refl _) ?_)<;>try simp -implicitDefEqProofs only [C1 h1,C1 h2,C1 h3,C1 h4,C1 h5,C1 h6,C1 h7,C1 h8,C1 h9,C1 h10,C1 h11,C1 h12,C1 h13,C1 h14,C1 h15,C1 h16,C1 h17,go_sem])|fail))
   rw [hno]
end Go.Ab
namespace Go.Ab
open Go.Proofs
section
variable {α β:Type}
theorem I0 {f:β→α→Option β} {l:List α} {i:Nat} {x:α} {a b:β} (h:(l.take i).foldlM f a=some b) (hx:l[i]?=some x):(l.take (i+1)).foldlM f a=f b x:=by
 rw [BH hx,List.foldlM_append,h]
 simp [List.foldlM]
theorem IZ {f:β→α→Option β} {l:List α} {i:Nat} {x:α} {a b:β} (h:(l.take i).foldlM f a=some b) (hx:l[i]?=some x) (hn:f b x=none):l.foldlM f a=none:=by
 conv=>lhs;rw [← A3 i l]
 rw [List.foldlM_append,h,B3 hx]
 simp [List.foldlM,hn]
theorem Ts {f:Nat→α→Option Nat}:∀(l:List α) (a b:Nat),(∀x∈l,∀a b,f a x=some b→b≤a)→l.foldlM f a=some b→b≤a
 |[],a,b,_,h=>by simp [List.foldlM] at h;omega
 |x::l,a,b,hf,h=>by
  simp only [List.foldlM,AN,AB] at h
  obtain ⟨c,hc,h⟩:=h
  have:=Ts l c b (fun y hy=>hf y (B6 _ hy)) h
  have:=hf x (BG ..) a c hc
  omega
end
theorem O5:∀(d q:Nat) (e:Ex) (r:Nat),vEx d q e=some r→r≤q
 |0,q,e,r,h=>by cases h
 |d+1,0,.mk ..,r,h=>by cases h
 |d+1,q+1,.mk o n u ns ks al,r,h=>by
  simp only [vEx] at h
  split at h
  · simp only [AB] at h
    obtain ⟨c,hc,h⟩:=h
    have h1:=Ts ks q c (fun x _ a b hab=>O5 d a x b hab) hc
    have h2:=Ts al c r (fun x _ a b hab=>by cases x;exact O5 d a _ b hab) h
    omega
  · cases h
def VXQ (enc:Nat→Int) (j d q:Nat) (e:Ex) (σ:AF) (v:AV) (σ':AF):Prop:=
 ∃b z,v= .d (.bool b)∧σ'=σ.AO j [.d (.int .i64 z)]∧b=(vEx d q e).isSome∧∀r,vEx d q e=some r→z=enc r
theorem VXQ.yes {enc:Nat→Int} {j d q:Nat} {e:Ex} {σ:AF} {P:Program} {f:FuncId} {args:List AV} {r:Nat} (h:AL P f args σ (VXQ enc j d q e σ)) (hr:vEx d q e=some r):AL P f args σ (fun v σ'=>v= .d (.bool true)∧σ'=σ.AO j [.d (.int .i64 (enc r))]):=
 h.mono (by
  rintro v σ' ⟨b,z,rfl,rfl,rfl,h⟩
  rw [h r hr,hr];exact ⟨rfl,rfl⟩)
theorem VXQ.no {enc:Nat→Int} {j d q:Nat} {e:Ex} {σ:AF} {P:Program} {f:FuncId} {args:List AV} (h:AL P f args σ (VXQ enc j d q e σ)) (hr:vEx d q e=none):AL P f args σ (fun v σ'=>v= .d (.bool false)∧∃z,σ'=σ.AO j [.d (.int .i64 z)]):=
 h.mono (by
  rintro v σ' ⟨b,z,rfl,rfl,rfl,h⟩
  rw [hr];exact ⟨rfl,z,rfl⟩)
def fK (d:Nat):Nat→Ex→Option Nat:=fun q e=>vEx d q e
def fA (d:Nat):Nat→Al→Option Nat:=fun q a=>match a with| .mk _ _ b=>vEx d q b
theorem O6 (d q:Nat) (o:Int) (n:Str) (u:Int) (ns:List Str) (ks:List Ex) (al:List Al):vEx (d+1) (q+1) (.mk o n u ns ks al)=if LC o n u ns ks.length al then (ks.foldlM (fK d) q).bind fun q=>al.foldlM (fA d) q else none:=rfl
def Jo (r:Nat):Int:=((600 - r:Nat):Int)
set_option maxHeartbeats 4000000 in
theorem Sh (j:Nat):∀(d q:Nat),d≤40→q≤600→∀(e:Ex) (σ:AF),σ.blk j=some [.d (.int .i64 (Jo q))]→
 AL Tryz.prog 98 [.gp j 0,exA e,.d (.int .i64 ((41 - d:Nat):Int))] σ (VXQ Jo j d q e σ):=by
 intro d
 induction d with
 |zero=>
  intro q _ hq e σ hj
  obtain ⟨o,n,u,ns,ks,al⟩:=e
  refine IQ (by simp) ?_
  rw [LO,exA,Ex.A4]
  have hw:IntKind.i64.wrap (Jo q+1)=((601 - q:Nat):Int):=by rw [Jo,BL (by omega) (by omega)];omega
  have h4:decide ((40:Int) < ((41 - 0:Nat):Int))=true:=by decide
  (repeat' (first|refine Run.ct rfl ?_|((first|refine Run.reg mixed ?_|refine Run.AE ?_|refine Run.Fp CM (AF.le_refl _) ?_|(refine Ce rfl (fun h=>?_) (fun h=>?_)<;>try (cases h;done)))<;>try simp -implicitDefEqProofs only [hj,hw,h4,go_sem])|fail))
  all_goals exact ⟨false,_,rfl,rfl,rfl,fun r h=>by cases h⟩
 |succ d ihd=>
  intro q hd hq e σ hj
  obtain ⟨o,n,u,ns,ks,al⟩:=e
  refine IQ (by simp) ?_
  rw [LO,exA,Ex.A4]
  cases q with
  |zero=>
   have hw:IntKind.i64.wrap (Jo 0+1)=601:=by decide
   have h6:decide ((600:Int) < 601)=true:=by decide
   (repeat' (first|refine Run.ct rfl ?_|((first|refine Run.reg mixed ?_|refine Run.AE ?_|refine Run.Fp CM (AF.le_refl _) ?_)<;>try simp -implicitDefEqProofs only [hj,hw,h6,go_sem])|fail))
   exact ⟨false,_,rfl,rfl,rfl,fun r h=>by cases h⟩
  |succ q=>
  have hw:IntKind.i64.wrap (Jo (q+1)+1)=Jo q:=by
   have e:Jo (q+1)+1=Jo q:=by simp only [Jo];omega
   rw [e];exact BL (by simp only [Jo];omega) (by simp only [Jo];omega)
  have h6:decide ((600:Int) < Jo q)=false:=decide_eq_false (Int.not_lt.2 (by unfold Jo;omega))
  have h4:decide ((40:Int) < ((41 - (d+1):Nat):Int))=false:=by simp only [decide_eq_false_iff_not];omega
  have hnode:=XC o n u ns ks al
  simp only [exA,Ex.A4,AG,AQ] at hnode
  have hw2:IntKind.i64.wrap (((41 - (d+1):Nat):Int)+1)=((41 - d:Nat):Int):=by
   have e:((41 - (d+1):Nat):Int)+1=((41 - d:Nat):Int):=by omega
   rw [e];exact BL (by omega) (by omega)
  cases hn:LC o n u ns ks.length al with
  |false=>
   rw [hn] at hnode
   (repeat' (first|refine Run.ct rfl ?_|((first|refine Run.reg mixed ?_|refine Run.AE ?_|refine Run.Fp CM (AF.le_refl _) ?_|refine AI.det (hnode _) ?_)<;>try simp -implicitDefEqProofs only [hj,hw,h6,h4,go_sem])|fail))
   exact ⟨false,_,rfl,rfl,by rw [O6,if_neg (by simp [hn])];rfl,fun r h=>by rw [O6,if_neg (by simp [hn])] at h;cases h⟩
  |true=>
  rw [hn] at hnode
  have hres:vEx (d+1) (q+1) (.mk o n u ns ks al)=(ks.foldlM (fK d) q).bind fun q=>al.foldlM (fA d) q:=by rw [O6,if_pos hn]
  generalize hV:VXQ Jo j (d+1) (q+1) (.mk o n u ns ks al) σ=V
  have hno:∀z,vEx (d+1) (q+1) (.mk o n u ns ks al)=none→V (.d (.bool false)) (σ.AO j [.d (.int .i64 z)]):=fun z h=>by
   rw [← hV];exact ⟨false,z,rfl,rfl,by rw [h];rfl,fun r hr=>by rw [h] at hr;cases hr⟩
  have hyes:∀r,vEx (d+1) (q+1) (.mk o n u ns ks al)=some r→V (.d (.bool true)) (σ.AO j [.d (.int .i64 (Jo r))]):=fun z h=>by
   rw [← hV];exact ⟨true,_,rfl,rfl,by rw [h];rfl,fun r hr=>by rw [h] at hr;cases hr;rfl⟩
  clear hV
  (repeat' (first|refine Run.ct rfl ?_|((first|refine Run.reg mixed ?_|refine Run.AE ?_|refine AI.det (hnode _) ?_)<;>try simp -implicitDefEqProofs only [hj,hw,h6,h4,AA,go_sem])|fail))
  refine Run.cell 4 4 rfl rfl (fun hb4=>?_)
  refine Run.cell 4 5 rfl rfl (fun hb5=>?_)
  simp only [AV.FY,AA] at hb4 hb5
  refine Run.BD ?_
  refine Run.BK ((fun (a0:AV) (a2:AV) (a4:AV) (a33:AV) (a34:AV)=>fun (y:Nat×Nat)=>put 0 a0 (put 2 a2 (put 4 a4 (put 33 a33 (put 34 a34 (put 35 (.d (.int .i64 y.1)) U)))))) _ _ _ _ _) (fun _=>Az 4 [.d (.int .i64 o),.d (.str n),.d (.int .i64 u),.d (.sl (ns.map Aw)),.d (.sl (ks.map Ex.enc)),.d (.sl (al.map Al.enc))] E) (fun y=>σ.AO j [.d (.int .i64 (Jo y.2))])
   (fun y=>y.1≤ks.length∧y.2≤q∧(ks.take y.1).foldlM (fK d) q=some y.2) (fun y=>ks.length - y.1) ?_ (0,q) ⟨by simp,A0 _,rfl⟩
  rintro ⟨i,p⟩ ⟨hi,hp,hok⟩ ih
  simp only at hi hp hok
  by_cases hlt:i < ks.length
  · obtain ⟨x,hx⟩:=BC hlt
    have he:=BA (enc:=Ex.enc) hx
    have hw1:IntKind.i64.wrap ((i:Int)+1)=((i+1:Nat):Int):=by rw [BL (by omega) (by omega)];omega
    have hc:=ihd p (by omega) (by omega) x (σ.AO j [.d (.int .i64 (Jo p))]) (by simp only [AM,if_true])
    cases hv:vEx d p x with
    |some r=>
     have hr:=O5 _ _ _ _ hv
     have hc:=VXQ.yes hc hv
     have hs:=I0 hok hx
     obtain ⟨xo,xn,xu,xs,xk,xa⟩:=x
     simp only [Ex.A4,exA,AG,AQ] at he hc
     (repeat' (first|refine Run.ct rfl ?_|((first|refine Run.reg mixed ?_|refine Run.AE ?_|(refine AI.mk rfl hc ?_;rintro _ _ ⟨rfl,rfl⟩))<;>try simp -implicitDefEqProofs only [Ac hlt,he,hw1,hw2,go_sem])|fail))
     exact ih (i+1,r) ⟨by simp only;omega,by simp only;omega,by simp only;rw [hs];exact hv⟩ (by simp only;omega)
    |none=>
     have hc:=VXQ.no hc hv
     have hs:=IZ hok hx hv
     obtain ⟨xo,xn,xu,xs,xk,xa⟩:=x
     simp only [Ex.A4,exA,AG,AQ] at he hc
     (repeat' (first|refine Run.ct rfl ?_|((first|refine Run.reg mixed ?_|refine Run.AE ?_|refine Run.Fp CM (AF.le_refl _) ?_|(refine AI.mk rfl hc ?_;rintro _ _ ⟨rfl,z,rfl⟩))<;>try simp -implicitDefEqProofs only [Ac hlt,he,hw1,hw2,go_sem])|fail))
     exact hno z (by rw [hres,hs];rfl)
  · rw [AK (by omega)] at hok
    rw [hok,Ga] at hres
    clear ih
    (repeat' (first|refine Run.ct rfl ?_|((first|refine Run.reg mixed ?_|refine Run.AE ?_)<;>try simp -implicitDefEqProofs only [Bi hlt,AA,go_sem])|fail))
    refine Run.BD ?_
    refine Run.BK ((fun (a0:AV) (a2:AV) (a47:AV) (a48:AV)=>fun (y:Nat×Nat)=>put 0 a0 (put 2 a2 (put 47 a47 (put 48 a48 (put 49 (.d (.int .i64 y.1)) U))))) _ _ _ _) (fun _=>E) (fun y=>σ.AO j [.d (.int .i64 (Jo y.2))])
     (fun y=>y.1≤al.length∧y.2≤q∧(al.take y.1).foldlM (fA d) p=some y.2) (fun y=>al.length - y.1) ?_ (0,p) ⟨by simp,hp,rfl⟩
    rintro ⟨i,p⟩ ⟨hi,hp,hok⟩ ih
    simp only at hi hp hok
    by_cases hlt:i < al.length
    · obtain ⟨x,hx⟩:=BC hlt
      have he:=BA (enc:=Al.enc) hx
      have hw1:IntKind.i64.wrap ((i:Int)+1)=((i+1:Nat):Int):=by rw [BL (by omega) (by omega)];omega
      obtain ⟨xc,xv,x⟩:=x
      have hc:=ihd p (by omega) (by omega) x (σ.AO j [.d (.int .i64 (Jo p))]) (by simp only [AM,if_true])
      cases hv:vEx d p x with
      |some r=>
       have hr:=O5 _ _ _ _ hv
       have hc:=VXQ.yes hc hv
       have hs:=I0 hok hx
       obtain ⟨xo,xn,xu,xs,xk,xa⟩:=x
       simp only [Al.A4,Ex.A4,exA,AG,AQ] at he hc
       (repeat' (first|refine Run.ct rfl ?_|((first|refine Run.reg mixed ?_|refine Run.AE ?_|(refine AI.mk rfl hc ?_;rintro _ _ ⟨rfl,rfl⟩))<;>try simp -implicitDefEqProofs only [Ac hlt,he,hw1,hw2,go_sem])|fail))
       exact ih (i+1,r) ⟨by simp only;omega,by simp only;omega,by simp only;rw [hs];exact hv⟩ (by simp only;omega)
      |none=>
       have hc:=VXQ.no hc hv
       have hs:=IZ hok hx hv
       obtain ⟨xo,xn,xu,xs,xk,xa⟩:=x
       simp only [Al.A4,Ex.A4,exA,AG,AQ] at he hc
       (repeat' (first|refine Run.ct rfl ?_|((first|refine Run.reg mixed ?_|refine Run.AE ?_|refine Run.Fp CM (AF.le_refl _) ?_|(refine AI.mk rfl hc ?_;rintro _ _ ⟨rfl,z,rfl⟩))<;>try simp -implicitDefEqProofs only [Ac hlt,he,hw1,hw2,go_sem])|fail))
       exact hno z (by rw [hres,hs])
    · rw [AK (by omega)] at hok
      (repeat' (first|refine Run.ct rfl ?_|((first|refine Run.reg mixed ?_|refine Run.AE ?_|refine Run.Fp CM (AF.le_refl _) ?_)<;>try simp -implicitDefEqProofs only [Bi hlt,go_sem])|fail))
      exact hyes p (by rw [hres,hok])
theorem Mm (u:Int) (σ:AF):AL Tryz.prog 118 [.d (.int .i64 u)] σ (fun v σ'=>v= .d (.int .i64 (UU u))∧σ'=σ):=by
 refine UA (by simp) ?_
 rw [Bj]
 by_cases h:1≤u∧u≤7
 · obtain ⟨h1,h2⟩:=h
   obtain rfl|rfl|rfl|rfl|rfl|rfl|rfl:u=1∨u=2∨u=3∨u=4∨u=5∨u=6∨u=7:=by omega
   all_goals (repeat' (first|refine Run.ct rfl ?_|((first|refine Run.reg mixed ?_|refine Run.AE ?_|refine Run.A1 H8 (AF.le_refl _) ?_)<;>try simp -implicitDefEqProofs only [AH,Int.reduceLT,Int.reduceLE,DW,go_sem])|(refine ⟨fun h=>?_,fun h=>?_⟩<;>first|(cases h;done)|try simp only [h])|fail))
   all_goals rfl
 · have hp:UU u=0:=by
    have:=WA u;omega
   rw [hp]
   by_cases h1:u < 1
   · (repeat' (first|refine Run.ct rfl ?_|((first|refine Run.reg mixed ?_|refine Run.AE ?_|refine Run.A1 H8 (AF.le_refl _) ?_)<;>try simp -implicitDefEqProofs only [decide_eq_true h1,go_sem])|fail))
     rfl
   · have h8:decide (((8:Nat):Int)≤u)=true:=by simp;omega
     (repeat' (first|refine Run.ct rfl ?_|((first|refine Run.reg mixed ?_|refine Run.AE ?_|refine Run.A1 H8 (AF.le_refl _) ?_)<;>try simp -implicitDefEqProofs only [decide_eq_false h1,h8,go_sem])|fail))
     rfl
end Go.Ab
namespace Go.Ab
open Go.Proofs
def SX (o:Int) (n:Str) (u:Int) (ns:List Str) (nk na:Nat):Bool:=
 nmB o n&&nuB o u&&nsB o ns&&(if o=10 then decide (1≤na) else decide (na=0))&&nkB o u nk
theorem SW (o:Int) (n:Str) (u:Int) (ns:List Str) (nk:Nat) (al:List Al):LC o n u ns nk al=(SX o n u ns nk al.length&&al.all Po):=by
 unfold LC SX asB
 split
 · cases nmB o n<;>cases nuB o u<;>cases nsB o ns<;>cases nkB o u nk<;>simp
 · cases al with
   |nil=>simp
   |cons a l=>simp
theorem MX (l:List Str):KF l false=(decide (l.length≤6)&&l.all Nd):=by
 unfold KF
 congr 2
 funext s
 simp only [Nd,E7,As]
 exact Bool.or_comm _ _
theorem Nf (l:List Str):KF l true=(decide (l.length≤6)&&l.all EJ):=by
 unfold KF
 congr 2
 funext s
 simp
def F9 (r:Nat):Int:=(r:Int)
set_option maxHeartbeats 4000000 in
theorem gP (j d q:Nat) (ihd:∀(q:Nat),q≤600→∀(e:Ex) (σ:AF),σ.blk j=some [.d (.int .i64 (F9 q))]→AL Tryz.prog 94 [exA e,.d (.int .i64 (d:Int)),.gp j 0] σ (VXQ F9 j d q e σ)) (hd:d < 40) (hq:q≤600)
 (o:Int) (n:Str) (u:Int) (ns:List Str) (ks:List Ex) (al:List Al) (σ:AF) (hnode:SX o n u ns ks.length al.length=true):
 Run Ey (VXQ F9 j (d+1) (q+1) (.mk o n u ns ks al) σ) [.code (.loop Kv),.blk 1,.code (.seq (.seq (.reg [⟨some 14,.mv (.c (.d (.int .i64 0))),none⟩] [1,2,3,14]) (.block 3 (.loop Kw))) (.seq (.reg [⟨some 6,.mv (.c (.d (.bool true))),none⟩] [6]) .ret))]
  (put 1 (.d (.int .i64 ((d+1:Nat):Int))) (put 2 (.gp j 0) (put 3 (.lp 3 0) (put 13 (.d (.int .i64 0)) U)))) (Az 3 [.d (.int .i64 o),.d (.str n),.d (.int .i64 u),.d (.sl (ns.map Aw)),.d (.sl (ks.map Ex.enc)),.d (.sl (al.map Al.enc))] E) (σ.AO j [.d (.int .i64 (F9 q))]):=by
 have hws:IntKind.i64.wrap (((d+1:Nat):Int) - 1)=(d:Int):=Ie (by omega)
 have hres:vEx (d+1) (q+1) (.mk o n u ns ks al)=if al.all Po then (ks.foldlM (fK d) q).bind fun q=>al.foldlM (fA d) q else none:=by rw [O6,SW,hnode,Au]
 generalize hV:VXQ F9 j (d+1) (q+1) (.mk o n u ns ks al) σ=V
 have hno:∀z,vEx (d+1) (q+1) (.mk o n u ns ks al)=none→V (.d (.bool false)) (σ.AO j [.d (.int .i64 z)]):=fun z h=>by
  rw [← hV];exact ⟨false,z,rfl,rfl,by rw [h];rfl,fun r hr=>by rw [h] at hr;cases hr⟩
 have hyes:∀r,vEx (d+1) (q+1) (.mk o n u ns ks al)=some r→V (.d (.bool true)) (σ.AO j [.d (.int .i64 (F9 r))]):=fun z h=>by
  rw [← hV];exact ⟨true,_,rfl,rfl,by rw [h];rfl,fun r hr=>by rw [h] at hr;cases hr;rfl⟩
 clear hV
 refine Run.cell 3 4 rfl rfl (fun hb4=>?_)
 refine Run.cell 3 5 rfl rfl (fun hb5=>?_)
 simp only [AV.FY,AA] at hb4 hb5
 refine Run.BD ?_
 refine Run.BK ((fun (a1:AV) (a2:AV) (a3:AV)=>fun (y:Nat×Nat)=>put 1 a1 (put 2 a2 (put 3 a3 (put 13 (.d (.int .i64 y.1)) U)))) _ _ _) (fun _=>Az 3 [.d (.int .i64 o),.d (.str n),.d (.int .i64 u),.d (.sl (ns.map Aw)),.d (.sl (ks.map Ex.enc)),.d (.sl (al.map Al.enc))] E) (fun y=>σ.AO j [.d (.int .i64 (F9 y.2))])
  (fun y=>y.1≤ks.length∧y.2≤q∧(ks.take y.1).foldlM (fK d) q=some y.2) (fun y=>ks.length - y.1) ?_ (0,q) ⟨by simp,A0 _,rfl⟩
 rintro ⟨i,p⟩ ⟨hi,hp,hok⟩ ih
 simp only at hi hp hok
 by_cases hlt:i < ks.length
 · obtain ⟨x,hx⟩:=BC hlt
   have he:=BA (enc:=Ex.enc) hx
   have hw1:IntKind.i64.wrap ((i:Int)+1)=((i+1:Nat):Int):=by rw [BL (by omega) (by omega)];omega
   have hc:=ihd p (by omega) x (σ.AO j [.d (.int .i64 (F9 p))]) (by simp only [AM,if_true])
   cases hv:vEx d p x with
   |some r=>
    have hr:=O5 _ _ _ _ hv
    have hc:=VXQ.yes hc hv
    have hs:=I0 hok hx
    obtain ⟨xo,xn,xu,xs,xk,xa⟩:=x
    simp only [Ex.A4,exA,AG,AQ] at he hc
    (repeat' (first|refine Run.ct rfl ?_|((first|refine Run.reg mixed ?_|refine Run.AE ?_|(refine AI.mk rfl hc ?_;rintro _ _ ⟨rfl,rfl⟩))<;>try simp -implicitDefEqProofs only [Ac hlt,he,hw1,hws,AA,go_sem])|fail))
    exact ih (i+1,r) ⟨by simp only;omega,by simp only;omega,by simp only;rw [hs];exact hv⟩ (by simp only;omega)
   |none=>
    have hc:=VXQ.no hc hv
    have hs:=IZ hok hx hv
    obtain ⟨xo,xn,xu,xs,xk,xa⟩:=x
    simp only [Ex.A4,exA,AG,AQ] at he hc
    (repeat' (first|refine Run.ct rfl ?_|((first|refine Run.reg mixed ?_|refine Run.AE ?_|refine Run.Fp CY (AF.le_refl _) ?_|(refine AI.mk rfl hc ?_;rintro _ _ ⟨rfl,z,rfl⟩))<;>try simp -implicitDefEqProofs only [Ac hlt,he,hw1,hws,AA,go_sem])|fail))
    refine hno z ?_
    rw [hres,hs];split<;>rfl
 · rw [AK (by omega)] at hok
   rw [hok,Ga] at hres
   clear ih
   (repeat' (first|refine Run.ct rfl ?_|((first|refine Run.reg mixed ?_|refine Run.AE ?_)<;>try simp -implicitDefEqProofs only [Bi hlt,AA,go_sem])|fail))
   refine Run.BD ?_
   refine Run.BK ((fun (a1:AV) (a2:AV) (a3:AV)=>fun (y:Nat×Nat)=>put 1 a1 (put 2 a2 (put 3 a3 (put 14 (.d (.int .i64 y.1)) U)))) _ _ _) (fun _=>Az 3 [.d (.int .i64 o),.d (.str n),.d (.int .i64 u),.d (.sl (ns.map Aw)),.d (.sl (ks.map Ex.enc)),.d (.sl (al.map Al.enc))] E) (fun y=>σ.AO j [.d (.int .i64 (F9 y.2))])
    (fun y=>y.1≤al.length∧y.2≤q∧(al.take y.1).all Po=true∧(al.take y.1).foldlM (fA d) p=some y.2) (fun y=>al.length - y.1) ?_ (0,p) ⟨by simp,hp,by simp,rfl⟩
   rintro ⟨i,p⟩ ⟨hi,hp,hab,hok⟩ ih
   simp only at hi hp hab hok
   by_cases hlt:i < al.length
   · obtain ⟨x,hx⟩:=BC hlt
     have he:=BA (enc:=Al.enc) hx
     have hw1:IntKind.i64.wrap ((i:Int)+1)=((i+1:Nat):Int):=by rw [BL (by omega) (by omega)];omega
     cases halt:Po x with
     |false=>
      have hna:al.all Po=false:=T1 hx halt
      rw [hna] at hres
      have hnz:=hno (F9 p) (by rw [hres];rfl)
      obtain ⟨xc,xv,xo,xn,xu,xs,xk,xa⟩:=x
      simp only [Al.A4] at he
      cases hup:Ev xc with
      |false=>
       have h1:=Cv xc 2 (σ.AO j [.d (.int .i64 (F9 p))])
       rw [show HA 2 xc=Ev xc from rfl,hup] at h1
       (repeat' (first|refine Run.ct rfl ?_|((first|refine Run.reg mixed ?_|refine Run.AE ?_|refine Run.Fp CY (AF.le_refl _) ?_|refine AI.det (h1) ?_)<;>try simp -implicitDefEqProofs only [Ac hlt,he,hw1,hws,AA,go_sem])|fail))
       exact hnz
      |true=>
       have h1:=Cv xc 2 (σ.AO j [.d (.int .i64 (F9 p))])
       rw [show HA 2 xc=Ev xc from rfl,hup] at h1
       have h2:=HQ xv false (σ.AO j [.d (.int .i64 (F9 p))])
       have hb:KF xv false=false:=by
        rw [MX]
        simp only [Po,hup,Au] at halt
        exact halt
       rw [hb] at h2
       (repeat' (first|refine Run.ct rfl ?_|((first|refine Run.reg mixed ?_|refine Run.AE ?_|refine Run.Fp CY (AF.le_refl _) ?_|refine AI.det (h1) ?_|refine AI.det (h2) ?_)<;>try simp -implicitDefEqProofs only [Ac hlt,he,hw1,hws,AA,go_sem])|fail))
       exact hnz
     |true=>
      have hab2:=Ik hab hx halt
      obtain ⟨xc,xv,x⟩:=x
      have hup:Ev xc=true:=by simp only [Po,AP] at halt;exact halt.1.1
      have hbn:KF xv false=true:=by rw [MX];simp only [Po,AP] at halt ⊢;exact ⟨halt.1.2,halt.2⟩
      have h1:=Cv xc 2 (σ.AO j [.d (.int .i64 (F9 p))])
      rw [show HA 2 xc=Ev xc from rfl,hup] at h1
      have h2:=HQ xv false (σ.AO j [.d (.int .i64 (F9 p))])
      rw [hbn] at h2
      have hc:=ihd p (by omega) x (σ.AO j [.d (.int .i64 (F9 p))]) (by simp only [AM,if_true])
      cases hv:vEx d p x with
      |some r=>
       have hr:=O5 _ _ _ _ hv
       have hc:=VXQ.yes hc hv
       have hs:=I0 hok hx
       obtain ⟨xo,xn,xu,xs,xk,xa⟩:=x
       simp only [Al.A4,Ex.A4,exA,AG,AQ] at he hc
       (repeat' (first|refine Run.ct rfl ?_|((first|refine Run.reg mixed ?_|refine Run.AE ?_|(refine AI.mk rfl hc ?_;rintro _ _ ⟨rfl,rfl⟩)|refine AI.det (h1) ?_|refine AI.det (h2) ?_)<;>try simp -implicitDefEqProofs only [Ac hlt,he,hw1,hws,AA,go_sem])|fail))
       exact ih (i+1,r) ⟨by simp only;omega,by simp only;omega,hab2,by simp only;rw [hs];exact hv⟩ (by simp only;omega)
      |none=>
       have hc:=VXQ.no hc hv
       have hs:=IZ hok hx hv
       obtain ⟨xo,xn,xu,xs,xk,xa⟩:=x
       simp only [Al.A4,Ex.A4,exA,AG,AQ] at he hc
       (repeat' (first|refine Run.ct rfl ?_|((first|refine Run.reg mixed ?_|refine Run.AE ?_|refine Run.Fp CY (AF.le_refl _) ?_|(refine AI.mk rfl hc ?_;rintro _ _ ⟨rfl,z,rfl⟩)|refine AI.det (h1) ?_|refine AI.det (h2) ?_)<;>try simp -implicitDefEqProofs only [Ac hlt,he,hw1,hws,AA,go_sem])|fail))
       refine hno z ?_
       rw [hres,hs];split<;>rfl
   · rw [AK (by omega)] at hok hab
     (repeat' (first|refine Run.ct rfl ?_|((first|refine Run.reg mixed ?_|refine Run.AE ?_|refine Run.Fp CY (AF.le_refl _) ?_)<;>try simp -implicitDefEqProofs only [Bi hlt,AA,go_sem])|fail))
     exact hyes p (by rw [hres,hab,if_pos rfl,hok])
end Go.Ab
