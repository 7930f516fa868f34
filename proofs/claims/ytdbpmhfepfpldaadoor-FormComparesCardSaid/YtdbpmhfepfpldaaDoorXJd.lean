/- Mentions of the program; digits of the reference. The reference's digits: rows of them, limbs, cut, nat, natCmp. The reference's digits: nat, natCmp, natAdd. Conditions: none. -/
import Derived.Test.YtdbpmhfepfpldaaDoorXBs
set_option linter.unusedSimpArgs false
set_option linter.unusedVariables false
set_option maxRecDepth 4000
set_option maxHeartbeats 8000000
open List renaming length_map→AG,mem_of_getElem?→BA,take_of_length_le→Ag,getElem?_map→Ao,length_append→AI,map_append→HR,map_cons→C5,map_nil→Cr,append_nil→BS,replicate→AH,getElem?_append_right→AW,length_replicate→Ch,all_eq_true→A6,length_eq_zero_iff→DK,take_zero→DL
open Nat renaming lt_of_lt_of_le→Db,le_refl→AP,mod_lt→GQ,div_lt_self→HT,eq_zero_or_pos→BE,div_div_eq_div_mul→F7
open Int renaming natCast_add→Df
namespace Go.Ab
open Go.Proofs
def MW (l:Tms):Prop:=∀x∈l,-9223372036854775808≤x.2∧x.2≤9223372036854775807
theorem Hv (l:Ln) (v:Int) (σ:AF) (hl:l.ts.length≤1000) (hb:MW l.ts):AM Tryd.prog 39 [B6 l,.d (.int .i64 v)] σ (fun r σ'=>r= .d (.bool (BK v l.ts != 0))∧σ'=σ):=by
 refine Ig (by simp) ?_
 rw [CC]
 obtain ⟨c,ts⟩:=l
 simp only [B6] at hl hb ⊢
 (repeat' (first|refine Run.ct rfl ?_|((first|refine Run.reg mixed ?_|refine Run.AN ?_|(refine AO rfl (fun h=>?_) (fun h=>?_)<;>try (cases h;done)))<;>try simp -implicitDefEqProofs only [AG,go_sem])|(refine ⟨fun h=>?_,fun h=>?_⟩<;>first|(cases h;done)|try simp only [h])|fail))
 refine Run.DR ?_
 refine Run.DS ((fun (a1:AV) (a11:AV) (a12:AV)=>fun (y:Nat×Int×Int)=>put 1 a1 (put 5 (.d (.int .u64 y.2.1)) (put 6 (.d (.int .u64 y.2.2)) (put 11 a11 (put 12 a12 (put 13 (.d (.int .i64 (y.1:Nat))) U)))))) _ _ _) (fun _=>E) (fun _=>σ) (fun y=>y.1≤ts.length∧Ek (BK v (ts.take y.1)) y.2.1 y.2.2) (fun y=>ts.length - y.1) ?_ (0,0,0) ⟨by simp,by simpa [BK] using Ek.zero⟩
 rintro ⟨i,hi,lo⟩ ⟨hle,hs⟩ ih
 simp only at hle hs
 by_cases hlt:i < ts.length
 · obtain ⟨x,hx⟩:=Dt hlt
   have he:=Sz (enc:=tmR) hx
   simp only [tmR] at he
   have hw1:=Bc (show i+1≤9000000000000000000 by omega)
   have hxb:=hb x (BA hx)
   have htk:BK v (ts.take (i+1))=BK v (ts.take i)+(if x.1=v then x.2 else 0):=by
    rw [HO hx,Cu];simp [BK]
   by_cases hv:x.1=v
   · rw [if_pos hv] at htk
     have hst:=hs.step hxb.1 hxb.2
     have hcr:=Ek.carry ⟨hs.2.2.1,hs.2.2.2.1⟩ hxb.1 hxb.2
     rw [← htk] at hst
     have hc1:(0:Int)≤0∧(0:Int)≤1:=by omega
     have hbe:(x.1==v)=true:=by simpa using hv
     have h63:=VA hxb.1 hxb.2
     (repeat' (first|refine Run.ct rfl ?_|((first|refine Run.reg mixed ?_|refine Run.AN ?_|(refine AO rfl (fun h=>?_) (fun h=>?_)<;>try (cases h;done)))<;>try simp -implicitDefEqProofs only [CR hlt,he,hw1,hbe,hc1,hcr,h63,IntKind.bits,if_true,go_sem])|(refine ⟨fun h=>?_,fun h=>?_⟩<;>first|(cases h;done)|try simp only [h])|fail))
     exact ih (i+1,_,_) ⟨by simp only;omega,hst⟩ (by simp only;omega)
   · rw [if_neg hv,Int.add_zero] at htk
     rw [← htk] at hs
     have hbe:(x.1==v)=false:=by simpa using hv
     (repeat' (first|refine Run.ct rfl ?_|((first|refine Run.reg mixed ?_|refine Run.AN ?_|(refine AO rfl (fun h=>?_) (fun h=>?_)<;>try (cases h;done)))<;>try simp -implicitDefEqProofs only [CR hlt,he,hw1,hbe,go_sem])|(refine ⟨fun h=>?_,fun h=>?_⟩<;>first|(cases h;done)|try simp only [h])|fail))
     exact ih (i+1,hi,lo) ⟨by simp only;omega,hs⟩ (by simp only;omega)
 · rw [Ag (by omega)] at hs
   have hbd:=I7 v ts hb
   have hnz:=hs.nz ⟨by omega,by omega⟩
   by_cases h1:hi=0
   · by_cases h2:lo=0
     · have h0:=hnz.1 ⟨h1,h2⟩
       subst h1 h2
       rw [h0]
       have e3:((0:Int) != 0)=false:=rfl
       (repeat' (first|refine Run.ct rfl ?_|((first|refine Run.reg mixed ?_|refine Run.AN ?_|refine Run.Aj Cn (AF.le_refl _) ?_|(refine AO rfl (fun h=>?_) (fun h=>?_)<;>try (cases h;done)))<;>try simp -implicitDefEqProofs only [DU hlt,e3,go_sem])|(refine ⟨fun h=>?_,fun h=>?_⟩<;>first|(cases h;done)|try simp only [h])|fail))
     · have h0:BK v ts≠0:=fun h=>h2 (hnz.2 h).2
       subst h1
       have e1:(lo != 0)=true:=by simpa using h2
       have e2:(BK v ts != 0)=true:=by simpa using h0
       have e3:((0:Int) != 0)=false:=rfl
       rw [e2]
       (repeat' (first|refine Run.ct rfl ?_|((first|refine Run.reg mixed ?_|refine Run.AN ?_|refine Run.Aj Cn (AF.le_refl _) ?_|(refine AO rfl (fun h=>?_) (fun h=>?_)<;>try (cases h;done)))<;>try simp -implicitDefEqProofs only [DU hlt,e1,e3,go_sem])|(refine ⟨fun h=>?_,fun h=>?_⟩<;>first|(cases h;done)|try simp only [h])|fail))
   · have h0:BK v ts≠0:=fun h=>h1 (hnz.2 h).1
     have e1:(hi != 0)=true:=by simpa using h1
     have e2:(BK v ts != 0)=true:=by simpa using h0
     rw [e2]
     (repeat' (first|refine Run.ct rfl ?_|((first|refine Run.reg mixed ?_|refine Run.AN ?_|refine Run.Aj Cn (AF.le_refl _) ?_|(refine AO rfl (fun h=>?_) (fun h=>?_)<;>try (cases h;done)))<;>try simp -implicitDefEqProofs only [DU hlt,e1,go_sem])|(refine ⟨fun h=>?_,fun h=>?_⟩<;>first|(cases h;done)|try simp only [h])|fail))
end Go.Ab
namespace Go.Ab
open Go.Proofs
def uR (n:Nat):List DV:=[.int .u32 (n:Int)]
def uA (l:List Nat):AV:= .d (.sl (l.map uR))
theorem Ld {l:List Nat} {i n:Nat} (h:l[i]?=some n):(l.map uR)[i]?=some [.int .u32 (n:Int)]:=by rw [Ao,h];rfl
theorem VT (l:List Nat):∀r∈l.map uR,r.length=1:=fun r hr=>by
 obtain ⟨x,_,rfl⟩:=List.mem_map.1 hr
 rfl
theorem Ix {z:Int} (h: -9223372036854775808≤z) (h':z≤9223372036854775807):IntKind.i64.wrap z=z:=by
 rcases Int.le_total 0 z with h1|h1
 · exact Dl h1 h'
 · unfold IntKind.wrap
   simp only [IntKind.signed,IntKind.bits]
   rcases Int.lt_or_le z 0 with h2|h2
   · have e:z % (2 ^ 64:Int)=z+18446744073709551616:=by omega
     simp only [e]
     rw [if_pos (by simp;omega)]
     omega
   · have:z=0:=by omega
     subst this;rfl
theorem QD (n:Nat):(n:Int).tmod 1000000000=((n % bB:Nat):Int):=by rw [Int.tmod_eq_emod_of_nonneg (by omega)];simp only [bB];omega
theorem OP (n:Nat):(n:Int).tdiv 1000000000=((n / bB:Nat):Int):=by rw [Int.tdiv_eq_ediv_of_nonneg (by omega)];simp only [bB];omega
theorem Qe (n:Nat):decide ((0:Int) < (n:Int))=decide (0 < n):=decide_eq_decide.2 (by omega)
theorem Jm {n:Nat} (h:n < 18446744073709551616):(AR n).length≤3:=Gl (Db h (by decide))
theorem Jq (n:Nat) (hn:n < 18446744073709551616) (σ:AF):AM Tryd.prog 92 [.d (.int .u64 (n:Int))] σ (fun v σ'=>v=uA (AR n)∧σ'=σ):=by
 refine Ow (by simp) ?_
 rw [CQ]
 have h10:((1000000000:Int)=0)=False:=by simp
 have h3:=Jm hn
 (repeat' (first|refine Run.ct rfl ?_|((first|refine Run.reg mixed ?_|refine Run.AN ?_|(refine AO rfl (fun h=>?_) (fun h=>?_)<;>try (cases h;done)))<;>try simp -implicitDefEqProofs only [go_sem])|(refine ⟨fun h=>?_,fun h=>?_⟩<;>first|(cases h;done)|try simp only [h])|fail))
 refine Run.DR ?_
 refine Run.DS (fun (y:Nat×List Nat×AV×AF)=>put 0 (.d (.int .u64 (y.1:Nat))) (put 3 (y.2.2.1) U)) (fun _=>E) (fun y=>y.2.2.2) (fun y=>y.1≤n∧AR n=y.2.1++AR y.1∧Ft σ 117 1 (y.2.1.map uR) y.2.2.1 y.2.2.2) (fun y=>y.1) ?_ (n,[],.A7,σ) ⟨AP _,rfl,Ft.nil _ _ _⟩
 rintro ⟨m,D,v,τ⟩ ⟨hm,hd,ho⟩ ih
 simp only at hm hd ho
 have hdl:=congrArg List.length hd
 rw [AI] at hdl
 by_cases h0:0 < m
 · have e1:=FY (n:=m % bB) (by have:=GQ m (show 0 < bB by decide);simp only [bB] at *;omega)
   have e2:=Lb (n:=m / bB) (by have:=Nat.div_le_self m bB;omega)
   have hlt:=HT h0 (show 1 < bB by decide)
   rw [Ck h0] at hd
   (repeat' (first|refine Run.ct rfl ?_|((first|refine Run.reg mixed ?_|refine Run.AN ?_|(refine F9.own ho rfl (by simp) (by simp;omega) (by decide) (fun v3 σ3 ho3 hbk=>?_))|(refine AO rfl (fun h=>?_) (fun h=>?_)<;>try (cases h;done)))<;>try simp -implicitDefEqProofs only [Qe,decide_eq_true h0,QD,OP,e1,e2,h10,ho.cell,ho.cells,ho.BC,ho.BJ,go_sem])|(refine ⟨fun h=>?_,fun h=>?_⟩<;>first|(cases h;done)|try simp only [h])|fail))
   (repeat' (first|refine Run.ct rfl ?_|((first|refine Run.reg mixed ?_|refine Run.AN ?_|(refine AO rfl (fun h=>?_) (fun h=>?_)<;>try (cases h;done)))<;>try simp -implicitDefEqProofs only [Qe,OP,e2,h10,ho3.cell,ho3.cells,ho3.BC,ho3.BJ,go_sem])|(refine ⟨fun h=>?_,fun h=>?_⟩<;>first|(cases h;done)|try simp only [h])|fail))
   refine ih (m / bB,D++[m % bB],v3,σ3) ⟨by simp only;omega,by simp only;rw [hd];simp,?_⟩ (by simp only;omega)
   simp only [HR,C5,Cr,uR];exact ho3
 · obtain rfl:m=0:=by omega
   rw [CH,BS] at hd
   (repeat' (first|refine Run.ct rfl ?_|((first|refine Run.reg mixed ?_|refine Run.AN ?_|(refine Run.Aj Kw ho.le ?_)|(refine AO rfl (fun h=>?_) (fun h=>?_)<;>try (cases h;done)))<;>try simp -implicitDefEqProofs only [Qe,decide_eq_false h0,ho.BC,ho.BJ,ho.plain,go_sem])|(refine ⟨fun h=>?_,fun h=>?_⟩<;>first|(cases h;done)|try simp only [h])|fail))
   rw [hd];rfl
theorem T9 {l:List Nat} {k m:Nat} {c:List Nat} (hl:l=c++AH k 0) (hm:c.length < m) (h:m≤l.length):l[m - 1]?=some 0:=by
 subst hl
 rw [AW (by omega),List.getElem?_replicate]
 simp only [AI,Ch] at h
 rw [if_pos (by omega)]
theorem Ui {l:List Nat} {m:Nat} (h:m≤l.length):TF (l.map uR) none (some (.d (.int .i64 (m:Int)))) none 1=some (.d (.sl ((l.take m).map uR))):=by
 have hs:NS (l.map uR) 1=true:=by
  rw [NS,A6]
  intro r hr
  obtain ⟨x,_,rfl⟩:=List.mem_map.1 hr
  rfl
 simp only [TF,N3,LK]
 simp [hs,h,List.map_take]
theorem RR (l:List Nat) (hb:∀x∈l,x < bB) (hl:l.length≤1000) (σ:AF):AM Tryd.prog 114 [uA l] σ (fun v σ'=>v=uA (AR (CU l))∧σ'=σ):=by
 refine SL (by simp) ?_
 rw [CQ]
 obtain ⟨k,hk⟩:=Pn l hb
 have hlast:∀m,m=(AR (CU l)).length→0 < m→∃x,l[m - 1]?=some x∧x≠0:=fun m hm h0=>by
  have hp:0 < CU l:=by
   rcases BE (CU l) with h|h
   · rw [h,CH] at hm;simp at hm;omega
   · exact h
  obtain ⟨c,x,e,hx⟩:=PD hp
  refine ⟨x,?_,hx⟩
  rw [hk,hm,e]
  simp
 generalize AR (CU l)=c at hk hlast ⊢
 have hcl:c.length≤l.length:=by rw [hk];simp
 have htk:l.take c.length=c:=by rw [hk];simp
 (repeat' (first|refine Run.ct rfl ?_|((first|refine Run.reg mixed ?_|refine Run.AN ?_|(refine AO rfl (fun h=>?_) (fun h=>?_)<;>try (cases h;done)))<;>try simp -implicitDefEqProofs only [uA,AG,go_sem])|(refine ⟨fun h=>?_,fun h=>?_⟩<;>first|(cases h;done)|try simp only [h])|fail))
 refine Run.DR ?_
 refine Run.DS ((fun (a0:AV)=>fun (m:Nat)=>put 0 a0 (put 3 (.d (.int .i64 (m:Nat))) U)) _) (fun _=>E) (fun _=>σ) (fun m=>c.length≤m∧m≤l.length) (fun m=>m) ?_ l.length ⟨hcl,AP _⟩
 rintro m ⟨h1,h2⟩ ih
 by_cases h0:0 < m
 · have hw:IntKind.i64.wrap ((m:Int) - 1)=((m - 1:Nat):Int):=by rw [Ix (by omega) (by omega)];omega
   by_cases hmc:c.length < m
   · have he:=Ld (T9 hk hmc h2)
     have hz:(((0:Nat):Int)==0)=true:=rfl
     (repeat' (first|refine Run.ct rfl ?_|((first|refine Run.reg mixed ?_|refine Run.AN ?_|(refine AO rfl (fun h=>?_) (fun h=>?_)<;>try (cases h;done)))<;>try simp -implicitDefEqProofs only [uA,Qe,decide_eq_true h0,hw,he,hz,go_sem])|(refine ⟨fun h=>?_,fun h=>?_⟩<;>first|(cases h;done)|try simp only [h])|fail))
     exact ih (m - 1) ⟨by omega,by omega⟩ (by omega)
   · obtain ⟨x,hx,hx0⟩:=hlast m (by omega) h0
     have he:=Ld hx
     have hz:((x:Int)==0)=false:=Rn (by omega)
     obtain rfl:m=c.length:=by omega
     have hsl:=Ui h2
     rw [htk] at hsl
     (repeat' (first|refine Run.ct rfl ?_|((first|refine Run.reg mixed ?_|refine Run.AN ?_|(refine F9.own (Ft.nil σ _ _) rfl (VT _) (by simp;omega) (by decide) (fun v3 σ3 ho3 hbk=>?_))|(refine AO rfl (fun h=>?_) (fun h=>?_)<;>try (cases h;done)))<;>try simp -implicitDefEqProofs only [uA,Qe,decide_eq_true h0,hw,he,hz,hsl,go_sem])|(refine ⟨fun h=>?_,fun h=>?_⟩<;>first|(cases h;done)|try simp only [h])|fail))
     (repeat' (first|refine Run.ct rfl ?_|((first|refine Run.reg mixed ?_|refine Run.AN ?_|(refine Run.Aj Kv ho3.le ?_)|(refine AO rfl (fun h=>?_) (fun h=>?_)<;>try (cases h;done)))<;>try simp -implicitDefEqProofs only [ho3.cell,ho3.cells,ho3.BC,ho3.BJ,ho3.plain,go_sem])|(refine ⟨fun h=>?_,fun h=>?_⟩<;>first|(cases h;done)|try simp only [h])|fail))
 · obtain rfl:m=0:=by omega
   have hc0:c=[]:=DK.1 (by omega)
   subst hc0
   have hsl:=Ui h2
   rw [DL] at hsl
   (repeat' (first|refine Run.ct rfl ?_|((first|refine Run.reg mixed ?_|refine Run.AN ?_|(refine F9.own (Ft.nil σ _ _) rfl (by simp) (by simp) (by decide) (fun v3 σ3 ho3 hbk=>?_))|(refine AO rfl (fun h=>?_) (fun h=>?_)<;>try (cases h;done)))<;>try simp -implicitDefEqProofs only [uA,Qe,decide_eq_false h0,hsl,go_sem])|(refine ⟨fun h=>?_,fun h=>?_⟩<;>first|(cases h;done)|try simp only [h])|fail))
   (repeat' (first|refine Run.ct rfl ?_|((first|refine Run.reg mixed ?_|refine Run.AN ?_|(refine Run.Aj Kv ho3.le ?_)|(refine AO rfl (fun h=>?_) (fun h=>?_)<;>try (cases h;done)))<;>try simp -implicitDefEqProofs only [ho3.cell,ho3.cells,ho3.BC,ho3.BJ,ho3.plain,go_sem])|(refine ⟨fun h=>?_,fun h=>?_⟩<;>first|(cases h;done)|try simp only [h])|fail))
end Go.Ab
namespace Go.Ab
open Go.Proofs
set_option maxHeartbeats 4000000
theorem Ed {l:List Nat} {v:AV} {σ:AF} (hv:v.plain=uA l) (hb:∀x∈l,x < bB) (hl:l.length≤1000):AM Tryd.prog 114 [v] σ (fun u σ'=>u=uA (AR (CU l))∧σ'=σ):=
 AM.plain (by simp only [AV.DI,hv];exact RR l hb hl σ)
theorem M5 (x:Nat) (hx:(AR x).length≤1000) (σ:AF):AM Tryd.prog 111 [uA (AR x)] σ (fun v σ'=>v=uA (AR x)∧σ'=σ):=by
 refine SM (by simp) ?_
 rw [CQ]
 have hb:=LI x
 have hv:=J2 x
 generalize hl:AR x=l at *
 have h10:((1000000000:Int)=0)=False:=by simp
 have ew0:IntKind.u64.wrap 0=0:=by decide
 (repeat' (first|refine Run.ct rfl ?_|((first|refine Run.reg mixed ?_|refine Run.AN ?_|(refine AO rfl (fun h=>?_) (fun h=>?_)<;>try (cases h;done)))<;>try simp -implicitDefEqProofs only [uA,AG,go_sem])|(refine ⟨fun h=>?_,fun h=>?_⟩<;>first|(cases h;done)|try simp only [h])|fail))
 refine Run.DR ?_
 refine Run.DS ((fun (a0:AV) (a4:AV)=>fun (y:Nat×AV×AF)=>put 0 a0 (put 3 (y.2.1) (put 4 a4 (put 5 (.d (.int .i64 y.1)) U)))) _ _) (fun _=>E) (fun y=>y.2.2) (fun y=>y.1≤l.length∧Ft σ 117 1 ((l.take y.1).map uR) y.2.1 y.2.2) (fun y=>l.length - y.1) ?_ (0,.A7,σ) ⟨by simp,Ft.nil _ _ _⟩
 rintro ⟨i,v,τ⟩ ⟨hi,ho⟩ ih
 simp only at hi ho
 by_cases hlt:i < l.length
 · obtain ⟨d,hd⟩:=Dt hlt
   have he:=Ld hd
   have hdb:=hb d (BA hd)
   simp only [bB] at hdb
   have hw1:=Bc (show i+1≤9000000000000000000 by omega)
   have e1:=Lb (n:=d) (by omega)
   have e2:IntKind.u64.wrap (0+(d:Int))=(d:Int):=by rw [Int.zero_add,e1]
   have e3:=FY (n:=d) (by omega)
   have em:(d:Int).tmod 1000000000=(d:Int):=by rw [QD];simp only [bB];omega
   have ed:(d:Int).tdiv 1000000000=0:=by rw [OP];simp only [bB];omega
   (repeat' (first|refine Run.ct rfl ?_|((first|refine Run.reg mixed ?_|refine Run.AN ?_|(refine F9.own ho rfl (by simp) (by simp;omega) (by decide) (fun v3 σ3 ho3 hbk=>?_))|(refine AO rfl (fun h=>?_) (fun h=>?_)<;>try (cases h;done)))<;>try simp -implicitDefEqProofs only [CR hlt,he,hw1,e1,e2,e3,em,ed,ew0,h10,AG,ho.cell,ho.cells,ho.BC,ho.BJ,go_sem])|(refine ⟨fun h=>?_,fun h=>?_⟩<;>first|(cases h;done)|try simp only [h])|fail))
   (repeat' (first|refine Run.ct rfl ?_|((first|refine Run.reg mixed ?_|refine Run.AN ?_|(refine AO rfl (fun h=>?_) (fun h=>?_)<;>try (cases h;done)))<;>try simp -implicitDefEqProofs only [hw1,ed,ew0,h10,ho3.cell,ho3.cells,ho3.BC,ho3.BJ,go_sem])|(refine ⟨fun h=>?_,fun h=>?_⟩<;>first|(cases h;done)|try simp only [h])|fail))
   refine ih (i+1,v3,σ3) ⟨by simp only;omega,?_⟩ (by simp only;omega)
   simp only;rw [HO hd,HR];exact ho3
 · rw [Ag (by omega)] at ho
   have hc:=Ed (σ:=τ) ho.plain hb hx
   rw [hv,hl] at hc
   have e0:decide ((0:Int) < 0)=false:=by decide
   (repeat' (first|refine Run.ct rfl ?_|((first|refine Run.reg mixed ?_|refine Run.AN ?_|(refine AK.det hc ?_ (by simp [ho.BC]))|(refine Run.Aj Nh ho.le ?_)|(refine AO rfl (fun h=>?_) (fun h=>?_)<;>try (cases h;done)))<;>try simp -implicitDefEqProofs only [DU hlt,AG,e0,ho.cell,ho.cells,ho.BC,ho.BJ,go_sem])|(refine ⟨fun h=>?_,fun h=>?_⟩<;>first|(cases h;done)|try simp only [h])|fail))
   simp [AV.BC,AV.plain,T0,uA]
theorem Iq (x y:Nat) (hx:(AR x).length≤1000) (hy:(AR y).length≤1000) (σ:AF):AM Tryd.prog 96 [uA (AR x),uA (AR y)] σ (fun v σ'=>v= .d (.int .i64 (B1 (x:Int) (y:Int)))∧σ'=σ):=by
 refine Nl (by simp) ?_
 rw [CC]
 rcases Nat.lt_trichotomy (AR x).length (AR y).length with h|h|h
 · have h1:=MY h
   have e:B1 (x:Int) (y:Int)=-1:=by unfold B1;rw [if_pos (by omega)]
   have e1:((((AR x).length:Nat):Int) != (((AR y).length:Nat):Int))=true:=by simp;omega
   rw [e]
   (repeat' (first|refine Run.ct rfl ?_|((first|refine Run.reg mixed ?_|refine Run.AN ?_|refine Run.Aj D8 (AF.le_refl _) ?_|(refine AO rfl (fun h=>?_) (fun h=>?_)<;>try (cases h;done)))<;>try simp -implicitDefEqProofs only [uA,AG,e1,CR h,go_sem])|(refine ⟨fun h=>?_,fun h=>?_⟩<;>first|(cases h;done)|try simp only [h])|fail))
 · have hg:=fun i=>Eh (x:=x) (i:=i)
   have hg2:=fun i=>Eh (x:=y) (i:=i)
   have ht:=JR x
   have ht2:=JR y
   generalize AR x=a at *
   generalize AR y=b at *
   have e1:(((a.length:Nat):Int) != ((b.length:Nat):Int))=false:=by simp [h]
   have hw0:IntKind.i64.wrap (((a.length:Nat):Int) - 1)=((a.length:Nat):Int) - 1:=Ix (by omega) (by omega)
   (repeat' (first|refine Run.ct rfl ?_|((first|refine Run.reg mixed ?_|refine Run.AN ?_|(refine AO rfl (fun h=>?_) (fun h=>?_)<;>try (cases h;done)))<;>try simp -implicitDefEqProofs only [uA,AG,e1,hw0,go_sem])|(refine ⟨fun h=>?_,fun h=>?_⟩<;>first|(cases h;done)|try simp only [h])|fail))
   refine Run.DR ?_
   refine Run.DS ((fun (a0:AV) (a1:AV)=>fun (m:Nat)=>put 0 a0 (put 1 a1 (put 5 (.d (.int .i64 (((m:Nat):Int) - 1))) U))) _ _) (fun _=>E) (fun _=>σ) (fun m=>m≤a.length∧x / bB ^ m=y / bB ^ m) (fun m=>m) ?_ a.length ⟨AP _,by rw [ht,h,ht2]⟩
   rintro m ⟨h1,h2⟩ ih
   by_cases h0:0 < m
   · obtain ⟨m,rfl⟩:∃q,m=q+1:=⟨m - 1,by omega⟩
     have hd1:=HE x m
     rw [h2] at hd1
     have hd2:=HE y m
     have hm1:(((m+1:Nat):Int) - 1)=(m:Int):=by omega
     have he1:=Ld (hg m (by omega))
     have he2:=Ld (hg2 m (by omega))
     have hw1:IntKind.i64.wrap ((m:Int) - 1)=(m:Int) - 1:=Ix (by omega) (by omega)
     rcases Nat.lt_trichotomy (x / bB ^ m % bB) (y / bB ^ m % bB) with hc|hc|hc
     · have hxy:x < y:=JJ (i:=m) (by omega)
       have e:B1 (x:Int) (y:Int)=-1:=by unfold B1;rw [if_pos (by omega)]
       rw [e];simp only [hm1]
       have hge':decide ((0:Int)≤(m:Int))=true:=by simp
       (repeat' (first|refine Run.ct rfl ?_|((first|refine Run.reg mixed ?_|refine Run.AN ?_|refine Run.Aj D8 (AF.le_refl _) ?_|(refine AO rfl (fun h=>?_) (fun h=>?_)<;>try (cases h;done)))<;>try simp -implicitDefEqProofs only [hge',he1,he2,CR hc,go_sem])|(refine ⟨fun h=>?_,fun h=>?_⟩<;>first|(cases h;done)|try simp only [h])|fail))
     · have hl1:¬(x / bB ^ m % bB < y / bB ^ m % bB):=by omega
       have hl2:¬(y / bB ^ m % bB < x / bB ^ m % bB):=by omega
       simp only [hm1]
       have hge':decide ((0:Int)≤(m:Int))=true:=by simp
       (repeat' (first|refine Run.ct rfl ?_|((first|refine Run.reg mixed ?_|refine Run.AN ?_|(refine AO rfl (fun h=>?_) (fun h=>?_)<;>try (cases h;done)))<;>try simp -implicitDefEqProofs only [hge',he1,he2,DU hl1,DU hl2,hw1,go_sem])|(refine ⟨fun h=>?_,fun h=>?_⟩<;>first|(cases h;done)|try simp only [h])|fail))
       exact ih m ⟨by omega,by omega⟩ (by omega)
     · have hl1:¬(x / bB ^ m % bB < y / bB ^ m % bB):=by omega
       have hxy:y < x:=JJ (i:=m) (by omega)
       have e:B1 (x:Int) (y:Int)=1:=by unfold B1;rw [if_neg (by omega),if_pos (by omega)]
       rw [e];simp only [hm1]
       have hge':decide ((0:Int)≤(m:Int))=true:=by simp
       (repeat' (first|refine Run.ct rfl ?_|((first|refine Run.reg mixed ?_|refine Run.AN ?_|refine Run.Aj D8 (AF.le_refl _) ?_|(refine AO rfl (fun h=>?_) (fun h=>?_)<;>try (cases h;done)))<;>try simp -implicitDefEqProofs only [hge',he1,he2,DU hl1,CR hc,go_sem])|(refine ⟨fun h=>?_,fun h=>?_⟩<;>first|(cases h;done)|try simp only [h])|fail))
   · obtain rfl:m=0:=by omega
     rw [Nat.pow_zero,Nat.div_one,Nat.div_one] at h2
     have e:B1 (x:Int) (y:Int)=0:=by unfold B1;rw [if_neg (by omega),if_neg (by omega)]
     have hge:decide ((0:Int)≤((0:Nat):Int) - 1)=false:=by decide
     rw [e]
     (repeat' (first|refine Run.ct rfl ?_|((first|refine Run.reg mixed ?_|refine Run.AN ?_|refine Run.Aj D8 (AF.le_refl _) ?_|(refine AO rfl (fun h=>?_) (fun h=>?_)<;>try (cases h;done)))<;>try simp -implicitDefEqProofs only [hge,go_sem])|(refine ⟨fun h=>?_,fun h=>?_⟩<;>first|(cases h;done)|try simp only [h])|fail))
 · have h1:=MY h
   have e:B1 (x:Int) (y:Int)=1:=by unfold B1;rw [if_neg (by omega),if_pos (by omega)]
   have e1:((((AR x).length:Nat):Int) != (((AR y).length:Nat):Int))=true:=by simp;omega
   have hl1:¬((AR x).length < (AR y).length):=by omega
   rw [e]
   (repeat' (first|refine Run.ct rfl ?_|((first|refine Run.reg mixed ?_|refine Run.AN ?_|refine Run.Aj D8 (AF.le_refl _) ?_|(refine AO rfl (fun h=>?_) (fun h=>?_)<;>try (cases h;done)))<;>try simp -implicitDefEqProofs only [uA,AG,e1,DU hl1,go_sem])|(refine ⟨fun h=>?_,fun h=>?_⟩<;>first|(cases h;done)|try simp only [h])|fail))
theorem NH (x y:Nat) (hx:(AR x).length≤1000) (hy:(AR y).length≤1000) (hxy:(AR (x+y)).length≤1000) (σ:AF):AM Tryd.prog 95 [uA (AR x),uA (AR y)] σ (fun v σ'=>v=uA (AR (x+y))∧σ'=σ):=by
 refine Nk (by simp) ?_
 rw [CC]
 have hg:=fun i=>Eh (x:=x) (i:=i)
 have hg2:=fun i=>Eh (x:=y) (i:=i)
 have hl:=fun i=>Cb (n:=x) (i:=i)
 have hl2:=fun i=>Cb (n:=y) (i:=i)
 generalize AR x=a at *
 generalize AR y=b at *
 have h10:((1000000000:Int)=0)=False:=by simp
 (repeat' (first|refine Run.ct rfl ?_|((first|refine Run.reg mixed ?_|refine Run.AN ?_|(refine AO rfl (fun h=>?_) (fun h=>?_)<;>try (cases h;done)))<;>try simp -implicitDefEqProofs only [uA,go_sem])|(refine ⟨fun h=>?_,fun h=>?_⟩<;>first|(cases h;done)|try simp only [h])|fail))
 refine Run.DR ?_
 refine Run.DS ((fun (a0:AV) (a1:AV)=>fun (y:Nat×List Nat×Nat×AV×AF)=>put 0 a0 (put 1 a1 (put 5 (y.2.2.2.1) (put 6 (.d (.int .u32 (y.2.2.1:Nat))) (put 7 (.d (.int .i64 (y.1:Nat))) U))))) _ _) (fun _=>E) (fun y=>y.2.2.2.2) (fun z=>z.2.1.length=z.1∧z.2.2.1≤1∧AR (x+y)=z.2.1++AR (x / bB ^ z.1+y / bB ^ z.1+z.2.2.1)∧Ft σ 117 1 (z.2.1.map uR) z.2.2.2.1 z.2.2.2.2) (fun z=>1001 - z.1) ?_ (0,[],0,.A7,σ) ⟨rfl,by simp,by simp,Ft.nil _ _ _⟩
 rintro ⟨i,D,c,v,τ⟩ ⟨hdl,hc,he,ho⟩ ih
 simp only at hdl hc he ho
 have hel:=congrArg List.length he
 rw [AI] at hel
 have hw1:=Bc (show i+1≤9000000000000000000 by omega)
 have ha:=hl i
 have hb:=hl2 i
 have hga:=fun h=>Ld (hg i h)
 have hgb:=fun h=>Ld (hg2 i h)
 have hp1:x / bB ^ (i+1)=x / bB ^ i / bB:=by rw [Nat.pow_succ,F7]
 have hq1:y / bB ^ (i+1)=y / bB ^ i / bB:=by rw [Nat.pow_succ,F7]
 have hih:=fun D2 c2 v2 τ2 (h1:D2.length=i+1) (h2:c2≤1) (h3:AR (x+y)=D2++AR (x / bB ^ i / bB+y / bB ^ i / bB+c2)) (h4:Ft σ 117 1 (D2.map uR) v2 τ2)=>ih (i+1,D2,c2,v2,τ2) ⟨h1,h2,by simp only;rw [hp1,hq1];exact h3,h4⟩ (by simp only;omega)
 simp only at hih
 clear ih hp1 hq1
 generalize x / bB ^ i=p at *
 generalize y / bB ^ i=q at *
 have hpm:=GQ p (show 0 < bB by decide)
 have hqm:=GQ q (show 0 < bB by decide)
 by_cases hz:0 < p+q+c
 · rw [Rl hz] at he
   obtain ⟨s,hs⟩:∃s,s=c+p % bB+q % bB:=⟨_,rfl⟩
   rw [← hs] at he
   have hsm:s < 2000000000:=by simp only [bB] at *;omega
   have es:=FY (n:=s / bB) (by have:=Nat.div_le_self s bB;omega)
   have em:=FY (n:=s % bB) (by have:=Nat.mod_le s bB;omega)
   have hc2:s / bB≤1:=by simp only [bB] at *;omega
   have etm:=QD s
   have etd:=OP s
   have hgo:∀v3 σ3,Ft σ 117 1 (D.map uR++[[.int .u32 ((s % bB:Nat):Int)]]) v3 σ3→_:=fun v3 σ3 ho3=>hih (D++[s % bB]) (s / bB) v3 σ3 (by simp [hdl]) hc2 (by rw [he];simp) (by rw [HR];exact ho3)
   clear hih
   by_cases hp:0 < p
   · have la:=CR (ha.2 hp)
     have hga:=hga (ha.2 hp)
     by_cases hq:0 < q
     · have lb:=CR (hb.2 hq)
       have hgb:=hgb (hb.2 hq)
       have e1:IntKind.u32.wrap ((c:Int)+((p % bB:Nat):Int))=((c+p % bB:Nat):Int):=by rw [← Df,FY (by omega)]
       have e2:IntKind.u32.wrap (((c+p % bB:Nat):Int)+((q % bB:Nat):Int))=(s:Int):=by rw [← Df,← hs,FY (by omega)]
       (repeat' (first|refine Run.ct rfl ?_|((first|refine Run.reg mixed ?_|refine Run.AN ?_|(refine F9.own ho rfl (by simp) (by simp;omega) (by decide) (fun v3 σ3 ho3 hbk=>?_))|(refine AO rfl (fun h=>?_) (fun h=>?_)<;>try (cases h;done)))<;>try simp -implicitDefEqProofs only [AG,la,lb,hga,hgb,e1,e2,es,em,etm,etd,h10,hw1,ho.cell,ho.cells,ho.BC,ho.BJ,go_sem])|(refine ⟨fun h=>?_,fun h=>?_⟩<;>first|(cases h;done)|try simp only [h])|fail))
       exact hgo v3 σ3 ho3
     · have lb:=DU (show ¬i < b.length by rw [hb];exact hq)
       have hq0:q % bB=0:=by rw [show q=0 by omega,Nat.zero_mod]
       have e1:IntKind.u32.wrap ((c:Int)+((p % bB:Nat):Int))=(s:Int):=by rw [← Df,show c+p % bB=s by omega,FY (by omega)]
       (repeat' (first|refine Run.ct rfl ?_|((first|refine Run.reg mixed ?_|refine Run.AN ?_|(refine F9.own ho rfl (by simp) (by simp;omega) (by decide) (fun v3 σ3 ho3 hbk=>?_))|(refine AO rfl (fun h=>?_) (fun h=>?_)<;>try (cases h;done)))<;>try simp -implicitDefEqProofs only [AG,la,lb,hga,e1,es,em,etm,etd,h10,hw1,ho.cell,ho.cells,ho.BC,ho.BJ,go_sem])|(refine ⟨fun h=>?_,fun h=>?_⟩<;>first|(cases h;done)|try simp only [h])|fail))
       exact hgo v3 σ3 ho3
   · have la:=DU (show ¬i < a.length by rw [ha];exact hp)
     have hp0:p % bB=0:=by rw [show p=0 by omega,Nat.zero_mod]
     by_cases hq:0 < q
     · have lb:=CR (hb.2 hq)
       have hgb:=hgb (hb.2 hq)
       have e1:IntKind.u32.wrap ((c:Int)+((q % bB:Nat):Int))=(s:Int):=by rw [← Df,show c+q % bB=s by omega,FY (by omega)]
       (repeat' (first|refine Run.ct rfl ?_|((first|refine Run.reg mixed ?_|refine Run.AN ?_|(refine F9.own ho rfl (by simp) (by simp;omega) (by decide) (fun v3 σ3 ho3 hbk=>?_))|(refine AO rfl (fun h=>?_) (fun h=>?_)<;>try (cases h;done)))<;>try simp -implicitDefEqProofs only [AG,la,lb,hgb,e1,es,em,etm,etd,h10,hw1,ho.cell,ho.cells,ho.BC,ho.BJ,go_sem])|(refine ⟨fun h=>?_,fun h=>?_⟩<;>first|(cases h;done)|try simp only [h])|fail))
       exact hgo v3 σ3 ho3
     · have lb:=DU (show ¬i < b.length by rw [hb];exact hq)
       have hq0:q % bB=0:=by rw [show q=0 by omega,Nat.zero_mod]
       obtain rfl:c=s:=by omega
       have lc:decide ((0:Int) < ((c:Nat):Int))=true:=by simp;omega
       (repeat' (first|refine Run.ct rfl ?_|((first|refine Run.reg mixed ?_|refine Run.AN ?_|(refine F9.own ho rfl (by simp) (by simp;omega) (by decide) (fun v3 σ3 ho3 hbk=>?_))|(refine AO rfl (fun h=>?_) (fun h=>?_)<;>try (cases h;done)))<;>try simp -implicitDefEqProofs only [AG,la,lb,lc,es,em,etm,etd,h10,hw1,ho.cell,ho.cells,ho.BC,ho.BJ,go_sem])|(refine ⟨fun h=>?_,fun h=>?_⟩<;>first|(cases h;done)|try simp only [h])|fail))
       exact hgo v3 σ3 ho3
 · have h0:p=0∧q=0∧c=0:=by omega
   obtain ⟨rfl,rfl,rfl⟩:=h0
   have la:=DU (show ¬i < a.length by rw [ha];omega)
   have lb:=DU (show ¬i < b.length by rw [hb];omega)
   have lc:decide ((0:Int) < ((0:Nat):Int))=false:=by decide
   rw [show (0:Nat)+0+0=0 from rfl,CH,BS] at he
   rw [he]
   (repeat' (first|refine Run.ct rfl ?_|((first|refine Run.reg mixed ?_|refine Run.AN ?_|(refine Run.Aj Jf ho.le ?_)|(refine AO rfl (fun h=>?_) (fun h=>?_)<;>try (cases h;done)))<;>try simp -implicitDefEqProofs only [uA,AG,la,lb,lc,ho.BC,ho.BJ,ho.plain,go_sem])|(refine ⟨fun h=>?_,fun h=>?_⟩<;>first|(cases h;done)|try simp only [h])|fail))
end Go.Ab
