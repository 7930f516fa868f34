/- The reference's digits: mutable rows; taking away. The reference's digits: products with one. The reference's whole numbers: FromInt, Canonical, Add, Sign. Conditions: none. -/
import Derived.Test.YtdbpmhfepfpldaaDoorXJd
set_option linter.unusedSimpArgs false
set_option linter.unusedVariables false
set_option maxRecDepth 4000
set_option maxHeartbeats 8000000
open List renaming replicate→AH,replicate_succ→CW,flatten_cons→CT,map_cons→C5,length_cons→Ap,take_succ_cons→H4,take_zero→DL,drop_succ_cons→H0,append_assoc→Az,getElem?_append_right→AW,length_map→AG,length_append→AI,length_replicate→Ch,mem_append→Ac,mem_singleton→BR,append_nil→BS,mem_of_getElem?→BA,take_of_length_le→Ag,getElem?_eq_some_iff→AL,nil_append→B8,map_nil→Cr,length_eq_zero_iff→DK,length_nil→B7,mem_of_mem_take→Ad,length_take→Aq
open Option renaming bind_eq_bind→AE,bind_some→BU
open Nat renaming le_trans→Aa,sub_self→F8,le_refl→AP,mod_lt→GQ,mul_one→GX,add_zero→CA,eq_zero_or_pos→BE,lt_of_lt_of_le→Db
open Int renaming natCast_add→Df
open Bool renaming true_and→GV,eq_iff_iff→FC
namespace Go.Ab
open Go.Proofs
set_option maxHeartbeats 4000000
abbrev tkU:Nat:=117
def uC (l:List Nat):List AV:=l.map fun n:Nat=>.d (.int .u32 (n:Int))
theorem TQ (l:List Nat):(uC l).length=l.length:=by simp [uC]
theorem WA {l:List Nat} {k x:Nat} (h:l[k]?=some x):(uC l)[k]?=some (.d (.int .u32 (x:Int))):=by simp [uC,h]
theorem TR {l:List Nat} {k:Nat} (h:k < l.length):(k+1≤(uC l).length)=True:=by rw [TQ];simp;omega
theorem wr1 {α:Type} {l:List α} {i:Nat} (x:α) (h:i < l.length):List.take i l++[x]++List.drop (i+1) l=l.set i x:=by
 rw [List.set_eq_take_append_cons_drop,if_pos h];simp
theorem TS {l:List Nat} {k:Nat} (x:Nat) (h:k < l.length):List.take k (uC l)++[AV.d (.int .u32 (x:Int))]++List.drop (k+1) (uC l)=uC (l.set k x):=by
 rw [wr1 _ (by rw [TQ];exact h)]
 simp [uC,List.map_set]
theorem NU:∀n:Nat,(AH n [AV.d (.int .u32 0)]).flatten=uC (AH n 0)
 |0=>rfl
 |n+1=>by rw [CW,CT,NU n];rfl
theorem ilU {i n:Nat} (h:i < n):((i:Int) < (n:Int))=True:=by simp only [eq_iff_iff,iff_true];omega
theorem Ue:∀l:List Nat,dvs (uC l)=some (l.map fun n:Nat=>DV.int .u32 (n:Int))
 |[]=>rfl
 |x::l=>by
  have:=Ue l
  simp only [uC,C5,dvs,AV.dv,AE,BU] at this ⊢
  rw [this];rfl
theorem Pj:∀l:List Nat,chunk 1 l.length (l.map fun n:Nat=>DV.int .u32 (n:Int))=l.map uR
 |[]=>rfl
 |x::l=>by
  have:=Pj l
  simp only [Ap,chunk,C5,uR,H4,DL,H0,List.drop_zero] at this ⊢
  rw [this]
theorem Run.urz {cx:Cx} {KK:AV→AF→Prop} {k:List CI} {F F':Fm} {L:Lm} {σ:AF} {j:Nat} {l:List Nat} (hj:σ.blk j=none) (hl:l.length≤1000000) (hF:∀s,F' s=F s∨(F s= .ms j l.length 1 tkU∧F' s=uA l)) (hr:Run cx KK k F' L σ):Run cx KK k F L (σ.AX j (uC l)):=by
 refine Run.freeze (i:=j) (n:=l.length) (size:=1) (cs:=uC l) (ds:=l.map fun n:Nat=>DV.int .u32 (n:Int)) (σ':=σ) (L':=L) (F':=F') (by simp only [Af,if_true]) (Ue l) (by simp [uC]) (Aa hl (show (1000000:Nat)≤maxLen by decide+kernel)) (fun t=>?_) (fun k cs hk=>⟨cs,hk,.inl rfl⟩) (fun r cs' hr=>?_) (fun t h=>h) hr
 · rcases hF t with e|⟨e1,e2⟩
   · exact .inl e
   · right
     rw [e1,e2,Pj]
     simp [frz,uA]
 · have hne:r≠j:=fun e=>by rw [e,hj] at hr;cases hr
   exact ⟨hne,cs',by simp [Af,hne,hr],.inl rfl⟩
theorem OK {D:List Nat} {i n d:Nat} (hl:D.length=i) (hi:i < n):(D++AH (n - i) 0).set i d=(D++[d])++AH (n - (i+1)) 0:=by
 subst hl
 obtain ⟨m,hm⟩:∃m,n - D.length=m+1:=⟨n - D.length - 1,by omega⟩
 rw [hm,show n - (D.length+1)=m by omega,CW,List.set_append,if_neg (Nat.lt_irrefl _),F8,List.set_cons_zero,Az]
 rfl
theorem T4 {D:List Nat} {i n:Nat} (hl:D.length=i) (hi:i < n):(D++AH (n - i) 0)[i]?=some 0:=by
 subst hl
 rw [AW (AP _),F8,List.getElem?_replicate,if_pos (by omega)]
theorem UL {x y:Nat} (hxy:y≤x) {D:List Nat} {n bw:Nat} (hn:D.length=n) (hx:x / bB ^ n=0) (hb:∀d∈D,d < bB) (hv:(CU D:Int)+(bB ^ n:Nat) * ((x / bB ^ n:Nat) - (y / bB ^ n:Nat) - (bw:Int))=(x:Int) - y) (hbw:bw≤1):CU D=x - y:=by
 have h1:=QE D hb
 have h2:y / bB ^ n=0:=Nat.le_zero.1 (hx ▸ Nat.div_le_div_right (c:=bB ^ n) hxy)
 rw [hx,h2] at hv
 rw [hn] at h1
 generalize bB ^ n=Z at *
 rcases Nat.le_one_iff_eq_zero_or_eq_one.1 hbw with rfl|rfl
 · have e:(((0:Nat):Int) - ((0:Nat):Int) - ((0:Nat):Int))=0:=by omega
   rw [e,Int.mul_zero] at hv
   omega
 · exfalso
   have e:(((0:Nat):Int) - ((0:Nat):Int) - ((1:Nat):Int))=-1:=by omega
   rw [e,Int.mul_neg,Int.mul_one] at hv
   omega
theorem Ir (x y:Nat) (hxy:y≤x) (hx:(AR x).length≤1000) (hy:(AR y).length≤1000) (σ:AF):AM Tryd.prog 97 [uA (AR x),uA (AR y)] σ (fun v σ'=>v=uA (AR (x - y))∧σ'=σ):=by
 refine Nq (by simp) ?_
 rw [CC]
 have hg:=fun i=>Eh (x:=x) (i:=i)
 have hg2:=fun i=>Eh (x:=y) (i:=i)
 have hl2:=fun i=>Cb (n:=y) (i:=i)
 have htop:=JR x
 generalize AR x=a at *
 generalize AR y=b at *
 (repeat' (first|refine Run.ct rfl ?_|((first|refine Run.reg mixed ?_|refine Run.AN ?_|(refine NW.mk (n:=a.length) (by omega) (by omega) (fun j hj=>?_))|(rw [NU])|(refine AO rfl (fun h=>?_) (fun h=>?_)<;>try (cases h;done)))<;>try simp -implicitDefEqProofs only [uA,AG,go_sem])|(refine ⟨fun h=>?_,fun h=>?_⟩<;>first|(cases h;done)|try simp only [h])|fail))
 refine Run.DR ?_
 refine Run.DS ((fun (a0:AV) (a1:AV) (a5:AV)=>fun (z:Nat×List Nat×Nat)=>put 0 a0 (put 1 a1 (put 5 a5 (put 6 (.d (.int .u32 (z.2.2:Nat))) (put 7 (.d (.int .i64 (z.1:Nat))) U))))) _ _ _) (fun _=>E) (fun z=>σ.AX j (uC (z.2.1++AH (a.length - z.1) 0))) (fun z=>z.1≤a.length∧z.2.1.length=z.1∧z.2.2≤1∧(∀d∈z.2.1,d < bB)∧(CU z.2.1:Int)+(bB ^ z.1:Nat) * ((x / bB ^ z.1:Nat) - (y / bB ^ z.1:Nat) - (z.2.2:Int))=(x:Int) - y) (fun z=>a.length - z.1) ?_ (0,[],0) ⟨by simp,rfl,by simp,by simp,by simp [CU]⟩
 rintro ⟨i,D,c⟩ ⟨hi,hdl,hc,hdb,hv⟩ ih
 simp only at hi hdl hc hdb hv
 by_cases hlt:i < a.length
 · have hw1:=Bc (show i+1≤9000000000000000000 by omega)
   have hst:=TM (x:=x) (y:=y) hdl hv
   have hga:=Ld (hg i hlt)
   have hxd:=GQ (x / bB ^ i) (show 0 < bB by decide)
   have hyd:=GQ (y / bB ^ i) (show 0 < bB by decide)
   have hb:=hl2 i
   have hgb:=fun h=>Ld (hg2 i h)
   have hlb:i < (D++AH (a.length - i) 0).length:=by rw [AI,hdl,Ch];omega
   have hln:(D++AH (a.length - i) 0).length=a.length:=by rw [AI,hdl,Ch];omega
   have hcl:=TR hlb
   have hwr:=fun d=>TS d hlb
   have hil:=ilU hlt
   have hih:=fun (d b2:Nat) (h1:d < bB) (h2:b2≤1) (h3:(d:Int)=((x / bB ^ i % bB:Nat):Int) - ((y / bB ^ i % bB:Nat)+c)+b2 * (bB:Int))=>ih (i+1,D++[d],b2) ⟨by simp only;omega,by simp [hdl],h2,fun e he=>by rcases Ac.1 he with he|he;exact hdb e he;rw [BR.1 he];exact h1,hst d b2 h3⟩ (by simp only;omega)
   simp only [← OK hdl hlt] at hih
   clear ih hst hv hg hg2 hl2 hdb htop
   have hqz:¬0 < y / bB ^ i→y / bB ^ i % bB=0:=fun h=>by rw [Nat.eq_zero_of_not_pos h,Nat.zero_mod]
   generalize x / bB ^ i % bB=xd at *
   generalize y / bB ^ i % bB=yd at *
   generalize D++AH (a.length - i) 0=M at *
   simp only [bB] at hxd hyd hih
   have e0:IntKind.u32.wrap ((c:Int)+((yd:Nat):Int))=((c+yd:Nat):Int):=by rw [← Df,FY (by omega)]
   have hgo:∀s:Nat,s=c+yd→s≤xd→IntKind.u32.wrap ((xd:Int) - (s:Int))=((xd - s:Nat):Int):=fun s _ hs=>by rw [show (xd:Int) - (s:Int)=((xd - s:Nat):Int) by omega,FY (by omega)]
   have e3:IntKind.u32.wrap ((xd:Int)+1000000000)=((xd+1000000000:Nat):Int):=by rw [show (xd:Int)+1000000000=((xd+1000000000:Nat):Int) by omega,FY (by omega)]
   have hgo2:∀s:Nat,s=c+yd→¬s≤xd→IntKind.u32.wrap (((xd+1000000000:Nat):Int) - (s:Int))=((xd+1000000000 - s:Nat):Int):=fun s _ hs=>by rw [show ((xd+1000000000:Nat):Int) - (s:Int)=((xd+1000000000 - s:Nat):Int) by omega,FY (by omega)]
   by_cases hlb2:i < b.length
   · have hgb:=hgb hlb2
     by_cases hge:c+yd≤xd
     · have e1:=hgo _ rfl hge
       have eg:decide (((c+yd:Nat):Int)≤(xd:Int))=true:=by simp;omega
       (repeat' (first|refine Run.ct rfl ?_|((first|refine Run.reg mixed ?_|refine Run.AN ?_|(refine AO rfl (fun h=>?_) (fun h=>?_)<;>try (cases h;done)))<;>try simp -implicitDefEqProofs only [uA,AG,CR hlt,CR hlb2,hga,hgb,e0,e1,eg,hw1,hcl,hwr,hil,hln,Af,D4,if_true,GX,go_sem])|(refine ⟨fun h=>?_,fun h=>?_⟩<;>first|(cases h;done)|try simp only [h])|fail))
       exact hih (xd - (c+yd)) 0 (by omega) (by omega) (by omega)
     · have e1:=hgo2 _ rfl hge
       have eg:decide (((c+yd:Nat):Int)≤(xd:Int))=false:=by simp;omega
       (repeat' (first|refine Run.ct rfl ?_|((first|refine Run.reg mixed ?_|refine Run.AN ?_|(refine AO rfl (fun h=>?_) (fun h=>?_)<;>try (cases h;done)))<;>try simp -implicitDefEqProofs only [uA,AG,CR hlt,CR hlb2,hga,hgb,e0,e1,e3,eg,hw1,hcl,hwr,hil,hln,Af,D4,if_true,GX,go_sem])|(refine ⟨fun h=>?_,fun h=>?_⟩<;>first|(cases h;done)|try simp only [h])|fail))
       exact hih (xd+1000000000 - (c+yd)) 1 (by omega) (by omega) (by omega)
   · have hy0:yd=0:=hqz (fun h2=>hlb2 (hb.2 h2))
     by_cases hge:c≤xd
     · have e1:=hgo c (by omega) hge
       have eg:decide ((c:Int)≤(xd:Int))=true:=by simp;omega
       (repeat' (first|refine Run.ct rfl ?_|((first|refine Run.reg mixed ?_|refine Run.AN ?_|(refine AO rfl (fun h=>?_) (fun h=>?_)<;>try (cases h;done)))<;>try simp -implicitDefEqProofs only [uA,AG,CR hlt,DU hlb2,hga,e1,eg,hw1,hcl,hwr,hil,hln,Af,D4,if_true,GX,go_sem])|(refine ⟨fun h=>?_,fun h=>?_⟩<;>first|(cases h;done)|try simp only [h])|fail))
       exact hih (xd - c) 0 (by omega) (by omega) (by omega)
     · have e1:=hgo2 c (by omega) hge
       have eg:decide ((c:Int)≤(xd:Int))=false:=by simp;omega
       (repeat' (first|refine Run.ct rfl ?_|((first|refine Run.reg mixed ?_|refine Run.AN ?_|(refine AO rfl (fun h=>?_) (fun h=>?_)<;>try (cases h;done)))<;>try simp -implicitDefEqProofs only [uA,AG,CR hlt,DU hlb2,hga,e1,e3,eg,hw1,hcl,hwr,hil,hln,Af,D4,if_true,GX,go_sem])|(refine ⟨fun h=>?_,fun h=>?_⟩<;>first|(cases h;done)|try simp only [h])|fail))
       exact hih (xd+1000000000 - c) 1 (by omega) (by omega) (by omega)
 · obtain rfl:i=a.length:=by omega
   have hend:=UL hxy hdl htop hdb hv hc
   have hD1:D.length≤1000:=by omega
   have hc:=Ed (v:=uA D) (σ:=σ) rfl hdb hD1
   rw [hend] at hc
   simp only [F8,List.replicate_zero,BS]
   refine Run.urz hj (l:=D) (by omega) (F':=put 0 (uA a) (put 1 (uA b) (put 5 (uA D) (put 6 (.d (.int .u32 (c:Nat))) (put 7 (.d (.int .i64 (a.length:Nat))) U))))) (fun s=>?_) ?_
   · by_cases e:s=5
     · subst e;right;exact ⟨by simp [put,hdl],by simp [put]⟩
     · left;simp [put,e,uA]
   (repeat' (first|refine Run.ct rfl ?_|((first|refine Run.reg mixed ?_|refine Run.AN ?_|refine Run.Aj Jj (AF.le_refl _) ?_|refine AK.det (hc) ?_|(refine AO rfl (fun h=>?_) (fun h=>?_)<;>try (cases h;done)))<;>try simp -implicitDefEqProofs only [uA,AG,DU hlt,go_sem])|(refine ⟨fun h=>?_,fun h=>?_⟩<;>first|(cases h;done)|try simp only [h])|fail))
end Go.Ab
namespace Go.Ab
open Go.Proofs
set_option maxHeartbeats 4000000
theorem Du:[1].map uR=[[DV.int .u32 1]]:=rfl
theorem GG (x:Nat) (hx:(AR x).length≤990) (σ:AF):AM Tryd.prog 94 [uA (AR x),uA [1]] σ (fun v σ'=>v=uA (AR x)∧σ'=σ):=by
 refine Np (by simp) ?_
 rw [CC]
 have hb:=LI x
 have hv:=J2 x
 generalize hl:AR x=a at *
 have h10:((1000000000:Int)=0)=False:=by simp
 have ew0:IntKind.u64.wrap 0=0:=by decide
 have ea:IntKind.i64.wrap ((a.length:Int)+((1:Nat):Int))=((a.length+1:Nat):Int):=Bc (by omega)
 have ea2:IntKind.i64.wrap (((a.length+1:Nat):Int)+1)=((a.length+2:Nat):Int):=Bc (by omega)
 simp only [uA,Du]
 (repeat' (first|refine Run.ct rfl ?_|((first|refine Run.reg mixed ?_|refine Run.AN ?_|(refine NW.mk (n:=a.length+2) (by omega) (by omega) (fun j hj=>?_))|(rw [NU])|(refine AO rfl (fun h=>?_) (fun h=>?_)<;>try (cases h;done)))<;>try simp -implicitDefEqProofs only [AG,ea,ea2,go_sem])|(refine ⟨fun h=>?_,fun h=>?_⟩<;>first|(cases h;done)|try simp only [h])|fail))
 refine Run.DR ?_
 refine Run.DS ((fun (a0:AV) (a1:AV) (a5:AV)=>fun (i:Nat)=>put 0 a0 (put 1 a1 (put 5 a5 (put 6 (.d (.int .i64 (i:Nat))) U)))) _ _ _) (fun _=>E) (fun i=>σ.AX j (uC (a.take i++AH (a.length+2 - i) 0))) (fun i=>i≤a.length) (fun i=>a.length - i) ?_ 0 (by simp)
 intro i hi ih
 by_cases hlt:i < a.length
 · obtain ⟨d,hd⟩:=Dt hlt
   have he:=Ld hd
   have hdb:=hb d (BA hd)
   simp only [bB] at hdb
   have hw1:=Bc (show i+1≤9000000000000000000 by omega)
   (repeat' (first|refine Run.ct rfl ?_|((first|refine Run.reg mixed ?_|refine Run.AN ?_|(refine AO rfl (fun h=>?_) (fun h=>?_)<;>try (cases h;done)))<;>try simp -implicitDefEqProofs only [AG,CR hlt,go_sem])|(refine ⟨fun h=>?_,fun h=>?_⟩<;>first|(cases h;done)|try simp only [h])|fail))
   refine Run.DR ?_
   refine Run.DS ((fun (a0:AV) (a1:AV) (a5:AV) (a6:AV)=>fun (z:Nat)=>put 0 a0 (put 1 a1 (put 5 a5 (put 6 a6 (put 7 (.d (.int .u64 0)) (put 8 (.d (.int .i64 (z:Nat))) U)))))) _ _ _ _) (fun _=>E) (fun z=>σ.AX j (uC (a.take (i+z)++AH (a.length+2 - (i+z)) 0))) (fun z=>z≤1) (fun z=>1 - z) ?_ 0 (by simp)
   intro z hz ih2
   have hih:=ih (i+1) (by omega) (by omega)
   rcases Nat.le_one_iff_eq_zero_or_eq_one.1 hz with rfl|rfl
   · have hD:(a.take i).length=i:=by simp;omega
     have hat:=WA (T4 (n:=a.length+2) hD (by omega))
     have hlb:i < (a.take i++AH (a.length+2 - i) 0).length:=by rw [AI,hD,Ch];omega
     have hln:(a.take i++AH (a.length+2 - i) 0).length=a.length+2:=by rw [AI,hD,Ch];omega
     have hcl:=TR hlb
     have hwr:=TS d hlb
     rw [OK hD (by omega),← HO hd] at hwr
     have hil:=ilU (show i < a.length+2 by omega)
     have ei:IntKind.i64.wrap ((i:Int)+((0:Nat):Int))=(i:Int):=by rw [show (i:Int)+((0:Nat):Int)=(i:Int) by omega];exact Ix (by omega) (by omega)
     have e1:=Lb (n:=d) (by omega)
     have e2:IntKind.u64.wrap (0+(d:Int))=(d:Int):=by rw [Int.zero_add,e1]
     have e3:=FY (n:=d) (by omega)
     have e4:IntKind.u64.wrap ((d:Int) * 1)=(d:Int):=by rw [Int.mul_one,e1]
     have em:(d:Int).tmod 1000000000=(d:Int):=by rw [QD];simp only [bB];omega
     have ed:(d:Int).tdiv 1000000000=0:=by rw [OP];simp only [bB];omega
     have w0:IntKind.u64.wrap ((0:Nat):Int)=0:=by decide
     have w00:IntKind.u64.wrap (0+0)=0:=by decide
     have w1:IntKind.u64.wrap 1=1:=by decide
     have w01:IntKind.i64.wrap (((0:Nat):Int)+1)=((1:Nat):Int):=by decide
     have l01:decide (((0:Nat):Int) < ((1:Nat):Int))=true:=rfl
     (repeat' (first|refine Run.ct rfl ?_|((first|refine Run.reg mixed ?_|refine Run.AN ?_|(refine AO rfl (fun h=>?_) (fun h=>?_)<;>try (cases h;done)))<;>try simp -implicitDefEqProofs only [AG,l01,he,ei,w0,w00,w1,w01,e1,e2,e3,e4,em,ed,ew0,h10,hat,hcl,hwr,hil,hln,Af,D4,if_true,GX,CA,go_sem])|(refine ⟨fun h=>?_,fun h=>?_⟩<;>first|(cases h;done)|try simp only [h])|fail))
     exact ih2 1 (by simp) (by simp)
   · have l11:decide (((1:Nat):Int) < ((1:Nat):Int))=false:=rfl
     have g00:decide ((0:Int) < 0)=false:=rfl
     (repeat' (first|refine Run.ct rfl ?_|((first|refine Run.reg mixed ?_|refine Run.AN ?_|(refine AO rfl (fun h=>?_) (fun h=>?_)<;>try (cases h;done)))<;>try simp -implicitDefEqProofs only [AG,l11,g00,hw1,go_sem])|(refine ⟨fun h=>?_,fun h=>?_⟩<;>first|(cases h;done)|try simp only [h])|fail))
     exact hih
 · obtain rfl:i=a.length:=by omega
   have hc:=Ed (l:=a++AH 2 0) (v:=uA (a++AH 2 0)) (σ:=σ) rfl (fun e he=>by rcases Ac.1 he with he|he;exact hb e he;rw [List.eq_of_mem_replicate he];decide) (by simp;omega)
   rw [P8,hv,hl] at hc
   rw [show a.length+2 - a.length=2 by omega,Ag (AP _)]
   refine Run.urz hj (l:=a++AH 2 0) (by simp;omega) (F':=put 0 (uA a) (put 1 (.d (.sl [[.int .u32 1]])) (put 5 (uA (a++AH 2 0)) (put 6 (.d (.int .i64 (a.length:Nat))) U)))) (fun s=>?_) ?_
   · by_cases e:s=5
     · subst e;right;exact ⟨by simp [put],by simp [put]⟩
     · left;simp [put,e,uA,Du]
   simp only [uA] at hc ⊢
   (repeat' (first|refine Run.ct rfl ?_|((first|refine Run.reg mixed ?_|refine Run.AN ?_|refine Run.Aj Ji (AF.le_refl _) ?_|refine AK.det (hc) ?_|(refine AO rfl (fun h=>?_) (fun h=>?_)<;>try (cases h;done)))<;>try simp -implicitDefEqProofs only [AG,DU hlt,go_sem])|(refine ⟨fun h=>?_,fun h=>?_⟩<;>first|(cases h;done)|try simp only [h])|fail))
theorem TC {a:List Nat} {m d:Nat} (h:a[m]?=some d):(AH (m+1) 0++a.drop (m+1)).set m d=AH m 0++a.drop m:=by
 obtain ⟨hlt,hd⟩:=AL.1 h
 rw [List.replicate_succ',Az,List.set_append,if_neg (by simp),Ch,F8,List.singleton_append,List.set_cons_zero,List.drop_eq_getElem_cons hlt,hd]
theorem LV (x:Nat) (hx:(AR x).length≤990) (σ:AF):AM Tryd.prog 131 [uA (AR x),.d (.int .u64 1)] σ (fun v σ'=>v= .tup [uA (AR x),.d (.int .u64 0)]∧σ'=σ):=by
 refine Lu (by simp) ?_
 rw [CC]
 have hb:=LI x
 have hv:=J2 x
 generalize hl:AR x=a at *
 have h10:((1:Int)=0)=False:=by simp
 have ea:IntKind.i64.wrap ((a.length:Int) - 1)=(a.length:Int) - 1:=Ix (by omega) (by omega)
 (repeat' (first|refine Run.ct rfl ?_|((first|refine Run.reg mixed ?_|refine Run.AN ?_|(refine NW.mk (n:=a.length) (by omega) (by omega) (fun j hj=>?_))|(rw [NU])|(refine AO rfl (fun h=>?_) (fun h=>?_)<;>try (cases h;done)))<;>try simp -implicitDefEqProofs only [uA,AG,ea,go_sem])|(refine ⟨fun h=>?_,fun h=>?_⟩<;>first|(cases h;done)|try simp only [h])|fail))
 rw [show uC (AH a.length 0)=uC (AH a.length 0++a.drop a.length) by rw [List.drop_length,BS]]
 refine Run.DR ?_
 refine Run.DS ((fun (a0:AV) (a1:AV) (a6:AV)=>fun (m:Nat)=>put 0 a0 (put 1 a1 (put 6 a6 (put 7 (.d (.int .u64 0)) (put 8 (.d (.int .i64 (((m:Nat):Int) - 1))) U))))) _ _ _) (fun _=>E) (fun m=>σ.AX j (uC (AH m 0++a.drop m))) (fun m=>m≤a.length) (fun m=>m) ?_ a.length (AP _)
 intro m hm ih
 by_cases h0:0 < m
 · obtain ⟨m,rfl⟩:∃q,m=q+1:=⟨m - 1,by omega⟩
   obtain ⟨d,hd⟩:=Dt (show m < a.length by omega)
   have he:=Ld hd
   have hdb:=hb d (BA hd)
   simp only [bB] at hdb
   have hm1:(((m+1:Nat):Int) - 1)=(m:Int):=by omega
   have hw1:IntKind.i64.wrap ((m:Int) - 1)=(m:Int) - 1:=Ix (by omega) (by omega)
   have hge':decide ((0:Int)≤(m:Int))=true:=by simp
   have hlb:m < (AH (m+1) 0++a.drop (m+1)).length:=by simp;omega
   have hln:(AH (m+1) 0++a.drop (m+1)).length=a.length:=by simp;omega
   have hcl:=TR hlb
   have hwr:=TS d hlb
   rw [TC hd] at hwr
   have hil:=ilU (show m < a.length by omega)
   have e1:=Lb (n:=d) (by omega)
   have e2:IntKind.u64.wrap (0+(d:Int))=(d:Int):=by rw [Int.zero_add,e1]
   have e3:=FY (n:=d) (by omega)
   have w0:IntKind.u64.wrap (0 * 1000000000)=0:=by decide
   have w00:IntKind.u64.wrap 0=0:=by decide
   have em:(d:Int).tmod 1=0:=Int.tmod_one _
   have ed:(d:Int).tdiv 1=(d:Int):=Int.tdiv_one _
   simp only [hm1]
   (repeat' (first|refine Run.ct rfl ?_|((first|refine Run.reg mixed ?_|refine Run.AN ?_|(refine AO rfl (fun h=>?_) (fun h=>?_)<;>try (cases h;done)))<;>try simp -implicitDefEqProofs only [AG,hge',he,e1,e2,e3,w0,w00,em,ed,hw1,h10,hcl,hwr,hil,hln,Af,D4,if_true,GX,go_sem])|(refine ⟨fun h=>?_,fun h=>?_⟩<;>first|(cases h;done)|try simp only [h])|fail))
   exact ih m (by omega) (by omega)
 · obtain rfl:m=0:=by omega
   have hge:decide ((0:Int)≤((0:Nat):Int) - 1)=false:=by decide
   have hc:=Ed (l:=a) (v:=uA a) (σ:=σ) rfl hb (by omega)
   rw [hv,hl] at hc
   simp only [List.replicate_zero,B8,List.drop_zero]
   refine Run.urz hj (l:=a) (by omega) (F':=put 0 (uA a) (put 1 (.d (.int .u64 1)) (put 6 (uA a) (put 7 (.d (.int .u64 0)) (put 8 (.d (.int .i64 (((0:Nat):Int) - 1))) U))))) (fun s=>?_) ?_
   · by_cases e:s=6
     · subst e;right;exact ⟨by simp [put],by simp [put]⟩
     · left;simp [put,e,uA]
   (repeat' (first|refine Run.ct rfl ?_|((first|refine Run.reg mixed ?_|refine Run.AN ?_|refine Run.Aj Hd (AF.le_refl _) ?_|refine AK.det (hc) ?_|(refine AO rfl (fun h=>?_) (fun h=>?_)<;>try (cases h;done)))<;>try simp -implicitDefEqProofs only [uA,AG,hge,go_sem])|(refine ⟨fun h=>?_,fun h=>?_⟩<;>first|(cases h;done)|try simp only [h])|fail))
theorem T8 {x:Nat} (h:0 < x):0≤B1 (x:Int) ((1:Nat):Int):=by
 unfold B1;split<;>(try split)<;>omega
theorem NI (x:Nat) (h0:0 < x) (hx:(AR x).length≤990) (σ:AF):AM Tryd.prog 113 [uA (AR x),uA [1]] σ (fun v σ'=>v= .tup [uA (AR x),uA []]∧σ'=σ):=by
 refine Nn (by simp) ?_
 rw [CC]
 have hc:=Iq x 1 (by omega) (by rw [HI];simp) σ
 rw [HI] at hc
 have h1:=T8 h0
 generalize B1 (x:Int) ((1:Nat):Int)=z at hc h1
 have hs:=LV x hx σ
 have hlm:=Jq 0 (by decide) σ
 rw [CH] at hlm
 have hz:decide (z < 0)=false:=by simp;omega
 have w1:IntKind.u64.wrap 1=1:=by decide
 simp only [uA,Du] at *
 (repeat' (first|refine Run.ct rfl ?_|((first|refine Run.reg mixed ?_|refine Run.AN ?_|refine Run.Aj Jg (AF.le_refl _) ?_|refine AK.det (hc) ?_|refine AK.det (hs) ?_|refine AK.det (hlm) ?_|(refine AO rfl (fun h=>?_) (fun h=>?_)<;>try (cases h;done)))<;>try simp -implicitDefEqProofs only [hz,w1,go_sem])|(refine ⟨fun h=>?_,fun h=>?_⟩<;>first|(cases h;done)|try simp only [h])|fail))
theorem NJ (x:Nat) (h0:0 < x) (hx:(AR x).length≤990) (σ:AF):AM Tryd.prog 112 [uA (AR x),uA [1]] σ (fun v σ'=>v=uA [1]∧σ'=σ):=by
 refine No (by simp) ?_
 rw [CC]
 have hd:=NI x h0 hx σ
 simp only [uA,Du,Cr] at hd ⊢
 (repeat' (first|refine Run.ct rfl ?_|((first|refine Run.reg mixed ?_|refine Run.AN ?_|(refine AO rfl (fun h=>?_) (fun h=>?_)<;>try (cases h;done)))<;>try simp -implicitDefEqProofs only [go_sem])|(refine ⟨fun h=>?_,fun h=>?_⟩<;>first|(cases h;done)|try simp only [h])|fail))
 refine Run.DR ?_
 refine Run.DS (fun (y:List Nat×List Nat)=>put 0 (.d (.sl (y.1.map uR))) (put 1 (.d (.sl (y.2.map uR))) U)) (fun _=>E) (fun _=>σ) (fun y=>y=(AR x,[1])∨y=([1],[])) (fun y=>y.2.length) ?_ (AR x,[1]) (.inl rfl)
 rintro y (rfl|rfl) ih
 · have hih:=ih ([1],[]) (.inr rfl) (by simp)
   simp only [Du,Cr] at hih ⊢
   have g1:decide ((0:Int) < ((1:Nat):Int))=true:=rfl
   (repeat' (first|refine Run.ct rfl ?_|((first|refine Run.reg mixed ?_|refine Run.AN ?_|refine AK.det (hd) ?_|(refine AO rfl (fun h=>?_) (fun h=>?_)<;>try (cases h;done)))<;>try simp -implicitDefEqProofs only [g1,go_sem])|(refine ⟨fun h=>?_,fun h=>?_⟩<;>first|(cases h;done)|try simp only [h])|fail))
   exact hih
 · have g0:decide ((0:Int) < ((0:Nat):Int))=false:=rfl
   simp only [Du,Cr]
   (repeat' (first|refine Run.ct rfl ?_|((first|refine Run.reg mixed ?_|refine Run.AN ?_|refine Run.Aj Jh (AF.le_refl _) ?_|(refine AO rfl (fun h=>?_) (fun h=>?_)<;>try (cases h;done)))<;>try simp -implicitDefEqProofs only [g0,go_sem])|(refine ⟨fun h=>?_,fun h=>?_⟩<;>first|(cases h;done)|try simp only [h])|fail))
def rtA (b:Bool) (x:Nat):AV:= .agg [.d (.bool b),uA (AR x),uA [1]]
theorem EI (b:Bool) (x:Nat) (hx:(AR x).length≤900) (σ:AF):AM Tryd.prog 91 [.d (.bool b),uA (AR x),uA [1]] σ (fun v σ'=>v=rtA (b&&decide (0 < x)) x∧σ'=σ):=by
 refine Ov (by simp) ?_
 rw [O5]
 have h1:=M5 x (by omega) σ
 have h2:=M5 1 (by rw [HI];simp) σ
 rw [HI] at h2
 rcases BE x with rfl|h0
 · have e:(b&&decide (0 < 0))=false:=by simp
   rw [e]
   rw [CH] at h1 ⊢
   simp only [rtA,CH,uA,Du,Cr] at *
   (repeat' (first|refine Run.ct rfl ?_|((first|refine Run.reg mixed ?_|refine Run.AN ?_|refine Run.Aj Ht (AF.le_refl _) ?_|refine AK.det (h1) ?_|refine AK.det (h2) ?_|(refine AO rfl (fun h=>?_) (fun h=>?_)<;>try (cases h;done)))<;>try simp -implicitDefEqProofs only [go_sem])|(refine ⟨fun h=>?_,fun h=>?_⟩<;>first|(cases h;done)|try simp only [h])|fail))
 · have hg:=NJ x h0 (by omega) σ
   have e:(b&&decide (0 < x))=b:=by simp [h0]
   have hne:(AR x).length≠0:=fun h=>by rw [DK,MZ] at h;omega
   have e1:((((AR x).length:Nat):Int)==0)=false:=Rn (by omega)
   rw [e]
   simp only [rtA,uA,Du] at *
   (repeat' (first|refine Run.ct rfl ?_|((first|refine Run.reg mixed ?_|refine Run.AN ?_|refine Run.Aj Ht (AF.le_refl _) ?_|refine AK.det (h1) ?_|refine AK.det (h2) ?_|refine AK.det (hg) ?_|(refine AO rfl (fun h=>?_) (fun h=>?_)<;>try (cases h;done)))<;>try simp -implicitDefEqProofs only [e1,AG,go_sem])|(refine ⟨fun h=>?_,fun h=>?_⟩<;>first|(cases h;done)|try simp only [h])|fail))
end Go.Ab
namespace Go.Ab
open Go.Proofs
set_option maxHeartbeats 4000000
theorem EV (b:Bool) (x:Nat) (hx:(AR x).length≤900) (σ:AF):AM Tryd.prog 93 [rtA b x] σ (fun v σ'=>v=rtA (b&&decide (0 < x)) x∧σ'=σ):=by
 refine LF (by simp) ?_
 rw [CQ]
 have hc:=EI b x hx σ
 generalize (b&&decide (0 < x))=b2 at *
 simp only [rtA,uA,Du] at *
 (repeat' (first|refine Run.ct rfl ?_|((first|refine Run.reg mixed ?_|refine Run.AN ?_|refine Run.Aj Gg (AF.le_refl _) ?_|refine AK.det (hc) ?_|(refine AO rfl (fun h=>?_) (fun h=>?_)<;>try (cases h;done)))<;>try simp -implicitDefEqProofs only [go_sem])|(refine ⟨fun h=>?_,fun h=>?_⟩<;>first|(cases h;done)|try simp only [h])|fail))
theorem LL {n:Int} (h1: -9223372036854775808≤n) (h2:n≤9223372036854775807):n.natAbs < 18446744073709551616:=by omega
def rtZ (S:Int):AV:=rtA (decide (S < 0)) S.natAbs
theorem Hi (n:Int) (h1: -9223372036854775808≤n) (h2:n≤9223372036854775807) (σ:AF):AM Tryd.prog 71 [.d (.int .i64 n)] σ (fun v σ'=>v=rtZ n∧σ'=σ):=by
 refine Mp (by simp) ?_
 rw [CQ]
 have hlt:=LL h1 h2
 have hl:=Jq n.natAbs hlt σ
 have h3:=Jm hlt
 have hb:=fun b=>EI b n.natAbs (by omega) σ
 by_cases h0:n < 0
 · have hb:=hb true
   have e:(true&&decide (0 < n.natAbs))=true:=by simp;omega
   have e0:decide (n < 0)=true:=by simp [h0]
   have w1:IntKind.i64.wrap (n+1)=n+1:=Ix (by omega) (by omega)
   have w2:IntKind.i64.wrap (0 - (n+1))=-(n+1):=by rw [Ix (by omega) (by omega)];omega
   have w3:IntKind.u64.wrap (-(n+1))=-(n+1):=by
    have: -(n+1)=((-(n+1)).toNat:Int):=by omega
    rw [this];exact Lb (by omega)
   have w4:IntKind.u64.wrap (-(n+1)+1)=(n.natAbs:Int):=by
    rw [show -(n+1)+1=(n.natAbs:Int) by omega];exact Lb hlt
   rw [e] at hb
   simp only [rtZ,e0]
   generalize n.natAbs=x at *
   simp only [rtA,uA,Du] at *
   (repeat' (first|refine Run.ct rfl ?_|((first|refine Run.reg mixed ?_|refine Run.AN ?_|refine Run.Aj Fz (AF.le_refl _) ?_|refine AK.det (hl) ?_|refine AK.det (hb) ?_|(refine AO rfl (fun h=>?_) (fun h=>?_)<;>try (cases h;done)))<;>try simp -implicitDefEqProofs only [e0,w1,w2,w3,w4,go_sem])|(refine ⟨fun h=>?_,fun h=>?_⟩<;>first|(cases h;done)|try simp only [h])|fail))
 · have hb:=hb false
   have e:(false&&decide (0 < n.natAbs))=false:=rfl
   have e0:decide (n < 0)=false:=by simp;omega
   have w3:IntKind.u64.wrap n=(n.natAbs:Int):=by
    rw [show n=(n.natAbs:Int) by omega];exact Lb (by omega)
   rw [e] at hb
   simp only [rtZ,e0]
   generalize n.natAbs=x at *
   simp only [rtA,uA,Du] at *
   (repeat' (first|refine Run.ct rfl ?_|((first|refine Run.reg mixed ?_|refine Run.AN ?_|refine Run.Aj Fz (AF.le_refl _) ?_|refine AK.det (hl) ?_|refine AK.det (hb) ?_|(refine AO rfl (fun h=>?_) (fun h=>?_)<;>try (cases h;done)))<;>try simp -implicitDefEqProofs only [e0,w3,go_sem])|(refine ⟨fun h=>?_,fun h=>?_⟩<;>first|(cases h;done)|try simp only [h])|fail))
def Rj (p:Bool) (x:Nat) (q:Bool) (y:Nat):Bool×Nat:=if p=q then (p&&decide (0 < x+y),x+y) else if y≤x then (p&&decide (0 < x - y),x - y) else (q&&decide (0 < y - x),y - x)
theorem Rk (S T:Int):Rj (decide (S < 0)) S.natAbs (decide (T < 0)) T.natAbs=(decide (S+T < 0),(S+T).natAbs):=by
 unfold Rj
 by_cases h1:S < 0<;>by_cases h2:T < 0<;>simp only [h1,h2,decide_true,decide_false,if_true,GV,Bool.false_and,reduceCtorEq,if_false]<;>(try split)<;>(refine Prod.ext ?_ ?_<;>simp<;>omega)
theorem Uw {x y:Nat}:decide (0≤B1 (x:Int) (y:Int))=decide (y≤x):=by
 apply decide_eq_decide.2
 unfold B1;split<;>(try split)<;>omega
theorem RQ (p q:Bool) (x y:Nat) (hp:p=true→0 < x) (hq:q=true→0 < y) (hx:x < bB ^ 100) (hy:y < bB ^ 100) (σ:AF):AM Tryd.prog 72 [rtA p x,rtA q y] σ (fun v σ'=>v=rtA (Rj p x q y).1 (Rj p x q y).2∧σ'=σ):=by
 refine SK (by simp) ?_
 rw [CC]
 have hlx:(AR x).length≤101:=Gl (Nat.lt_trans hx (Nat.pow_lt_pow_right (by decide) (by decide)))
 have hly:(AR y).length≤101:=Gl (Nat.lt_trans hy (Nat.pow_lt_pow_right (by decide) (by decide)))
 have hls:∀z,z≤x+y→(AR z).length≤101:=fun z hz=>Gl (by
  have:bB ^ 101=bB ^ 100 * bB:=Nat.pow_succ ..
  have:bB ^ 100 * 2≤bB ^ 100 * bB:=Nat.mul_le_mul_left _ (by decide)
  generalize bB ^ 100=Z at *
  omega)
 have hcx:=EV p x (by omega) σ
 have hcy:=EV q y (by omega) σ
 have ep:(p&&decide (0 < x))=p:=by cases p<;>simp at hp ⊢;exact hp
 have eq:(q&&decide (0 < y))=q:=by cases q<;>simp at hq ⊢;exact hq
 rw [ep] at hcx
 rw [eq] at hcy
 have hmx:=GG x (by omega) σ
 have hmy:=GG y (by omega) σ
 have hm1:=GG 1 (by rw [HI];simp) σ
 rw [HI] at hm1
 have hcmp:=Iq x y (by omega) (by omega) σ
 have hge:=@Uw x y
 unfold Rj
 by_cases hpq:p=q
 · subst hpq
   have ha:=NH x y (by omega) (by omega) (Aa (hls _ (AP _)) (by omega)) σ
   have hb:=EI p (x+y) (Aa (hls _ (AP _)) (by omega)) σ
   have e:(p==p)=true:=by simp
   rw [if_pos rfl]
   simp only
   generalize (p&&decide (0 < x+y))=r at *
   simp only [rtA,uA,Du] at *
   (repeat' (first|refine Run.ct rfl ?_|((first|refine Run.reg mixed ?_|refine Run.AN ?_|refine Run.Aj Ib (AF.le_refl _) ?_|refine AK.det (hcx) ?_|refine AK.det (hcy) ?_|refine AK.det (hmx) ?_|refine AK.det (hmy) ?_|refine AK.det (hm1) ?_|refine AK.det (ha) ?_|refine AK.det (hb) ?_|(refine AO rfl (fun h=>?_) (fun h=>?_)<;>try (cases h;done)))<;>try simp -implicitDefEqProofs only [e,go_sem])|(refine ⟨fun h=>?_,fun h=>?_⟩<;>first|(cases h;done)|try simp only [h])|fail))
 · have e:(p==q)=false:=by simpa using hpq
   rw [if_neg hpq]
   by_cases hle:y≤x
   · have ha:=Ir x y hle (by omega) (by omega) σ
     have hb:=EI p (x - y) (Aa (hls _ (by omega)) (by omega)) σ
     rw [if_pos hle]
     rw [decide_eq_true hle] at hge
     simp only
     generalize (p&&decide (0 < x - y))=r at *
     generalize B1 (x:Int) (y:Int)=z at *
     simp only [rtA,uA,Du] at *
     (repeat' (first|refine Run.ct rfl ?_|((first|refine Run.reg mixed ?_|refine Run.AN ?_|refine Run.Aj Ib (AF.le_refl _) ?_|refine AK.det (hcx) ?_|refine AK.det (hcy) ?_|refine AK.det (hmx) ?_|refine AK.det (hmy) ?_|refine AK.det (hm1) ?_|refine AK.det (hcmp) ?_|refine AK.det (ha) ?_|refine AK.det (hb) ?_|(refine AO rfl (fun h=>?_) (fun h=>?_)<;>try (cases h;done)))<;>try simp -implicitDefEqProofs only [e,hge,go_sem])|(refine ⟨fun h=>?_,fun h=>?_⟩<;>first|(cases h;done)|try simp only [h])|fail))
   · have ha:=Ir y x (by omega) (by omega) (by omega) σ
     have hb:=EI q (y - x) (Aa (hls _ (by omega)) (by omega)) σ
     rw [if_neg hle]
     rw [decide_eq_false hle] at hge
     simp only
     generalize (q&&decide (0 < y - x))=r at *
     generalize B1 (x:Int) (y:Int)=z at *
     simp only [rtA,uA,Du] at *
     (repeat' (first|refine Run.ct rfl ?_|((first|refine Run.reg mixed ?_|refine Run.AN ?_|refine Run.Aj Ib (AF.le_refl _) ?_|refine AK.det (hcx) ?_|refine AK.det (hcy) ?_|refine AK.det (hmx) ?_|refine AK.det (hmy) ?_|refine AK.det (hm1) ?_|refine AK.det (hcmp) ?_|refine AK.det (ha) ?_|refine AK.det (hb) ?_|(refine AO rfl (fun h=>?_) (fun h=>?_)<;>try (cases h;done)))<;>try simp -implicitDefEqProofs only [e,hge,go_sem])|(refine ⟨fun h=>?_,fun h=>?_⟩<;>first|(cases h;done)|try simp only [h])|fail))
theorem PV (S T:Int) (hS:S.natAbs < bB ^ 100) (hT:T.natAbs < bB ^ 100) (σ:AF):AM Tryd.prog 72 [rtZ S,rtZ T] σ (fun v σ'=>v=rtZ (S+T)∧σ'=σ):=by
 have h:=RQ (decide (S < 0)) (decide (T < 0)) S.natAbs T.natAbs (by simp;omega) (by simp;omega) hS hT σ
 rw [Rk] at h
 exact h
theorem PW (S:Int) (hS:S.natAbs < bB ^ 100) (σ:AF):AM Tryd.prog 73 [rtZ S] σ (fun v σ'=>v= .d (.int .i64 (if S=0 then 0 else if S < 0 then -1 else 1))∧σ'=σ):=by
 refine Qf (by simp) ?_
 rw [CQ]
 have hl:(AR S.natAbs).length≤100:=Gl hS
 have hc:=EV (decide (S < 0)) S.natAbs (by omega) σ
 have e:(decide (S < 0)&&decide (0 < S.natAbs))=decide (S < 0):=by rw [FC];simp;omega
 rw [e] at hc
 have hne:(AR S.natAbs).length=0↔S=0:=by rw [DK,MZ];omega
 unfold rtZ
 by_cases h0:S=0
 · subst h0
   have e2:decide ((0:Int) < 0)=false:=by decide
   have e3:(0:Int).natAbs=0:=rfl
   rw [e2,e3] at hc
   rw [if_pos rfl]
   simp only [rtA,CH,uA,Du,e2,e3,Cr] at *
   (repeat' (first|refine Run.ct rfl ?_|((first|refine Run.reg mixed ?_|refine Run.AN ?_|refine Run.Aj HH (AF.le_refl _) ?_|refine AK.det (hc) ?_|(refine AO rfl (fun h=>?_) (fun h=>?_)<;>try (cases h;done)))<;>try simp -implicitDefEqProofs only [B7,go_sem])|(refine ⟨fun h=>?_,fun h=>?_⟩<;>first|(cases h;done)|try simp only [h])|fail))
 · have e1:((((AR S.natAbs).length:Nat):Int)==0)=false:=Rn (by omega)
   rw [if_neg h0]
   by_cases h1:S < 0
   · have e2:decide (S < 0)=true:=by simp [h1]
     rw [if_pos h1]
     simp only [rtA,uA,Du,e2] at *
     (repeat' (first|refine Run.ct rfl ?_|((first|refine Run.reg mixed ?_|refine Run.AN ?_|refine Run.Aj HH (AF.le_refl _) ?_|refine AK.det (hc) ?_|(refine AO rfl (fun h=>?_) (fun h=>?_)<;>try (cases h;done)))<;>try simp -implicitDefEqProofs only [e1,AG,go_sem])|(refine ⟨fun h=>?_,fun h=>?_⟩<;>first|(cases h;done)|try simp only [h])|fail))
   · have e2:decide (S < 0)=false:=by simp;omega
     rw [if_neg h1]
     simp only [rtA,uA,Du,e2] at *
     (repeat' (first|refine Run.ct rfl ?_|((first|refine Run.reg mixed ?_|refine Run.AN ?_|refine Run.Aj HH (AF.le_refl _) ?_|refine AK.det (hc) ?_|(refine AO rfl (fun h=>?_) (fun h=>?_)<;>try (cases h;done)))<;>try simp -implicitDefEqProofs only [e1,AG,go_sem])|(refine ⟨fun h=>?_,fun h=>?_⟩<;>first|(cases h;done)|try simp only [h])|fail))
theorem KF (l:Ln) (v:Int) (σ:AF) (hl:l.ts.length≤1000) (hb:MW l.ts):AM Tryd.prog 40 [B6 l,.d (.int .i64 v)] σ (fun r σ'=>r= .d (.bool (BK v l.ts != 0))∧σ'=σ):=by
 refine LD (by simp) ?_
 rw [CC]
 obtain ⟨c,ts⟩:=l
 simp only [B6] at hl hb ⊢
 have h00:=Hi 0 (by decide) (by decide) σ
 have hbig:=I7 v ts hb
 have hpow:10000000000000000000000000 < bB ^ 100:=Db (by decide) (Nat.pow_le_pow_right (show 0 < bB by decide) (show 10≤100 by decide))
 have hle:∀i,(BK v (ts.take i)).natAbs < bB ^ 100:=fun i=>by
  have h:=I7 v (ts.take i) (fun x hx=>hb x (Ad hx))
  have:(ts.take i).length≤1000:=by rw [Aq];omega
  generalize bB ^ 100=Z at *
  omega
 have hFI:=fun (n:Int) h1 h2=>Hi n h1 h2 σ
 have hAdd:=fun (S T:Int) h1 h2=>PV S T h1 h2 σ
 have hSg:=fun (S:Int) h1=>PW S h1 σ
 simp only [rtZ,rtA,uA,Du] at h00 hFI hAdd hSg
 (repeat' (first|refine Run.ct rfl ?_|((first|refine Run.reg mixed ?_|refine Run.AN ?_|refine AK.det (h00) ?_|(refine AO rfl (fun h=>?_) (fun h=>?_)<;>try (cases h;done)))<;>try simp -implicitDefEqProofs only [AG,go_sem])|(refine ⟨fun h=>?_,fun h=>?_⟩<;>first|(cases h;done)|try simp only [h])|fail))
 refine Run.DR ?_
 refine Run.DS ((fun (a1:AV) (a5:AV) (a10:AV) (a11:AV)=>fun (i:Nat)=>put 1 a1 (put 5 a5 (put 10 a10 (put 11 a11 (put 12 (.d (.int .i64 (i:Nat))) U))))) _ _ _ _) (fun i=>Ba 5 [.d (.bool (decide (BK v (ts.take i) < 0))),.d (.sl ((AR (BK v (ts.take i)).natAbs).map uR)),.d (.sl [[.int .u32 1]])] E) (fun _=>σ) (fun i=>i≤ts.length) (fun i=>ts.length - i) ?_ 0 (by simp)
 intro i hi ih
 by_cases hlt:i < ts.length
 · obtain ⟨x,hx⟩:=Dt hlt
   have he:=Sz (enc:=tmR) hx
   simp only [tmR] at he
   have hw1:=Bc (show i+1≤9000000000000000000 by omega)
   have hxb:=hb x (BA hx)
   have htk:BK v (ts.take (i+1))=BK v (ts.take i)+(if x.1=v then x.2 else 0):=by
    rw [HO hx,Cu];simp [BK]
   have ih:=ih (i+1) (by omega) (by omega)
   by_cases hv:x.1=v
   · rw [if_pos hv] at htk
     have hbe:(x.1==v)=true:=by simpa using hv
     have hF:=hFI x.2 hxb.1 hxb.2
     have hA:=hAdd (BK v (ts.take i)) x.2 (hle i) (Nat.lt_trans (LL hxb.1 hxb.2) (Db (by decide) (Nat.pow_le_pow_right (show 0 < bB by decide) (show 10≤100 by decide))))
     rw [← htk] at hA
     (repeat' (first|refine Run.ct rfl ?_|((first|refine Run.reg mixed ?_|refine Run.AN ?_|refine AK.det (hF) ?_|refine AK.det (hA) ?_|(refine AO rfl (fun h=>?_) (fun h=>?_)<;>try (cases h;done)))<;>try simp -implicitDefEqProofs only [CR hlt,he,hw1,hbe,AG,go_sem])|(refine ⟨fun h=>?_,fun h=>?_⟩<;>first|(cases h;done)|try simp only [h])|fail))
     exact ih
   · rw [if_neg hv,Int.add_zero] at htk
     rw [htk] at ih
     have hbe:(x.1==v)=false:=by simpa using hv
     (repeat' (first|refine Run.ct rfl ?_|((first|refine Run.reg mixed ?_|refine Run.AN ?_|(refine AO rfl (fun h=>?_) (fun h=>?_)<;>try (cases h;done)))<;>try simp -implicitDefEqProofs only [CR hlt,he,hw1,hbe,AG,go_sem])|(refine ⟨fun h=>?_,fun h=>?_⟩<;>first|(cases h;done)|try simp only [h])|fail))
     exact ih
 · rw [Ag (by omega)]
   have hS:=hSg (BK v ts) (by have:=hle ts.length;rwa [List.take_length] at this)
   have e:((if BK v ts=0 then (0:Int) else if BK v ts < 0 then -1 else 1) != 0)=(BK v ts != 0):=by
    by_cases h:BK v ts=0
    · simp [h]
    · rw [if_neg h];split<;>simp [h]
   rw [← e]
   generalize (if BK v ts=0 then (0:Int) else if BK v ts < 0 then -1 else 1)=z at *
   (repeat' (first|refine Run.ct rfl ?_|((first|refine Run.reg mixed ?_|refine Run.AN ?_|refine Run.Aj Ge (AF.le_refl _) ?_|refine AK.det (hS) ?_|(refine AO rfl (fun h=>?_) (fun h=>?_)<;>try (cases h;done)))<;>try simp -implicitDefEqProofs only [DU hlt,AG,go_sem])|(refine ⟨fun h=>?_,fun h=>?_⟩<;>first|(cases h;done)|try simp only [h])|fail))
end Go.Ab
