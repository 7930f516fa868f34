/- Part Ab12. Conditions: none. -/
import Derived.ProofKit
import Derived.KernelRfl
import Derived.Test.YtfppaadffckcoaaGreatProg
import Derived.Test.YtfppaadffckcoaaGreatXAb9c
set_option linter.unusedSimpArgs false
set_option linter.unusedVariables false
set_option maxRecDepth 100000
set_option maxHeartbeats 40000000
open Go.Proofs.Tryz renaming prog→Tzp
open List renaming mem_cons→As,all_nil→Fq,replicate→AE,getElem_of_mem→Bn,getElem?_eq_getElem→Aw,mem_of_getElem?→AD,getElem?_append_left→BH,getElem?_append_right→At,getElem?_eq_none→BY,drop_of_length_le→HG,contains_iff_mem→Ai,drop_drop→Eu,take_append_drop→Ac,all_eq_true→Aq,eq_nil_of_length_eq_zero→Ay,getElem?_eq_some_iff→AF,all_cons→Bf,getElem?_take→B3,length_take→Bi,length_drop→E5,getElem?_drop→BJ,map_cons→AG,map_nil→AN,length_cons→A0,length_nil→By,getElem?_cons_zero→Av,getElem?_cons_succ→gH,take_succ_cons→C3,take_zero→C7,drop_succ_cons→FD,drop_zero→Re,cons_append→AX,nil_append→Aj,append_nil→BX,getElem?_map→Ao,range→Au,length_map→AA,drop_length→NM,length_append→A1,length_singleton→C1,mem_singleton→A3
open Bool renaming false_eq_true→AZ,and_eq_true→AQ,and_self→L1,and_true→Be,true_and→BW,true_or→NK,or_false→L2,false_or→ED,not_false→JI,and_false→CG,false_and→DO,not_not→NJ,eq_iff_iff→Ax,not_eq_true'→Bl,or_eq_false_iff→IH
open Nat renaming zero_le→Fx,le_trans→Ah,eq_zero_or_pos→K6,le_refl→AR,add_mul→CA,mul_le_mul_right→Bp,zero_add→BU,add_zero→Bw,reduceEqDiff→HS,lt_or_ge→Cl,add_sub_cancel_left→QF
open Option renaming map_some→Ad,bind_eq_bind→AP,bind_eq_some_iff→AB,map_eq_some_iff→AL,bind_some→HT,isSome_some→Cn,isSome_none→Cm
open Option.some renaming injEq→AK
open Array renaming length_toList→Nv,getElem?_eq_some_iff→M4,getElem?_eq_getElem→N5
open Go renaming undef→Cf
open Int renaming toNat_natCast→Ca
namespace Go.Ab
open Go.RowKit
variable {P:Program} {K:CO} {F:Fm} {L:Lm} {σ:AH} {r:List Q}
def E:Lm:=fun _=>none
def YA (k:Nat) (o:Option (List AV)) (L:Lm):Lm:=fun s=>if s=k then o else L s
theorem D0 (d:Nat) (v:AV) (F:Fm) (s:Nat):put d v F s=if s=d then v else F s:=(rfl)
theorem AH2 (d:Nat) (cs:List AV) (L:Lm) (s:Nat):Ar d cs L s=if s=d then some cs else L s:=(rfl)
theorem AO5 (s:Nat):E s=none:=(rfl)
theorem APC (s:Nat):U s= .undef:=(rfl)
theorem AG0 (F:Fm):Ia [] F=U:=(rfl)
theorem ADK (k:Nat) (ks:List Nat) (F:Fm):Ia (k::ks) F=put k (F k) (Ia ks F):=by
 funext s;simp only [Ia,put,As];by_cases h:s=k
 . subst h;simp
 . simp [h]
theorem ADJ (L:Lm):He [] L=E:=(rfl)
theorem yR (k:Nat) (ks:List Nat) (L:Lm):He (k::ks) L=YA k (L k) (He ks L):=by
 funext s;simp only [He,YA,As];by_cases h:s=k
 . subst h;simp
 . simp [h]
theorem zF (k:Nat) (cs:List AV) (L:Lm):YA k (some cs) L=Ar k cs L:=(rfl)
theorem ALA (k:Nat):YA k none E=E:=by funext s;simp [YA,E]
theorem zE (k j:Nat) (cs:List AV) (L:Lm):YA k none (Ar j cs L)=if j=k then YA k none L else Ar j cs (YA k none L):=by
 funext s;by_cases h:j=k
 . subst h;simp only [if_true,YA,Ar];by_cases h2:s=j<;>simp [h2]
 . simp only [h,if_false,YA,Ar];by_cases h2:s=k
   . have h3:s≠j:=by omega
     rw [if_pos h2,if_neg h3,if_pos h2]
   . rw [if_neg h2];by_cases h3:s=j
     . rw [if_pos h3,if_pos h3]
     . rw [if_neg h3,if_neg h3,if_neg h2]
theorem AEK (k:Nat) (cs ds:List AV) (L:Lm):Ar k cs (Ar k ds L)=Ar k cs L:=by
 funext s;simp only [Ar];split<;>rfl
theorem ARK (F:Fm) (n:Nat):xv F (.t n)=F n:=(rfl)
theorem ARJ (F:Fm) (v:AV):xv F (.c v)=v:=(rfl)
theorem Bs (a:AV):VL [a]=put 0 a U:=by
 funext s;simp only [VL,put,U];cases s<;>simp
theorem BS (a b:AV):VL [a,b]=put 0 a (put 1 b U):=by
 funext s;simp only [VL,put,U]
 match s with|0=>rfl|1=>rfl|n+2=>simp
theorem D6 (a b c:AV):VL [a,b,c]=put 0 a (put 1 b (put 2 c U)):=by
 funext s;simp only [VL,put,U]
 match s with|0=>rfl|1=>rfl|2=>rfl|n+3=>simp
theorem aO (a b c d:AV):VL [a,b,c,d]=put 0 a (put 1 b (put 2 c (put 3 d U))):=by
 funext s;simp only [VL,put,U]
 match s with|0=>rfl|1=>rfl|2=>rfl|3=>rfl|n+4=>simp
theorem wM (a b c d e:AV):VL [a,b,c,d,e]=put 0 a (put 1 b (put 2 c (put 3 d (put 4 e U)))):=by
 funext s;simp only [VL,put,U]
 match s with|0=>rfl|1=>rfl|2=>rfl|3=>rfl|4=>rfl|n+5=>simp
theorem AK9 (k:Nat):Df k U=U:=by funext s;simp [Df,U,AV.BT]
theorem AEJ (k d:Nat) (v:AV) (F:Fm):Df k (put d v F)=put d (if v.BT k then .undef else v) (Df k F):=by
 funext s;simp only [Df,put];by_cases h:s=d<;>simp [h]
theorem ANX (k:Nat) (x:DV):(AV.d x).BT k=false:=(rfl)
theorem ADT (k:Nat):AV.Af.BT k=false:=(rfl)
theorem AHA (k t e s:Nat) (r:List (List DV)):(AV.own t e s r).BT k=false:=(rfl)
theorem ADQ (k:Nat) (r:List (List DV)):(AV.clip r).BT k=false:=(rfl)
theorem AG9 (k:Nat) (r:List AV):(AV.agg r).BT k=false:=(rfl)
theorem AKR (k j o:Nat):(AV.lp j o).BT k=(j==k):=(rfl)
theorem AKQ (k j o:Nat):(AV.gp j o).BT k=false:=(rfl)
theorem AKO (k o:Nat) (r:List DV):(AV.ep r o).BT k=false:=(rfl)
theorem ADS (k:Nat):AV.GK.BT k=false:=(rfl)
theorem AKS (k i n s e:Nat):(AV.ms i n s e).BT k=false:=(rfl)
theorem AKT (k:Nat) (i o n s e:Nat):(AV.mv i o n s e).BT k=false:=(rfl)
theorem AKN (k:Nat) (t e:Nat) (s:List UInt8):(AV.bp t e s).BT k=false:=(rfl)
theorem Wr (k t:Nat) (es:List (Int×Int)):(AV.om t es).BT k=false:=(rfl)
theorem ADR (k:Nat):AV.HK.BT k=false:=(rfl)
theorem AKP (k:Nat) (f:FuncId) (x y:List AV):(AV.fn f x y).BT k=false:=(rfl)
theorem AHB (k:Nat) (x:List AV):(AV.tup x).BT k=false:=(rfl)
theorem yT (k:Nat):AV.undef.BT k=false:=(rfl)
theorem AJO (x:DV):AV.cells (AV.d x)=[(AV.d x)]:=(rfl)
theorem xC:AV.cells AV.Af=[AV.Af]:=(rfl)
theorem ACB (t e s:Nat) (r:List (List DV)):AV.cells (AV.own t e s r)=[(AV.own t e s r)]:=(rfl)
theorem w9 (r:List (List DV)):AV.cells (AV.clip r)=[(AV.clip r)]:=(rfl)
theorem ACA (r:List AV):AV.cells (AV.agg r)=r:=(rfl)
theorem AFW (j o:Nat):AV.cells (AV.lp j o)=[(AV.lp j o)]:=(rfl)
theorem AFV (j o:Nat):AV.cells (AV.gp j o)=[(AV.gp j o)]:=(rfl)
theorem AFT (r:List DV) (o:Nat):AV.cells (AV.ep r o)=[(AV.ep r o)]:=(rfl)
theorem xB:AV.cells AV.GK=[AV.GK]:=(rfl)
theorem AFX (i n s e:Nat):AV.cells (AV.ms i n s e)=[(AV.ms i n s e)]:=(rfl)
theorem AFY (i o n s e:Nat):AV.cells (AV.mv i o n s e)=[AV.mv i o n s e]:=(rfl)
theorem AFS (t e:Nat) (s:List UInt8):AV.cells (AV.bp t e s)=[AV.bp t e s]:=(rfl)
theorem Ry (t:Nat) (es:List (Int×Int)):AV.cells (AV.om t es)=[AV.om t es]:=(rfl)
theorem xA:AV.cells AV.HK=[AV.HK]:=(rfl)
theorem AFU (f:FuncId) (x y:List AV):AV.cells (AV.fn f x y)=[(AV.fn f x y)]:=(rfl)
theorem ACC (x:List AV):AV.cells (AV.tup x)=[(AV.tup x)]:=(rfl)
theorem sU:AV.cells AV.undef=[AV.undef]:=(rfl)
theorem AGY (x:DV):AV.B5 (AV.d x)=true:=(rfl)
theorem tX:AV.B5 AV.Af=true:=(rfl)
theorem yK (t e s:Nat) (r:List (List DV)):AV.B5 (AV.own t e s r)=true:=(rfl)
theorem tT (r:List (List DV)):AV.B5 (AV.clip r)=true:=(rfl)
theorem yJ (r:List AV):AV.B5 (AV.agg r)=false:=(rfl)
theorem ADE (j o:Nat):AV.B5 (AV.lp j o)=false:=(rfl)
theorem ADD (j o:Nat):AV.B5 (AV.gp j o)=true:=(rfl)
theorem ADB (r:List DV) (o:Nat):AV.B5 (AV.ep r o)=true:=(rfl)
theorem tW:AV.B5 AV.GK=true:=(rfl)
theorem ADF (i n s e:Nat):AV.B5 (AV.ms i n s e)=true:=(rfl)
theorem ADG (i o n s e:Nat):AV.B5 (AV.mv i o n s e)=true:=(rfl)
theorem ADA (t e:Nat) (s:List UInt8):AV.B5 (AV.bp t e s)=true:=(rfl)
theorem O5 (t:Nat) (es:List (Int×Int)):AV.B5 (AV.om t es)=true:=(rfl)
theorem tV:AV.B5 AV.HK=true:=(rfl)
theorem ADC (f:FuncId) (x y:List AV):AV.B5 (AV.fn f x y)=true:=(rfl)
theorem yL (x:List AV):AV.B5 (AV.tup x)=false:=(rfl)
theorem qH:AV.B5 AV.undef=false:=(rfl)
theorem Ep (x:DV):AV.BF (AV.d x)=true:=(rfl)
theorem AD5:AV.BF AV.Af=true:=(rfl)
theorem AHM (t e s:Nat) (r:List (List DV)):AV.BF (AV.own t e s r)=true:=(rfl)
theorem AD2 (r:List (List DV)):AV.BF (AV.clip r)=true:=(rfl)
theorem DX (r:List AV):AV.BF (AV.agg r)=true:=(rfl)
theorem AK1 (j o:Nat):AV.BF (AV.lp j o)=false:=(rfl)
theorem Tc (j o:Nat):AV.BF (AV.gp j o)=true:=(rfl)
theorem AK0 (r:List DV) (o:Nat):AV.BF (AV.ep r o)=true:=(rfl)
theorem AD4:AV.BF AV.GK=true:=(rfl)
theorem AA9 (i n s e:Nat):AV.BF (AV.ms i n s e)=true:=(rfl)
theorem AK2 (i o n s e:Nat):AV.BF (AV.mv i o n s e)=true:=(rfl)
theorem AKZ (t e:Nat) (s:List UInt8):AV.BF (AV.bp t e s)=true:=(rfl)
theorem AK3 (t:Nat) (es:List (Int×Int)):AV.BF (AV.om t es)=true:=(rfl)
theorem AD3:AV.BF AV.HK=true:=(rfl)
theorem fZ (f:FuncId) (x y:List AV):AV.BF (AV.fn f x y)=true:=(rfl)
theorem AHN (x:List AV):AV.BF (AV.tup x)=true:=(rfl)
theorem y6:AV.BF AV.undef=true:=(rfl)
theorem ANG (x:DV):AV.dv (AV.d x)=some x:=(rfl)
theorem AJY:AV.dv AV.Af=some (.sl []):=(rfl)
theorem ANH (t e s:Nat) (r:List (List DV)):AV.dv (AV.own t e s r)=some (.sl r):=(rfl)
theorem AJV (r:List (List DV)):AV.dv (AV.clip r)=some (.sl r):=(rfl)
theorem ANF (r:List AV):AV.dv (AV.agg r)=none:=(rfl)
theorem APM (j o:Nat):AV.dv (AV.lp j o)=none:=(rfl)
theorem APL (j o:Nat):AV.dv (AV.gp j o)=none:=(rfl)
theorem APJ (r:List DV) (o:Nat):AV.dv (AV.ep r o)=none:=(rfl)
theorem AJX:AV.dv AV.GK=some .GK:=(rfl)
theorem APO (i o n s e:Nat):AV.dv (AV.mv i o n s e)=none:=(rfl)
theorem API (t e:Nat) (s:List UInt8):AV.dv (AV.bp t e s)=none:=(rfl)
theorem APP (t:Nat) (es:List (Int×Int)):AV.dv (AV.om t es)=none:=(rfl)
theorem AJW:AV.dv AV.HK=none:=(rfl)
theorem APN (i n s e:Nat):AV.dv (AV.ms i n s e)=none:=(rfl)
theorem APK (f:FuncId) (x y:List AV):AV.dv (AV.fn f x y)=none:=(rfl)
theorem ANI (x:List AV):AV.dv (AV.tup x)=none:=(rfl)
theorem AF7:AV.dv AV.undef=none:=(rfl)
theorem AEQ:AV.rows AV.Af=some []:=(rfl)
theorem AID (t e s:Nat) (r:List (List DV)):AV.rows (AV.own t e s r)=some r:=(rfl)
theorem AEP (r:List (List DV)):AV.rows (AV.clip r)=some r:=(rfl)
theorem AOC (r:List (List DV)):AV.rows (AV.d (.sl r))=some r:=(rfl)
theorem ADN:S4 AV.Af=some (.d (.int .i64 0)):=(rfl)
theorem AG5 (t e s:Nat) (r:List (List DV)):S4 (AV.own t e s r)=some (.d (.int .i64 r.length)):=(rfl)
theorem ADM (r:List (List DV)):S4 (AV.clip r)=some (.d (.int .i64 r.length)):=(rfl)
theorem AKK (i n s e:Nat):S4 (AV.ms i n s e)=some (.d (.int .i64 n)):=(rfl)
theorem AKL (i o n s e:Nat):S4 (AV.mv i o n s e)=some (.d (.int .i64 n)):=(rfl)
theorem ANW (r:List (List DV)):S4 (AV.d (.sl r))=some (.d (.int .i64 r.length)):=(rfl)
theorem AOZ:B8 P K [] F L σ=K F L σ:=(rfl)
theorem AO4 (b:Bool) (q:Q) (t:QT):XT P K b (.one q t) F L σ=B8 P (XT P K false t) [q] F L σ:=by cases b<;>rfl
theorem AO3 (b:Bool) (q:Q) (t s:QT):XT P K b (.alt q t s) F L σ=(B8 P (XT P K false t) [q] F L σ/\XT P K true s F L σ):=by cases b<;>rfl
theorem AME:XT P K false .done F L σ=K F L σ:=(rfl)
theorem AMF:XT P K true .done F L σ=True:=(rfl)
theorem AJB (v:AV) (d:Nat):XPv (some v) (some d) K F L σ=K (put d v F) L σ:=(rfl)
theorem AQT (d:Nat) (x:X):B8 P K (⟨some d,.mv x,none⟩::r) F L σ=B8 P K r (put d (xv F x) F) L σ:=(rfl)
theorem AL9 (d:Option Nat) (x y z:X):B8 P K (⟨d,.pick x y z,none⟩::r) F L σ=XPv (uP (xv F x) (xv F y) (xv F z)) d (B8 P K r) F L σ:=(rfl)
theorem AOS (d:Option Nat) (x:X) (o:Nat):B8 P K (⟨d,.fld x o,none⟩::r) F L σ=XPv (xT (xv F x) o) d (B8 P K r) F L σ:=(rfl)
theorem AQR (d:Option Nat) (x:X) (n:Option Nat):B8 P K (⟨d,.ld x n,none⟩::r) F L σ=XPv (ldA L σ (xv F x) n) d (B8 P K r) F L σ:=(rfl)
theorem AQQ (d:Option Nat) (x y:X) (n:Nat):B8 P K (⟨d,.ix x y n,none⟩::r) F L σ=XPv (ixA (xv F x) (xv F y) n) d (B8 P K r) F L σ:=(rfl)
theorem AMB (d:Option Nat) (x y:X):B8 P K (⟨d,.AIM x y,none⟩::r) F L σ=XPv (kV (xv F x) (xv F y)) d (B8 P K r) F L σ:=(rfl)
theorem AOU (d:Option Nat) (x:X):B8 P K (⟨d,.len x,none⟩::r) F L σ=XPv (S4 (xv F x)) d (B8 P K r) F L σ:=(rfl)
theorem AMC (d:Option Nat) (x:X):B8 P K (⟨d,.AEU x,none⟩::r) F L σ=XPv (o8 (xv F x)) d (B8 P K r) F L σ:=(rfl)
theorem AON (d:Option Nat) (op:BinOp) (x y:X):B8 P K (⟨d,.bin op x y,none⟩::r) F L σ=XPv (AB2 op (xv F x) (xv F y)) d (B8 P K r) F L σ:=(rfl)
theorem AL2 (d:Option Nat) (op:BinOp) (x y:X):B8 P K (⟨d,.AFP op x y,none⟩::r) F L σ=XPv (nO op (xv F x) (xv F y)) d (B8 P K r) F L σ:=(rfl)
theorem AQV (d:Option Nat) (op:UnOp) (x:X):B8 P K (⟨d,.un op x,none⟩::r) F L σ=XPv (unA op (xv F x)) d (B8 P K r) F L σ:=(rfl)
theorem AL7 (d:Option Nat) (k:IntKind) (x:X):B8 P K (⟨d,.conv k x,none⟩::r) F L σ=XPv (nX k (xv F x)) d (B8 P K r) F L σ:=(rfl)
theorem AOO (d:Option Nat) (z:List AV) (ps:List (Nat×Nat×X)):B8 P K (⟨d,.bld z ps,none⟩::r) F L σ=XPv ((KG z F ps).map .agg) d (B8 P K r) F L σ:=(rfl)
theorem AOQ (d:Option Nat) (s n:Nat) (z:List AV) (ps:List (Nat×Nat×X)):B8 P K (⟨d,.bsl s n z ps,none⟩::r) F L σ=XPv (((KG z F ps).bind dvs).map fun l=>.d (.sl (chunk s n l))) d (B8 P K r) F L σ:=(rfl)
theorem AOV (d:Option Nat) (f:FuncId) (x y:List X):B8 P K (⟨d,.mkf f x y,none⟩::r) F L σ=XPv (if (xvs F x++xvs F y).all AV.BF then some (.fn f (xvs F x) (xvs F y)) else none) d (B8 P K r) F L σ:=(rfl)
theorem AOR (d:Option Nat) (x:X) (i:Nat):B8 P K (⟨d,.ext x i,none⟩::r) F L σ=XPv (ACN (xv F x) i) d (B8 P K r) F L σ:=(rfl)
theorem AOY (d:Option Nat) (x:X):B8 P K (⟨d,.nck x,none⟩::r) F L σ=XPv (AHF (xv F x)) d (B8 P K r) F L σ:=(rfl)
theorem AQS (d:Option Nat) (b:Bool) (x y:X):B8 P K (⟨d,.mm b x y,none⟩::r) F L σ=XPv (mmA b (xv F x) (xv F y)) d (B8 P K r) F L σ:=(rfl)
theorem AOP (d:Nat) (x:X):B8 P K (⟨some d,.box x false,none⟩::r) F L σ=(Ap (xv F x).cells=true/\B8 P K r (put d (.lp d 0) (Df d F)) (Ar d (xv F x).cells L) σ):=(rfl)
theorem AQJ (d:Nat) (z:List AV):B8 P K (⟨some d,.al z false,none⟩::r) F L σ=(Ap z=true/\B8 P K r (put d (.lp d 0) (Df d F)) (Ar d z L) σ):=(rfl)
theorem AL3 (d:Nat) (x:X):B8 P K (⟨some d,.box x true,none⟩::r) F L σ=(Ap (xv F x).cells=true/\∀i,σ.blk i=none->B8 P K r (put d (.gp i 0) F) L (σ.AM i (xv F x).cells)):=(rfl)
theorem AOL (d:Nat) (z:List AV):B8 P K (⟨some d,.al z true,none⟩::r) F L σ=(Ap z=true/\∀i,σ.blk i=none->B8 P K r (put d (.gp i 0) F) L (σ.AM i z)):=(rfl)
def AM2 (K:CO) (F:Fm):Option (Lm×AH)->Prop
 |some (L',σ')=>K F L' σ'
 |none=>False
theorem AJC (F:Fm) (L':Lm) (σ':AH):AM2 K F (some (L',σ'))=K F L' σ':=(rfl)
theorem AQU (x v:X) (n:Nat):B8 P K (⟨none,.st x v n,none⟩::r) F L σ=(Ap (xv F v).cells=true/\(xv F v).cells.length=n/\AM2 (B8 P K r) F (stA L σ (xv F v).cells (xv F x))):=by
 show XSt _ _ _ _ _ _ _ _=_;unfold XSt AM2;simp only [true_and];cases stA L σ (xv F v).cells (xv F x)<;>rfl
theorem AQM (d:Option Nat) (o:O) (s:Nat) (want:Bool):B8 P K (⟨d,o,some (s,want)⟩::r) F L σ=XG (gdV want (F s)) (B8 P K (⟨d,o,none⟩::r) F L σ) (B8 P K r (BI d (.tup []) F) L σ):=rfl
theorem AQP (d:Option Nat) (o:O) (s:Nat) (want:Bool) (h:gdV want (F s)=some true):B8 P K (⟨d,o,some (s,want)⟩::r) F L σ=B8 P K (⟨d,o,none⟩::r) F L σ:=by rw [AQM,h];rfl
theorem AQN (d:Option Nat) (o:O) (s:Nat) (want:Bool) (h:gdV want (F s)=some false):B8 P K (⟨d,o,some (s,want)⟩::r) F L σ=B8 P K r (BI d (.tup []) F) L σ:=by rw [AQM,h];rfl
theorem APZ (want b:Bool):gdV want (.d (.bool b))=some (b==want):=(rfl)
theorem AP0 (want:Bool):gdV want (.tup [])=some false:=(rfl)
theorem AEL (d:Nat) (v:AV) (F:Fm):BI (some d) v F=put d v F:=(rfl)
theorem AL6 (d:Option Nat) (f:FuncId) (args:List X):B8 P K (⟨d,.call f args,none⟩::r) F L σ=AJ P f (xvs F args) d (B8 P K r) F L σ:=(rfl)
theorem AJA (d:Option Nat) (f:FuncId) (args:List X):B8 P K (⟨d,.dL f args,none⟩::r) F L σ=gJ P f (xvs F args) d (B8 P K r) F L σ:=(rfl)
theorem AOM (d:Option Nat) (e s b:Nat) (x y:X):B8 P K (⟨d,.app e s b x y,none⟩::r) F L σ=E6 e s b (xv F x) (xv F y) d (B8 P K r) F L σ:=(rfl)
def AMX (P:Program) (x:AV) (args:List AV) (dst:Option Nat) (K:CO) (F:Fm) (L:Lm) (σ:AH):Prop:=
 ∃f first caps,x= .fn f first caps/\CQ P f=true/\AJ P f (first++args++caps) dst K F L σ
theorem AI9 (d:Option Nat) (x:X) (args:List X):B8 P K (⟨d,.Xp x args,none⟩::r) F L σ=AMX P (xv F x) (xvs F args) d (B8 P K r) F L σ:=(rfl)
theorem AOX (d:Option Nat) (e s b:Nat) (z:List AV) (x y:X):B8 P K (⟨d,.msl e s b z x y,none⟩::r) F L σ=Nz e s b z (xv F x) (xv F y) d (B8 P K r) F L σ:=(rfl)
theorem AL1 (d:Option Nat) (e s b:Nat) (x y:X):B8 P K (⟨d,.lP e s b x y,none⟩::r) F L σ=O7 e s b (xv F x) (xv F y) d (B8 P K r) F L σ:=(rfl)
theorem AO2 (d:Option Nat) (x y:X):B8 P K (⟨d,.trn x y,none⟩::r) F L σ=AM3 (xv F x) (xv F y) d (B8 P K r) F L σ:=(rfl)
theorem AL5 (d:Option Nat) (e s n:Nat) (z:List AV) (ps:List (Nat×Nat×X)):B8 P K (⟨d,.dZ e s n z ps,none⟩::r) F L σ=VH e s n (KG z F ps) d (B8 P K r) F L σ:=(rfl)
theorem AOT (d:Option Nat) (x:X) (n:Option Nat):B8 P K (⟨d,.ldl x n,none⟩::r) F L σ=XPv (qN L (xv F x) n) d (B8 P K r) F L σ:=(rfl)
theorem AQL (d:Option Nat) (x:X) (o:Nat) (n:Option Nat):B8 P K (⟨d,.fd x o n,none⟩::r) F L σ=XPv (fdA (xv F x) o n) d (B8 P K r) F L σ:=(rfl)
theorem AO1 (d:Option Nat) (x:X) (a b:Option X):B8 P K (⟨d,.ssl x a b,none⟩::r) F L σ=XPv (W3 (xv F x) (a.map (xv F)) (b.map (xv F))) d (B8 P K r) F L σ:=(rfl)
theorem AO0 (d:Option Nat) (x:X) (a b c:Option X) (n:Nat):B8 P K (⟨d,.sls x a b c n,none⟩::r) F L σ=XPv (AEV (xv F x) (a.map (xv F)) (b.map (xv F)) (c.map (xv F)) n) d (B8 P K r) F L σ:=(rfl)
theorem AMA (d:Option Nat) (ne:Bool) (x:X):B8 P K (⟨d,.zC ne x,none⟩::r) F L σ=XPv (oX ne (xv F x)) d (B8 P K r) F L σ:=(rfl)
theorem AMD (d:Option Nat) (ne:Bool) (n:Nat) (x y:X):B8 P K (⟨d,.z5 ne n x y,none⟩::r) F L σ=XPv (o9 ne n (xv F x) (xv F y)) d (B8 P K r) F L σ:=(rfl)
theorem AOW (d:Option Nat) (b:Bool) (x y z:X):B8 P K (⟨d,.mm3 b x y z,none⟩::r) F L σ=XPv ((mmA b (xv F x) (xv F y)).bind fun v=>mmA b v (xv F z)) d (B8 P K r) F L σ:=(rfl)
theorem AL4 (d:Option Nat) (x:X):B8 P K (⟨d,.AFR x,none⟩::r) F L σ=XPv ((dvs (xv F x).cells).map fun ds=>.d (.ptr ds)) d (B8 P K r) F L σ:=(rfl)
theorem AQK (d:Option Nat) (k:EK) (xs:List X):B8 P K (⟨d,.ex k xs,none⟩::r) F L σ=XEx k (xvs F xs) d (B8 P K r) F L σ:=(rfl)
theorem AL0 (d:Nat) (t:Nat) (z:List AV):XEx (.alt t z) [] (some d) K F L σ=(Ap z=true/\∀i,(σ.blk i=none/\σ.bt i=none)->K (put d (.gp i 0) F) L ((σ.AM i z).Br i (z.length,t))):=by
 simp only [XEx,EK.pure,AZ,if_false,Fq,true_and,ExR,BI]
theorem AL8 (d:Option Nat) (x y z:X):B8 P K (⟨d,.bX x y z,none⟩::r) F L σ=nM (xv F x) (xv F y) (xv F z) d (B8 P K r) F L σ:=(rfl)
theorem nM.mk {t:Nat} {es:List (Int×Int)} {n x:Int} (ht:σ.tok t=true) (hno:es.lookup n=none) (h:∀t',σ.tok t'=false->K (reF t (.om t' (es++[(n,x)])) F) L ((σ.E7 t).Cg t')):
 nM (.om t es) (.d (.int .i64 n)) (.d (.int .i64 x)) none K F L σ:=⟨rfl,t,es,n,x,rfl,rfl,rfl,ht,hno,h⟩
theorem ALG (t:Nat) (x v:AV) (d:Nat):reF t x (put d v F)=put d (reA t x v) (reF t x F):=by
 funext s;simp only [reF,put];split<;>rfl
theorem AQB (t:Nat) (x:AV):reF t x U=U:=(rfl)
theorem AQA (t:Nat) (x:AV) (y:DV):reA t x (.d y)= .d y:=(rfl)
theorem AIA (t:Nat) (x:AV) (es:List (Int×Int)):reA t x (.om t es)=x:=by simp [reA]
theorem AN8 (t:Nat) (x:AV) (i o:Nat):reA t x (.gp i o)= .gp i o:=(rfl)
theorem AN9 (t:Nat) (x:AV) (i o:Nat):reA t x (.lp i o)= .lp i o:=(rfl)
theorem AH9 (t:Nat) (x:AV):reA t x .Af= .Af:=(rfl)
theorem AOA (t:Nat) (x:AV) (i n s e:Nat):reA t x (.ms i n s e)= .ms i n s e:=(rfl)
theorem ALE (t:Nat) (x:AV) (i e s:Nat) (r:List (List DV)):reA t x (.own i e s r)= .own i e s r:=(rfl)
theorem AEM (t:Nat) (x:AV):reA t x .undef= .undef:=(rfl)
theorem ALF (t:Nat) (x:AV) (l:List AV):reA t x (.tup l)= .tup l:=(rfl)
theorem ALD (t:Nat) (x:AV) (l:List AV):reA t x (.agg l)= .agg l:=(rfl)
theorem XEx.mmk {d:Option Nat} (h:∀t,σ.tok t=false->K (BI d (.om t []) F) L (σ.Cg t)):XEx .mmk [] d K F L σ:=⟨rfl,h⟩
theorem XEx.yX {d:Option Nat} {t:Nat} {es:List (Int×Int)} (ht:σ.tok t=true) (hl:es.length<=1000000000) (h:K (BI d (.d (.int .i64 es.length)) F) L σ):XEx .yX [.om t es] d K F L σ:=⟨rfl,⟨ht,hl⟩,h⟩
theorem XEx.AP6 {d:Option Nat} {t:Nat} {es:List (Int×Int)} {n x:Int} (ht:σ.tok t=true) (hx:0<=x/\x<=1000000000) (hl:es.lookup n=some x) (h:K (BI d (.tup [.d (.int .i64 x),.d (.bool true)]) F) L σ):
 XEx .ADV [.om t es,.d (.int .i64 n)] d K F L σ:=⟨rfl,ht,x,.inl ⟨hx,hl,h⟩⟩
theorem XEx.AP5 {d:Option Nat} {t:Nat} {es:List (Int×Int)} {n:Int} (ht:σ.tok t=true) (hl:es.lookup n=none) (h:K (BI d (.tup [.d (.int .i64 0),.d (.bool false)]) F) L σ):
 XEx .ADV [.om t es,.d (.int .i64 n)] d K F L σ:=⟨rfl,ht,0,.inr ⟨hl,h⟩⟩
theorem XEx.nG {d:Nat} {ne b:Bool} {v:AV} (hn:v.BF=true) (hv:qU v=some b) (h:K (put d (.d (.bool (b != ne))) F) L σ):XEx (.nG ne) [v] (some d) K F L σ:=by
 refine ⟨by simp [hn],?_⟩;show (match qU v with|some b=>_|none=>_);rw [hv];exact h
theorem XEx.AIO {d:Nat} {ne:Bool} {v:AV} (hn:v.BF=true) (hr:v.rows=some []) (h:∀b,K (put d (.d (.bool b)) F) L σ):XEx (.nG ne) [v] (some d) K F L σ:=by
 refine ⟨by simp [hn],?_⟩;show (match qU v with|some b=>_|none=>_);cases qU v with
 |some b=>exact h _
 |none=>exact ⟨hr,h⟩
theorem O7.mk {d:Option Nat} {e size bytes n:Nat} {s x:AV} {cs:List AV} {srows:List (List DV)} {σ1:AH} (h1:N8 σ e size s=some (n,cs,σ1)) (h2:x.rows=some srows)
 (h3:∀r∈srows,r.length=size) (h4:srows≠[]) (h5:n+srows.length<=1000000000) (hb:bytes<=10000)
 (h:∀j,σ.blk j=none->K (BI d (.ms j (n+srows.length) size e) F) L (σ1.AM j (cs++Ea srows))):O7 e size bytes s x d K F L σ:=
 ⟨n,cs,σ1,srows,h1,h2,h3,fun e=>absurd e h4,by simp only [maxLen];omega,by
   calc (n+srows.length) * bytes<=1000000000 * 10000:=Nat.mul_le_mul h5 hb
    _<=140737488355328:=by decide,fun _=>h⟩
theorem VH.mk {d:Option Nat} {e s n:Nat} {cs:List AV} (h:∀j,σ.blk j=none->K (BI d (.ms j n s e) F) L (σ.AM j cs)):VH e s n (some cs) d K F L σ:=⟨cs,rfl,.inl h⟩
theorem VH.own {d:Option Nat} {e s n:Nat} {cs:List AV} {ds:List DV} (hd:dvs cs=some ds) (_:True) (h:∀t,σ.tok t=false->K (BI d (.own t e s (chunk s n ds)) F) L (σ.Cg t)):VH e s n (some cs) d K F L σ:=⟨cs,rfl,.inr ⟨ds,hd,h⟩⟩
theorem AJM (n:Nat):dY n none none=some (0,n):=by simp [dY]
theorem Nz.mk {d:Option Nat} {e s b:Nat} {z:List AV} (n:Nat) (hb:b * n<=281474976710656) (hn:n<=9223372036854775807) (h:∀i,σ.blk i=none->K (BI d (.ms i n s e) F) L (σ.AM i (AE n z).flatten)):
 Nz e s b z (.d (.int .i64 n)) (.d (.int .i64 n)) d K F L σ:=
 ⟨.i64,.i64,n,rfl,rfl,by omega,by rw [<- Int.natCast_mul];omega,by omega,fun i hi=>by simpa using h i hi⟩
theorem AJ.mk {d:Option Nat} {f:FuncId} {args:List AV} {Q:AV->AH->Prop} (hn:args.all AV.BF=true) (h:AS P f args σ Q) (hk:∀v σ',Q v σ'->K (BI d v F) L σ'):
 AJ P f args d K F L σ:=⟨hn,Q,h,hk⟩
theorem gJ.mk {d:Option Nat} {f:FuncId} {args:List AV} {v:AV} (hn:args.all AV.BF=true) (h:AS P f args σ (fun v' σ'=>v'=v/\σ'=σ)) (hk:K (BI d v F) L σ) (hv:v.BF=true:=by rfl):
 gJ P f args d K F L σ:=⟨hn,v,⟨hv,h⟩,hk⟩
theorem E6.mk {d:Option Nat} {e size bytes:Nat} {s x:AV} {rows srows:List (List DV)} {σ1:AH} (h1:ZK σ e size s=some (rows,σ1)) (h2:x.rows=some srows)
 (h3:∀r∈srows,r.length=size) (h4:rows.length+srows.length<=maxLen) (h5:(rows.length+srows.length) * bytes<=140737488355328)
 (h:∀t,σ.tok t=false->K (BI d (.own t e size (rows++srows)) F) L (σ1.Cg t)):E6 e size bytes s x d K F L σ:= .inl ⟨rows,σ1,srows,h1,h2,h3,h4,h5,h⟩
theorem E6.clip {d:Option Nat} {e size bytes:Nat} {x:AV} {rows srows:List (List DV)} (h2:x.rows=some srows)
 (h3:∀r∈rows,r.length=size) (h3':∀r∈srows,r.length=size) (h4:rows.length+srows.length<=1000000000) (hb:bytes<=10000)
 (h:K (BI d (.d (.sl (rows++srows))) F) L σ):E6 e size bytes (.clip rows) x d K F L σ:=
 .inr ⟨rows,srows,rfl,h2,h3,h3',by simp only [maxLen];omega,by
  calc (rows.length+srows.length) * bytes<=1000000000 * 10000:=Nat.mul_le_mul h4 hb
   _<=140737488355328:=by decide,h⟩
theorem AS.args {f:FuncId} {args args':List AV} {Q:AV->AH->Prop} (h:AS P f args' σ Q) (hw:∀g vs,VRs g args vs->VRs g args' vs):AS P f args σ Q:=
 fun base g Pr w0 w vs hr hv=>h base g Pr w0 w vs hr (hw g vs hv)
theorem ZH:∀(ops:List Q) {K K':CO} {F:Fm} {L:Lm} {σ:AH},(∀F L σ,K F L σ->K' F L σ)->B8 P K ops F L σ->B8 P K' ops F L σ
 |[],_,_,_,_,_,hk,hx=>hk _ _ _ hx
 |q::rest,K,K',F,L,σ,hk,hx=>by
  have hx:XG (gd F q.grd) (XO P q.dst (B8 P K rest) F L σ q.o) (B8 P K rest (BI q.dst (.tup []) F) L σ):=hx;show XG (gd F q.grd) (XO P q.dst (B8 P K' rest) F L σ q.o) (B8 P K' rest (BI q.dst (.tup []) F) L σ);cases hc:gd F q.grd with
  |none=>rw [hc] at hx;exact hx.elim
  |some b=>
   rw [hc] at hx;cases b
   . exact ZH rest hk hx
   . exact wF (fun F L σ h=>ZH rest hk h) hx
def Cut (live:List Nat) (F0:Fm) (L0:Lm) (σ0:AH):CO:=fun F L σ=>Ia live F=F0/\He live L=L0/\σ=σ0
theorem Run.AOB {cx:Cx} {KK:AV->AH->Prop} {k:List CI} {ops:List Q} {live:List Nat} (hm:cx.P.follows .mixedOrders=true) (F0:Fm) (L0:Lm) (σ0:AH)
 (h1:B8 cx.P (Cut live F0 L0 σ0) ops F L σ) (h2:Run cx KK k F0 L0 σ0):Run cx KK (.code (.reg ops live)::k) F L σ:=
 Run.reg hm (ZH ops (fun F L σ h=>by obtain ⟨e1,e2,e3⟩:=h;show Run cx KK k (Ia live F) (He live L) σ;rw [e1,e2,e3];exact h2) h1)
theorem zZ {P:Program} {m m1 m':Machine} (h:step P m= .next m1) (hs:Steps P m m') (hne:m≠m'):Steps P m1 m':=by
 obtain ⟨n,hn⟩:=hs;cases n with
 |zero=>simp only [runN] at hn;cases hn;exact absurd rfl hne
 |succ n=>simp only [runN,h] at hn;exact ⟨n,hn⟩
theorem Run.BB {cx:Cx} {KK:AV->AH->Prop} {k:List CI} {c:C} (h:Run cx KK (.again c::k) F L σ):Run cx KK (.code (.loop c)::k) F L σ:=by
 intro items base g lam Pr a w0 w b cs hi hf hb hk;obtain ⟨p,ys,rfl,⟨p1,rfl,h1⟩,hys⟩:=hi.code;obtain ⟨v,w',fr,hs,hfn,hl,rest⟩:=h (.inLoop p1::ys) base g lam Pr a w0 w b cs (.cons ⟨p1,rfl,h1⟩ hys) hf hb hk;refine ⟨v,w',fr,.head step_loop (zZ step_inLoop hs fun e=>?_),hfn,hl,rest⟩;have h2:(lone (b.at a (.inLoop p1::ys)) cs w).gs=(lone fr cs w').gs:=by rw [e]
 simp only [lone,Array.mk.injEq,List.cons.injEq,Goroutine.mk.injEq] at h2;have h3:(b.at a (.inLoop p1::ys)).mode=fr.mode:=by rw [h2.1.1]
 rw [hl.1] at h3;cases h3
def ZG (v:AV) (A B:Prop):Prop:=
 match v with
 | .d (.bool b)=>(b=true->A)/\(b=false->B)
 |_=>False
theorem ALX (b:Bool) (A B:Prop):ZG (.d (.bool b)) A B=((b=true->A)/\(b=false->B)):=(rfl)
theorem ALZ (A B:Prop):ZG (.d (.bool true)) A B=A:=by simp [ZG]
theorem ALY (A B:Prop):ZG (.d (.bool false)) A B=B:=by simp [ZG]
theorem Run.AMI {cx:Cx} {KK:AV->AH->Prop} {k:List CI} {x:X} {t e:C} (h:ZG (xv F x) (Run cx KK (.code t::k) F L σ) (Run cx KK (.code e::k) F L σ)):Run cx KK (.code (.cond x t e)::k) F L σ:=by
 cases hx:xv F x<;>rw [hx] at h<;>try exact h.elim
 rename_i dv;cases dv<;>try exact h.elim
 exact Run.cond hx h.1 h.2
mutual
def AV.plain:AV->AV
 | .Af=>.d (.sl [])
 | .GK=>.d .GK
 | .own _ _ _ rows=>.d (.sl rows)
 | .clip rows=>.d (.sl rows)
 | .agg cs=>.agg (AV.CX cs)
 | .tup vs=>.tup (AV.CX vs)
 |v=>v
def AV.CX:List AV->List AV
 |[]=>[]
 |v::l=>AV.plain v::AV.CX l
end
theorem Jh (x:DV):AV.plain (AV.d x)=(AV.d x):=by simp only [AV.plain]
theorem KC:AV.plain AV.Af= .d (.sl []):=by simp only [AV.plain]
theorem AEF (t e s:Nat) (r:List (List DV)):AV.plain (AV.own t e s r)= .d (.sl r):=by simp only [AV.plain]
theorem zA (r:List (List DV)):AV.plain (AV.clip r)= .d (.sl r):=by simp only [AV.plain]
theorem S7 (r:List AV):AV.plain (AV.agg r)= .agg (AV.CX r):=by simp only [AV.plain]
theorem AHW (j o:Nat):AV.plain (AV.lp j o)=(AV.lp j o):=by simp only [AV.plain]
theorem AHV (j o:Nat):AV.plain (AV.gp j o)=(AV.gp j o):=by simp only [AV.plain]
theorem AHT (r:List DV) (o:Nat):AV.plain (AV.ep r o)=(AV.ep r o):=by simp only [AV.plain]
theorem Yo:AV.plain AV.GK= .d .GK:=by simp only [AV.plain]
theorem AHX (i n s e:Nat):AV.plain (AV.ms i n s e)=(AV.ms i n s e):=by simp only [AV.plain]
theorem AHY (i o n s e:Nat):AV.plain (AV.mv i o n s e)=(AV.mv i o n s e):=by simp only [AV.plain]
theorem AHS (t e:Nat) (s:List UInt8):AV.plain (AV.bp t e s)=(AV.bp t e s):=by simp only [AV.plain]
theorem AHZ (t:Nat) (es:List (Int×Int)):AV.plain (AV.om t es)=AV.om t es:=by simp only [AV.plain]
theorem zB:AV.plain AV.HK=AV.HK:=by simp only [AV.plain]
theorem AHU (f:FuncId) (x y:List AV):AV.plain (AV.fn f x y)=(AV.fn f x y):=by simp only [AV.plain]
theorem AEG (x:List AV):AV.plain (AV.tup x)= .tup (AV.CX x):=by simp only [AV.plain]
theorem uR:AV.plain AV.undef=AV.undef:=by simp only [AV.plain]
theorem MJ:∀(l:List AV) (i:Nat),(AV.CX l)[i]?=(l[i]?).map AV.plain
 |[],i=>by simp [AV.CX]
 |v::l,0=>by simp [AV.CX]
 |v::l,i+1=>by simp [AV.CX,MJ l i]
theorem Tf:∀l:List AV,(AV.CX l).length=l.length
 |[]=>rfl
 |v::l=>by simp [AV.CX,Tf l]
theorem Yn {v:AV} (h:v.B5=true):v.plain.B5=true:=by cases v<;>first|rfl|(cases h;done)
theorem VR.plain {g:Gh} {x:AV} {v:Value} (h:VR g x v):VR g x.plain v:=by
 induction h with
 |d h=>simpa [AV.plain] using VR.d h
 |Af=>exact .d (.nil (Fx _) (fun _=>rfl))
 |own h _ _=>exact .d h
 |clip h=>exact .d h
 |@agg cs vs hl hc _ ih=>
  refine .agg (by rw [Tf];exact hl) (fun c hcm=>?_) (fun i c v hci hvi=>?_)
  . obtain ⟨i,hi,rfl⟩:=Bn hcm;have:=MJ cs i;rw [Aw hi] at this;cases hcs:cs[i]? with
    |none=>rw [hcs] at this;cases this
    |some c'=>rw [hcs] at this;simp only [Ad,AK] at this;rw [this];exact Yn (hc c' (AD hcs))
  . rw [MJ] at hci;cases hcs:cs[i]? with
    |none=>rw [hcs] at hci;cases hci
    |some c'=>rw [hcs] at hci;simp only [Ad,AK] at hci;rw [<- hci];exact ih i c' v hcs hvi
 |gp h=>simpa [AV.plain] using VR.gp h
 |ep hi hr=>simpa [AV.plain] using VR.ep hi hr
 |GK=>exact .d .GK
 |HK=>simpa [AV.plain] using VR.HK
 |om h=>simpa [AV.plain] using VR.om h
 |ms h hr hn hm=>simpa [AV.plain] using VR.ms h hr hn hm
 |mv h hr hn hm ho=>simpa [AV.plain] using VR.mv h hr hn hm ho
 |bp h k=>simpa [AV.plain] using VR.bp h k
 |fn hl hl' h h' _ _=>simpa [AV.plain] using VR.fn hl hl' h h'
 |@tup cs vs hl _ ih=>
  refine .tup (by rw [Tf];exact hl) (fun i c v hci hvi=>?_);rw [MJ] at hci;cases hcs:cs[i]? with
  |none=>rw [hcs] at hci;cases hci
  |some c'=>rw [hcs] at hci;simp only [Ad,AK] at hci;rw [<- hci];exact ih i c' v hcs hvi
 |undef=>simpa [AV.plain] using VR.undef
theorem VRs.plain {g:Gh} {xs:List AV} {vs:List Value} (h:VRs g xs vs):VRs g (AV.CX xs) vs:=by
 induction h with
 |nil=>exact .nil
 |cons h _ ih=>exact .cons h.plain ih
theorem AS.plain {f:FuncId} {args:List AV} {Q:AV->AH->Prop} (h:AS P f (AV.CX args) σ Q):AS P f args σ Q:=
 fun base g Pr w0 w vs hr hv=>h base g Pr w0 w vs hr hv.plain
def AFM (o:Option AV) (K:AV->AH->Prop) (σ:AH):Prop:=
 match o with
 |some v=>K v σ
 |none=>False
theorem AFC (v:AV) (K:AV->AH->Prop) (σ:AH):AFM (some v) K σ=K v σ:=(rfl)
theorem Run.CK {cx:Cx} {KK:AV->AH->Prop} {k:List CI} {σ2:AH} (hg:Good cx) (hσ:σ2.le σ) (h:AFM ((kF F L σ cx.rs).map AV.plain) KK σ2):Run cx KK (.code .ret::k) F L σ:=by
 cases hr:kF F L σ cx.rs with
 |none=>rw [hr] at h;exact h.elim
 |some v=>rw [hr] at h;exact Run.ret hg hr (fun _ _ h=>h.plain) hσ h
theorem Run.ARD {cx:Cx} {KK:AV->AH->Prop} {k:List CI} {σ2:AH} (hg:Good cx) (hσ:σ2.le σ) (h:AFM (kF F L σ cx.rs) KK σ2):Run cx KK (.code .ret::k) F L σ:=by
 cases hr:kF F L σ cx.rs with
 |none=>rw [hr] at h;exact h.elim
 |some v=>rw [hr] at h;exact Run.ret hg hr (fun _ _ h=>h) hσ h
theorem AI (σ:AH) (i j:Nat) (cs:List AV):(σ.AM i cs).blk j=if j=i then some cs else σ.blk j:=(rfl)
theorem F4 (σ:AH) (i:Nat) (cs ds:List AV):(σ.AM i cs).AM i ds=σ.AM i ds:=by
 unfold AH.AM;congr 1;funext j;by_cases h:j=i<;>simp [h]
theorem GN {σ:AH} {i:Nat} {cs:List AV} (h:σ.blk i=some cs):σ.AM i cs=σ:=by
 unfold AH.AM;cases σ;congr 1;funext j;split
 . rename_i e;subst e;exact h.symm
 . rfl
theorem Sv (σ:AH) (t i:Nat):(σ.Cg t).blk i=σ.blk i:=(rfl)
theorem xN (σ:AH) (t i:Nat):(σ.E7 t).blk i=σ.blk i:=(rfl)
theorem AH.le_trans {a b c:AH} (h:a.le b) (k:b.le c):a.le c:=⟨fun i cs x=>k.blk i cs (h.blk i cs x),fun t x=>k.tok t (h.tok t x),h.gt.trans k.gt,fun i x hx=>k.bt i x (h.bt i x hx)⟩
theorem CF {σ:AH} {i:Nat} {cs:List AV} (h:σ.blk i=none):σ.le (σ.AM i cs):=
 ⟨fun j ds hj=>by
   have:j≠i:=fun e=>by rw [e,h] at hj;cases hj
   rw [AI,if_neg this];exact hj,fun _ h=>h,rfl,fun _ _ h=>h⟩
structure C4 (σ:AH) (e s:Nat) (rows:List (List DV)) (v:AV) (σ':AH):Prop where
 app:∃σ1,ZK σ' e s v=some (rows,σ1)/\σ.le σ1
 le:σ.le σ'
 plain:v.plain= .d (.sl rows)
 len:S4 v=some (.d (.int .i64 rows.length))
 cell:v.B5=true
 BF:v.BF=true
 BT:∀k,v.BT k=false
 dv:v.dv=some (.sl rows)
 cells:v.cells=[v]
theorem C4.nil (σ:AH) (e s:Nat):C4 σ e s [] .Af σ:=
 ⟨⟨σ,rfl,AH.le_refl σ⟩,AH.le_refl σ,rfl,rfl,rfl,rfl,fun _=>rfl,rfl,rfl⟩
theorem C4.own {σ σ1 σ':AH} {e s t:Nat} {rows:List (List DV)} (hle:σ.le σ1) (hle':σ.le σ') (ht:σ'.tok t=false):C4 σ e s rows (.own t e s rows) (σ1.Cg t):=by
 have hnt:σ.tok t=false:=by
  cases h:σ.tok t with
  |false=>rfl
  |true=>rw [hle'.tok t h] at ht;cases ht
 refine ⟨⟨(σ1.Cg t).E7 t,by simp [ZK,AH.Cg],⟨fun i cs h=>hle.blk i cs h,fun t' h=>?_,hle.gt,hle.bt⟩⟩,⟨fun i cs h=>hle.blk i cs h,fun t' h=>?_,hle.gt,hle.bt⟩,rfl,rfl,rfl,rfl,fun _=>rfl,rfl,rfl⟩
 . have hne:t'≠t:=fun e=>by rw [e,hnt] at h;cases h
   simp [AH.E7,AH.Cg,hne,hle.tok t' h]
 . have hne:t'≠t:=fun e=>by rw [e,hnt] at h;cases h
   simp [AH.Cg,hne,hle.tok t' h]
theorem E6.own {σ0:AH} {d:Option Nat} {e size bytes:Nat} {s x:AV} {rows srows:List (List DV)} (ho:C4 σ0 e size rows s σ) (h2:x.rows=some srows)
 (h3:∀r∈srows,r.length=size) (h4:rows.length+srows.length<=1000000000) (hb:bytes<=10000)
 (h:∀v σ',C4 σ0 e size (rows++srows) v σ'->(∀i,σ'.blk i=σ.blk i)->K (BI d v F) L σ'):E6 e size bytes s x d K F L σ:=by
 obtain ⟨σ1,ha,hl⟩:=ho.app;refine E6.mk ha h2 h3 (by simp only [maxLen];omega) ?_ (fun t ht=>h _ _ (C4.own hl ho.le ht) (fun i=>?_))
 . calc (rows.length+srows.length) * bytes<=1000000000 * 10000:=Nat.mul_le_mul h4 hb
    _<=140737488355328:=by decide
 . rw [Sv];unfold ZK at ha;split at ha
   . cases ha;rfl
   . split at ha
     . cases ha;rfl
     . cases ha
   . cases ha
variable {cx:Cx} {KK:AV->AH->Prop} {k:List CI}
theorem Run.facts {p:Prop} (hp:∀base g lam Pr a w0 w,Bo base g lam Pr cx.N F L σ a w0 w->p) (h:p->Run cx KK k F L σ):Run cx KK k F L σ:=
 fun items base g lam Pr a w0 w b cs hi hf hb hk=>h (hp base g lam Pr a w0 w hf) items base g lam Pr a w0 w b cs hi hf hb hk
def AV.FU:AV->Prop
 | .d (.sl rows)=>rows.length<=9223372036854775807
 | .d (.str s)=>s.length<=9223372036854775807
 | .d (.int k n)=>k.min<=n/\n<=k.max
 | .own _ _ _ rows=>rows.length<=9223372036854775807
 | .clip rows=>rows.length<=9223372036854775807
 |_=>True
theorem VR.FU {g:Gh} {x:AV} {v:Value} (h:VR g x v):x.FU:=by
 cases h with
 |d h=>
  cases h with
  |int h=>exact h
  |bool=>trivial
  |str h=>exact h
  |nil=>simp [AV.FU]
  |sl hc hm _ _ _=>exact Ah hc hm
  |ptr=>trivial
  |GK=>trivial
 |own h _ _=>obtain ⟨_,_,_,h2⟩:=h.PR;exact h2
 |clip h=>obtain ⟨_,_,_,h2⟩:=h.PR;exact h2
 |_=>trivial
theorem SV.FU {g:Gh} {lam:Nat->Option Nat} {x:AV} {v:Value} (h:SV g lam x v):x.FU:=by
 cases x<;>first|exact VR.FU h|trivial
theorem Run.slot (s:Nat) (h:(F s).FU->Run cx KK k F L σ):Run cx KK k F L σ:=
 Run.facts (fun _ _ _ _ _ _ _ hf=>(hf.tm s).FU) h
theorem Run.cell (j o:Nat) {cs:List AV} {c:AV} (hL:L j=some cs) (hc:cs[o]?=some c) (h:c.FU->Run cx KK k F L σ):Run cx KK k F L σ:=
 Run.facts (fun _ _ _ _ _ _ _ hf=>by
  obtain ⟨_,b,vs,ty,_,_,_,hr⟩:=hf.loc j cs hL;obtain ⟨v,_,hv⟩:=hr.at o c hc;exact hv.FU) h
end Go.Ab
namespace Go.Ab
open Go.RowKit Go.ChangeShapes Go.WideShapes
inductive RDs (im:Nat->Nat->Option Value):List DV->List Value->Prop
 |nil:RDs im [] []
 |cons {x:DV} {v:Value} {xs:List DV} {vs:List Value} (h:RD im x v) (hs:RDs im xs vs):RDs im (x::xs) (v::vs)
theorem RDs.length {im:Nat->Nat->Option Value} {xs:List DV} {vs:List Value} (h:RDs im xs vs):vs.length=xs.length:=by
 induction h with
 |nil=>rfl
 |cons _ _ ih=>simp [ih]
theorem RDs.idx {im:Nat->Nat->Option Value} {xs:List DV} {vs:List Value} (h:RDs im xs vs):∀(i:Nat) (x:DV) (v:Value),xs[i]?=some x->vs[i]?=some v->RD im x v:=by
 induction h with
 |nil=>intro i x v hx;simp at hx
 |cons h _ ih=>
  intro i x v hx hv;cases i with
  |zero=>simp at hx hv;subst hx;subst hv;exact h
  |succ i=>exact ih i x v (by simpa using hx) (by simpa using hv)
theorem RDs.append {im:Nat->Nat->Option Value} {xs ys:List DV} {vs us:List Value} (h:RDs im xs vs) (k:RDs im ys us):RDs im (xs++ys) (vs++us):=by
 induction h with
 |nil=>exact k
 |cons h _ ih=>exact .cons h ih
theorem RDs.vrs {g:Gh} {xs:List DV} {vs:List Value} (h:RDs g.im xs vs):VRs g (xs.map AV.d) vs:=by
 induction h with
 |nil=>exact .nil
 |cons h _ ih=>exact .cons (.d h) ih
mutual
inductive DT (P:Program):TypeId->List DV->Prop
 |bool {t:TypeId} {b:Bool} (h:P.underlying t=some .bool):DT P t [.bool b]
 |int {t:TypeId} {k:IntKind} {n:Int} (h:P.underlying t=some (.int k)) (hn:k.has n):DT P t [.int k n]
 |str {t:TypeId} {s:List UInt8} (h:P.underlying t=some .string) (hs:s.length<=maxLen):DT P t [.str s]
 |sl {t e:TypeId} {rows:List (List DV)} (h:P.underlying t=some (.slice e)) (hm:rows.length<=maxLen) (hr:∀r∈rows,DT P e r):DT P t [.sl rows]
 |struct {t:TypeId} {fs:Array Field} {ds:List DV} (h:P.underlying t=some (.struct fs)) (hf:DTs P fs.toList ds):DT P t ds
inductive DTs (P:Program):List Field->List DV->Prop
 |nil:DTs P [] []
 |cons {f:Field} {fs:List Field} {a b:List DV} (h:DT P f.type a) (hs:DTs P fs b):DTs P (f::fs) (a++b)
end
def Mb (P:Program) (S:List TypeId):Nat->List Field->Nat->Bool
 |off,[],n=>off==n
 |off,f::fs,n=>f.offset==off&&S.contains f.type&&Mb P S (off+P.cellsOf f.type) fs n
def cD (P:Program) (S:List TypeId) (t:TypeId):Bool:=
 match P.underlying t with
 |some .bool|some (.int _)|some .string=>true
 |some (.slice e)=>S.contains e&&decide (0 < P.cellsOf e)
 |some (.struct fs)=>Mb P S 0 fs.toList (P.cellsOf t)
 |_=>false
theorem uB {α β:Type} {f:α->Option β}:∀ {l:List α} {r:List β},l.mapM f=some r->∀x∈l,∃y,f x=some y
 |[],_,_,x,hx=>by cases hx
 |a::l,r,h,x,hx=>by
  simp only [List.mapM_cons,AP,AB] at h;obtain ⟨y,hy,ys,hys,_⟩:=h;cases hx with
  |head=>exact ⟨y,hy⟩
  |tail _ hx=>exact uB hys x hx
theorem c7 {α:Type} (p:Nat->α->Prop):∀n,(∀i,i < n->∃r,p i r)->∃rows:List α,rows.length=n/\∀i r,rows[i]?=some r->p i r
 |0,_=>⟨[],rfl,by simp⟩
 |n+1,h=>by
  obtain ⟨rows,hl,hr⟩:=c7 p n (fun i hi=>h i (by omega));obtain ⟨r,hp⟩:=h n (by omega);refine ⟨rows++[r],by simp [hl],fun i r' hi=>?_⟩;by_cases hlt:i < rows.length
  . rw [BH hlt] at hi;exact hr i r' hi
  . rw [At (by omega)] at hi
    have:i - rows.length=0:=by
     rcases K6 (i - rows.length) with h|h
     . exact h
     . rw [BY (by simp;omega)] at hi;cases hi
    rw [this] at hi;simp at hi;subst hi;have:i=n:=by omega
    subst this;exact hp
def imW (w:World):Nat->Nat->Option Value:=fun b o=>w.cell? ⟨b,o,none⟩
theorem KF {w:World} {base:Nat} {a:Addr} {n:Nat} {cs:List Value} (h:w.cells? base a n=some cs):cs.length=n/\∀j,j < n->w.cell? (a.add j)=cs[j]?:=by
 unfold World.cells? at h;split at h
 . have:∀(l:List Nat) (cs:List Value),l.mapM (fun i=>w.cell? (a.add i))=some cs->cs.length=l.length/\∀(j i:Nat),l[j]?=some i->w.cell? (a.add i)=cs[j]?:=by
    intro l
    induction l with
    |nil=>intro cs h;simp at h;subst h;simp
    |cons x l ih=>
     intro cs h;simp only [List.mapM_cons,AP,AB] at h;obtain ⟨y,hy,ys,hys,he⟩:=h;cases he;obtain ⟨h1,h2⟩:=ih ys hys;refine ⟨by simp [h1],fun j i hj=>?_⟩;cases j with
     |zero=>simp at hj;subst hj;simpa using hy
     |succ j=>simpa using h2 j i (by simpa using hj)
   obtain ⟨h1,h2⟩:=this _ _ h;exact ⟨by simpa using h1,fun j hj=>h2 j j (by simp [hj])⟩
 . cases h
section
variable {H:Type} {enc:TypeId×Value->H} {P:Program} {w:World} {base:Nat} {spare:Nat->Bool} {held:Bool}
theorem dI {S:List TypeId} {fuel:Nat} {cs:List Value}
 (ih:∀(t:TypeId) (cs:List Value) (x:DataW H×List MemPlace),t∈S->DataW.trod enc P w base spare held fuel t cs=some x->∃ds,DT P t ds/\RDs (imW w) ds cs):
 ∀(fs:List Field) (off:Nat) (n:Nat) (xs:List (DataW H×List MemPlace)),Mb P S off fs n=true->cs.length=n->off<=n->
  fs.mapM (fun f=>DataW.trod enc P w base spare held fuel f.type ((cs.drop f.offset).take (P.cellsOf f.type)))=some xs->∃ds,DTs P fs ds/\RDs (imW w) ds (cs.drop off)
 |[],off,n,xs,hk,hl,_,_=>by
  simp only [Mb,beq_iff_eq] at hk;refine ⟨[],.nil,?_⟩;rw [HG (by omega)];exact .nil
 |f::fs,off,n,xs,hk,hl,hle,h=>by
  simp only [Mb,AQ,beq_iff_eq,Ai] at hk;obtain ⟨⟨h1,h2⟩,h3⟩:=hk;simp only [List.mapM_cons,AP,AB] at h;obtain ⟨y,hy,ys,hys,_⟩:=h;obtain ⟨a,ha,har⟩:=ih _ _ _ h2 hy
  have hoff:∀(fs:List Field) (off n:Nat),Mb P S off fs n=true->off<=n:=by
   intro fs
   induction fs with
   |nil=>intro off n h;simp only [Mb,beq_iff_eq] at h;omega
   |cons f fs ih=>intro off n h;simp only [Mb,AQ] at h;have:=ih _ _ h.2;omega
  obtain ⟨b,hb,hbr⟩:=dI ih fs (off+P.cellsOf f.type) n ys h3 hl (hoff _ _ _ h3) hys;refine ⟨a++b,.cons ha hb,?_⟩;have:=har.append hbr;rw [h1] at this;rw [<- Eu,Ac] at this;exact this
theorem ABD {S:List TypeId} (hS:S.all (cD P S)=true):∀(fuel:Nat) (t:TypeId) (cs:List Value) (x:DataW H×List MemPlace),t∈S->DataW.trod enc P w base spare held fuel t cs=some x->∃ds,DT P t ds/\RDs (imW w) ds cs
 |0,t,cs,x,_,h=>by simp [DataW.trod] at h
 |fuel+1,t,cs,x,ht,h=>by
  have ih:=ABD hS fuel;have hp:cD P S t=true:=Aq.1 hS t ht;unfold cD at hp;unfold DataW.trod at h;cases hu:P.underlying t with
  |none=>rw [hu] at hp;cases hp
  |some u=>
   rw [hu] at hp h;cases u<;>simp only [AZ] at hp
   case bool=>
    split at h<;>(try (cases h;done))<;>rename_i h1<;>cases h1;exact ⟨[.bool _],.bool hu,.cons .bool .nil⟩
   case int k=>
    split at h<;>(try (cases h;done))<;>rename_i h1<;>cases h1;split at h
    . rename_i hk;obtain ⟨rfl,hk⟩:=hk;simp only [Lit.wf,AQ,decide_eq_true_eq] at hk;exact ⟨[.int _ _],.int hu (by simpa [IntKind.has] using hk),.cons (.int (by simpa [IntKind.has] using hk)) .nil⟩
    . cases h
   case string=>
    split at h<;>(try (cases h;done))<;>rename_i h1<;>cases h1;split at h
    . rename_i s hk;have hk':s.data.toList.length<=maxLen:=by rw [Nv];exact hk
      refine ⟨[.str s.data.toList],.str hu hk',.cons ?_ .nil⟩;have:(⟨s.data.toList.toArray⟩:ByteArray)=s:=by cases s;simp
      have h2:=RD.str (im:=imW w) (s:=s.data.toList) hk'
      rwa [this] at h2
    . cases h
   case slice e=>
    simp only [AQ,Ai,decide_eq_true_eq] at hp;obtain ⟨he,hpos⟩:=hp;split at h<;>(try (cases h;done))<;>rename_i h1<;>cases h1
    . exact ⟨[.sl []],.sl hu (by simp) (by simp),.cons (.nil (Fx _) (fun _=>rfl)) .nil⟩
    . rename_i a len cap;simp only at h;split at h
      . rename_i hc;obtain ⟨_,hlc,hcm⟩:=hc;simp only [AB] at h;obtain ⟨elems,hel,_⟩:=h;have hall:=uB hel
        have:∀i,i < len->∃r,DT P e r/\∃cs,w.cells? base (a.add (i * P.cellsOf e)) (P.cellsOf e)=some cs/\RDs (imW w) r cs:=by
         intro i hi;obtain ⟨y,hy⟩:=hall i (by simp [hi]);simp only [AB] at hy;obtain ⟨cs,hcs,hy⟩:=hy;obtain ⟨r,h1,h2⟩:=ih _ _ _ he hy;exact ⟨r,h1,cs,hcs,h2⟩
        obtain ⟨rows,hl,hr⟩:=c7 _ len this;refine ⟨[.sl rows],.sl hu (by omega) (fun r hr'=>?_),.cons ?_ .nil⟩
        . obtain ⟨i,hi,rfl⟩:=Bn hr';exact (hr i _ (by simp [hi])).1
        . rcases K6 len with h0|h0
          . subst h0;have:rows=[]:=Ay hl;subst this;exact .nil hcm (fun h=>by cases h)
          . obtain ⟨b,off,spot⟩:=a
            have hspot:spot=none:=by
             obtain ⟨_,_,cs,hcs,_⟩:=this 0 h0;have h2:=(KF hcs).2 0 hpos;have h3:0 < cs.length:=by rw [(KF hcs).1];exact hpos
             rw [Aw h3] at h2;simpa [Addr.add] using World.cell?_spot h2
            subst hspot;subst hl;refine .sl (size:=P.cellsOf e) (f:=fun i j=>((imW w) b (off+i * P.cellsOf e+j)).getD Cf) hlc hcm (fun r hr'=>?_) (fun i j hi hj=>?_) (fun i r j x hi hj=>?_)
            . obtain ⟨i,hi,rfl⟩:=Bn hr';obtain ⟨_,cs,hcs,hrd⟩:=hr i rows[i] (Aw hi);exact hrd.length.symm.trans (KF hcs).1
            . obtain ⟨r,hri⟩:∃r,rows[i]?=some r:=⟨rows[i],by simp [hi]⟩;obtain ⟨_,cs,hcs,hrd⟩:=hr i r hri;have h2:=(KF hcs).2 j hj;have h3:j < cs.length:=by rw [(KF hcs).1];exact hj
              rw [Aw h3] at h2;have h4:imW w b (off+i * P.cellsOf e+j)=some cs[j]:=by rw [Addr.add_lit,Addr.add_lit] at h2;exact h2
              rw [h4];rfl
            . obtain ⟨_,cs,hcs,hrd⟩:=hr i r hi;have hj':j < r.length:=(AF.1 hj).1;have hjn:j < P.cellsOf e:=by have:=hrd.length;rw [(KF hcs).1] at this;omega
              have h2:=(KF hcs).2 j hjn;have h3:j < cs.length:=by rw [(KF hcs).1];exact hjn
              rw [Aw h3] at h2;have h4:imW w b (off+i * P.cellsOf e+j)=some cs[j]:=by rw [Addr.add_lit,Addr.add_lit] at h2;exact h2
              rw [h4];exact hrd.idx j x cs[j] hj (by simp [h3])
      . cases h
   case struct fs=>
    simp only at h;split at h
    . rename_i hc;simp only [AL] at h;obtain ⟨xs,hxs,_⟩:=h;obtain ⟨ds,h1,h2⟩:=dI ih fs.toList 0 _ xs hp hc (Fx _) hxs;exact ⟨ds,.struct hu h1,by simpa using h2⟩
    . cases h
end
def AB0 (P:Program) (t:TypeId) (ds:List DV):AV:=
 match P.underlying t with
 |some (.struct _)=>.agg (ds.map AV.d)
 |_=>match ds with|[x]=>.d x|_=>.undef
theorem cY {P:Program} {t:TypeId} {fs:Array Field} (h:P.underlying t=some (.struct fs)) (ds:List DV):AB0 P t ds= .agg (ds.map AV.d):=by
 unfold AB0;rw [h]
theorem AFN {P:Program} {t:TypeId} {u:TypeDesc} (h:P.underlying t=some u) (hn:∀fs,u≠.struct fs) (x:DV):AB0 P t [x]= .d x:=by
 unfold AB0;rw [h];cases u<;>first|rfl|exact absurd rfl (hn _)
inductive cX (P:Program):List TypeId->List AV->Prop
 |nil:cX P [] []
 |cons {t:TypeId} {ts:List TypeId} {ds:List DV} {avs:List AV} (h:DT P t ds) (hs:cX P ts avs):cX P (t::ts) (AB0 P t ds::avs)
section
variable {H:Type} {enc:TypeId×Value->H} {P:Program} {w:World} {held:Bool}
theorem oV {S:List TypeId} (hS:S.all (cD P S)=true) {g:Gh} (hg:g.im=imW w) {b:Nat} {spare:Nat->Bool} {base:Nat}:∀(ts:List TypeId) (vs:List Value) (ds:List (DataW H)) (ps:List MemPlace),
 (∀t∈ts,t∈S)->(∀(j:Nat) t v,ts[j]?=some t->vs[j]?=some v->Value.okWide P w .any base t v)->DataW.TrodAll enc P w b spare held ts vs ds ps->∃avs,cX P ts avs/\VRs g avs vs
 |[],[],[],_,_,_,_=>⟨[],.nil,.nil⟩
 |t::ts,v::vs,d::ds,ps,hin,hok,h=>by
  obtain ⟨p,q,⟨fuel,hd⟩,hrest,_⟩:=h;obtain ⟨avs,h1,h2⟩:=oV hS hg ts vs ds q (fun t ht=>hin t (by simp [ht])) (fun j t v ht hv=>hok (j+1) t v (by simpa using ht) (by simpa using hv)) hrest;obtain ⟨dv,h3,h4⟩:=ABD hS fuel t _ _ (hin t (by simp)) hd;refine ⟨AB0 P t dv::avs,.cons h3 h1,.cons ?_ h2⟩;have ho:=hok 0 t v rfl rfl;rw [<- hg] at h4;cases hu:P.underlying t with
  |none=>cases h3<;>simp_all
  |some u=>
   by_cases hs:∃fs,u= .struct fs
   . obtain ⟨fs,rfl⟩:=hs;rw [cY hu];unfold Value.okWide at ho;rw [hu] at ho;simp only at ho;obtain ⟨cs,rfl,_,_⟩:=ho;have h5:=h4.vrs;simp only [Value.cells] at h5;have:=VR.agg (g:=g) (cs:=dv.map AV.d) (vs:=cs.toList) (by simpa using h5.length) (by simp [AV.B5]) (fun i c v hc hv=>h5.idx i c v hc hv);simpa using this
   . have hns:∀fs,u≠.struct fs:=fun fs e=>hs ⟨fs,e⟩
     have hone:∃x,dv=[x]:=by
      cases h3 with
      |struct h _=>rw [hu] at h;cases h;exact absurd rfl (hns _)
      |_=>exact ⟨_,rfl⟩
     obtain ⟨x,rfl⟩:=hone;rw [AFN hu hns];generalize hcv:v.cells.toList=cv at h4;cases h4 with
     |cons hx hn=>
      cases hn;rename_i v'
      have:v=v':=by
       unfold Value.okWide at ho;rw [hu] at ho;cases v<;>try (simpa [Value.cells] using hcv)
       exfalso;cases h3 with
       |bool h=>rw [hu] at h;cases h;simp [Cell.okWide,hu,Cell.ok] at ho
       |int h=>rw [hu] at h;cases h;simp [Cell.okWide,hu,Cell.ok] at ho
       |str h=>rw [hu] at h;cases h;simp [Cell.okWide,hu,Cell.ok] at ho
       |sl h=>rw [hu] at h;cases h;simp [Cell.okWide,hu,Cell.ok] at ho
       |struct h=>rw [hu] at h;cases h;exact absurd rfl (hns _)
      subst this;exact .d hx
 |[],_::_,_,_,_,_,h=>by cases h
 |[],[],_::_,_,_,_,h=>by cases h
 |_::_,[],_,_,_,_,h=>by cases h
 |_::_,_::_,[],_,_,_,h=>by cases h
def zX (w:World):Gh:=⟨imW w,fun _=>none,fun _=>none,fun _=>none⟩
def Yw (gt:Nat->Option (Array Value)):AH:=⟨fun _=>none,fun _=>false,gt,fun _=>none⟩
def zY:AH:=Yw fun _=>none
theorem AEY (w:World) {gt:Nat->Option (Array Value)} (hgt:∀b vs,gt b=some vs->∃ty fr,w.heap[b]?=some (.cells vs ty fr)):Rel w.heap.size (zX w) (fun _=>False) (Yw gt) w w:=
 ⟨fun _ _ _ h=>h,fun _ _ h=>by simp [Yw] at h,fun _ _ _ h=>by simp [Yw] at h,fun _ h=>by simp [Yw] at h,fun _ h=>h.elim,Below.refl _ _,AR _,⟨0,fun _ _=>⟨rfl,rfl,rfl⟩⟩,⟨fun b vs h=>by
   obtain ⟨ty,fr,hb⟩:=hgt b vs h;exact ⟨(M4.1 hb).1,ty,fr,hb⟩,fun _ _ h=>by simp [Yw] at h⟩⟩
theorem YG (hl:laidOutB P=true) {W W':World} (hb:Below W.heap.size W W'):∀(ts:List TypeId) (vs:List Value) (ds:List (DataW H)) (ps:List MemPlace),(∀t∈ts,P.readableRec t=true/\t < P.types.size)->
 (∀x∈ps,x.block < W.heap.size)->DataW.TrodAll enc P W 0 (fun _=>true) true ts vs ds ps->DataW.TrodAll enc P W' 0 (fun b=>decide (b < W.heap.size)) true ts vs ds ps
 |[],[],[],_,_,_,h=>h
 |t::ts,v::vs,d::ds,ps,hr,hlt,h=>by
  obtain ⟨p,q,h1,h2,rfl⟩:=h;exact ⟨p,q,Below.trod hl (hr t (by simp)).1 (hr t (by simp)).2 h1 hb (fun x hx=>hlt x (by simp [hx])),YG hl hb ts vs ds q (fun t ht=>hr t (by simp [ht])) (fun x hx=>hlt x (by simp [hx])) h2,rfl⟩
 |[],_::_,_,_,_,_,h=>by cases h
 |[],[],_::_,_,_,_,h=>by cases h
 |_::_,[],_,_,_,_,h=>by cases h
 |_::_,_::_,[],_,_,_,h=>by cases h
theorem mS {fn:Func} {s:ChangeSpec} {f:FuncId} {gt:Nat->Option (Array Value)} (S:List TypeId) (hl:laidOutB P=true) (hS:S.all (cD P S)=true) (hin:∀t∈fn.params.toList,t∈S)
 (hread:∀t∈fn.params.toList,P.readableRec t=true/\t < P.types.size) {tb:TypeId} (hres:fn.resultTypes=#[tb]) (htb:P.underlying tb=some .bool) (hvars:s.vars=[])
 (hs:∀ds:List (DataW H),ds.length=fn.params.size->s.fn H ds= { results:=[.lit (.bool true)],args:=ds})
 (main:∀avs:List AV,cX P fn.params.toList avs->AS P f avs (Yw gt) (fun v _=>v= .d (.bool true)))
 (W:World) (hgt:∀b vs,gt b=some vs->∃ty fr,W.heap[b]?=some (.cells vs ty fr)) (base:Nat) (args:Array Value) (ds gs:List (DataW H)) (before:List MemPlace)
 (hval:∀(j:Nat) t v,fn.params[j]?=some t->args[j]?=some v->Value.okWide P W .any base t v)
 (hW:DataW.Whole enc P fn.params.toList s.vars false W args.toList ds gs before):
 Calls P f args W fun e W'=>∃v,e= .returned v/\s.post enc P fn false true false false W args v W':=by
 have hW':=hW;obtain ⟨p,q,hA,hV,rfl,hfz,hnd⟩:=hW;rw [hvars] at hV;obtain ⟨rfl,rfl⟩:=trodVars_none hV;obtain ⟨avs,h1,h2⟩:=oV hS (g:=zX W) rfl fn.params.toList args.toList ds p hin (fun j t v ht hv=>hval j t v (by simpa using ht) (by simpa using hv)) hA;have hc:=main avs h1 W.heap.size (zX W) (fun _=>False) W W args.toList (AEY W hgt) h2;simp only [Array.toArray_toList] at hc;refine hc.mono fun e W' ⟨v,av,g',σ',he,hv,hrel,_,_,hav⟩=>?_;subst hav;have hvt:v= .bool true:=by cases hv with|d h=>cases h;rfl
 subst hvt
 have hlen:ds.length=fn.params.size:=by
  have:∀(ts:List TypeId) (vs:List Value) (ds:List (DataW H)) (ps:List MemPlace),DataW.TrodAll enc P W 0 (fun _=>true) true ts vs ds ps->ds.length=ts.length:=by
   intro ts
   induction ts with
   |nil=>intro vs ds ps h;cases vs<;>cases ds<;>first|rfl|(cases h;done)
   |cons t ts ih=>
    intro vs ds ps h;cases vs<;>cases ds<;>try (cases h;done)
    obtain ⟨_,_,_,h2,_⟩:=h;simpa using ih _ _ _ h2
  simpa using this _ _ _ _ hA
 have hlt:∀x∈p,x.block < W.heap.size:=fun x hx=>by simpa using hW'.lt x (by simp [hx])
 have hfn:=hs (ds++[]) (by simpa using hlen);refine ⟨_,he,ds,[],p++[],[],p,[],hW',?_,?_,?_,hrel.bel.frame _,fun h=>by cases h⟩
 . rw [hfn,hres];exact trodAll_mk1 ⟨1,by simp [DataW.trod,htb,Value.cells]⟩
 . rw [hfn];simpa using YG hl hrel.bel fn.params.toList args.toList ds p hread hlt hA
 . rw [hfn,hvars];rfl
theorem qM {fn:Func} {s:ChangeSpec} {f:FuncId} (S:List TypeId) (hl:laidOutB P=true) (hS:S.all (cD P S)=true) (hin:∀t∈fn.params.toList,t∈S)
 (hread:∀t∈fn.params.toList,P.readableRec t=true/\t < P.types.size) {tb:TypeId} (hres:fn.resultTypes=#[tb]) (htb:P.underlying tb=some .bool) (hvars:s.vars=[])
 (hs:∀ds:List (DataW H),ds.length=fn.params.size->s.fn H ds= { results:=[.lit (.bool true)],args:=ds})
 (main:∀avs:List AV,cX P fn.params.toList avs->AS P f avs zY (fun v _=>v= .d (.bool true)))
 (W:World) (base:Nat) (args:Array Value) (ds gs:List (DataW H)) (before:List MemPlace)
 (hval:∀(j:Nat) t v,fn.params[j]?=some t->args[j]?=some v->Value.okWide P W .any base t v)
 (hW:DataW.Whole enc P fn.params.toList s.vars false W args.toList ds gs before):
 Calls P f args W fun e W'=>∃v,e= .returned v/\s.post enc P fn false true false false W args v W':=
 mS S hl hS hin hread hres htb hvars hs main W (fun _ _ h=>by cases h) base args ds gs before hval hW
end
end Go.Ab
namespace Go.Ab
variable {P:Program} {t e:TypeId} {ds:List DV}
theorem DT.qG {k:IntKind} (h:DT P t ds) (hu:P.underlying t=some (.int k)):∃n,ds=[.int k n]/\k.has n:=by
 cases h with
 |int h hn=>rw [hu] at h;cases h;exact ⟨_,rfl,hn⟩
 |bool h=>rw [hu] at h;cases h
 |str h=>rw [hu] at h;cases h
 |sl h=>rw [hu] at h;cases h
 |struct h=>rw [hu] at h;cases h
theorem DT.T3 (h:DT P t ds) (hu:P.underlying t=some .string):∃s,ds=[.str s]/\s.length<=maxLen:=by
 cases h with
 |str h hs=>exact ⟨_,rfl,hs⟩
 |int h=>rw [hu] at h;cases h
 |bool h=>rw [hu] at h;cases h
 |sl h=>rw [hu] at h;cases h
 |struct h=>rw [hu] at h;cases h
theorem DT.Vw (h:DT P t ds) (hu:P.underlying t=some (.slice e)):∃rows,ds=[.sl rows]/\rows.length<=maxLen/\∀r∈rows,DT P e r:=by
 cases h with
 |sl h hm hr=>rw [hu] at h;cases h;exact ⟨_,rfl,hm,hr⟩
 |int h=>rw [hu] at h;cases h
 |bool h=>rw [hu] at h;cases h
 |str h=>rw [hu] at h;cases h
 |struct h=>rw [hu] at h;cases h
theorem DT.Jy {fs:Array Field} (h:DT P t ds) (hu:P.underlying t=some (.struct fs)):DTs P fs.toList ds:=by
 cases h with
 |struct h hf=>rw [hu] at h;cases h;exact hf
 |int h=>rw [hu] at h;cases h
 |bool h=>rw [hu] at h;cases h
 |str h=>rw [hu] at h;cases h
 |sl h=>rw [hu] at h;cases h
theorem DTs.Cs {f:Field} {fs:List Field} (h:DTs P (f::fs) ds):∃a b,ds=a++b/\DT P f.type a/\DTs P fs b:=by
 cases h with
 |cons h hs=>exact ⟨_,_,rfl,h,hs⟩
theorem DTs.T2 (h:DTs P [] ds):ds=[]:=by cases h;rfl
theorem LF {α:Type} {f:α->List DV}:∀(rows:List (List DV)),(∀r∈rows,∃x,r=f x)->∃l:List α,rows=l.map f
 |[],_=>⟨[],rfl⟩
 |r::rows,h=>by
  obtain ⟨x,hx⟩:=h r (by simp);obtain ⟨l,hl⟩:=LF rows (fun r hr=>h r (by simp [hr]));exact ⟨x::l,by rw [hx,hl];rfl⟩
end Go.Ab
namespace Go.Ab
open Go.RowKit
variable {P:Program} {base N:Nat} {g g':Gh} {Pr:Nat->Prop} {σ σ':AH} {w0 w w':World} {lam:Nat->Option Nat} {F F':Fm} {L L':Lm} {a:Act}
theorem VR.data {c:AV} {v:Value} {x:DV} (h:VR g c v) (hd:c.dv=some x):RD g.im x v:=by
 cases h<;>simp only [AV.dv,AK] at hd<;>try (cases hd;done)
 . subst hd;assumption
 . subst hd;exact .nil (Fx _) (fun _=>rfl)
 . subst hd;assumption
 . subst hd;assumption
 . subst hd;exact .GK
mutual
def frz (i n:Nat) (rows:List (List DV)):AV->AV
 | .ms j m s e=>if j=i/\m=n then .d (.sl rows) else .ms j m s e
 | .agg cs=>.agg (SC i n rows cs)
 | .tup cs=>.tup (SC i n rows cs)
 |v=>v
def SC (i n:Nat) (rows:List (List DV)):List AV->List AV
 |[]=>[]
 |v::l=>frz i n rows v::SC i n rows l
end
theorem Vb (i n:Nat) (rows:List (List DV)):∀l:List AV,(SC i n rows l).length=l.length
 |[]=>rfl
 |v::l=>by simp [SC,Vb i n rows l]
theorem Z3 (i n:Nat) (rows:List (List DV)):∀(l:List AV) (k:Nat),(SC i n rows l)[k]?=(l[k]?).map (frz i n rows)
 |[],k=>by simp [SC]
 |v::l,0=>by simp [SC]
 |v::l,k+1=>by simp [SC,Z3 i n rows l k]
theorem tK {i n:Nat} {rows:List (List DV)} {v:AV} (h:v.B5=true):(frz i n rows v).B5=true:=by
 cases v<;>first|exact h|(simp only [frz];split<;>rfl)|(simp [AV.B5] at h)
theorem p8 {i n:Nat} {rows:List (List DV)}:∀ {l:List AV},Ap l=true->Ap (SC i n rows l)=true
 |[],_=>rfl
 |v::l,h=>by
  simp only [Ap,Bf,AQ] at h;simp only [SC,Ap,Bf,AQ];exact ⟨tK h.1,p8 (l:=l) h.2⟩
theorem VR.frz {i n b:Nat} {rows:List (List DV)} (hg:g.le g') (hm:g.mu i=some b) (hrow:∀cap,n<=cap->cap<=maxLen->RD g'.im (.sl rows) (.slice (some ⟨b,0,none⟩) n cap)) {x:AV} {v:Value} (h:VR g x v):VR g' (frz i n rows x) v:=by
 induction h with
 |d h=>simpa [Ab.frz] using VR.d (h.mono hg.im)
 |Af=>simpa [Ab.frz] using VR.Af
 |own h ht hs=>simpa [Ab.frz] using VR.own (h.mono hg.im) (hg.tau _ _ ht) hs
 |clip h=>simpa [Ab.frz] using VR.clip (h.mono hg.im)
 |mv h hr hn hm ho=>simpa [Ab.frz] using VR.mv (hg.mu _ _ h) (hg.rm _ _ hr) hn hm ho
 |bp ht him=>simpa [Ab.frz] using VR.bp (hg.tau _ _ ht) (fun j x hx=>hg.im _ _ _ (him j x hx))
 |@agg cs vs hl hc _ ih=>
  refine .agg (by rw [Vb];exact hl) (fun c hcm=>?_) (fun k c v hci hvi=>?_)
  . obtain ⟨k,hk,rfl⟩:=Bn hcm;have:=Z3 i n rows cs k;rw [Aw hk] at this;cases hcs:cs[k]? with
    |none=>rw [hcs] at this;cases this
    |some c'=>rw [hcs] at this;simp only [Ad,AK] at this;rw [this];exact tK (hc c' (AD hcs))
  . rw [Z3] at hci;cases hcs:cs[k]? with
    |none=>rw [hcs] at hci;cases hci
    |some c'=>rw [hcs] at hci;simp only [Ad,AK] at hci;rw [<- hci];exact ih k c' v hcs hvi
 |gp h=>simpa [Ab.frz] using VR.gp (hg.mu _ _ h)
 |ep hi hr=>simpa [Ab.frz] using VR.ep (fun j hj=>hg.im _ _ _ (hi j hj)) (fun j x hx=>(hr j x hx).mono hg.im)
 |GK=>simpa [Ab.frz] using VR.GK
 |HK=>simpa [Ab.frz] using VR.HK
 |om h=>simpa [Ab.frz] using VR.om (hg.tau _ _ h)
 |@ms j m s e b' cap h hr hn hmx=>
  simp only [Ab.frz];split
  . rename_i e;obtain ⟨rfl,rfl⟩:=e;rw [hm] at h;cases h;exact .d (hrow cap hn hmx)
  . exact .ms (hg.mu _ _ h) (hg.rm _ _ hr) hn hmx
 |fn hl hl' h h' _ _=>simpa [Ab.frz] using VR.mono hg (VR.fn hl hl' h h')
 |@tup cs vs hl _ ih=>
  refine .tup (by rw [Vb];exact hl) (fun k c v hci hvi=>?_);rw [Z3] at hci;cases hcs:cs[k]? with
  |none=>rw [hcs] at hci;cases hci
  |some c'=>rw [hcs] at hci;simp only [Ad,AK] at hci;rw [<- hci];exact ih k c' v hcs hvi
 |undef=>simpa [Ab.frz] using VR.undef
theorem VRs.SC {i n b:Nat} {rows:List (List DV)} (hg:g.le g') (hm:g.mu i=some b) (hrow:∀cap,n<=cap->cap<=maxLen->RD g'.im (.sl rows) (.slice (some ⟨b,0,none⟩) n cap)) {xs:List AV} {vs:List Value} (h:VRs g xs vs):VRs g' (SC i n rows xs) vs:=by
 induction h with
 |nil=>exact .nil
 |cons h _ ih=>exact .cons (h.frz hg hm hrow) ih
theorem AAP:∀ {cs:List AV} {ds:List DV},dvs cs=some ds->ds.length=cs.length/\∀(k:Nat) (c:AV) (x:DV),cs[k]?=some c->ds[k]?=some x->c.dv=some x
 |[],ds,h=>by simp only [dvs,AK] at h;subst h;simp
 |c::cs,ds,h=>by
  simp only [dvs,AP,AB] at h;obtain ⟨x,hx,ys,hys,he⟩:=h;cases he;obtain ⟨h1,h2⟩:=AAP hys;refine ⟨by simp [h1],fun k c' x' hc hx'=>?_⟩;cases k with
  |zero=>simp at hc hx';subst hc;subst hx';exact hx
  |succ k=>exact h2 k c' x' (by simpa using hc) (by simpa using hx')
theorem Lr (size:Nat):∀(n:Nat) (l:List DV),(chunk size n l).length=n
 |0,_=>rfl
 |n+1,l=>by simp [chunk,Lr size n]
theorem bA (size:Nat):∀(n:Nat) (l:List DV) (i:Nat) (r:List DV),(chunk size n l)[i]?=some r->r=(l.drop (i * size)).take size
 |0,_,i,r,h=>by simp [chunk] at h
 |n+1,l,0,r,h=>by simp [chunk] at h;simp [h]
 |n+1,l,i+1,r,h=>by
  have:=bA size n (l.drop size) i r (by simpa [chunk] using h);rw [this,Eu];congr 2;rw [CA];omega
theorem Rel.freeze (h:Rel base g Pr σ w0 w) {i n size:Nat} {cs:List AV} {ds:List DV} (hi:σ.blk i=some cs) (hd:dvs cs=some ds) (hl:cs.length=n * size) (hn:n<=maxLen) (hσ:∀j cs',σ'.blk j=some cs'->j≠i/\∃cs0,σ.blk j=some cs0/\(cs'=cs0\/cs'=SC i n (chunk size n ds) cs0))
 (ht:∀t,σ'.tok t=true->σ.tok t=true) (hgt:σ'.gt=σ.gt) (hbt:σ'.bt=σ.bt):
 ∃g' b,g.le g'/\g.mu i=some b/\(∀cap,n<=cap->cap<=maxLen->RD g'.im (.sl (chunk size n ds)) (.slice (some ⟨b,0,none⟩) n cap))/\Rel base g' Pr σ' w0 w:=by
 obtain ⟨b,hb,ho⟩:=h.shr i cs hi;obtain ⟨vs0,ty,hv,hl0,hrt0,hr0⟩:=ho.row;obtain ⟨vs,hvs⟩:∃vs:Array Value,vs=(vs0.toList.take cs.length).toArray:=⟨_,rfl⟩;have hr:VRs g cs vs.toList:=by rw [hvs];simpa using hr0
 have hvl:vs.size=cs.length:=by simpa using hr.length
 let g2:Gh:= { g with im:=fun b' o=>if b'=b then vs[o]? else g.im b' o}
 have hle:g.le g2:=⟨fun b' o v hv'=>by
  have:b'≠b:=fun e=>by subst e;rw [ho.im o] at hv';cases hv'
  show (if b'=b then vs[o]? else g.im b' o)=some v;rw [if_neg this];exact hv',fun _ _ h=>h,fun _ _ h=>h,fun _ _ h=>h⟩
 have hcell:∀o v,vs[o]?=some v->w.cell? ⟨b,o,none⟩=some v:=fun o v hov=>by
  have hov0:vs0[o]?=some v:=by
   rw [hvs] at hov;simp only [List.getElem?_toArray,B3] at hov;split at hov
   . simpa using hov
   . cases hov
  unfold World.cell?;simp [hv,hov0]
 obtain ⟨hdl,hdg⟩:=AAP hd
 have hrow:∀cap,n<=cap->cap<=maxLen->RD g2.im (.sl (chunk size n ds)) (.slice (some ⟨b,0,none⟩) n cap):=by
  intro cap hcap hcm;rcases K6 n with h0|h0
  . subst h0;exact .nil hcm (fun h=>by cases h)
  . have:=RD.sl (im:=g2.im) (rows:=chunk size n ds) (b:=b) (off:=0) (cap:=cap) (size:=size) (f:=fun i j=>(vs[i * size+j]?).getD Cf) (by rw [Lr];exact hcap) hcm
     (fun r hr'=>?_) (fun k j hk hj=>?_) (fun k r j x hk hj=>?_)
    . rw [Lr] at this;exact this
    . obtain ⟨k,hk,rfl⟩:=Bn hr';rw [Lr] at hk;have:=bA size n ds k _ (by rw [Aw (by rw [Lr];exact hk)]);rw [this,Bi,E5];have h1:(k+1) * size<=n * size:=Bp _ hk;rw [CA] at h1;omega
    . rw [Lr] at hk;have h1:(k+1) * size<=n * size:=Bp _ hk;rw [CA] at h1;have hlt:k * size+j < vs.size:=by omega
      show (if b=b then vs[0+k * size+j]? else _)=_;rw [if_pos rfl,BU,N5 hlt];rfl
    . have hkn:k < n:=by have:=(AF.1 hk).1;rw [Lr] at this;exact this
      have:=bA size n ds k r hk;subst this;rw [B3] at hj;split at hj
      . rename_i hjs;rw [BJ] at hj;have hlt:k * size+j < cs.length:=by rw [<- hdl];exact (AF.1 hj).1
        have hc:=hdg (k * size+j) cs[k * size+j] x (by simp [hlt]) hj;have hvv:vs.toList[k * size+j]?=some (vs[k * size+j]'(by omega)):=by simp
        have hvr:=hr.idx (k * size+j) cs[k * size+j] _ (Aw hlt) hvv;have:=(hvr.data hc).mono hle.im;rw [N5 (by omega)];exact this
      . cases hj
 refine ⟨g2,b,hle,hb,hrow,?_⟩
 have hn':∀j,σ'.blk j≠none->σ.blk j≠none/\j≠i:=fun j hj=>by
  cases hc:σ'.blk j with
  |none=>exact absurd hc hj
  |some c=>obtain ⟨h1,c0,h2,_⟩:=hσ j c hc;exact ⟨by rw [h2];simp,h1⟩
 have hbi:σ.blk i≠none:=by rw [hi];simp
 refine ⟨fun b' o v hv'=>?_,fun j cs' hj=>?_,fun j k b' hj hk=>h.inj j k b' (hn' j hj).1 (hn' k hk).1,fun t htk=>?_,fun b' hp=>?_,h.bel,h.bs,h.fin,h.st.mono hle hgt hbt⟩
 . by_cases e:b'=b
   . have hv2:(if b'=b then vs[o]? else g.im b' o)=some v:=hv';rw [if_pos e] at hv2;rw [e];exact hcell o v hv2
   . have hv2:(if b'=b then vs[o]? else g.im b' o)=some v:=hv';rw [if_neg e] at hv2;exact h.im b' o v hv2
 . obtain ⟨hji,cs0,h0,hcs⟩:=hσ j cs' hj;obtain ⟨b',hb',ho'⟩:=h.shr j cs0 h0;obtain ⟨vs',ty',hv',hl',ht',hr'⟩:=ho'.row;have hne:b'≠b:=fun e=>hji (h.inj j i b (by rw [h0];simp) hbi (e ▸ hb') hb);refine ⟨b',hb',?_,⟨vs',ty',hv',?_,ht',?_⟩,ho'.low,fun o=>?_,ho'.pr⟩
   . rcases hcs with rfl|rfl
     . exact ho'.ok
     . exact p8 ho'.ok
   . rcases hcs with rfl|rfl
     . exact hl'
     . rw [Vb];exact hl'
   . rcases hcs with rfl|rfl
     . exact hr'.mono hle
     . rw [Vb];exact hr'.SC hle hb hrow
   . show (if b'=b then vs[o]? else g.im b' o)=none;rw [if_neg hne];exact ho'.im o
 . obtain ⟨v,e,size',n',xs,hmt,hown,hrest⟩:=(h.tok t (ht t htk)).row;refine ⟨v,e,size',n',xs,hmt,hown,fun b' hvb=>?_⟩;obtain ⟨h1,h2,h3,h4⟩:=hrest b' hvb;have hne:b'≠b:=fun e=>h3 i hbi (e ▸ hb);refine ⟨fun o ho'=>?_,h2,fun j hj=>h3 j (hn' j hj).1,fun t' v' e' s' hne' ht'=>h4 t' v' e' s' hne' (ht t' ht')⟩;show (if b'=b then vs[o]? else g.im b' o)=none;rw [if_neg hne];exact h1 o ho'
 . have hne:b'≠b:=fun e=>ho.pr (e ▸ hp);refine ⟨(h.pr b' hp).1,fun o=>?_⟩;show (if b'=b then vs[o]? else g.im b' o)=none;rw [if_neg hne];exact (h.pr b' hp).2 o
variable {cx:Cx} {K:AV->AH->Prop} {k:List CI}
theorem Run.freeze {i n size:Nat} {cs:List AV} {ds:List DV} (hi:σ.blk i=some cs) (hd:dvs cs=some ds) (hl:cs.length=n * size) (hn:n<=maxLen)
 (hF:∀s,F' s=F s\/F' s=frz i n (chunk size n ds) (F s)) (hL:∀k cs',L' k=some cs'->∃cs0,L k=some cs0/\(cs'=cs0\/cs'=SC i n (chunk size n ds) cs0))
 (hσ:∀j cs',σ'.blk j=some cs'->j≠i/\∃cs0,σ.blk j=some cs0/\(cs'=cs0\/cs'=SC i n (chunk size n ds) cs0)) (ht:∀t,σ'.tok t=true->σ.tok t=true)
 (h:Run cx K k F' L' σ') (hgt:σ'.gt=σ.gt:=by rfl) (hbt:σ'.bt=σ.bt:=by rfl):Run cx K k F L σ:=by
 intro items base g lam Pr a w0 w b cs0 hi0 hf hb hk;obtain ⟨g',bb,hle,hmu,hrow,hrel⟩:=hf.rel.freeze hi hd hl hn hσ ht hgt hbt
 have hf':Bo base g' lam Pr cx.N F' L' σ' a w0 w:=by
  refine ⟨fun s=>?_,hf.sz,hf.df,fun k' cs' hk'=>?_,hf.inj,hf.npr,hrel⟩
  . have hs:=hf.tm s
    have hsm:SV g' lam (F s) (a.tmps.getD s Cf):=by
     generalize F s=fs at hs;cases fs<;>first|exact VR.mono hle hs|exact hs
    rcases hF s with e|e
    . rw [e];exact hsm
    . rw [e];generalize F s=fs at hs hsm;cases fs<;>first|exact hsm|exact SV.F3 (VR.frz hle hmu hrow hs)
  . obtain ⟨c0,h0,hc⟩:=hL k' cs' hk';obtain ⟨hok,b',vs,ty,h1,h2,h3,h4⟩:=hf.loc k' c0 h0;refine ⟨?_,b',vs,ty,h1,h2,h3,?_⟩
    . rcases hc with rfl|rfl
      . exact hok
      . exact p8 hok
    . rcases hc with rfl|rfl
      . exact h4.mono hle
      . exact h4.SC hle hmu hrow
 obtain ⟨v,w',fr,hs,hfn,hlv,av,g2,σ2,h1,h2,h3,h4,h5⟩:=h items base g' lam Pr a w0 w b cs0 hi0 hf' hb hk;exact ⟨v,w',fr,hs,hfn,hlv,av,g2,σ2,h1,h2,Gh.le_trans hle h3,h4,h5⟩
theorem pN {K K':CO} (hk:∀F L σ,K F L σ->K' F L σ):∀(t:QT) (b:Bool) (F:Fm) (L:Lm) (σ:AH),XT P K b t F L σ->XT P K' b t F L σ
 | .done,false,F,L,σ,h=>hk _ _ _ h
 | .done,true,F,L,σ,h=>trivial
 | .one q t,b,F,L,σ,h=>by
  have h:XQ P q (XT P K false t) F L σ:=by cases b<;>exact h
  have:XQ P q (XT P K' false t) F L σ:=Su (fun F L σ h=>pN hk t false F L σ h) h;cases b<;>exact this
 | .alt q t r,b,F,L,σ,h=>by
  have h:XQ P q (XT P K false t) F L σ/\XT P K true r F L σ:=by cases b<;>exact h
  have:XQ P q (XT P K' false t) F L σ/\XT P K' true r F L σ:=⟨Su (fun F L σ h=>pN hk t false F L σ h) h.1,pN hk r true F L σ h.2⟩;cases b<;>exact this
theorem Run.Zr {t:QT} {live:List Nat} (hm:cx.P.follows .mixedOrders=true) (R:CO) (h1:XT cx.P R false t F L σ) (h2:∀F L σ,R F L σ->Run cx K k (Ia live F) (He live L) σ):Run cx K (.code (.J5 t live)::k) F L σ:=
 Run.J5 hm (pN (fun F L σ h=>h2 F L σ h) t false F L σ h1)
theorem Run.ARB {ops:List Q} {live:List Nat} (hm:cx.P.follows .mixedOrders=true) (R:CO) (h1:B8 cx.P R ops F L σ) (h2:∀F L σ,R F L σ->Run cx K k (Ia live F) (He live L) σ):Run cx K (.code (.reg ops live)::k) F L σ:=
 Run.reg hm (ZH ops (fun F L σ h=>h2 F L σ h) h1)
theorem Rel.ABT (h:Rel base g Pr σ w0 w) (hσ:∀j cs',σ'.blk j=some cs'->∃cs,σ.blk j=some cs/\Ap cs'=true/\cs'.length=cs.length/\∀vs,VRs g cs vs->VRs g cs' vs) (ht:∀t,σ'.tok t=true->σ.tok t=true) (hgt:σ'.gt=σ.gt) (hbt:σ'.bt=σ.bt):Rel base g Pr σ' w0 w:=by
 have hn:∀j,σ'.blk j≠none->σ.blk j≠none:=fun j hj=>by
  cases hc:σ'.blk j with
  |none=>exact absurd hc hj
  |some c=>obtain ⟨c0,h2,_⟩:=hσ j c hc;rw [h2];simp
 refine ⟨h.im,fun j cs' hj=>?_,fun j k b hj hk=>h.inj j k b (hn j hj) (hn k hk),fun t htk=>?_,h.pr,h.bel,h.bs,h.fin,⟨fun b vs hv=>h.st.1 b vs (by rw [<- hgt];exact hv),fun i x hx=>h.st.2 i x (by rw [<- hbt];exact hx)⟩⟩
 . obtain ⟨cs,hc,hok,hln,hv⟩:=hσ j cs' hj;obtain ⟨b,hb,ho⟩:=h.shr j cs hc;obtain ⟨vs,ty,h1,h2,h3,h4⟩:=ho.row;exact ⟨b,hb,hok,⟨vs,ty,h1,by rw [hln];exact h2,h3,by rw [hln];exact hv _ h4⟩,ho.low,ho.im,ho.pr⟩
 . obtain ⟨v,e,size,n,xs,hm,hown,hrest⟩:=(h.tok t (ht t htk)).row;refine ⟨v,e,size,n,xs,hm,hown,fun b hvb=>?_⟩;obtain ⟨h1,h2,h3,h4⟩:=hrest b hvb;exact ⟨h1,h2,fun j hj=>h3 j (hn j hj),fun t' v' e' s' hne ht'=>h4 t' v' e' s' hne (ht t' ht')⟩
theorem Run.ABT (hσ:∀j cs',σ'.blk j=some cs'->∃cs,σ.blk j=some cs/\(cs'=cs\/cs'=AV.CX cs)) (ht:∀t,σ'.tok t=true->σ.tok t=true) (h:Run cx K k F L σ') (hgt:σ'.gt=σ.gt:=by rfl) (hbt:σ'.bt=σ.bt:=by rfl):Run cx K k F L σ:=by
 intro items base g lam Pr a w0 w b cs0 hi0 hf hb hk;refine h items base g lam Pr a w0 w b cs0 hi0 ⟨hf.tm,hf.sz,hf.df,hf.loc,hf.inj,hf.npr,hf.rel.ABT (fun j cs' hj=>?_) ht hgt hbt⟩ hb hk;obtain ⟨cs,hc,hp⟩:=hσ j cs' hj;obtain ⟨_,_,ho⟩:=hf.rel.shr j cs hc;refine ⟨cs,hc,?_,(by rcases hp with rfl|rfl<;>simp [Tf]),fun vs hv=>?_⟩
 . rcases hp with rfl|rfl
   . exact ho.ok
   . have:=ho.ok;simp only [Ap,Aq] at this ⊢;intro v hv;obtain ⟨i,hi,rfl⟩:=Bn hv;have h1:=MJ cs i;rw [Aw hi] at h1;cases hcs:cs[i]? with
     |none=>rw [hcs] at h1;cases h1
     |some c'=>rw [hcs] at h1;simp only [Ad,AK] at h1;rw [h1];exact Yn (this c' (AD hcs))
 . rcases hp with rfl|rfl
   . exact hv
   . exact hv.plain
theorem Run.BG {α:Type} {c:C} (fr:α->Fm) (lo:α->Lm) (hp:α->AH) (inv:α->Prop) (m:α->Nat)
 (step:∀x,inv x->(∀y,inv y->m y < m x->Run cx K (.again c::k) (fr y) (lo y) (hp y))->Run cx K (.code c::.again c::k) (fr x) (lo x) (hp x)) (x:α) (hx:inv x):
 Run cx K (.again c::k) (fr x) (lo x) (hp x):=by
 have:∀(n:Nat) (x:α),m x<=n->inv x->Run cx K (.again c::k) (fr x) (lo x) (hp x):=by
  intro n
  induction n with
  |zero=>intro x hn hx;exact Run.again (step x hx (fun y _ hy=>by omega))
  |succ n ih=>intro x hn hx;exact Run.again (step x hx (fun y hy hlt=>ih y (by omega) hy))
 exact this _ x (AR _) hx
end Go.Ab
namespace Go.Ab
attribute [go_sem] AL8 ALG AQB AQA AIA AN8 AN9 AH9 AOA ALE AEM ALF ALD AQK AL0 exP AGE qU AKT AKN AFY AFS ADG ADA AK2 AKZ APO API AHY AHS AAL AA8 AOT qN AL1 AO2 AL5 AQL AO1 AO0 AMA AMD AOW AL4 fdA AEV oX o9 NY AJM ADR Wr Ry O5 AK3 APP AHZ xA tV AD3 zB AJW Option.map_none false_implies true_implies AO4 AO3 AME AMF AOZ AJB AQT AL9 AOS AQR AQQ AMB AOU AMC AON AL2 AQV AL7 AOO AOQ AOV AOR AOY AQS AOP AQJ AL3 AOL AQU AJC AL6 AJA AOM AI9 AOX AQP AQN APZ AP0 AEL D0 AH2 AO5 APC AG0 ADK ADJ yR zF ALA zE AEK ARK ARJ ixA ixR Ca Int.natCast_nonneg AFC kF zS rvA AJO xC ACB w9 ACA AFW AFV AFT xB AFX AFU ACC sU AGY tX yK tT yJ ADE ADD ADB tW ADF ADC yL qH Ep AD5 AHM AD2 DX AK1 Tc AK0 AD4 AA9 fZ AHN y6 ANG AJY ANH AJV ANF APM APL APJ AJX APN APK ANI AF7 AEQ AID AEP AOC ADN AG5 ADM AKK AKL ANW Jh KC AEF zA S7 AHW AHV AHT Yo AHX AHU AEG uR AV.CX Cut wE ALZ ALY ALX uP xT rdC ldA o8 AC8 AB2 nO unA ACN AHF stA wr KG dvs chunk xvs Ap AK9 AEJ ANX ADT AHA ADQ AG9 AKR AKQ AKO ADS AKS AKP AHB yT AI F4 Sv xN HT Ad AP Option.pure_def AG AN Bf Fq A0 By Av gH C3 C7 FD Re List.take_nil List.drop_nil AX Aj BX L1 Be BW Bool.or_true NK L2 ED Bool.not_true JI CG DO NJ BEq.rfl beq_self_eq_true Bw BU decide_true decide_false AR and_self and_true true_and ite_true ite_false AZ Bool.cond_true Bool.cond_false beq_true beq_false Bool.true_beq Bool.false_beq
def s7:C->List (List Nat×PT)
 | .reg _ l=>[(l,.done)]
 | .J5 _ l=>[(l,.done)]
 | .seq x y=>s7 x++s7 y
 | .cond _ t e=>s7 t++s7 e
 | .block _ c=>s7 c
 | .loop c=>s7 c
 | .scope c=>s7 c
 |_=>[]
@[reducible] def Qo (d:Nat) (o:O):Q:=⟨some d,o,none⟩
@[reducible] def Qm (d s:Nat):Q:=⟨some d,.mv (.t s),none⟩
attribute [go_sem] Qo Qm
end Go.Ab
namespace Go.Ab
inductive Ty where
 |mk (kind num:Int) (args:List Ty)
def Ty.kind:Ty->Int| .mk k _ _=>k
def Ty.num:Ty->Int| .mk _ n _=>n
def Ty.args:Ty->List Ty| .mk _ _ l=>l
mutual
def Ty.enc:Ty->List DV
 | .mk k n l=>[.int .i64 k,.int .i64 n,.sl (Ty.IM l)]
def Ty.IM:List Ty->List (List DV)
 |[]=>[]
 |t::l=>Ty.enc t::Ty.IM l
end
mutual
def Ty.size:Ty->Nat
 | .mk _ _ l=>1+Ty.AT l
def Ty.AT:List Ty->Nat
 |[]=>0
 |t::l=>Ty.size t+Ty.AT l
end
def tyA (t:Ty):AV:= .agg (t.enc.map AV.d)
def ARH (l:List Ty):AV:= .d (.sl (Ty.IM l))
theorem B0:∀l:List Ty,(Ty.IM l).length=l.length
 |[]=>rfl
 |t::l=>by simp [Ty.IM,B0 l]
theorem tF:∀(l:List Ty) (i:Nat),(Ty.IM l)[i]?=(l[i]?).map Ty.enc
 |[],i=>by simp [Ty.IM]
 |t::l,0=>by simp [Ty.IM]
 |t::l,i+1=>by simp [Ty.IM,tF l i]
theorem AAT {l:List Ty} {i:Nat} {k n:Int} {a:List Ty} (h:l[i]?=some (.mk k n a)):(Ty.IM l)[i]?=some [.int .i64 k,.int .i64 n,.sl (Ty.IM a)]:=by
 rw [tF,h];rfl
theorem Ae {α:Type} {l:List α} {i:Nat} {x:α} (h:l[i]?=some x):l.take (i+1)=l.take i++[x]:=by
 rw [List.take_add_one,h];rfl
theorem Yt:∀(l:List Ty) (t:Ty),Ty.AT (l++[t])=Ty.AT l+t.size
 |[],t=>by simp [Ty.AT]
 |u::l,t=>by simp only [AX,Ty.AT,Yt l t];omega
theorem CT:∀(l m:List Ty),Ty.AT (l++m)=Ty.AT l+Ty.AT m
 |[],m=>by simp [Ty.AT]
 |u::l,m=>by simp only [AX,Ty.AT,CT l m];omega
theorem size_pos:∀t:Ty,1<=t.size
 | .mk _ _ _=>by simp [Ty.size]
theorem Bt:∀l:List Ty,l.length<=Ty.AT l
 |[]=>by simp [Ty.AT]
 |t::l=>by have:=Bt l;have:=size_pos t;simp only [A0,Ty.AT];omega
end Go.Ab
namespace Go.Ab
abbrev Str:=List UInt8
inductive TE where
 |mk (kind:Int) (name:Str) (args:List TE)
structure CE where
 name:Str
 args:List TE
structure DE where
 name:Str
 vars:List Str
 cons:List CE
mutual
inductive Ex where
 |mk (op:Int) (name:Str) (num:Int) (names:List Str) (kids:List Ex) (alts:List Al)
inductive Al where
 |mk (con:Str) (vars:List Str) (body:Ex)
end
structure FE where
 name:Str
 params:List Str
 body:Ex
structure Pg where
 data:List DE
 G7:List FE
def Bb (s:Str):List DV:=[.str s]
def ssD (l:List Str):DV:= .sl (l.map Bb)
mutual
def TE.enc:TE->List DV
 | .mk k n l=>[.int .i64 k,.str n,.sl (TE.IM l)]
def TE.IM:List TE->List (List DV)
 |[]=>[]
 |t::l=>TE.enc t::TE.IM l
end
theorem TE.CM:∀l:List TE,TE.IM l=l.map TE.enc
 |[]=>rfl
 |t::l=>by simp [TE.IM,TE.CM l]
theorem TE.A4 (k:Int) (n:Str) (l:List TE):(TE.mk k n l).enc=[.int .i64 k,.str n,.sl (l.map TE.enc)]:=by
 simp [TE.enc,TE.CM]
mutual
def Ex.enc:Ex->List DV
 | .mk o n u ns ks aS=>[.int .i64 o,.str n,.int .i64 u,ssD ns,.sl (Ex.IM ks),.sl (Al.IM aS)]
def Ex.IM:List Ex->List (List DV)
 |[]=>[]
 |t::l=>Ex.enc t::Ex.IM l
def Al.enc:Al->List DV
 | .mk c vs b=>.str c::ssD vs::Ex.enc b
def Al.IM:List Al->List (List DV)
 |[]=>[]
 |t::l=>Al.enc t::Al.IM l
end
theorem Ex.CM:∀l:List Ex,Ex.IM l=l.map Ex.enc
 |[]=>rfl
 |t::l=>by simp [Ex.IM,Ex.CM l]
theorem Al.CM:∀l:List Al,Al.IM l=l.map Al.enc
 |[]=>rfl
 |t::l=>by simp [Al.IM,Al.CM l]
theorem Ex.A4 (o:Int) (n:Str) (u:Int) (ns:List Str) (ks:List Ex) (aS:List Al):(Ex.mk o n u ns ks aS).enc=[.int .i64 o,.str n,.int .i64 u,.sl (ns.map Bb),.sl (ks.map Ex.enc),.sl (aS.map Al.enc)]:=by
 simp [Ex.enc,Ex.CM,Al.CM,ssD]
theorem Al.A4 (c:Str) (vs:List Str) (o:Int) (n:Str) (u:Int) (ns:List Str) (ks:List Ex) (aS:List Al):(Al.mk c vs (.mk o n u ns ks aS)).enc=[.str c,.sl (vs.map Bb),.int .i64 o,.str n,.int .i64 u,.sl (ns.map Bb),.sl (ks.map Ex.enc),.sl (aS.map Al.enc)]:=by
 simp [Al.enc,Ex.A4,ssD]
def CE.enc (c:CE):List DV:=[.str c.name,.sl (c.args.map TE.enc)]
def DE.enc (d:DE):List DV:=[.str d.name,.sl (d.vars.map Bb),.sl (d.cons.map CE.enc)]
def FE.enc (f:FE):List DV:= .str f.name::.sl (f.params.map Bb)::f.body.enc
def Pg.enc (p:Pg):List DV:=[.sl (p.data.map DE.enc),.sl (p.G7.map FE.enc)]
def teA (t:TE):AV:= .agg (t.enc.map AV.d)
def exA (e:Ex):AV:= .agg (e.enc.map AV.d)
def alA (e:Al):AV:= .agg (e.enc.map AV.d)
def ceA (c:CE):AV:= .agg (c.enc.map AV.d)
def deA (c:DE):AV:= .agg (c.enc.map AV.d)
def feA (c:FE):AV:= .agg (c.enc.map AV.d)
def pgA (p:Pg):AV:= .agg (p.enc.map AV.d)
theorem Ty.CM:∀l:List Ty,Ty.IM l=l.map Ty.enc
 |[]=>rfl
 |t::l=>by simp [Ty.IM,Ty.CM l]
theorem BR {α:Type} {enc:α->List DV} {l:List α} {i:Nat} {x:α} (h:l[i]?=some x):(l.map enc)[i]?=some (enc x):=by
 rw [Ao,h];rfl
theorem Bv {α:Type} {l:List α} {i:Nat} {x:α} (h:l[i]?=some x):l.drop i=x::l.drop (i+1):=by
 have hlt:=(AF.1 h).1;rw [List.drop_eq_getElem_cons hlt];congr 1;exact (AF.1 h).2
theorem Ak {α:Type} {l:List α} {i:Nat} (h:i < l.length):∃x,l[i]?=some x:=⟨l[i],by simp [h]⟩
mutual
def TE.size:TE->Nat
 | .mk _ _ l=>1+TE.AT l
def TE.AT:List TE->Nat
 |[]=>0
 |t::l=>TE.size t+TE.AT l
end
mutual
def Ex.size:Ex->Nat
 | .mk _ _ _ _ ks aS=>1+Ex.AT ks+Al.AT aS
def Ex.AT:List Ex->Nat
 |[]=>0
 |t::l=>Ex.size t+Ex.AT l
def Al.size:Al->Nat
 | .mk _ _ b=>Ex.size b
def Al.AT:List Al->Nat
 |[]=>0
 |t::l=>Al.size t+Al.AT l
end
theorem TE.size_pos:∀t:TE,1<=t.size
 | .mk _ _ _=>by simp [TE.size]
theorem Ex.size_pos:∀t:Ex,1<=t.size
 | .mk _ _ _ _ _ _=>by simp only [Ex.size];omega
theorem TE.JD {l:List TE} {t:TE} (h:t∈l):t.size<=TE.AT l:=by
 induction l with
 |nil=>cases h
 |cons u l ih=>
  simp only [TE.AT];cases h with
  |head=>omega
  |tail _ h=>have:=ih h;omega
theorem Ex.JD {l:List Ex} {t:Ex} (h:t∈l):t.size<=Ex.AT l:=by
 induction l with
 |nil=>cases h
 |cons u l ih=>
  simp only [Ex.AT];cases h with
  |head=>omega
  |tail _ h=>have:=ih h;omega
theorem Al.JD {l:List Al} {t:Al} (h:t∈l):t.size<=Al.AT l:=by
 induction l with
 |nil=>cases h
 |cons u l ih=>
  simp only [Al.AT];cases h with
  |head=>omega
  |tail _ h=>have:=ih h;omega
theorem TE.Bt:∀l:List TE,l.length<=TE.AT l
 |[]=>by simp [TE.AT]
 |t::l=>by have:=TE.Bt l;have:=TE.size_pos t;simp only [A0,TE.AT];omega
theorem Ex.Bt:∀l:List Ex,l.length<=Ex.AT l
 |[]=>by simp [Ex.AT]
 |t::l=>by have:=Ex.Bt l;have:=Ex.size_pos t;simp only [A0,Ex.AT];omega
theorem Al.Bt:∀l:List Al,l.length<=Al.AT l
 |[]=>by simp [Al.AT]
 | .mk _ _ b::l=>by have:=Al.Bt l;have:=Ex.size_pos b;simp only [A0,Al.AT,Al.size];omega
theorem TE.CT:∀(l m:List TE),TE.AT (l++m)=TE.AT l+TE.AT m
 |[],m=>by simp [TE.AT]
 |u::l,m=>by simp only [AX,TE.AT,TE.CT l m];omega
theorem Ex.CT:∀(l m:List Ex),Ex.AT (l++m)=Ex.AT l+Ex.AT m
 |[],m=>by simp [Ex.AT]
 |u::l,m=>by simp only [AX,Ex.AT,Ex.CT l m];omega
theorem Al.CT:∀(l m:List Al),Al.AT (l++m)=Al.AT l+Al.AT m
 |[],m=>by simp [Al.AT]
 |u::l,m=>by simp only [AX,Al.AT,Al.CT l m];omega
end Go.Ab
namespace Go.Ab
open Go.RowKit
variable {P:Program} {K:CO} {F:Fm} {L:Lm} {σ:AH}
theorem uS {s:Nat} {v:AV} (h:F s=v):put s v F=F:=by
 funext t;simp only [put];split
 . rename_i e;rw [<- h];first|(subst e;rfl)|(rw [e])
 . rfl
theorem A9 {d:Option Nat} {o:O} {s:Nat} {want b:Bool} {r:List Q} (hF:F s= .d (.bool b))
 (h1:b=true->B8 P K (⟨d,o,some (s,want)⟩::r) (put s (.d (.bool true)) F) L σ) (h2:b=false->B8 P K (⟨d,o,some (s,want)⟩::r) (put s (.d (.bool false)) F) L σ):
 B8 P K (⟨d,o,some (s,want)⟩::r) F L σ:=by
 cases b
 . have:=h2 rfl;rw [uS hF] at this;exact this
 . have:=h1 rfl;rw [uS hF] at this;exact this
theorem AJ.det {d:Option Nat} {f:FuncId} {args:List AV} {v:AV} (h:AS P f args σ (fun v' σ'=>v'=v/\σ'=σ)) (hk:K (BI d v F) L σ) (hn:args.all AV.BF=true:=by rfl):AJ P f args d K F L σ:=
 AJ.mk hn h (fun v' σ' ⟨e1,e2⟩=>by subst e1;subst e2;exact hk)
theorem wrap_add {a b:Nat} (h:a+b<=9000000000000000000):IntKind.i64.wrap ((a:Int)+(b:Int))=((a+b:Nat):Int):=by
 rw [BP (by omega) (by omega)];omega
theorem A7 {a:Nat} (h:a+1<=9000000000000000000):IntKind.i64.wrap ((a:Int)+1)=((a+1:Nat):Int):=by
 rw [BP (by omega) (by omega)];omega
theorem Ag {i n:Nat} (h:i < n):decide ((i:Int) < (n:Int))=true:=by simp [h]
theorem Bk {i n:Nat} (h:¬i < n):decide ((i:Int) < (n:Int))=false:=by simp;omega
theorem D1 {s:List UInt8} {i:Nat} {b:UInt8} (h:s[i]?=some b) (k:IntKind):kV (.d (.str s)) (.d (.int k (i:Int)))=some (.d (.int .u8 b.toNat)):=by
 simp [kV,h]
theorem rQ {s:List UInt8} {n:Nat} (h:n<=s.length):W3 (.d (.str s)) none (some (.d (.int .i64 (n:Int))))=some (.d (.str (s.take n))):=by
 simp [W3,dY,X6,h]
theorem AIQ {s:List UInt8} {n:Nat} (h:n<=s.length):W3 (.d (.str s)) (some (.d (.int .i64 (n:Int)))) none=some (.d (.str (s.drop n))):=by
 simp [W3,dY,X6,h]
theorem AIP {s:List UInt8} {n m:Nat} (h:n<=m) (h2:m<=s.length):W3 (.d (.str s)) (some (.d (.int .i64 (n:Int)))) (some (.d (.int .i64 (m:Int))))=some (.d (.str ((s.take m).drop n))):=by
 simp [W3,dY,X6,h,h2]
theorem AMS {b c:UInt8} {s:List UInt8}:W3 (.d (.str (b::c::s))) none (some (.d (.int .i64 2)))=some (.d (.str [b,c])):=by
 rw [show (2:Int)=((2:Nat):Int) from rfl,rQ (by simp)];rfl
theorem AMR {b:UInt8} {s:List UInt8}:W3 (.d (.str (b::s))) none (some (.d (.int .i64 1)))=some (.d (.str [b])):=by
 rw [show (1:Int)=((1:Nat):Int) from rfl,rQ (by simp)];rfl
theorem ALR (b x:UInt8):((b.toNat:Int)==(x.toNat:Int))=(b==x):=by
 rw [Ax];simp only [beq_iff_eq,Int.natCast_inj,UInt8.toNat_inj]
theorem Run.NC {cx:Cx} {KK:AV->AH->Prop} {k:List CI} (ks:List Nat) (h:Run cx KK k (Ia ks F) (He ks L) σ):Run cx KK k F L σ:=
 fun items base g lam Pr a w0 w b cs hi hf hb hk=>h items base g lam Pr a w0 w b cs hi (hf.kept ks) hb hk
def ctl (bl:Bool):List CI->Option (List CI)
 | .code .skip::k=>some k
 | .code (.seq x y)::k=>some (.code x::.code y::k)
 | .code (.block i c)::k=>if bl then some (.code c::.blk i::k) else none
 | .code (.scope c)::k=>some (.code c::.scp::k)
 | .blk _::k=>some k
 | .scp::k=>some k
 | .code (.exit i)::k=>IN i k
 |_=>none
theorem Run.ctB {cx:Cx} {KK:AV->AH->Prop} (bl:Bool) {k k':List CI} (e:ctl bl k=some k') (h:Run cx KK k' F L σ):Run cx KK k F L σ:=by
 unfold ctl at e;split at e
 . cases e;exact Run.skip h
 . cases e;exact Run.seq h
 . split at e
   . cases e;exact Run.block h
   . cases e
 . cases e;exact Run.scope h
 . cases e;exact Run.blk h
 . cases e;exact Run.scp h
 . exact Run.exit e h
 . cases e
theorem Run.ct {cx:Cx} {KK:AV->AH->Prop} {k k':List CI} (e:ctl true k=some k') (h:Run cx KK k' F L σ):Run cx KK k F L σ:=Run.ctB true e h
theorem Run.cb {cx:Cx} {KK:AV->AH->Prop} {k k':List CI} (e:ctl false k=some k') (h:Run cx KK k' F L σ):Run cx KK k F L σ:=Run.ctB false e h
def Kp (R:CO) (l:List Nat):CO:=fun F L σ=>R (Ia l F) (He l L) σ
def Wp (cx:Cx) (K:AV->AH->Prop):C->CO->List CI->CO
 | .skip,R,_=>R
 | .seq a b,R,k=>Wp cx K a (Wp cx K b R k) (.code b::k)
 | .block i c,R,k=>Wp cx K c R (.blk i::k)
 | .scope c,R,k=>Wp cx K c R (.scp::k)
 | .exit i,_,k=>fun F L σ=>match IN i k with
  |some k'=>Run cx K k' F L σ
  |none=>False
 | .reg ops l,R,_=>B8 cx.P (Kp R l) ops
 | .cond x a b,_,k=>fun F L σ=>ZG (xv F x) (Run cx K (.code a::k) F L σ) (Run cx K (.code b::k) F L σ)
 | .J5 t l,R,_=>XT cx.P (Kp R l) false t
 | .loop c,_,k=>Run cx K (.code (.loop c)::k)
 | .ret,_,k=>Run cx K (.code .ret::k)
 | .bad,_,k=>Run cx K (.code .bad::k)
theorem gI {cx:Cx} {K:AV->AH->Prop} (hm:cx.P.follows .mixedOrders=true):∀(c:C) (R:CO) (k:List CI) (F:Fm) (L:Lm) (σ:AH),(∀F L σ,R F L σ->Run cx K k F L σ)->Wp cx K c R k F L σ->Run cx K (.code c::k) F L σ
 | .skip,R,k,F,L,σ,hR,h=>Run.skip (hR F L σ h)
 | .seq a b,R,k,F,L,σ,hR,h=>Run.seq (gI hm a (Wp cx K b R k) (.code b::k) F L σ (fun F L σ h=>gI hm b R k F L σ hR h) h)
 | .block i c,R,k,F,L,σ,hR,h=>Run.block (gI hm c R (.blk i::k) F L σ (fun F L σ h=>Run.blk (hR F L σ h)) h)
 | .scope c,R,k,F,L,σ,hR,h=>Run.scope (gI hm c R (.scp::k) F L σ (fun F L σ h=>Run.scp (hR F L σ h)) h)
 | .exit i,R,k,F,L,σ,hR,h=>by
  simp only [Wp] at h;cases he:IN i k with
  |none=>rw [he] at h;exact h.elim
  |some k'=>rw [he] at h;exact Run.exit he h
 | .reg ops l,R,k,F,L,σ,hR,h=>Run.ARB hm (Kp R l) h fun F L σ h=>hR _ _ _ h
 | .cond x a b,R,k,F,L,σ,hR,h=>Run.AMI h
 | .J5 t l,R,k,F,L,σ,hR,h=>Run.Zr hm (Kp R l) h fun F L σ h=>hR _ _ _ h
 | .loop c,R,k,F,L,σ,hR,h=>h
 | .ret,R,k,F,L,σ,hR,h=>h
 | .bad,R,k,F,L,σ,hR,h=>h
def hdC:List CI->Option (C×List CI)
 | .blk _::k=>hdC k
 | .scp::k=>hdC k
 | .code .skip::k=>some (.skip,k)
 | .code (.seq a b)::k=>some (.seq a b,k)
 | .code (.block i c)::k=>some (.block i c,k)
 | .code (.scope c)::k=>some (.scope c,k)
 | .code (.exit i)::k=>some (.exit i,k)
 | .code (.reg o l)::k=>some (.reg o l,k)
 | .code (.J5 o l)::k=>some (.J5 o l,k)
 | .code (.cond x a b)::k=>some (.cond x a b,k)
 |_=>none
theorem wQ {cx:Cx} {K:AV->AH->Prop} (hm:cx.P.follows .mixedOrders=true):∀ {k:List CI} {c:C} {k':List CI},hdC k=some (c,k')->Wp cx K c (Run cx K k') k' F L σ->Run cx K k F L σ
 | .blk _::k,c,k',e,h=>Run.blk (wQ hm (k:=k) e h)
 | .scp::k,c,k',e,h=>Run.scp (wQ hm (k:=k) e h)
 | .code d::k,c,k',e,h=>by
  cases d<;>cases e<;>exact gI hm _ _ _ F L σ (fun _ _ _ h=>h) h
 | .again _::k,c,k',e,h=>by cases e
 |[],c,k',e,h=>by cases e
section eqs
variable {cx:Cx} {K:AV->AH->Prop} {R:CO} {k:List CI} {a b c:C}
theorem ARI {l:List Nat}:Kp R l F L σ=R (Ia l F) (He l L) σ:=(rfl)
theorem AOK:Wp cx K .skip R k F L σ=R F L σ:=(rfl)
theorem AQH:Wp cx K (.seq a b) R k F L σ=Wp cx K a (Wp cx K b R k) (.code b::k) F L σ:=(rfl)
theorem ALT {i:Nat}:Wp cx K (.block i c) R k F L σ=Wp cx K c R (.blk i::k) F L σ:=(rfl)
theorem ALU:Wp cx K (.scope c) R k F L σ=Wp cx K c R (.scp::k) F L σ:=(rfl)
theorem AQF {ops:List Q} {l:List Nat}:Wp cx K (.reg ops l) R k F L σ=B8 cx.P (Kp R l) ops F L σ:=(rfl)
theorem AOJ {t:QT} {l:List Nat}:Wp cx K (.J5 t l) R k F L σ=XT cx.P (Kp R l) false t F L σ:=(rfl)
theorem AOG {x:X}:Wp cx K (.cond x a b) R k F L σ=ZG (xv F x) (Run cx K (.code a::k) F L σ) (Run cx K (.code b::k) F L σ):=(rfl)
theorem AOI:Wp cx K (.loop c) R k F L σ=Run cx K (.code (.loop c)::k) F L σ:=(rfl)
theorem AQG:Wp cx K .ret R k F L σ=Run cx K (.code .ret::k) F L σ:=(rfl)
theorem AOH {i:Nat}:Wp cx K (.exit i) R k F L σ=match IN i k with
 |some k'=>Run cx K k' F L σ
 |none=>False:=(rfl)
theorem AGC {i:Nat}:IN i (.code c::k)=IN i k:=(rfl)
theorem AJ4 {i:Nat}:IN i (.scp::k)=IN i k:=(rfl)
theorem ACI {i:Nat}:IN i (.again c::k)=IN i k:=(rfl)
theorem AGD {i:Nat}:IN i (.blk i::k)=some k:=by rw [IN,if_pos rfl]
theorem AJ3 {i j:Nat}:IN i (.blk j::k)=if j=i then some k else IN i k:=by rw [IN]
end eqs
attribute [go_sem] ARI AOK AQH ALT ALU AQF AOJ AOG AOI AQG AOH AGC AJ4 ACI AGD AJ3
attribute [go_sem] HS Nat.reduceBEq Nat.reduceAdd Nat.reduceLeDiff reduceIte reduceCtorEq
attribute [go_sem] nX ARH tyA Ty.enc Ty.IM eq_self Bl Bool.not_eq_false'
end Go.Ab
namespace Go.Ab
open Go.RowKit
def pO (l:List Nat) (t:PT):PT:=l.foldr .one t
def pL (l:List Nat) (t:PT):PT:=l.foldr .lay t
def qT (o:List Q):PT->QT
 | .done=>.done
 | .one i t| .lay i t=>.one (o.getD i ⟨none,.mv (.t 0),none⟩) (qT o t)
 | .alt i t r=>.alt (o.getD i ⟨none,.mv (.t 0),none⟩) (qT o t) (qT o r)
def ARC (q:List Q) (p:PT):C:=match p with
 | .done=>.reg q []
 |p=>match lin (qT q p) with
  |some q=>.reg q []
  |none=>.J5 (qT q p) []
def rgs:Code->Nat
 | .region _ _ _=>1
 | .seq x y=>rgs x+rgs y
 | .cond _ x y=>rgs x+rgs y
 | .block _ c=>rgs c
 | .loop c=>rgs c
 | .scope c=>rgs c
 |_=>0
def cQ (x:Cx) (ops:Array Oper) (o:Oper):Option Q:=match o.op with
 | .binOp op t a b _=>match x.P.underlying t with
  |some (.struct fs)=>(pA op fs.size a b).map fun c=>⟨o.dst,c,o.guard.bind fun g=>((ops[g.1]?).bind (·.dst)).map (·,g.2)⟩
  |_=>nW x.P x.N x.esc ops o
 |_=>nW x.P x.N x.esc ops o
def cU (x:Cx) (ps:List (Nat×PT)):Code->Nat->C
 | .region _ ops _,n=>match ops.toList.mapM (cQ x ops) with
  |some q=>ARC q ((ps.lookup n).getD .done)
  |none=>.bad
 | .seq a b,n=>.seq (cU x ps a n) (cU x ps b (n+rgs a))
 | .cond c t e,n=>.cond ((xo c).getD (.t 0)) (cU x ps t n) (cU x ps e (n+rgs t))
 | .block id c,n=>.block id (cU x ps c n)
 | .loop c,n=>.loop (cU x ps c n)
 | .exit id,_=>.exit id
 | .ret,_=>.ret
 | .scope c,n=>.scope (cU x ps c n)
 |_,_=>.skip
def bit (n:Nat):Nat:=1 <<< n
def bits (l:List Nat):Nat:=l.foldl (fun m n=>m|||bit n) 0
def AMQ (n:Nat) (m:Nat):List Nat:=(Au n).filter fun i=>m.testBit i
def AN5:QT->List Q
 | .done=>[]
 | .one q t=>q::AN5 t
 | .alt q t _=>q::AN5 t
def AA6:List Q->Nat->Nat
 |[],m=>m
 |q::l,m=>bits q.looks|||(match q.dst with|some d=>(AA6 l m|||bit d) ^^^ bit d|none=>AA6 l m)
def APY (f:Nat->Nat):Nat->Nat->Nat
 |0,m=>m
 |n+1,m=>if f m|||m=m then m else APY f n (f m|||m)
def lv (N r:Nat):C->List (Nat×Nat)->Nat->C×Nat
 | .reg q _,_,m=>(.reg q (AMQ N m),AA6 q m)
 | .J5 t _,_,m=>(.J5 t (AMQ N m),AA6 (AN5 t) m)
 | .seq a b,e,m=>match lv N r b e m with
  |(b',p)=>match lv N r a e p with
   |(a',q)=>(.seq a' b',q)
 | .cond x a b,e,m=>match lv N r a e m,lv N r b e m with
  |(a',p),(b',q)=>(.cond x a' b',bits (Rc x)|||(p|||q))
 | .block i c,e,m=>match lv N r c ((i,m)::e) m with
  |(c',p)=>(.block i c',p)
 | .scope c,e,m=>match lv N r c e m with
  |(c',p)=>(.scope c',p)
 | .loop c,e,_=>match APY (fun m=>(lv N r c e m).2) 8 0 with
  |m=>(.loop (lv N r c e m).1,m)
 | .exit i,e,_=>(.exit i,(e.lookup i).getD 0)
 | .ret,_,_=>(.ret,r)
 | .skip,_,m=>(.skip,m)
 | .bad,_,_=>(.bad,0)
def Z2 (ls:List C):C->Nat->C×Nat
 | .seq a b,n=>match Z2 ls a n with
  |(a',n)=>match Z2 ls b n with
   |(b',n)=>(.seq a' b',n)
 | .cond x a b,n=>match Z2 ls a n with
  |(a',n)=>match Z2 ls b n with
   |(b',n)=>(.cond x a' b',n)
 | .block i c,n=>match Z2 ls c n with
  |(c',n)=>(.block i c',n)
 | .scope c,n=>match Z2 ls c n with
  |(c',n)=>(.scope c',n)
 | .loop c,n=>match Z2 ls c n with
  |(_,n)=>(.loop (ls.getD n .skip),n+1)
 |c,n=>(c,n)
def sK (ls:List C):C->Nat->List C×Nat
 | .seq a b,n=>match sK ls a n with
  |(a',n)=>match sK ls b n with
   |(b',n)=>(a'++b',n)
 | .cond _ a b,n=>match sK ls a n with
  |(a',n)=>match sK ls b n with
   |(b',n)=>(a'++b',n)
 | .block _ c,n=>sK ls c n
 | .scope c,n=>sK ls c n
 | .loop c,n=>match sK ls c n with
  |(l,m)=>(l++[(Z2 ls c n).1],m+1)
 |_,n=>([],n)
def rvb:List RV->Nat
 |[]=>0
 | .t n::l=>bit n|||rvb l
 | .c n _::l=>bit n|||rvb l
def gen (N r:Nat) (c:C) (ls:List C):C×List C:=match lv N r c [] 0 with
 |(c,_)=>((Z2 ls c 0).1,(sK ls c 0).1)
theorem u8c (n:Nat) (h:n < 2 ^ 8):UInt8.ofBitVec (BitVec.ofFin ⟨n,h⟩)=UInt8.ofNat n:=by
 apply UInt8.toNat.inj;simp [UInt8.toNat_ofNat'];omega
def BO {α:Type} (x:Cx) (ps:List (Nat×PT)) (f:C×Nat×Nat->α)
 (y: {c:C×Nat×Nat // (cU x ps (x.fn.body.getD .skip) 0,x.N,rvb x.rs)=c}:=by exact ⟨_,by conv=> { lhs;reduce;try simp only [Int.reduceOfNat,Int.reduceNegSucc,u8c,UInt8.reduceOfNat]}⟩)
 (z: {a:α // f y.1=a}:=by exact ⟨_,by conv=> { lhs;(try (ext _;(try (ext _;(try (ext _;(try (ext _;(try (ext _;(try (ext _;(try (ext _;(try (ext _;(try (ext _;(try (ext _;(try (ext _;(try (ext _;(try (ext _;(try (ext _;skip))))))))))))))))))))))))))));cbv}⟩):α:=z.1
def G (c:C×Nat×Nat) (ls:List C):C×List C:=gen c.2.1 c.2.2 c.1 ls
def lpC (n:Nat) (p:C×List C):C:=p.2.getD n .skip
def wp (l:List (List Nat×PT)) (s:List (Nat×PT)):List (List Nat×PT):=s.foldl (fun l x=>l.modify x.1 fun y=>(y.1,x.2)) l
def Inn (cx:Cx) (c:C) (n:Nat):Prop:=∀ {args:List AV} {σ:AH} {K:AV->AH->Prop},args.length<=n->Run cx K [.code c] (VL args) E σ->AS cx.P cx.f args σ K
theorem inn {cx:Cx} {c:C} {n:Nat} (t:List (Nat×PT)) (hg:Good cx) (hn:cx.fn.ntmps=n) (hc:(cx.fn.body.bind fun k=>Hv cx.P cx.N cx.esc cx.pf k (wp (s7 c) t))=some (c,[]):=by kernel_rfl) (hN:cx.N=n:=by rfl):Inn cx c n:=by
 intro args σ K hl h;cases hb:cx.fn.body with
 |none=>rw [hb] at hc;cases hc
 |some code=>rw [hb] at hc;exact ABV hg hb (hn.trans hN.symm) (hN ▸ hl) (M9 cx _ _ _ _ hc) h
theorem Run.qP {cx:Cx} {KK:AV->AH->Prop} {k:List CI} {F:Fm} {L:Lm} {σ:AH} (hg:Good cx) (h:AFM ((kF F L σ cx.rs).map AV.plain) KK σ):Run cx KK (.code .ret::k) F L σ:=Run.CK hg (AH.le_refl _) h
theorem Run.qR {cx:Cx} {KK:AV->AH->Prop} {k:List CI} {F:Fm} {L:Lm} {σ:AH} (hg:Good cx) (h:AFM (kF F L σ cx.rs) KK σ):Run cx KK (.code .ret::k) F L σ:=Run.ARD hg (AH.le_refl _) h
theorem ctQ {cx:Cx} {KK:AV->AH->Prop} {k k':List CI} {F:Fm} {L:Lm} {σ:AH} (e:ctl true k=some k') (h:Run cx KK k' F L σ):Run cx KK k F L σ:=Run.ct e h
theorem rgQ {cx:Cx} {KK:AV->AH->Prop} {k:List CI} {F:Fm} {L:Lm} {σ:AH} {ops:List Q} {live:List Nat} (hm:cx.P.follows .mixedOrders=true) (h:B8 cx.P (wE cx KK k live) ops F L σ):Run cx KK (.code (.reg ops live)::k) F L σ:=Run.reg hm h
theorem cdQ {cx:Cx} {KK:AV->AH->Prop} {k:List CI} {F:Fm} {L:Lm} {σ:AH} {x:X} {t e:C} (h:ZG (xv F x) (Run cx KK (.code t::k) F L σ) (Run cx KK (.code e::k) F L σ)):Run cx KK (.code (.cond x t e)::k) F L σ:=Run.AMI h
theorem BQ {σ:AH} {i:Nat} {cs:List AV}:(σ.AM i cs).blk i=some cs:=by rw [AI,if_pos rfl]
theorem C4.w4 {σ σ':AH} {e s:Nat} {rows:List (List DV)} {v:AV} (h:C4 σ e s rows v σ'):v.BF=true/\(∀k,v.BT k=false)/\v.cells=[v]/\v.B5=true:=⟨h.BF,h.BT,h.cells,h.cell⟩
end Go.Ab
namespace Go.Ab
open Go.Proofs
set_option maxRecDepth 100000
set_option maxHeartbeats 40000000
noncomputable section
theorem mixed:Tzp.follows .mixedOrders=true:=by kernel_rfl
theorem mxQ:Tzp.follows .mixedOrders=true:=mixed
noncomputable def PX:Cx:=⟨Tzp,39,Tryz.f39,129,[7,300011,300016,300022,300028,300033,300038,300044,300050,300056,300062,300071,300081,300091,300103,300109,300114,300119,300125],[],[.t 2]⟩
theorem D9:Good PX:=⟨Tryz.func39,by kernel_rfl⟩
theorem u9:PX.rs=[.t 2]:=rfl
noncomputable def Oz:=BO PX [] fun c a b d e=>G c [a,b,d,e]
def MO:C:=lpC 0 (Oz .skip .skip .skip .skip)
def Qd:C:=lpC 1 (Oz MO .skip .skip .skip)
def Xk:C:=lpC 2 (Oz MO Qd .skip .skip)
def Xl:C:=lpC 3 (Oz MO Qd Xk .skip)
def wW:C:=(Oz MO Qd Xk Xl).1
theorem yB:Inn PX wW 129:=inn [] D9 Tryz.ntmps39
noncomputable def LW:Cx:=⟨Tzp,50,Tryz.f50,62,[30,300009,300014,300019,300025,300032,300039,300044,300050,300057],[],[.t 2]⟩
theorem Da:Good LW:=⟨Tryz.func50,by kernel_rfl⟩
theorem fM:LW.rs=[.t 2]:=rfl
noncomputable def PB:=BO LW [] fun c a b=>G c [a,b]
def QI:C:=lpC 0 (PB .skip .skip)
def ZP:C:=lpC 1 (PB QI .skip)
def g7:C:=(PB QI ZP).1
theorem iT:Inn LW g7 62:=inn [] Da Tryz.ntmps50
noncomputable def Q8:Cx:=⟨Tzp,69,Tryz.f69,37,[],[],[.t 4]⟩
theorem Mc:Good Q8:=⟨Tryz.func69,by kernel_rfl⟩
theorem rH:Q8.rs=[.t 4]:=rfl
noncomputable def tZ:=BO Q8 [] (G · [])
def sO:C:=(tZ).1
theorem tO:Inn Q8 sO 37:=inn [] Mc Tryz.ntmps69
noncomputable def UG:Cx:=⟨Tzp,70,Tryz.f70,32,[],[],[.t 4]⟩
theorem Ok:Good UG:=⟨Tryz.func70,by kernel_rfl⟩
theorem vA:UG.rs=[.t 4]:=rfl
noncomputable def jC:=BO UG [] fun c a=>G c [a]
def lU:C:=lpC 0 (jC .skip)
def wX:C:=(jC lU).1
theorem yC:Inn UG wX 32:=inn [] Ok Tryz.ntmps70
noncomputable def I8:Cx:=⟨Tzp,71,Tryz.f71,94,[300010,300013,300019,300028,300037,300047,300061,300070,300086],[],[.t 4]⟩
theorem IS:Good I8:=⟨Tryz.func71,by kernel_rfl⟩
theorem fJ:I8.rs=[.t 4]:=rfl
noncomputable def Vz:=BO I8 [] fun c a=>G c [a]
def QH:C:=lpC 0 (Vz .skip)
def gZ:C:=(Vz QH).1
theorem Vi:Inn I8 gZ 94:=inn [] IS Tryz.ntmps71
def W4:List (Nat×PT):=[(53,(pO [0,1,3,4,2,5,6,7] .done))]
noncomputable def I7:Cx:=⟨Tzp,72,Tryz.f72,250,[300030,300036,300040,300046,300050,300056,300065,300073,300077,300083,300088,300098,300106,300113,300117,300125,300129,300135,300138,300143,300147,300156,300164,300173,300183,300190,300197,300204,300210,300221,300227,300232,300237,300243],[],[.t 6]⟩
theorem Ch:Good I7:=⟨Tryz.func72,by kernel_rfl⟩
theorem N0:I7.rs=[.t 6]:=rfl
noncomputable def PA:=BO I7 W4 fun c a b=>G c [a,b]
def Kj:C:=lpC 0 (PA .skip .skip)
def QG:C:=lpC 1 (PA Kj .skip)
def gY:C:=(PA Kj QG).1
theorem Vh:Inn I7 gY 250:=inn W4 Ch Tryz.ntmps72
noncomputable def H7:Cx:=⟨Tzp,81,Tryz.f81,32,[300004,300009,300015,300020,300025,300030],[],[.t 2]⟩
theorem Oo:Good H7:=⟨Tryz.func81,by kernel_rfl⟩
theorem Nr:H7.rs=[.t 2]:=rfl
noncomputable def Yg:=BO H7 [] (G · [])
def YS:C:=(Yg).1
theorem Y9:Inn H7 YS 32:=inn [] Oo Tryz.ntmps81
noncomputable def Jn:Cx:=⟨Tzp,82,Tryz.f82,5,[],[],[.t 2]⟩
theorem UR:Good Jn:=⟨Tryz.func82,by kernel_rfl⟩
theorem cL:Jn.rs=[.t 2]:=rfl
noncomputable def eV:=BO Jn [] (G · [])
def eI:C:=(eV).1
theorem eQ:Inn Jn eI 5:=inn [] UR Tryz.ntmps82
noncomputable def Gm:Cx:=⟨Tzp,83,Tryz.f83,9,[3],[],[.t 4]⟩
theorem Nf:Good Gm:=⟨Tryz.func83,by kernel_rfl⟩
theorem WW:Gm.rs=[.t 4]:=rfl
noncomputable def X2:=BO Gm [] (G · [])
def XM:C:=(X2).1
theorem XW:Inn Gm XM 9:=inn [] Nf Tryz.ntmps83
noncomputable def Ff:Cx:=⟨Tzp,84,Tryz.f84,61,[300028,300033,300040,300047,300055],[],[.t 6]⟩
theorem C6:Good Ff:=⟨Tryz.func84,by kernel_rfl⟩
theorem To:Ff.rs=[.t 6]:=rfl
noncomputable def Hn:=BO Ff [] fun c a b=>G c [a,b]
def JO:C:=lpC 0 (Hn .skip .skip)
def Qj:C:=lpC 1 (Hn JO .skip)
def U6:C:=(Hn JO Qj).1
theorem Lf:Inn Ff U6 61:=inn [] C6 Tryz.ntmps84
noncomputable def I6:Cx:=⟨Tzp,104,Tryz.f104,200,[],[],[.t 2,.t 3,.t 4]⟩
theorem IQ:Good I6:=⟨Tryz.func104,by kernel_rfl⟩
theorem u3:I6.rs=[.t 2,.t 3,.t 4]:=rfl
noncomputable def Oy:=BO I6 [] fun c a b d e=>G c [a,b,d,e]
def MM:C:=lpC 0 (Oy .skip .skip .skip .skip)
def MN:C:=lpC 1 (Oy MM .skip .skip .skip)
def Qc:C:=lpC 2 (Oy MM MN .skip .skip)
def lS:C:=lpC 3 (Oy MM MN Qc .skip)
def wR:C:=(Oy MM MN Qc lS).1
theorem xY:Inn I6 wR 200:=inn [] IQ Tryz.ntmps104
noncomputable def LR:Cx:=⟨Tzp,105,Tryz.f105,17,[],[],[.t 2]⟩
theorem Ks:Good LR:=⟨Tryz.func105,by kernel_rfl⟩
theorem fI:LR.rs=[.t 2]:=rfl
noncomputable def jD:=BO LR [] (G · [])
def gX:C:=(jD).1
theorem iR:Inn LR gX 17:=inn [] Ks Tryz.ntmps105
noncomputable def Ij:Cx:=⟨Tzp,108,Tryz.f108,5,[],[],[.t 2]⟩
theorem SH:Good Ij:=⟨Tryz.func108,by kernel_rfl⟩
theorem aA:Ij.rs=[.t 2]:=rfl
noncomputable def bT:=BO Ij [] (G · [])
def aW:C:=(bT).1
theorem bP:Inn Ij aW 5:=inn [] SH Tryz.ntmps108
noncomputable def EX:Cx:=⟨Tzp,109,Tryz.f109,9,[3],[],[.t 4]⟩
theorem JU:Good EX:=⟨Tryz.func109,by kernel_rfl⟩
theorem Pu:EX.rs=[.t 4]:=rfl
noncomputable def RP:=BO EX [] (G · [])
def Qi:C:=(RP).1
theorem Qz:Inn EX Qi 9:=inn [] JU Tryz.ntmps109
noncomputable def GY:Cx:=⟨Tzp,110,Tryz.f110,17,[300004,300008,300014],[],[.t 2]⟩
theorem Mf:Good GY:=⟨Tryz.func110,by kernel_rfl⟩
theorem Li:GY.rs=[.t 2]:=rfl
noncomputable def WB:=BO GY [] (G · [])
def VX:C:=(WB).1
theorem Vo:Inn GY VX 17:=inn [] Mf Tryz.ntmps110
noncomputable def Dy:Cx:=⟨Tzp,111,Tryz.f111,9,[3],[],[.t 4]⟩
theorem Il:Good Dy:=⟨Tryz.func111,by kernel_rfl⟩
theorem PM:Dy.rs=[.t 4]:=rfl
noncomputable def Po:=BO Dy [] (G · [])
def P7:C:=(Po).1
theorem Pj:Inn Dy P7 9:=inn [] Il Tryz.ntmps111
noncomputable def FN:Cx:=⟨Tzp,112,Tryz.f112,5,[300003],[],[.t 2]⟩
theorem Kv:Good FN:=⟨Tryz.func112,by kernel_rfl⟩
theorem Se:FN.rs=[.t 2]:=rfl
noncomputable def T7:=BO FN [] (G · [])
def TG:C:=(T7).1
theorem TW:Inn FN TG 5:=inn [] Kv Tryz.ntmps112
noncomputable def Ha:Cx:=⟨Tzp,113,Tryz.f113,65,[3,300010,300018,300024,300035,300039,300044,300048,300054,300061],[],[.t 4]⟩
theorem Jv:Good Ha:=⟨Tryz.func113,by kernel_rfl⟩
theorem Xf:Ha.rs=[.t 4]:=rfl
noncomputable def Yj:=BO Ha [] (G · [])
def YV:C:=(Yj).1
theorem Ov:Inn Ha YV 65:=inn [] Jv Tryz.ntmps113
noncomputable def Ii:Cx:=⟨Tzp,114,Tryz.f114,37,[],[],[.t 4]⟩
theorem Gu:Good Ii:=⟨Tryz.func114,by kernel_rfl⟩
theorem Zz:Ii.rs=[.t 4]:=rfl
noncomputable def bS:=BO Ii [] (G · [])
def aV:C:=(bS).1
theorem bO:Inn Ii aV 37:=inn [] Gu Tryz.ntmps114
noncomputable def DM:Cx:=⟨Tzp,115,Tryz.f115,9,[],[],[.t 4]⟩
theorem Hd:Good DM:=⟨Tryz.func115,by kernel_rfl⟩
theorem ND:DM.rs=[.t 4]:=rfl
noncomputable def NZ:=BO DM [] (G · [])
def NP:C:=(NZ).1
theorem NX:Inn DM NP 9:=inn [] Hd Tryz.ntmps115
noncomputable def Fe:Cx:=⟨Tzp,116,Tryz.f116,8,[],[],[.t 3]⟩
theorem Lc:Good Fe:=⟨Tryz.func116,by kernel_rfl⟩
theorem Tm:Fe.rs=[.t 3]:=rfl
noncomputable def Uo:=BO Fe [] (G · [])
def U5:C:=(Uo).1
theorem Uh:Inn Fe U5 8:=inn [] Lc Tryz.ntmps116
noncomputable def H9:Cx:=⟨Tzp,117,Tryz.f117,194,[300008,300010,300012,300022,300034,300044,300048,300059,300063,300073,300079,300085,300089,300097,300107,300113,300117,300127,300133,300137,300149,300159,300163,300171,300183,300191],[],[.t 2]⟩
theorem Ju:Good H9:=⟨Tryz.func117,by kernel_rfl⟩
theorem Xe:H9.rs=[.t 2]:=rfl
noncomputable def Yi:=BO H9 [] (G · [])
def YU:C:=(Yi).1
theorem Yb:Inn H9 YU 194:=inn [] Ju Tryz.ntmps117
noncomputable def UE:Cx:=⟨Tzp,126,Tryz.f126,9,[],[],[.t 2]⟩
theorem iM:Good UE:=⟨Tryz.func126,by kernel_rfl⟩
theorem u6:UE.rs=[.t 2]:=rfl
noncomputable def yO:=BO UE [] (G · [])
def wU:C:=(yO).1
theorem x9:Inn UE wU 9:=inn [] iM Tryz.ntmps126
noncomputable def UF:Cx:=⟨Tzp,127,Tryz.f127,9,[],[],[.t 2]⟩
theorem iN:Good UF:=⟨Tryz.func127,by kernel_rfl⟩
theorem u7:UF.rs=[.t 2]:=rfl
noncomputable def yP:=BO UF [] (G · [])
def wV:C:=(yP).1
theorem yA:Inn UF wV 9:=inn [] iN Tryz.ntmps127
noncomputable def UD:Cx:=⟨Tzp,128,Tryz.f128,9,[],[],[.t 2]⟩
theorem iL:Good UD:=⟨Tryz.func128,by kernel_rfl⟩
theorem u5:UD.rs=[.t 2]:=rfl
noncomputable def yN:=BO UD [] (G · [])
def wT:C:=(yN).1
theorem x8:Inn UD wT 9:=inn [] iL Tryz.ntmps128
noncomputable def OY:Cx:=⟨Tzp,129,Tryz.f129,18,[],[],[.t 2]⟩
theorem TS:Good OY:=⟨Tryz.func129,by kernel_rfl⟩
theorem nB:OY.rs=[.t 2]:=rfl
noncomputable def Zd:=BO OY [] fun c a=>G c [a]
def eB:C:=lpC 0 (Zd .skip)
def pS:C:=(Zd eB).1
theorem qC:Inn OY pS 18:=inn [] TS Tryz.ntmps129
noncomputable def UC:Cx:=⟨Tzp,130,Tryz.f130,23,[],[],[.t 2,.t 3]⟩
theorem Y2:Good UC:=⟨Tryz.func130,by kernel_rfl⟩
theorem u4:UC.rs=[.t 2,.t 3]:=rfl
noncomputable def jB:=BO UC [] fun c a=>G c [a]
def lT:C:=lpC 0 (jB .skip)
def wS:C:=(jB lT).1
theorem xZ:Inn UC wS 23:=inn [] Y2 Tryz.ntmps130
noncomputable def Sn:Cx:=⟨Tzp,131,Tryz.f131,35,[],[],[.t 2]⟩
theorem SE:Good Sn:=⟨Tryz.func131,by kernel_rfl⟩
theorem zO:Sn.rs=[.t 2]:=rfl
noncomputable def oK:=BO Sn [] fun c a=>G c [a]
def ZO:C:=lpC 0 (oK .skip)
def AB6:C:=(oK ZO).1
theorem oJ:Inn Sn AB6 35:=inn [] SE Tryz.ntmps131
noncomputable def CY:Cx:=⟨Tzp,133,Tryz.f133,9,[],[],[.t 4]⟩
theorem Fp:Good CY:=⟨Tryz.func133,by kernel_rfl⟩
theorem KD:CY.rs=[.t 4]:=rfl
noncomputable def Kb:=BO CY [] (G · [])
def K7:C:=(Kb).1
theorem Ka:Inn CY K7 9:=inn [] Fp Tryz.ntmps133
noncomputable def Dj:Cx:=⟨Tzp,134,Tryz.f134,8,[300005],[],[.t 3]⟩
theorem IV:Good Dj:=⟨Tryz.func134,by kernel_rfl⟩
theorem OS:Dj.rs=[.t 3]:=rfl
noncomputable def PC:=BO Dj [] (G · [])
def Ob:C:=(PC).1
theorem Ou:Inn Dj Ob 8:=inn [] IV Tryz.ntmps134
noncomputable def CU:Cx:=⟨Tzp,135,Tryz.f135,9,[],[],[.t 4]⟩
theorem FY:Good CU:=⟨Tryz.func135,by kernel_rfl⟩
theorem J6:CU.rs=[.t 4]:=rfl
noncomputable def Jz:=BO CU [] (G · [])
def Jp:C:=(Jz).1
theorem Jw:Inn CU Jp 9:=inn [] FY Tryz.ntmps135
noncomputable def D4:Cx:=⟨Tzp,136,Tryz.f136,8,[300005],[],[.t 3]⟩
theorem Hy:Good D4:=⟨Tryz.func136,by kernel_rfl⟩
theorem N3:D4.rs=[.t 3]:=rfl
noncomputable def OO:=BO D4 [] (G · [])
def OD:C:=(OO).1
theorem OM:Inn D4 OD 8:=inn [] Hy Tryz.ntmps136
noncomputable def GZ:Cx:=⟨Tzp,137,Tryz.f137,8,[300004],[],[.t 3]⟩
theorem Mg:Good GZ:=⟨Tryz.func137,by kernel_rfl⟩
theorem Ux:GZ.rs=[.t 3]:=rfl
noncomputable def WC:=BO GZ [] (G · [])
def VY:C:=(WC).1
theorem Vp:Inn GZ VY 8:=inn [] Mg Tryz.ntmps137
noncomputable def MY:Cx:=⟨Tzp,138,Tryz.f138,61,[300047,300052],[],[.t 2,.t 3,.t 4]⟩
theorem C0:Good MY:=⟨Tryz.func138,by kernel_rfl⟩
theorem kI:MY.rs=[.t 2,.t 3,.t 4]:=rfl
noncomputable def RR:=BO MY [] fun c a b=>G c [a,b]
def Rn:C:=lpC 0 (RR .skip .skip)
def aX:C:=lpC 1 (RR Rn .skip)
def lY:C:=(RR Rn aX).1
theorem mF:Inn MY lY 61:=inn [] C0 Tryz.ntmps138
noncomputable def Dx:Cx:=⟨Tzp,139,Tryz.f139,19,[],[],[.t 4]⟩
theorem Ft:Good Dx:=⟨Tryz.func139,by kernel_rfl⟩
theorem PL:Dx.rs=[.t 4]:=rfl
noncomputable def Ir:=BO Dx [] fun c a=>G c [a]
def NR:C:=lpC 0 (Ir .skip)
def P6:C:=(Ir NR).1
theorem Ph:Inn Dx P6 19:=inn [] Ft Tryz.ntmps139
noncomputable def H8:Cx:=⟨Tzp,140,Tryz.f140,39,[300006,300008,300011,300017,300020,300025,300031,300036],[],[.t 2]⟩
theorem EO:Good H8:=⟨Tryz.func140,by kernel_rfl⟩
theorem Xd:H8.rs=[.t 2]:=rfl
noncomputable def Yh:=BO H8 [] (G · [])
def YT:C:=(Yh).1
theorem Ya:Inn H8 YT 39:=inn [] EO Tryz.ntmps140
noncomputable def LX:Cx:=⟨Tzp,141,Tryz.f141,23,[300004,300008,300013,300019],[],[.t 2]⟩
theorem Vf:Good LX:=⟨Tryz.func141,by kernel_rfl⟩
theorem fN:LX.rs=[.t 2]:=rfl
noncomputable def jG:=BO LX [] (G · [])
def g8:C:=(jG).1
theorem iU:Inn LX g8 23:=inn [] Vf Tryz.ntmps141
noncomputable def Jm:Cx:=⟨Tzp,142,Tryz.f142,9,[],[],[.t 2]⟩
theorem NW:Good Jm:=⟨Tryz.func142,by kernel_rfl⟩
theorem cK:Jm.rs=[.t 2]:=rfl
noncomputable def eU:=BO Jm [] (G · [])
def eH:C:=(eU).1
theorem eP:Inn Jm eH 9:=inn [] NW Tryz.ntmps142
noncomputable def GW:Cx:=⟨Tzp,143,Tryz.f143,9,[3],[],[.t 4]⟩
theorem Me:Good GW:=⟨Tryz.func143,by kernel_rfl⟩
theorem Uw:GW.rs=[.t 4]:=rfl
noncomputable def WA:=BO GW [] (G · [])
def VW:C:=(WA).1
theorem Vn:Inn GW VW 9:=inn [] Me Tryz.ntmps143
noncomputable def IE:Cx:=⟨Tzp,144,Tryz.f144,17,[300004,300008,300014],[],[.t 2]⟩
theorem Hz:Good IE:=⟨Tryz.func144,by kernel_rfl⟩
theorem Yr:IE.rs=[.t 2]:=rfl
noncomputable def Zf:=BO IE [] (G · [])
def ZQ:C:=(Zf).1
theorem Z8:Inn IE ZQ 17:=inn [] Hz Tryz.ntmps144
noncomputable def Ih:Cx:=⟨Tzp,145,Tryz.f145,15,[],[],[.t 6]⟩
theorem SG:Good Ih:=⟨Tryz.func145,by kernel_rfl⟩
theorem Zy:Ih.rs=[.t 6]:=rfl
noncomputable def bR:=BO Ih [] (G · [])
def aU:C:=(bR).1
theorem bN:Inn Ih aU 15:=inn [] SG Tryz.ntmps145
noncomputable def H6:Cx:=⟨Tzp,146,Tryz.f146,19,[],[],[.t 2,.t 3]⟩
theorem On:Good H6:=⟨Tryz.func146,by kernel_rfl⟩
theorem Xc:H6.rs=[.t 2,.t 3]:=rfl
noncomputable def Yf:=BO H6 [] (G · [])
def YR:C:=(Yf).1
theorem Y8:Inn H6 YR 19:=inn [] On Tryz.ntmps146
noncomputable def Cp:Cx:=⟨Tzp,149,Tryz.f149,19,[],[],[.t 4]⟩
theorem EM:Good Cp:=⟨Tryz.func149,by kernel_rfl⟩
theorem L8:Cp.rs=[.t 4]:=rfl
noncomputable def Gx:=BO Cp [] fun c a=>G c [a]
def K8:C:=lpC 0 (Gx .skip)
def Lo:C:=(Gx K8).1
theorem MA:Inn Cp Lo 19:=inn [] EM Tryz.ntmps149
noncomputable def Cd:Cx:=⟨Tzp,150,Tryz.f150,19,[],[],[.t 4]⟩
theorem Dq:Good Cd:=⟨Tryz.func150,by kernel_rfl⟩
theorem LG:Cd.rs=[.t 4]:=rfl
noncomputable def Ge:=BO Cd [] fun c a=>G c [a]
def Jr:C:=lpC 0 (Ge .skip)
def L4:C:=(Ge Jr).1
theorem L6:Inn Cd L4 19:=inn [] Dq Tryz.ntmps150
noncomputable def MZ:Cx:=⟨Tzp,151,Tryz.f151,17,[],[],[.t 2]⟩
theorem Xs:Good MZ:=⟨Tryz.func151,by kernel_rfl⟩
theorem kJ:MZ.rs=[.t 2]:=rfl
noncomputable def mN:=BO MZ [] (G · [])
def lZ:C:=(mN).1
theorem mG:Inn MZ lZ 17:=inn [] Xs Tryz.ntmps151
noncomputable def O0:Cx:=⟨Tzp,152,Tryz.f152,75,[300038,300048,300064,300070,300020,300074],[],[.c 4 (some 3),.t 5]⟩
theorem Z4:Good O0:=⟨Tryz.func152,by kernel_rfl⟩
theorem nD:O0.rs=[.c 4 (some 3),.t 5]:=rfl
noncomputable def qJ:=BO O0 [] (G · [])
def pY:C:=(qJ).1
theorem qF:Inn O0 pY 75:=inn [] Z4 Tryz.ntmps152
noncomputable def DA:Cx:=⟨Tzp,153,Tryz.f153,9,[],[],[.t 4]⟩
theorem HN:Good DA:=⟨Tryz.func153,by kernel_rfl⟩
theorem MK:DA.rs=[.t 4]:=rfl
noncomputable def Mv:=BO DA [] (G · [])
def M7:C:=(Mv).1
theorem Mm:Inn DA M7 9:=inn [] HN Tryz.ntmps153
noncomputable def FM:Cx:=⟨Tzp,154,Tryz.f154,8,[300005],[],[.t 3]⟩
theorem Ku:Good FM:=⟨Tryz.func154,by kernel_rfl⟩
theorem Sd:FM.rs=[.t 3]:=rfl
noncomputable def T6:=BO FM [] (G · [])
def TF:C:=(T6).1
theorem TV:Inn FM TF 8:=inn [] Ku Tryz.ntmps154
noncomputable def M1:Cx:=⟨Tzp,155,Tryz.f155,9,[],[],[.t 2]⟩
theorem Xu:Good M1:=⟨Tryz.func155,by kernel_rfl⟩
theorem kL:M1.rs=[.t 2]:=rfl
noncomputable def mP:=BO M1 [] (G · [])
def l6:C:=(mP).1
theorem mI:Inn M1 l6 9:=inn [] Xu Tryz.ntmps155
noncomputable def M3:Cx:=⟨Tzp,156,Tryz.f156,9,[],[],[.t 2]⟩
theorem Xv:Good M3:=⟨Tryz.func156,by kernel_rfl⟩
theorem kN:M3.rs=[.t 2]:=rfl
noncomputable def mQ:=BO M3 [] (G · [])
def l8:C:=(mQ).1
theorem mK:Inn M3 l8 9:=inn [] Xv Tryz.ntmps156
noncomputable def LY:Cx:=⟨Tzp,157,Tryz.f157,22,[],[],[.t 4]⟩
theorem Oq:Good LY:=⟨Tryz.func157,by kernel_rfl⟩
theorem fO:LY.rs=[.t 4]:=rfl
noncomputable def WD:=BO LY [] fun c a=>G c [a]
def ZR:C:=lpC 0 (WD .skip)
def g9:C:=(WD ZR).1
theorem iV:Inn LY g9 22:=inn [] Oq Tryz.ntmps157
noncomputable def LZ:Cx:=⟨Tzp,158,Tryz.f158,17,[],[],[.t 2]⟩
theorem Vg:Good LZ:=⟨Tryz.func158,by kernel_rfl⟩
theorem fP:LZ.rs=[.t 2]:=rfl
noncomputable def jH:=BO LZ [] (G · [])
def hX:C:=(jH).1
theorem iW:Inn LZ hX 17:=inn [] Vg Tryz.ntmps158
noncomputable def Jo:Cx:=⟨Tzp,159,Tryz.f159,33,[],[],[.t 2]⟩
theorem UT:Good Jo:=⟨Tryz.func159,by kernel_rfl⟩
theorem cM:Jo.rs=[.t 2]:=rfl
noncomputable def eW:=BO Jo [] (G · [])
def eJ:C:=(eW).1
theorem eR:Inn Jo eJ 33:=inn [] UT Tryz.ntmps159
noncomputable def M0:Cx:=⟨Tzp,160,Tryz.f160,9,[],[],[.t 2]⟩
theorem Xt:Good M0:=⟨Tryz.func160,by kernel_rfl⟩
theorem kK:M0.rs=[.t 2]:=rfl
noncomputable def mO:=BO M0 [] (G · [])
def l5:C:=(mO).1
theorem mH:Inn M0 l5 9:=inn [] Xt Tryz.ntmps160
noncomputable def M2:Cx:=⟨Tzp,161,Tryz.f161,21,[],[],[.t 2]⟩
theorem Qv:Good M2:=⟨Tryz.func161,by kernel_rfl⟩
theorem kM:M2.rs=[.t 2]:=rfl
noncomputable def Xy:=BO M2 [] fun c a=>G c [a]
def aY:C:=lpC 0 (Xy .skip)
def l7:C:=(Xy aY).1
theorem mJ:Inn M2 l7 21:=inn [] Qv Tryz.ntmps161
noncomputable def O1:Cx:=⟨Tzp,162,Tryz.f162,32,[],[],[.t 2]⟩
theorem TT:Good O1:=⟨Tryz.func162,by kernel_rfl⟩
theorem nE:O1.rs=[.t 2]:=rfl
noncomputable def qK:=BO O1 [] (G · [])
def pZ:C:=(qK).1
theorem Z9:Inn O1 pZ 32:=inn [] TT Tryz.ntmps162
noncomputable def Di:Cx:=⟨Tzp,163,Tryz.f163,19,[],[],[.t 4]⟩
theorem F1:Good Di:=⟨Tryz.func163,by kernel_rfl⟩
theorem OR:Di.rs=[.t 4]:=rfl
noncomputable def IY:=BO Di [] fun c a=>G c [a]
def M8:C:=lpC 0 (IY .skip)
def Oa:C:=(IY M8).1
theorem Ot:Inn Di Oa 19:=inn [] F1 Tryz.ntmps163
attribute [go_sem] u9 fM rH vA fJ N0 Nr cL WW To u3 fI aA Pu Li PM Se Xf Zz ND Tm Xe u6 u7 u5 nB u4 zO KD OS J6 N3 Ux kI PL Xd fN cK Uw Yr Zy Xc L8 LG kJ nD MK Sd kL kN fO fP cM kK kM nE OR
end
end Go.Ab
namespace Go.Ab
open Go.Proofs
theorem ZX {ds:List DV} (h:DT Tzp 55 ds):∃l:List Str,ds=[.sl (l.map Bb)]:=by
 obtain ⟨rows,rfl,_,hr⟩:=h.Vw Tryz.underlying55
 obtain ⟨l,rfl⟩:=LF (f:=Bb) rows (fun r hm=>by
  obtain ⟨s,rfl,_⟩:=(hr r hm).T3 Tryz.underlying9;exact ⟨s,rfl⟩)
 exact ⟨l,rfl⟩
theorem ANE:∀(n:Nat) (ds:List DV),SizeOf.sizeOf ds<=n->DT Tzp 64 ds->∃t:TE,ds=t.enc:=by
 intro n
 induction n with
 |zero=>intro ds h;cases ds<;>simp at h
 |succ n ih=>
  intro ds hn h;obtain ⟨a,b,rfl,h1,hb⟩:=(h.Jy Tryz.underlying64).Cs;obtain ⟨a2,b2,rfl,h2,hb2⟩:=hb.Cs;obtain ⟨a3,b3,rfl,h3,hb3⟩:=hb2.Cs;cases hb3.T2;obtain ⟨k,rfl,_⟩:=h1.qG Tryz.underlying3;obtain ⟨m,rfl,_⟩:=h2.T3 Tryz.underlying9;obtain ⟨rows,rfl,_,hr⟩:=h3.Vw Tryz.underlying60
  obtain ⟨l,rfl⟩:=LF (f:=TE.enc) rows (fun r hm=>ih r (by
   have:=List.sizeOf_lt_of_mem hm;simp only [AX,Aj,BX,List.cons.sizeOf_spec,List.nil.sizeOf_spec,DV.int.sizeOf_spec,DV.str.sizeOf_spec,DV.sl.sizeOf_spec] at hn;omega) (hr r hm))
  exact ⟨.mk k m l,by rw [TE.A4];rfl⟩
theorem ANB:∀(n:Nat) (ds:List DV),SizeOf.sizeOf ds<=n->DT Tzp 69 ds->∃t:Ex,ds=t.enc:=by
 intro n
 induction n with
 |zero=>intro ds h;cases ds<;>simp at h
 |succ n ih=>
  intro ds hn h;obtain ⟨a,b,rfl,h1,hb⟩:=(h.Jy Tryz.underlying69).Cs;obtain ⟨a2,b2,rfl,h2,hb2⟩:=hb.Cs;obtain ⟨a3,b3,rfl,h3,hb3⟩:=hb2.Cs;obtain ⟨a4,b4,rfl,h4,hb4⟩:=hb3.Cs;obtain ⟨a5,b5,rfl,h5,hb5⟩:=hb4.Cs;obtain ⟨a6,b6,rfl,h6,hb6⟩:=hb5.Cs;cases hb6.T2;obtain ⟨o,rfl,_⟩:=h1.qG Tryz.underlying3;obtain ⟨m,rfl,_⟩:=h2.T3 Tryz.underlying9;obtain ⟨u,rfl,_⟩:=h3.qG Tryz.underlying2;obtain ⟨ns,rfl⟩:=ZX h4;obtain ⟨rows,rfl,_,hr⟩:=h5.Vw Tryz.underlying66;obtain ⟨rows2,rfl,_,hr2⟩:=h6.Vw Tryz.underlying67;simp only [AX,Aj,BX,List.cons.sizeOf_spec,List.nil.sizeOf_spec,DV.int.sizeOf_spec,DV.str.sizeOf_spec,DV.sl.sizeOf_spec] at hn
  obtain ⟨l,rfl⟩:=LF (f:=Ex.enc) rows (fun r hm=>ih r (by
   have:=List.sizeOf_lt_of_mem hm;omega) (hr r hm))
  obtain ⟨l2,rfl⟩:=LF (f:=Al.enc) rows2 (fun r hm=>by
   have hlt:=List.sizeOf_lt_of_mem hm;obtain ⟨c1,d1,rfl,g1,e1⟩:=((hr2 r hm).Jy Tryz.underlying117).Cs;obtain ⟨c2,d2,rfl,g2,e2⟩:=e1.Cs;obtain ⟨c3,d3,rfl,g3,e3⟩:=e2.Cs;cases e3.T2;obtain ⟨c,rfl,_⟩:=g1.T3 Tryz.underlying9;obtain ⟨vs,rfl⟩:=ZX g2;simp only [AX,Aj,BX,List.cons.sizeOf_spec,DV.str.sizeOf_spec,DV.sl.sizeOf_spec] at hlt;obtain ⟨e,rfl⟩:=ih c3 (by omega) g3;exact ⟨.mk c vs e,by simp [Al.enc,ssD]⟩)
  exact ⟨.mk o m u ns l l2,by rw [Ex.A4];rfl⟩
theorem AM9 (ds:List DV) (h:DT Tzp 62 ds):∃c:CE,ds=c.enc:=by
 obtain ⟨a,b,rfl,h1,hb⟩:=(h.Jy Tryz.underlying62).Cs;obtain ⟨a2,b2,rfl,h2,hb2⟩:=hb.Cs;cases hb2.T2;obtain ⟨s,rfl,_⟩:=h1.T3 Tryz.underlying9;obtain ⟨rows,rfl,_,hr⟩:=h2.Vw Tryz.underlying60;obtain ⟨l,rfl⟩:=LF (f:=TE.enc) rows (fun r hm=>ANE _ r (AR _) (hr r hm));exact ⟨⟨s,l⟩,rfl⟩
theorem ANA (ds:List DV) (h:DT Tzp 58 ds):∃c:DE,ds=c.enc:=by
 obtain ⟨a,b,rfl,h1,hb⟩:=(h.Jy Tryz.underlying58).Cs;obtain ⟨a2,b2,rfl,h2,hb2⟩:=hb.Cs;obtain ⟨a3,b3,rfl,h3,hb3⟩:=hb2.Cs;cases hb3.T2;obtain ⟨s,rfl,_⟩:=h1.T3 Tryz.underlying9;obtain ⟨vs,rfl⟩:=ZX h2;obtain ⟨rows,rfl,_,hr⟩:=h3.Vw Tryz.underlying56;obtain ⟨l,rfl⟩:=LF (f:=CE.enc) rows (fun r hm=>AM9 r (hr r hm));exact ⟨⟨s,vs,l⟩,rfl⟩
theorem ANC (ds:List DV) (h:DT Tzp 71 ds):∃c:FE,ds=c.enc:=by
 obtain ⟨a,b,rfl,h1,hb⟩:=(h.Jy Tryz.underlying71).Cs;obtain ⟨a2,b2,rfl,h2,hb2⟩:=hb.Cs;obtain ⟨a3,b3,rfl,h3,hb3⟩:=hb2.Cs;cases hb3.T2;obtain ⟨s,rfl,_⟩:=h1.T3 Tryz.underlying9;obtain ⟨vs,rfl⟩:=ZX h2;obtain ⟨e,rfl⟩:=ANB _ a3 (AR _) h3;exact ⟨⟨s,vs,e⟩,by simp [FE.enc]⟩
theorem AND (ds:List DV) (h:DT Tzp 25 ds):∃p:Pg,ds=p.enc:=by
 obtain ⟨a,b,rfl,h1,hb⟩:=(h.Jy Tryz.underlying25).Cs;obtain ⟨a2,b2,rfl,h2,hb2⟩:=hb.Cs;cases hb2.T2;obtain ⟨rows,rfl,_,hr⟩:=h1.Vw Tryz.underlying22;obtain ⟨l,rfl⟩:=LF (f:=DE.enc) rows (fun r hm=>ANA r (hr r hm));obtain ⟨rows2,rfl,_,hr2⟩:=h2.Vw Tryz.underlying23;obtain ⟨l2,rfl⟩:=LF (f:=FE.enc) rows2 (fun r hm=>ANC r (hr2 r hm));exact ⟨⟨l,l2⟩,rfl⟩
theorem AJL {av:List AV} (h:cX Tzp [25] av):∃p:Pg,av=[pgA p]:=by
 cases h with
 |cons h1 h=>
  cases h;obtain ⟨p,rfl⟩:=AND _ h1;exact ⟨p,by rw [cY Tryz.underlying25];rfl⟩
end Go.Ab
namespace Go.Ab
open Go.Proofs
def mU (n:Int):Bool:=decide (97<=n)&&decide (n<=122)
def fW (n:Int):Bool:=decide (65<=n)&&decide (n<=90)
def Kr (n:Int):Bool:=decide (48<=n)&&decide (n<=57)
def Kc (n:Int):Bool:=mU n||fW n||Kr n||(n==95)
def wO (n:Int):Bool:=(n==9)||(n==10)||(n==13)||(n==32)
theorem W6 (n:Int) (σ:AH):AS Tzp 155 [.d (.int .u8 n)] σ (fun v σ'=>v= .d (.bool (mU n))/\σ'=σ):=by
 refine mI (by simp) ?_;rw [Bs];(repeat' ((first|refine wQ mxQ rfl ?_|refine Run.qP Xu ?_|(refine A9 rfl (fun h=>?_) (fun h=>?_)<;>try (cases h;done))|fail)<;>try simp only [go_sem]))
 all_goals (simp_all [mU];try omega)
theorem W7 (n:Int) (σ:AH):AS Tzp 156 [.d (.int .u8 n)] σ (fun v σ'=>v= .d (.bool (fW n))/\σ'=σ):=by
 refine mK (by simp) ?_;rw [Bs];(repeat' ((first|refine wQ mxQ rfl ?_|refine Run.qP Xv ?_|(refine A9 rfl (fun h=>?_) (fun h=>?_)<;>try (cases h;done))|fail)<;>try simp only [go_sem]))
 all_goals (simp_all [fW];try omega)
theorem PU (n:Int) (σ:AH):AS Tzp 160 [.d (.int .u8 n)] σ (fun v σ'=>v= .d (.bool (Kr n))/\σ'=σ):=by
 refine mH (by simp) ?_;rw [Bs];(repeat' ((first|refine wQ mxQ rfl ?_|refine Run.qP Xt ?_|(refine A9 rfl (fun h=>?_) (fun h=>?_)<;>try (cases h;done))|fail)<;>try simp only [go_sem]))
 all_goals (simp_all [Kr];try omega)
theorem KT (n:Int) (σ:AH):AS Tzp 126 [.d (.int .u8 n)] σ (fun v σ'=>v= .d (.bool (mU n))/\σ'=σ):=by
 refine x9 (by simp) ?_;rw [Bs];(repeat' ((first|refine wQ mxQ rfl ?_|refine Run.qP iM ?_|(refine A9 rfl (fun h=>?_) (fun h=>?_)<;>try (cases h;done))|fail)<;>try simp only [go_sem]))
 all_goals (simp_all [mU];try omega)
theorem KU (n:Int) (σ:AH):AS Tzp 127 [.d (.int .u8 n)] σ (fun v σ'=>v= .d (.bool (fW n))/\σ'=σ):=by
 refine yA (by simp) ?_;rw [Bs];(repeat' ((first|refine wQ mxQ rfl ?_|refine Run.qP iN ?_|(refine A9 rfl (fun h=>?_) (fun h=>?_)<;>try (cases h;done))|fail)<;>try simp only [go_sem]))
 all_goals (simp_all [fW];try omega)
theorem I2 (n:Int) (σ:AH):AS Tzp 128 [.d (.int .u8 n)] σ (fun v σ'=>v= .d (.bool (Kr n))/\σ'=σ):=by
 refine x8 (by simp) ?_;rw [Bs];(repeat' ((first|refine wQ mxQ rfl ?_|refine Run.qP iL ?_|(refine A9 rfl (fun h=>?_) (fun h=>?_)<;>try (cases h;done))|fail)<;>try simp only [go_sem]))
 all_goals (simp_all [Kr];try omega)
theorem LN (n:Int) (σ:AH):AS Tzp 151 [.d (.int .u8 n)] σ (fun v σ'=>v= .d (.bool (wO n))/\σ'=σ):=by
 refine mG (by simp) ?_;rw [Bs];(repeat' ((first|refine wQ mxQ rfl ?_|refine Run.qP Xs ?_|(refine A9 rfl (fun h=>?_) (fun h=>?_)<;>try (cases h;done))|fail)<;>try simp only [go_sem]))
 all_goals simp_all [wO]
theorem fV (n:Int) (σ:AH):AS Tzp 158 [.d (.int .u8 n)] σ (fun v σ'=>v= .d (.bool (Kc n))/\σ'=σ):=by
 refine iW (by simp) ?_;rw [Bs];(repeat' (first|((first|refine wQ mxQ rfl ?_|refine Run.qP Vg ?_|refine AJ.det (W6 _ _) ?_|refine AJ.det (W7 _ _) ?_|refine AJ.det (PU _ _) ?_|(refine A9 rfl (fun h=>?_) (fun h=>?_)<;>try (cases h;done))|fail)<;>try simp only [go_sem])|(refine ⟨fun h=>?_,fun h=>?_⟩<;>first|(cases h;done)|try simp only [h])|fail))
 all_goals simp_all [Kc]
def LB:List Str:=[[97,114,114,97,121],[98,111,111,108],[99,97,116,99,104],[100,97,116,97],[101,108,115,101],[101,110,100],[102,97,108,115,101],[102,110],[102,117,110],[103,101,116],[105,102],[105,110],[105,110,116],[108,101,110],[108,101,116],[109,97,116,99,104],[110,101,119],[114,97,105,115,101],[114,101,97,100],[114,101,102],[115,101,116],[116,104,101,110],[116,105,99,107],[116,114,117,101],[116,114,121],[117,110,105,116],[119,105,116,104],[119,114,105,116,101]]
def ADL (s:Str):Bool:=LB.any (s==·)
theorem cT (s:Str) (σ:AH):AS Tzp 159 [.d (.str s)] σ (fun v σ'=>v= .d (.bool (ADL s))/\σ'=σ):=by
 refine eR (by simp) ?_;rw [Bs];(repeat' (first|((first|refine wQ mxQ rfl ?_|refine Run.qP UT ?_|(refine A9 rfl (fun h=>?_) (fun h=>?_)<;>try (cases h;done))|fail)<;>try simp only [go_sem])|(refine ⟨fun h=>?_,fun h=>?_⟩<;>first|(cases h;done)|try simp only [h])|fail))
 all_goals simp only [ADL,LB,List.any_cons,List.any_nil,L2,ED,NK,Bool.or_true,and_self, *]
end Go.Ab
namespace Go.Ab
open Go.Proofs
theorem mY (s:Str) (σ:AH):AS Tzp 129 [.d (.str s)] σ (fun v σ'=>v= .d (.bool (ADL s))/\σ'=σ):=by
 refine qC (by simp) ?_;rw [Bs]
 (repeat (first
   |refine Run.seq ?_
   |refine Run.skip ?_
   |refine Run.block ?_
   |refine Run.blk ?_
   |refine Run.scope ?_
   |refine Run.scp ?_
   |(refine Run.exit rfl ?_)
   |(refine rgQ mxQ ?_;simp only [go_sem])
   |(refine cdQ ?_;simp only [go_sem])))
 refine Run.BB ?_;refine Run.BG ((fun (a0:AV)=>fun (i:Nat)=>put 0 a0 (put 3 (.d (.sl (LB.map Bb))) (put 4 (.d (.int .i64 i)) U))) _) (fun _=>E) (fun _=>σ) (fun i=>i<=LB.length/\ADL s=(LB.drop i).any (s==·)) (fun i=>LB.length - i) ?_ 0 ⟨by omega,rfl⟩;rintro i ⟨hi,hs⟩ ih;by_cases hlt:i < LB.length
 . obtain ⟨x,hx⟩:=Ak hlt;have he:=BR (enc:=Bb) hx;rw [Bv hx,List.any_cons] at hs;(repeat' (first|((first|refine wQ mxQ rfl ?_|refine Run.qP TS ?_|fail)<;>try simp only [AA,Ag hlt,he,Bb,A7 (show i+1<=9000000000000000000 by have:LB.length=28:=rfl;omega),go_sem])|(refine ⟨fun h=>?_,fun h=>?_⟩<;>first|(cases h;done)|try simp only [h])|fail))
   . rw [hs];simp_all
   . refine ih (i+1) ⟨hlt,?_⟩ (by omega);rw [hs,show (s==x)=(x==s) from BEq.comm,h,ED]
 . have hge:i=LB.length:=by omega
   (repeat' ((first|refine wQ mxQ rfl ?_|refine Run.qP TS ?_|fail)<;>try simp only [AA,Bk hlt,go_sem]));rw [hs,hge];rfl
def Q5:Str->Int->Option Int
 |[],v=>some v
 |b::r,v=>if v * 10+IntKind.u8.wrap ((b.toNat:Int) - 48)>1000000 then none else Q5 r (v * 10+IntKind.u8.wrap ((b.toNat:Int) - 48))
theorem AMU (a:Int):0<=IntKind.u8.wrap a/\IntKind.u8.wrap a<=255:=by
 have h1:IntKind.u8.wrap a=a % 256:=by rfl
 rw [h1];omega
theorem uU (s:Str) (σ:AH) (hl:s.length<=1000000000):AS Tzp 130 [.d (.str s)] σ (fun v σ'=>v=(match Q5 s 0 with|some n=>.tup [.d (.int .i64 n),.d (.bool true)]|none=>.tup [.d (.int .i64 0),.d (.bool false)])/\σ'=σ):=by
 refine xZ (by simp) ?_;rw [Bs]
 (repeat (first
   |refine Run.seq ?_
   |refine Run.skip ?_
   |refine Run.block ?_
   |refine Run.blk ?_
   |refine Run.scope ?_
   |refine Run.scp ?_
   |(refine Run.exit rfl ?_)
   |(refine rgQ mxQ ?_;simp only [go_sem])
   |(refine cdQ ?_;simp only [go_sem])))
 refine Run.BB ?_;refine Run.BG ((fun (a0:AV)=>fun (y:Nat×Int)=>put 0 a0 (put 4 (.d (.int .i64 y.2)) (put 5 (.d (.int .i64 y.1)) U))) _) (fun _=>E) (fun _=>σ) (fun y=>y.1<=s.length/\0<=y.2/\y.2<=1000000/\Q5 s 0=Q5 (s.drop y.1) y.2) (fun y=>s.length - y.1) ?_ (0,0) ⟨by simp,by simp,by simp,rfl⟩;rintro ⟨i,v⟩ ⟨hi,h0,h1,hs⟩ ih;simp only at hi h0 h1 hs;by_cases hlt:i < s.length
 . obtain ⟨x,hx⟩:=Ak hlt;rw [Bv hx,Q5] at hs;have hu:=AMU ((x.toNat:Int) - 48);have e1:IntKind.i64.wrap (v * 10)=v * 10:=BP (by omega) (by omega);have e2:IntKind.i64.wrap (IntKind.u8.wrap ((x.toNat:Int) - 48))=IntKind.u8.wrap ((x.toNat:Int) - 48):=BP (by omega) (by omega);have e3:IntKind.i64.wrap (v * 10+IntKind.u8.wrap ((x.toNat:Int) - 48))=v * 10+IntKind.u8.wrap ((x.toNat:Int) - 48):=BP (by omega) (by omega);(repeat' (first|((first|refine wQ mxQ rfl ?_|refine Run.qP Y2 ?_|fail)<;>try simp only [Ag hlt,D1 hx,e1,e2,e3,A7 (show i+1<=9000000000000000000 by omega),go_sem])|(refine ⟨fun h=>?_,fun h=>?_⟩<;>first|(cases h;done)|try simp only [h])|fail))
   . have:v * 10+IntKind.u8.wrap ((x.toNat:Int) - 48)>1000000:=by simpa using h
     rw [hs,if_pos this]
   . have:¬v * 10+IntKind.u8.wrap ((x.toNat:Int) - 48)>1000000:=by simpa using h
     rw [if_neg this] at hs;exact ih (i+1,_) ⟨hlt,by simp only;omega,by simp only;omega,hs⟩ (by simp only;omega)
 . have hge:i=s.length:=by omega
   (repeat' ((first|refine wQ mxQ rfl ?_|refine Run.qP Y2 ?_|fail)<;>try simp only [Bk hlt,go_sem]));rw [hs,hge,NM,Q5]
end Go.Ab
namespace Go.Ab
open Go.Proofs
def kU:Str:=[40,41,44,61,124,43,45,42,47,37,60,59,95]
def rM (b:UInt8):Nat:=if kU.any (b==·) then 1 else 0
def AIL (b c:UInt8):Bool:=([b,c]==[45,62])||([b,c]==[60,61])||([b,c]==[61,61])
def J8:Str->Nat
 |[]=>0
 |[b]=>rM b
 |b::c::_=>if AIL b c then 2 else rM b
theorem AMJ:decide ((2:Int)<=((1:Nat):Int))=false:=rfl
theorem AMK (n:Nat):decide ((2:Int)<=((n+1+1:Nat):Int))=true:=by simp;omega
theorem APF (b c:UInt8):([b]==[c])=(b==c):=by
 rw [Ax];simp
theorem nH (s:Str) (σ:AH) (hs:s≠[]):AS Tzp 162 [.d (.str s)] σ (fun v σ'=>v= .d (.str (s.take (J8 s)))/\σ'=σ):=by
 match s,hs with
 |[b],_=>
  refine Z9 (by simp) ?_;rw [Bs];(repeat' (first|refine ctQ rfl ?_|((first|refine rgQ mxQ ?_|refine cdQ ?_|refine Run.qP TT ?_)<;>try simp only [AMJ,AMR,APF,go_sem])|(refine ⟨fun h=>?_,fun h=>?_⟩<;>first|(cases h;done)|try simp only [h])|fail))
  all_goals simp only [J8,rM,kU,List.any_cons,List.any_nil,L2,ED,NK,Bool.or_true,reduceIte,C3,C7,AZ,and_self, *]
 |b::c::r,_=>
  refine Z9 (by simp) ?_;rw [Bs];(repeat' (first|refine ctQ rfl ?_|((first|refine rgQ mxQ ?_|refine cdQ ?_|refine Run.qP TT ?_)<;>try simp only [AMK,AMR,AMS,APF,go_sem])|(refine ⟨fun h=>?_,fun h=>?_⟩<;>first|(cases h;done)|try simp only [h])|fail))
  all_goals simp only [J8,AIL,rM,kU,List.any_cons,List.any_nil,L2,ED,NK,Bool.or_true,reduceIte,C3,C7,AZ,and_self, *]
theorem lD (s:Str) (σ:AH) (hl:s.length<=1000000000):AS Tzp 161 [.d (.str s)] σ (fun v σ'=>v= .d (.bool (Q5 s 0).isSome)/\σ'=σ):=by
 refine mJ (by simp) ?_;rw [Bs]
 (repeat (first
   |refine Run.seq ?_
   |refine Run.skip ?_
   |refine Run.block ?_
   |refine Run.blk ?_
   |refine Run.scope ?_
   |refine Run.scp ?_
   |(refine Run.exit rfl ?_)
   |(refine rgQ mxQ ?_;simp only [go_sem])
   |(refine cdQ ?_;simp only [go_sem])))
 refine Run.BB ?_;refine Run.BG ((fun (a0:AV) (a6:AV)=>fun (y:Nat×Int)=>put 0 a0 (put 3 (.d (.int .i64 y.2)) (put 6 a6 (put 7 (.d (.int .i64 y.1)) U)))) _ _) (fun _=>E) (fun _=>σ) (fun y=>y.1<=s.length/\0<=y.2/\y.2<=1000000/\Q5 s 0=Q5 (s.drop y.1) y.2) (fun y=>s.length - y.1) ?_ (0,0) ⟨by simp,by simp,by simp,rfl⟩;rintro ⟨i,v⟩ ⟨hi,h0,h1,hs⟩ ih;simp only at hi h0 h1 hs;by_cases hlt:i < s.length
 . obtain ⟨x,hx⟩:=Ak hlt;rw [Bv hx,Q5] at hs;have hu:=AMU ((x.toNat:Int) - 48);have e1:IntKind.i64.wrap (v * 10)=v * 10:=BP (by omega) (by omega);have e2:IntKind.i64.wrap (IntKind.u8.wrap ((x.toNat:Int) - 48))=IntKind.u8.wrap ((x.toNat:Int) - 48):=BP (by omega) (by omega);have e3:IntKind.i64.wrap (v * 10+IntKind.u8.wrap ((x.toNat:Int) - 48))=v * 10+IntKind.u8.wrap ((x.toNat:Int) - 48):=BP (by omega) (by omega);(repeat' (first|((first|refine wQ mxQ rfl ?_|refine Run.qP Qv ?_|fail)<;>try simp only [Ag hlt,D1 hx,e1,e2,e3,A7 (show i+1<=9000000000000000000 by omega),go_sem])|(refine ⟨fun h=>?_,fun h=>?_⟩<;>first|(cases h;done)|try simp only [h])|fail))
   . have:v * 10+IntKind.u8.wrap ((x.toNat:Int) - 48)>1000000:=by simpa using h
     rw [hs,if_pos this];rfl
   . have:¬v * 10+IntKind.u8.wrap ((x.toNat:Int) - 48)>1000000:=by simpa using h
     rw [if_neg this] at hs;exact ih (i+1,_) ⟨hlt,by simp only;omega,by simp only;omega,hs⟩ (by simp only;omega)
 . have hge:i=s.length:=by omega
   (repeat' ((first|refine wQ mxQ rfl ?_|refine Run.qP Qv ?_|fail)<;>try simp only [Bk hlt,go_sem]));rw [hs,hge,NM,Q5];rfl
end Go.Ab
namespace Go.Ab
open Go.Proofs
def FG (c:Int->Bool) (b:UInt8):Bool:=c b.toNat
theorem F5 {c:UInt8->Bool} {s:Str} {i:Nat} (h:∀j b,j < i->s[j]?=some b->c b=true) (hi:i<=s.length) (he:∀b,s[i]?=some b->c b=false):s.takeWhile c=s.take i:=by
 induction i generalizing s with
 |zero=>
  cases s with
  |nil=>rfl
  |cons b r=>simp [he b rfl]
 |succ i ih=>
  cases s with
  |nil=>simp at hi
  |cons b r=>
   have hb:c b=true:=h 0 b (by omega) rfl;rw [List.takeWhile_cons,hb,if_pos rfl,C3,ih (fun j b hj hb=>h (j+1) b (by omega) hb) (by simpa using hi) (fun b hb=>he b hb)]
theorem UW {fid:FuncId} (hb:CQ Tzp fid=true) (c:Int->Bool) (hc:∀n σ,AS Tzp fid [.d (.int .u8 n)] σ (fun v σ'=>v= .d (.bool (c n))/\σ'=σ)) (s:Str) (σ:AH) (hl:s.length<=1000000000):
 AS Tzp 157 [.d (.str s),.fn fid [] []] σ (fun v σ'=>v= .d (.str (s.takeWhile (FG c)))/\σ'=σ):=by
 refine iV (by simp) ?_;rw [BS]
 (repeat (first
   |refine Run.seq ?_
   |refine Run.skip ?_
   |refine Run.block ?_
   |refine Run.blk ?_
   |refine Run.scope ?_
   |refine Run.scp ?_
   |(refine Run.exit rfl ?_)
   |(refine rgQ mxQ ?_;simp only [go_sem])
   |(refine cdQ ?_;simp only [go_sem])))
 refine Run.BB ?_;refine Run.BG ((fun (a0:AV) (a1:AV)=>fun (i:Nat)=>put 0 a0 (put 1 a1 (put 5 (.d (.int .i64 i)) U))) _ _) (fun _=>E) (fun _=>σ) (fun i=>i<=s.length/\∀j b,j < i->s[j]?=some b->FG c b=true) (fun i=>s.length - i) ?_ 0 ⟨by simp,by simp⟩;rintro i ⟨hi,hs⟩ ih;by_cases hlt:i < s.length
 . obtain ⟨x,hx⟩:=Ak hlt;(repeat' (first|((first|refine wQ mxQ rfl ?_|(refine ⟨fid,[],[],rfl,hb,AJ.det (hc _ _) ?_⟩)|refine Run.qP Oq ?_|fail)<;>try simp only [Ag hlt,D1 hx,rQ hi,A7 (show i+1<=9000000000000000000 by omega),go_sem])|(refine ⟨fun h=>?_,fun h=>?_⟩<;>first|(cases h;done)|try simp only [h])|fail))
   . refine ih (i+1) ⟨hlt,fun j b hj hb=>?_⟩ (by omega);rcases Cl j i with h2|h2
     . exact hs j b h2 hb
     . have:j=i:=by omega
       subst this;rw [hx] at hb;cases hb;exact h
   . rw [F5 hs hi (fun b hb=>by rw [hx] at hb;cases hb;exact h)]
 . have hge:i=s.length:=by omega
   (repeat' ((first|refine wQ mxQ rfl ?_|refine Run.qP Oq ?_|fail)<;>try simp only [Bk hlt,rQ hi,go_sem]));rw [F5 hs hi (fun b hb=>by rw [hge] at hb;simp at hb)]
theorem zG (s:Str) (σ:AH) (hs:s≠[]):AS Tzp 131 [.d (.str s)] σ (fun v σ'=>v= .d (.int .i64 (J8 s))/\σ'=σ):=by
 have hloop:∀(b:UInt8) (r:Str),(J8 (b::r)=rM b)->Run Sn (fun v σ'=>v= .d (.int .i64 (J8 (b::r)))/\σ'=σ) [.again ZO,.blk 0,.code (.seq (.reg [⟨some 2,.mv (.c (.d (.int .i64 0))),none⟩] [2]) .ret)] (put 0 (.d (.str (b::r))) (put 3 (.d (.str kU)) (put 4 (.d (.int .i64 0)) U))) E σ:=by
  intro b r hbr;refine Run.BG ((fun (a0:AV) (a3:AV)=>fun (i:Nat)=>put 0 a0 (put 3 a3 (put 4 (.d (.int .i64 i)) U))) _ _) (fun _=>E) (fun _=>σ) (fun i=>i<=kU.length/\kU.any (b==·)=(kU.drop i).any (b==·)) (fun i=>kU.length - i) ?_ 0 ⟨by simp,rfl⟩;rintro i ⟨hi,hs⟩ ih;have hn:kU.length=13:=rfl;have h0:(b::r)[0]?=some b:=rfl;by_cases hlt:i < kU.length
  . obtain ⟨x,hx⟩:=Ak hlt;rw [Bv hx,List.any_cons] at hs;have hz:=D1 h0 .i64;rw [show ((0:Nat):Int)=0 from rfl] at hz;(repeat' (first|((first|refine wQ mxQ rfl ?_|refine Run.qP SE ?_|fail)<;>try simp only [Ag hlt,D1 hx,hz,ALR,A7 (show i+1<=9000000000000000000 by omega),go_sem])|(refine ⟨fun h=>?_,fun h=>?_⟩<;>first|(cases h;done)|try simp only [h])|fail))
    . rw [hbr,rM,hs,h];rfl
    . exact ih (i+1) ⟨hlt,by rw [hs,h];rfl⟩ (by omega)
  . have hge:i=kU.length:=by omega
    (repeat' ((first|refine wQ mxQ rfl ?_|refine Run.qP SE ?_|fail)<;>try simp only [Bk hlt,go_sem]));rw [hbr,rM,hs,hge];rfl
 match s,hs with
 |[b],_=>
  refine oJ (by simp) ?_;rw [Bs];(repeat' ((first|refine wQ mxQ rfl ?_|refine Run.qP SE ?_|fail)<;>try simp only [AMJ,go_sem]));exact Run.BB (hloop b [] rfl)
 |b::c::r,_=>
  refine oJ (by simp) ?_;rw [Bs];(repeat' (first|((first|refine wQ mxQ rfl ?_|refine Run.qP SE ?_|(refine A9 rfl (fun h=>?_) (fun h=>?_)<;>try (cases h;done))|fail)<;>try simp only [AMK,AMS,go_sem])|(refine ⟨fun h=>?_,fun h=>?_⟩<;>first|(cases h;done)|try simp only [h])|fail))
  all_goals (first|exact Run.BB (hloop b (c::r) (by simp only [J8,AIL, *];rfl))|(simp only [J8,AIL, *];rfl))
end Go.Ab
namespace Go.Ab
open Go.Proofs
def LK:Str->Except Int (Int×Str)
 |[]=>.error 2
 |b::r=>
  if mU b.toNat||fW b.toNat then
   if decide (((b::r).takeWhile (FG Kc)).length>24) then .error 9
                                  else if fW b.toNat then .ok (2,(b::r).takeWhile (FG Kc))
                                  else if ADL ((b::r).takeWhile (FG Kc)) then .ok (4,(b::r).takeWhile (FG Kc))
                                  else .ok (1,(b::r).takeWhile (FG Kc))
                                  else if Kr b.toNat then
   if b==48&&decide (((b::r).takeWhile (FG Kr)).length>1) then .error 2
                                         else if (Q5 ((b::r).takeWhile (FG Kr)) 0).isSome then .ok (3,(b::r).takeWhile (FG Kr))
                                         else .error 9
                                         else if (b::r).take (J8 (b::r))==[] then .error 2
                                         else .ok (5,(b::r).take (J8 (b::r)))
def AE2 (k:Int) (t:Str) (p:Int):AV:= .agg [.d (.int .i64 k),.d (.str t),.d (.int .i64 p)]
def vE (p:Int):Except Int (Int×Str)->AV
 | .error e=>.tup [AE2 0 [] 0,.d (.int .i64 e)]
 | .ok (k,t)=>.tup [AE2 k t p,.d (.int .i64 0)]
theorem Gb {α:Type} (p:α->Bool) (l:List α):(l.takeWhile p).length<=l.length:=(List.takeWhile_prefix p).length_le
theorem AI2 (b:UInt8):((b.toNat:Int)==48)=(b==48):=ALR b 48
theorem AP2 (n:Nat):decide ((24:Int) < (n:Int))=decide (n>24):=decide_eq_decide.2 (by omega)
theorem gt1 (n:Nat):decide ((1:Int) < (n:Int))=decide (n>1):=decide_eq_decide.2 (by omega)
theorem ACY:CQ Tzp 158=true:=by kernel_rfl
theorem AGV:CQ Tzp 160=true:=by kernel_rfl
theorem YF (src:Str) (i:Nat) (σ:AH) (hl:src.length<=1000000000) (hi:i < src.length):
 AS Tzp 152 [.d (.str src),.d (.int .i64 i)] σ (fun v σ'=>v=vE i (LK (src.drop i))/\σ'=σ):=by
 obtain ⟨b,hb⟩:=Ak hi;have hd:=Bv hb;rw [hd];have hld:(src.drop i).length<=1000000000:=by simp;omega
 rw [hd] at hld;have hw1:=Gb (FG Kc) (b::src.drop (i+1));have hw2:=Gb (FG Kr) (b::src.drop (i+1));have hs1:W3 (.d (.str src)) (some (.d (.int .i64 (i:Int)))) none=some (.d (.str (b::src.drop (i+1)))):=by rw [AIQ (by omega),hd]
 refine qF (by simp) ?_;rw [BS];generalize src.drop (i+1)=r at *;(repeat' (first|((first|refine wQ mxQ rfl ?_|refine Run.qP Z4 ?_|refine AJ.det (W6 _ _) ?_|refine AJ.det (W7 _ _) ?_|refine AJ.det (PU _ _) ?_|refine AJ.det (cT _ _) ?_|refine AJ.det (lD _ _ (by omega)) ?_|refine AJ.det (nH _ _ (by simp)) ?_|refine AJ.det (UW (c:=Kc) ACY fV _ _ hld) ?_|refine AJ.det (UW (c:=Kr) AGV PU _ _ hld) ?_|(refine A9 rfl (fun h=>?_) (fun h=>?_)<;>try (cases h;done))|fail)<;>try simp only [D1 hb,hs1,AI2,AP2,gt1,go_sem])|(refine ⟨fun h=>?_,fun h=>?_⟩<;>first|(cases h;done)|try simp only [h])|fail))
 all_goals (clear hw1 hw2 hs1 hd hld;first|(simp only [LK,vE,AE2, *,Bool.or_true,NK,L2,ED,Be,BW,CG,DO,AZ,reduceIte];done)|simp_all [LK,vE,AE2])
end Go.Ab
namespace Go.Ab
open Go.Proofs
structure Tok where
 kind:Int
 text:Str
 pos:Nat
def Tok.enc (t:Tok):List DV:=[.int .i64 t.kind,.str t.text,.int .i64 t.pos]
def cmt (s:Str):Nat:=(s.takeWhile (fun c=>!(c==10))).length
def Sj:Nat->Str->Nat->List Tok->List Tok×Nat×Int
 |0,_,_,_=>([],0,0)
 |n+1,rest,i,acc=>match rest with
  |[]=>(acc++[⟨6,[],i⟩],0,0)
  |b::r=>
   if wO b.toNat then Sj n r (i+1) acc
                               else if b==35 then Sj n ((b::r).drop (cmt (b::r))) (i+cmt (b::r)) acc
                               else match LK (b::r) with
    | .error e=>([],i,e)
    | .ok (k,t)=>Sj n ((b::r).drop t.length) (i+t.length) (acc++[⟨k,t,i⟩])
def I5 (s:Str):List Tok×Nat×Int:=if s.length>16384 then ([],0,9) else Sj (s.length+1) s 0 []
def LM (r:List Tok×Nat×Int):AV:= .tup [.d (.sl (r.1.map Tok.enc)),.d (.int .i64 r.2.1),.d (.int .i64 r.2.2)]
theorem Tx (b:UInt8):((b.toNat:Int)==35)=(b==35):=ALR b 35
theorem rV (b:UInt8):((b.toNat:Int)==10)=(b==10):=ALR b 10
theorem AGT (n:Nat):decide ((16384:Int) < (n:Int))=decide (n>16384):=decide_eq_decide.2 (by omega)
theorem vF {s:Str} {k:Int} {t:Str} (h:LK s= .ok (k,t)):1<=t.length/\t.length<=s.length:=by
 match s with
 |[]=>simp [LK] at h
 |b::r=>
  have h1:=Gb (FG Kc) (b::r);have h2:=Gb (FG Kr) (b::r);simp only [LK] at h;split at h
  . rename_i hlu
    have hw:FG Kc b=true:=by
     simp only [FG,Kc];rw [hlu];rfl
    have h3:1<=((b::r).takeWhile (FG Kc)).length:=by simp [hw]
    split at h
    . cases h
    . split at h
      . cases h;exact ⟨h3,h1⟩
      . split at h<;>(cases h;exact ⟨h3,h1⟩)
  . split at h
    . rename_i hdg;have h3:1<=((b::r).takeWhile (FG Kr)).length:=by simp [FG,hdg]
      split at h
      . cases h
      . split at h<;>cases h;exact ⟨h3,h2⟩
    . split at h
      . cases h
      . rename_i hne;cases h;refine ⟨?_,List.length_take_le' _ _⟩;cases he:(b::r).take (J8 (b::r)) with
        |nil=>rw [he] at hne;simp at hne
        |cons=>simp
theorem AII {s:Str} {e:Int} (h:LK s= .error e):e=2\/e=9:=by
 match s with
 |[]=>simp only [LK,Except.error.injEq] at h;omega
 |b::r=>
  simp only [LK] at h
  repeat' split at h
  all_goals first|(cases h;simp;done)|cases h
theorem lC (s:Str) (σ:AH):AS Tzp 138 [.d (.str s)] σ (fun v σ'=>v=LM (I5 s)/\σ'=σ):=by
 refine mF (by simp) ?_;rw [Bs];(repeat' (first|((first|refine wQ mxQ rfl ?_|refine Run.qP C0 ?_|fail)<;>try simp only [AGT,go_sem])|(refine ⟨fun h=>?_,fun h=>?_⟩<;>first|(cases h;done)|try simp only [h])|fail))
 . have:s.length>16384:=by simpa using h
   simp [LM,I5,this]
 . have hl:¬s.length>16384:=by simpa using h
   refine Run.BB ?_;refine Run.BG ((fun (a0:AV)=>fun (y:Nat×AV×AH)=>put 0 a0 (put 5 (y.2.1) (put 6 (.d (.int .i64 y.1)) U))) _) (fun _=>E) (fun y=>y.2.2) (fun y=>y.1<=s.length/\∃acc n,C4 σ 213 3 (acc.map Tok.enc) y.2.1 y.2.2/\acc.length<=y.1/\s.length - y.1 < n/\I5 s=Sj n (s.drop y.1) y.1 acc) (fun y=>s.length - y.1) ?_ (0,.Af,σ) ⟨by simp,[],s.length+1,C4.nil _ _ _,by simp,by simp,by simp [I5,hl]⟩;rintro ⟨i,v,σ1⟩ ⟨hi,acc,n,ho,hac,hn,hs⟩ ih;simp only at hi ho hac hn hs;obtain ⟨n,rfl⟩:∃m,n=m+1:=⟨n - 1,by omega⟩;by_cases hlt:i < s.length
   . obtain ⟨x,hx⟩:=Ak hlt;rw [Bv hx,Sj] at hs;have hw1:=A7 (show i+1<=9000000000000000000 by omega);have hsl:(x::s.drop (i+1)).length=s.length - i:=by simp;omega
     cases hb:wO x.toNat with
     |true=>
      rw [hb] at hs;(repeat' ((first|refine wQ mxQ rfl ?_|refine Run.qP C0 ?_|refine AJ.det (LN _ _) ?_|fail)<;>try simp only [Ag hlt,D1 hx,hb,hw1,go_sem]));exact ih (i+1,v,σ1) ⟨hlt,acc,n,ho,by simp only;omega,by simp only;omega,hs⟩ (by simp only;omega)
     |false=>
      rw [hb,if_neg (by simp)] at hs;cases hc:(x==35) with
      |true=>
       rw [hc,if_pos rfl] at hs;(repeat' ((first|refine wQ mxQ rfl ?_|refine Run.qP C0 ?_|refine AJ.det (LN _ _) ?_|fail)<;>try simp only [Ag hlt,D1 hx,Tx,hb,hc,go_sem]));refine Run.NC [0,5,6] ?_;simp only [go_sem];refine Run.BB ?_;refine Run.BG ((fun (a0:AV) (a5:AV)=>fun (j:Nat)=>put 0 a0 (put 5 a5 (put 6 (.d (.int .i64 j)) U))) _ _) (fun _=>E) (fun _=>σ1) (fun j=>i<=j/\j<=s.length/\∀q b,q < j - i->(s.drop i)[q]?=some b->(!(b==10))=true) (fun j=>s.length - j) ?_ i ⟨AR i,hi,by intro q b hq;omega⟩;rintro j ⟨hij,hj,hall⟩ ih2;have hw2:=A7 (show j+1<=9000000000000000000 by omega);by_cases hjl:j < s.length
       . obtain ⟨z,hz⟩:=Ak hjl;have hz2:(s.drop i)[j - i]?=some z:=by rw [BJ,show i+(j - i)=j by omega];exact hz
         cases h10:(z==10) with
         |true=>
          (repeat' ((first|refine wQ mxQ rfl ?_|refine Run.qP C0 ?_|fail)<;>try simp only [Ag hjl,D1 hz,rV,h10,go_sem]))
          have hk:cmt (x::s.drop (i+1))=j - i:=by
           rw [<- Bv hx,cmt,F5 hall (by simp;omega) (fun b hb=>by rw [hz2] at hb;cases hb;simp [h10])];simp;omega
          have hji:j≠i:=fun e=>by
           subst e;rw [hx] at hz;cases hz;simp only [beq_iff_eq] at hc h10;rw [hc] at h10;exact absurd h10 (by decide)
          rw [hk,<- Bv hx,Eu,show i+(j - i)=j by omega] at hs;refine Run.NC [0,5,6] ?_;simp only [go_sem];exact ih (j,v,σ1) ⟨hj,acc,n,ho,by simp only;omega,by simp only;omega,hs⟩ (by simp only;omega)
         |false=>
          (repeat' ((first|refine wQ mxQ rfl ?_|refine Run.qP C0 ?_|fail)<;>try simp only [Ag hjl,D1 hz,rV,h10,hw2,go_sem]));refine ih2 (j+1) ⟨by omega,hjl,fun q b hq hb=>?_⟩ (by omega);rcases Cl q (j - i) with h2|h2
          . exact hall q b h2 hb
          . have:q=j - i:=by omega
            subst this;rw [hz2] at hb;cases hb;simp [h10]
       . have hje:j=s.length:=by omega
         have hk:cmt (x::s.drop (i+1))=j - i:=by
          rw [<- Bv hx,cmt,F5 hall (by simp;omega) (fun b hb=>by rw [BJ,show i+(j - i)=j by omega,hje] at hb;simp at hb)];simp;omega
         rw [hk,<- Bv hx,Eu,show i+(j - i)=j by omega,hje,NM] at hs;obtain ⟨n,rfl⟩:∃m,n=m+1:=⟨n - 1,by omega⟩;rw [Sj] at hs;(repeat' ((first|refine wQ mxQ rfl ?_|(refine E6.own ho rfl (by simp) (by simp;omega) (by decide) (fun v2 σ2 ho2 hbk=>?_))|(refine Run.CK C0 ho2.le ?_)|refine Run.qP C0 ?_|fail)<;>try simp only [Bk hjl,go_sem]));simp only [ho2.BF,ho2.plain,go_sem];rw [hs];simp [LM,Tok.enc]
      |false=>
       rw [hc,if_neg (by simp)] at hs;rcases hsc:LK (x::s.drop (i+1)) with e|⟨k,t⟩
       . rw [hsc] at hs;have he:=AII hsc;have hne:(e != 0)=true:=by simp;omega
         (repeat' ((first|refine wQ mxQ rfl ?_|(refine Run.CK C0 ho.le ?_)|refine Run.qP C0 ?_|refine AJ.det (LN _ _) ?_|refine AJ.det (YF _ _ _ (by omega) hlt) ?_|fail)<;>try simp only [Ag hlt,D1 hx,Tx,hb,hc,Bv hx,hsc,vE,AE2,hne,ho.BT,AZ,go_sem]));rw [hs];rfl
       . rw [hsc] at hs;have hsn:=vF hsc;rw [hsl] at hsn;(repeat' (first|refine ctQ rfl ?_|((first|refine rgQ mxQ ?_|refine cdQ ?_|(refine E6.own ho rfl (by simp) (by simp;omega) (by decide) (fun v2 σ2 ho2 hbk=>?_))|refine Run.qP C0 ?_|refine AJ.det (LN _ _) ?_|refine AJ.det (YF _ _ _ (by omega) hlt) ?_)<;>try simp only [Ag hlt,D1 hx,Tx,hb,hc,Bv hx,hsc,vE,AE2,ho.BT,AZ,wrap_add (show i+t.length<=9000000000000000000 by omega),go_sem])|(refine ⟨fun h=>?_,fun h=>?_⟩<;>first|(cases h;done)|try simp only [h])|fail));refine ih (i+t.length,v2,σ2) ⟨?_,acc++[⟨k,t,i⟩],n,?_,?_,?_,?_⟩ ?_
         . simp only;omega
         . simpa [Tok.enc] using ho2
         . simp only [A1,C1];omega
         . simp only;omega
         . rw [hs];simp only;rw [<- Bv hx,Eu]
         . simp only;omega
   . have hge:i=s.length:=by omega
     rw [hge,NM,Sj] at hs;(repeat' ((first|refine wQ mxQ rfl ?_|(refine E6.own ho rfl (by simp) (by simp;omega) (by decide) (fun v2 σ2 ho2 hbk=>?_))|(refine Run.CK C0 ho2.le ?_)|refine Run.qP C0 ?_|fail)<;>try simp only [Bk hlt,go_sem]));simp only [ho2.BF,ho2.plain,go_sem];rw [hs];simp [LM,Tok.enc]
end Go.Ab
namespace Go.Ab
open Go.Proofs
theorem r4 (z:UInt8):FG Kc z=(mU z.toNat||fW z.toNat||Kr z.toNat||((z.toNat:Int)==95)):=rfl
theorem kA (s:Str) (i:Nat) (x:UInt8) (hx:s[i]?=some x) (hw:FG Kc x=true) (hl:s.length<=16384) (σ1:AH) (a5 a7:AV) (K:AV->AH->Prop) (k:List CI)
 (hk:Run I6 K k (put 0 (.d (.str s)) (put 5 a5 (put 6 (.d (.int .i64 i)) (put 7 a7 (put 8 (.d (.int .i64 (((s.drop i).takeWhile (FG Kc)).length:Nat))) U))))) E σ1):
 Run I6 K (.again MN::.blk 5::k) (put 0 (.d (.str s)) (put 5 a5 (put 6 (.d (.int .i64 i)) (put 7 a7 (put 8 (.d (.int .i64 1)) U))))) E σ1:=by
 refine Run.BG ((fun (a0:AV) (a5:AV) (a6:AV) (a7:AV)=>fun (m:Nat)=>put 0 a0 (put 5 a5 (put 6 a6 (put 7 a7 (put 8 (.d (.int .i64 m)) U))))) _ _ _ _) (fun _=>E) (fun _=>σ1) (fun m=>1<=m/\i+m<=s.length/\∀q b,q < m->(s.drop i)[q]?=some b->FG Kc b=true) (fun m=>s.length - m) ?_ 1 ⟨by omega,?_,?_⟩
 . rintro m ⟨h1,hm,hall⟩ ih;have hw0:=wrap_add (show i+m<=9000000000000000000 by omega);have hw1:=A7 (show m+1<=9000000000000000000 by omega)
   have hend:(∀b,(s.drop i)[m]?=some b->FG Kc b=false)->((s.drop i).takeWhile (FG Kc)).length=m:=fun h=>by
    rw [F5 hall (by simp;omega) h];simp;omega
   by_cases hlt:i+m < s.length
   . obtain ⟨z,hz⟩:=Ak hlt;have hz2:(s.drop i)[m]?=some z:=by rw [BJ];exact hz
     have hstep:FG Kc z=true->∀q b,q < m+1->(s.drop i)[q]?=some b->FG Kc b=true:=fun hc q b hq hb=>by
      rcases Cl q m with h2|h2
      . exact hall q b h2 hb
      . have:q=m:=by omega
        subst this;rw [hz2] at hb;cases hb;exact hc
     (repeat' (first|((first|refine wQ mxQ rfl ?_|refine AJ.det (KT _ _) ?_|refine AJ.det (KU _ _) ?_|refine AJ.det (I2 _ _) ?_|(refine A9 rfl (fun h=>?_) (fun h=>?_)<;>try (cases h;done))|fail)<;>try simp only [hw0,hw1,Ag hlt,D1 hz,go_sem])|(refine ⟨fun h=>?_,fun h=>?_⟩<;>first|(cases h;done)|try simp only [h])|fail))
     all_goals first
      |exact ih (m+1) ⟨by omega,by omega,hstep (by simp_all [r4])⟩ (by omega)
      |(rw [hend (fun b hb=>by rw [hz2] at hb;cases hb;simp_all [r4])] at hk;refine Run.NC [0,5,6,7,8] ?_;simp only [go_sem];exact hk)
   . (repeat' (refine wQ mxQ rfl ?_<;>try simp only [hw0,Bk hlt,go_sem]));rw [hend (fun b hb=>by rw [BJ,BY (by omega)] at hb;cases hb)] at hk;refine Run.NC [0,5,6,7,8] ?_;simp only [go_sem];exact hk
 . have:=(AF.1 hx).1;omega
 . intro q b hq hb;have:q=0:=by omega
   subst this;rw [BJ,Bw,hx] at hb;cases hb;exact hw
theorem kB (s:Str) (i:Nat) (x:UInt8) (hx:s[i]?=some x) (hw:FG Kr x=true) (hl:s.length<=16384) (σ1:AH) (a5 a7:AV) (K:AV->AH->Prop) (k:List CI)
 (hk:Run I6 K k (put 0 (.d (.str s)) (put 5 a5 (put 6 (.d (.int .i64 i)) (put 7 a7 (put 8 (.d (.int .i64 (((s.drop i).takeWhile (FG Kr)).length:Nat))) U))))) E σ1):
 Run I6 K (.again Qc::.blk 7::k) (put 0 (.d (.str s)) (put 5 a5 (put 6 (.d (.int .i64 i)) (put 7 a7 (put 8 (.d (.int .i64 1)) U))))) E σ1:=by
 refine Run.BG ((fun (a0:AV) (a5:AV) (a6:AV) (a7:AV)=>fun (m:Nat)=>put 0 a0 (put 5 a5 (put 6 a6 (put 7 a7 (put 8 (.d (.int .i64 m)) U))))) _ _ _ _) (fun _=>E) (fun _=>σ1) (fun m=>1<=m/\i+m<=s.length/\∀q b,q < m->(s.drop i)[q]?=some b->FG Kr b=true) (fun m=>s.length - m) ?_ 1 ⟨by omega,?_,?_⟩
 . rintro m ⟨h1,hm,hall⟩ ih;have hw0:=wrap_add (show i+m<=9000000000000000000 by omega);have hw1:=A7 (show m+1<=9000000000000000000 by omega)
   have hend:(∀b,(s.drop i)[m]?=some b->FG Kr b=false)->((s.drop i).takeWhile (FG Kr)).length=m:=fun h=>by
    rw [F5 hall (by simp;omega) h];simp;omega
   by_cases hlt:i+m < s.length
   . obtain ⟨z,hz⟩:=Ak hlt;have hz2:(s.drop i)[m]?=some z:=by rw [BJ];exact hz
     have hstep:FG Kr z=true->∀q b,q < m+1->(s.drop i)[q]?=some b->FG Kr b=true:=fun hc q b hq hb=>by
      rcases Cl q m with h2|h2
      . exact hall q b h2 hb
      . have:q=m:=by omega
        subst this;rw [hz2] at hb;cases hb;exact hc
     cases hd:Kr z.toNat with
     |true=>
      (repeat' ((first|refine wQ mxQ rfl ?_|refine AJ.det (I2 _ _) ?_|fail)<;>try simp only [hw0,hw1,Ag hlt,D1 hz,hd,go_sem]));exact ih (m+1) ⟨by omega,by omega,hstep hd⟩ (by omega)
     |false=>
      (repeat' ((first|refine wQ mxQ rfl ?_|refine AJ.det (I2 _ _) ?_|fail)<;>try simp only [hw0,hw1,Ag hlt,D1 hz,hd,go_sem]));rw [hend (fun b hb=>by rw [hz2] at hb;cases hb;exact hd)] at hk;refine Run.NC [0,5,6,7,8] ?_;simp only [go_sem];exact hk
   . (repeat' (refine wQ mxQ rfl ?_<;>try simp only [hw0,Bk hlt,go_sem]));rw [hend (fun b hb=>by rw [BJ,BY (by omega)] at hb;cases hb)] at hk;refine Run.NC [0,5,6,7,8] ?_;simp only [go_sem];exact hk
 . have:=(AF.1 hx).1;omega
 . intro q b hq hb;have:q=0:=by omega
   subst this;rw [BJ,Bw,hx] at hb;cases hb;exact hw
theorem vM {c:UInt8->Bool} (s:Str) (i:Nat) (hi:i<=s.length):W3 (.d (.str s)) (some (.d (.int .i64 (i:Int)))) (some (.d (.int .i64 ((i+((s.drop i).takeWhile c).length:Nat):Int))))=some (.d (.str ((s.drop i).takeWhile c))):=by
 have h:=Gb c (s.drop i);rw [E5] at h;rw [AIP (by omega) (by omega),List.drop_take,QF];congr 3;exact (List.prefix_iff_eq_take.1 (List.takeWhile_prefix c)).symm
theorem AIR (s:Str) (i n:Nat) (hi:i<=s.length) (hn:n<=(s.drop i).length):W3 (.d (.str s)) (some (.d (.int .i64 (i:Int)))) (some (.d (.int .i64 ((i+n:Nat):Int))))=some (.d (.str ((s.drop i).take n))):=by
 rw [E5] at hn;rw [AIP (by omega) (by omega),List.drop_take,QF]
theorem vL:∀(b:UInt8) (r:Str),J8 (b::r)<=(b::r).length
 |b,[]=>by simp only [J8,rM];split<;>simp
 |b,c::r=>by
  simp only [J8];cases AIL b c
  . simp only [rM,AZ,if_false];split<;>simp
  . simp
theorem uT (s:Str) (σ:AH):AS Tzp 104 [.d (.str s)] σ (fun v σ'=>v=LM (I5 s)/\σ'=σ):=by
 refine xY (by simp) ?_;rw [Bs];by_cases hl:s.length>16384
 . (repeat' ((first|refine wQ mxQ rfl ?_|refine Run.qP IQ ?_|fail)<;>try simp only [AGT,decide_eq_true hl,go_sem]));simp [LM,I5,hl]
 . (repeat' (refine wQ mxQ rfl ?_<;>try simp only [AGT,decide_eq_false hl,go_sem]));refine Run.BB ?_;refine Run.BG ((fun (a0:AV)=>fun (y:Nat×AV×AH)=>put 0 a0 (put 5 (y.2.1) (put 6 (.d (.int .i64 y.1)) U))) _) (fun _=>E) (fun y=>y.2.2) (fun y=>y.1<=s.length/\∃acc n,C4 σ 189 3 (acc.map Tok.enc) y.2.1 y.2.2/\acc.length<=y.1/\s.length - y.1 < n/\I5 s=Sj n (s.drop y.1) y.1 acc) (fun y=>s.length - y.1) ?_ (0,.Af,σ) ⟨by simp,[],s.length+1,C4.nil _ _ _,by simp,by simp,by simp [I5,hl]⟩;rintro ⟨i,v,σ1⟩ ⟨hi,acc,n,ho,hac,hn,hs⟩ ih;simp only at hi ho hac hn hs;obtain ⟨n,rfl⟩:∃m,n=m+1:=⟨n - 1,by omega⟩;by_cases hlt:i < s.length
   . obtain ⟨x,hx⟩:=Ak hlt;rw [Bv hx,Sj] at hs;have hw1:=A7 (show i+1<=9000000000000000000 by omega);have hsl:(x::s.drop (i+1)).length=s.length - i:=by simp;omega
     cases hb:wO x.toNat with
     |true=>
      rw [hb,if_pos rfl] at hs;(repeat' (first|((first|refine wQ mxQ rfl ?_|(refine A9 rfl (fun h=>?_) (fun h=>?_)<;>try (cases h;done))|fail)<;>try simp only [Ag hlt,D1 hx,hw1,go_sem])|(refine ⟨fun h=>?_,fun h=>?_⟩<;>first|(cases h;done)|try simp only [h])|fail))
      all_goals first
       |exact ih (i+1,v,σ1) ⟨hlt,acc,n,ho,by simp only;omega,by simp only;omega,hs⟩ (by simp only;omega)
       |(exfalso;simp_all [wO];done)
     |false=>
      rw [hb,if_neg (by simp)] at hs;simp only [wO,IH] at hb;obtain ⟨⟨⟨h9,h10⟩,h13⟩,h32⟩:=hb;cases hc:(x==35) with
      |true=>
       rw [hc,if_pos rfl] at hs;(repeat' (refine wQ mxQ rfl ?_<;>try simp only [Ag hlt,D1 hx,h9,h10,h13,h32,Tx,hc,go_sem]));refine Run.NC [0,5,6] ?_;simp only [go_sem];refine Run.BB ?_;refine Run.BG ((fun (a0:AV) (a5:AV)=>fun (j:Nat)=>put 0 a0 (put 5 a5 (put 6 (.d (.int .i64 j)) U))) _ _) (fun _=>E) (fun _=>σ1) (fun j=>i<=j/\j<=s.length/\∀q b,q < j - i->(s.drop i)[q]?=some b->(!(b==10))=true) (fun j=>s.length - j) ?_ i ⟨AR i,hi,by intro q b hq;omega⟩;rintro j ⟨hij,hj,hall⟩ ih2;have hw2:=A7 (show j+1<=9000000000000000000 by omega)
       have hend:(∀z,s[j]?=some z->(z==10)=true)->j≠i/\I5 s=Sj n (s.drop j) j acc:=fun hz=>by
        have hji:j≠i:=fun e=>by
         subst e;have h10:=hz x hx;simp only [beq_iff_eq] at hc h10;rw [hc] at h10;exact absurd h10 (by decide)
        have hk:cmt (x::s.drop (i+1))=j - i:=by
         rw [<- Bv hx,cmt,F5 hall (by simp;omega) (fun b hb=>by
          rw [BJ,show i+(j - i)=j by omega] at hb;simp [hz b hb])]
         simp;omega
        rw [hk,<- Bv hx,Eu,show i+(j - i)=j by omega] at hs;exact ⟨hji,hs⟩
       by_cases hjl:j < s.length
       . obtain ⟨z,hz⟩:=Ak hjl;have hz2:(s.drop i)[j - i]?=some z:=by rw [BJ,show i+(j - i)=j by omega];exact hz
         cases h10:(z==10) with
         |true=>
          obtain ⟨hji,hs⟩:=hend (fun z' hz'=>by rw [hz] at hz';cases hz';exact h10);(repeat' (refine wQ mxQ rfl ?_<;>try simp only [Ag hjl,D1 hz,rV,bne,h10,go_sem]));refine Run.NC [0,5,6] ?_;simp only [go_sem];exact ih (j,v,σ1) ⟨hj,acc,n,ho,by simp only;omega,by simp only;omega,hs⟩ (by simp only;omega)
         |false=>
          (repeat' (refine wQ mxQ rfl ?_<;>try simp only [Ag hjl,D1 hz,rV,bne,h10,hw2,go_sem]));refine ih2 (j+1) ⟨by omega,hjl,fun q b hq hb=>?_⟩ (by omega);rcases Cl q (j - i) with h2|h2
          . exact hall q b h2 hb
          . have:q=j - i:=by omega
            subst this;rw [hz2] at hb;cases hb;simp [h10]
       . obtain ⟨hji,hs⟩:=hend (fun z hz=>by rw [BY (by omega)] at hz;cases hz);(repeat' (refine wQ mxQ rfl ?_<;>try simp only [Bk hjl,go_sem]));refine Run.NC [0,5,6] ?_;simp only [go_sem];exact ih (j,v,σ1) ⟨hj,acc,n,ho,by simp only;omega,by simp only;omega,hs⟩ (by simp only;omega)
      |false=>
       rw [hc,if_neg (by simp)] at hs;have hld:s.drop i=x::s.drop (i+1):=Bv hx;have hss:W3 (.d (.str s)) (some (.d (.int .i64 (i:Int)))) none=some (.d (.str (x::s.drop (i+1)))):=by rw [AIQ hi,hld]
       -- behind a token
       have next:∀(k:Int) (t:Str) (v2:AV) (σ2:AH),LK (x::s.drop (i+1))= .ok (k,t)->C4 σ 189 3 (acc.map Tok.enc++[[.int .i64 k,.str t,.int .i64 i]]) v2 σ2->
        1<=t.length/\i+t.length<=s.length/\(i+t.length<=s.length/\∃acc n,C4 σ 189 3 (acc.map Tok.enc) v2 σ2/\acc.length<=i+t.length/\s.length - (i+t.length) < n/\I5 s=Sj n (s.drop (i+t.length)) (i+t.length) acc):=fun k t v2 σ2 hsc ho2=>by
        have hsn:=vF hsc;rw [hsl] at hsn;rw [hsc] at hs;refine ⟨hsn.1,by omega,by omega,acc++[⟨k,t,i⟩],n,by simpa [Tok.enc] using ho2,by simp only [A1,C1];omega,by omega,?_⟩;rw [hs];simp only;rw [<- Bv hx,Eu]
       have fail:∀e:Int,LK (x::s.drop (i+1))= .error e->I5 s=([],i,e):=fun e he=>by rw [hs,he]
       have hwd:=vM (c:=FG Kc) s i hi;have hdd:=vM (c:=FG Kr) s i hi;have hsg:=AIR s i (J8 (x::s.drop (i+1))) hi (by rw [hld];exact vL _ _);have hwl:=Gb (FG Kc) (s.drop i);have hdl:=Gb (FG Kr) (s.drop i);have hsl2:=vL x (s.drop (i+1));have hL1:=kA s i x hx;have hL2:=kB s i x hx;rw [hld] at hwd hdd hsg hwl hdl hL1 hL2;simp only [hsl] at hwl hdl hsl2;have hw0:=fun n (h:n<=s.length - i)=>wrap_add (show i+n<=9000000000000000000 by omega);have hap:∀(r:List DV),r.length=3->∀q∈[r],q.length=3:=fun r hr q hq=>by rw [A3] at hq;rw [hq];exact hr
       have gt24':=AP2;have gt1':=gt1;by_cases hlu:(mU x.toNat||fW x.toNat)=true
       . have hwx:FG Kc x=true:=by rw [r4,hlu];rfl
         have hsc:LK (x::s.drop (i+1))=if decide (((x::s.drop (i+1)).takeWhile (FG Kc)).length>24) then .error 9
                                                                                 else if fW x.toNat then .ok (2,(x::s.drop (i+1)).takeWhile (FG Kc))
                                                                                 else if ADL ((x::s.drop (i+1)).takeWhile (FG Kc)) then .ok (4,(x::s.drop (i+1)).takeWhile (FG Kc))
                                                                                 else .ok (1,(x::s.drop (i+1)).takeWhile (FG Kc)):=by rw [LK,if_pos hlu]
         have hL:=fun K k=>hL1 hwx (by omega) σ1 v (.d (.int .u8 x.toNat)) K k;generalize ((x::s.drop (i+1)).takeWhile (FG Kc))=w at hwd hwl hsc hL;have hwn:=hw0 w.length hwl;cases hup:fW x.toNat<;>cases hlo:mU x.toNat<;>rw [hup] at hsc<;>first|(simp only [hup,hlo,Bool.or_self,AZ] at hlu;done)|skip
         all_goals (repeat' (first|refine ctQ rfl ?_|((first|refine rgQ mxQ ?_|refine cdQ ?_|(refine Run.BB ?_;refine Run.NC [0,5,6,7,8] ?_;simp only [go_sem];refine hL _ _ ?_)|(refine E6.own ho rfl (by simp) (by simp;omega) (by decide) (fun v2 σ2 ho2 hbk=>?_))|(refine Run.CK IQ ho.le ?_)|refine AJ.det (KT _ _) ?_|refine AJ.det (KU _ _) ?_|refine AJ.det (mY _ _) ?_)<;>try simp only [hup,hlo,Ag hlt,D1 hx,h9,h10,h13,h32,Tx,hc,hwn,hwd,gt24',ho.BT,AZ,go_sem])|(refine ⟨fun h=>?_,fun h=>?_⟩<;>first|(cases h;done)|try simp only [h])|fail))
         all_goals first
          |(obtain ⟨p1,p2,p3⟩:=next _ w _ _ (by rw [hsc];simp only [*,AZ,reduceIte,Be,CG,BW,DO,Cn,Cm]) ho2;exact ih (i+w.length,_,_) p3 (by simp only;omega))
          |(rw [fail 9 (by rw [hsc];simp only [*,AZ,reduceIte,Be,CG,BW,DO,Cn,Cm])];simp [LM];done)
       . simp only [Bool.not_eq_true,IH] at hlu;have hnlu:¬(mU x.toNat||fW x.toNat)=true:=by simp [hlu]
         cases hdg:Kr x.toNat with
         |true=>
          have hsc:LK (x::s.drop (i+1))=if x==48&&decide (((x::s.drop (i+1)).takeWhile (FG Kr)).length>1) then .error 2
                                                                                         else if (Q5 ((x::s.drop (i+1)).takeWhile (FG Kr)) 0).isSome then .ok (3,(x::s.drop (i+1)).takeWhile (FG Kr))
                                                                                         else .error 9:=by rw [LK,if_neg hnlu,if_pos hdg]
          have hL:=fun K k=>hL2 hdg (by omega) σ1 v (.d (.int .u8 x.toNat)) K k;generalize ((x::s.drop (i+1)).takeWhile (FG Kr))=w at hdd hdl hsc hL;have hwn:=hw0 w.length hdl;have hval:=uU w σ1 (by omega);cases hv:Q5 w 0 with
          |some z=>
           rw [hv] at hval;(repeat' (first|refine ctQ rfl ?_|((first|refine rgQ mxQ ?_|refine cdQ ?_|(refine Run.BB ?_;refine Run.NC [0,5,6,7,8] ?_;simp only [go_sem];refine hL _ _ ?_)|(refine E6.own ho rfl (by simp) (by simp;omega) (by decide) (fun v2 σ2 ho2 hbk=>?_))|(refine Run.CK IQ ho.le ?_)|refine AJ.det (KT _ _) ?_|refine AJ.det (KU _ _) ?_|refine AJ.det (I2 _ _) ?_|refine AJ.det (hval) ?_|(refine A9 rfl (fun h=>?_) (fun h=>?_)<;>try (cases h;done)))<;>try simp only [Ag hlt,D1 hx,h9,h10,h13,h32,Tx,hc,hwn,hdd,gt1',AI2,hlu.1,hlu.2,hdg,ho.BT,AZ,go_sem])|(refine ⟨fun h=>?_,fun h=>?_⟩<;>first|(cases h;done)|try simp only [h])|fail))
           all_goals first
            |(obtain ⟨p1,p2,p3⟩:=next _ w _ _ (by rw [hsc];simp only [*,AZ,reduceIte,Be,CG,BW,DO,Cn,Cm]) ho2;exact ih (i+w.length,_,_) p3 (by simp only;omega))
            |(rw [fail 2 (by rw [hsc];simp only [*,AZ,reduceIte,Be,CG,BW,DO,Cn,Cm])];simp [LM];done)
          |none=>
           rw [hv] at hval;(repeat' (first|refine ctQ rfl ?_|((first|refine rgQ mxQ ?_|refine cdQ ?_|(refine Run.BB ?_;refine Run.NC [0,5,6,7,8] ?_;simp only [go_sem];refine hL _ _ ?_)|(refine E6.own ho rfl (by simp) (by simp;omega) (by decide) (fun v2 σ2 ho2 hbk=>?_))|(refine Run.CK IQ ho.le ?_)|refine AJ.det (KT _ _) ?_|refine AJ.det (KU _ _) ?_|refine AJ.det (I2 _ _) ?_|refine AJ.det (hval) ?_|(refine A9 rfl (fun h=>?_) (fun h=>?_)<;>try (cases h;done)))<;>try simp only [Ag hlt,D1 hx,h9,h10,h13,h32,Tx,hc,hwn,hdd,gt1',AI2,hlu.1,hlu.2,hdg,ho.BT,AZ,go_sem])|(refine ⟨fun h=>?_,fun h=>?_⟩<;>first|(cases h;done)|try simp only [h])|fail))
           all_goals first
            |(rw [fail 2 (by rw [hsc];simp only [*,AZ,reduceIte,Be,CG,BW,DO,Cn,Cm])];simp [LM];done)
            |(rw [fail 9 (by rw [hsc];simp only [*,AZ,reduceIte,Be,CG,BW,DO,Cn,Cm])];simp [LM];done)
         |false=>
          have hsc:LK (x::s.drop (i+1))=if (x::s.drop (i+1)).take (J8 (x::s.drop (i+1)))==[] then .error 2 else .ok (5,(x::s.drop (i+1)).take (J8 (x::s.drop (i+1)))):=by rw [LK,if_neg hnlu,if_neg (by simp [hdg])]
          have hsk:=zG (x::s.drop (i+1)) σ1 (by simp);have hwn:=hw0 (J8 (x::s.drop (i+1))) hsl2;have htl:((x::s.drop (i+1)).take (J8 (x::s.drop (i+1)))).length=J8 (x::s.drop (i+1)):=by rw [Bi,hsl];omega
          generalize J8 (x::s.drop (i+1))=m at hsc hsk hwn hsg hsl2 htl;generalize ((x::s.drop (i+1)).take m)=w at hsc hsg htl
          have hz:((m:Int)==0)=(w==[]):=by
           rw [Ax];simp only [beq_iff_eq];rw [<- List.length_eq_zero_iff,htl];omega
          cases hw:(w==[]) with
          |true=>
           (repeat' (first|refine ctQ rfl ?_|((first|refine rgQ mxQ ?_|refine cdQ ?_|(refine Run.CK IQ ho.le ?_)|refine AJ.det (KT _ _) ?_|refine AJ.det (KU _ _) ?_|refine AJ.det (I2 _ _) ?_|refine AJ.det (hsk) ?_)<;>try simp only [Ag hlt,D1 hx,h9,h10,h13,h32,Tx,hc,hss,hwn,hsg,hlu.1,hlu.2,hdg,hz,hw,ho.BT,AZ,go_sem])|fail));rw [fail 2 (by rw [hsc,if_pos hw])];simp [LM]
          |false=>
           (repeat' (first|refine ctQ rfl ?_|((first|refine rgQ mxQ ?_|refine cdQ ?_|(refine E6.own ho rfl (by simp) (by simp;omega) (by decide) (fun v2 σ2 ho2 hbk=>?_))|(refine Run.CK IQ ho.le ?_)|refine AJ.det (KT _ _) ?_|refine AJ.det (KU _ _) ?_|refine AJ.det (I2 _ _) ?_|refine AJ.det (hsk) ?_)<;>try simp only [Ag hlt,D1 hx,h9,h10,h13,h32,Tx,hc,hss,hwn,hsg,hlu.1,hlu.2,hdg,hz,hw,ho.BT,AZ,go_sem])|fail));obtain ⟨p1,p2,p3⟩:=next 5 w _ _ (by rw [hsc,if_neg (by simp [hw])]) ‹_›
           rw [htl] at p1 p2 p3;exact ih (i+m,_,_) p3 (by simp only;omega)
   . have hge:i=s.length:=by omega
     rw [hge,NM,Sj] at hs;(repeat' (first|refine ctQ rfl ?_|((first|refine rgQ mxQ ?_|refine cdQ ?_|(refine E6.own ho rfl (by simp) (by simp;omega) (by decide) (fun v2 σ2 ho2 hbk=>?_))|(refine Run.CK IQ ho2.le ?_))<;>try simp only [Bk hlt,go_sem])|fail));simp only [ho2.BF,ho2.plain,go_sem];rw [hs];simp [LM,Tok.enc]
end Go.Ab
