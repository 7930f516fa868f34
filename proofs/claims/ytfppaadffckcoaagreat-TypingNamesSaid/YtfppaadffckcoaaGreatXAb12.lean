/- Part Ab12. Conditions: none. -/
import Derived.ProofKit
import Derived.KernelRfl
import Derived.Test.YtfppaadffckcoaaGreatProg
import Derived.Test.YtfppaadffckcoaaGreatXAb9c
set_option linter.unusedSimpArgs false
set_option linter.unusedVariables false
set_option maxRecDepth 100000
set_option maxHeartbeats 40000000
open Go.Proofs.Tryz renaming prog→Tzp
open List renaming mem_cons→Ar,all_nil→GM,replicate→AF,getElem_of_mem→Bt,getElem?_eq_getElem→BB,mem_of_getElem?→AE,getElem?_append_left→BQ,getElem?_append_right→BL,getElem?_eq_none→B9,drop_of_length_le→TB,contains_iff_mem→Ak,drop_drop→FN,take_append_drop→Ad,all_eq_true→A8,eq_nil_of_length_eq_zero→BP,getElem?_eq_some_iff→AG,all_cons→Bk,getElem?_take→B2,length_take→B4,length_drop→Cm,getElem?_drop→BT,map_cons→AD,map_nil→AJ,length_cons→A1,length_nil→CG,getElem?_cons_zero→BM,getElem?_cons_succ→mM,take_succ_cons→Cj,take_zero→Cn,drop_succ_cons→FX,drop_zero→TC,cons_append→AZ,nil_append→As,append_nil→BW,getElem?_map→Aj,range→BA,any_cons→MV,length_map→AA,drop_length→Jk,length_append→AX,length_singleton→EH,mem_singleton→A6
open Bool renaming false_eq_true→A3,and_eq_true→AO,and_self→Wa,and_true→B7,true_and→BY,true_or→ON,or_false→H2,false_or→EU,not_false→FL,and_false→CT,false_and→Bp,not_not→OM,eq_iff_iff→An,not_eq_true'→Br,or_eq_false_iff→GU,not_eq_true→Vo
open Nat renaming zero_le→GW,le_trans→Ap,eq_zero_or_pos→LM,le_refl→AW,add_mul→CK,mul_le_mul_right→Bw,zero_add→BJ,add_zero→CC,reduceEqDiff→C4,lt_or_ge→C7,add_sub_cancel_left→R3
open Option renaming map_some→Ah,bind_eq_bind→AQ,bind_eq_some_iff→AB,map_eq_some_iff→AN,bind_some→El,isSome_some→CX,isSome_none→CW
open Option.some renaming injEq→AL
open Array renaming length_toList→Oy,getElem?_eq_some_iff→N0,getElem?_eq_getElem→O9
open Go renaming undef→Cu
open Int renaming toNat_natCast→DS
namespace Go.Ab
open Go.RowKit
variable {P:Program} {K:C6} {F:Fm} {L:Lm} {σ:AI} {r:List Q}
def E:Lm:=fun _=>none
def Zs (k:Nat) (o:Option (List AV)) (L:Lm):Lm:=fun s=>if s=k then o else L s
theorem CR (d:Nat) (v:AV) (F:Fm) (s:Nat):put d v F s=if s=d then v else F s:=(rfl)
theorem AN3 (d:Nat) (cs:List AV) (L:Lm) (s:Nat):Am d cs L s=if s=d then some cs else L s:=(rfl)
theorem AVI (s:Nat):E s=none:=(rfl)
theorem AVP (s:Nat):U s= .undef:=(rfl)
theorem AMX (F:Fm):JK [] F=U:=(rfl)
theorem AJA (k:Nat) (ks:List Nat) (F:Fm):JK (k::ks) F=put k (F k) (JK ks F):=by
 funext s;simp only [JK,put,Ar];by_cases h:s=k
 . subst h;simp
 . simp [h]
theorem AI9 (L:Lm):Hs [] L=E:=(rfl)
theorem AEO (k:Nat) (ks:List Nat) (L:Lm):Hs (k::ks) L=Zs k (L k) (Hs ks L):=by
 funext s;simp only [Hs,Zs,Ar];by_cases h:s=k
 . subst h;simp
 . simp [h]
theorem AFB (k:Nat) (cs:List AV) (L:Lm):Zs k (some cs) L=Am k cs L:=(rfl)
theorem ARM (k:Nat):Zs k none E=E:=by funext s;simp [Zs,E]
theorem AFA (k j:Nat) (cs:List AV) (L:Lm):Zs k none (Am j cs L)=if j=k then Zs k none L else Am j cs (Zs k none L):=by
 funext s;by_cases h:j=k
 . subst h;simp only [if_true,Zs,Am];by_cases h2:s=j<;>simp [h2]
 . simp only [h,if_false,Zs,Am];by_cases h2:s=k
   . have h3:s≠j:=by omega
     rw [if_pos h2,if_neg h3,if_pos h2]
   . rw [if_neg h2];by_cases h3:s=j
     . rw [if_pos h3,if_pos h3]
     . rw [if_neg h3,if_neg h3,if_neg h2]
theorem AKB (k:Nat) (cs ds:List AV) (L:Lm):Am k cs (Am k ds L)=Am k cs L:=by
 funext s;simp only [Am];split<;>rfl
theorem AXY (F:Fm) (n:Nat):xv F (.t n)=F n:=(rfl)
theorem AXX (F:Fm) (v:AV):xv F (.c v)=v:=(rfl)
theorem Bq (a:AV):Wh [a]=put 0 a U:=by
 funext s;simp only [Wh,put,U];cases s<;>simp
theorem BK (a b:AV):Wh [a,b]=put 0 a (put 1 b U):=by
 funext s;simp only [Wh,put,U]
 match s with|0=>rfl|1=>rfl|n+2=>simp
theorem Dm (a b c:AV):Wh [a,b,c]=put 0 a (put 1 b (put 2 c U)):=by
 funext s;simp only [Wh,put,U]
 match s with|0=>rfl|1=>rfl|2=>rfl|n+3=>simp
theorem fR (a b c d:AV):Wh [a,b,c,d]=put 0 a (put 1 b (put 2 c (put 3 d U))):=by
 funext s;simp only [Wh,put,U]
 match s with|0=>rfl|1=>rfl|2=>rfl|3=>rfl|n+4=>simp
theorem AC0 (a b c d e:AV):Wh [a,b,c,d,e]=put 0 a (put 1 b (put 2 c (put 3 d (put 4 e U)))):=by
 funext s;simp only [Wh,put,U]
 match s with|0=>rfl|1=>rfl|2=>rfl|3=>rfl|4=>rfl|n+5=>simp
theorem ARL (k:Nat):Du k U=U:=by funext s;simp [Du,U,AV.BV]
theorem AKA (k d:Nat) (v:AV) (F:Fm):Du k (put d v F)=put d (if v.BV k then .undef else v) (Du k F):=by
 funext s;simp only [Du,put];by_cases h:s=d<;>simp [h]
theorem AUA (k:Nat) (x:DV):(AV.d x).BV k=false:=(rfl)
theorem AJK (k:Nat):AV.Ae.BV k=false:=(rfl)
theorem AM7 (k t e s:Nat) (r:List (List DV)):(AV.own t e s r).BV k=false:=(rfl)
theorem AJH (k:Nat) (r:List (List DV)):(AV.clip r).BV k=false:=(rfl)
theorem AM6 (k:Nat) (r:List AV):(AV.agg r).BV k=false:=(rfl)
theorem AQ1 (k j o:Nat):(AV.lp j o).BV k=(j==k):=(rfl)
theorem AQ0 (k j o:Nat):(AV.gp j o).BV k=false:=(rfl)
theorem AQY (k o:Nat) (r:List DV):(AV.ep r o).BV k=false:=(rfl)
theorem AJJ (k:Nat):AV.G4.BV k=false:=(rfl)
theorem AQ2 (k i n s e:Nat):(AV.ms i n s e).BV k=false:=(rfl)
theorem AQ3 (k:Nat) (i o n s e:Nat):(AV.mv i o n s e).BV k=false:=(rfl)
theorem AQX (k:Nat) (t e:Nat) (s:List UInt8):(AV.bp t e s).BV k=false:=(rfl)
theorem Ye (k t:Nat) (es:List (Int×Int)):(AV.om t es).BV k=false:=(rfl)
theorem AJI (k:Nat):AV.H0.BV k=false:=(rfl)
theorem AQZ (k:Nat) (f:FuncId) (x y:List AV):(AV.fn f x y).BV k=false:=(rfl)
theorem AM8 (k:Nat) (x:List AV):(AV.tup x).BV k=false:=(rfl)
theorem AES (k:Nat):AV.undef.BV k=false:=(rfl)
theorem APU (x:DV):AV.cells (AV.d x)=[(AV.d x)]:=(rfl)
theorem ADH:AV.cells AV.Ae=[AV.Ae]:=(rfl)
theorem AH0 (t e s:Nat) (r:List (List DV)):AV.cells (AV.own t e s r)=[(AV.own t e s r)]:=(rfl)
theorem ADE (r:List (List DV)):AV.cells (AV.clip r)=[(AV.clip r)]:=(rfl)
theorem AHZ (r:List AV):AV.cells (AV.agg r)=r:=(rfl)
theorem ALP (j o:Nat):AV.cells (AV.lp j o)=[(AV.lp j o)]:=(rfl)
theorem ALO (j o:Nat):AV.cells (AV.gp j o)=[(AV.gp j o)]:=(rfl)
theorem ALM (r:List DV) (o:Nat):AV.cells (AV.ep r o)=[(AV.ep r o)]:=(rfl)
theorem ADG:AV.cells AV.G4=[AV.G4]:=(rfl)
theorem ALQ (i n s e:Nat):AV.cells (AV.ms i n s e)=[(AV.ms i n s e)]:=(rfl)
theorem ALR (i o n s e:Nat):AV.cells (AV.mv i o n s e)=[AV.mv i o n s e]:=(rfl)
theorem ALL (t e:Nat) (s:List UInt8):AV.cells (AV.bp t e s)=[AV.bp t e s]:=(rfl)
theorem T0 (t:Nat) (es:List (Int×Int)):AV.cells (AV.om t es)=[AV.om t es]:=(rfl)
theorem ADF:AV.cells AV.H0=[AV.H0]:=(rfl)
theorem ALN (f:FuncId) (x y:List AV):AV.cells (AV.fn f x y)=[(AV.fn f x y)]:=(rfl)
theorem AH1 (x:List AV):AV.cells (AV.tup x)=[(AV.tup x)]:=(rfl)
theorem zO:AV.cells AV.undef=[AV.undef]:=(rfl)
theorem AMV (x:DV):AV.B8 (AV.d x)=true:=(rfl)
theorem AAX:AV.B8 AV.Ae=true:=(rfl)
theorem AEI (t e s:Nat) (r:List (List DV)):AV.B8 (AV.own t e s r)=true:=(rfl)
theorem AAT (r:List (List DV)):AV.B8 (AV.clip r)=true:=(rfl)
theorem AEH (r:List AV):AV.B8 (AV.agg r)=false:=(rfl)
theorem AI4 (j o:Nat):AV.B8 (AV.lp j o)=false:=(rfl)
theorem AI3 (j o:Nat):AV.B8 (AV.gp j o)=true:=(rfl)
theorem AI1 (r:List DV) (o:Nat):AV.B8 (AV.ep r o)=true:=(rfl)
theorem AAW:AV.B8 AV.G4=true:=(rfl)
theorem AI5 (i n s e:Nat):AV.B8 (AV.ms i n s e)=true:=(rfl)
theorem AI6 (i o n s e:Nat):AV.B8 (AV.mv i o n s e)=true:=(rfl)
theorem AI0 (t e:Nat) (s:List UInt8):AV.B8 (AV.bp t e s)=true:=(rfl)
theorem Pk (t:Nat) (es:List (Int×Int)):AV.B8 (AV.om t es)=true:=(rfl)
theorem AAV:AV.B8 AV.H0=true:=(rfl)
theorem AI2 (f:FuncId) (x y:List AV):AV.B8 (AV.fn f x y)=true:=(rfl)
theorem AEJ (x:List AV):AV.B8 (AV.tup x)=false:=(rfl)
theorem wZ:AV.B8 AV.undef=false:=(rfl)
theorem FI (x:DV):AV.BE (AV.d x)=true:=(rfl)
theorem AJV:AV.BE AV.Ae=true:=(rfl)
theorem ANM (t e s:Nat) (r:List (List DV)):AV.BE (AV.own t e s r)=true:=(rfl)
theorem AJS (r:List (List DV)):AV.BE (AV.clip r)=true:=(rfl)
theorem D9 (r:List AV):AV.BE (AV.agg r)=true:=(rfl)
theorem ARD (j o:Nat):AV.BE (AV.lp j o)=false:=(rfl)
theorem VE (j o:Nat):AV.BE (AV.gp j o)=true:=(rfl)
theorem ARC (r:List DV) (o:Nat):AV.BE (AV.ep r o)=true:=(rfl)
theorem AJU:AV.BE AV.G4=true:=(rfl)
theorem AG0 (i n s e:Nat):AV.BE (AV.ms i n s e)=true:=(rfl)
theorem ARE (i o n s e:Nat):AV.BE (AV.mv i o n s e)=true:=(rfl)
theorem ARB (t e:Nat) (s:List UInt8):AV.BE (AV.bp t e s)=true:=(rfl)
theorem ARF (t:Nat) (es:List (Int×Int)):AV.BE (AV.om t es)=true:=(rfl)
theorem AJT:AV.BE AV.H0=true:=(rfl)
theorem mD (f:FuncId) (x y:List AV):AV.BE (AV.fn f x y)=true:=(rfl)
theorem ANN (x:List AV):AV.BE (AV.tup x)=true:=(rfl)
theorem AE2:AV.BE AV.undef=true:=(rfl)
theorem ATS (x:DV):AV.dv (AV.d x)=some x:=(rfl)
theorem AP6:AV.dv AV.Ae=some (.sl []):=(rfl)
theorem ATT (t e s:Nat) (r:List (List DV)):AV.dv (AV.own t e s r)=some (.sl r):=(rfl)
theorem AP3 (r:List (List DV)):AV.dv (AV.clip r)=some (.sl r):=(rfl)
theorem ATR (r:List AV):AV.dv (AV.agg r)=none:=(rfl)
theorem AV0 (j o:Nat):AV.dv (AV.lp j o)=none:=(rfl)
theorem AVZ (j o:Nat):AV.dv (AV.gp j o)=none:=(rfl)
theorem AVX (r:List DV) (o:Nat):AV.dv (AV.ep r o)=none:=(rfl)
theorem AP5:AV.dv AV.G4=some .G4:=(rfl)
theorem AV2 (i o n s e:Nat):AV.dv (AV.mv i o n s e)=none:=(rfl)
theorem AVW (t e:Nat) (s:List UInt8):AV.dv (AV.bp t e s)=none:=(rfl)
theorem AV3 (t:Nat) (es:List (Int×Int)):AV.dv (AV.om t es)=none:=(rfl)
theorem AP4:AV.dv AV.H0=none:=(rfl)
theorem AV1 (i n s e:Nat):AV.dv (AV.ms i n s e)=none:=(rfl)
theorem AVY (f:FuncId) (x y:List AV):AV.dv (AV.fn f x y)=none:=(rfl)
theorem ATU (x:List AV):AV.dv (AV.tup x)=none:=(rfl)
theorem AL2:AV.dv AV.undef=none:=(rfl)
theorem AKH:AV.rows AV.Ae=some []:=(rfl)
theorem AOF (t e s:Nat) (r:List (List DV)):AV.rows (AV.own t e s r)=some r:=(rfl)
theorem AKG (r:List (List DV)):AV.rows (AV.clip r)=some r:=(rfl)
theorem AUP (r:List (List DV)):AV.rows (AV.d (.sl r))=some r:=(rfl)
theorem AJD:Tx AV.Ae=some (.d (.int .i64 0)):=(rfl)
theorem AM1 (t e s:Nat) (r:List (List DV)):Tx (AV.own t e s r)=some (.d (.int .i64 r.length)):=(rfl)
theorem AJC (r:List (List DV)):Tx (AV.clip r)=some (.d (.int .i64 r.length)):=(rfl)
theorem AQV (i n s e:Nat):Tx (AV.ms i n s e)=some (.d (.int .i64 n)):=(rfl)
theorem AQW (i o n s e:Nat):Tx (AV.mv i o n s e)=some (.d (.int .i64 n)):=(rfl)
theorem AT8 (r:List (List DV)):Tx (AV.d (.sl r))=some (.d (.int .i64 r.length)):=(rfl)
theorem AVC:Bc P K [] F L σ=K F L σ:=(rfl)
theorem AVH (b:Bool) (q:Q) (t:QT):XT P K b (.one q t) F L σ=Bc P (XT P K false t) [q] F L σ:=by cases b<;>rfl
theorem AVG (b:Bool) (q:Q) (t s:QT):XT P K b (.alt q t s) F L σ=(Bc P (XT P K false t) [q] F L σ/\XT P K true s F L σ):=by cases b<;>rfl
theorem ASR:XT P K false .done F L σ=K F L σ:=(rfl)
theorem ASS:XT P K true .done F L σ=True:=(rfl)
theorem APE (v:AV) (d:Nat):XPv (some v) (some d) K F L σ=K (put d v F) L σ:=(rfl)
theorem AW6 (d:Nat) (x:X):Bc P K (⟨some d,.mv x,none⟩::r) F L σ=Bc P K r (put d (xv F x) F) L σ:=(rfl)
theorem ASM (d:Option Nat) (x y z:X):Bc P K (⟨d,.pick x y z,none⟩::r) F L σ=XPv (ABE (xv F x) (xv F y) (xv F z)) d (Bc P K r) F L σ:=(rfl)
theorem AU5 (d:Option Nat) (x:X) (o:Nat):Bc P K (⟨d,.fld x o,none⟩::r) F L σ=XPv (ADZ (xv F x) o) d (Bc P K r) F L σ:=(rfl)
theorem AW4 (d:Option Nat) (x:X) (n:Option Nat):Bc P K (⟨d,.ld x n,none⟩::r) F L σ=XPv (ldA L σ (xv F x) n) d (Bc P K r) F L σ:=(rfl)
theorem AW3 (d:Option Nat) (x y:X) (n:Nat):Bc P K (⟨d,.ix x y n,none⟩::r) F L σ=XPv (ixA (xv F x) (xv F y) n) d (Bc P K r) F L σ:=(rfl)
theorem ASO (d:Option Nat) (x y:X):Bc P K (⟨d,.AOM x y,none⟩::r) F L σ=XPv (qN (xv F x) (xv F y)) d (Bc P K r) F L σ:=(rfl)
theorem AU7 (d:Option Nat) (x:X):Bc P K (⟨d,.len x,none⟩::r) F L σ=XPv (Tx (xv F x)) d (Bc P K r) F L σ:=(rfl)
theorem ASP (d:Option Nat) (x:X):Bc P K (⟨d,.AKK x,none⟩::r) F L σ=XPv (vI (xv F x)) d (Bc P K r) F L σ:=(rfl)
theorem AU0 (d:Option Nat) (op:BinOp) (x y:X):Bc P K (⟨d,.bin op x y,none⟩::r) F L σ=XPv (AHR op (xv F x) (xv F y)) d (Bc P K r) F L σ:=(rfl)
theorem ASF (d:Option Nat) (op:BinOp) (x y:X):Bc P K (⟨d,.ALJ op x y,none⟩::r) F L σ=XPv (tL op (xv F x) (xv F y)) d (Bc P K r) F L σ:=(rfl)
theorem AW8 (d:Option Nat) (op:UnOp) (x:X):Bc P K (⟨d,.un op x,none⟩::r) F L σ=XPv (unA op (xv F x)) d (Bc P K r) F L σ:=(rfl)
theorem ASK (d:Option Nat) (k:IntKind) (x:X):Bc P K (⟨d,.conv k x,none⟩::r) F L σ=XPv (tW k (xv F x)) d (Bc P K r) F L σ:=(rfl)
theorem AU1 (d:Option Nat) (z:List AV) (ps:List (Nat×Nat×X)):Bc P K (⟨d,.bld z ps,none⟩::r) F L σ=XPv ((Ko z F ps).map .agg) d (Bc P K r) F L σ:=(rfl)
theorem AU3 (d:Option Nat) (s n:Nat) (z:List AV) (ps:List (Nat×Nat×X)):Bc P K (⟨d,.bsl s n z ps,none⟩::r) F L σ=XPv (((Ko z F ps).bind dvs).map fun l=>.d (.sl (chunk s n l))) d (Bc P K r) F L σ:=(rfl)
theorem AU8 (d:Option Nat) (f:FuncId) (x y:List X):Bc P K (⟨d,.mkf f x y,none⟩::r) F L σ=XPv (if (xvs F x++xvs F y).all AV.BE then some (.fn f (xvs F x) (xvs F y)) else none) d (Bc P K r) F L σ:=(rfl)
theorem AU4 (d:Option Nat) (x:X) (i:Nat):Bc P K (⟨d,.ext x i,none⟩::r) F L σ=XPv (AIE (xv F x) i) d (Bc P K r) F L σ:=(rfl)
theorem AVB (d:Option Nat) (x:X):Bc P K (⟨d,.nck x,none⟩::r) F L σ=XPv (ANF (xv F x)) d (Bc P K r) F L σ:=(rfl)
theorem AW5 (d:Option Nat) (b:Bool) (x y:X):Bc P K (⟨d,.mm b x y,none⟩::r) F L σ=XPv (mmA b (xv F x) (xv F y)) d (Bc P K r) F L σ:=(rfl)
theorem AU2 (d:Nat) (x:X):Bc P K (⟨some d,.box x false,none⟩::r) F L σ=(Aw (xv F x).cells=true/\Bc P K r (put d (.lp d 0) (Du d F)) (Am d (xv F x).cells L) σ):=(rfl)
theorem AWW (d:Nat) (z:List AV):Bc P K (⟨some d,.al z false,none⟩::r) F L σ=(Aw z=true/\Bc P K r (put d (.lp d 0) (Du d F)) (Am d z L) σ):=(rfl)
theorem ASG (d:Nat) (x:X):Bc P K (⟨some d,.box x true,none⟩::r) F L σ=(Aw (xv F x).cells=true/\∀i,σ.blk i=none->Bc P K r (put d (.gp i 0) F) L (σ.AP i (xv F x).cells)):=(rfl)
theorem AUY (d:Nat) (z:List AV):Bc P K (⟨some d,.al z true,none⟩::r) F L σ=(Aw z=true/\∀i,σ.blk i=none->Bc P K r (put d (.gp i 0) F) L (σ.AP i z)):=(rfl)
def ATE (K:C6) (F:Fm):Option (Lm×AI)->Prop
 |some (L',σ')=>K F L' σ'
 |none=>False
theorem APF (F:Fm) (L':Lm) (σ':AI):ATE K F (some (L',σ'))=K F L' σ':=(rfl)
theorem AW7 (x v:X) (n:Nat):Bc P K (⟨none,.st x v n,none⟩::r) F L σ=(Aw (xv F v).cells=true/\(xv F v).cells.length=n/\ATE (Bc P K r) F (stA L σ (xv F v).cells (xv F x))):=by
 show XSt _ _ _ _ _ _ _ _=_;unfold XSt ATE;simp only [true_and];cases stA L σ (xv F v).cells (xv F x)<;>rfl
theorem AWZ (d:Option Nat) (o:O) (s:Nat) (want:Bool):Bc P K (⟨d,o,some (s,want)⟩::r) F L σ=XG (gdV want (F s)) (Bc P K (⟨d,o,none⟩::r) F L σ) (Bc P K r (BS d (.tup []) F) L σ):=rfl
theorem AW2 (d:Option Nat) (o:O) (s:Nat) (want:Bool) (h:gdV want (F s)=some true):Bc P K (⟨d,o,some (s,want)⟩::r) F L σ=Bc P K (⟨d,o,none⟩::r) F L σ:=by rw [AWZ,h];rfl
theorem AW0 (d:Option Nat) (o:O) (s:Nat) (want:Bool) (h:gdV want (F s)=some false):Bc P K (⟨d,o,some (s,want)⟩::r) F L σ=Bc P K r (BS d (.tup []) F) L σ:=by rw [AWZ,h];rfl
theorem AWC (want b:Bool):gdV want (.d (.bool b))=some (b==want):=(rfl)
theorem AWD (want:Bool):gdV want (.tup [])=some false:=(rfl)
theorem AKC (d:Nat) (v:AV) (F:Fm):BS (some d) v F=put d v F:=(rfl)
theorem ASJ (d:Option Nat) (f:FuncId) (args:List X):Bc P K (⟨d,.call f args,none⟩::r) F L σ=AH P f (xvs F args) d (Bc P K r) F L σ:=(rfl)
theorem APD (d:Option Nat) (f:FuncId) (args:List X):Bc P K (⟨d,.jZ f args,none⟩::r) F L σ=mP P f (xvs F args) d (Bc P K r) F L σ:=(rfl)
theorem AUZ (d:Option Nat) (e s b:Nat) (x y:X):Bc P K (⟨d,.app e s b x y,none⟩::r) F L σ=DD e s b (xv F x) (xv F y) d (Bc P K r) F L σ:=(rfl)
def AS9 (P:Program) (x:AV) (args:List AV) (dst:Option Nat) (K:C6) (F:Fm) (L:Lm) (σ:AI):Prop:=
 ∃f first caps,x= .fn f first caps/\Ca P f=true/\AH P f (first++args++caps) dst K F L σ
theorem APC (d:Option Nat) (x:X) (args:List X):Bc P K (⟨d,.Zh x args,none⟩::r) F L σ=AS9 P (xv F x) (xvs F args) d (Bc P K r) F L σ:=(rfl)
theorem AVA (d:Option Nat) (e s b:Nat) (z:List AV) (x y:X):Bc P K (⟨d,.msl e s b z x y,none⟩::r) F L σ=PC e s b z (xv F x) (xv F y) d (Bc P K r) F L σ:=(rfl)
theorem ASE (d:Option Nat) (e s b:Nat) (x y:X):Bc P K (⟨d,.rM e s b x y,none⟩::r) F L σ=Pm e s b (xv F x) (xv F y) d (Bc P K r) F L σ:=(rfl)
theorem AVF (d:Option Nat) (x y:X):Bc P K (⟨d,.trn x y,none⟩::r) F L σ=ATF (xv F x) (xv F y) d (Bc P K r) F L σ:=(rfl)
theorem ASI (d:Option Nat) (e s n:Nat) (z:List AV) (ps:List (Nat×Nat×X)):Bc P K (⟨d,.kJ e s n z ps,none⟩::r) F L σ=We e s n (Ko z F ps) d (Bc P K r) F L σ:=(rfl)
theorem AU6 (d:Option Nat) (x:X) (n:Option Nat):Bc P K (⟨d,.ldl x n,none⟩::r) F L σ=XPv (xF L (xv F x) n) d (Bc P K r) F L σ:=(rfl)
theorem AWY (d:Option Nat) (x:X) (o:Nat) (n:Option Nat):Bc P K (⟨d,.fd x o n,none⟩::r) F L σ=XPv (fdA (xv F x) o n) d (Bc P K r) F L σ:=(rfl)
theorem AVE (d:Option Nat) (x:X) (a b:Option X):Bc P K (⟨d,.ssl x a b,none⟩::r) F L σ=XPv (YO (xv F x) (a.map (xv F)) (b.map (xv F))) d (Bc P K r) F L σ:=(rfl)
theorem AVD (d:Option Nat) (x:X) (a b c:Option X) (n:Nat):Bc P K (⟨d,.sls x a b c n,none⟩::r) F L σ=XPv (AKL (xv F x) (a.map (xv F)) (b.map (xv F)) (c.map (xv F)) n) d (Bc P K r) F L σ:=(rfl)
theorem ASN (d:Option Nat) (ne:Bool) (x:X):Bc P K (⟨d,.AE8 ne x,none⟩::r) F L σ=XPv (u7 ne (xv F x)) d (Bc P K r) F L σ:=(rfl)
theorem ASQ (d:Option Nat) (ne:Bool) (n:Nat) (x y:X):Bc P K (⟨d,.AFV ne n x y,none⟩::r) F L σ=XPv (vJ ne n (xv F x) (xv F y)) d (Bc P K r) F L σ:=(rfl)
theorem AU9 (d:Option Nat) (b:Bool) (x y z:X):Bc P K (⟨d,.mm3 b x y z,none⟩::r) F L σ=XPv ((mmA b (xv F x) (xv F y)).bind fun v=>mmA b v (xv F z)) d (Bc P K r) F L σ:=(rfl)
theorem ASH (d:Option Nat) (x:X):Bc P K (⟨d,.ALK x,none⟩::r) F L σ=XPv ((dvs (xv F x).cells).map fun ds=>.d (.ptr ds)) d (Bc P K r) F L σ:=(rfl)
theorem AWX (d:Option Nat) (k:EK) (xs:List X):Bc P K (⟨d,.ex k xs,none⟩::r) F L σ=XEx k (xvs F xs) d (Bc P K r) F L σ:=(rfl)
theorem ASD (d:Nat) (t:Nat) (z:List AV):XEx (.alt t z) [] (some d) K F L σ=(Aw z=true/\∀i,(σ.blk i=none/\σ.bt i=none)->K (put d (.gp i 0) F) L ((σ.AP i z).CH i (z.length,t))):=by
 simp only [XEx,EK.pure,A3,if_false,GM,true_and,ExR,BS]
theorem ASL (d:Option Nat) (x y z:X):Bc P K (⟨d,.iC x y z,none⟩::r) F L σ=tI (xv F x) (xv F y) (xv F z) d (Bc P K r) F L σ:=(rfl)
theorem tI.mk {t:Nat} {es:List (Int×Int)} {n x:Int} (ht:σ.tok t=true) (hno:es.lookup n=none) (h:∀t',σ.tok t'=false->K (reF t (.om t' (es++[(n,x)])) F) L ((σ.Eo t).Cw t')):
 tI (.om t es) (.d (.int .i64 n)) (.d (.int .i64 x)) none K F L σ:=⟨rfl,t,es,n,x,rfl,rfl,rfl,ht,hno,h⟩
theorem ARS (t:Nat) (x v:AV) (d:Nat):reF t x (put d v F)=put d (reA t x v) (reF t x F):=by
 funext s;simp only [reF,put];split<;>rfl
theorem AWO (t:Nat) (x:AV):reF t x U=U:=(rfl)
theorem AWN (t:Nat) (x:AV) (y:DV):reA t x (.d y)= .d y:=(rfl)
theorem AOB (t:Nat) (x:AV) (es:List (Int×Int)):reA t x (.om t es)=x:=by simp [reA]
theorem AUL (t:Nat) (x:AV) (i o:Nat):reA t x (.gp i o)= .gp i o:=(rfl)
theorem AUM (t:Nat) (x:AV) (i o:Nat):reA t x (.lp i o)= .lp i o:=(rfl)
theorem AOA (t:Nat) (x:AV):reA t x .Ae= .Ae:=(rfl)
theorem AUN (t:Nat) (x:AV) (i n s e:Nat):reA t x (.ms i n s e)= .ms i n s e:=(rfl)
theorem ARQ (t:Nat) (x:AV) (i e s:Nat) (r:List (List DV)):reA t x (.own i e s r)= .own i e s r:=(rfl)
theorem AKD (t:Nat) (x:AV):reA t x .undef= .undef:=(rfl)
theorem ARR (t:Nat) (x:AV) (l:List AV):reA t x (.tup l)= .tup l:=(rfl)
theorem ARP (t:Nat) (x:AV) (l:List AV):reA t x (.agg l)= .agg l:=(rfl)
theorem XEx.mmk {d:Option Nat} (h:∀t,σ.tok t=false->K (BS d (.om t []) F) L (σ.Cw t)):XEx .mmk [] d K F L σ:=⟨rfl,h⟩
theorem XEx.AEV {d:Option Nat} {t:Nat} {es:List (Int×Int)} (ht:σ.tok t=true) (hl:es.length<=1000000000) (h:K (BS d (.d (.int .i64 es.length)) F) L σ):XEx .AEV [.om t es] d K F L σ:=⟨rfl,⟨ht,hl⟩,h⟩
theorem XEx.AWI {d:Option Nat} {t:Nat} {es:List (Int×Int)} {n x:Int} (ht:σ.tok t=true) (hx:0<=x/\x<=1000000000) (hl:es.lookup n=some x) (h:K (BS d (.tup [.d (.int .i64 x),.d (.bool true)]) F) L σ):
 XEx .AJM [.om t es,.d (.int .i64 n)] d K F L σ:=⟨rfl,ht,x,.inl ⟨hx,hl,h⟩⟩
theorem XEx.AWH {d:Option Nat} {t:Nat} {es:List (Int×Int)} {n:Int} (ht:σ.tok t=true) (hl:es.lookup n=none) (h:K (BS d (.tup [.d (.int .i64 0),.d (.bool false)]) F) L σ):
 XEx .AJM [.om t es,.d (.int .i64 n)] d K F L σ:=⟨rfl,ht,0,.inr ⟨hl,h⟩⟩
theorem XEx.tC {d:Nat} {ne b:Bool} {v:AV} (hn:v.BE=true) (hv:xJ v=some b) (h:K (put d (.d (.bool (b != ne))) F) L σ):XEx (.tC ne) [v] (some d) K F L σ:=by
 refine ⟨by simp [hn],?_⟩;show (match xJ v with|some b=>_|none=>_);rw [hv];exact h
theorem XEx.AOO {d:Nat} {ne:Bool} {v:AV} (hn:v.BE=true) (hr:v.rows=some []) (h:∀b,K (put d (.d (.bool b)) F) L σ):XEx (.tC ne) [v] (some d) K F L σ:=by
 refine ⟨by simp [hn],?_⟩;show (match xJ v with|some b=>_|none=>_);cases xJ v with
 |some b=>exact h _
 |none=>exact ⟨hr,h⟩
theorem Pm.mk {d:Option Nat} {e size bytes n:Nat} {s x:AV} {cs:List AV} {srows:List (List DV)} {σ1:AI} (h1:Oc σ e size s=some (n,cs,σ1)) (h2:x.rows=some srows)
 (h3:∀r∈srows,r.length=size) (h4:srows≠[]) (h5:n+srows.length<=1000000000) (hb:bytes<=10000)
 (h:∀j,σ.blk j=none->K (BS d (.ms j (n+srows.length) size e) F) L (σ1.AP j (cs++Es srows))):Pm e size bytes s x d K F L σ:=
 ⟨n,cs,σ1,srows,h1,h2,h3,fun e=>absurd e h4,by simp only [maxLen];omega,by
   calc (n+srows.length) * bytes<=1000000000 * 10000:=Nat.mul_le_mul h5 hb
    _<=140737488355328:=by decide,fun _=>h⟩
theorem We.mk {d:Option Nat} {e s n:Nat} {cs:List AV} (h:∀j,σ.blk j=none->K (BS d (.ms j n s e) F) L (σ.AP j cs)):We e s n (some cs) d K F L σ:=⟨cs,rfl,.inl h⟩
theorem We.own {d:Option Nat} {e s n:Nat} {cs:List AV} {ds:List DV} (hd:dvs cs=some ds) (_:True) (h:∀t,σ.tok t=false->K (BS d (.own t e s (chunk s n ds)) F) L (σ.Cw t)):We e s n (some cs) d K F L σ:=⟨cs,rfl,.inr ⟨ds,hd,h⟩⟩
theorem APR (n:Nat):fS n none none=some (0,n):=by simp [fS]
theorem PC.mk {d:Option Nat} {e s b:Nat} {z:List AV} (n:Nat) (hb:b * n<=281474976710656) (hn:n<=9223372036854775807) (h:∀i,σ.blk i=none->K (BS d (.ms i n s e) F) L (σ.AP i (AF n z).flatten)):
 PC e s b z (.d (.int .i64 n)) (.d (.int .i64 n)) d K F L σ:=
 ⟨.i64,.i64,n,rfl,rfl,by omega,by rw [<- Int.natCast_mul];omega,by omega,fun i hi=>by simpa using h i hi⟩
theorem AH.mk {d:Option Nat} {f:FuncId} {args:List AV} {Q:AV->AI->Prop} (hn:args.all AV.BE=true) (h:AT P f args σ Q) (hk:∀v σ',Q v σ'->K (BS d v F) L σ'):
 AH P f args d K F L σ:=⟨hn,Q,h,hk⟩
theorem mP.mk {d:Option Nat} {f:FuncId} {args:List AV} {v:AV} (hn:args.all AV.BE=true) (h:AT P f args σ (fun v' σ'=>v'=v/\σ'=σ)) (hk:K (BS d v F) L σ) (hv:v.BE=true:=by rfl):
 mP P f args d K F L σ:=⟨hn,v,⟨hv,h⟩,hk⟩
theorem DD.mk {d:Option Nat} {e size bytes:Nat} {s x:AV} {rows srows:List (List DV)} {σ1:AI} (h1:aF σ e size s=some (rows,σ1)) (h2:x.rows=some srows)
 (h3:∀r∈srows,r.length=size) (h4:rows.length+srows.length<=maxLen) (h5:(rows.length+srows.length) * bytes<=140737488355328)
 (h:∀t,σ.tok t=false->K (BS d (.own t e size (rows++srows)) F) L (σ1.Cw t)):DD e size bytes s x d K F L σ:= .inl ⟨rows,σ1,srows,h1,h2,h3,h4,h5,h⟩
theorem DD.clip {d:Option Nat} {e size bytes:Nat} {x:AV} {rows srows:List (List DV)} (h2:x.rows=some srows)
 (h3:∀r∈rows,r.length=size) (h3':∀r∈srows,r.length=size) (h4:rows.length+srows.length<=1000000000) (hb:bytes<=10000)
 (h:K (BS d (.d (.sl (rows++srows))) F) L σ):DD e size bytes (.clip rows) x d K F L σ:=
 .inr ⟨rows,srows,rfl,h2,h3,h3',by simp only [maxLen];omega,by
  calc (rows.length+srows.length) * bytes<=1000000000 * 10000:=Nat.mul_le_mul h4 hb
   _<=140737488355328:=by decide,h⟩
theorem AT.args {f:FuncId} {args args':List AV} {Q:AV->AI->Prop} (h:AT P f args' σ Q) (hw:∀g vs,VRs g args vs->VRs g args' vs):AT P f args σ Q:=
 fun base g Pr w0 w vs hr hv=>h base g Pr w0 w vs hr (hw g vs hv)
theorem cO:∀(ops:List Q) {K K':C6} {F:Fm} {L:Lm} {σ:AI},(∀F L σ,K F L σ->K' F L σ)->Bc P K ops F L σ->Bc P K' ops F L σ
 |[],_,_,_,_,_,hk,hx=>hk _ _ _ hx
 |q::rest,K,K',F,L,σ,hk,hx=>by
  have hx:XG (gd F q.grd) (XO P q.dst (Bc P K rest) F L σ q.o) (Bc P K rest (BS q.dst (.tup []) F) L σ):=hx;show XG (gd F q.grd) (XO P q.dst (Bc P K' rest) F L σ q.o) (Bc P K' rest (BS q.dst (.tup []) F) L σ);cases hc:gd F q.grd with
  |none=>rw [hc] at hx;exact hx.elim
  |some b=>
   rw [hc] at hx;cases b
   . exact cO rest hk hx
   . exact ACU (fun F L σ h=>cO rest hk h) hx
def Cut (live:List Nat) (F0:Fm) (L0:Lm) (σ0:AI):C6:=fun F L σ=>JK live F=F0/\Hs live L=L0/\σ=σ0
theorem Run.AUO {cx:Cx} {KK:AV->AI->Prop} {k:List CI} {ops:List Q} {live:List Nat} (hm:cx.P.follows .mixedOrders=true) (F0:Fm) (L0:Lm) (σ0:AI)
 (h1:Bc cx.P (Cut live F0 L0 σ0) ops F L σ) (h2:Run cx KK k F0 L0 σ0):Run cx KK (.code (.reg ops live)::k) F L σ:=
 Run.reg hm (cO ops (fun F L σ h=>by obtain ⟨e1,e2,e3⟩:=h;show Run cx KK k (JK live F) (Hs live L) σ;rw [e1,e2,e3];exact h2) h1)
theorem AFU {P:Program} {m m1 m':Machine} (h:step P m= .next m1) (hs:Steps P m m') (hne:m≠m'):Steps P m1 m':=by
 obtain ⟨n,hn⟩:=hs;cases n with
 |zero=>simp only [runN] at hn;cases hn;exact absurd rfl hne
 |succ n=>simp only [runN,h] at hn;exact ⟨n,hn⟩
theorem Run.At {cx:Cx} {KK:AV->AI->Prop} {k:List CI} {c:C} (h:Run cx KK (.again c::k) F L σ):Run cx KK (.code (.loop c)::k) F L σ:=by
 intro items base g lam Pr a w0 w b cs hi hf hb hk;obtain ⟨p,ys,rfl,⟨p1,rfl,h1⟩,hys⟩:=hi.code;obtain ⟨v,w',fr,hs,hfn,hl,rest⟩:=h (.inLoop p1::ys) base g lam Pr a w0 w b cs (.cons ⟨p1,rfl,h1⟩ hys) hf hb hk;refine ⟨v,w',fr,.head step_loop (AFU step_inLoop hs fun e=>?_),hfn,hl,rest⟩;have h2:(lone (b.at a (.inLoop p1::ys)) cs w).gs=(lone fr cs w').gs:=by rw [e]
 simp only [lone,Array.mk.injEq,List.cons.injEq,Goroutine.mk.injEq] at h2;have h3:(b.at a (.inLoop p1::ys)).mode=fr.mode:=by rw [h2.1.1]
 rw [hl.1] at h3;cases h3
def cN (v:AV) (A B:Prop):Prop:=
 match v with
 | .d (.bool b)=>(b=true->A)/\(b=false->B)
 |_=>False
theorem ASA (b:Bool) (A B:Prop):cN (.d (.bool b)) A B=((b=true->A)/\(b=false->B)):=(rfl)
theorem ASC (A B:Prop):cN (.d (.bool true)) A B=A:=by simp [cN]
theorem ASB (A B:Prop):cN (.d (.bool false)) A B=B:=by simp [cN]
theorem Run.ASV {cx:Cx} {KK:AV->AI->Prop} {k:List CI} {x:X} {t e:C} (h:cN (xv F x) (Run cx KK (.code t::k) F L σ) (Run cx KK (.code e::k) F L σ)):Run cx KK (.code (.cond x t e)::k) F L σ:=by
 cases hx:xv F x<;>rw [hx] at h<;>try exact h.elim
 rename_i dv;cases dv<;>try exact h.elim
 exact Run.cond hx h.1 h.2
mutual
def AV.plain:AV->AV
 | .Ae=>.d (.sl [])
 | .G4=>.d .G4
 | .own _ _ _ rows=>.d (.sl rows)
 | .clip rows=>.d (.sl rows)
 | .agg cs=>.agg (AV.CL cs)
 | .tup vs=>.tup (AV.CL vs)
 |v=>v
def AV.CL:List AV->List AV
 |[]=>[]
 |v::l=>AV.plain v::AV.CL l
end
theorem G6 (x:DV):AV.plain (AV.d x)=(AV.d x):=by simp only [AV.plain]
theorem Kh:AV.plain AV.Ae= .d (.sl []):=by simp only [AV.plain]
theorem AJ6 (t e s:Nat) (r:List (List DV)):AV.plain (AV.own t e s r)= .d (.sl r):=by simp only [AV.plain]
theorem AE6 (r:List (List DV)):AV.plain (AV.clip r)= .d (.sl r):=by simp only [AV.plain]
theorem ND (r:List AV):AV.plain (AV.agg r)= .agg (AV.CL r):=by simp only [AV.plain]
theorem ANW (j o:Nat):AV.plain (AV.lp j o)=(AV.lp j o):=by simp only [AV.plain]
theorem pR (j o:Nat):AV.plain (AV.gp j o)=(AV.gp j o):=by simp only [AV.plain]
theorem ANU (r:List DV) (o:Nat):AV.plain (AV.ep r o)=(AV.ep r o):=by simp only [AV.plain]
theorem bU:AV.plain AV.G4= .d .G4:=by simp only [AV.plain]
theorem ANX (i n s e:Nat):AV.plain (AV.ms i n s e)=(AV.ms i n s e):=by simp only [AV.plain]
theorem ANY (i o n s e:Nat):AV.plain (AV.mv i o n s e)=(AV.mv i o n s e):=by simp only [AV.plain]
theorem ANT (t e:Nat) (s:List UInt8):AV.plain (AV.bp t e s)=(AV.bp t e s):=by simp only [AV.plain]
theorem ANZ (t:Nat) (es:List (Int×Int)):AV.plain (AV.om t es)=AV.om t es:=by simp only [AV.plain]
theorem AE7:AV.plain AV.H0=AV.H0:=by simp only [AV.plain]
theorem ANV (f:FuncId) (x y:List AV):AV.plain (AV.fn f x y)=(AV.fn f x y):=by simp only [AV.plain]
theorem AJ7 (x:List AV):AV.plain (AV.tup x)= .tup (AV.CL x):=by simp only [AV.plain]
theorem ABG:AV.plain AV.undef=AV.undef:=by simp only [AV.plain]
theorem NF:∀(l:List AV) (i:Nat),(AV.CL l)[i]?=(l[i]?).map AV.plain
 |[],i=>by simp [AV.CL]
 |v::l,0=>by simp [AV.CL]
 |v::l,i+1=>by simp [AV.CL,NF l i]
theorem VH:∀l:List AV,(AV.CL l).length=l.length
 |[]=>rfl
 |v::l=>by simp [AV.CL,VH l]
theorem bT {v:AV} (h:v.B8=true):v.plain.B8=true:=by cases v<;>first|rfl|(cases h;done)
theorem VR.plain {g:Gh} {x:AV} {v:Value} (h:VR g x v):VR g x.plain v:=by
 induction h with
 |d h=>simpa [AV.plain] using VR.d h
 |Ae=>exact .d (.nil (GW _) (fun _=>rfl))
 |own h _ _=>exact .d h
 |clip h=>exact .d h
 |@agg cs vs hl hc _ ih=>
  refine .agg (by rw [VH];exact hl) (fun c hcm=>?_) (fun i c v hci hvi=>?_)
  . obtain ⟨i,hi,rfl⟩:=Bt hcm;have:=NF cs i;rw [BB hi] at this;cases hcs:cs[i]? with
    |none=>rw [hcs] at this;cases this
    |some c'=>rw [hcs] at this;simp only [Ah,AL] at this;rw [this];exact bT (hc c' (AE hcs))
  . rw [NF] at hci;cases hcs:cs[i]? with
    |none=>rw [hcs] at hci;cases hci
    |some c'=>rw [hcs] at hci;simp only [Ah,AL] at hci;rw [<- hci];exact ih i c' v hcs hvi
 |gp h=>simpa [AV.plain] using VR.gp h
 |ep hi hr=>simpa [AV.plain] using VR.ep hi hr
 |G4=>exact .d .G4
 |H0=>simpa [AV.plain] using VR.H0
 |om h=>simpa [AV.plain] using VR.om h
 |ms h hr hn hm=>simpa [AV.plain] using VR.ms h hr hn hm
 |mv h hr hn hm ho=>simpa [AV.plain] using VR.mv h hr hn hm ho
 |bp h k=>simpa [AV.plain] using VR.bp h k
 |fn hl hl' h h' _ _=>simpa [AV.plain] using VR.fn hl hl' h h'
 |@tup cs vs hl _ ih=>
  refine .tup (by rw [VH];exact hl) (fun i c v hci hvi=>?_);rw [NF] at hci;cases hcs:cs[i]? with
  |none=>rw [hcs] at hci;cases hci
  |some c'=>rw [hcs] at hci;simp only [Ah,AL] at hci;rw [<- hci];exact ih i c' v hcs hvi
 |undef=>simpa [AV.plain] using VR.undef
theorem VRs.plain {g:Gh} {xs:List AV} {vs:List Value} (h:VRs g xs vs):VRs g (AV.CL xs) vs:=by
 induction h with
 |nil=>exact .nil
 |cons h _ ih=>exact .cons h.plain ih
theorem AT.plain {f:FuncId} {args:List AV} {Q:AV->AI->Prop} (h:AT P f (AV.CL args) σ Q):AT P f args σ Q:=
 fun base g Pr w0 w vs hr hv=>h base g Pr w0 w vs hr hv.plain
def ALE (o:Option AV) (K:AV->AI->Prop) (σ:AI):Prop:=
 match o with
 |some v=>K v σ
 |none=>False
theorem AK5 (v:AV) (K:AV->AI->Prop) (σ:AI):ALE (some v) K σ=K v σ:=(rfl)
theorem Run.Bf {cx:Cx} {KK:AV->AI->Prop} {k:List CI} {σ2:AI} (hg:Good cx) (hσ:σ2.le σ) (h:ALE ((p5 F L σ cx.rs).map AV.plain) KK σ2):Run cx KK (.code .ret::k) F L σ:=by
 cases hr:p5 F L σ cx.rs with
 |none=>rw [hr] at h;exact h.elim
 |some v=>rw [hr] at h;exact Run.ret hg hr (fun _ _ h=>h.plain) hσ h
theorem Run.AXR {cx:Cx} {KK:AV->AI->Prop} {k:List CI} {σ2:AI} (hg:Good cx) (hσ:σ2.le σ) (h:ALE (p5 F L σ cx.rs) KK σ2):Run cx KK (.code .ret::k) F L σ:=by
 cases hr:p5 F L σ cx.rs with
 |none=>rw [hr] at h;exact h.elim
 |some v=>rw [hr] at h;exact Run.ret hg hr (fun _ _ h=>h) hσ h
theorem AK (σ:AI) (i j:Nat) (cs:List AV):(σ.AP i cs).blk j=if j=i then some cs else σ.blk j:=(rfl)
theorem Hg (σ:AI) (i:Nat) (cs ds:List AV):(σ.AP i cs).AP i ds=σ.AP i ds:=by
 unfold AI.AP;congr 1;funext j;by_cases h:j=i<;>simp [h]
theorem Ix {σ:AI} {i:Nat} {cs:List AV} (h:σ.blk i=some cs):σ.AP i cs=σ:=by
 unfold AI.AP;cases σ;congr 1;funext j;split
 . rename_i e;subst e;exact h.symm
 . rfl
theorem U0 (σ:AI) (t i:Nat):(σ.Cw t).blk i=σ.blk i:=(rfl)
theorem ADS (σ:AI) (t i:Nat):(σ.Eo t).blk i=σ.blk i:=(rfl)
theorem AI.le_trans {a b c:AI} (h:a.le b) (k:b.le c):a.le c:=⟨fun i cs x=>k.blk i cs (h.blk i cs x),fun t x=>k.tok t (h.tok t x),h.gt.trans k.gt,fun i x hx=>k.bt i x (h.bt i x hx)⟩
theorem CQ {σ:AI} {i:Nat} {cs:List AV} (h:σ.blk i=none):σ.le (σ.AP i cs):=
 ⟨fun j ds hj=>by
   have:j≠i:=fun e=>by rw [e,h] at hj;cases hj
   rw [AK,if_neg this];exact hj,fun _ h=>h,rfl,fun _ _ h=>h⟩
structure Bz (σ:AI) (e s:Nat) (rows:List (List DV)) (v:AV) (σ':AI):Prop where
 app:∃σ1,aF σ' e s v=some (rows,σ1)/\σ.le σ1
 le:σ.le σ'
 plain:v.plain= .d (.sl rows)
 len:Tx v=some (.d (.int .i64 rows.length))
 cell:v.B8=true
 BE:v.BE=true
 BV:∀k,v.BV k=false
 dv:v.dv=some (.sl rows)
 cells:v.cells=[v]
theorem Bz.nil (σ:AI) (e s:Nat):Bz σ e s [] .Ae σ:=
 ⟨⟨σ,rfl,AI.le_refl σ⟩,AI.le_refl σ,rfl,rfl,rfl,rfl,fun _=>rfl,rfl,rfl⟩
theorem Bz.own {σ σ1 σ':AI} {e s t:Nat} {rows:List (List DV)} (hle:σ.le σ1) (hle':σ.le σ') (ht:σ'.tok t=false):Bz σ e s rows (.own t e s rows) (σ1.Cw t):=by
 have hnt:σ.tok t=false:=by
  cases h:σ.tok t with
  |false=>rfl
  |true=>rw [hle'.tok t h] at ht;cases ht
 refine ⟨⟨(σ1.Cw t).Eo t,by simp [aF,AI.Cw],⟨fun i cs h=>hle.blk i cs h,fun t' h=>?_,hle.gt,hle.bt⟩⟩,⟨fun i cs h=>hle.blk i cs h,fun t' h=>?_,hle.gt,hle.bt⟩,rfl,rfl,rfl,rfl,fun _=>rfl,rfl,rfl⟩
 . have hne:t'≠t:=fun e=>by rw [e,hnt] at h;cases h
   simp [AI.Eo,AI.Cw,hne,hle.tok t' h]
 . have hne:t'≠t:=fun e=>by rw [e,hnt] at h;cases h
   simp [AI.Cw,hne,hle.tok t' h]
theorem DD.own {σ0:AI} {d:Option Nat} {e size bytes:Nat} {s x:AV} {rows srows:List (List DV)} (ho:Bz σ0 e size rows s σ) (h2:x.rows=some srows)
 (h3:∀r∈srows,r.length=size) (h4:rows.length+srows.length<=1000000000) (hb:bytes<=10000)
 (h:∀v σ',Bz σ0 e size (rows++srows) v σ'->(∀i,σ'.blk i=σ.blk i)->K (BS d v F) L σ'):DD e size bytes s x d K F L σ:=by
 obtain ⟨σ1,ha,hl⟩:=ho.app;refine DD.mk ha h2 h3 (by simp only [maxLen];omega) ?_ (fun t ht=>h _ _ (Bz.own hl ho.le ht) (fun i=>?_))
 . calc (rows.length+srows.length) * bytes<=1000000000 * 10000:=Nat.mul_le_mul h4 hb
    _<=140737488355328:=by decide
 . rw [U0];unfold aF at ha;split at ha
   . cases ha;rfl
   . split at ha
     . cases ha;rfl
     . cases ha
   . cases ha
variable {cx:Cx} {KK:AV->AI->Prop} {k:List CI}
theorem Run.facts {p:Prop} (hp:∀base g lam Pr a w0 w,Bv base g lam Pr cx.N F L σ a w0 w->p) (h:p->Run cx KK k F L σ):Run cx KK k F L σ:=
 fun items base g lam Pr a w0 w b cs hi hf hb hk=>h (hp base g lam Pr a w0 w hf) items base g lam Pr a w0 w b cs hi hf hb hk
def AV.DW:AV->Prop
 | .d (.sl rows)=>rows.length<=9223372036854775807
 | .d (.str s)=>s.length<=9223372036854775807
 | .d (.int k n)=>k.min<=n/\n<=k.max
 | .own _ _ _ rows=>rows.length<=9223372036854775807
 | .clip rows=>rows.length<=9223372036854775807
 |_=>True
theorem VR.DW {g:Gh} {x:AV} {v:Value} (h:VR g x v):x.DW:=by
 cases h with
 |d h=>
  cases h with
  |int h=>exact h
  |bool=>trivial
  |str h=>exact h
  |nil=>simp [AV.DW]
  |sl hc hm _ _ _=>exact Ap hc hm
  |ptr=>trivial
  |G4=>trivial
 |own h _ _=>obtain ⟨_,_,_,h2⟩:=h.Q8;exact h2
 |clip h=>obtain ⟨_,_,_,h2⟩:=h.Q8;exact h2
 |_=>trivial
theorem SV.DW {g:Gh} {lam:Nat->Option Nat} {x:AV} {v:Value} (h:SV g lam x v):x.DW:=by
 cases x<;>first|exact VR.DW h|trivial
theorem Run.slot (s:Nat) (h:(F s).DW->Run cx KK k F L σ):Run cx KK k F L σ:=
 Run.facts (fun _ _ _ _ _ _ _ hf=>(hf.tm s).DW) h
theorem Run.cell (j o:Nat) {cs:List AV} {c:AV} (hL:L j=some cs) (hc:cs[o]?=some c) (h:c.DW->Run cx KK k F L σ):Run cx KK k F L σ:=
 Run.facts (fun _ _ _ _ _ _ _ hf=>by
  obtain ⟨_,b,vs,ty,_,_,_,hr⟩:=hf.loc j cs hL;obtain ⟨v,_,hv⟩:=hr.at o c hc;exact hv.DW) h
end Go.Ab
namespace Go.Ab
open Go.RowKit Go.ChangeShapes Go.WideShapes
inductive RDs (im:Nat->Nat->Option Value):List DV->List Value->Prop
 |nil:RDs im [] []
 |cons {x:DV} {v:Value} {xs:List DV} {vs:List Value} (h:RD im x v) (hs:RDs im xs vs):RDs im (x::xs) (v::vs)
theorem RDs.length {im:Nat->Nat->Option Value} {xs:List DV} {vs:List Value} (h:RDs im xs vs):vs.length=xs.length:=by
 induction h with
 |nil=>rfl
 |cons _ _ ih=>simp [ih]
theorem RDs.idx {im:Nat->Nat->Option Value} {xs:List DV} {vs:List Value} (h:RDs im xs vs):∀(i:Nat) (x:DV) (v:Value),xs[i]?=some x->vs[i]?=some v->RD im x v:=by
 induction h with
 |nil=>intro i x v hx;simp at hx
 |cons h _ ih=>
  intro i x v hx hv;cases i with
  |zero=>simp at hx hv;subst hx;subst hv;exact h
  |succ i=>exact ih i x v (by simpa using hx) (by simpa using hv)
theorem RDs.append {im:Nat->Nat->Option Value} {xs ys:List DV} {vs us:List Value} (h:RDs im xs vs) (k:RDs im ys us):RDs im (xs++ys) (vs++us):=by
 induction h with
 |nil=>exact k
 |cons h _ ih=>exact .cons h ih
theorem RDs.vrs {g:Gh} {xs:List DV} {vs:List Value} (h:RDs g.im xs vs):VRs g (xs.map AV.d) vs:=by
 induction h with
 |nil=>exact .nil
 |cons h _ ih=>exact .cons (.d h) ih
mutual
inductive DT (P:Program):TypeId->List DV->Prop
 |bool {t:TypeId} {b:Bool} (h:P.underlying t=some .bool):DT P t [.bool b]
 |int {t:TypeId} {k:IntKind} {n:Int} (h:P.underlying t=some (.int k)) (hn:k.has n):DT P t [.int k n]
 |str {t:TypeId} {s:List UInt8} (h:P.underlying t=some .string) (hs:s.length<=maxLen):DT P t [.str s]
 |sl {t e:TypeId} {rows:List (List DV)} (h:P.underlying t=some (.slice e)) (hm:rows.length<=maxLen) (hr:∀r∈rows,DT P e r):DT P t [.sl rows]
 |struct {t:TypeId} {fs:Array Field} {ds:List DV} (h:P.underlying t=some (.struct fs)) (hf:DTs P fs.toList ds):DT P t ds
inductive DTs (P:Program):List Field->List DV->Prop
 |nil:DTs P [] []
 |cons {f:Field} {fs:List Field} {a b:List DV} (h:DT P f.type a) (hs:DTs P fs b):DTs P (f::fs) (a++b)
end
def Nc (P:Program) (S:List TypeId):Nat->List Field->Nat->Bool
 |off,[],n=>off==n
 |off,f::fs,n=>f.offset==off&&S.contains f.type&&Nc P S (off+P.cellsOf f.type) fs n
def iI (P:Program) (S:List TypeId) (t:TypeId):Bool:=
 match P.underlying t with
 |some .bool|some (.int _)|some .string=>true
 |some (.slice e)=>S.contains e&&decide (0 < P.cellsOf e)
 |some (.struct fs)=>Nc P S 0 fs.toList (P.cellsOf t)
 |_=>false
theorem AA1 {α β:Type} {f:α->Option β}:∀ {l:List α} {r:List β},l.mapM f=some r->∀x∈l,∃y,f x=some y
 |[],_,_,x,hx=>by cases hx
 |a::l,r,h,x,hx=>by
  simp only [List.mapM_cons,AQ,AB] at h;obtain ⟨y,hy,ys,hys,_⟩:=h;cases hx with
  |head=>exact ⟨y,hy⟩
  |tail _ hx=>exact AA1 hys x hx
theorem jJ {α:Type} (p:Nat->α->Prop):∀n,(∀i,i < n->∃r,p i r)->∃rows:List α,rows.length=n/\∀i r,rows[i]?=some r->p i r
 |0,_=>⟨[],rfl,by simp⟩
 |n+1,h=>by
  obtain ⟨rows,hl,hr⟩:=jJ p n (fun i hi=>h i (by omega));obtain ⟨r,hp⟩:=h n (by omega);refine ⟨rows++[r],by simp [hl],fun i r' hi=>?_⟩;by_cases hlt:i < rows.length
  . rw [BQ hlt] at hi;exact hr i r' hi
  . rw [BL (by omega)] at hi
    have:i - rows.length=0:=by
     rcases LM (i - rows.length) with h|h
     . exact h
     . rw [B9 (by simp;omega)] at hi;cases hi
    rw [this] at hi;simp at hi;subst hi;have:i=n:=by omega
    subst this;exact hp
def imW (w:World):Nat->Nat->Option Value:=fun b o=>w.cell? ⟨b,o,none⟩
theorem Kl {w:World} {base:Nat} {a:Addr} {n:Nat} {cs:List Value} (h:w.cells? base a n=some cs):cs.length=n/\∀j,j < n->w.cell? (a.add j)=cs[j]?:=by
 unfold World.cells? at h;split at h
 . have:∀(l:List Nat) (cs:List Value),l.mapM (fun i=>w.cell? (a.add i))=some cs->cs.length=l.length/\∀(j i:Nat),l[j]?=some i->w.cell? (a.add i)=cs[j]?:=by
    intro l
    induction l with
    |nil=>intro cs h;simp at h;subst h;simp
    |cons x l ih=>
     intro cs h;simp only [List.mapM_cons,AQ,AB] at h;obtain ⟨y,hy,ys,hys,he⟩:=h;cases he;obtain ⟨h1,h2⟩:=ih ys hys;refine ⟨by simp [h1],fun j i hj=>?_⟩;cases j with
     |zero=>simp at hj;subst hj;simpa using hy
     |succ j=>simpa using h2 j i (by simpa using hj)
   obtain ⟨h1,h2⟩:=this _ _ h;exact ⟨by simpa using h1,fun j hj=>h2 j j (by simp [hj])⟩
 . cases h
section
variable {H:Type} {enc:TypeId×Value->H} {P:Program} {w:World} {base:Nat} {spare:Nat->Bool} {held:Bool}
theorem jV {S:List TypeId} {fuel:Nat} {cs:List Value}
 (ih:∀(t:TypeId) (cs:List Value) (x:DataW H×List MemPlace),t∈S->DataW.trod enc P w base spare held fuel t cs=some x->∃ds,DT P t ds/\RDs (imW w) ds cs):
 ∀(fs:List Field) (off:Nat) (n:Nat) (xs:List (DataW H×List MemPlace)),Nc P S off fs n=true->cs.length=n->off<=n->
  fs.mapM (fun f=>DataW.trod enc P w base spare held fuel f.type ((cs.drop f.offset).take (P.cellsOf f.type)))=some xs->∃ds,DTs P fs ds/\RDs (imW w) ds (cs.drop off)
 |[],off,n,xs,hk,hl,_,_=>by
  simp only [Nc,beq_iff_eq] at hk;refine ⟨[],.nil,?_⟩;rw [TB (by omega)];exact .nil
 |f::fs,off,n,xs,hk,hl,hle,h=>by
  simp only [Nc,AO,beq_iff_eq,Ak] at hk;obtain ⟨⟨h1,h2⟩,h3⟩:=hk;simp only [List.mapM_cons,AQ,AB] at h;obtain ⟨y,hy,ys,hys,_⟩:=h;obtain ⟨a,ha,har⟩:=ih _ _ _ h2 hy
  have hoff:∀(fs:List Field) (off n:Nat),Nc P S off fs n=true->off<=n:=by
   intro fs
   induction fs with
   |nil=>intro off n h;simp only [Nc,beq_iff_eq] at h;omega
   |cons f fs ih=>intro off n h;simp only [Nc,AO] at h;have:=ih _ _ h.2;omega
  obtain ⟨b,hb,hbr⟩:=jV ih fs (off+P.cellsOf f.type) n ys h3 hl (hoff _ _ _ h3) hys;refine ⟨a++b,.cons ha hb,?_⟩;have:=har.append hbr;rw [h1] at this;rw [<- FN,Ad] at this;exact this
theorem AG2 {S:List TypeId} (hS:S.all (iI P S)=true):∀(fuel:Nat) (t:TypeId) (cs:List Value) (x:DataW H×List MemPlace),t∈S->DataW.trod enc P w base spare held fuel t cs=some x->∃ds,DT P t ds/\RDs (imW w) ds cs
 |0,t,cs,x,_,h=>by simp [DataW.trod] at h
 |fuel+1,t,cs,x,ht,h=>by
  have ih:=AG2 hS fuel;have hp:iI P S t=true:=A8.1 hS t ht;unfold iI at hp;unfold DataW.trod at h;cases hu:P.underlying t with
  |none=>rw [hu] at hp;cases hp
  |some u=>
   rw [hu] at hp h;cases u<;>simp only [A3] at hp
   case bool=>
    split at h<;>(try (cases h;done))<;>rename_i h1<;>cases h1;exact ⟨[.bool _],.bool hu,.cons .bool .nil⟩
   case int k=>
    split at h<;>(try (cases h;done))<;>rename_i h1<;>cases h1;split at h
    . rename_i hk;obtain ⟨rfl,hk⟩:=hk;simp only [Lit.wf,AO,decide_eq_true_eq] at hk;exact ⟨[.int _ _],.int hu (by simpa [IntKind.has] using hk),.cons (.int (by simpa [IntKind.has] using hk)) .nil⟩
    . cases h
   case string=>
    split at h<;>(try (cases h;done))<;>rename_i h1<;>cases h1;split at h
    . rename_i s hk;have hk':s.data.toList.length<=maxLen:=by rw [Oy];exact hk
      refine ⟨[.str s.data.toList],.str hu hk',.cons ?_ .nil⟩;have:(⟨s.data.toList.toArray⟩:ByteArray)=s:=by cases s;simp
      have h2:=RD.str (im:=imW w) (s:=s.data.toList) hk'
      rwa [this] at h2
    . cases h
   case slice e=>
    simp only [AO,Ak,decide_eq_true_eq] at hp;obtain ⟨he,hpos⟩:=hp;split at h<;>(try (cases h;done))<;>rename_i h1<;>cases h1
    . exact ⟨[.sl []],.sl hu (by simp) (by simp),.cons (.nil (GW _) (fun _=>rfl)) .nil⟩
    . rename_i a len cap;simp only at h;split at h
      . rename_i hc;obtain ⟨_,hlc,hcm⟩:=hc;simp only [AB] at h;obtain ⟨elems,hel,_⟩:=h;have hall:=AA1 hel
        have:∀i,i < len->∃r,DT P e r/\∃cs,w.cells? base (a.add (i * P.cellsOf e)) (P.cellsOf e)=some cs/\RDs (imW w) r cs:=by
         intro i hi;obtain ⟨y,hy⟩:=hall i (by simp [hi]);simp only [AB] at hy;obtain ⟨cs,hcs,hy⟩:=hy;obtain ⟨r,h1,h2⟩:=ih _ _ _ he hy;exact ⟨r,h1,cs,hcs,h2⟩
        obtain ⟨rows,hl,hr⟩:=jJ _ len this;refine ⟨[.sl rows],.sl hu (by omega) (fun r hr'=>?_),.cons ?_ .nil⟩
        . obtain ⟨i,hi,rfl⟩:=Bt hr';exact (hr i _ (by simp [hi])).1
        . rcases LM len with h0|h0
          . subst h0;have:rows=[]:=BP hl;subst this;exact .nil hcm (fun h=>by cases h)
          . obtain ⟨b,off,spot⟩:=a
            have hspot:spot=none:=by
             obtain ⟨_,_,cs,hcs,_⟩:=this 0 h0;have h2:=(Kl hcs).2 0 hpos;have h3:0 < cs.length:=by rw [(Kl hcs).1];exact hpos
             rw [BB h3] at h2;simpa [Addr.add] using World.cell?_spot h2
            subst hspot;subst hl;refine .sl (size:=P.cellsOf e) (f:=fun i j=>((imW w) b (off+i * P.cellsOf e+j)).getD Cu) hlc hcm (fun r hr'=>?_) (fun i j hi hj=>?_) (fun i r j x hi hj=>?_)
            . obtain ⟨i,hi,rfl⟩:=Bt hr';obtain ⟨_,cs,hcs,hrd⟩:=hr i rows[i] (BB hi);exact hrd.length.symm.trans (Kl hcs).1
            . obtain ⟨r,hri⟩:∃r,rows[i]?=some r:=⟨rows[i],by simp [hi]⟩;obtain ⟨_,cs,hcs,hrd⟩:=hr i r hri;have h2:=(Kl hcs).2 j hj;have h3:j < cs.length:=by rw [(Kl hcs).1];exact hj
              rw [BB h3] at h2;have h4:imW w b (off+i * P.cellsOf e+j)=some cs[j]:=by rw [Addr.add_lit,Addr.add_lit] at h2;exact h2
              rw [h4];rfl
            . obtain ⟨_,cs,hcs,hrd⟩:=hr i r hi;have hj':j < r.length:=(AG.1 hj).1;have hjn:j < P.cellsOf e:=by have:=hrd.length;rw [(Kl hcs).1] at this;omega
              have h2:=(Kl hcs).2 j hjn;have h3:j < cs.length:=by rw [(Kl hcs).1];exact hjn
              rw [BB h3] at h2;have h4:imW w b (off+i * P.cellsOf e+j)=some cs[j]:=by rw [Addr.add_lit,Addr.add_lit] at h2;exact h2
              rw [h4];exact hrd.idx j x cs[j] hj (by simp [h3])
      . cases h
   case struct fs=>
    simp only at h;split at h
    . rename_i hc;simp only [AN] at h;obtain ⟨xs,hxs,_⟩:=h;obtain ⟨ds,h1,h2⟩:=jV ih fs.toList 0 _ xs hp hc (GW _) hxs;exact ⟨ds,.struct hu h1,by simpa using h2⟩
    . cases h
end
def AHQ (P:Program) (t:TypeId) (ds:List DV):AV:=
 match P.underlying t with
 |some (.struct _)=>.agg (ds.map AV.d)
 |_=>match ds with|[x]=>.d x|_=>.undef
theorem jH {P:Program} {t:TypeId} {fs:Array Field} (h:P.underlying t=some (.struct fs)) (ds:List DV):AHQ P t ds= .agg (ds.map AV.d):=by
 unfold AHQ;rw [h]
theorem ALH {P:Program} {t:TypeId} {u:TypeDesc} (h:P.underlying t=some u) (hn:∀fs,u≠.struct fs) (x:DV):AHQ P t [x]= .d x:=by
 unfold AHQ;rw [h];cases u<;>first|rfl|exact absurd rfl (hn _)
inductive jG (P:Program):List TypeId->List AV->Prop
 |nil:jG P [] []
 |cons {t:TypeId} {ts:List TypeId} {ds:List DV} {avs:List AV} (h:DT P t ds) (hs:jG P ts avs):jG P (t::ts) (AHQ P t ds::avs)
section
variable {H:Type} {enc:TypeId×Value->H} {P:Program} {w:World} {held:Bool}
theorem u5 {S:List TypeId} (hS:S.all (iI P S)=true) {g:Gh} (hg:g.im=imW w) {b:Nat} {spare:Nat->Bool} {base:Nat}:∀(ts:List TypeId) (vs:List Value) (ds:List (DataW H)) (ps:List MemPlace),
 (∀t∈ts,t∈S)->(∀(j:Nat) t v,ts[j]?=some t->vs[j]?=some v->Value.okWide P w .any base t v)->DataW.TrodAll enc P w b spare held ts vs ds ps->∃avs,jG P ts avs/\VRs g avs vs
 |[],[],[],_,_,_,_=>⟨[],.nil,.nil⟩
 |t::ts,v::vs,d::ds,ps,hin,hok,h=>by
  obtain ⟨p,q,⟨fuel,hd⟩,hrest,_⟩:=h;obtain ⟨avs,h1,h2⟩:=u5 hS hg ts vs ds q (fun t ht=>hin t (by simp [ht])) (fun j t v ht hv=>hok (j+1) t v (by simpa using ht) (by simpa using hv)) hrest;obtain ⟨dv,h3,h4⟩:=AG2 hS fuel t _ _ (hin t (by simp)) hd;refine ⟨AHQ P t dv::avs,.cons h3 h1,.cons ?_ h2⟩;have ho:=hok 0 t v rfl rfl;rw [<- hg] at h4;cases hu:P.underlying t with
  |none=>cases h3<;>simp_all
  |some u=>
   by_cases hs:∃fs,u= .struct fs
   . obtain ⟨fs,rfl⟩:=hs;rw [jH hu];unfold Value.okWide at ho;rw [hu] at ho;simp only at ho;obtain ⟨cs,rfl,_,_⟩:=ho;have h5:=h4.vrs;simp only [Value.cells] at h5;have:=VR.agg (g:=g) (cs:=dv.map AV.d) (vs:=cs.toList) (by simpa using h5.length) (by simp [AV.B8]) (fun i c v hc hv=>h5.idx i c v hc hv);simpa using this
   . have hns:∀fs,u≠.struct fs:=fun fs e=>hs ⟨fs,e⟩
     have hone:∃x,dv=[x]:=by
      cases h3 with
      |struct h _=>rw [hu] at h;cases h;exact absurd rfl (hns _)
      |_=>exact ⟨_,rfl⟩
     obtain ⟨x,rfl⟩:=hone;rw [ALH hu hns];generalize hcv:v.cells.toList=cv at h4;cases h4 with
     |cons hx hn=>
      cases hn;rename_i v'
      have:v=v':=by
       unfold Value.okWide at ho;rw [hu] at ho;cases v<;>try (simpa [Value.cells] using hcv)
       exfalso;cases h3 with
       |bool h=>rw [hu] at h;cases h;simp [Cell.okWide,hu,Cell.ok] at ho
       |int h=>rw [hu] at h;cases h;simp [Cell.okWide,hu,Cell.ok] at ho
       |str h=>rw [hu] at h;cases h;simp [Cell.okWide,hu,Cell.ok] at ho
       |sl h=>rw [hu] at h;cases h;simp [Cell.okWide,hu,Cell.ok] at ho
       |struct h=>rw [hu] at h;cases h;exact absurd rfl (hns _)
      subst this;exact .d hx
 |[],_::_,_,_,_,_,h=>by cases h
 |[],[],_::_,_,_,_,h=>by cases h
 |_::_,[],_,_,_,_,h=>by cases h
 |_::_,_::_,[],_,_,_,h=>by cases h
def AFS (w:World):Gh:=⟨imW w,fun _=>none,fun _=>none,fun _=>none⟩
def cE (gt:Nat->Option (Array Value)):AI:=⟨fun _=>none,fun _=>false,gt,fun _=>none⟩
def AFT:AI:=cE fun _=>none
theorem AKO (w:World) {gt:Nat->Option (Array Value)} (hgt:∀b vs,gt b=some vs->∃ty fr,w.heap[b]?=some (.cells vs ty fr)):Rel w.heap.size (AFS w) (fun _=>False) (cE gt) w w:=
 ⟨fun _ _ _ h=>h,fun _ _ h=>by simp [cE] at h,fun _ _ _ h=>by simp [cE] at h,fun _ h=>by simp [cE] at h,fun _ h=>h.elim,Below.refl _ _,AW _,⟨0,fun _ _=>⟨rfl,rfl,rfl⟩⟩,⟨fun b vs h=>by
   obtain ⟨ty,fr,hb⟩:=hgt b vs h;exact ⟨(N0.1 hb).1,ty,fr,hb⟩,fun _ _ h=>by simp [cE] at h⟩⟩
theorem Zz (hl:laidOutB P=true) {W W':World} (hb:Below W.heap.size W W'):∀(ts:List TypeId) (vs:List Value) (ds:List (DataW H)) (ps:List MemPlace),(∀t∈ts,P.readableRec t=true/\t < P.types.size)->
 (∀x∈ps,x.block < W.heap.size)->DataW.TrodAll enc P W 0 (fun _=>true) true ts vs ds ps->DataW.TrodAll enc P W' 0 (fun b=>decide (b < W.heap.size)) true ts vs ds ps
 |[],[],[],_,_,_,h=>h
 |t::ts,v::vs,d::ds,ps,hr,hlt,h=>by
  obtain ⟨p,q,h1,h2,rfl⟩:=h;exact ⟨p,q,Below.trod hl (hr t (by simp)).1 (hr t (by simp)).2 h1 hb (fun x hx=>hlt x (by simp [hx])),Zz hl hb ts vs ds q (fun t ht=>hr t (by simp [ht])) (fun x hx=>hlt x (by simp [hx])) h2,rfl⟩
 |[],_::_,_,_,_,_,h=>by cases h
 |[],[],_::_,_,_,_,h=>by cases h
 |_::_,[],_,_,_,_,h=>by cases h
 |_::_,_::_,[],_,_,_,h=>by cases h
theorem sQ {fn:Func} {s:ChangeSpec} {f:FuncId} {gt:Nat->Option (Array Value)} (S:List TypeId) (hl:laidOutB P=true) (hS:S.all (iI P S)=true) (hin:∀t∈fn.params.toList,t∈S)
 (hread:∀t∈fn.params.toList,P.readableRec t=true/\t < P.types.size) {tb:TypeId} (hres:fn.resultTypes=#[tb]) (htb:P.underlying tb=some .bool) (hvars:s.vars=[])
 (hs:∀ds:List (DataW H),ds.length=fn.params.size->s.fn H ds= { results:=[.lit (.bool true)],args:=ds})
 (main:∀avs:List AV,jG P fn.params.toList avs->AT P f avs (cE gt) (fun v _=>v= .d (.bool true)))
 (W:World) (hgt:∀b vs,gt b=some vs->∃ty fr,W.heap[b]?=some (.cells vs ty fr)) (base:Nat) (args:Array Value) (ds gs:List (DataW H)) (before:List MemPlace)
 (hval:∀(j:Nat) t v,fn.params[j]?=some t->args[j]?=some v->Value.okWide P W .any base t v)
 (hW:DataW.Whole enc P fn.params.toList s.vars false W args.toList ds gs before):
 Calls P f args W fun e W'=>∃v,e= .returned v/\s.post enc P fn false true false false W args v W':=by
 have hW':=hW;obtain ⟨p,q,hA,hV,rfl,hfz,hnd⟩:=hW;rw [hvars] at hV;obtain ⟨rfl,rfl⟩:=trodVars_none hV;obtain ⟨avs,h1,h2⟩:=u5 hS (g:=AFS W) rfl fn.params.toList args.toList ds p hin (fun j t v ht hv=>hval j t v (by simpa using ht) (by simpa using hv)) hA;have hc:=main avs h1 W.heap.size (AFS W) (fun _=>False) W W args.toList (AKO W hgt) h2;simp only [Array.toArray_toList] at hc;refine hc.mono fun e W' ⟨v,av,g',σ',he,hv,hrel,_,_,hav⟩=>?_;subst hav;have hvt:v= .bool true:=by cases hv with|d h=>cases h;rfl
 subst hvt
 have hlen:ds.length=fn.params.size:=by
  have:∀(ts:List TypeId) (vs:List Value) (ds:List (DataW H)) (ps:List MemPlace),DataW.TrodAll enc P W 0 (fun _=>true) true ts vs ds ps->ds.length=ts.length:=by
   intro ts
   induction ts with
   |nil=>intro vs ds ps h;cases vs<;>cases ds<;>first|rfl|(cases h;done)
   |cons t ts ih=>
    intro vs ds ps h;cases vs<;>cases ds<;>try (cases h;done)
    obtain ⟨_,_,_,h2,_⟩:=h;simpa using ih _ _ _ h2
  simpa using this _ _ _ _ hA
 have hlt:∀x∈p,x.block < W.heap.size:=fun x hx=>by simpa using hW'.lt x (by simp [hx])
 have hfn:=hs (ds++[]) (by simpa using hlen);refine ⟨_,he,ds,[],p++[],[],p,[],hW',?_,?_,?_,hrel.bel.frame _,fun h=>by cases h⟩
 . rw [hfn,hres];exact trodAll_mk1 ⟨1,by simp [DataW.trod,htb,Value.cells]⟩
 . rw [hfn];simpa using Zz hl hrel.bel fn.params.toList args.toList ds p hread hlt hA
 . rw [hfn,hvars];rfl
theorem xE {fn:Func} {s:ChangeSpec} {f:FuncId} (S:List TypeId) (hl:laidOutB P=true) (hS:S.all (iI P S)=true) (hin:∀t∈fn.params.toList,t∈S)
 (hread:∀t∈fn.params.toList,P.readableRec t=true/\t < P.types.size) {tb:TypeId} (hres:fn.resultTypes=#[tb]) (htb:P.underlying tb=some .bool) (hvars:s.vars=[])
 (hs:∀ds:List (DataW H),ds.length=fn.params.size->s.fn H ds= { results:=[.lit (.bool true)],args:=ds})
 (main:∀avs:List AV,jG P fn.params.toList avs->AT P f avs AFT (fun v _=>v= .d (.bool true)))
 (W:World) (base:Nat) (args:Array Value) (ds gs:List (DataW H)) (before:List MemPlace)
 (hval:∀(j:Nat) t v,fn.params[j]?=some t->args[j]?=some v->Value.okWide P W .any base t v)
 (hW:DataW.Whole enc P fn.params.toList s.vars false W args.toList ds gs before):
 Calls P f args W fun e W'=>∃v,e= .returned v/\s.post enc P fn false true false false W args v W':=
 sQ S hl hS hin hread hres htb hvars hs main W (fun _ _ h=>by cases h) base args ds gs before hval hW
end
end Go.Ab
namespace Go.Ab
variable {P:Program} {t e:TypeId} {ds:List DV}
theorem DT.wY {k:IntKind} (h:DT P t ds) (hu:P.underlying t=some (.int k)):∃n,ds=[.int k n]/\k.has n:=by
 cases h with
 |int h hn=>rw [hu] at h;cases h;exact ⟨_,rfl,hn⟩
 |bool h=>rw [hu] at h;cases h
 |str h=>rw [hu] at h;cases h
 |sl h=>rw [hu] at h;cases h
 |struct h=>rw [hu] at h;cases h
theorem DT.Uv (h:DT P t ds) (hu:P.underlying t=some .string):∃s,ds=[.str s]/\s.length<=maxLen:=by
 cases h with
 |str h hs=>exact ⟨_,rfl,hs⟩
 |int h=>rw [hu] at h;cases h
 |bool h=>rw [hu] at h;cases h
 |sl h=>rw [hu] at h;cases h
 |struct h=>rw [hu] at h;cases h
theorem DT.Xg (h:DT P t ds) (hu:P.underlying t=some (.slice e)):∃rows,ds=[.sl rows]/\rows.length<=maxLen/\∀r∈rows,DT P e r:=by
 cases h with
 |sl h hm hr=>rw [hu] at h;cases h;exact ⟨_,rfl,hm,hr⟩
 |int h=>rw [hu] at h;cases h
 |bool h=>rw [hu] at h;cases h
 |str h=>rw [hu] at h;cases h
 |struct h=>rw [hu] at h;cases h
theorem DT.Ke {fs:Array Field} (h:DT P t ds) (hu:P.underlying t=some (.struct fs)):DTs P fs.toList ds:=by
 cases h with
 |struct h hf=>rw [hu] at h;cases h;exact hf
 |int h=>rw [hu] at h;cases h
 |bool h=>rw [hu] at h;cases h
 |str h=>rw [hu] at h;cases h
 |sl h=>rw [hu] at h;cases h
theorem DTs.DK {f:Field} {fs:List Field} (h:DTs P (f::fs) ds):∃a b,ds=a++b/\DT P f.type a/\DTs P fs b:=by
 cases h with
 |cons h hs=>exact ⟨_,_,rfl,h,hs⟩
theorem DTs.Uu (h:DTs P [] ds):ds=[]:=by cases h;rfl
theorem Lw {α:Type} {f:α->List DV}:∀(rows:List (List DV)),(∀r∈rows,∃x,r=f x)->∃l:List α,rows=l.map f
 |[],_=>⟨[],rfl⟩
 |r::rows,h=>by
  obtain ⟨x,hx⟩:=h r (by simp);obtain ⟨l,hl⟩:=Lw rows (fun r hr=>h r (by simp [hr]));exact ⟨x::l,by rw [hx,hl];rfl⟩
end Go.Ab
namespace Go.Ab
open Go.RowKit
variable {P:Program} {base N:Nat} {g g':Gh} {Pr:Nat->Prop} {σ σ':AI} {w0 w w':World} {lam:Nat->Option Nat} {F F':Fm} {L L':Lm} {a:Act}
theorem VR.data {c:AV} {v:Value} {x:DV} (h:VR g c v) (hd:c.dv=some x):RD g.im x v:=by
 cases h<;>simp only [AV.dv,AL] at hd<;>try (cases hd;done)
 . subst hd;assumption
 . subst hd;exact .nil (GW _) (fun _=>rfl)
 . subst hd;assumption
 . subst hd;assumption
 . subst hd;exact .G4
mutual
def frz (i n:Nat) (rows:List (List DV)):AV->AV
 | .ms j m s e=>if j=i/\m=n then .d (.sl rows) else .ms j m s e
 | .agg cs=>.agg (T7 i n rows cs)
 | .tup cs=>.tup (T7 i n rows cs)
 |v=>v
def T7 (i n:Nat) (rows:List (List DV)):List AV->List AV
 |[]=>[]
 |v::l=>frz i n rows v::T7 i n rows l
end
theorem XP (i n:Nat) (rows:List (List DV)):∀l:List AV,(T7 i n rows l).length=l.length
 |[]=>rfl
 |v::l=>by simp [T7,XP i n rows l]
theorem dN (i n:Nat) (rows:List (List DV)):∀(l:List AV) (k:Nat),(T7 i n rows l)[k]?=(l[k]?).map (frz i n rows)
 |[],k=>by simp [T7]
 |v::l,0=>by simp [T7]
 |v::l,k+1=>by simp [T7,dN i n rows l k]
theorem AAF {i n:Nat} {rows:List (List DV)} {v:AV} (h:v.B8=true):(frz i n rows v).B8=true:=by
 cases v<;>first|exact h|(simp only [frz];split<;>rfl)|(simp [AV.B8] at h)
theorem wO {i n:Nat} {rows:List (List DV)}:∀ {l:List AV},Aw l=true->Aw (T7 i n rows l)=true
 |[],_=>rfl
 |v::l,h=>by
  simp only [Aw,Bk,AO] at h;simp only [T7,Aw,Bk,AO];exact ⟨AAF h.1,wO (l:=l) h.2⟩
theorem VR.frz {i n b:Nat} {rows:List (List DV)} (hg:g.le g') (hm:g.mu i=some b) (hrow:∀cap,n<=cap->cap<=maxLen->RD g'.im (.sl rows) (.slice (some ⟨b,0,none⟩) n cap)) {x:AV} {v:Value} (h:VR g x v):VR g' (frz i n rows x) v:=by
 induction h with
 |d h=>simpa [Ab.frz] using VR.d (h.mono hg.im)
 |Ae=>simpa [Ab.frz] using VR.Ae
 |own h ht hs=>simpa [Ab.frz] using VR.own (h.mono hg.im) (hg.tau _ _ ht) hs
 |clip h=>simpa [Ab.frz] using VR.clip (h.mono hg.im)
 |mv h hr hn hm ho=>simpa [Ab.frz] using VR.mv (hg.mu _ _ h) (hg.rm _ _ hr) hn hm ho
 |bp ht him=>simpa [Ab.frz] using VR.bp (hg.tau _ _ ht) (fun j x hx=>hg.im _ _ _ (him j x hx))
 |@agg cs vs hl hc _ ih=>
  refine .agg (by rw [XP];exact hl) (fun c hcm=>?_) (fun k c v hci hvi=>?_)
  . obtain ⟨k,hk,rfl⟩:=Bt hcm;have:=dN i n rows cs k;rw [BB hk] at this;cases hcs:cs[k]? with
    |none=>rw [hcs] at this;cases this
    |some c'=>rw [hcs] at this;simp only [Ah,AL] at this;rw [this];exact AAF (hc c' (AE hcs))
  . rw [dN] at hci;cases hcs:cs[k]? with
    |none=>rw [hcs] at hci;cases hci
    |some c'=>rw [hcs] at hci;simp only [Ah,AL] at hci;rw [<- hci];exact ih k c' v hcs hvi
 |gp h=>simpa [Ab.frz] using VR.gp (hg.mu _ _ h)
 |ep hi hr=>simpa [Ab.frz] using VR.ep (fun j hj=>hg.im _ _ _ (hi j hj)) (fun j x hx=>(hr j x hx).mono hg.im)
 |G4=>simpa [Ab.frz] using VR.G4
 |H0=>simpa [Ab.frz] using VR.H0
 |om h=>simpa [Ab.frz] using VR.om (hg.tau _ _ h)
 |@ms j m s e b' cap h hr hn hmx=>
  simp only [Ab.frz];split
  . rename_i e;obtain ⟨rfl,rfl⟩:=e;rw [hm] at h;cases h;exact .d (hrow cap hn hmx)
  . exact .ms (hg.mu _ _ h) (hg.rm _ _ hr) hn hmx
 |fn hl hl' h h' _ _=>simpa [Ab.frz] using VR.mono hg (VR.fn hl hl' h h')
 |@tup cs vs hl _ ih=>
  refine .tup (by rw [XP];exact hl) (fun k c v hci hvi=>?_);rw [dN] at hci;cases hcs:cs[k]? with
  |none=>rw [hcs] at hci;cases hci
  |some c'=>rw [hcs] at hci;simp only [Ah,AL] at hci;rw [<- hci];exact ih k c' v hcs hvi
 |undef=>simpa [Ab.frz] using VR.undef
theorem VRs.T7 {i n b:Nat} {rows:List (List DV)} (hg:g.le g') (hm:g.mu i=some b) (hrow:∀cap,n<=cap->cap<=maxLen->RD g'.im (.sl rows) (.slice (some ⟨b,0,none⟩) n cap)) {xs:List AV} {vs:List Value} (h:VRs g xs vs):VRs g' (T7 i n rows xs) vs:=by
 induction h with
 |nil=>exact .nil
 |cons h _ ih=>exact .cons (h.frz hg hm hrow) ih
theorem AGH:∀ {cs:List AV} {ds:List DV},dvs cs=some ds->ds.length=cs.length/\∀(k:Nat) (c:AV) (x:DV),cs[k]?=some c->ds[k]?=some x->c.dv=some x
 |[],ds,h=>by simp only [dvs,AL] at h;subst h;simp
 |c::cs,ds,h=>by
  simp only [dvs,AQ,AB] at h;obtain ⟨x,hx,ys,hys,he⟩:=h;cases he;obtain ⟨h1,h2⟩:=AGH hys;refine ⟨by simp [h1],fun k c' x' hc hx'=>?_⟩;cases k with
  |zero=>simp at hc hx';subst hc;subst hx';exact hx
  |succ k=>exact h2 k c' x' (by simpa using hc) (by simpa using hx')
theorem Mk (size:Nat):∀(n:Nat) (l:List DV),(chunk size n l).length=n
 |0,_=>rfl
 |n+1,l=>by simp [chunk,Mk size n]
theorem gH (size:Nat):∀(n:Nat) (l:List DV) (i:Nat) (r:List DV),(chunk size n l)[i]?=some r->r=(l.drop (i * size)).take size
 |0,_,i,r,h=>by simp [chunk] at h
 |n+1,l,0,r,h=>by simp [chunk] at h;simp [h]
 |n+1,l,i+1,r,h=>by
  have:=gH size n (l.drop size) i r (by simpa [chunk] using h);rw [this,FN];congr 2;rw [CK];omega
theorem Rel.freeze (h:Rel base g Pr σ w0 w) {i n size:Nat} {cs:List AV} {ds:List DV} (hi:σ.blk i=some cs) (hd:dvs cs=some ds) (hl:cs.length=n * size) (hn:n<=maxLen) (hσ:∀j cs',σ'.blk j=some cs'->j≠i/\∃cs0,σ.blk j=some cs0/\(cs'=cs0\/cs'=T7 i n (chunk size n ds) cs0))
 (ht:∀t,σ'.tok t=true->σ.tok t=true) (hgt:σ'.gt=σ.gt) (hbt:σ'.bt=σ.bt):
 ∃g' b,g.le g'/\g.mu i=some b/\(∀cap,n<=cap->cap<=maxLen->RD g'.im (.sl (chunk size n ds)) (.slice (some ⟨b,0,none⟩) n cap))/\Rel base g' Pr σ' w0 w:=by
 obtain ⟨b,hb,ho⟩:=h.shr i cs hi;obtain ⟨vs0,ty,hv,hl0,hrt0,hr0⟩:=ho.row;obtain ⟨vs,hvs⟩:∃vs:Array Value,vs=(vs0.toList.take cs.length).toArray:=⟨_,rfl⟩;have hr:VRs g cs vs.toList:=by rw [hvs];simpa using hr0
 have hvl:vs.size=cs.length:=by simpa using hr.length
 let g2:Gh:= { g with im:=fun b' o=>if b'=b then vs[o]? else g.im b' o}
 have hle:g.le g2:=⟨fun b' o v hv'=>by
  have:b'≠b:=fun e=>by subst e;rw [ho.im o] at hv';cases hv'
  show (if b'=b then vs[o]? else g.im b' o)=some v;rw [if_neg this];exact hv',fun _ _ h=>h,fun _ _ h=>h,fun _ _ h=>h⟩
 have hcell:∀o v,vs[o]?=some v->w.cell? ⟨b,o,none⟩=some v:=fun o v hov=>by
  have hov0:vs0[o]?=some v:=by
   rw [hvs] at hov;simp only [List.getElem?_toArray,B2] at hov;split at hov
   . simpa using hov
   . cases hov
  unfold World.cell?;simp [hv,hov0]
 obtain ⟨hdl,hdg⟩:=AGH hd
 have hrow:∀cap,n<=cap->cap<=maxLen->RD g2.im (.sl (chunk size n ds)) (.slice (some ⟨b,0,none⟩) n cap):=by
  intro cap hcap hcm;rcases LM n with h0|h0
  . subst h0;exact .nil hcm (fun h=>by cases h)
  . have:=RD.sl (im:=g2.im) (rows:=chunk size n ds) (b:=b) (off:=0) (cap:=cap) (size:=size) (f:=fun i j=>(vs[i * size+j]?).getD Cu) (by rw [Mk];exact hcap) hcm
     (fun r hr'=>?_) (fun k j hk hj=>?_) (fun k r j x hk hj=>?_)
    . rw [Mk] at this;exact this
    . obtain ⟨k,hk,rfl⟩:=Bt hr';rw [Mk] at hk;have:=gH size n ds k _ (by rw [BB (by rw [Mk];exact hk)]);rw [this,B4,Cm];have h1:(k+1) * size<=n * size:=Bw _ hk;rw [CK] at h1;omega
    . rw [Mk] at hk;have h1:(k+1) * size<=n * size:=Bw _ hk;rw [CK] at h1;have hlt:k * size+j < vs.size:=by omega
      show (if b=b then vs[0+k * size+j]? else _)=_;rw [if_pos rfl,BJ,O9 hlt];rfl
    . have hkn:k < n:=by have:=(AG.1 hk).1;rw [Mk] at this;exact this
      have:=gH size n ds k r hk;subst this;rw [B2] at hj;split at hj
      . rename_i hjs;rw [BT] at hj;have hlt:k * size+j < cs.length:=by rw [<- hdl];exact (AG.1 hj).1
        have hc:=hdg (k * size+j) cs[k * size+j] x (by simp [hlt]) hj;have hvv:vs.toList[k * size+j]?=some (vs[k * size+j]'(by omega)):=by simp
        have hvr:=hr.idx (k * size+j) cs[k * size+j] _ (BB hlt) hvv;have:=(hvr.data hc).mono hle.im;rw [O9 (by omega)];exact this
      . cases hj
 refine ⟨g2,b,hle,hb,hrow,?_⟩
 have hn':∀j,σ'.blk j≠none->σ.blk j≠none/\j≠i:=fun j hj=>by
  cases hc:σ'.blk j with
  |none=>exact absurd hc hj
  |some c=>obtain ⟨h1,c0,h2,_⟩:=hσ j c hc;exact ⟨by rw [h2];simp,h1⟩
 have hbi:σ.blk i≠none:=by rw [hi];simp
 refine ⟨fun b' o v hv'=>?_,fun j cs' hj=>?_,fun j k b' hj hk=>h.inj j k b' (hn' j hj).1 (hn' k hk).1,fun t htk=>?_,fun b' hp=>?_,h.bel,h.bs,h.fin,h.st.mono hle hgt hbt⟩
 . by_cases e:b'=b
   . have hv2:(if b'=b then vs[o]? else g.im b' o)=some v:=hv';rw [if_pos e] at hv2;rw [e];exact hcell o v hv2
   . have hv2:(if b'=b then vs[o]? else g.im b' o)=some v:=hv';rw [if_neg e] at hv2;exact h.im b' o v hv2
 . obtain ⟨hji,cs0,h0,hcs⟩:=hσ j cs' hj;obtain ⟨b',hb',ho'⟩:=h.shr j cs0 h0;obtain ⟨vs',ty',hv',hl',ht',hr'⟩:=ho'.row;have hne:b'≠b:=fun e=>hji (h.inj j i b (by rw [h0];simp) hbi (e ▸ hb') hb);refine ⟨b',hb',?_,⟨vs',ty',hv',?_,ht',?_⟩,ho'.low,fun o=>?_,ho'.pr⟩
   . rcases hcs with rfl|rfl
     . exact ho'.ok
     . exact wO ho'.ok
   . rcases hcs with rfl|rfl
     . exact hl'
     . rw [XP];exact hl'
   . rcases hcs with rfl|rfl
     . exact hr'.mono hle
     . rw [XP];exact hr'.T7 hle hb hrow
   . show (if b'=b then vs[o]? else g.im b' o)=none;rw [if_neg hne];exact ho'.im o
 . obtain ⟨v,e,size',n',xs,hmt,hown,hrest⟩:=(h.tok t (ht t htk)).row;refine ⟨v,e,size',n',xs,hmt,hown,fun b' hvb=>?_⟩;obtain ⟨h1,h2,h3,h4⟩:=hrest b' hvb;have hne:b'≠b:=fun e=>h3 i hbi (e ▸ hb);refine ⟨fun o ho'=>?_,h2,fun j hj=>h3 j (hn' j hj).1,fun t' v' e' s' hne' ht'=>h4 t' v' e' s' hne' (ht t' ht')⟩;show (if b'=b then vs[o]? else g.im b' o)=none;rw [if_neg hne];exact h1 o ho'
 . have hne:b'≠b:=fun e=>ho.pr (e ▸ hp);refine ⟨(h.pr b' hp).1,fun o=>?_⟩;show (if b'=b then vs[o]? else g.im b' o)=none;rw [if_neg hne];exact (h.pr b' hp).2 o
variable {cx:Cx} {K:AV->AI->Prop} {k:List CI}
theorem Run.freeze {i n size:Nat} {cs:List AV} {ds:List DV} (hi:σ.blk i=some cs) (hd:dvs cs=some ds) (hl:cs.length=n * size) (hn:n<=maxLen)
 (hF:∀s,F' s=F s\/F' s=frz i n (chunk size n ds) (F s)) (hL:∀k cs',L' k=some cs'->∃cs0,L k=some cs0/\(cs'=cs0\/cs'=T7 i n (chunk size n ds) cs0))
 (hσ:∀j cs',σ'.blk j=some cs'->j≠i/\∃cs0,σ.blk j=some cs0/\(cs'=cs0\/cs'=T7 i n (chunk size n ds) cs0)) (ht:∀t,σ'.tok t=true->σ.tok t=true)
 (h:Run cx K k F' L' σ') (hgt:σ'.gt=σ.gt:=by rfl) (hbt:σ'.bt=σ.bt:=by rfl):Run cx K k F L σ:=by
 intro items base g lam Pr a w0 w b cs0 hi0 hf hb hk;obtain ⟨g',bb,hle,hmu,hrow,hrel⟩:=hf.rel.freeze hi hd hl hn hσ ht hgt hbt
 have hf':Bv base g' lam Pr cx.N F' L' σ' a w0 w:=by
  refine ⟨fun s=>?_,hf.sz,hf.df,fun k' cs' hk'=>?_,hf.inj,hf.npr,hrel⟩
  . have hs:=hf.tm s
    have hsm:SV g' lam (F s) (a.tmps.getD s Cu):=by
     generalize F s=fs at hs;cases fs<;>first|exact VR.mono hle hs|exact hs
    rcases hF s with e|e
    . rw [e];exact hsm
    . rw [e];generalize F s=fs at hs hsm;cases fs<;>first|exact hsm|exact SV.Fk (VR.frz hle hmu hrow hs)
  . obtain ⟨c0,h0,hc⟩:=hL k' cs' hk';obtain ⟨hok,b',vs,ty,h1,h2,h3,h4⟩:=hf.loc k' c0 h0;refine ⟨?_,b',vs,ty,h1,h2,h3,?_⟩
    . rcases hc with rfl|rfl
      . exact hok
      . exact wO hok
    . rcases hc with rfl|rfl
      . exact h4.mono hle
      . exact h4.T7 hle hmu hrow
 obtain ⟨v,w',fr,hs,hfn,hlv,av,g2,σ2,h1,h2,h3,h4,h5⟩:=h items base g' lam Pr a w0 w b cs0 hi0 hf' hb hk;exact ⟨v,w',fr,hs,hfn,hlv,av,g2,σ2,h1,h2,Gh.le_trans hle h3,h4,h5⟩
theorem vX {K K':C6} (hk:∀F L σ,K F L σ->K' F L σ):∀(t:QT) (b:Bool) (F:Fm) (L:Lm) (σ:AI),XT P K b t F L σ->XT P K' b t F L σ
 | .done,false,F,L,σ,h=>hk _ _ _ h
 | .done,true,F,L,σ,h=>trivial
 | .one q t,b,F,L,σ,h=>by
  have h:XQ P q (XT P K false t) F L σ:=by cases b<;>exact h
  have:XQ P q (XT P K' false t) F L σ:=UZ (fun F L σ h=>vX hk t false F L σ h) h;cases b<;>exact this
 | .alt q t r,b,F,L,σ,h=>by
  have h:XQ P q (XT P K false t) F L σ/\XT P K true r F L σ:=by cases b<;>exact h
  have:XQ P q (XT P K' false t) F L σ/\XT P K' true r F L σ:=⟨UZ (fun F L σ h=>vX hk t false F L σ h) h.1,vX hk r true F L σ h.2⟩;cases b<;>exact this
theorem Run.eT {t:QT} {live:List Nat} (hm:cx.P.follows .mixedOrders=true) (R:C6) (h1:XT cx.P R false t F L σ) (h2:∀F L σ,R F L σ->Run cx K k (JK live F) (Hs live L) σ):Run cx K (.code (.Jf t live)::k) F L σ:=
 Run.Jf hm (vX (fun F L σ h=>h2 F L σ h) t false F L σ h1)
theorem Run.AXP {ops:List Q} {live:List Nat} (hm:cx.P.follows .mixedOrders=true) (R:C6) (h1:Bc cx.P R ops F L σ) (h2:∀F L σ,R F L σ->Run cx K k (JK live F) (Hs live L) σ):Run cx K (.code (.reg ops live)::k) F L σ:=
 Run.reg hm (cO ops (fun F L σ h=>h2 F L σ h) h1)
theorem Rel.AHI (h:Rel base g Pr σ w0 w) (hσ:∀j cs',σ'.blk j=some cs'->∃cs,σ.blk j=some cs/\Aw cs'=true/\cs'.length=cs.length/\∀vs,VRs g cs vs->VRs g cs' vs) (ht:∀t,σ'.tok t=true->σ.tok t=true) (hgt:σ'.gt=σ.gt) (hbt:σ'.bt=σ.bt):Rel base g Pr σ' w0 w:=by
 have hn:∀j,σ'.blk j≠none->σ.blk j≠none:=fun j hj=>by
  cases hc:σ'.blk j with
  |none=>exact absurd hc hj
  |some c=>obtain ⟨c0,h2,_⟩:=hσ j c hc;rw [h2];simp
 refine ⟨h.im,fun j cs' hj=>?_,fun j k b hj hk=>h.inj j k b (hn j hj) (hn k hk),fun t htk=>?_,h.pr,h.bel,h.bs,h.fin,⟨fun b vs hv=>h.st.1 b vs (by rw [<- hgt];exact hv),fun i x hx=>h.st.2 i x (by rw [<- hbt];exact hx)⟩⟩
 . obtain ⟨cs,hc,hok,hln,hv⟩:=hσ j cs' hj;obtain ⟨b,hb,ho⟩:=h.shr j cs hc;obtain ⟨vs,ty,h1,h2,h3,h4⟩:=ho.row;exact ⟨b,hb,hok,⟨vs,ty,h1,by rw [hln];exact h2,h3,by rw [hln];exact hv _ h4⟩,ho.low,ho.im,ho.pr⟩
 . obtain ⟨v,e,size,n,xs,hm,hown,hrest⟩:=(h.tok t (ht t htk)).row;refine ⟨v,e,size,n,xs,hm,hown,fun b hvb=>?_⟩;obtain ⟨h1,h2,h3,h4⟩:=hrest b hvb;exact ⟨h1,h2,fun j hj=>h3 j (hn j hj),fun t' v' e' s' hne ht'=>h4 t' v' e' s' hne (ht t' ht')⟩
theorem Run.AHI (hσ:∀j cs',σ'.blk j=some cs'->∃cs,σ.blk j=some cs/\(cs'=cs\/cs'=AV.CL cs)) (ht:∀t,σ'.tok t=true->σ.tok t=true) (h:Run cx K k F L σ') (hgt:σ'.gt=σ.gt:=by rfl) (hbt:σ'.bt=σ.bt:=by rfl):Run cx K k F L σ:=by
 intro items base g lam Pr a w0 w b cs0 hi0 hf hb hk;refine h items base g lam Pr a w0 w b cs0 hi0 ⟨hf.tm,hf.sz,hf.df,hf.loc,hf.inj,hf.npr,hf.rel.AHI (fun j cs' hj=>?_) ht hgt hbt⟩ hb hk;obtain ⟨cs,hc,hp⟩:=hσ j cs' hj;obtain ⟨_,_,ho⟩:=hf.rel.shr j cs hc;refine ⟨cs,hc,?_,(by rcases hp with rfl|rfl<;>simp [VH]),fun vs hv=>?_⟩
 . rcases hp with rfl|rfl
   . exact ho.ok
   . have:=ho.ok;simp only [Aw,A8] at this ⊢;intro v hv;obtain ⟨i,hi,rfl⟩:=Bt hv;have h1:=NF cs i;rw [BB hi] at h1;cases hcs:cs[i]? with
     |none=>rw [hcs] at h1;cases h1
     |some c'=>rw [hcs] at h1;simp only [Ah,AL] at h1;rw [h1];exact bT (this c' (AE hcs))
 . rcases hp with rfl|rfl
   . exact hv
   . exact hv.plain
theorem Run.Au {α:Type} {c:C} (fr:α->Fm) (lo:α->Lm) (hp:α->AI) (inv:α->Prop) (m:α->Nat)
 (step:∀x,inv x->(∀y,inv y->m y < m x->Run cx K (.again c::k) (fr y) (lo y) (hp y))->Run cx K (.code c::.again c::k) (fr x) (lo x) (hp x)) (x:α) (hx:inv x):
 Run cx K (.again c::k) (fr x) (lo x) (hp x):=by
 have:∀(n:Nat) (x:α),m x<=n->inv x->Run cx K (.again c::k) (fr x) (lo x) (hp x):=by
  intro n
  induction n with
  |zero=>intro x hn hx;exact Run.again (step x hx (fun y _ hy=>by omega))
  |succ n ih=>intro x hn hx;exact Run.again (step x hx (fun y hy hlt=>ih y (by omega) hy))
 exact this _ x (AW _) hx
end Go.Ab
namespace Go.Ab
attribute [go_sem] ASL ARS AWO AWN AOB AUL AUM AOA AUN ARQ AKD ARR ARP AWX ASD exP AL9 xJ AQ3 AQX ALR ALL AI6 AI0 ARE ARB AV2 AVW ANY ANT AGF AGZ AU6 xF ASE AVF ASI AWY AVE AVD ASN ASQ AU9 ASH fdA AKL u7 vJ O1 APR AJI Ye T0 Pk ARF AV3 ANZ ADF AAV AJT AE7 AP4 Option.map_none false_implies true_implies AVH AVG ASR ASS AVC APE AW6 ASM AU5 AW4 AW3 ASO AU7 ASP AU0 ASF AW8 ASK AU1 AU3 AU8 AU4 AVB AW5 AU2 AWW ASG AUY AW7 APF ASJ APD AUZ APC AVA AW2 AW0 AWC AWD AKC CR AN3 AVI AVP AMX AJA AI9 AEO AFB ARM AFA AKB AXY AXX ixA ixR DS Int.natCast_nonneg AK5 p5 AFO rvA APU ADH AH0 ADE AHZ ALP ALO ALM ADG ALQ ALN AH1 zO AMV AAX AEI AAT AEH AI4 AI3 AI1 AAW AI5 AI2 AEJ wZ FI AJV ANM AJS D9 ARD VE ARC AJU AG0 mD ANN AE2 ATS AP6 ATT AP3 ATR AV0 AVZ AVX AP5 AV1 AVY ATU AL2 AKH AOF AKG AUP AJD AM1 AJC AQV AQW AT8 G6 Kh AJ6 AE6 ND ANW pR ANU bU ANX ANV AJ7 ABG AV.CL Cut ACT ASC ASB ASA ABE ADZ rdC ldA vI AIY AHR tL unA AIE ANF stA wr Ko dvs chunk xvs Aw ARL AKA AUA AJK AM7 AJH AM6 AQ1 AQ0 AQY AJJ AQ2 AQZ AM8 AES AK Hg U0 ADS El Ah AQ Option.pure_def AD AJ Bk GM A1 CG BM mM Cj Cn FX TC List.take_nil List.drop_nil AZ As BW Wa B7 BY Bool.or_true ON H2 EU Bool.not_true FL CT Bp OM BEq.rfl beq_self_eq_true CC BJ decide_true decide_false AW and_self and_true true_and ite_true ite_false A3 Bool.cond_true Bool.cond_false beq_true beq_false Bool.true_beq Bool.false_beq
def zV:C->List (List Nat×PT)
 | .reg _ l=>[(l,.done)]
 | .Jf _ l=>[(l,.done)]
 | .seq x y=>zV x++zV y
 | .cond _ t e=>zV t++zV e
 | .block _ c=>zV c
 | .loop c=>zV c
 | .scope c=>zV c
 |_=>[]
@[reducible] def Qo (d:Nat) (o:O):Q:=⟨some d,o,none⟩
@[reducible] def Qm (d s:Nat):Q:=⟨some d,.mv (.t s),none⟩
attribute [go_sem] Qo Qm
end Go.Ab
namespace Go.Ab
inductive Ty where
 |mk (kind num:Int) (args:List Ty)
def Ty.kind:Ty->Int| .mk k _ _=>k
def Ty.num:Ty->Int| .mk _ n _=>n
def Ty.args:Ty->List Ty| .mk _ _ l=>l
mutual
def Ty.enc:Ty->List DV
 | .mk k n l=>[.int .i64 k,.int .i64 n,.sl (Ty.Na l)]
def Ty.Na:List Ty->List (List DV)
 |[]=>[]
 |t::l=>Ty.enc t::Ty.Na l
end
mutual
def Ty.size:Ty->Nat
 | .mk _ _ l=>1+Ty.AU l
def Ty.AU:List Ty->Nat
 |[]=>0
 |t::l=>Ty.size t+Ty.AU l
end
def tyA (t:Ty):AV:= .agg (t.enc.map AV.d)
def AXV (l:List Ty):AV:= .d (.sl (Ty.Na l))
theorem FQ:∀l:List Ty,(Ty.Na l).length=l.length
 |[]=>rfl
 |t::l=>by simp [Ty.Na,FQ l]
theorem Aa {α:Type} {l:List α} {i:Nat} {x:α} (h:l[i]?=some x):l.take (i+1)=l.take i++[x]:=by
 rw [List.take_add_one,h];rfl
theorem Cb:∀(l m:List Ty),Ty.AU (l++m)=Ty.AU l+Ty.AU m
 |[],m=>by simp [Ty.AU]
 |u::l,m=>by simp only [AZ,Ty.AU,Cb l m];omega
theorem size_pos:∀t:Ty,1<=t.size
 | .mk _ _ _=>by simp [Ty.size]
theorem Bl:∀l:List Ty,l.length<=Ty.AU l
 |[]=>by simp [Ty.AU]
 |t::l=>by have:=Bl l;have:=size_pos t;simp only [A1,Ty.AU];omega
end Go.Ab
namespace Go.Ab
abbrev Str:=List UInt8
inductive TE where
 |mk (kind:Int) (name:Str) (args:List TE)
structure CE where
 name:Str
 args:List TE
structure DE where
 name:Str
 vars:List Str
 cons:List CE
mutual
inductive Ex where
 |mk (op:Int) (name:Str) (num:Int) (names:List Str) (kids:List Ex) (alts:List Al)
inductive Al where
 |mk (con:Str) (vars:List Str) (body:Ex)
end
structure FE where
 name:Str
 params:List Str
 body:Ex
structure Pg where
 data:List DE
 Ev:List FE
def BF (s:Str):List DV:=[.str s]
def ssD (l:List Str):DV:= .sl (l.map BF)
mutual
def TE.enc:TE->List DV
 | .mk k n l=>[.int .i64 k,.str n,.sl (TE.Na l)]
def TE.Na:List TE->List (List DV)
 |[]=>[]
 |t::l=>TE.enc t::TE.Na l
end
theorem TE.C1:∀l:List TE,TE.Na l=l.map TE.enc
 |[]=>rfl
 |t::l=>by simp [TE.Na,TE.C1 l]
theorem TE.A2 (k:Int) (n:Str) (l:List TE):(TE.mk k n l).enc=[.int .i64 k,.str n,.sl (l.map TE.enc)]:=by
 simp [TE.enc,TE.C1]
mutual
def Ex.enc:Ex->List DV
 | .mk o n u ns ks aS=>[.int .i64 o,.str n,.int .i64 u,ssD ns,.sl (Ex.Na ks),.sl (Al.Na aS)]
def Ex.Na:List Ex->List (List DV)
 |[]=>[]
 |t::l=>Ex.enc t::Ex.Na l
def Al.enc:Al->List DV
 | .mk c vs b=>.str c::ssD vs::Ex.enc b
def Al.Na:List Al->List (List DV)
 |[]=>[]
 |t::l=>Al.enc t::Al.Na l
end
theorem Ex.C1:∀l:List Ex,Ex.Na l=l.map Ex.enc
 |[]=>rfl
 |t::l=>by simp [Ex.Na,Ex.C1 l]
theorem Al.C1:∀l:List Al,Al.Na l=l.map Al.enc
 |[]=>rfl
 |t::l=>by simp [Al.Na,Al.C1 l]
theorem Ex.A2 (o:Int) (n:Str) (u:Int) (ns:List Str) (ks:List Ex) (aS:List Al):(Ex.mk o n u ns ks aS).enc=[.int .i64 o,.str n,.int .i64 u,.sl (ns.map BF),.sl (ks.map Ex.enc),.sl (aS.map Al.enc)]:=by
 simp [Ex.enc,Ex.C1,Al.C1,ssD]
theorem Al.A2 (c:Str) (vs:List Str) (o:Int) (n:Str) (u:Int) (ns:List Str) (ks:List Ex) (aS:List Al):(Al.mk c vs (.mk o n u ns ks aS)).enc=[.str c,.sl (vs.map BF),.int .i64 o,.str n,.int .i64 u,.sl (ns.map BF),.sl (ks.map Ex.enc),.sl (aS.map Al.enc)]:=by
 simp [Al.enc,Ex.A2,ssD]
def CE.enc (c:CE):List DV:=[.str c.name,.sl (c.args.map TE.enc)]
def DE.enc (d:DE):List DV:=[.str d.name,.sl (d.vars.map BF),.sl (d.cons.map CE.enc)]
def FE.enc (f:FE):List DV:= .str f.name::.sl (f.params.map BF)::f.body.enc
def Pg.enc (p:Pg):List DV:=[.sl (p.data.map DE.enc),.sl (p.Ev.map FE.enc)]
def teA (t:TE):AV:= .agg (t.enc.map AV.d)
def exA (e:Ex):AV:= .agg (e.enc.map AV.d)
def alA (e:Al):AV:= .agg (e.enc.map AV.d)
def ceA (c:CE):AV:= .agg (c.enc.map AV.d)
def deA (c:DE):AV:= .agg (c.enc.map AV.d)
def feA (c:FE):AV:= .agg (c.enc.map AV.d)
def pgA (p:Pg):AV:= .agg (p.enc.map AV.d)
theorem Ty.C1:∀l:List Ty,Ty.Na l=l.map Ty.enc
 |[]=>rfl
 |t::l=>by simp [Ty.Na,Ty.C1 l]
theorem Av {α:Type} {enc:α->List DV} {l:List α} {i:Nat} {x:α} (h:l[i]?=some x):(l.map enc)[i]?=some (enc x):=by
 rw [Aj,h];rfl
theorem Bu {α:Type} {l:List α} {i:Nat} {x:α} (h:l[i]?=some x):l.drop i=x::l.drop (i+1):=by
 have hlt:=(AG.1 h).1;rw [List.drop_eq_getElem_cons hlt];congr 1;exact (AG.1 h).2
theorem Ai {α:Type} {l:List α} {i:Nat} (h:i < l.length):∃x,l[i]?=some x:=⟨l[i],by simp [h]⟩
mutual
def TE.size:TE->Nat
 | .mk _ _ l=>1+TE.AU l
def TE.AU:List TE->Nat
 |[]=>0
 |t::l=>TE.size t+TE.AU l
end
mutual
def Ex.size:Ex->Nat
 | .mk _ _ _ _ ks aS=>1+Ex.AU ks+Al.AU aS
def Ex.AU:List Ex->Nat
 |[]=>0
 |t::l=>Ex.size t+Ex.AU l
def Al.size:Al->Nat
 | .mk _ _ b=>Ex.size b
def Al.AU:List Al->Nat
 |[]=>0
 |t::l=>Al.size t+Al.AU l
end
theorem TE.size_pos:∀t:TE,1<=t.size
 | .mk _ _ _=>by simp [TE.size]
theorem Ex.size_pos:∀t:Ex,1<=t.size
 | .mk _ _ _ _ _ _=>by simp only [Ex.size];omega
theorem TE.Fj {l:List TE} {t:TE} (h:t∈l):t.size<=TE.AU l:=by
 induction l with
 |nil=>cases h
 |cons u l ih=>
  simp only [TE.AU];cases h with
  |head=>omega
  |tail _ h=>have:=ih h;omega
theorem Ex.Fj {l:List Ex} {t:Ex} (h:t∈l):t.size<=Ex.AU l:=by
 induction l with
 |nil=>cases h
 |cons u l ih=>
  simp only [Ex.AU];cases h with
  |head=>omega
  |tail _ h=>have:=ih h;omega
theorem Al.Fj {l:List Al} {t:Al} (h:t∈l):t.size<=Al.AU l:=by
 induction l with
 |nil=>cases h
 |cons u l ih=>
  simp only [Al.AU];cases h with
  |head=>omega
  |tail _ h=>have:=ih h;omega
theorem TE.Bl:∀l:List TE,l.length<=TE.AU l
 |[]=>by simp [TE.AU]
 |t::l=>by have:=TE.Bl l;have:=TE.size_pos t;simp only [A1,TE.AU];omega
theorem Ex.Bl:∀l:List Ex,l.length<=Ex.AU l
 |[]=>by simp [Ex.AU]
 |t::l=>by have:=Ex.Bl l;have:=Ex.size_pos t;simp only [A1,Ex.AU];omega
theorem Al.Bl:∀l:List Al,l.length<=Al.AU l
 |[]=>by simp [Al.AU]
 | .mk _ _ b::l=>by have:=Al.Bl l;have:=Ex.size_pos b;simp only [A1,Al.AU,Al.size];omega
theorem TE.Cb:∀(l m:List TE),TE.AU (l++m)=TE.AU l+TE.AU m
 |[],m=>by simp [TE.AU]
 |u::l,m=>by simp only [AZ,TE.AU,TE.Cb l m];omega
theorem Ex.Cb:∀(l m:List Ex),Ex.AU (l++m)=Ex.AU l+Ex.AU m
 |[],m=>by simp [Ex.AU]
 |u::l,m=>by simp only [AZ,Ex.AU,Ex.Cb l m];omega
theorem Al.Cb:∀(l m:List Al),Al.AU (l++m)=Al.AU l+Al.AU m
 |[],m=>by simp [Al.AU]
 |u::l,m=>by simp only [AZ,Al.AU,Al.Cb l m];omega
end Go.Ab
namespace Go.Ab
open Go.RowKit
variable {P:Program} {K:C6} {F:Fm} {L:Lm} {σ:AI}
theorem ABH {s:Nat} {v:AV} (h:F s=v):put s v F=F:=by
 funext t;simp only [put];split
 . rename_i e;rw [<- h];first|(subst e;rfl)|(rw [e])
 . rfl
theorem A7 {d:Option Nat} {o:O} {s:Nat} {want b:Bool} {r:List Q} (hF:F s= .d (.bool b))
 (h1:b=true->Bc P K (⟨d,o,some (s,want)⟩::r) (put s (.d (.bool true)) F) L σ) (h2:b=false->Bc P K (⟨d,o,some (s,want)⟩::r) (put s (.d (.bool false)) F) L σ):
 Bc P K (⟨d,o,some (s,want)⟩::r) F L σ:=by
 cases b
 . have:=h2 rfl;rw [ABH hF] at this;exact this
 . have:=h1 rfl;rw [ABH hF] at this;exact this
theorem AH.det {d:Option Nat} {f:FuncId} {args:List AV} {v:AV} (h:AT P f args σ (fun v' σ'=>v'=v/\σ'=σ)) (hk:K (BS d v F) L σ) (hn:args.all AV.BE=true:=by rfl):AH P f args d K F L σ:=
 AH.mk hn h (fun v' σ' ⟨e1,e2⟩=>by subst e1;subst e2;exact hk)
theorem wrap_add {a b:Nat} (h:a+b<=9000000000000000000):IntKind.i64.wrap ((a:Int)+(b:Int))=((a+b:Nat):Int):=by
 rw [Ax (by omega) (by omega)];omega
theorem A4 {a:Nat} (h:a+1<=9000000000000000000):IntKind.i64.wrap ((a:Int)+1)=((a+1:Nat):Int):=by
 rw [Ax (by omega) (by omega)];omega
theorem Ag {i n:Nat} (h:i < n):decide ((i:Int) < (n:Int))=true:=by simp [h]
theorem B5 {i n:Nat} (h:¬i < n):decide ((i:Int) < (n:Int))=false:=by simp;omega
theorem Df {s:List UInt8} {i:Nat} {b:UInt8} (h:s[i]?=some b) (k:IntKind):qN (.d (.str s)) (.d (.int k (i:Int)))=some (.d (.int .u8 b.toNat)):=by
 simp [qN,h]
theorem yG {s:List UInt8} {n:Nat} (h:n<=s.length):YO (.d (.str s)) none (some (.d (.int .i64 (n:Int))))=some (.d (.str (s.take n))):=by
 simp [YO,fS,Xs,h]
theorem AOQ {s:List UInt8} {n:Nat} (h:n<=s.length):YO (.d (.str s)) (some (.d (.int .i64 (n:Int)))) none=some (.d (.str (s.drop n))):=by
 simp [YO,fS,Xs,h]
theorem AOP {s:List UInt8} {n m:Nat} (h:n<=m) (h2:m<=s.length):YO (.d (.str s)) (some (.d (.int .i64 (n:Int)))) (some (.d (.int .i64 (m:Int))))=some (.d (.str ((s.take m).drop n))):=by
 simp [YO,fS,Xs,h,h2]
theorem AS3 {b c:UInt8} {s:List UInt8}:YO (.d (.str (b::c::s))) none (some (.d (.int .i64 2)))=some (.d (.str [b,c])):=by
 rw [show (2:Int)=((2:Nat):Int) from rfl,yG (by simp)];rfl
theorem AS2 {b:UInt8} {s:List UInt8}:YO (.d (.str (b::s))) none (some (.d (.int .i64 1)))=some (.d (.str [b])):=by
 rw [show (1:Int)=((1:Nat):Int) from rfl,yG (by simp)];rfl
theorem AR3 (b x:UInt8):((b.toNat:Int)==(x.toNat:Int))=(b==x):=by
 rw [An];simp only [beq_iff_eq,Int.natCast_inj,UInt8.toNat_inj]
theorem Run.OF {cx:Cx} {KK:AV->AI->Prop} {k:List CI} (ks:List Nat) (h:Run cx KK k (JK ks F) (Hs ks L) σ):Run cx KK k F L σ:=
 fun items base g lam Pr a w0 w b cs hi hf hb hk=>h items base g lam Pr a w0 w b cs hi (hf.kept ks) hb hk
def ctl (bl:Bool):List CI->Option (List CI)
 | .code .skip::k=>some k
 | .code (.seq x y)::k=>some (.code x::.code y::k)
 | .code (.block i c)::k=>if bl then some (.code c::.blk i::k) else none
 | .code (.scope c)::k=>some (.code c::.scp::k)
 | .blk _::k=>some k
 | .scp::k=>some k
 | .code (.exit i)::k=>Ic i k
 |_=>none
theorem Run.ctB {cx:Cx} {KK:AV->AI->Prop} (bl:Bool) {k k':List CI} (e:ctl bl k=some k') (h:Run cx KK k' F L σ):Run cx KK k F L σ:=by
 unfold ctl at e;split at e
 . cases e;exact Run.skip h
 . cases e;exact Run.seq h
 . split at e
   . cases e;exact Run.block h
   . cases e
 . cases e;exact Run.scope h
 . cases e;exact Run.blk h
 . cases e;exact Run.scp h
 . exact Run.exit e h
 . cases e
theorem Run.ct {cx:Cx} {KK:AV->AI->Prop} {k k':List CI} (e:ctl true k=some k') (h:Run cx KK k' F L σ):Run cx KK k F L σ:=Run.ctB true e h
theorem Run.cb {cx:Cx} {KK:AV->AI->Prop} {k k':List CI} (e:ctl false k=some k') (h:Run cx KK k' F L σ):Run cx KK k F L σ:=Run.ctB false e h
def Kp (R:C6) (l:List Nat):C6:=fun F L σ=>R (JK l F) (Hs l L) σ
def Wp (cx:Cx) (K:AV->AI->Prop):C->C6->List CI->C6
 | .skip,R,_=>R
 | .seq a b,R,k=>Wp cx K a (Wp cx K b R k) (.code b::k)
 | .block i c,R,k=>Wp cx K c R (.blk i::k)
 | .scope c,R,k=>Wp cx K c R (.scp::k)
 | .exit i,_,k=>fun F L σ=>match Ic i k with
  |some k'=>Run cx K k' F L σ
  |none=>False
 | .reg ops l,R,_=>Bc cx.P (Kp R l) ops
 | .cond x a b,_,k=>fun F L σ=>cN (xv F x) (Run cx K (.code a::k) F L σ) (Run cx K (.code b::k) F L σ)
 | .Jf t l,R,_=>XT cx.P (Kp R l) false t
 | .loop c,_,k=>Run cx K (.code (.loop c)::k)
 | .ret,_,k=>Run cx K (.code .ret::k)
 | .bad,_,k=>Run cx K (.code .bad::k)
theorem mO {cx:Cx} {K:AV->AI->Prop} (hm:cx.P.follows .mixedOrders=true):∀(c:C) (R:C6) (k:List CI) (F:Fm) (L:Lm) (σ:AI),(∀F L σ,R F L σ->Run cx K k F L σ)->Wp cx K c R k F L σ->Run cx K (.code c::k) F L σ
 | .skip,R,k,F,L,σ,hR,h=>Run.skip (hR F L σ h)
 | .seq a b,R,k,F,L,σ,hR,h=>Run.seq (mO hm a (Wp cx K b R k) (.code b::k) F L σ (fun F L σ h=>mO hm b R k F L σ hR h) h)
 | .block i c,R,k,F,L,σ,hR,h=>Run.block (mO hm c R (.blk i::k) F L σ (fun F L σ h=>Run.blk (hR F L σ h)) h)
 | .scope c,R,k,F,L,σ,hR,h=>Run.scope (mO hm c R (.scp::k) F L σ (fun F L σ h=>Run.scp (hR F L σ h)) h)
 | .exit i,R,k,F,L,σ,hR,h=>by
  simp only [Wp] at h;cases he:Ic i k with
  |none=>rw [he] at h;exact h.elim
  |some k'=>rw [he] at h;exact Run.exit he h
 | .reg ops l,R,k,F,L,σ,hR,h=>Run.AXP hm (Kp R l) h fun F L σ h=>hR _ _ _ h
 | .cond x a b,R,k,F,L,σ,hR,h=>Run.ASV h
 | .Jf t l,R,k,F,L,σ,hR,h=>Run.eT hm (Kp R l) h fun F L σ h=>hR _ _ _ h
 | .loop c,R,k,F,L,σ,hR,h=>h
 | .ret,R,k,F,L,σ,hR,h=>h
 | .bad,R,k,F,L,σ,hR,h=>h
def hdC:List CI->Option (C×List CI)
 | .blk _::k=>hdC k
 | .scp::k=>hdC k
 | .code .skip::k=>some (.skip,k)
 | .code (.seq a b)::k=>some (.seq a b,k)
 | .code (.block i c)::k=>some (.block i c,k)
 | .code (.scope c)::k=>some (.scope c,k)
 | .code (.exit i)::k=>some (.exit i,k)
 | .code (.reg o l)::k=>some (.reg o l,k)
 | .code (.Jf o l)::k=>some (.Jf o l,k)
 | .code (.cond x a b)::k=>some (.cond x a b,k)
 |_=>none
theorem wQ {cx:Cx} {K:AV->AI->Prop} (hm:cx.P.follows .mixedOrders=true):∀ {k:List CI} {c:C} {k':List CI},hdC k=some (c,k')->Wp cx K c (Run cx K k') k' F L σ->Run cx K k F L σ
 | .blk _::k,c,k',e,h=>Run.blk (wQ hm (k:=k) e h)
 | .scp::k,c,k',e,h=>Run.scp (wQ hm (k:=k) e h)
 | .code d::k,c,k',e,h=>by
  cases d<;>cases e<;>exact mO hm _ _ _ F L σ (fun _ _ _ h=>h) h
 | .again _::k,c,k',e,h=>by cases e
 |[],c,k',e,h=>by cases e
section eqs
variable {cx:Cx} {K:AV->AI->Prop} {R:C6} {k:List CI} {a b c:C}
theorem AXW {l:List Nat}:Kp R l F L σ=R (JK l F) (Hs l L) σ:=(rfl)
theorem AUX:Wp cx K .skip R k F L σ=R F L σ:=(rfl)
theorem AWU:Wp cx K (.seq a b) R k F L σ=Wp cx K a (Wp cx K b R k) (.code b::k) F L σ:=(rfl)
theorem AR6 {i:Nat}:Wp cx K (.block i c) R k F L σ=Wp cx K c R (.blk i::k) F L σ:=(rfl)
theorem AR7:Wp cx K (.scope c) R k F L σ=Wp cx K c R (.scp::k) F L σ:=(rfl)
theorem AWS {ops:List Q} {l:List Nat}:Wp cx K (.reg ops l) R k F L σ=Bc cx.P (Kp R l) ops F L σ:=(rfl)
theorem AUW {t:QT} {l:List Nat}:Wp cx K (.Jf t l) R k F L σ=XT cx.P (Kp R l) false t F L σ:=(rfl)
theorem AUT {x:X}:Wp cx K (.cond x a b) R k F L σ=cN (xv F x) (Run cx K (.code a::k) F L σ) (Run cx K (.code b::k) F L σ):=(rfl)
theorem AUV:Wp cx K (.loop c) R k F L σ=Run cx K (.code (.loop c)::k) F L σ:=(rfl)
theorem AWT:Wp cx K .ret R k F L σ=Run cx K (.code .ret::k) F L σ:=(rfl)
theorem AUU {i:Nat}:Wp cx K (.exit i) R k F L σ=match Ic i k with
 |some k'=>Run cx K k' F L σ
 |none=>False:=(rfl)
theorem AL7 {i:Nat}:Ic i (.code c::k)=Ic i k:=(rfl)
theorem AQD {i:Nat}:Ic i (.scp::k)=Ic i k:=(rfl)
theorem AH9 {i:Nat}:Ic i (.again c::k)=Ic i k:=(rfl)
theorem AL8 {i:Nat}:Ic i (.blk i::k)=some k:=by rw [Ic,if_pos rfl]
theorem AQC {i j:Nat}:Ic i (.blk j::k)=if j=i then some k else Ic i k:=by rw [Ic]
end eqs
attribute [go_sem] AXW AUX AWU AR6 AR7 AWS AUW AUT AUV AWT AUU AL7 AQD AH9 AL8 AQC
attribute [go_sem] C4 Nat.reduceBEq Nat.reduceAdd Nat.reduceLeDiff reduceIte reduceCtorEq
attribute [go_sem] tW AXV tyA Ty.enc Ty.Na eq_self Br Bool.not_eq_false'
end Go.Ab
namespace Go.Ab
open Go.RowKit
def pO (l:List Nat) (t:PT):PT:=l.foldr .one t
def pL (l:List Nat) (t:PT):PT:=l.foldr .lay t
def qT (o:List Q):PT->QT
 | .done=>.done
 | .one i t| .lay i t=>.one (o.getD i ⟨none,.mv (.t 0),none⟩) (qT o t)
 | .alt i t r=>.alt (o.getD i ⟨none,.mv (.t 0),none⟩) (qT o t) (qT o r)
def AXQ (q:List Q) (p:PT):C:=match p with
 | .done=>.reg q []
 |p=>match lin (qT q p) with
  |some q=>.reg q []
  |none=>.Jf (qT q p) []
def rgs:Code->Nat
 | .region _ _ _=>1
 | .seq x y=>rgs x+rgs y
 | .cond _ x y=>rgs x+rgs y
 | .block _ c=>rgs c
 | .loop c=>rgs c
 | .scope c=>rgs c
 |_=>0
def cQ (x:Cx) (ops:Array Oper) (o:Oper):Option Q:=match o.op with
 | .binOp op t a b _=>match x.P.underlying t with
  |some (.struct fs)=>(vK op fs.size a b).map fun c=>⟨o.dst,c,o.guard.bind fun g=>((ops[g.1]?).bind (·.dst)).map (·,g.2)⟩
  |_=>tU x.P x.N x.esc ops o
 |_=>tU x.P x.N x.esc ops o
def cU (x:Cx) (ps:List (Nat×PT)):Code->Nat->C
 | .region _ ops _,n=>match ops.toList.mapM (cQ x ops) with
  |some q=>AXQ q ((ps.lookup n).getD .done)
  |none=>.bad
 | .seq a b,n=>.seq (cU x ps a n) (cU x ps b (n+rgs a))
 | .cond c t e,n=>.cond ((xo c).getD (.t 0)) (cU x ps t n) (cU x ps e (n+rgs t))
 | .block id c,n=>.block id (cU x ps c n)
 | .loop c,n=>.loop (cU x ps c n)
 | .exit id,_=>.exit id
 | .ret,_=>.ret
 | .scope c,n=>.scope (cU x ps c n)
 |_,_=>.skip
def bit (n:Nat):Nat:=1 <<< n
def bits (l:List Nat):Nat:=l.foldl (fun m n=>m|||bit n) 0
def AS1 (n:Nat) (m:Nat):List Nat:=(BA n).filter fun i=>m.testBit i
def AUJ:QT->List Q
 | .done=>[]
 | .one q t=>q::AUJ t
 | .alt q t _=>q::AUJ t
def AGW:List Q->Nat->Nat
 |[],m=>m
 |q::l,m=>bits q.looks|||(match q.dst with|some d=>(AGW l m|||bit d) ^^^ bit d|none=>AGW l m)
def AWB (f:Nat->Nat):Nat->Nat->Nat
 |0,m=>m
 |n+1,m=>if f m|||m=m then m else AWB f n (f m|||m)
def lv (N r:Nat):C->List (Nat×Nat)->Nat->C×Nat
 | .reg q _,_,m=>(.reg q (AS1 N m),AGW q m)
 | .Jf t _,_,m=>(.Jf t (AS1 N m),AGW (AUJ t) m)
 | .seq a b,e,m=>match lv N r b e m with
  |(b',p)=>match lv N r a e p with
   |(a',q)=>(.seq a' b',q)
 | .cond x a b,e,m=>match lv N r a e m,lv N r b e m with
  |(a',p),(b',q)=>(.cond x a' b',bits (Sz x)|||(p|||q))
 | .block i c,e,m=>match lv N r c ((i,m)::e) m with
  |(c',p)=>(.block i c',p)
 | .scope c,e,m=>match lv N r c e m with
  |(c',p)=>(.scope c',p)
 | .loop c,e,_=>match AWB (fun m=>(lv N r c e m).2) 8 0 with
  |m=>(.loop (lv N r c e m).1,m)
 | .exit i,e,_=>(.exit i,(e.lookup i).getD 0)
 | .ret,_,_=>(.ret,r)
 | .skip,_,m=>(.skip,m)
 | .bad,_,_=>(.bad,0)
def dM (ls:List C):C->Nat->C×Nat
 | .seq a b,n=>match dM ls a n with
  |(a',n)=>match dM ls b n with
   |(b',n)=>(.seq a' b',n)
 | .cond x a b,n=>match dM ls a n with
  |(a',n)=>match dM ls b n with
   |(b',n)=>(.cond x a' b',n)
 | .block i c,n=>match dM ls c n with
  |(c',n)=>(.block i c',n)
 | .scope c,n=>match dM ls c n with
  |(c',n)=>(.scope c',n)
 | .loop c,n=>match dM ls c n with
  |(_,n)=>(.loop (ls.getD n .skip),n+1)
 |c,n=>(c,n)
def zC (ls:List C):C->Nat->List C×Nat
 | .seq a b,n=>match zC ls a n with
  |(a',n)=>match zC ls b n with
   |(b',n)=>(a'++b',n)
 | .cond _ a b,n=>match zC ls a n with
  |(a',n)=>match zC ls b n with
   |(b',n)=>(a'++b',n)
 | .block _ c,n=>zC ls c n
 | .scope c,n=>zC ls c n
 | .loop c,n=>match zC ls c n with
  |(l,m)=>(l++[(dM ls c n).1],m+1)
 |_,n=>([],n)
def rvb:List RV->Nat
 |[]=>0
 | .t n::l=>bit n|||rvb l
 | .c n _::l=>bit n|||rvb l
def gen (N r:Nat) (c:C) (ls:List C):C×List C:=match lv N r c [] 0 with
 |(c,_)=>((dM ls c 0).1,(zC ls c 0).1)
theorem u8c (n:Nat) (h:n < 2 ^ 8):UInt8.ofBitVec (BitVec.ofFin ⟨n,h⟩)=UInt8.ofNat n:=by
 apply UInt8.toNat.inj;simp [UInt8.toNat_ofNat'];omega
def BO {α:Type} (x:Cx) (ps:List (Nat×PT)) (f:C×Nat×Nat->α)
 (y: {c:C×Nat×Nat // (cU x ps (x.fn.body.getD .skip) 0,x.N,rvb x.rs)=c}:=by exact ⟨_,by conv=> { lhs;reduce;try simp only [Int.reduceOfNat,Int.reduceNegSucc,u8c,UInt8.reduceOfNat]}⟩)
 (z: {a:α // f y.1=a}:=by exact ⟨_,by conv=> { lhs;(try (ext _;(try (ext _;(try (ext _;(try (ext _;(try (ext _;(try (ext _;(try (ext _;(try (ext _;(try (ext _;(try (ext _;(try (ext _;(try (ext _;(try (ext _;(try (ext _;skip))))))))))))))))))))))))))));cbv}⟩):α:=z.1
def G (c:C×Nat×Nat) (ls:List C):C×List C:=gen c.2.1 c.2.2 c.1 ls
def lpC (n:Nat) (p:C×List C):C:=p.2.getD n .skip
def wp (l:List (List Nat×PT)) (s:List (Nat×PT)):List (List Nat×PT):=s.foldl (fun l x=>l.modify x.1 fun y=>(y.1,x.2)) l
def Inn (cx:Cx) (c:C) (n:Nat):Prop:=∀ {args:List AV} {σ:AI} {K:AV->AI->Prop},args.length<=n->Run cx K [.code c] (Wh args) E σ->AT cx.P cx.f args σ K
theorem inn {cx:Cx} {c:C} {n:Nat} (t:List (Nat×PT)) (hg:Good cx) (hn:cx.fn.ntmps=n) (hc:(cx.fn.body.bind fun k=>IS cx.P cx.N cx.esc cx.pf k (wp (zV c) t))=some (c,[]):=by kernel_rfl) (hN:cx.N=n:=by rfl):Inn cx c n:=by
 intro args σ K hl h;cases hb:cx.fn.body with
 |none=>rw [hb] at hc;cases hc
 |some code=>rw [hb] at hc;exact AHK hg hb (hn.trans hN.symm) (hN ▸ hl) (N8 cx _ _ _ _ hc) h
theorem Run.qP {cx:Cx} {KK:AV->AI->Prop} {k:List CI} {F:Fm} {L:Lm} {σ:AI} (hg:Good cx) (h:ALE ((p5 F L σ cx.rs).map AV.plain) KK σ):Run cx KK (.code .ret::k) F L σ:=Run.Bf hg (AI.le_refl _) h
theorem Run.qR {cx:Cx} {KK:AV->AI->Prop} {k:List CI} {F:Fm} {L:Lm} {σ:AI} (hg:Good cx) (h:ALE (p5 F L σ cx.rs) KK σ):Run cx KK (.code .ret::k) F L σ:=Run.AXR hg (AI.le_refl _) h
theorem ctQ {cx:Cx} {KK:AV->AI->Prop} {k k':List CI} {F:Fm} {L:Lm} {σ:AI} (e:ctl true k=some k') (h:Run cx KK k' F L σ):Run cx KK k F L σ:=Run.ct e h
theorem rgQ {cx:Cx} {KK:AV->AI->Prop} {k:List CI} {F:Fm} {L:Lm} {σ:AI} {ops:List Q} {live:List Nat} (hm:cx.P.follows .mixedOrders=true) (h:Bc cx.P (ACT cx KK k live) ops F L σ):Run cx KK (.code (.reg ops live)::k) F L σ:=Run.reg hm h
theorem cdQ {cx:Cx} {KK:AV->AI->Prop} {k:List CI} {F:Fm} {L:Lm} {σ:AI} {x:X} {t e:C} (h:cN (xv F x) (Run cx KK (.code t::k) F L σ) (Run cx KK (.code e::k) F L σ)):Run cx KK (.code (.cond x t e)::k) F L σ:=Run.ASV h
theorem B0 {σ:AI} {i:Nat} {cs:List AV}:(σ.AP i cs).blk i=some cs:=by rw [AK,if_pos rfl]
theorem Bz.w4 {σ σ':AI} {e s:Nat} {rows:List (List DV)} {v:AV} (h:Bz σ e s rows v σ'):v.BE=true/\(∀k,v.BV k=false)/\v.cells=[v]/\v.B8=true:=⟨h.BE,h.BV,h.cells,h.cell⟩
end Go.Ab
namespace Go.Ab
open Go.Proofs
set_option maxRecDepth 100000
set_option maxHeartbeats 40000000
noncomputable section
theorem mixed:Tzp.follows .mixedOrders=true:=by kernel_rfl
theorem mxQ:Tzp.follows .mixedOrders=true:=mixed
noncomputable def Qd:Cx:=⟨Tzp,39,Tryz.f39,129,[7,300011,300016,300022,300028,300033,300038,300044,300050,300056,300062,300071,300081,300091,300103,300109,300114,300119,300125],[],[.t 2]⟩
theorem Dq:Good Qd:=⟨Tryz.func39,by kernel_rfl⟩
theorem ABV:Qd.rs=[.t 2]:=rfl
noncomputable def QQ:=BO Qd [] fun c a b d e=>G c [a,b,d,e]
def NL:C:=lpC 0 (QQ .skip .skip .skip .skip)
def SE:C:=lpC 1 (QQ NL .skip .skip .skip)
def Ze:C:=lpC 2 (QQ NL SE .skip .skip)
def Zf:C:=lpC 3 (QQ NL SE Ze .skip)
def AC8:C:=(QQ NL SE Ze Zf).1
theorem AEA:Inn Qd AC8 129:=inn [] Dq Tryz.ntmps39
noncomputable def MQ:Cx:=⟨Tzp,50,Tryz.f50,62,[30,300009,300014,300019,300025,300032,300039,300044,300050,300057],[],[.t 2]⟩
theorem Dr:Good MQ:=⟨Tryz.func50,by kernel_rfl⟩
theorem lW:MQ.rs=[.t 2]:=rfl
noncomputable def QS:=BO MQ [] fun c a b=>G c [a,b]
def R9:C:=lpC 0 (QS .skip .skip)
def c7:C:=lpC 1 (QS R9 .skip)
def nM:C:=(QS R9 c7).1
theorem oO:Inn MQ nM 62:=inn [] Dr Tryz.ntmps50
noncomputable def Rz:Cx:=⟨Tzp,69,Tryz.f69,37,[],[],[.t 4]⟩
theorem Nf:Good Rz:=⟨Tryz.func69,by kernel_rfl⟩
theorem xY:Rz.rs=[.t 4]:=rfl
noncomputable def AAZ:=BO Rz [] (G · [])
def zI:C:=(AAZ).1
theorem AAO:Inn Rz zI 37:=inn [] Nf Tryz.ntmps69
noncomputable def V3:Cx:=⟨Tzp,70,Tryz.f70,32,[],[],[.t 4]⟩
theorem QC:Good V3:=⟨Tryz.func70,by kernel_rfl⟩
theorem ABW:V3.rs=[.t 4]:=rfl
noncomputable def oX:=BO V3 [] fun c a=>G c [a]
def rS:C:=lpC 0 (oX .skip)
def AC9:C:=(oX rS).1
theorem AEB:Inn V3 AC9 32:=inn [] QC Tryz.ntmps70
noncomputable def JG:Cx:=⟨Tzp,71,Tryz.f71,94,[300010,300013,300019,300028,300037,300047,300061,300070,300086],[],[.t 4]⟩
theorem Ih:Good JG:=⟨Tryz.func71,by kernel_rfl⟩
theorem lU:JG.rs=[.t 4]:=rfl
noncomputable def Xl:=BO JG [] fun c a=>G c [a]
def R8:C:=lpC 0 (Xl .skip)
def nK:C:=(Xl R8).1
theorem X1:Inn JG nK 94:=inn [] Ih Tryz.ntmps71
def YT:List (Nat×PT):=[(53,(pO [0,1,3,4,2,5,6,7] .done))]
noncomputable def JF:Cx:=⟨Tzp,72,Tryz.f72,250,[300030,300036,300040,300046,300050,300056,300065,300073,300077,300083,300088,300098,300106,300113,300117,300125,300129,300135,300138,300143,300147,300156,300164,300173,300183,300190,300197,300204,300210,300221,300227,300232,300237,300243],[],[.t 6]⟩
theorem Cy:Good JF:=⟨Tryz.func72,by kernel_rfl⟩
theorem O3:JF.rs=[.t 6]:=rfl
noncomputable def QR:=BO JF YT fun c a b=>G c [a,b]
def L4:C:=lpC 0 (QR .skip .skip)
def R7:C:=lpC 1 (QR L4 .skip)
def nJ:C:=(QR L4 R7).1
theorem X0:Inn JF nJ 250:=inn YT Cy Tryz.ntmps72
noncomputable def Hl:Cx:=⟨Tzp,81,Tryz.f81,32,[300004,300009,300015,300020,300025,300030],[],[.t 2]⟩
theorem QG:Good Hl:=⟨Tryz.func81,by kernel_rfl⟩
theorem Ou:Hl.rs=[.t 2]:=rfl
noncomputable def bM:=BO Hl [] (G · [])
def aO:C:=(bM).1
theorem bF:Inn Hl aO 32:=inn [] QG Tryz.ntmps81
noncomputable def K3:Cx:=⟨Tzp,82,Tryz.f82,5,[],[],[.t 2]⟩
theorem Vf:Good K3:=⟨Tryz.func82,by kernel_rfl⟩
theorem iT:K3.rs=[.t 2]:=rfl
noncomputable def lE:=BO K3 [] (G · [])
def kT:C:=(lE).1
theorem k8:Inn K3 kT 5:=inn [] Vf Tryz.ntmps82
noncomputable def HC:Cx:=⟨Tzp,83,Tryz.f83,9,[3],[],[.t 4]⟩
theorem Of:Good HC:=⟨Tryz.func83,by kernel_rfl⟩
theorem YH:HC.rs=[.t 4]:=rfl
noncomputable def ZV:=BO HC [] (G · [])
def ZE:C:=(ZV).1
theorem ZO:Inn HC ZE 9:=inn [] Of Tryz.ntmps83
noncomputable def Fy:Cx:=⟨Tzp,84,Tryz.f84,61,[300028,300033,300040,300047,300055],[],[.t 6]⟩
theorem Ck:Good Fy:=⟨Tryz.func84,by kernel_rfl⟩
theorem VO:Fy.rs=[.t 6]:=rfl
noncomputable def IE:=BO Fy [] fun c a b=>G c [a,b]
def Jo:C:=lpC 0 (IE .skip .skip)
def SK:C:=lpC 1 (IE Jo .skip)
def Vv:C:=(IE Jo SK).1
theorem Ma:Inn Fy Vv 61:=inn [] Ck Tryz.ntmps84
noncomputable def JD:Cx:=⟨Tzp,104,Tryz.f104,200,[],[],[.t 2,.t 3,.t 4]⟩
theorem Ig:Good JD:=⟨Tryz.func104,by kernel_rfl⟩
theorem ABQ:JD.rs=[.t 2,.t 3,.t 4]:=rfl
noncomputable def QP:=BO JD [] fun c a b d e=>G c [a,b,d,e]
def NJ:C:=lpC 0 (QP .skip .skip .skip .skip)
def NK:C:=lpC 1 (QP NJ .skip .skip .skip)
def SD:C:=lpC 2 (QP NJ NK .skip .skip)
def rQ:C:=lpC 3 (QP NJ NK SD .skip)
def AC3:C:=(QP NJ NK SD rQ).1
theorem AD5:Inn JD AC3 200:=inn [] Ig Tryz.ntmps104
noncomputable def MN:Cx:=⟨Tzp,105,Tryz.f105,17,[],[],[.t 2]⟩
theorem Le:Good MN:=⟨Tryz.func105,by kernel_rfl⟩
theorem lT:MN.rs=[.t 2]:=rfl
noncomputable def oY:=BO MN [] (G · [])
def nI:C:=(oY).1
theorem oM:Inn MN nI 17:=inn [] Le Tryz.ntmps105
noncomputable def JW:Cx:=⟨Tzp,108,Tryz.f108,5,[],[],[.t 2]⟩
theorem Td:Good JW:=⟨Tryz.func108,by kernel_rfl⟩
theorem fD:JW.rs=[.t 2]:=rfl
noncomputable def g9:=BO JW [] (G · [])
def gE:C:=(g9).1
theorem gZ:Inn JW gE 5:=inn [] Td Tryz.ntmps108
noncomputable def Ed:Cx:=⟨Tzp,109,Tryz.f109,9,[3],[],[.t 4]⟩
theorem Jt:Good Ed:=⟨Tryz.func109,by kernel_rfl⟩
theorem RO:Ed.rs=[.t 4]:=rfl
noncomputable def Sf:=BO Ed [] (G · [])
def SJ:C:=(Sf).1
theorem S5:Inn Ed SJ 9:=inn [] Jt Tryz.ntmps109
noncomputable def Ge:Cx:=⟨Tzp,110,Tryz.f110,17,[300004,300008,300014],[],[.t 2]⟩
theorem Ni:Good Ge:=⟨Tryz.func110,by kernel_rfl⟩
theorem Md:Ge.rs=[.t 2]:=rfl
noncomputable def Xn:=BO Ge [] (G · [])
def Ww:C:=(Xn).1
theorem X8:Inn Ge Ww 17:=inn [] Ni Tryz.ntmps110
noncomputable def EO:Cx:=⟨Tzp,111,Tryz.f111,9,[3],[],[.t 4]⟩
theorem JY:Good EO:=⟨Tryz.func111,by kernel_rfl⟩
theorem Q4:EO.rs=[.t 4]:=rfl
noncomputable def RH:=BO EO [] (G · [])
def Qp:C:=(RH).1
theorem Qy:Inn EO Qp 9:=inn [] JY Tryz.ntmps111
noncomputable def F6:Cx:=⟨Tzp,112,Tryz.f112,5,[300003],[],[.t 2]⟩
theorem Lh:Good F6:=⟨Tryz.func112,by kernel_rfl⟩
theorem UF:F6.rs=[.t 2]:=rfl
noncomputable def Uz:=BO F6 [] (G · [])
def Ua:C:=(Uz).1
theorem Ur:Inn F6 Ua 5:=inn [] Lh Tryz.ntmps112
noncomputable def Ho:Cx:=⟨Tzp,113,Tryz.f113,65,[3,300010,300018,300024,300035,300039,300044,300048,300054,300061],[],[.t 4]⟩
theorem Kb:Good Ho:=⟨Tryz.func113,by kernel_rfl⟩
theorem Za:Ho.rs=[.t 4]:=rfl
noncomputable def bP:=BO Ho [] (G · [])
def aR:C:=(bP).1
theorem QK:Inn Ho aR 65:=inn [] Kb Tryz.ntmps113
noncomputable def JV:Cx:=⟨Tzp,114,Tryz.f114,37,[],[],[.t 4]⟩
theorem HK:Good JV:=⟨Tryz.func114,by kernel_rfl⟩
theorem fC:JV.rs=[.t 4]:=rfl
noncomputable def g8:=BO JV [] (G · [])
def gD:C:=(g8).1
theorem gY:Inn JV gD 37:=inn [] HK Tryz.ntmps114
noncomputable def D1:Cx:=⟨Tzp,115,Tryz.f115,9,[],[],[.t 4]⟩
theorem Hr:Good D1:=⟨Tryz.func115,by kernel_rfl⟩
theorem OH:D1.rs=[.t 4]:=rfl
noncomputable def O2:=BO D1 [] (G · [])
def OS:C:=(O2).1
theorem O0:Inn D1 OS 9:=inn [] Hr Tryz.ntmps115
noncomputable def Fx:Cx:=⟨Tzp,116,Tryz.f116,8,[],[],[.t 3]⟩
theorem M7:Good Fx:=⟨Tryz.func116,by kernel_rfl⟩
theorem VN:Fx.rs=[.t 3]:=rfl
noncomputable def WN:=BO Fx [] (G · [])
def Vu:C:=(WN).1
theorem WE:Inn Fx Vu 8:=inn [] M7 Tryz.ntmps116
noncomputable def Hn:Cx:=⟨Tzp,117,Tryz.f117,194,[300008,300010,300012,300022,300034,300044,300048,300059,300063,300073,300079,300085,300089,300097,300107,300113,300117,300127,300133,300137,300149,300159,300163,300171,300183,300191],[],[.t 2]⟩
theorem Ka:Good Hn:=⟨Tryz.func117,by kernel_rfl⟩
theorem Z9:Hn.rs=[.t 2]:=rfl
noncomputable def bO:=BO Hn [] (G · [])
def aQ:C:=(bO).1
theorem bH:Inn Hn aQ 194:=inn [] Ka Tryz.ntmps117
noncomputable def V1:Cx:=⟨Tzp,126,Tryz.f126,9,[],[],[.t 2]⟩
theorem oF:Good V1:=⟨Tryz.func126,by kernel_rfl⟩
theorem ABT:V1.rs=[.t 2]:=rfl
noncomputable def AEM:=BO V1 [] (G · [])
def AC6:C:=(AEM).1
theorem AD8:Inn V1 AC6 9:=inn [] oF Tryz.ntmps126
noncomputable def V2:Cx:=⟨Tzp,127,Tryz.f127,9,[],[],[.t 2]⟩
theorem oG:Good V2:=⟨Tryz.func127,by kernel_rfl⟩
theorem ABU:V2.rs=[.t 2]:=rfl
noncomputable def AEN:=BO V2 [] (G · [])
def AC7:C:=(AEN).1
theorem AD9:Inn V2 AC7 9:=inn [] oG Tryz.ntmps127
noncomputable def V0:Cx:=⟨Tzp,128,Tryz.f128,9,[],[],[.t 2]⟩
theorem oE:Good V0:=⟨Tryz.func128,by kernel_rfl⟩
theorem ABS:V0.rs=[.t 2]:=rfl
noncomputable def AEL:=BO V0 [] (G · [])
def AC5:C:=(AEL).1
theorem AD7:Inn V0 AC5 9:=inn [] oE Tryz.ntmps128
noncomputable def P8:Cx:=⟨Tzp,129,Tryz.f129,18,[],[],[.t 2]⟩
theorem Un:Good P8:=⟨Tryz.func129,by kernel_rfl⟩
theorem sZ:P8.rs=[.t 2]:=rfl
noncomputable def eB:=BO P8 [] fun c a=>G c [a]
def kO:C:=lpC 0 (eB .skip)
def wB:C:=(eB kO).1
theorem wT:Inn P8 wB 18:=inn [] Un Tryz.ntmps129
noncomputable def VZ:Cx:=⟨Tzp,130,Tryz.f130,23,[],[],[.t 2,.t 3]⟩
theorem aY:Good VZ:=⟨Tryz.func130,by kernel_rfl⟩
theorem ABR:VZ.rs=[.t 2,.t 3]:=rfl
noncomputable def oW:=BO VZ [] fun c a=>G c [a]
def rR:C:=lpC 0 (oW .skip)
def AC4:C:=(oW rR).1
theorem AD6:Inn VZ AC4 23:=inn [] aY Tryz.ntmps130
noncomputable def UQ:Cx:=⟨Tzp,131,Tryz.f131,35,[],[],[.t 2]⟩
theorem Ta:Good UQ:=⟨Tryz.func131,by kernel_rfl⟩
theorem AFL:UQ.rs=[.t 2]:=rfl
noncomputable def uM:=BO UQ [] fun c a=>G c [a]
def cY:C:=lpC 0 (uM .skip)
def AHV:C:=(uM cY).1
theorem uL:Inn UQ AHV 35:=inn [] Ta Tryz.ntmps131
noncomputable def Cf:Cx:=⟨Tzp,133,Tryz.f133,9,[],[],[.t 4]⟩
theorem GL:Good Cf:=⟨Tryz.func133,by kernel_rfl⟩
theorem Ki:Cf.rs=[.t 4]:=rfl
noncomputable def LR:=BO Cf [] (G · [])
def LN:C:=(LR).1
theorem LQ:Inn Cf LN 9:=inn [] GL Tryz.ntmps133
noncomputable def Dy:Cx:=⟨Tzp,134,Tryz.f134,8,[300005],[],[.t 3]⟩
theorem Il:Good Dy:=⟨Tryz.func134,by kernel_rfl⟩
theorem P1:Dy.rs=[.t 3]:=rfl
noncomputable def QU:=BO Dy [] (G · [])
def Pt:C:=(QU).1
theorem QJ:Inn Dy Pt 8:=inn [] Il Tryz.ntmps134
noncomputable def Cd:Cx:=⟨Tzp,135,Tryz.f135,9,[],[],[.t 4]⟩
theorem Fe:Good Cd:=⟨Tryz.func135,by kernel_rfl⟩
theorem KF:Cd.rs=[.t 4]:=rfl
noncomputable def Kf:=BO Cd [] (G · [])
def K5:C:=(Kf).1
theorem Kc:Inn Cd K5 9:=inn [] Fe Tryz.ntmps135
noncomputable def Dj:Cx:=⟨Tzp,136,Tryz.f136,8,[300005],[],[.t 3]⟩
theorem IV:Good Dj:=⟨Tryz.func136,by kernel_rfl⟩
theorem O6:Dj.rs=[.t 3]:=rfl
noncomputable def PX:=BO Dj [] (G · [])
def PI:C:=(PX).1
theorem PV:Inn Dj PI 8:=inn [] IV Tryz.ntmps136
noncomputable def Gf:Cx:=⟨Tzp,137,Tryz.f137,8,[300004],[],[.t 3]⟩
theorem Nj:Good Gf:=⟨Tryz.func137,by kernel_rfl⟩
theorem W0:Gf.rs=[.t 3]:=rfl
noncomputable def Xo:=BO Gf [] (G · [])
def Wx:C:=(Xo).1
theorem X9:Inn Gf Wx 8:=inn [] Nj Tryz.ntmps137
noncomputable def NT:Cx:=⟨Tzp,138,Tryz.f138,61,[300047,300052],[],[.t 2,.t 3,.t 4]⟩
theorem Ch:Good NT:=⟨Tryz.func138,by kernel_rfl⟩
theorem p8:NT.rs=[.t 2,.t 3,.t 4]:=rfl
noncomputable def Sg:=BO NT [] fun c a b=>G c [a,b]
def TO:C:=lpC 0 (Sg .skip .skip)
def gF:C:=lpC 1 (Sg TO .skip)
def rX:C:=(Sg TO gF).1
theorem sD:Inn NT rX 61:=inn [] Ch Tryz.ntmps138
noncomputable def EN:Cx:=⟨Tzp,139,Tryz.f139,19,[],[],[.t 4]⟩
theorem GN:Good EN:=⟨Tryz.func139,by kernel_rfl⟩
theorem Q3:EN.rs=[.t 4]:=rfl
noncomputable def J4:=BO EN [] fun c a=>G c [a]
def OU:C:=lpC 0 (J4 .skip)
def Qn:C:=(J4 OU).1
theorem Qx:Inn EN Qn 19:=inn [] GN Tryz.ntmps139
noncomputable def Hm:Cx:=⟨Tzp,140,Tryz.f140,39,[300006,300008,300011,300017,300020,300025,300031,300036],[],[.t 2]⟩
theorem E5:Good Hm:=⟨Tryz.func140,by kernel_rfl⟩
theorem Z8:Hm.rs=[.t 2]:=rfl
noncomputable def bN:=BO Hm [] (G · [])
def aP:C:=(bN).1
theorem bG:Inn Hm aP 39:=inn [] E5 Tryz.ntmps140
noncomputable def MR:Cx:=⟨Tzp,141,Tryz.f141,23,[300004,300008,300013,300019],[],[.t 2]⟩
theorem XY:Good MR:=⟨Tryz.func141,by kernel_rfl⟩
theorem lX:MR.rs=[.t 2]:=rfl
noncomputable def o3:=BO MR [] (G · [])
def nN:C:=(o3).1
theorem oP:Inn MR nN 23:=inn [] XY Tryz.ntmps141
noncomputable def K1:Cx:=⟨Tzp,142,Tryz.f142,9,[],[],[.t 2]⟩
theorem OZ:Good K1:=⟨Tryz.func142,by kernel_rfl⟩
theorem iS:K1.rs=[.t 2]:=rfl
noncomputable def lD:=BO K1 [] (G · [])
def kS:C:=(lD).1
theorem k7:Inn K1 kS 9:=inn [] OZ Tryz.ntmps142
noncomputable def Gd:Cx:=⟨Tzp,143,Tryz.f143,9,[3],[],[.t 4]⟩
theorem Nh:Good Gd:=⟨Tryz.func143,by kernel_rfl⟩
theorem WZ:Gd.rs=[.t 4]:=rfl
noncomputable def Xm:=BO Gd [] (G · [])
def Wv:C:=(Xm).1
theorem X7:Inn Gd Wv 9:=inn [] Nh Tryz.ntmps143
noncomputable def I6:Cx:=⟨Tzp,144,Tryz.f144,17,[300004,300008,300014],[],[.t 2]⟩
theorem IW:Good I6:=⟨Tryz.func144,by kernel_rfl⟩
theorem cB:I6.rs=[.t 2]:=rfl
noncomputable def eF:=BO I6 [] (G · [])
def c8:C:=(eF).1
theorem dU:Inn I6 c8 17:=inn [] IW Tryz.ntmps144
noncomputable def JU:Cx:=⟨Tzp,145,Tryz.f145,15,[],[],[.t 6]⟩
theorem Tc:Good JU:=⟨Tryz.func145,by kernel_rfl⟩
theorem fB:JU.rs=[.t 6]:=rfl
noncomputable def g7:=BO JU [] (G · [])
def gC:C:=(g7).1
theorem gX:Inn JU gC 15:=inn [] Tc Tryz.ntmps145
noncomputable def Hk:Cx:=⟨Tzp,146,Tryz.f146,19,[],[],[.t 2,.t 3]⟩
theorem QF:Good Hk:=⟨Tryz.func146,by kernel_rfl⟩
theorem Z7:Hk.rs=[.t 2,.t 3]:=rfl
noncomputable def bL:=BO Hk [] (G · [])
def aN:C:=(bL).1
theorem bE:Inn Hk aN 19:=inn [] QF Tryz.ntmps146
noncomputable def DG:Cx:=⟨Tzp,149,Tryz.f149,19,[],[],[.t 4]⟩
theorem E3:Good DG:=⟨Tryz.func149,by kernel_rfl⟩
theorem M1:DG.rs=[.t 4]:=rfl
noncomputable def HN:=BO DG [] fun c a=>G c [a]
def LO:C:=lpC 0 (HN .skip)
def Mh:C:=(HN LO).1
theorem Mt:Inn DG Mh 19:=inn [] E3 Tryz.ntmps149
noncomputable def Cs:Cx:=⟨Tzp,150,Tryz.f150,19,[],[],[.t 4]⟩
theorem EF:Good Cs:=⟨Tryz.func150,by kernel_rfl⟩
theorem Lx:Cs.rs=[.t 4]:=rfl
noncomputable def Gu:=BO Cs [] fun c a=>G c [a]
def K7:C:=lpC 0 (Gu .skip)
def MX:C:=(Gu K7).1
theorem MZ:Inn Cs MX 19:=inn [] EF Tryz.ntmps150
noncomputable def NU:Cx:=⟨Tzp,151,Tryz.f151,17,[],[],[.t 2]⟩
theorem Zk:Good NU:=⟨Tryz.func151,by kernel_rfl⟩
theorem p9:NU.rs=[.t 2]:=rfl
noncomputable def sL:=BO NU [] (G · [])
def rY:C:=(sL).1
theorem sE:Inn NU rY 17:=inn [] Zk Tryz.ntmps151
noncomputable def Pb:Cx:=⟨Tzp,152,Tryz.f152,75,[300038,300048,300064,300070,300020,300074],[],[.c 4 (some 3),.t 5]⟩
theorem dO:Good Pb:=⟨Tryz.func152,by kernel_rfl⟩
theorem s8:Pb.rs=[.c 4 (some 3),.t 5]:=rfl
noncomputable def w8:=BO Pb [] (G · [])
def wG:C:=(w8).1
theorem wW:Inn Pb wG 75:=inn [] dO Tryz.ntmps152
noncomputable def DN:Cx:=⟨Tzp,153,Tryz.f153,9,[],[],[.t 4]⟩
theorem H6:Good DN:=⟨Tryz.func153,by kernel_rfl⟩
theorem NG:DN.rs=[.t 4]:=rfl
noncomputable def Nz:=BO DN [] (G · [])
def N6:C:=(Nz).1
theorem Np:Inn DN N6 9:=inn [] H6 Tryz.ntmps153
noncomputable def F5:Cx:=⟨Tzp,154,Tryz.f154,8,[300005],[],[.t 3]⟩
theorem Lg:Good F5:=⟨Tryz.func154,by kernel_rfl⟩
theorem UE:F5.rs=[.t 3]:=rfl
noncomputable def Uy:=BO F5 [] (G · [])
def U9:C:=(Uy).1
theorem Uq:Inn F5 U9 8:=inn [] Lg Tryz.ntmps154
noncomputable def NX:Cx:=⟨Tzp,155,Tryz.f155,9,[],[],[.t 2]⟩
theorem Zm:Good NX:=⟨Tryz.func155,by kernel_rfl⟩
theorem qB:NX.rs=[.t 2]:=rfl
noncomputable def sN:=BO NX [] (G · [])
def r3:C:=(sN).1
theorem sG:Inn NX r3 9:=inn [] Zm Tryz.ntmps155
noncomputable def NZ:Cx:=⟨Tzp,156,Tryz.f156,9,[],[],[.t 2]⟩
theorem Zn:Good NZ:=⟨Tryz.func156,by kernel_rfl⟩
theorem qD:NZ.rs=[.t 2]:=rfl
noncomputable def sO:=BO NZ [] (G · [])
def r5:C:=(sO).1
theorem sI:Inn NZ r5 9:=inn [] Zn Tryz.ntmps156
noncomputable def MT:Cx:=⟨Tzp,157,Tryz.f157,22,[],[],[.t 4]⟩
theorem QH:Good MT:=⟨Tryz.func157,by kernel_rfl⟩
theorem lY:MT.rs=[.t 4]:=rfl
noncomputable def Xp:=BO MT [] fun c a=>G c [a]
def c9:C:=lpC 0 (Xp .skip)
def nO:C:=(Xp c9).1
theorem oQ:Inn MT nO 22:=inn [] QH Tryz.ntmps157
noncomputable def MU:Cx:=⟨Tzp,158,Tryz.f158,17,[],[],[.t 2]⟩
theorem XZ:Good MU:=⟨Tryz.func158,by kernel_rfl⟩
theorem lZ:MU.rs=[.t 2]:=rfl
noncomputable def o4:=BO MU [] (G · [])
def nP:C:=(o4).1
theorem oR:Inn MU nP 17:=inn [] XZ Tryz.ntmps158
noncomputable def K4:Cx:=⟨Tzp,159,Tryz.f159,33,[],[],[.t 2]⟩
theorem Vg:Good K4:=⟨Tryz.func159,by kernel_rfl⟩
theorem iU:K4.rs=[.t 2]:=rfl
noncomputable def lF:=BO K4 [] (G · [])
def kU:C:=(lF).1
theorem k9:Inn K4 kU 33:=inn [] Vg Tryz.ntmps159
noncomputable def NW:Cx:=⟨Tzp,160,Tryz.f160,9,[],[],[.t 2]⟩
theorem Zl:Good NW:=⟨Tryz.func160,by kernel_rfl⟩
theorem qA:NW.rs=[.t 2]:=rfl
noncomputable def sM:=BO NW [] (G · [])
def rZ:C:=(sM).1
theorem sF:Inn NW rZ 9:=inn [] Zl Tryz.ntmps160
noncomputable def NY:Cx:=⟨Tzp,161,Tryz.f161,21,[],[],[.t 2]⟩
theorem S1:Good NY:=⟨Tryz.func161,by kernel_rfl⟩
theorem qC:NY.rs=[.t 2]:=rfl
noncomputable def Zq:=BO NY [] fun c a=>G c [a]
def gG:C:=lpC 0 (Zq .skip)
def r4:C:=(Zq gG).1
theorem sH:Inn NY r4 21:=inn [] S1 Tryz.ntmps161
noncomputable def Pc:Cx:=⟨Tzp,162,Tryz.f162,32,[],[],[.t 2]⟩
theorem Uo:Good Pc:=⟨Tryz.func162,by kernel_rfl⟩
theorem s9:Pc.rs=[.t 2]:=rfl
noncomputable def w9:=BO Pc [] (G · [])
def wH:C:=(w9).1
theorem dV:Inn Pc wH 32:=inn [] Uo Tryz.ntmps162
noncomputable def Dx:Cx:=⟨Tzp,163,Tryz.f163,19,[],[],[.t 4]⟩
theorem Fg:Good Dx:=⟨Tryz.func163,by kernel_rfl⟩
theorem P0:Dx.rs=[.t 4]:=rfl
noncomputable def Iq:=BO Dx [] fun c a=>G c [a]
def N7:C:=lpC 0 (Iq .skip)
def Ps:C:=(Iq N7).1
theorem QI:Inn Dx Ps 19:=inn [] Fg Tryz.ntmps163
attribute [go_sem] ABV lW xY ABW lU O3 Ou iT YH VO ABQ lT fD RO Md Q4 UF Za fC OH VN Z9 ABT ABU ABS sZ ABR AFL Ki P1 KF O6 W0 p8 Q3 Z8 lX iS WZ cB fB Z7 M1 Lx p9 s8 NG UE qB qD lY lZ iU qA qC s9 P0
end
end Go.Ab
namespace Go.Ab
open Go.Proofs
theorem dF {ds:List DV} (h:DT Tzp 55 ds):∃l:List Str,ds=[.sl (l.map BF)]:=by
 obtain ⟨rows,rfl,_,hr⟩:=h.Xg Tryz.underlying55
 obtain ⟨l,rfl⟩:=Lw (f:=BF) rows (fun r hm=>by
  obtain ⟨s,rfl,_⟩:=(hr r hm).Uv Tryz.underlying9;exact ⟨s,rfl⟩)
 exact ⟨l,rfl⟩
theorem ATQ:∀(n:Nat) (ds:List DV),SizeOf.sizeOf ds<=n->DT Tzp 64 ds->∃t:TE,ds=t.enc:=by
 intro n
 induction n with
 |zero=>intro ds h;cases ds<;>simp at h
 |succ n ih=>
  intro ds hn h;obtain ⟨a,b,rfl,h1,hb⟩:=(h.Ke Tryz.underlying64).DK;obtain ⟨a2,b2,rfl,h2,hb2⟩:=hb.DK;obtain ⟨a3,b3,rfl,h3,hb3⟩:=hb2.DK;cases hb3.Uu;obtain ⟨k,rfl,_⟩:=h1.wY Tryz.underlying3;obtain ⟨m,rfl,_⟩:=h2.Uv Tryz.underlying9;obtain ⟨rows,rfl,_,hr⟩:=h3.Xg Tryz.underlying60
  obtain ⟨l,rfl⟩:=Lw (f:=TE.enc) rows (fun r hm=>ih r (by
   have:=List.sizeOf_lt_of_mem hm;simp only [AZ,As,BW,List.cons.sizeOf_spec,List.nil.sizeOf_spec,DV.int.sizeOf_spec,DV.str.sizeOf_spec,DV.sl.sizeOf_spec] at hn;omega) (hr r hm))
  exact ⟨.mk k m l,by rw [TE.A2];rfl⟩
theorem ATN:∀(n:Nat) (ds:List DV),SizeOf.sizeOf ds<=n->DT Tzp 69 ds->∃t:Ex,ds=t.enc:=by
 intro n
 induction n with
 |zero=>intro ds h;cases ds<;>simp at h
 |succ n ih=>
  intro ds hn h;obtain ⟨a,b,rfl,h1,hb⟩:=(h.Ke Tryz.underlying69).DK;obtain ⟨a2,b2,rfl,h2,hb2⟩:=hb.DK;obtain ⟨a3,b3,rfl,h3,hb3⟩:=hb2.DK;obtain ⟨a4,b4,rfl,h4,hb4⟩:=hb3.DK;obtain ⟨a5,b5,rfl,h5,hb5⟩:=hb4.DK;obtain ⟨a6,b6,rfl,h6,hb6⟩:=hb5.DK;cases hb6.Uu;obtain ⟨o,rfl,_⟩:=h1.wY Tryz.underlying3;obtain ⟨m,rfl,_⟩:=h2.Uv Tryz.underlying9;obtain ⟨u,rfl,_⟩:=h3.wY Tryz.underlying2;obtain ⟨ns,rfl⟩:=dF h4;obtain ⟨rows,rfl,_,hr⟩:=h5.Xg Tryz.underlying66;obtain ⟨rows2,rfl,_,hr2⟩:=h6.Xg Tryz.underlying67;simp only [AZ,As,BW,List.cons.sizeOf_spec,List.nil.sizeOf_spec,DV.int.sizeOf_spec,DV.str.sizeOf_spec,DV.sl.sizeOf_spec] at hn
  obtain ⟨l,rfl⟩:=Lw (f:=Ex.enc) rows (fun r hm=>ih r (by
   have:=List.sizeOf_lt_of_mem hm;omega) (hr r hm))
  obtain ⟨l2,rfl⟩:=Lw (f:=Al.enc) rows2 (fun r hm=>by
   have hlt:=List.sizeOf_lt_of_mem hm;obtain ⟨c1,d1,rfl,g1,e1⟩:=((hr2 r hm).Ke Tryz.underlying117).DK;obtain ⟨c2,d2,rfl,g2,e2⟩:=e1.DK;obtain ⟨c3,d3,rfl,g3,e3⟩:=e2.DK;cases e3.Uu;obtain ⟨c,rfl,_⟩:=g1.Uv Tryz.underlying9;obtain ⟨vs,rfl⟩:=dF g2;simp only [AZ,As,BW,List.cons.sizeOf_spec,DV.str.sizeOf_spec,DV.sl.sizeOf_spec] at hlt;obtain ⟨e,rfl⟩:=ih c3 (by omega) g3;exact ⟨.mk c vs e,by simp [Al.enc,ssD]⟩)
  exact ⟨.mk o m u ns l l2,by rw [Ex.A2];rfl⟩
theorem ATL (ds:List DV) (h:DT Tzp 62 ds):∃c:CE,ds=c.enc:=by
 obtain ⟨a,b,rfl,h1,hb⟩:=(h.Ke Tryz.underlying62).DK;obtain ⟨a2,b2,rfl,h2,hb2⟩:=hb.DK;cases hb2.Uu;obtain ⟨s,rfl,_⟩:=h1.Uv Tryz.underlying9;obtain ⟨rows,rfl,_,hr⟩:=h2.Xg Tryz.underlying60;obtain ⟨l,rfl⟩:=Lw (f:=TE.enc) rows (fun r hm=>ATQ _ r (AW _) (hr r hm));exact ⟨⟨s,l⟩,rfl⟩
theorem ATM (ds:List DV) (h:DT Tzp 58 ds):∃c:DE,ds=c.enc:=by
 obtain ⟨a,b,rfl,h1,hb⟩:=(h.Ke Tryz.underlying58).DK;obtain ⟨a2,b2,rfl,h2,hb2⟩:=hb.DK;obtain ⟨a3,b3,rfl,h3,hb3⟩:=hb2.DK;cases hb3.Uu;obtain ⟨s,rfl,_⟩:=h1.Uv Tryz.underlying9;obtain ⟨vs,rfl⟩:=dF h2;obtain ⟨rows,rfl,_,hr⟩:=h3.Xg Tryz.underlying56;obtain ⟨l,rfl⟩:=Lw (f:=CE.enc) rows (fun r hm=>ATL r (hr r hm));exact ⟨⟨s,vs,l⟩,rfl⟩
theorem ATO (ds:List DV) (h:DT Tzp 71 ds):∃c:FE,ds=c.enc:=by
 obtain ⟨a,b,rfl,h1,hb⟩:=(h.Ke Tryz.underlying71).DK;obtain ⟨a2,b2,rfl,h2,hb2⟩:=hb.DK;obtain ⟨a3,b3,rfl,h3,hb3⟩:=hb2.DK;cases hb3.Uu;obtain ⟨s,rfl,_⟩:=h1.Uv Tryz.underlying9;obtain ⟨vs,rfl⟩:=dF h2;obtain ⟨e,rfl⟩:=ATN _ a3 (AW _) h3;exact ⟨⟨s,vs,e⟩,by simp [FE.enc]⟩
theorem ATP (ds:List DV) (h:DT Tzp 25 ds):∃p:Pg,ds=p.enc:=by
 obtain ⟨a,b,rfl,h1,hb⟩:=(h.Ke Tryz.underlying25).DK;obtain ⟨a2,b2,rfl,h2,hb2⟩:=hb.DK;cases hb2.Uu;obtain ⟨rows,rfl,_,hr⟩:=h1.Xg Tryz.underlying22;obtain ⟨l,rfl⟩:=Lw (f:=DE.enc) rows (fun r hm=>ATM r (hr r hm));obtain ⟨rows2,rfl,_,hr2⟩:=h2.Xg Tryz.underlying23;obtain ⟨l2,rfl⟩:=Lw (f:=FE.enc) rows2 (fun r hm=>ATO r (hr2 r hm));exact ⟨⟨l,l2⟩,rfl⟩
theorem APO {av:List AV} (h:jG Tzp [25] av):∃p:Pg,av=[pgA p]:=by
 cases h with
 |cons h1 h=>
  cases h;obtain ⟨p,rfl⟩:=ATP _ h1;exact ⟨p,by rw [jH Tryz.underlying25];rfl⟩
end Go.Ab
namespace Go.Ab
open Go.Proofs
def iA (n:Int):Bool:=decide (97<=n)&&decide (n<=122)
def fI (n:Int):Bool:=decide (65<=n)&&decide (n<=90)
def Ld (n:Int):Bool:=decide (48<=n)&&decide (n<=57)
def Kk (n:Int):Bool:=iA n||fI n||Ld n||(n==95)
def vY (n:Int):Bool:=(n==9)||(n==10)||(n==13)||(n==32)
theorem YV (n:Int) (σ:AI):AT Tzp 155 [.d (.int .u8 n)] σ (fun v σ'=>v= .d (.bool (iA n))/\σ'=σ):=by
 refine sG (by simp) ?_;rw [Bq];(repeat' ((first|refine wQ mxQ rfl ?_|refine Run.qP Zm ?_|(refine A7 rfl (fun h=>?_) (fun h=>?_)<;>try (cases h;done))|fail)<;>try simp only [go_sem]))
 all_goals (simp_all [iA];try omega)
theorem YW (n:Int) (σ:AI):AT Tzp 156 [.d (.int .u8 n)] σ (fun v σ'=>v= .d (.bool (fI n))/\σ'=σ):=by
 refine sI (by simp) ?_;rw [Bq];(repeat' ((first|refine wQ mxQ rfl ?_|refine Run.qP Zn ?_|(refine A7 rfl (fun h=>?_) (fun h=>?_)<;>try (cases h;done))|fail)<;>try simp only [go_sem]))
 all_goals (simp_all [fI];try omega)
theorem Qa (n:Int) (σ:AI):AT Tzp 160 [.d (.int .u8 n)] σ (fun v σ'=>v= .d (.bool (Ld n))/\σ'=σ):=by
 refine sF (by simp) ?_;rw [Bq];(repeat' ((first|refine wQ mxQ rfl ?_|refine Run.qP Zl ?_|(refine A7 rfl (fun h=>?_) (fun h=>?_)<;>try (cases h;done))|fail)<;>try simp only [go_sem]))
 all_goals (simp_all [Ld];try omega)
theorem Ky (n:Int) (σ:AI):AT Tzp 126 [.d (.int .u8 n)] σ (fun v σ'=>v= .d (.bool (iA n))/\σ'=σ):=by
 refine AD8 (by simp) ?_;rw [Bq];(repeat' ((first|refine wQ mxQ rfl ?_|refine Run.qP oF ?_|(refine A7 rfl (fun h=>?_) (fun h=>?_)<;>try (cases h;done))|fail)<;>try simp only [go_sem]))
 all_goals (simp_all [iA];try omega)
theorem Kz (n:Int) (σ:AI):AT Tzp 127 [.d (.int .u8 n)] σ (fun v σ'=>v= .d (.bool (fI n))/\σ'=σ):=by
 refine AD9 (by simp) ?_;rw [Bq];(repeat' ((first|refine wQ mxQ rfl ?_|refine Run.qP oG ?_|(refine A7 rfl (fun h=>?_) (fun h=>?_)<;>try (cases h;done))|fail)<;>try simp only [go_sem]))
 all_goals (simp_all [fI];try omega)
theorem Iv (n:Int) (σ:AI):AT Tzp 128 [.d (.int .u8 n)] σ (fun v σ'=>v= .d (.bool (Ld n))/\σ'=σ):=by
 refine AD7 (by simp) ?_;rw [Bq];(repeat' ((first|refine wQ mxQ rfl ?_|refine Run.qP oE ?_|(refine A7 rfl (fun h=>?_) (fun h=>?_)<;>try (cases h;done))|fail)<;>try simp only [go_sem]))
 all_goals (simp_all [Ld];try omega)
theorem MG (n:Int) (σ:AI):AT Tzp 151 [.d (.int .u8 n)] σ (fun v σ'=>v= .d (.bool (vY n))/\σ'=σ):=by
 refine sE (by simp) ?_;rw [Bq];(repeat' ((first|refine wQ mxQ rfl ?_|refine Run.qP Zk ?_|(refine A7 rfl (fun h=>?_) (fun h=>?_)<;>try (cases h;done))|fail)<;>try simp only [go_sem]))
 all_goals simp_all [vY]
theorem mA (n:Int) (σ:AI):AT Tzp 158 [.d (.int .u8 n)] σ (fun v σ'=>v= .d (.bool (Kk n))/\σ'=σ):=by
 refine oR (by simp) ?_;rw [Bq];(repeat' (first|((first|refine wQ mxQ rfl ?_|refine Run.qP XZ ?_|refine AH.det (YV _ _) ?_|refine AH.det (YW _ _) ?_|refine AH.det (Qa _ _) ?_|(refine A7 rfl (fun h=>?_) (fun h=>?_)<;>try (cases h;done))|fail)<;>try simp only [go_sem])|(refine ⟨fun h=>?_,fun h=>?_⟩<;>first|(cases h;done)|try simp only [h])|fail))
 all_goals simp_all [Kk]
def KC:List Str:=[[97,114,114,97,121],[98,111,111,108],[99,97,116,99,104],[100,97,116,97],[101,108,115,101],[101,110,100],[102,97,108,115,101],[102,110],[102,117,110],[103,101,116],[105,102],[105,110],[105,110,116],[108,101,110],[108,101,116],[109,97,116,99,104],[110,101,119],[114,97,105,115,101],[114,101,97,100],[114,101,102],[115,101,116],[116,104,101,110],[116,105,99,107],[116,114,117,101],[116,114,121],[117,110,105,116],[119,105,116,104],[119,114,105,116,101]]
def xD (s:Str):Bool:=KC.any (s==·)
theorem jA (s:Str) (σ:AI):AT Tzp 159 [.d (.str s)] σ (fun v σ'=>v= .d (.bool (xD s))/\σ'=σ):=by
 refine k9 (by simp) ?_;rw [Bq];(repeat' (first|((first|refine wQ mxQ rfl ?_|refine Run.qP Vg ?_|(refine A7 rfl (fun h=>?_) (fun h=>?_)<;>try (cases h;done))|fail)<;>try simp only [go_sem])|(refine ⟨fun h=>?_,fun h=>?_⟩<;>first|(cases h;done)|try simp only [h])|fail))
 all_goals simp only [xD,KC,MV,List.any_nil,H2,EU,ON,Bool.or_true,and_self, *]
end Go.Ab
namespace Go.Ab
open Go.Proofs
theorem sV (s:Str) (σ:AI):AT Tzp 129 [.d (.str s)] σ (fun v σ'=>v= .d (.bool (xD s))/\σ'=σ):=by
 refine wT (by simp) ?_;rw [Bq]
 (repeat (first
   |refine Run.seq ?_
   |refine Run.skip ?_
   |refine Run.block ?_
   |refine Run.blk ?_
   |refine Run.scope ?_
   |refine Run.scp ?_
   |(refine Run.exit rfl ?_)
   |(refine rgQ mxQ ?_;simp only [go_sem])
   |(refine cdQ ?_;simp only [go_sem])))
 refine Run.At ?_;refine Run.Au ((fun (a0:AV)=>fun (i:Nat)=>put 0 a0 (put 3 (.d (.sl (KC.map BF))) (put 4 (.d (.int .i64 i)) U))) _) (fun _=>E) (fun _=>σ) (fun i=>i<=KC.length/\xD s=(KC.drop i).any (s==·)) (fun i=>KC.length - i) ?_ 0 ⟨by omega,rfl⟩;rintro i ⟨hi,hs⟩ ih;by_cases hlt:i < KC.length
 . obtain ⟨x,hx⟩:=Ai hlt;have he:=Av (enc:=BF) hx;rw [Bu hx,MV] at hs;(repeat' (first|((first|refine wQ mxQ rfl ?_|refine Run.qP Un ?_|fail)<;>try simp only [AA,Ag hlt,he,BF,A4 (show i+1<=9000000000000000000 by have:KC.length=28:=rfl;omega),go_sem])|(refine ⟨fun h=>?_,fun h=>?_⟩<;>first|(cases h;done)|try simp only [h])|fail))
   . rw [hs];simp_all
   . refine ih (i+1) ⟨hlt,?_⟩ (by omega);rw [hs,show (s==x)=(x==s) from BEq.comm,h,EU]
 . have hge:i=KC.length:=by omega
   (repeat' ((first|refine wQ mxQ rfl ?_|refine Run.qP Un ?_|fail)<;>try simp only [AA,B5 hlt,go_sem]));rw [hs,hge];rfl
def Ru:Str->Int->Option Int
 |[],v=>some v
 |b::r,v=>if v * 10+IntKind.u8.wrap ((b.toNat:Int) - 48)>1000000 then none else Ru r (v * 10+IntKind.u8.wrap ((b.toNat:Int) - 48))
theorem AS5 (a:Int):0<=IntKind.u8.wrap a/\IntKind.u8.wrap a<=255:=by
 have h1:IntKind.u8.wrap a=a % 256:=by rfl
 rw [h1];omega
theorem ABJ (s:Str) (σ:AI) (hl:s.length<=1000000000):AT Tzp 130 [.d (.str s)] σ (fun v σ'=>v=(match Ru s 0 with|some n=>.tup [.d (.int .i64 n),.d (.bool true)]|none=>.tup [.d (.int .i64 0),.d (.bool false)])/\σ'=σ):=by
 refine AD6 (by simp) ?_;rw [Bq]
 (repeat (first
   |refine Run.seq ?_
   |refine Run.skip ?_
   |refine Run.block ?_
   |refine Run.blk ?_
   |refine Run.scope ?_
   |refine Run.scp ?_
   |(refine Run.exit rfl ?_)
   |(refine rgQ mxQ ?_;simp only [go_sem])
   |(refine cdQ ?_;simp only [go_sem])))
 refine Run.At ?_;refine Run.Au ((fun (a0:AV)=>fun (y:Nat×Int)=>put 0 a0 (put 4 (.d (.int .i64 y.2)) (put 5 (.d (.int .i64 y.1)) U))) _) (fun _=>E) (fun _=>σ) (fun y=>y.1<=s.length/\0<=y.2/\y.2<=1000000/\Ru s 0=Ru (s.drop y.1) y.2) (fun y=>s.length - y.1) ?_ (0,0) ⟨by simp,by simp,by simp,rfl⟩;rintro ⟨i,v⟩ ⟨hi,h0,h1,hs⟩ ih;simp only at hi h0 h1 hs;by_cases hlt:i < s.length
 . obtain ⟨x,hx⟩:=Ai hlt;rw [Bu hx,Ru] at hs;have hu:=AS5 ((x.toNat:Int) - 48);have e1:IntKind.i64.wrap (v * 10)=v * 10:=Ax (by omega) (by omega);have e2:IntKind.i64.wrap (IntKind.u8.wrap ((x.toNat:Int) - 48))=IntKind.u8.wrap ((x.toNat:Int) - 48):=Ax (by omega) (by omega);have e3:IntKind.i64.wrap (v * 10+IntKind.u8.wrap ((x.toNat:Int) - 48))=v * 10+IntKind.u8.wrap ((x.toNat:Int) - 48):=Ax (by omega) (by omega);(repeat' (first|((first|refine wQ mxQ rfl ?_|refine Run.qP aY ?_|fail)<;>try simp only [Ag hlt,Df hx,e1,e2,e3,A4 (show i+1<=9000000000000000000 by omega),go_sem])|(refine ⟨fun h=>?_,fun h=>?_⟩<;>first|(cases h;done)|try simp only [h])|fail))
   . have:v * 10+IntKind.u8.wrap ((x.toNat:Int) - 48)>1000000:=by simpa using h
     rw [hs,if_pos this]
   . have:¬v * 10+IntKind.u8.wrap ((x.toNat:Int) - 48)>1000000:=by simpa using h
     rw [if_neg this] at hs;exact ih (i+1,_) ⟨hlt,by simp only;omega,by simp only;omega,hs⟩ (by simp only;omega)
 . have hge:i=s.length:=by omega
   (repeat' ((first|refine wQ mxQ rfl ?_|refine Run.qP aY ?_|fail)<;>try simp only [B5 hlt,go_sem]));rw [hs,hge,Jk,Ru]
end Go.Ab
namespace Go.Ab
open Go.Proofs
def qM:Str:=[40,41,44,61,124,43,45,42,47,37,60,59,95]
def yB (b:UInt8):Nat:=if qM.any (b==·) then 1 else 0
def AOL (b c:UInt8):Bool:=([b,c]==[45,62])||([b,c]==[60,61])||([b,c]==[61,61])
def KH:Str->Nat
 |[]=>0
 |[b]=>yB b
 |b::c::_=>if AOL b c then 2 else yB b
theorem ASW:decide ((2:Int)<=((1:Nat):Int))=false:=rfl
theorem ASX (n:Nat):decide ((2:Int)<=((n+1+1:Nat):Int))=true:=by simp;omega
theorem AVS (b c:UInt8):([b]==[c])=(b==c):=by
 rw [An];simp
theorem tD (s:Str) (σ:AI) (hs:s≠[]):AT Tzp 162 [.d (.str s)] σ (fun v σ'=>v= .d (.str (s.take (KH s)))/\σ'=σ):=by
 match s,hs with
 |[b],_=>
  refine dV (by simp) ?_;rw [Bq];(repeat' (first|refine ctQ rfl ?_|((first|refine rgQ mxQ ?_|refine cdQ ?_|refine Run.qP Uo ?_)<;>try simp only [ASW,AS2,AVS,go_sem])|(refine ⟨fun h=>?_,fun h=>?_⟩<;>first|(cases h;done)|try simp only [h])|fail))
  all_goals simp only [KH,yB,qM,MV,List.any_nil,H2,EU,ON,Bool.or_true,reduceIte,Cj,Cn,A3,and_self, *]
 |b::c::r,_=>
  refine dV (by simp) ?_;rw [Bq];(repeat' (first|refine ctQ rfl ?_|((first|refine rgQ mxQ ?_|refine cdQ ?_|refine Run.qP Uo ?_)<;>try simp only [ASX,AS2,AS3,AVS,go_sem])|(refine ⟨fun h=>?_,fun h=>?_⟩<;>first|(cases h;done)|try simp only [h])|fail))
  all_goals simp only [KH,AOL,yB,qM,MV,List.any_nil,H2,EU,ON,Bool.or_true,reduceIte,Cj,Cn,A3,and_self, *]
theorem qY (s:Str) (σ:AI) (hl:s.length<=1000000000):AT Tzp 161 [.d (.str s)] σ (fun v σ'=>v= .d (.bool (Ru s 0).isSome)/\σ'=σ):=by
 refine sH (by simp) ?_;rw [Bq]
 (repeat (first
   |refine Run.seq ?_
   |refine Run.skip ?_
   |refine Run.block ?_
   |refine Run.blk ?_
   |refine Run.scope ?_
   |refine Run.scp ?_
   |(refine Run.exit rfl ?_)
   |(refine rgQ mxQ ?_;simp only [go_sem])
   |(refine cdQ ?_;simp only [go_sem])))
 refine Run.At ?_;refine Run.Au ((fun (a0:AV) (a6:AV)=>fun (y:Nat×Int)=>put 0 a0 (put 3 (.d (.int .i64 y.2)) (put 6 a6 (put 7 (.d (.int .i64 y.1)) U)))) _ _) (fun _=>E) (fun _=>σ) (fun y=>y.1<=s.length/\0<=y.2/\y.2<=1000000/\Ru s 0=Ru (s.drop y.1) y.2) (fun y=>s.length - y.1) ?_ (0,0) ⟨by simp,by simp,by simp,rfl⟩;rintro ⟨i,v⟩ ⟨hi,h0,h1,hs⟩ ih;simp only at hi h0 h1 hs;by_cases hlt:i < s.length
 . obtain ⟨x,hx⟩:=Ai hlt;rw [Bu hx,Ru] at hs;have hu:=AS5 ((x.toNat:Int) - 48);have e1:IntKind.i64.wrap (v * 10)=v * 10:=Ax (by omega) (by omega);have e2:IntKind.i64.wrap (IntKind.u8.wrap ((x.toNat:Int) - 48))=IntKind.u8.wrap ((x.toNat:Int) - 48):=Ax (by omega) (by omega);have e3:IntKind.i64.wrap (v * 10+IntKind.u8.wrap ((x.toNat:Int) - 48))=v * 10+IntKind.u8.wrap ((x.toNat:Int) - 48):=Ax (by omega) (by omega);(repeat' (first|((first|refine wQ mxQ rfl ?_|refine Run.qP S1 ?_|fail)<;>try simp only [Ag hlt,Df hx,e1,e2,e3,A4 (show i+1<=9000000000000000000 by omega),go_sem])|(refine ⟨fun h=>?_,fun h=>?_⟩<;>first|(cases h;done)|try simp only [h])|fail))
   . have:v * 10+IntKind.u8.wrap ((x.toNat:Int) - 48)>1000000:=by simpa using h
     rw [hs,if_pos this];rfl
   . have:¬v * 10+IntKind.u8.wrap ((x.toNat:Int) - 48)>1000000:=by simpa using h
     rw [if_neg this] at hs;exact ih (i+1,_) ⟨hlt,by simp only;omega,by simp only;omega,hs⟩ (by simp only;omega)
 . have hge:i=s.length:=by omega
   (repeat' ((first|refine wQ mxQ rfl ?_|refine Run.qP S1 ?_|fail)<;>try simp only [B5 hlt,go_sem]));rw [hs,hge,Jk,Ru];rfl
end Go.Ab
namespace Go.Ab
open Go.Proofs
def FP (c:Int->Bool) (b:UInt8):Bool:=c b.toNat
theorem Fo {c:UInt8->Bool} {s:Str} {i:Nat} (h:∀j b,j < i->s[j]?=some b->c b=true) (hi:i<=s.length) (he:∀b,s[i]?=some b->c b=false):s.takeWhile c=s.take i:=by
 induction i generalizing s with
 |zero=>
  cases s with
  |nil=>rfl
  |cons b r=>simp [he b rfl]
 |succ i ih=>
  cases s with
  |nil=>simp at hi
  |cons b r=>
   have hb:c b=true:=h 0 b (by omega) rfl;rw [List.takeWhile_cons,hb,if_pos rfl,Cj,ih (fun j b hj hb=>h (j+1) b (by omega) hb) (by simpa using hi) (fun b hb=>he b hb)]
theorem Vm {fid:FuncId} (hb:Ca Tzp fid=true) (c:Int->Bool) (hc:∀n σ,AT Tzp fid [.d (.int .u8 n)] σ (fun v σ'=>v= .d (.bool (c n))/\σ'=σ)) (s:Str) (σ:AI) (hl:s.length<=1000000000):
 AT Tzp 157 [.d (.str s),.fn fid [] []] σ (fun v σ'=>v= .d (.str (s.takeWhile (FP c)))/\σ'=σ):=by
 refine oQ (by simp) ?_;rw [BK]
 (repeat (first
   |refine Run.seq ?_
   |refine Run.skip ?_
   |refine Run.block ?_
   |refine Run.blk ?_
   |refine Run.scope ?_
   |refine Run.scp ?_
   |(refine Run.exit rfl ?_)
   |(refine rgQ mxQ ?_;simp only [go_sem])
   |(refine cdQ ?_;simp only [go_sem])))
 refine Run.At ?_;refine Run.Au ((fun (a0:AV) (a1:AV)=>fun (i:Nat)=>put 0 a0 (put 1 a1 (put 5 (.d (.int .i64 i)) U))) _ _) (fun _=>E) (fun _=>σ) (fun i=>i<=s.length/\∀j b,j < i->s[j]?=some b->FP c b=true) (fun i=>s.length - i) ?_ 0 ⟨by simp,by simp⟩;rintro i ⟨hi,hs⟩ ih;by_cases hlt:i < s.length
 . obtain ⟨x,hx⟩:=Ai hlt;(repeat' (first|((first|refine wQ mxQ rfl ?_|(refine ⟨fid,[],[],rfl,hb,AH.det (hc _ _) ?_⟩)|refine Run.qP QH ?_|fail)<;>try simp only [Ag hlt,Df hx,yG hi,A4 (show i+1<=9000000000000000000 by omega),go_sem])|(refine ⟨fun h=>?_,fun h=>?_⟩<;>first|(cases h;done)|try simp only [h])|fail))
   . refine ih (i+1) ⟨hlt,fun j b hj hb=>?_⟩ (by omega);rcases C7 j i with h2|h2
     . exact hs j b h2 hb
     . have:j=i:=by omega
       subst this;rw [hx] at hb;cases hb;exact h
   . rw [Fo hs hi (fun b hb=>by rw [hx] at hb;cases hb;exact h)]
 . have hge:i=s.length:=by omega
   (repeat' ((first|refine wQ mxQ rfl ?_|refine Run.qP QH ?_|fail)<;>try simp only [B5 hlt,yG hi,go_sem]));rw [Fo hs hi (fun b hb=>by rw [hge] at hb;simp at hb)]
theorem AFC (s:Str) (σ:AI) (hs:s≠[]):AT Tzp 131 [.d (.str s)] σ (fun v σ'=>v= .d (.int .i64 (KH s))/\σ'=σ):=by
 have hloop:∀(b:UInt8) (r:Str),(KH (b::r)=yB b)->Run UQ (fun v σ'=>v= .d (.int .i64 (KH (b::r)))/\σ'=σ) [.again cY,.blk 0,.code (.seq (.reg [⟨some 2,.mv (.c (.d (.int .i64 0))),none⟩] [2]) .ret)] (put 0 (.d (.str (b::r))) (put 3 (.d (.str qM)) (put 4 (.d (.int .i64 0)) U))) E σ:=by
  intro b r hbr;refine Run.Au ((fun (a0:AV) (a3:AV)=>fun (i:Nat)=>put 0 a0 (put 3 a3 (put 4 (.d (.int .i64 i)) U))) _ _) (fun _=>E) (fun _=>σ) (fun i=>i<=qM.length/\qM.any (b==·)=(qM.drop i).any (b==·)) (fun i=>qM.length - i) ?_ 0 ⟨by simp,rfl⟩;rintro i ⟨hi,hs⟩ ih;have hn:qM.length=13:=rfl;have h0:(b::r)[0]?=some b:=rfl;by_cases hlt:i < qM.length
  . obtain ⟨x,hx⟩:=Ai hlt;rw [Bu hx,MV] at hs;have hz:=Df h0 .i64;rw [show ((0:Nat):Int)=0 from rfl] at hz;(repeat' (first|((first|refine wQ mxQ rfl ?_|refine Run.qP Ta ?_|fail)<;>try simp only [Ag hlt,Df hx,hz,AR3,A4 (show i+1<=9000000000000000000 by omega),go_sem])|(refine ⟨fun h=>?_,fun h=>?_⟩<;>first|(cases h;done)|try simp only [h])|fail))
    . rw [hbr,yB,hs,h];rfl
    . exact ih (i+1) ⟨hlt,by rw [hs,h];rfl⟩ (by omega)
  . have hge:i=qM.length:=by omega
    (repeat' ((first|refine wQ mxQ rfl ?_|refine Run.qP Ta ?_|fail)<;>try simp only [B5 hlt,go_sem]));rw [hbr,yB,hs,hge];rfl
 match s,hs with
 |[b],_=>
  refine uL (by simp) ?_;rw [Bq];(repeat' ((first|refine wQ mxQ rfl ?_|refine Run.qP Ta ?_|fail)<;>try simp only [ASW,go_sem]));exact Run.At (hloop b [] rfl)
 |b::c::r,_=>
  refine uL (by simp) ?_;rw [Bq];(repeat' (first|((first|refine wQ mxQ rfl ?_|refine Run.qP Ta ?_|(refine A7 rfl (fun h=>?_) (fun h=>?_)<;>try (cases h;done))|fail)<;>try simp only [ASX,AS3,go_sem])|(refine ⟨fun h=>?_,fun h=>?_⟩<;>first|(cases h;done)|try simp only [h])|fail))
  all_goals (first|exact Run.At (hloop b (c::r) (by simp only [KH,AOL, *];rfl))|(simp only [KH,AOL, *];rfl))
end Go.Ab
namespace Go.Ab
open Go.Proofs
def I2:Str->Except Int (Int×Str)
 |[]=>.error 2
 |b::r=>
  if iA b.toNat||fI b.toNat then
   if decide (((b::r).takeWhile (FP Kk)).length>24) then .error 9
                                  else if fI b.toNat then .ok (2,(b::r).takeWhile (FP Kk))
                                  else if xD ((b::r).takeWhile (FP Kk)) then .ok (4,(b::r).takeWhile (FP Kk))
                                  else .ok (1,(b::r).takeWhile (FP Kk))
                                  else if Ld b.toNat then
   if b==48&&decide (((b::r).takeWhile (FP Ld)).length>1) then .error 2
                                         else if (Ru ((b::r).takeWhile (FP Ld)) 0).isSome then .ok (3,(b::r).takeWhile (FP Ld))
                                         else .error 9
                                         else if (b::r).take (KH (b::r))==[] then .error 2
                                         else .ok (5,(b::r).take (KH (b::r)))
def AKT (k:Int) (t:Str) (p:Int):AV:= .agg [.d (.int .i64 k),.d (.str t),.d (.int .i64 p)]
def ABZ (p:Int):Except Int (Int×Str)->AV
 | .error e=>.tup [AKT 0 [] 0,.d (.int .i64 e)]
 | .ok (k,t)=>.tup [AKT k t p,.d (.int .i64 0)]
theorem Gq {α:Type} (p:α->Bool) (l:List α):(l.takeWhile p).length<=l.length:=(List.takeWhile_prefix p).length_le
theorem AO3 (b:UInt8):((b.toNat:Int)==48)=(b==48):=AR3 b 48
theorem AWF (n:Nat):decide ((24:Int) < (n:Int))=decide (n>24):=decide_eq_decide.2 (by omega)
theorem gt1 (n:Nat):decide ((1:Int) < (n:Int))=decide (n>1):=decide_eq_decide.2 (by omega)
theorem AIQ:Ca Tzp 158=true:=by kernel_rfl
theorem AMR:Ca Tzp 160=true:=by kernel_rfl
theorem Zy (src:Str) (i:Nat) (σ:AI) (hl:src.length<=1000000000) (hi:i < src.length):
 AT Tzp 152 [.d (.str src),.d (.int .i64 i)] σ (fun v σ'=>v=ABZ i (I2 (src.drop i))/\σ'=σ):=by
 obtain ⟨b,hb⟩:=Ai hi;have hd:=Bu hb;rw [hd];have hld:(src.drop i).length<=1000000000:=by simp;omega
 rw [hd] at hld;have hw1:=Gq (FP Kk) (b::src.drop (i+1));have hw2:=Gq (FP Ld) (b::src.drop (i+1));have hs1:YO (.d (.str src)) (some (.d (.int .i64 (i:Int)))) none=some (.d (.str (b::src.drop (i+1)))):=by rw [AOQ (by omega),hd]
 refine wW (by simp) ?_;rw [BK];generalize src.drop (i+1)=r at *;(repeat' (first|((first|refine wQ mxQ rfl ?_|refine Run.qP dO ?_|refine AH.det (YV _ _) ?_|refine AH.det (YW _ _) ?_|refine AH.det (Qa _ _) ?_|refine AH.det (jA _ _) ?_|refine AH.det (qY _ _ (by omega)) ?_|refine AH.det (tD _ _ (by simp)) ?_|refine AH.det (Vm (c:=Kk) AIQ mA _ _ hld) ?_|refine AH.det (Vm (c:=Ld) AMR Qa _ _ hld) ?_|(refine A7 rfl (fun h=>?_) (fun h=>?_)<;>try (cases h;done))|fail)<;>try simp only [Df hb,hs1,AO3,AWF,gt1,go_sem])|(refine ⟨fun h=>?_,fun h=>?_⟩<;>first|(cases h;done)|try simp only [h])|fail))
 all_goals (clear hw1 hw2 hs1 hd hld;first|(simp only [I2,ABZ,AKT, *,Bool.or_true,ON,H2,EU,B7,BY,CT,Bp,A3,reduceIte];done)|simp_all [I2,ABZ,AKT])
end Go.Ab
namespace Go.Ab
open Go.Proofs
structure Tok where
 kind:Int
 text:Str
 pos:Nat
def Tok.enc (t:Tok):List DV:=[.int .i64 t.kind,.str t.text,.int .i64 t.pos]
def cmt (s:Str):Nat:=(s.takeWhile (fun c=>!(c==10))).length
def I4:Nat->Str->Nat->List Tok->List Tok×Nat×Int
 |0,_,_,_=>([],0,0)
 |n+1,rest,i,acc=>match rest with
  |[]=>(acc++[⟨6,[],i⟩],0,0)
  |b::r=>
   if vY b.toNat then I4 n r (i+1) acc
                               else if b==35 then I4 n ((b::r).drop (cmt (b::r))) (i+cmt (b::r)) acc
                               else match I2 (b::r) with
    | .error e=>([],i,e)
    | .ok (k,t)=>I4 n ((b::r).drop t.length) (i+t.length) (acc++[⟨k,t,i⟩])
def HT (s:Str):List Tok×Nat×Int:=if s.length>16384 then ([],0,9) else I4 (s.length+1) s 0 []
def MD (r:List Tok×Nat×Int):AV:= .tup [.d (.sl (r.1.map Tok.enc)),.d (.int .i64 r.2.1),.d (.int .i64 r.2.2)]
theorem VX (b:UInt8):((b.toNat:Int)==35)=(b==35):=AR3 b 35
theorem yK (b:UInt8):((b.toNat:Int)==10)=(b==10):=AR3 b 10
theorem AMP (n:Nat):decide ((16384:Int) < (n:Int))=decide (n>16384):=decide_eq_decide.2 (by omega)
theorem qJ {s:Str} {k:Int} {t:Str} (h:I2 s= .ok (k,t)):1<=t.length/\t.length<=s.length:=by
 match s with
 |[]=>simp [I2] at h
 |b::r=>
  have h1:=Gq (FP Kk) (b::r);have h2:=Gq (FP Ld) (b::r);simp only [I2] at h;split at h
  . rename_i hlu
    have hw:FP Kk b=true:=by
     simp only [FP,Kk];rw [hlu];rfl
    have h3:1<=((b::r).takeWhile (FP Kk)).length:=by simp [hw]
    split at h
    . cases h
    . split at h
      . cases h;exact ⟨h3,h1⟩
      . split at h<;>(cases h;exact ⟨h3,h1⟩)
  . split at h
    . rename_i hdg;have h3:1<=((b::r).takeWhile (FP Ld)).length:=by simp [FP,hdg]
      split at h
      . cases h
      . split at h<;>cases h;exact ⟨h3,h2⟩
    . split at h
      . cases h
      . rename_i hne;cases h;refine ⟨?_,List.length_take_le' _ _⟩;cases he:(b::r).take (KH (b::r)) with
        |nil=>rw [he] at hne;simp at hne
        |cons=>simp
theorem qI {s:Str} {e:Int} (h:I2 s= .error e):e=2\/e=9:=by
 match s with
 |[]=>simp only [I2,Except.error.injEq] at h;omega
 |b::r=>
  simp only [I2] at h
  repeat' split at h
  all_goals first|(cases h;simp;done)|cases h
theorem qX (s:Str) (σ:AI):AT Tzp 138 [.d (.str s)] σ (fun v σ'=>v=MD (HT s)/\σ'=σ):=by
 refine sD (by simp) ?_;rw [Bq];(repeat' (first|((first|refine wQ mxQ rfl ?_|refine Run.qP Ch ?_|fail)<;>try simp only [AMP,go_sem])|(refine ⟨fun h=>?_,fun h=>?_⟩<;>first|(cases h;done)|try simp only [h])|fail))
 . have:s.length>16384:=by simpa using h
   simp [MD,HT,this]
 . have hl:¬s.length>16384:=by simpa using h
   refine Run.At ?_;refine Run.Au ((fun (a0:AV)=>fun (y:Nat×AV×AI)=>put 0 a0 (put 5 (y.2.1) (put 6 (.d (.int .i64 y.1)) U))) _) (fun _=>E) (fun y=>y.2.2) (fun y=>y.1<=s.length/\∃acc n,Bz σ 213 3 (acc.map Tok.enc) y.2.1 y.2.2/\acc.length<=y.1/\s.length - y.1 < n/\HT s=I4 n (s.drop y.1) y.1 acc) (fun y=>s.length - y.1) ?_ (0,.Ae,σ) ⟨by simp,[],s.length+1,Bz.nil _ _ _,by simp,by simp,by simp [HT,hl]⟩;rintro ⟨i,v,σ1⟩ ⟨hi,acc,n,ho,hac,hn,hs⟩ ih;simp only at hi ho hac hn hs;obtain ⟨n,rfl⟩:∃m,n=m+1:=⟨n - 1,by omega⟩;by_cases hlt:i < s.length
   . obtain ⟨x,hx⟩:=Ai hlt;rw [Bu hx,I4] at hs;have hw1:=A4 (show i+1<=9000000000000000000 by omega);have hsl:(x::s.drop (i+1)).length=s.length - i:=by simp;omega
     cases hb:vY x.toNat with
     |true=>
      rw [hb] at hs;(repeat' ((first|refine wQ mxQ rfl ?_|refine Run.qP Ch ?_|refine AH.det (MG _ _) ?_|fail)<;>try simp only [Ag hlt,Df hx,hb,hw1,go_sem]));exact ih (i+1,v,σ1) ⟨hlt,acc,n,ho,by simp only;omega,by simp only;omega,hs⟩ (by simp only;omega)
     |false=>
      rw [hb,if_neg (by simp)] at hs;cases hc:(x==35) with
      |true=>
       rw [hc,if_pos rfl] at hs;(repeat' ((first|refine wQ mxQ rfl ?_|refine Run.qP Ch ?_|refine AH.det (MG _ _) ?_|fail)<;>try simp only [Ag hlt,Df hx,VX,hb,hc,go_sem]));refine Run.OF [0,5,6] ?_;simp only [go_sem];refine Run.At ?_;refine Run.Au ((fun (a0:AV) (a5:AV)=>fun (j:Nat)=>put 0 a0 (put 5 a5 (put 6 (.d (.int .i64 j)) U))) _ _) (fun _=>E) (fun _=>σ1) (fun j=>i<=j/\j<=s.length/\∀q b,q < j - i->(s.drop i)[q]?=some b->(!(b==10))=true) (fun j=>s.length - j) ?_ i ⟨AW i,hi,by intro q b hq;omega⟩;rintro j ⟨hij,hj,hall⟩ ih2;have hw2:=A4 (show j+1<=9000000000000000000 by omega);by_cases hjl:j < s.length
       . obtain ⟨z,hz⟩:=Ai hjl;have hz2:(s.drop i)[j - i]?=some z:=by rw [BT,show i+(j - i)=j by omega];exact hz
         cases h10:(z==10) with
         |true=>
          (repeat' ((first|refine wQ mxQ rfl ?_|refine Run.qP Ch ?_|fail)<;>try simp only [Ag hjl,Df hz,yK,h10,go_sem]))
          have hk:cmt (x::s.drop (i+1))=j - i:=by
           rw [<- Bu hx,cmt,Fo hall (by simp;omega) (fun b hb=>by rw [hz2] at hb;cases hb;simp [h10])];simp;omega
          have hji:j≠i:=fun e=>by
           subst e;rw [hx] at hz;cases hz;simp only [beq_iff_eq] at hc h10;rw [hc] at h10;exact absurd h10 (by decide)
          rw [hk,<- Bu hx,FN,show i+(j - i)=j by omega] at hs;refine Run.OF [0,5,6] ?_;simp only [go_sem];exact ih (j,v,σ1) ⟨hj,acc,n,ho,by simp only;omega,by simp only;omega,hs⟩ (by simp only;omega)
         |false=>
          (repeat' ((first|refine wQ mxQ rfl ?_|refine Run.qP Ch ?_|fail)<;>try simp only [Ag hjl,Df hz,yK,h10,hw2,go_sem]));refine ih2 (j+1) ⟨by omega,hjl,fun q b hq hb=>?_⟩ (by omega);rcases C7 q (j - i) with h2|h2
          . exact hall q b h2 hb
          . have:q=j - i:=by omega
            subst this;rw [hz2] at hb;cases hb;simp [h10]
       . have hje:j=s.length:=by omega
         have hk:cmt (x::s.drop (i+1))=j - i:=by
          rw [<- Bu hx,cmt,Fo hall (by simp;omega) (fun b hb=>by rw [BT,show i+(j - i)=j by omega,hje] at hb;simp at hb)];simp;omega
         rw [hk,<- Bu hx,FN,show i+(j - i)=j by omega,hje,Jk] at hs;obtain ⟨n,rfl⟩:∃m,n=m+1:=⟨n - 1,by omega⟩;rw [I4] at hs;(repeat' ((first|refine wQ mxQ rfl ?_|(refine DD.own ho rfl (by simp) (by simp;omega) (by decide) (fun v2 σ2 ho2 hbk=>?_))|(refine Run.Bf Ch ho2.le ?_)|refine Run.qP Ch ?_|fail)<;>try simp only [B5 hjl,go_sem]));simp only [ho2.BE,ho2.plain,go_sem];rw [hs];simp [MD,Tok.enc]
      |false=>
       rw [hc,if_neg (by simp)] at hs;rcases hsc:I2 (x::s.drop (i+1)) with e|⟨k,t⟩
       . rw [hsc] at hs;have he:=qI hsc;have hne:(e != 0)=true:=by simp;omega
         (repeat' ((first|refine wQ mxQ rfl ?_|(refine Run.Bf Ch ho.le ?_)|refine Run.qP Ch ?_|refine AH.det (MG _ _) ?_|refine AH.det (Zy _ _ _ (by omega) hlt) ?_|fail)<;>try simp only [Ag hlt,Df hx,VX,hb,hc,Bu hx,hsc,ABZ,AKT,hne,ho.BV,A3,go_sem]));rw [hs];rfl
       . rw [hsc] at hs;have hsn:=qJ hsc;rw [hsl] at hsn;(repeat' (first|refine ctQ rfl ?_|((first|refine rgQ mxQ ?_|refine cdQ ?_|(refine DD.own ho rfl (by simp) (by simp;omega) (by decide) (fun v2 σ2 ho2 hbk=>?_))|refine Run.qP Ch ?_|refine AH.det (MG _ _) ?_|refine AH.det (Zy _ _ _ (by omega) hlt) ?_)<;>try simp only [Ag hlt,Df hx,VX,hb,hc,Bu hx,hsc,ABZ,AKT,ho.BV,A3,wrap_add (show i+t.length<=9000000000000000000 by omega),go_sem])|(refine ⟨fun h=>?_,fun h=>?_⟩<;>first|(cases h;done)|try simp only [h])|fail));refine ih (i+t.length,v2,σ2) ⟨?_,acc++[⟨k,t,i⟩],n,?_,?_,?_,?_⟩ ?_
         . simp only;omega
         . simpa [Tok.enc] using ho2
         . simp only [AX,EH];omega
         . simp only;omega
         . rw [hs];simp only;rw [<- Bu hx,FN]
         . simp only;omega
   . have hge:i=s.length:=by omega
     rw [hge,Jk,I4] at hs;(repeat' ((first|refine wQ mxQ rfl ?_|(refine DD.own ho rfl (by simp) (by simp;omega) (by decide) (fun v2 σ2 ho2 hbk=>?_))|(refine Run.Bf Ch ho2.le ?_)|refine Run.qP Ch ?_|fail)<;>try simp only [B5 hlt,go_sem]));simp only [ho2.BE,ho2.plain,go_sem];rw [hs];simp [MD,Tok.enc]
end Go.Ab
namespace Go.Ab
open Go.Proofs
theorem yS (z:UInt8):FP Kk z=(iA z.toNat||fI z.toNat||Ld z.toNat||((z.toNat:Int)==95)):=rfl
theorem pX (s:Str) (i:Nat) (x:UInt8) (hx:s[i]?=some x) (hw:FP Kk x=true) (hl:s.length<=16384) (σ1:AI) (a5 a7:AV) (K:AV->AI->Prop) (k:List CI)
 (hk:Run JD K k (put 0 (.d (.str s)) (put 5 a5 (put 6 (.d (.int .i64 i)) (put 7 a7 (put 8 (.d (.int .i64 (((s.drop i).takeWhile (FP Kk)).length:Nat))) U))))) E σ1):
 Run JD K (.again NK::.blk 5::k) (put 0 (.d (.str s)) (put 5 a5 (put 6 (.d (.int .i64 i)) (put 7 a7 (put 8 (.d (.int .i64 1)) U))))) E σ1:=by
 refine Run.Au ((fun (a0:AV) (a5:AV) (a6:AV) (a7:AV)=>fun (m:Nat)=>put 0 a0 (put 5 a5 (put 6 a6 (put 7 a7 (put 8 (.d (.int .i64 m)) U))))) _ _ _ _) (fun _=>E) (fun _=>σ1) (fun m=>1<=m/\i+m<=s.length/\∀q b,q < m->(s.drop i)[q]?=some b->FP Kk b=true) (fun m=>s.length - m) ?_ 1 ⟨by omega,?_,?_⟩
 . rintro m ⟨h1,hm,hall⟩ ih;have hw0:=wrap_add (show i+m<=9000000000000000000 by omega);have hw1:=A4 (show m+1<=9000000000000000000 by omega)
   have hend:(∀b,(s.drop i)[m]?=some b->FP Kk b=false)->((s.drop i).takeWhile (FP Kk)).length=m:=fun h=>by
    rw [Fo hall (by simp;omega) h];simp;omega
   by_cases hlt:i+m < s.length
   . obtain ⟨z,hz⟩:=Ai hlt;have hz2:(s.drop i)[m]?=some z:=by rw [BT];exact hz
     have hstep:FP Kk z=true->∀q b,q < m+1->(s.drop i)[q]?=some b->FP Kk b=true:=fun hc q b hq hb=>by
      rcases C7 q m with h2|h2
      . exact hall q b h2 hb
      . have:q=m:=by omega
        subst this;rw [hz2] at hb;cases hb;exact hc
     (repeat' (first|((first|refine wQ mxQ rfl ?_|refine AH.det (Ky _ _) ?_|refine AH.det (Kz _ _) ?_|refine AH.det (Iv _ _) ?_|(refine A7 rfl (fun h=>?_) (fun h=>?_)<;>try (cases h;done))|fail)<;>try simp only [hw0,hw1,Ag hlt,Df hz,go_sem])|(refine ⟨fun h=>?_,fun h=>?_⟩<;>first|(cases h;done)|try simp only [h])|fail))
     all_goals first
      |exact ih (m+1) ⟨by omega,by omega,hstep (by simp_all [yS])⟩ (by omega)
      |(rw [hend (fun b hb=>by rw [hz2] at hb;cases hb;simp_all [yS])] at hk;refine Run.OF [0,5,6,7,8] ?_;simp only [go_sem];exact hk)
   . (repeat' (refine wQ mxQ rfl ?_<;>try simp only [hw0,B5 hlt,go_sem]));rw [hend (fun b hb=>by rw [BT,B9 (by omega)] at hb;cases hb)] at hk;refine Run.OF [0,5,6,7,8] ?_;simp only [go_sem];exact hk
 . have:=(AG.1 hx).1;omega
 . intro q b hq hb;have:q=0:=by omega
   subst this;rw [BT,CC,hx] at hb;cases hb;exact hw
theorem pY (s:Str) (i:Nat) (x:UInt8) (hx:s[i]?=some x) (hw:FP Ld x=true) (hl:s.length<=16384) (σ1:AI) (a5 a7:AV) (K:AV->AI->Prop) (k:List CI)
 (hk:Run JD K k (put 0 (.d (.str s)) (put 5 a5 (put 6 (.d (.int .i64 i)) (put 7 a7 (put 8 (.d (.int .i64 (((s.drop i).takeWhile (FP Ld)).length:Nat))) U))))) E σ1):
 Run JD K (.again SD::.blk 7::k) (put 0 (.d (.str s)) (put 5 a5 (put 6 (.d (.int .i64 i)) (put 7 a7 (put 8 (.d (.int .i64 1)) U))))) E σ1:=by
 refine Run.Au ((fun (a0:AV) (a5:AV) (a6:AV) (a7:AV)=>fun (m:Nat)=>put 0 a0 (put 5 a5 (put 6 a6 (put 7 a7 (put 8 (.d (.int .i64 m)) U))))) _ _ _ _) (fun _=>E) (fun _=>σ1) (fun m=>1<=m/\i+m<=s.length/\∀q b,q < m->(s.drop i)[q]?=some b->FP Ld b=true) (fun m=>s.length - m) ?_ 1 ⟨by omega,?_,?_⟩
 . rintro m ⟨h1,hm,hall⟩ ih;have hw0:=wrap_add (show i+m<=9000000000000000000 by omega);have hw1:=A4 (show m+1<=9000000000000000000 by omega)
   have hend:(∀b,(s.drop i)[m]?=some b->FP Ld b=false)->((s.drop i).takeWhile (FP Ld)).length=m:=fun h=>by
    rw [Fo hall (by simp;omega) h];simp;omega
   by_cases hlt:i+m < s.length
   . obtain ⟨z,hz⟩:=Ai hlt;have hz2:(s.drop i)[m]?=some z:=by rw [BT];exact hz
     have hstep:FP Ld z=true->∀q b,q < m+1->(s.drop i)[q]?=some b->FP Ld b=true:=fun hc q b hq hb=>by
      rcases C7 q m with h2|h2
      . exact hall q b h2 hb
      . have:q=m:=by omega
        subst this;rw [hz2] at hb;cases hb;exact hc
     cases hd:Ld z.toNat with
     |true=>
      (repeat' ((first|refine wQ mxQ rfl ?_|refine AH.det (Iv _ _) ?_|fail)<;>try simp only [hw0,hw1,Ag hlt,Df hz,hd,go_sem]));exact ih (m+1) ⟨by omega,by omega,hstep hd⟩ (by omega)
     |false=>
      (repeat' ((first|refine wQ mxQ rfl ?_|refine AH.det (Iv _ _) ?_|fail)<;>try simp only [hw0,hw1,Ag hlt,Df hz,hd,go_sem]));rw [hend (fun b hb=>by rw [hz2] at hb;cases hb;exact hd)] at hk;refine Run.OF [0,5,6,7,8] ?_;simp only [go_sem];exact hk
   . (repeat' (refine wQ mxQ rfl ?_<;>try simp only [hw0,B5 hlt,go_sem]));rw [hend (fun b hb=>by rw [BT,B9 (by omega)] at hb;cases hb)] at hk;refine Run.OF [0,5,6,7,8] ?_;simp only [go_sem];exact hk
 . have:=(AG.1 hx).1;omega
 . intro q b hq hb;have:q=0:=by omega
   subst this;rw [BT,CC,hx] at hb;cases hb;exact hw
theorem AB7 {c:UInt8->Bool} (s:Str) (i:Nat) (hi:i<=s.length):YO (.d (.str s)) (some (.d (.int .i64 (i:Int)))) (some (.d (.int .i64 ((i+((s.drop i).takeWhile c).length:Nat):Int))))=some (.d (.str ((s.drop i).takeWhile c))):=by
 have h:=Gq c (s.drop i);rw [Cm] at h;rw [AOP (by omega) (by omega),List.drop_take,R3];congr 3;exact (List.prefix_iff_eq_take.1 (List.takeWhile_prefix c)).symm
theorem AOR (s:Str) (i n:Nat) (hi:i<=s.length) (hn:n<=(s.drop i).length):YO (.d (.str s)) (some (.d (.int .i64 (i:Int)))) (some (.d (.int .i64 ((i+n:Nat):Int))))=some (.d (.str ((s.drop i).take n))):=by
 rw [Cm] at hn;rw [AOP (by omega) (by omega),List.drop_take,R3]
theorem AB6:∀(b:UInt8) (r:Str),KH (b::r)<=(b::r).length
 |b,[]=>by simp only [KH,yB];split<;>simp
 |b,c::r=>by
  simp only [KH];cases AOL b c
  . simp only [yB,A3,if_false];split<;>simp
  . simp
theorem ABI (s:Str) (σ:AI):AT Tzp 104 [.d (.str s)] σ (fun v σ'=>v=MD (HT s)/\σ'=σ):=by
 refine AD5 (by simp) ?_;rw [Bq];by_cases hl:s.length>16384
 . (repeat' ((first|refine wQ mxQ rfl ?_|refine Run.qP Ig ?_|fail)<;>try simp only [AMP,decide_eq_true hl,go_sem]));simp [MD,HT,hl]
 . (repeat' (refine wQ mxQ rfl ?_<;>try simp only [AMP,decide_eq_false hl,go_sem]));refine Run.At ?_;refine Run.Au ((fun (a0:AV)=>fun (y:Nat×AV×AI)=>put 0 a0 (put 5 (y.2.1) (put 6 (.d (.int .i64 y.1)) U))) _) (fun _=>E) (fun y=>y.2.2) (fun y=>y.1<=s.length/\∃acc n,Bz σ 189 3 (acc.map Tok.enc) y.2.1 y.2.2/\acc.length<=y.1/\s.length - y.1 < n/\HT s=I4 n (s.drop y.1) y.1 acc) (fun y=>s.length - y.1) ?_ (0,.Ae,σ) ⟨by simp,[],s.length+1,Bz.nil _ _ _,by simp,by simp,by simp [HT,hl]⟩;rintro ⟨i,v,σ1⟩ ⟨hi,acc,n,ho,hac,hn,hs⟩ ih;simp only at hi ho hac hn hs;obtain ⟨n,rfl⟩:∃m,n=m+1:=⟨n - 1,by omega⟩;by_cases hlt:i < s.length
   . obtain ⟨x,hx⟩:=Ai hlt;rw [Bu hx,I4] at hs;have hw1:=A4 (show i+1<=9000000000000000000 by omega);have hsl:(x::s.drop (i+1)).length=s.length - i:=by simp;omega
     cases hb:vY x.toNat with
     |true=>
      rw [hb,if_pos rfl] at hs;(repeat' (first|((first|refine wQ mxQ rfl ?_|(refine A7 rfl (fun h=>?_) (fun h=>?_)<;>try (cases h;done))|fail)<;>try simp only [Ag hlt,Df hx,hw1,go_sem])|(refine ⟨fun h=>?_,fun h=>?_⟩<;>first|(cases h;done)|try simp only [h])|fail))
      all_goals first
       |exact ih (i+1,v,σ1) ⟨hlt,acc,n,ho,by simp only;omega,by simp only;omega,hs⟩ (by simp only;omega)
       |(exfalso;simp_all [vY];done)
     |false=>
      rw [hb,if_neg (by simp)] at hs;simp only [vY,GU] at hb;obtain ⟨⟨⟨h9,h10⟩,h13⟩,h32⟩:=hb;cases hc:(x==35) with
      |true=>
       rw [hc,if_pos rfl] at hs;(repeat' (refine wQ mxQ rfl ?_<;>try simp only [Ag hlt,Df hx,h9,h10,h13,h32,VX,hc,go_sem]));refine Run.OF [0,5,6] ?_;simp only [go_sem];refine Run.At ?_;refine Run.Au ((fun (a0:AV) (a5:AV)=>fun (j:Nat)=>put 0 a0 (put 5 a5 (put 6 (.d (.int .i64 j)) U))) _ _) (fun _=>E) (fun _=>σ1) (fun j=>i<=j/\j<=s.length/\∀q b,q < j - i->(s.drop i)[q]?=some b->(!(b==10))=true) (fun j=>s.length - j) ?_ i ⟨AW i,hi,by intro q b hq;omega⟩;rintro j ⟨hij,hj,hall⟩ ih2;have hw2:=A4 (show j+1<=9000000000000000000 by omega)
       have hend:(∀z,s[j]?=some z->(z==10)=true)->j≠i/\HT s=I4 n (s.drop j) j acc:=fun hz=>by
        have hji:j≠i:=fun e=>by
         subst e;have h10:=hz x hx;simp only [beq_iff_eq] at hc h10;rw [hc] at h10;exact absurd h10 (by decide)
        have hk:cmt (x::s.drop (i+1))=j - i:=by
         rw [<- Bu hx,cmt,Fo hall (by simp;omega) (fun b hb=>by
          rw [BT,show i+(j - i)=j by omega] at hb;simp [hz b hb])]
         simp;omega
        rw [hk,<- Bu hx,FN,show i+(j - i)=j by omega] at hs;exact ⟨hji,hs⟩
       by_cases hjl:j < s.length
       . obtain ⟨z,hz⟩:=Ai hjl;have hz2:(s.drop i)[j - i]?=some z:=by rw [BT,show i+(j - i)=j by omega];exact hz
         cases h10:(z==10) with
         |true=>
          obtain ⟨hji,hs⟩:=hend (fun z' hz'=>by rw [hz] at hz';cases hz';exact h10);(repeat' (refine wQ mxQ rfl ?_<;>try simp only [Ag hjl,Df hz,yK,bne,h10,go_sem]));refine Run.OF [0,5,6] ?_;simp only [go_sem];exact ih (j,v,σ1) ⟨hj,acc,n,ho,by simp only;omega,by simp only;omega,hs⟩ (by simp only;omega)
         |false=>
          (repeat' (refine wQ mxQ rfl ?_<;>try simp only [Ag hjl,Df hz,yK,bne,h10,hw2,go_sem]));refine ih2 (j+1) ⟨by omega,hjl,fun q b hq hb=>?_⟩ (by omega);rcases C7 q (j - i) with h2|h2
          . exact hall q b h2 hb
          . have:q=j - i:=by omega
            subst this;rw [hz2] at hb;cases hb;simp [h10]
       . obtain ⟨hji,hs⟩:=hend (fun z hz=>by rw [B9 (by omega)] at hz;cases hz);(repeat' (refine wQ mxQ rfl ?_<;>try simp only [B5 hjl,go_sem]));refine Run.OF [0,5,6] ?_;simp only [go_sem];exact ih (j,v,σ1) ⟨hj,acc,n,ho,by simp only;omega,by simp only;omega,hs⟩ (by simp only;omega)
      |false=>
       rw [hc,if_neg (by simp)] at hs;have hld:s.drop i=x::s.drop (i+1):=Bu hx;have hss:YO (.d (.str s)) (some (.d (.int .i64 (i:Int)))) none=some (.d (.str (x::s.drop (i+1)))):=by rw [AOQ hi,hld]
       -- behind a token
       have next:∀(k:Int) (t:Str) (v2:AV) (σ2:AI),I2 (x::s.drop (i+1))= .ok (k,t)->Bz σ 189 3 (acc.map Tok.enc++[[.int .i64 k,.str t,.int .i64 i]]) v2 σ2->
        1<=t.length/\i+t.length<=s.length/\(i+t.length<=s.length/\∃acc n,Bz σ 189 3 (acc.map Tok.enc) v2 σ2/\acc.length<=i+t.length/\s.length - (i+t.length) < n/\HT s=I4 n (s.drop (i+t.length)) (i+t.length) acc):=fun k t v2 σ2 hsc ho2=>by
        have hsn:=qJ hsc;rw [hsl] at hsn;rw [hsc] at hs;refine ⟨hsn.1,by omega,by omega,acc++[⟨k,t,i⟩],n,by simpa [Tok.enc] using ho2,by simp only [AX,EH];omega,by omega,?_⟩;rw [hs];simp only;rw [<- Bu hx,FN]
       have fail:∀e:Int,I2 (x::s.drop (i+1))= .error e->HT s=([],i,e):=fun e he=>by rw [hs,he]
       have hwd:=AB7 (c:=FP Kk) s i hi;have hdd:=AB7 (c:=FP Ld) s i hi;have hsg:=AOR s i (KH (x::s.drop (i+1))) hi (by rw [hld];exact AB6 _ _);have hwl:=Gq (FP Kk) (s.drop i);have hdl:=Gq (FP Ld) (s.drop i);have hsl2:=AB6 x (s.drop (i+1));have hL1:=pX s i x hx;have hL2:=pY s i x hx;rw [hld] at hwd hdd hsg hwl hdl hL1 hL2;simp only [hsl] at hwl hdl hsl2;have hw0:=fun n (h:n<=s.length - i)=>wrap_add (show i+n<=9000000000000000000 by omega);have hap:∀(r:List DV),r.length=3->∀q∈[r],q.length=3:=fun r hr q hq=>by rw [A6] at hq;rw [hq];exact hr
       have gt24':=AWF;have gt1':=gt1;by_cases hlu:(iA x.toNat||fI x.toNat)=true
       . have hwx:FP Kk x=true:=by rw [yS,hlu];rfl
         have hsc:I2 (x::s.drop (i+1))=if decide (((x::s.drop (i+1)).takeWhile (FP Kk)).length>24) then .error 9
                                                                                 else if fI x.toNat then .ok (2,(x::s.drop (i+1)).takeWhile (FP Kk))
                                                                                 else if xD ((x::s.drop (i+1)).takeWhile (FP Kk)) then .ok (4,(x::s.drop (i+1)).takeWhile (FP Kk))
                                                                                 else .ok (1,(x::s.drop (i+1)).takeWhile (FP Kk)):=by rw [I2,if_pos hlu]
         have hL:=fun K k=>hL1 hwx (by omega) σ1 v (.d (.int .u8 x.toNat)) K k;generalize ((x::s.drop (i+1)).takeWhile (FP Kk))=w at hwd hwl hsc hL;have hwn:=hw0 w.length hwl;cases hup:fI x.toNat<;>cases hlo:iA x.toNat<;>rw [hup] at hsc<;>first|(simp only [hup,hlo,Bool.or_self,A3] at hlu;done)|skip
         all_goals (repeat' (first|refine ctQ rfl ?_|((first|refine rgQ mxQ ?_|refine cdQ ?_|(refine Run.At ?_;refine Run.OF [0,5,6,7,8] ?_;simp only [go_sem];refine hL _ _ ?_)|(refine DD.own ho rfl (by simp) (by simp;omega) (by decide) (fun v2 σ2 ho2 hbk=>?_))|(refine Run.Bf Ig ho.le ?_)|refine AH.det (Ky _ _) ?_|refine AH.det (Kz _ _) ?_|refine AH.det (sV _ _) ?_)<;>try simp only [hup,hlo,Ag hlt,Df hx,h9,h10,h13,h32,VX,hc,hwn,hwd,gt24',ho.BV,A3,go_sem])|(refine ⟨fun h=>?_,fun h=>?_⟩<;>first|(cases h;done)|try simp only [h])|fail))
         all_goals first
          |(obtain ⟨p1,p2,p3⟩:=next _ w _ _ (by rw [hsc];simp only [*,A3,reduceIte,B7,CT,BY,Bp,CX,CW]) ho2;exact ih (i+w.length,_,_) p3 (by simp only;omega))
          |(rw [fail 9 (by rw [hsc];simp only [*,A3,reduceIte,B7,CT,BY,Bp,CX,CW])];simp [MD];done)
       . simp only [Vo,GU] at hlu;have hnlu:¬(iA x.toNat||fI x.toNat)=true:=by simp [hlu]
         cases hdg:Ld x.toNat with
         |true=>
          have hsc:I2 (x::s.drop (i+1))=if x==48&&decide (((x::s.drop (i+1)).takeWhile (FP Ld)).length>1) then .error 2
                                                                                         else if (Ru ((x::s.drop (i+1)).takeWhile (FP Ld)) 0).isSome then .ok (3,(x::s.drop (i+1)).takeWhile (FP Ld))
                                                                                         else .error 9:=by rw [I2,if_neg hnlu,if_pos hdg]
          have hL:=fun K k=>hL2 hdg (by omega) σ1 v (.d (.int .u8 x.toNat)) K k;generalize ((x::s.drop (i+1)).takeWhile (FP Ld))=w at hdd hdl hsc hL;have hwn:=hw0 w.length hdl;have hval:=ABJ w σ1 (by omega);cases hv:Ru w 0 with
          |some z=>
           rw [hv] at hval;(repeat' (first|refine ctQ rfl ?_|((first|refine rgQ mxQ ?_|refine cdQ ?_|(refine Run.At ?_;refine Run.OF [0,5,6,7,8] ?_;simp only [go_sem];refine hL _ _ ?_)|(refine DD.own ho rfl (by simp) (by simp;omega) (by decide) (fun v2 σ2 ho2 hbk=>?_))|(refine Run.Bf Ig ho.le ?_)|refine AH.det (Ky _ _) ?_|refine AH.det (Kz _ _) ?_|refine AH.det (Iv _ _) ?_|refine AH.det (hval) ?_|(refine A7 rfl (fun h=>?_) (fun h=>?_)<;>try (cases h;done)))<;>try simp only [Ag hlt,Df hx,h9,h10,h13,h32,VX,hc,hwn,hdd,gt1',AO3,hlu.1,hlu.2,hdg,ho.BV,A3,go_sem])|(refine ⟨fun h=>?_,fun h=>?_⟩<;>first|(cases h;done)|try simp only [h])|fail))
           all_goals first
            |(obtain ⟨p1,p2,p3⟩:=next _ w _ _ (by rw [hsc];simp only [*,A3,reduceIte,B7,CT,BY,Bp,CX,CW]) ho2;exact ih (i+w.length,_,_) p3 (by simp only;omega))
            |(rw [fail 2 (by rw [hsc];simp only [*,A3,reduceIte,B7,CT,BY,Bp,CX,CW])];simp [MD];done)
          |none=>
           rw [hv] at hval;(repeat' (first|refine ctQ rfl ?_|((first|refine rgQ mxQ ?_|refine cdQ ?_|(refine Run.At ?_;refine Run.OF [0,5,6,7,8] ?_;simp only [go_sem];refine hL _ _ ?_)|(refine DD.own ho rfl (by simp) (by simp;omega) (by decide) (fun v2 σ2 ho2 hbk=>?_))|(refine Run.Bf Ig ho.le ?_)|refine AH.det (Ky _ _) ?_|refine AH.det (Kz _ _) ?_|refine AH.det (Iv _ _) ?_|refine AH.det (hval) ?_|(refine A7 rfl (fun h=>?_) (fun h=>?_)<;>try (cases h;done)))<;>try simp only [Ag hlt,Df hx,h9,h10,h13,h32,VX,hc,hwn,hdd,gt1',AO3,hlu.1,hlu.2,hdg,ho.BV,A3,go_sem])|(refine ⟨fun h=>?_,fun h=>?_⟩<;>first|(cases h;done)|try simp only [h])|fail))
           all_goals first
            |(rw [fail 2 (by rw [hsc];simp only [*,A3,reduceIte,B7,CT,BY,Bp,CX,CW])];simp [MD];done)
            |(rw [fail 9 (by rw [hsc];simp only [*,A3,reduceIte,B7,CT,BY,Bp,CX,CW])];simp [MD];done)
         |false=>
          have hsc:I2 (x::s.drop (i+1))=if (x::s.drop (i+1)).take (KH (x::s.drop (i+1)))==[] then .error 2 else .ok (5,(x::s.drop (i+1)).take (KH (x::s.drop (i+1)))):=by rw [I2,if_neg hnlu,if_neg (by simp [hdg])]
          have hsk:=AFC (x::s.drop (i+1)) σ1 (by simp);have hwn:=hw0 (KH (x::s.drop (i+1))) hsl2;have htl:((x::s.drop (i+1)).take (KH (x::s.drop (i+1)))).length=KH (x::s.drop (i+1)):=by rw [B4,hsl];omega
          generalize KH (x::s.drop (i+1))=m at hsc hsk hwn hsg hsl2 htl;generalize ((x::s.drop (i+1)).take m)=w at hsc hsg htl
          have hz:((m:Int)==0)=(w==[]):=by
           rw [An];simp only [beq_iff_eq];rw [<- List.length_eq_zero_iff,htl];omega
          cases hw:(w==[]) with
          |true=>
           (repeat' (first|refine ctQ rfl ?_|((first|refine rgQ mxQ ?_|refine cdQ ?_|(refine Run.Bf Ig ho.le ?_)|refine AH.det (Ky _ _) ?_|refine AH.det (Kz _ _) ?_|refine AH.det (Iv _ _) ?_|refine AH.det (hsk) ?_)<;>try simp only [Ag hlt,Df hx,h9,h10,h13,h32,VX,hc,hss,hwn,hsg,hlu.1,hlu.2,hdg,hz,hw,ho.BV,A3,go_sem])|fail));rw [fail 2 (by rw [hsc,if_pos hw])];simp [MD]
          |false=>
           (repeat' (first|refine ctQ rfl ?_|((first|refine rgQ mxQ ?_|refine cdQ ?_|(refine DD.own ho rfl (by simp) (by simp;omega) (by decide) (fun v2 σ2 ho2 hbk=>?_))|(refine Run.Bf Ig ho.le ?_)|refine AH.det (Ky _ _) ?_|refine AH.det (Kz _ _) ?_|refine AH.det (Iv _ _) ?_|refine AH.det (hsk) ?_)<;>try simp only [Ag hlt,Df hx,h9,h10,h13,h32,VX,hc,hss,hwn,hsg,hlu.1,hlu.2,hdg,hz,hw,ho.BV,A3,go_sem])|fail));obtain ⟨p1,p2,p3⟩:=next 5 w _ _ (by rw [hsc,if_neg (by simp [hw])]) ‹_›
           rw [htl] at p1 p2 p3;exact ih (i+m,_,_) p3 (by simp only;omega)
   . have hge:i=s.length:=by omega
     rw [hge,Jk,I4] at hs;(repeat' (first|refine ctQ rfl ?_|((first|refine rgQ mxQ ?_|refine cdQ ?_|(refine DD.own ho rfl (by simp) (by simp;omega) (by decide) (fun v2 σ2 ho2 hbk=>?_))|(refine Run.Bf Ig ho2.le ?_))<;>try simp only [B5 hlt,go_sem])|fail));simp only [ho2.BE,ho2.plain,go_sem];rw [hs];simp [MD,Tok.enc]
end Go.Ab
