/- Part Ab10e. Conditions: none. -/
import Derived.Scope
import Derived.ProofKit
import Derived.KernelRfl
import Derived.Test.YtojbfmeeomhkoaaGreatDoorProg
import Derived.Test.YtojbfmeeomhkoaaGreatDoorXAb1
set_option linter.unusedSimpArgs false
set_option linter.unusedVariables false
set_option maxRecDepth 100000
set_option maxHeartbeats 40000000
set_option linter.defProp false
open Go.Proofs.Tryz renaming prog→Tzp
open Option renaming bind_eq_some_iff→AF,map_eq_some_iff→AO,bind_some→Jt,bind_eq_bind→AX,getD_some→BH,map_some→Ap
open Bool renaming and_eq_true→AM,false_eq_true→As,or_eq_true→EH,not_eq_true'→Du,and_self→XF,and_true→Cu,true_and→Fe,or_true→Td,true_or→Te,or_false→XH,false_or→MP,not_false→N6,and_false→Hg,not_not→OS,eq_iff_iff→C2,eq_false_iff→M5
open List renaming mem_append→A2,mem_zipIdx_iff_getElem?→ZC,all_eq_true→Ao,mem_cons→Ah,contains_iff_mem→B8,range→Aj,all_cons→BK,getD_eq_getElem?_getD→BG,getElem?_eq_some_iff→AG,all_nil→Cl,replicate→AH,getElem_of_mem→CJ,getElem?_eq_getElem→An,mem_of_getElem?→AE,drop_of_length_le→HN,drop_drop→Fx,take_append_drop→Am,eq_nil_of_length_eq_zero→Ay,length_take→Bs,length_drop→OU,getElem?_take→F9,map_cons→AB,map_nil→AJ,length_cons→AT,length_nil→A8,getElem?_cons_zero→A7,getElem?_cons_succ→Bz,take_succ_cons→CK,take_zero→CD,drop_succ_cons→Eu,drop_zero→N9,cons_append→AU,nil_append→A3,append_nil→Aw,getElem?_map→Az,mem_iff_getElem?→Hn,length_map→AA,getElem_mem→Fa,length_append→A0,length_singleton→Ci,findIdx?_eq_some_iff_getElem→SJ,findIdx?_eq_none_iff→fO,mem_singleton→A9,take_of_length_le→AR,any_eq_not_all_not→Rq,all_append→ZB,mem_cons_of_mem→AZ,mem_cons_self→AY,filter_append→RJ,contains_cons→RH,append_assoc→Ax,set_eq_take_append_cons_drop→AO0,replicate_succ→Bg,flatten_cons→BO,ext_getElem?→Dw,getElem?_eq_none→FO,getElem?_set→CT,mem_map→BR,mem_range→Cr,length_replicate→MR,length_pos_iff→Ds
open Ne renaming symm→A5
open Array renaming replicate→FI,getD_eq_getD_getElem?→HK,length_toList→Z5
open Option.some renaming injEq→AP
open Nat renaming le_refl→AW,mul_le_mul→Tm,zero_le→D7,le_trans→Ai,eq_zero_or_pos→RL,add_mul→Cj,mul_le_mul_right→CW,add_zero→CC,zero_add→Av,reduceEqDiff→HW,lt_or_ge→Ff,min_eq_left→I4,mul_one→Ag
open Prod.mk renaming injEq→B3
open Go renaming undef→DJ
open List.cons renaming injEq→FJ
open Int renaming toNat_natCast→BX,natCast_nonneg→F8,reduceBEq→Ad,reduceToNat→Bb
open Except.ok renaming injEq→Da
open Except renaming map→F7
namespace Go.Ab
variable {Ae cs:List I} {V σ1 σ2:X} {es:List (Int×Int)} {fid:FuncId} {i id n q:Nat} {im:Nat->Nat->Option Value} {l live:List Nat} {o:Q06} {ops:List Q} {s x:List UInt8} {v v':I} {vs:List Value} {want:Bool} {xs:List (Nat×Nat)}
section
open Go.RowKit
variable {P:Program} {base N:Nat} {g g':Gh} {Pr:Nat->Prop} {A H:X} {w0 w w':World} {lam:Nat->Option Nat} {F:Fm} {L:Lm} {a:Act} {K:CV} {d:Nat} {z:List I}
theorem VR.Cp {x:I} {v:Value} (h:VR g x v) (d:Nat):x.Cp d=false:=by cases h<;>rfl
def jM {x:I} (h:x.BS=true) (d:Nat):x.Cp d=false:=by cases x<;>first|rfl|(cases h;done)
def AEP {x:I} (h:x.Bo=true) (d:Nat):x.Cp d=false:=by cases x<;>first|rfl|(cases h;done)
theorem AS.Cp {f:FuncId} {args:List I} {Q:I->X->Prop} (h:AS P f args A Q) (d:Nat):AS P f args A (fun v H=>Q v H/\v.Cp d=false):=
 fun base g Pr w0 w vs k l=>(h base g Pr w0 w vs k l).mono fun _ _ ⟨v,i,g',H,a,b,c,j,e,q⟩=>⟨v,i,g',H,a,b,c,j,e,q,b.Cp d⟩
def Off (d:Nat) (F:Fm):Prop:=∀s,(F s).Cp d=false
theorem Off.BW (h:Off d F) {dst:Option Nat} {v:I} (hv:v.Cp d=false):Off d (BW dst v F):=by
 intro s;cases dst with
 |none=>exact h s
 |some k=>
  simp only [Ab.BW,Ab.put];split
  . exact hv
  . exact h s
theorem Off.Dk (h:Off d F) (k:Nat):Off d (Dk k F):=by
 intro s;simp only [Ab.Dk];split
 . rfl
 . exact h s
def yV (d:Nat) (F:Fm):Off d (Dk d F):=by
 intro s;simp only [Dk];split
 . rfl
 grind
def cOk:Q09->Bool
 | .t _=>true
 | .c v=>v.BS
theorem bY (h:Off d F) {x:Q09} (a:cOk x=true):(xv F x).Cp d=false:=by
 cases x with
 |t n=>exact h n
 |c v=>exact jM a d
def Yh:Q06->Bool
 | .mv x| .fld x _| .ld x _| .ldl x _| .nck x=>cOk x
 | .pick _ x y=>cOk x&&cOk y
 | .st x _ _=>cOk x
 | .eK _ _ _ _=>false
 |_=>true
theorem ABK {k:Nat} (h:k≠d) (z:List I) (L:Lm):CN d z L k=L k:=by simp [CN,h]
def AVI {p:I} (b:p.Cp d=false) (n:Option Nat):ldA (CN d z L) A p n=ldA L A p n:=by
 cases p<;>try rfl
 . rename_i a;cases a<;>rfl
 grind [I.Cp,ldA,ABK]
def ARH {p:I} (a:p.Cp d=false) (n:Option Nat):AA3 (CN d z L) p n=AA3 L p n:=by
 cases p<;>try rfl
 grind [I.Cp,AA3,ABK]
def AZP (h:Off d F) (a:Yh o=true):pv F (CN d z L) A o=pv F L A o:=by
 cases o<;>try rfl
 case ld x n=>exact AVI (bY h a) n
 case ldl x n=>exact ARH (bY h a) n
theorem Yw {o:Nat} {n:Option Nat} (h:rdC cs o n=some v):v.Cp d=false:=by
 cases n with
 |none=>
  simp only [rdC,AF] at h;obtain ⟨v0,_,h⟩:=h;obtain ⟨rfl,a⟩:=aI h;exact AEP a d
 |some n=>
  simp only [rdC] at h;split at h
  . cases h;rfl
  . cases h
theorem AQ8 {op:BinOp} {k:IntKind} {x y:Int} (h:AM4 op k x y=some v):v.Cp d=false:=by
 unfold AM4 at h;split at h<;>first|(cases h;rfl)|(split at h<;>first|(cases h;done)|(cases h;rfl))|grind
theorem ATB {op:BinOp} {y:List UInt8} (h:jX op x y=some v):v.Cp d=false:=by
 unfold jX at h;split at h<;>first|(cases h;rfl)|(split at h<;>first|(cases h;done)|(cases h;rfl))|grind
theorem AKW {b:Bool} {x y:I} (h:mmA b x y=some v):v.Cp d=false:=by
 unfold mmA at h;split at h
 . split at h
   . cases h;rfl
   . cases h
 . cases h
def AA0 {rows:List (List DV)} {m:Int} (h:ixR rows m n=some v):v.Cp d=false:=by
 unfold ixR at h;split at h
 . simp only [AF] at h;obtain ⟨r,_,h⟩:=h;split at h
   . cases h;rfl
   . cases h
 . cases h
def AUY {k:EK} {args:List I} (h:exP k args=some v):v.Cp d=false:=by
 obtain ⟨_,h⟩:=AJ4 h;unfold xV at h;split at h
 . simp only [AO] at h;obtain ⟨_,_,rfl⟩:=h;rfl
 . cases h
def AV8 (h:Off d F) (e:Yh o=true) (a:pv F L A o=some v):v.Cp d=false:=by
 cases o<;>simp only [pv] at a<;>try (cases a;done)
 case mv x=>cases a;exact bY h e
 case ex k u=>exact AUY a
 case pick c x y=>
  simp only [Yh,AM] at e;unfold AFE at a
  grind [bY]
 case fld x off=>
  have g:=bY h e;generalize xv F x=p at a g;cases p<;>simp only [AHU] at a<;>try (cases a;done)
  . rename_i j;cases j<;>simp only at a<;>first|(cases a;done)|(cases a;rfl)
  . cases a;exact g
  . cases a;rfl
  . cases a;rfl
 case ld x n=>
  generalize xv F x=p at a;cases p<;>simp only [ldA] at a<;>try (cases a;done)
  . grind [Yw]
  . grind [AF,Yw]
  . grind [AF,Yw]
  . exact Yw a
 case ldl x n=>
  generalize xv F x=p at a;cases p<;>simp only [AA3] at a<;>try (cases a;done)
  grind [AF,Yw]
 case ix x i n=>
  unfold ixA at a;split at a
  . split at a
    . cases a;rfl
    . cases a
  . split at a
    . cases a;rfl
    . cases a
  . exact AA0 a
  . exact AA0 a
  . exact AA0 a
  . cases a
 case AS4 x i=>
  unfold tD at a;split at a
  . split at a
    . simp only [AO] at a;obtain ⟨_,_,rfl⟩:=a;rfl
    . cases a
  . cases a
 case len x=>
  unfold Vh at a;split at a<;>first|(cases a;rfl)|grind
 case AOD x=>
  unfold zH at a;split at a<;>first|(cases a;rfl)|grind
 case bin op x y=>
  unfold ALY at a
  grind [AQ8,ATB]
 case APJ op x y=>
  unfold xG at a;split at a<;>first|(cases a;rfl)|grind
 case un op x=>
  unfold unA at a;split at a<;>first|(cases a;rfl)|grind
 case conv k x=>
  unfold xR at a;split at a<;>first|(cases a;rfl)|grind
 case bld z r=>simp only [AO] at a;obtain ⟨_,_,rfl⟩:=a;rfl
 case bsl s n z r=>simp only [AO] at a;obtain ⟨_,_,rfl⟩:=a;rfl
 case mkf f x y=>
  split at a
  . cases a;rfl
  . cases a
 case ext x i=>
  unfold AMH at a;split at a
  . simp only [AF] at a;obtain ⟨v0,_,a⟩:=a;obtain ⟨rfl,m⟩:=sJ a;exact jM m d
  . cases a
 case nck x=>
  have g:=bY h e;generalize xv F x=p at a g;cases p<;>simp only [AR3] at a<;>try (cases a;done)
  . grind
  . grind
  . grind
  grind
 case mm b x y=>exact AKW a
 case fd x off n=>
  generalize xv F x=p at a;cases p<;>simp only [fdA] at a<;>try (cases a;done)
  exact Yw a
 case ssl x q l=>
  unfold nG at a;split at a
  . simp only [AO] at a;obtain ⟨_,_,rfl⟩:=a;rfl
  . cases a
 case sls x q l t n=>
  unfold AOE at a;split at a
  . split at a
    . cases a;rfl
    . cases a
  . simp only [AF] at a;obtain ⟨_,_,a⟩:=a;split at a
    . cases a;rfl
    . cases a
  . simp only [AF] at a;obtain ⟨_,_,a⟩:=a;split at a
    . cases a;rfl
    . cases a
  simp only [AF] at a;obtain ⟨rows,_,a⟩:=a;unfold Z3 at a;split at a
  . simp only [AF] at a;obtain ⟨b,_,a⟩:=a;split at a
    . cases a;rfl
    . split at a
      . cases a;rfl
      . cases a
    . cases a
  . cases a
 case AIS ne x=>
  unfold yZ at a;split at a<;>first|(cases a;rfl)|grind
 case AOJ ne n x y=>
  unfold AFT at a;split at a
  . split at a
    . simp only [AO] at a;obtain ⟨_,_,rfl⟩:=a;rfl
    . cases a
  . cases a
 case mm3 b x y z=>
  grind [AF,AKW]
 case APL x=>simp only [AO] at a;obtain ⟨_,_,rfl⟩:=a;rfl
theorem E4 {dst:Option Nat} (h:dst≠some d) (v x:I) (F:Fm):BW dst v (put d x F)=put d x (BW dst v F):=
 jR (d:=dst) (e:=some d) (fun k b a=>h (by rw [b,a])) v x F
def YW {k:Nat} (h:d≠k) (F:Fm):Dk k (put d (.lp d 0) F)=put d (.lp d 0) (Dk k F):=by
 grind [Dk,put,I.Cp]
theorem jQ {k:Nat} (h:k≠d) (x y:List I) (L:Lm):CN k x (CN d y L)=CN d y (CN k x L):=by
 grind [CN]
def AX8 {dst:Option Nat} (j:Off d F) (T:Yh o=true) (hl:∀s∈Ly o,s≠d) (w:dst≠some d) (a:XO P dst K (put d (.lp d 0) F) (CN d z L) A o):
 XO P dst (fun F' L' H=>Off d F'/\K (put d (.lp d 0) F') (CN d z L') H) F L A o:=by
 have D:∀s∈Ly o,put d (.lp d 0) F s=F s:=fun s E=>by simp [put,hl s E]
 by_cases S:isV o=true
 . rw [ALR S] at a ⊢;obtain ⟨u,g,m⟩:=a;have g:=oK D g
   have q:Yv P F L A u o/\u.Cp d=false:=by
    cases o<;>try (cases S;done)
    case sO f args=>exact ⟨g,jM g.2.1 d⟩
    all_goals
     simp only [Yv] at g ⊢;rw [AZP j T] at g;exact ⟨g,AV8 j T g⟩
   refine ⟨u,q.1,j.BW q.2,?_⟩;rw [<- E4 w];exact m
 . cases o<;>simp only [isV,not_true_eq_false] at S<;>simp only [Ly,A2] at D
   case box x sh=>
    simp only [XO,ZD] at a ⊢;rw [<- Bc D];refine ⟨a.1,?_⟩;have a:=a.2;cases dst with
    |none=>grind
    |some e=>
     have B:d≠e:=fun h=>w (by rw [h]);cases sh with
     |true=>exact fun i U=>⟨j.BW (dst:=some e) (v:= .gp i 0) rfl,by have:=a i U;rw [show put e (.gp i 0) (put d (.lp d 0) F)=put d (.lp d 0) (put e (.gp i 0) F) from E4 (dst:=some e) w _ _ _] at this;exact this⟩
     |false=>
      refine ⟨(j.Dk e).BW (dst:=some e) (v:= .lp e 0) (by simp [I.Cp];grind),?_⟩;have a:K (put e (.lp e 0) (Dk e (put d (.lp d 0) F))) (CN e (xv (put d (.lp d 0) F) x).cells (CN d z L)) A:=a;rw [YW B,jQ (A5 B),show put e (.lp e 0) (put d (.lp d 0) (Dk e F))=put d (.lp d 0) (put e (.lp e 0) (Dk e F)) from E4 (dst:=some e) w _ _ _] at a;exact a
   case al y sh=>
    simp only [XO,ZD] at a ⊢;refine ⟨a.1,?_⟩;have a:=a.2;cases dst with
    |none=>grind
    |some e=>
     have B:d≠e:=fun h=>w (by rw [h]);cases sh with
     |true=>exact fun i U=>⟨j.BW (dst:=some e) (v:= .gp i 0) rfl,by have:=a i U;rw [show put e (.gp i 0) (put d (.lp d 0) F)=put d (.lp d 0) (put e (.gp i 0) F) from E4 (dst:=some e) w _ _ _] at this;exact this⟩
     |false=>
      refine ⟨(j.Dk e).BW (dst:=some e) (v:= .lp e 0) (by simp [I.Cp];grind),?_⟩;have a:K (put e (.lp e 0) (Dk e (put d (.lp d 0) F))) (CN e y (CN d z L)) A:=a;rw [YW B,jQ (A5 B),show put e (.lp e 0) (put d (.lp d 0) (Dk e F))=put d (.lp d 0) (put e (.lp e 0) (Dk e F)) from E4 (dst:=some e) w _ _ _] at a;exact a
   case st x y n=>
    simp only [XO,XSt] at a ⊢;rw [Bc (F:=put d (.lp d 0) F) (F':=F) (fun s E=>D s (.inl E)),Bc (F:=put d (.lp d 0) F) (F':=F) (fun s E=>D s (.inr E))] at a;obtain ⟨g,m,q,r⟩:=a;refine ⟨g,m,q,?_⟩;have hp:=bY j T;generalize xv F x=p at hp r;cases p<;>simp only [stA] at r ⊢<;>try (exact r.elim)
    . rename_i k o2;have hk:k≠d:=by simpa [I.Cp] using hp
      rw [ABK hk] at r;cases hL:L k with
      |none=>grind
      |some cs=>
       rw [hL] at r;simp only [Jt] at r ⊢;by_cases Z:o2+(xv F y).cells.length<=cs.length
       . rw [if_pos Z] at r ⊢
         grind [put,CN,wr,xv,jQ]
       grind
    . rename_i i o2;cases hb:A.C i with
      |none=>grind
      |some cs=>
       grind
   case msl e s b y l c=>
    obtain ⟨k,k',n,g,m,q,r,G,N⟩:=a;refine ⟨k,k',n,by grind [Bc],by grind [Bc],q,r,G,fun i U=>⟨j.BW rfl,?_⟩⟩;rw [<- E4 w];grind
   case app e s b x y=>
    rcases a with ⟨rows,σ1,srows,g,m,q,r,G,N⟩|⟨rows,srows,g,m,q,r,G,N,h7⟩
    . refine .inl ⟨rows,σ1,srows,by grind [Bc],by grind [Bc],q,r,G,fun t Y=>⟨j.BW rfl,?_⟩⟩;rw [<- E4 w];grind
    . refine .inr ⟨rows,srows,by grind [Bc],by grind [Bc],q,r,G,N,⟨j.BW rfl,?_⟩⟩;rw [<- E4 w];exact h7
   case uO e s b x y=>
    obtain ⟨n,cs,σ1,srows,g,m,q,r,G,N,h7⟩:=a;refine ⟨n,cs,σ1,srows,by grind [Bc],by grind [Bc],q,fun e=>⟨j.BW ?_,?_⟩,G,N,fun e t Y=>⟨j.BW rfl,?_⟩⟩
    . unfold M6 at g;rw [<- Bc (fun s E=>D s (.inl E))];generalize xv _ x=xx at g;cases xx<;>first|rfl|grind
    . grind [E4,Bc]
    grind [E4]
   case trn x y=>
    obtain ⟨k,s,e,cs,σ1,g,m⟩:=a;refine ⟨k,s,e,cs,σ1,by grind [Bc],fun t Y=>⟨j.BW rfl,?_⟩⟩;rw [<- E4 w];grind
   case lT e s l y ps=>
    obtain ⟨cs,g,m⟩:=a;refine ⟨cs,by rw [<- Rz _ _ D];exact g,m.imp (fun m t Y=>⟨j.BW rfl,?_⟩) fun ⟨ds,q,G⟩=>⟨ds,q,fun t Y=>⟨j.BW rfl,?_⟩⟩⟩
    . rw [<- E4 w];grind
    . rw [<- E4 w];grind
   case call f args=>
    obtain ⟨g,R,m,q⟩:=a;rw [LY D] at g m;refine ⟨g,_,m.Cp d,fun u H Q=>⟨j.BW Q.2,?_⟩⟩
    grind [E4]
   case Z9 x args=>
    obtain ⟨f,first,Ae,h0,hb,g,R,m,q⟩:=a;rw [LY (fun s E=>D s (.inr E))] at g m;refine ⟨f,first,Ae,by grind [Bc],hb,g,_,m.Cp d,fun u H Q=>⟨j.BW Q.2,?_⟩⟩
    grind [E4]
   case eK s x y z=>cases T
   case ex k xs=>
    simp only [XO,XEx,S,As,if_false] at a ⊢;rw [LY D] at a;refine ⟨a.1,a.2.mono fun u H hu Q=>⟨j.BW (hu d),?_⟩⟩;rw [<- E4 w];exact Q
def AYA {q:Q} (f:Off d F) (j:Yh q.o=true) (h:∀s∈q.looks,s≠d) (g:q.dst≠some d) (a:XQ P q K (put d (.lp d 0) F) (CN d z L) A):
 XQ P q (fun F' L' H=>Off d F'/\K (put d (.lp d 0) F') (CN d z L') H) F L A:=by
 have i:∀s∈Ly q.o,s≠d:=fun s e=>h s (by simp [Q.looks,e]);unfold XQ at a ⊢;rw [qU (F:=put d (.lp d 0) F) (F':=F) (fun s e=>by simp [put,h s e])] at a;cases c:gd F q.grd with
 |none=>rw [c] at a;exact a.elim
 |some b=>
  rw [c] at a;cases b
  . have a:K (BW q.dst (.tup []) (put d (.lp d 0) F)) (CN d z L) A:=a;rw [E4 g] at a;exact ⟨f.BW rfl,a⟩
  . exact AX8 f j i g a
theorem AN2 (h:Off d F):Dk d F=F:=by
 funext s;simp [Dk,h s]
def AXV (tab:Array Nat) (qs:List Q) (i d:Nat):Bool:=
 qs.zipIdx.all fun (qj,j)=>j==i||(tab.getD j 0).testBit i||(Yh qj.o&& !qj.looks.contains d&&qj.dst != some d)
def AW6 {ops:Array Oper} {tab:Array Nat} (n:∀j i,(tab.getD j 0).testBit i=true->Anc ops j i) {qs:List Q} (hi:qs[i]?=some ⟨some d,.al z false,none⟩) (U:BA z=true) (g:AXV tab qs i d=true):
 ∀(fuel:Nat) (listed:Array Bool) (F:Fm) (L:Lm) (A:X),La ops listed->listed.size=ops.size->i∈Region.ready .any ops listed->Off d F->
  fS P ops qs K fuel (listed.setIfInBounds i true) (put d (.lp d 0) F) (CN d z L) A->fS P ops qs K (fuel+1) listed F L A:=by
 have x:∀(p:CV) (F:Fm) (L:Lm) (A:X),Off d F->p (put d (.lp d 0) F) (CN d z L) A->XQ P ⟨some d,.al z false,none⟩ p F L A:=fun p F L A t h=>by
  show ZD z false (some d) p F L A;refine ⟨U,?_⟩
  grind [put,Dk,CN,AN2]
 intro fuel
 induction fuel with
 |zero=>
  intro listed F L A b y q t Q02;refine ⟨fun h=>(by grind),fun j f=>?_⟩;by_cases a:i=j
  . grind
  . have:=Uo f a;rw [Q02.1] at this;cases this
 |succ fuel Y=>
  intro listed F L A b y q t Q02;refine ⟨fun h=>(by grind),fun j f=>?_⟩;by_cases a:i=j
  . grind
  . obtain ⟨r,m,B⟩:=Q02.2 j (Uo f a);obtain ⟨G,N,oj,T,w⟩:=N2.1 f;have E:=(N2.1 q).2.1;have D:=(N2.1 q).1;have l:(r,j)∈qs.zipIdx:=by rw [ZC];exact m
    have u:=Ao.1 g (r,j) l;simp only [EH,beq_iff_eq,AM,Du,bne_iff_ne] at u;rcases u with (u|c)|⟨⟨R,S⟩,e⟩
    . grind
    . have Z:=oP b (n j i c) (fun o ho=>by grind)
      grind
    . refine ⟨r,m,?_⟩;have k:∀s∈r.looks,s≠d:=fun s hs he=>by grind
      have v:(listed.setIfInBounds i true).setIfInBounds j true=(listed.setIfInBounds j true).setIfInBounds i true:=Array.setIfInBounds_comm _ _ a;refine VC (fun F' L' H h=>?_) (AYA t R k e B);refine Y _ F' L' H (b.set f) (by grind) (Uo q (A5 a)) h.1 ?_
      grind
def TU:List Nat->Fm->Fm
 |[],F=>F
 |d::ds,F=>TU ds (Dk d F)
def lE:∀(ds:List Nat) (F:Fm) (s:Nat),TU ds F s=F s\/TU ds F s= .undef
 |[],F,s=>.inl rfl
 |d::ds,F,s=>by
  rcases lE ds (Dk d F) s with h|h
  . rw [TU,h];simp only [Dk];split<;>simp
  . exact .inr h
def sW:∀(ds:List Nat) (F:Fm) (d:Nat),(d∈ds\/Off d F)->Off d (TU ds F)
 |[],F,d,h=>by
  rcases h with h|h
  . cases h
  . exact h
 |e::ds,F,d,h=>by
  refine sW ds (Dk e F) d ?_;rcases h with h|h
  . cases h with
    |head=>exact .inr (yV _ F)
    |tail _ h=>exact .inl h
  . exact .inr (h.Dk e)
def sX:∀(ds:List Nat) (F:Fm) (d:Nat),d ∉ ds->TU ds (put d (.lp d 0) F)=put d (.lp d 0) (TU ds F)
 |[],F,d,_=>rfl
 |e::ds,F,d,h=>by
  simp only [Ah,not_or] at h;simp only [TU];rw [YW h.1,sX ds _ d h.2]
def Us:PT->List Nat×PT
 | .lay i t=>(i::(Us t).1,(Us t).2)
 |t=>([],t)
def ARE (qs:List Q):List Nat->Option (List (Nat×Nat×List I))
 |[]=>some []
 |i::l=>match qs[i]? with
  |some ⟨some d,.al z false,none⟩=>if BA z then (ARE qs l).map ((i,d,z)::·) else none
  |_=>none
def iX (ops:Array Oper) (tab:Array Nat) (qs:List Q):List (Nat×Nat×List I)->Array Bool->Bool
 |[],_=>true
 |(i,d,_)::r,listed=>(Region.ready .any ops listed).contains i&&AXV tab qs i d&& !(r.map (·.2.1)).contains d&&iX ops tab qs r (listed.setIfInBounds i true)
def tC:List Nat->Array Bool->Array Bool
 |[],a=>a
 |i::l,a=>tC l (a.setIfInBounds i true)
def AY8:List (Nat×Nat×List I)->Fm->Fm
 |[],F=>F
 |(_,d,_)::r,F=>AY8 r (put d (.lp d 0) (Dk d F))
def AY9:List (Nat×Nat×List I)->Lm->Lm
 |[],L=>L
 |(_,d,z)::r,L=>AY9 r (CN d z L)
def zO {ops:Array Oper} {tab:Array Nat} (a:∀j i,(tab.getD j 0).testBit i=true->Anc ops j i) {qs:List Q} {n:Nat}:∀(ls:List (Nat×Nat×List I)) (listed:Array Bool) (F:Fm) (L:Lm) (A:X),
 (∀x∈ls,qs[x.1]?=some ⟨some x.2.1,.al x.2.2 false,none⟩/\BA x.2.2=true)->iX ops tab qs ls listed=true->La ops listed->listed.size=ops.size->
 fS P ops qs K n (tC (ls.map (·.1)) listed) (AY8 ls F) (AY9 ls L) A->fS P ops qs K (n+ls.length) listed (TU (ls.map (·.2.1)) F) L A
 |[],listed,F,L,A,_,_,_,_,h=>h
 |(i,d,z)::r,listed,F,L,A,l,g,c,k,h=>by
  simp only [iX,AM,B8,Du] at g;obtain ⟨⟨⟨m,e⟩,q⟩,b⟩:=g;have f:d ∉ r.map (·.2.1):=fun u=>by grind
  obtain ⟨p,t⟩:=l (i,d,z) (by simp);have o:=zO a (n:=n) r (listed.setIfInBounds i true) (put d (.lp d 0) (Dk d F)) (CN d z L) A (fun x s=>l x (by simp [s])) b (c.set m) (by grind) h;rw [sX _ _ _ f] at o;exact AW6 a p t e (n+r.length) listed _ L A c k m (sW (r.map (·.2.1)) (Dk d F) d (.inr (yV d F))) o
def Zj {ops:Array Oper} {tab:Array Nat} {qs:List Q}:∀(ls:List (Nat×Nat×List I)) (listed:Array Bool),iX ops tab qs ls listed=true->La ops listed->listed.size=ops.size->La ops (tC (ls.map (·.1)) listed)/\(tC (ls.map (·.1)) listed).size=ops.size
 |[],listed,_,c,e=>⟨c,e⟩
 |(i,d,z)::r,listed,a,b,f=>by
  simp only [iX,AM,B8] at a;exact Zj r _ a.2 (b.set a.1.1.1) (by grind)
def AK4 (ls:List (Nat×Nat×List I)) (t:QT):QT:=ls.foldr (fun x acc=>.one ⟨some x.2.1,.al x.2.2 false,none⟩ acc) t
def AFF:∀(ls:List (Nat×Nat×List I)) (t:QT) (F:Fm) (L:Lm),XT P K false (AK4 ls t) F L A->XT P K false t (AY8 ls F) (AY9 ls L) A
 |[],t,F,L,h=>h
 |(i,d,z)::r,t,F,L,h=>by
  have h:XQ P ⟨some d,.al z false,none⟩ (XT P K false (AK4 r t)) F L A:=h;have h:ZD z false (some d) (XT P K false (AK4 r t)) F L A:=h;exact AFF r t _ _ h.2
def pS (P:Program) (N:Nat) (esc:List Nat) (pf:List FuncId) (pt:PT) (ops:Array Oper):Option QT:=do
 let qs <- QO P N esc ops (Aj ops.size)
 let qs:=qs.map (toP pf)
 let tab:=fX ops.toList #[]
 let ls <- ARE qs (Us pt).1
 let l0:=FI ops.size false
 if iX ops tab qs ls l0&&Qg ops tab qs (Us pt).2 (tC (ls.map (·.1)) l0) none&&decide ((Us pt).2.depth+ls.length<=ops.size) then (eR qs (Us pt).2).map (AK4 ls) else none
def yN {qs:List Q}:∀(l:List Nat) (ls:List (Nat×Nat×List I)),ARE qs l=some ls->∀x∈ls,qs[x.1]?=some ⟨some x.2.1,.al x.2.2 false,none⟩/\BA x.2.2=true
 |[],ls,h,x,a=>by grind [ARE,AP]
 |i::l,ls,h,x,a=>by
  simp only [ARE] at h;split at h
  . rename_i d z b;split at h
    . rename_i e;simp only [AO] at h;obtain ⟨r,c,rfl⟩:=h;cases a with
      |head=>exact ⟨b,e⟩
      |tail _ a=>exact yN l r c x a
    . cases h
  . cases h
def xE {ops:Array Oper} {qs:List Q}:∀(n m:Nat) (listed:Array Bool) (F:Fm) (L:Lm) (A:X),n<=m->fS P ops qs K n listed F L A->fS P ops qs K m listed F L A
 |0,0,listed,F,L,A,_,h=>h
 |0,m+1,listed,F,L,A,_,h=>⟨fun _=>h.2,fun i a=>by rw [h.1] at a;cases a⟩
 |n+1,0,listed,F,L,A,b,h=>by omega
 |n+1,m+1,listed,F,L,A,b,h=>⟨h.1,fun i a=>by
  obtain ⟨q,c,d⟩:=h.2 i a;exact ⟨q,c,VC (fun F L A h=>xE n m _ F L A (by omega) h) d⟩⟩
def Bu.AcC (h:Bu base g lam Pr N F L A a w0 w) {F':Fm} (b:∀s,F' s=F s\/F' s= .undef):Bu base g lam Pr N F' L A a w0 w:=by
 refine ⟨fun s=>?_,h.sz,h.df,h.loc,h.inj,h.npr,h.rel⟩;rcases b s with e|e
 . rw [e];exact h.tm s
 . rw [e];exact VR.undef
def kR {ops:Array Oper} {esc:List Nat} {pf:List FuncId} {pt:PT} {qt:QT} (hm:P.follows .mixedOrders=true) (hc:pS P N esc pf pt ops=some qt) (hx:XT P K false qt F L A)
 (h:Bu base g lam Pr N F L A a w0 w) :(Code.region id ops true).wp P (fun e a' w'=>e= .normal/\FH base Pr N w0 g w K a' w') a w:=by
 simp only [pS,AX,AF] at hc;obtain ⟨qs0,hq0,ls,hls,hc⟩:=hc;split at hc
 case isFalse=>cases hc
 rename_i hp;simp only [AM,decide_eq_true_eq] at hp;simp only [AO] at hc;obtain ⟨t,ht,rfl⟩:=hc
 have hcl:La ops (FI ops.size false):=by
  intro j o ho hj
  have:(FI ops.size false).getD j false=false:=by
   simp only [HK,Array.getElem?_replicate];grind
  rw [this] at hj;cases hj
 obtain ⟨hcl2,hsz2⟩:=Zj ls _ hp.1.1 hcl (by simp);have hx2:=AFF ls t F L hx;have hany1:=(oA (P:=P) (K:=K) (fun j i=>jZ) _ t ht).1 _ _ _ _ A (AW _) hp.1.2 hcl2 hsz2 hx2;have hany2:=zO (P:=P) (K:=K) (tab:=fX ops.toList #[]) (fun j i=>jZ) ls _ F L A (yN _ ls hls) hp.1.1 hcl (by simp) hany1;have hany:=xE _ ops.size _ _ _ _ hp.2 hany2;refine wp_region_any hm ?_;have hF:=h.AcC (lE (ls.map (·.2.1)) F)
 have hdrew:Bu base g lam Pr N (TU (ls.map (·.2.1)) F) L A a w0 { w with drawn:=w.drawn+1}:=
  hF.step (w':=w.drew) (Gh.le_refl g) (fun k b hb=>rfl) (hF.rel.grow (w':=w.drew) (AW _) (fun _ _ _=>rfl) ((Below.refl base w).drew) (fun b hb=>⟨(hF.rel.pr b hb).1,.inl hb⟩))
 exact bX hq0 K _ _ base g lam Pr _ L A a w0 _ hany hdrew (fun a' w' hA=>⟨rfl,FH.trans (Gh.le_refl g) ⟨AW _,fun _ _=>rfl⟩ hA⟩)
def lin:QT->Option (List Q)
 | .done=>some []
 | .one q t=>(lin t).map (q::·)
 | .alt _ _ _=>none
def ARL:∀(t:QT) (a:List Q) (F:Fm) (L:Lm) (A:X),lin t=some a->Bm P K a F L A->XT P K false t F L A
 | .done,a,F,L,A,h,b=>by simp only [lin,AP] at h;subst h;exact b
 | .one q t,a,F,L,A,h,b=>by
  simp only [lin,AO] at h;obtain ⟨l,c,rfl⟩:=h;exact VC (fun F L A h=>ARL t l F L A c h) b
 | .alt _ _ _,a,F,L,A,h,_=>by simp [lin] at h
end
section
open Go.RowKit
inductive Q01 where
 |skip
 |reg (ops:List Q) (live:List Nat)
 |Gs (t:QT) (live:List Nat)
 |seq (x y:Q01)
 |cond (x:Q09) (t e:Q01)
 |block (id:Nat) (c:Q01)
 |loop (c:Q01)
 |exit (id:Nat)
 |ret
 |scope (c:Q01)
 |bad
inductive CI where
 |code (c:Q01)
 |C (id:Nat)
 |scp
 |again (c:Q01)
def AHD (P:Program) (N:Nat) (esc:List Nat) (pf:List FuncId) (live:List Nat) (pt:PT) (ops:Array Oper):Option Q01:=
 match pt with
 | .done=>(AJU P N esc pf (Aj ops.size) ops).map fun q=>.reg q live
 |pt=>(pS P N esc pf pt ops).map fun t=>match lin t with
  |some q=>.reg q live
  |none=>.Gs t live
def Hi (P:Program) (N:Nat) (esc:List Nat) (pf:List FuncId):Code->List (List Nat×PT)->Option (Q01×List (List Nat×PT))
 | .skip,ct=>some (.skip,ct)
 | .region _ ops false,(live,_)::ct=>some (((QO P N esc ops (Aj ops.size)).map fun q=>Q01.reg q live).getD .bad,ct)
 | .region _ ops true,(live,pt)::ct=>some ((AHD P N esc pf live pt ops).getD .bad,ct)
 | .seq x y,ct=>(Hi P N esc pf x ct).bind fun r=>(Hi P N esc pf y r.2).map fun r'=>(.seq r.1 r'.1,r'.2)
 | .cond c t e,ct=>(xo c).bind fun c'=>(Hi P N esc pf t ct).bind fun r=>(Hi P N esc pf e r.2).map fun r'=>(.cond c' r.1 r'.1,r'.2)
 | .block id c,ct=>(Hi P N esc pf c ct).map fun r=>(.block id r.1,r.2)
 | .loop c,ct=>(Hi P N esc pf c ct).map fun r=>(.loop r.1,r.2)
 | .exit id,ct=>some (.exit id,ct)
 | .ret,ct=>some (.ret,ct)
 | .scope c,ct=>(Hi P N esc pf c ct).map fun r=>(.scope r.1,r.2)
 | .label _,ct=>some (.skip,ct)
 |_,_=>none
inductive RV where
 |t (n:Nat)
 |c (n:Nat) (k:Option Nat)
def dB (P:Program):List ResultVar->Option (List RV)
 |[]=>some []
 | .tmp n::l=>do some (.t n::(<- dB P l))
 | .cell n t::l=>do
  let k <- ldN P t
  some (.c n k::(<- dB P l))
def rvA (F:Fm) (L:Lm) (A:X):RV->Option I
 | .t n=>some (F n)
 | .c n k=>ldA L A (F n) k
def AIZ (F:Fm) (L:Lm) (A:X):List RV->Option (List I)
 |[]=>some []
 |r::l=>do some ((<- rvA F L A r)::(<- AIZ F L A l))
def XC (F:Fm) (L:Lm) (A:X) (rs:List RV):Option I:=
 (AIZ F L A rs).bind fun vs=>if vs.all I.BS then (match vs with|[v]=>some v|vs=>some (.tup vs)) else none
def Ee (ks:List Nat) (F:Fm):Fm:=fun s=>if s∈ks then F s else .undef
def GK (ks:List Nat) (L:Lm):Lm:=fun s=>if s∈ks then L s else none
variable {P:Program} {base N:Nat} {g g':Gh} {Pr:Nat->Prop} {A H:X} {w0 w w':World} {lam:Nat->Option Nat} {F F':Fm} {L L':Lm} {a:Act}
def Bu.AW4 (h:Bu base g lam Pr N F L A a w0 w) (c:∀s,F' s=F s\/F' s= .undef) (d:∀k cs,L' k=some cs->L k=some cs) (b:H.le A):Bu base g lam Pr N F' L' H a w0 w:=by
 refine ⟨fun s=>?_,h.sz,h.df,fun k cs f=>h.loc k cs (d k cs f),h.inj,h.npr,h.rel.less b⟩;rcases c s with e|e
 . rw [e];exact h.tm s
 . rw [e];exact VR.undef
def Bu.kept (h:Bu base g lam Pr N F L A a w0 w) (ks:List Nat):Bu base g lam Pr N (Ee ks F) (GK ks L) A a w0 w:=
 h.AW4 (fun s=>by simp only [Ee];grind) (fun k cs b=>by grind [GK]) (X.le_refl A)
structure Cx where
 P:Program
 f:FuncId
 fn:Func
 N:Nat
 esc:List Nat
 pf:List FuncId
 rs:List RV
def RC (cx:Cx):Q01->Code->Prop
 | .skip,k=>k= .skip\/∃l,k= .label l
 | .scope c,k=>∃p,k= .scope p/\RC cx c p
 | .reg ops _,k=>∃id arr,(k= .region id arr false/\QO cx.P cx.N cx.esc arr (Aj arr.size)=some ops)\/(k= .region id arr true/\∃order,AJU cx.P cx.N cx.esc cx.pf order arr=some ops)\/(k= .region id arr true/\∃pt t,pS cx.P cx.N cx.esc cx.pf pt arr=some t/\lin t=some ops)
 | .Gs t _,k=>∃id arr pt,k= .region id arr true/\pS cx.P cx.N cx.esc cx.pf pt arr=some t
 | .seq x y,k=>∃p q,k= .seq p q/\RC cx x p/\RC cx y q
 | .cond x t e,k=>∃c p q,k= .cond c p q/\xo c=some x/\RC cx t p/\RC cx e q
 | .block id c,k=>∃p,k= .block id p/\RC cx c p
 | .loop c,k=>∃p,k= .loop p/\RC cx c p
 | .exit id,k=>k= .exit id
 | .ret,k=>k= .ret
 | .bad,_=>True
def Nn (cx:Cx):∀(k:Code) (ct:List (List Nat×PT)) (c:Q01) (a:List (List Nat×PT)),Hi cx.P cx.N cx.esc cx.pf k ct=some (c,a)->RC cx c k
 | .skip,ct,c,a,h=>by simp only [Hi,AP,B3] at h;rw [<- h.1];exact .inl rfl
 | .region id b o,ct,c,a,h=>by
  cases ct with
  |nil=>grind [Hi]
  |cons v ct=>
   obtain ⟨g,order⟩:=v;cases o
   . simp only [Hi,AP,B3] at h;obtain ⟨rfl,_⟩:=h;cases d:QO cx.P cx.N cx.esc b (Aj b.size) with
     |none=>exact trivial
     |some qs=>exact ⟨id,b,.inl ⟨rfl,d⟩⟩
   . simp only [Hi,AP,B3] at h;obtain ⟨rfl,_⟩:=h;cases d:AHD cx.P cx.N cx.esc cx.pf g order b with
     |none=>exact trivial
     |some c'=>
     simp only [BH];unfold AHD at d;split at d
     . simp only [AO] at d;obtain ⟨qs,m,rfl⟩:=d;exact ⟨id,b,.inr (.inl ⟨rfl,_,m⟩)⟩
     . simp only [AO] at d;obtain ⟨t,j,rfl⟩:=d;cases s:lin t with
       |some q=>exact ⟨id,b,.inr (.inr ⟨rfl,_,t,j,s⟩)⟩
       |none=>exact ⟨id,b,_,rfl,j⟩
 | .seq x y,ct,c,a,h=>by
  simp only [Hi,AF,AO,B3] at h;obtain ⟨⟨B,i⟩,n,⟨D,c2⟩,u,rfl,_⟩:=h;exact ⟨x,y,rfl,Nn cx x _ _ _ n,Nn cx y _ _ _ u⟩
 | .cond c t e,ct,c2,a,h=>by
  simp only [Hi,AF,AO,B3] at h;obtain ⟨x,n,⟨t',i⟩,j,⟨z,w⟩,r,rfl,_⟩:=h;exact ⟨c,t,e,rfl,n,Nn cx t _ _ _ j,Nn cx e _ _ _ r⟩
 | .block id p,ct,c,a,h=>by
  simp only [Hi,AO,B3] at h;obtain ⟨⟨c',i⟩,f,rfl,_⟩:=h;exact ⟨p,rfl,Nn cx p _ _ _ f⟩
 | .loop p,ct,c,a,h=>by
  simp only [Hi,AO,B3] at h;obtain ⟨⟨c',i⟩,f,rfl,_⟩:=h;exact ⟨p,rfl,Nn cx p _ _ _ f⟩
 | .exit id,ct,c,a,h=>by simp only [Hi,AP,B3] at h;rw [<- h.1];rfl
 | .ret,ct,c,a,h=>by simp only [Hi,AP,B3] at h;rw [<- h.1];rfl
 | .rangeFunc ..,ct,c,a,h=>by simp only [Hi] at h;cases h
 | .scope p,ct,c,a,h=>by
  simp only [Hi,AO,B3] at h;obtain ⟨⟨c',i⟩,f,rfl,_⟩:=h;exact ⟨p,rfl,Nn cx p _ _ _ f⟩
 | .label l,ct,c,a,h=>by simp only [Hi,AP,B3] at h;rw [<- h.1];exact .inr ⟨l,rfl⟩
 | .goto _,ct,c,a,h=>by simp only [Hi] at h;cases h
 | .refuse _,ct,c,a,h=>by simp only [Hi] at h;cases h
def RI (cx:Cx):CI->Item->Prop
 | .code c,y=>∃k,y= .code k/\RC cx c k
 | .C id,y=>y= .inBlock id
 | .scp,y=>∃k,y= .inScope k
 | .again c,y=>∃k,y= .inLoop k/\RC cx c k
inductive RIs (cx:Cx):List CI->List Item->Prop
 |nil:RIs cx [] []
 |cons {x:CI} {y:Item} {xs:List CI} {ys:List Item} (h:RI cx x y) (hs:RIs cx xs ys):RIs cx (x::xs) (y::ys)
class Good (cx:Cx):Prop where
 gA:cx.P.funcs[cx.f]?=some cx.fn
 gB:dB cx.P cx.fn.results.toList=some cx.rs
 gC:cx.P.follows .mixedOrders=true
def W (cx:Cx) (K:I->X->Prop) (todo:List CI) (F:Fm) (L:Lm) (A:X):Prop:=
 ∀(items:List Item) (base:Nat) (g:Gh) (lam:Nat->Option Nat) (Pr:Nat->Prop) (a:Act) (w0 w:World) (b:Frame) (cs:List Frame),
  RIs cx todo items->Bu base g lam Pr cx.N F L A a w0 w->b.fn=cx.f->b.kind= .normal->
  ∃v w' fr,Steps cx.P (lone (b.at a items) cs w) (lone fr cs w')/\fr.fn=cx.f/\fr.leaving cx.P w' (.returned v)/\
   ∃av g' H,VR g' av v/\Rel base g' Pr H w0 w'/\g.le g'/\KP Pr w w'/\K av H
variable {cx:Cx} {K:I->X->Prop} {k:List CI}
def W.Pm {k':List CI}
 (o:∀d,RIs cx k d->∃c,RIs cx k' c/\∀(b:Frame) (a:Act) (cs:List Frame) (w:World),step cx.P (lone (b.at a d) cs w)= .next (lone (b.at a c) cs w))
 (h:W cx K k' F L A):W cx K k F L A:=by
 intro d base g lam Pr a w0 w b cs m l j n;obtain ⟨c,e,i⟩:=o d m;obtain ⟨v,w',fr,f,rest⟩:=h c base g lam Pr a w0 w b cs e l j n;exact ⟨v,w',fr,.head (i b a cs w) f,rest⟩
def RIs.code {c:Q01} {items:List Item} (h:RIs cx (.code c::k) items):∃p ys,items= .code p::ys/\RC cx c p/\RIs cx k ys:=by
 cases h with
 |cons a b=>obtain ⟨p,rfl,d⟩:=a;grind
def RIs.Pk {c:Q01} {p:Code} {ys:List Item} (a:RC cx c p) (h:RIs cx k ys):RIs cx (.code c::k) (.code p::ys):= .cons ⟨p,rfl,a⟩ h
def W.skip (h:W cx K k F L A):W cx K (.code .skip::k) F L A:=
 h.Pm fun a b=>by
  obtain ⟨p,ys,rfl,c,d⟩:=b.code;rcases c with rfl|⟨l,rfl⟩
  . grind [step_skip]
  grind [step_label]
def W.scope {c:Q01} (h:W cx K (.code c::.scp::k) F L A):W cx K (.code (.scope c)::k) F L A:=
 h.Pm fun e g=>by
  obtain ⟨p,ys,rfl,⟨i,rfl,f⟩,d⟩:=g.code;exact ⟨_,.Pk f (.cons ⟨i,rfl⟩ d),fun b a cs w=>step_scope⟩
def W.scp (h:W cx K k F L A):W cx K (.scp::k) F L A:=
 h.Pm fun a b=>by
  cases b with
  |cons c d=>obtain ⟨p,rfl⟩:=c;grind [step_inScope]
def W.seq {x y:Q01} (h:W cx K (.code x::.code y::k) F L A):W cx K (.code (.seq x y)::k) F L A:=
 h.Pm fun d g=>by
  obtain ⟨p,ys,rfl,⟨i,j,rfl,e,f⟩,c⟩:=g.code;exact ⟨_,.Pk e (.Pk f c),fun b a cs w=>step_seq⟩
def W.block {c:Q01} (h:W cx K (.code c::.C id::k) F L A):W cx K (.code (.block id c)::k) F L A:=
 h.Pm fun e g=>by
  obtain ⟨p,ys,rfl,⟨i,rfl,f⟩,d⟩:=g.code;exact ⟨_,.Pk f (.cons rfl d),fun b a cs w=>step_block⟩
def W.C (h:W cx K k F L A):W cx K (.C id::k) F L A:=
 h.Pm fun a b=>by
  cases b with
  |cons c d=>cases c;grind [step_inBlock]
def W.loop {c:Q01} (h:W cx K (.code c::.again c::k) F L A):W cx K (.code (.loop c)::k) F L A:=
 h.Pm fun e g=>by
  obtain ⟨p,ys,rfl,⟨i,rfl,f⟩,d⟩:=g.code;exact ⟨_,.Pk f (.cons ⟨i,rfl,f⟩ d),fun b a cs w=>step_loop⟩
def W.again {c:Q01} (h:W cx K (.code c::.again c::k) F L A):W cx K (.again c::k) F L A:=
 h.Pm fun e g=>by
  cases g with
  |cons i d=>obtain ⟨j,rfl,f⟩:=i;exact ⟨_,.Pk f (.cons ⟨j,rfl,f⟩ d),fun b a cs w=>step_inLoop⟩
def KF (id:Nat):List CI->Option (List CI)
 | .C id'::k=>if id'=id then some k else KF id k
 |_::k=>KF id k
 |[]=>none
theorem Np {id:Nat}:∀(k:List CI) (a:List Item) (j:List CI),RIs cx k a->KF id k=some j->∃b,exitTo id a=some b/\RIs cx j b
 |[],_,_,_,h=>by cases h
 |x::k,a,j,m,h=>by
  cases m with
  |@cons _ y _ ys l d=>
   cases x with
   |code c=>
    obtain ⟨p,rfl,_⟩:=l;obtain ⟨i,f,g⟩:=Np k ys j d (by simpa [KF] using h);exact ⟨i,by simpa [exitTo] using f,g⟩
   |again c=>
    obtain ⟨p,rfl,_⟩:=l;obtain ⟨i,f,g⟩:=Np k ys j d (by simpa [KF] using h);exact ⟨i,by simpa [exitTo] using f,g⟩
   |scp=>
    obtain ⟨p,rfl⟩:=l;obtain ⟨i,f,g⟩:=Np k ys j d (by simpa [KF] using h);exact ⟨i,by simpa [exitTo] using f,g⟩
   |C n=>
    cases l;simp only [KF] at h;split at h
    . rename_i e;cases h;exact ⟨ys,by simp [exitTo,e],d⟩
    . rename_i e;obtain ⟨i,f,g⟩:=Np k ys j d h;exact ⟨i,by simpa [exitTo,e] using f,g⟩
def W.exit {k':List CI} (e:KF id k=some k') (h:W cx K k' F L A):W cx K (.code (.exit id)::k) F L A:=
 h.Pm fun a b=>by
  obtain ⟨p,ys,rfl,c,d⟩:=b.code;cases c
  grind [Np,step_exit]
def W.cond {x:Q09} {t e:Q01} {b:Bool} (E:xv F x= .d (.bool b)) (D:b=true->W cx K (.code t::k) F L A) (y:b=false->W cx K (.code e::k) F L A):
 W cx K (.code (.cond x t e)::k) F L A:=by
 intro m base g lam Pr a w0 w n cs B i o q;obtain ⟨p,ys,rfl,⟨c,G,N,rfl,u,r,s⟩,h⟩:=B.code;have l:=Aq u i;rw [E] at l;have f:a.eval c= .bool b:=by generalize a.eval c=P at l;cases l with|d z=>cases z;rfl
 cases b with
 |true=>
  obtain ⟨v,w',fr,j,rest⟩:=D rfl _ base g lam Pr a w0 w n cs (.Pk r h) i o q;exact ⟨v,w',fr,.head (step_cond f) j,rest⟩
 |false=>
  obtain ⟨v,w',fr,j,rest⟩:=y rfl _ base g lam Pr a w0 w n cs (.Pk s h) i o q;exact ⟨v,w',fr,.head (step_cond f) j,rest⟩
def AGT (cx:Cx) (K:I->X->Prop) (k:List CI) (live:List Nat):CV:=fun F L A=>W cx K k (Ee live F) (GK live L) A
def W.reg (D:cx.P.follows .mixedOrders=true) (h:Bm cx.P (AGT cx K k live) ops F L A):W cx K (.code (.reg ops live)::k) F L A:=by
 intro B base g lam Pr a w0 w b cs S n P T;obtain ⟨p,ys,rfl,⟨id,arr,U⟩,z⟩:=S.code
 have Z:p.wp cx.P (fun e m w'=>e= .normal/\FH base Pr cx.N w0 g w (AGT cx K k live) m w') a w:=by
  rcases U with ⟨rfl,d⟩|⟨rfl,order,d⟩|⟨rfl,pt,t,d,u⟩
  . exact wp_region (uB cx.P arr cx.N cx.esc (AGT cx K k live) _ _ base g lam Pr F L A a w0 w d h n (fun _ _ h=>⟨rfl,h⟩))
  . exact AHO D d h n
  . exact kR D d (ARL t ops F L A u h) n
 obtain ⟨e,m,w',⟨R,g',l,F',L',H,x,s,o,N⟩,c⟩:=Z b ys cs;subst R;obtain ⟨v,w2,fr,Y,q,u,E,G,σ2,y,j,i,f,r⟩:=N ys base g' l Pr m w0 w' b cs z (o.kept live) P T;exact ⟨v,w2,fr,Steps.trans c Y,q,u,E,G,σ2,y,j,Gh.le_trans x i,s.trans f,r⟩
def W.Gs {t:QT} (S:cx.P.follows .mixedOrders=true) (h:XT cx.P (AGT cx K k live) false t F L A):W cx K (.code (.Gs t live)::k) F L A:=by
 intro x base g lam Pr a w0 w b cs P N D Q;obtain ⟨p,ys,rfl,⟨id,arr,Z,rfl,E⟩,u⟩:=P.code;have U:(Code.region id arr true).wp cx.P (fun e l w'=>e= .normal/\FH base Pr cx.N w0 g w (AGT cx K k live) l w') a w:=kR S E h N;obtain ⟨e,l,w',⟨G,g',j,F',L',H,r,q,m,B⟩,c⟩:=U b ys cs;subst G;obtain ⟨v,Y,fr,T,n,R,y,z,σ2,s,i,f,d,o⟩:=B ys base g' j Pr l w0 w' b cs u (m.kept live) D Q;exact ⟨v,Y,fr,Steps.trans c T,n,R,y,z,σ2,s,i,Gh.le_trans r f,q.trans d,o⟩
def jU (m:Bu base g lam Pr N F L A a w0 w):∀(l:List ResultVar) (r:List RV) (vs:List I),dB P l=some r->AIZ F L A r=some vs->vs.all I.BS=true->
 ∃p:List Value,(l.mapM fun| .tmp t=>pure (a.tmps.getD t DJ)| .cell s t=>do loadVar t (<- asAddr (a.tmps.getD s DJ)):Sem (List Value)).run P w= .ok p w/\VRs g vs p
 |[],r,vs,c,d,_=>by
  simp only [dB,AP] at c;subst c;simp only [AIZ,AP] at d;subst d;exact ⟨[],by simp,.nil⟩
 | .tmp n::l,r,vs,c,d,o=>by
  simp only [dB,AX,AF] at c;obtain ⟨j,f,e⟩:=c;cases e;simp only [AIZ,AX,AF,rvA] at d;obtain ⟨v,h,k,i,e⟩:=d;cases e;cases h;simp only [BK,AM] at o;obtain ⟨p,E,y⟩:=jU m l j k f i o.2;exact ⟨a.tmps.getD n DJ::p,by simp_all,.cons ((m.tm n).vr o.1) y⟩
 | .cell n t::l,r,vs,c,d,o=>by
  simp only [dB,AX,AF] at c;obtain ⟨K,u,j,f,e⟩:=c;cases e;simp only [AIZ,AX,AF,rvA] at d;obtain ⟨v,h,k,i,e⟩:=d;cases e;simp only [BK,AM] at o;obtain ⟨p,E,y⟩:=jU m l j k f i o.2;obtain ⟨x,b,z⟩:=AEZ (P:=P) u m (m.tm n) h
  have q:(do loadVar t (<- asAddr (a.tmps.getD n DJ)):Sem Value).run P w= .ok x w:=by
   have D:=m.tm n;generalize a.tmps.getD n DJ=G at D b;cases B:G<;>simp only [B,Instr.loadAt,Instr.sureAddr] at b<;>try (simp at b;done)
   rename_i s;cases s with
   |none=>simp at b
   |some s=>grind [asAddr,Instr.sureAddr]
  exact ⟨x::p,by grind [Sem.run_bind,Result.andThen_ok,Sem.run_pure],.cons z y⟩
def zA {fn:Func} {rs:List RV} (k:dB P fn.results.toList=some rs) (l:Bu base g lam Pr N F L A a w0 w) (c:XC F L A rs=some v):
 ∃x,(results fn a.tmps).run P w= .ok x w/\VR g v x:=by
 simp only [XC,AF] at c;obtain ⟨vs,j,c⟩:=c;split at c
 case isFalse=>cases c
 rename_i m;obtain ⟨f,n,e⟩:=jU (P:=P) l _ rs vs k j m
 have b:(results fn a.tmps).run P w= .ok (if h:f.toArray.size=1 then f.toArray[0] else .tuple f.toArray) w:=by
  unfold results;rw [Array.mapM_eq_mapM_toList];simp only [Sem.run_bind,Sem.run_map,Sem.run_pure];exact congrArg (fun r:Result (List Value)=>(r.andThen fun a w'=>Result.ok a.toArray w').andThen fun (a:Array Value) w'=>Result.ok (if h:a.size=1 then a[0] else Value.tuple a) w') n
 have d:=e.length;cases vs with
 |nil=>
  cases c;cases e;exact ⟨_,b,by simpa using VR.tup (g:=g) (cs:=[]) (vs:=[]) rfl (by simp)⟩
 |cons v1 vs=>
  cases vs with
  |nil=>
   cases c;cases e with|cons o p=>grind
  |cons q vs=>
   cases c;refine ⟨_,b,?_⟩;have i:¬f.toArray.size=1:=by simp at d ⊢;omega
   rw [dif_neg i];exact .tup e.length e.idx
def W.fin (i:Good cx) (n:XC F L A cx.rs=some v) (o:∀g x,VR g v x->VR g v' x) (e:σ2.le A) (k:K v' σ2):W cx K [] F L A:=by
 intro f base g lam Pr a w0 w b cs l c h m;cases l;obtain ⟨x,p,d⟩:=zA i.2 c n;refine ⟨x,w,_,.one step_end,h,⟨rfl,c.df,m,cx.fn,by show cx.P.funcs[b.fn]?=_;rw [h];exact i.1,p⟩,v',g,σ2,o g x d,?_,Gh.le_refl g,KP.refl Pr w,k⟩;exact (c.rel.less e).grow (AW _) (fun _ _ _=>rfl) (Below.refl _ _) (fun b j=>⟨(c.rel.pr b (.inl j)).1,.inl (.inl j)⟩)
def W.ret (j:Good cx) (o:XC F L A cx.rs=some v) (q:∀g x,VR g v x->VR g v' x) (f:σ2.le A) (l:K v' σ2):W cx K (.code .ret::k) F L A:=by
 intro h base g lam Pr a w0 w b cs m c i n;obtain ⟨p,ys,rfl,d,s⟩:=m.code;cases d;obtain ⟨x,r,e⟩:=zA j.2 c o;refine ⟨x,w,_,.one step_ret,i,⟨rfl,c.df,n,cx.fn,by show cx.P.funcs[b.fn]?=_;rw [i];exact j.1,r⟩,v',g,σ2,q g x e,?_,Gh.le_refl g,KP.refl Pr w,l⟩;exact (c.rel.less f).grow (AW _) (fun _ _ _=>rfl) (Below.refl _ _) (fun b d=>⟨(c.rel.pr b (.inl d)).1,.inl (.inl d)⟩)
def Px (args:List I):Fm:=fun s=>args.getD s .undef
def ALS {args:List I} {c:Q01} {code:Code} (z:Good cx) (u:cx.fn.body=some code) (E:cx.fn.ntmps=cx.N) (F:args.length<=cx.N) (x:RC cx c code)
 (h:W cx K [.code c] (Px args) (fun _=>none) A):AS cx.P cx.f args A K:=by
 intro base g Pr w0 w vs m e cs
 let b:Frame:= { (default:Frame) with fn:=cx.f,kind:= .normal}
 have a:Frame.enter cx.P cx.f vs.toArray .normal=b.at { tmps:=vs.toArray++FI (cx.fn.ntmps - vs.toArray.size) DJ,defers:=[]} [.code code]:=by
  simp [Frame.enter,Frame.at,z.1,u,b]
 have D:=e.length
 have y:Bu base g (fun _=>none) Pr cx.N (Px args) (fun _=>none) A { tmps:=vs.toArray++FI (cx.fn.ntmps - vs.toArray.size) DJ,defers:=[]} w0 w:=by
  refine ⟨fun s=>?_,by simp;omega,rfl,fun k cs d=>(by cases d),fun k L b d=>(by cases d),fun k b d=>(by cases d),?_⟩
  . simp only [Px,BG];cases f:args[s]? with
    |none=>exact VR.undef
    |some i=>
     obtain ⟨v,n,G⟩:=e.at s i f;have B:=(AG.1 n).1
     have:(vs.toArray++FI (cx.fn.ntmps - vs.toArray.size) DJ).getD s DJ=v:=by
      simp only [HK];rw [Array.getElem?_append_left (by grind)];simp [n]
     grind [SV,FI,DJ,SV.FT]
  . grind
 obtain ⟨v,w',fr,f,j,l,i,g',H,o,p,q,r,t⟩:=h [.code code] base g _ Pr _ w0 w b cs (.Pk x .nil) y rfl rfl;rw [<- a] at f;exact ⟨.returned v,w',fr,⟨v,i,g',H,rfl,o,p,q,r,t⟩,f,j,l⟩
end
variable {k':List CI}
section
open Go.RowKit
variable {P:Program} {K:CV} {F:Fm} {L:Lm} {A:X} {r:List Q}
def E:Lm:=fun _=>none
def Zi (k:Nat) (o:Option (List I)) (L:Lm):Lm:=fun s=>if s=k then o else L s
def DR (d:Nat) (v:I) (F:Fm) (s:Nat):put d v F s=if s=d then v else F s:=(rfl)
def ASM (d:Nat) (cs:List I) (L:Lm) (s:Nat):CN d cs L s=if s=d then some cs else L s:=(rfl)
def AaV (s:Nat):E s=none:=(rfl)
def Aa2 (s:Nat):U s= .undef:=(rfl)
def ARC (F:Fm):Ee [] F=U:=(rfl)
def ANC (k:Nat) (ks:List Nat) (F:Fm):Ee (k::ks) F=put k (F k) (Ee ks F):=by
 grind [Ee,put]
def ANB (L:Lm):GK [] L=E:=(rfl)
def AIB (k:Nat) (ks:List Nat) (L:Lm):GK (k::ks) L=Zi k (L k) (GK ks L):=by
 grind [GK,Zi]
def AIV (k:Nat) (cs:List I) (L:Lm):Zi k (some cs) L=CN k cs L:=(rfl)
def AV7 (k:Nat):Zi k none E=E:=by funext s;simp [Zi,E]
def AIU (k j:Nat) (cs:List I) (L:Lm):Zi k none (CN j cs L)=if j=k then Zi k none L else CN j cs (Zi k none L):=by
 funext s;by_cases h:j=k
 . subst h;simp only [if_true,Zi,CN]
   grind
 . simp only [h,if_false,Zi,CN]
   grind
def AN4 (k:Nat) (cs ds:List I) (L:Lm):CN k cs (CN k ds L)=CN k cs L:=by
 grind [CN]
def AdG (F:Fm) (n:Nat):xv F (.t n)=F n:=(rfl)
def AdF (F:Fm) (v:I):xv F (.c v)=v:=(rfl)
def Dx (a:I):Px [a]=put 0 a U:=by
 grind [Px,put,U]
def B4 (a b:I):Px [a,b]=put 0 a (put 1 b U):=by
 grind [Px,put,U]
def DN (a b c:I):Px [a,b,c]=put 0 a (put 1 b (put 2 c U)):=by
 grind [Px,put,U]
def Ka (a b c d:I):Px [a,b,c,d]=put 0 a (put 1 b (put 2 c (put 3 d U))):=by
 grind [Px,put,U]
def oT (a b c d e:I):Px [a,b,c,d,e]=put 0 a (put 1 b (put 2 c (put 3 d (put 4 e U)))):=by
 grind [Px,put,U]
def AV6 (k:Nat):Dk k U=U:=by funext s;simp [Dk,U,I.Cp]
def AN3 (k d:Nat) (v:I) (F:Fm):Dk k (put d v F)=put d (if v.Cp k then .undef else v) (Dk k F):=by
 grind [Dk,put]
def AZD (k:Nat) (x:DV):(I.d x).Cp k=false:=(rfl)
def ANH (k:Nat):I.Ac.Cp k=false:=(rfl)
def ARR (k t e s:Nat) (r:List (List DV)):(I.own t e s r).Cp k=false:=(rfl)
def ARQ (k:Nat) (r:List I):(I.agg r).Cp k=false:=(rfl)
def AVT (k j o:Nat):(I.lp j o).Cp k=(j==k):=(rfl)
def AVS (k j o:Nat):(I.gp j o).Cp k=false:=(rfl)
def AVQ (k o:Nat) (r:List DV):(I.ep r o).Cp k=false:=(rfl)
def AVU (k i n s e:Nat):(I.ms i n s e).Cp k=false:=(rfl)
def eF (k t:Nat) (es:MEs):(I.om t es).Cp k=false:=(rfl)
def AVR (k:Nat) (f:FuncId) (x y:List I):(I.fn f x y).Cp k=false:=(rfl)
def ARS (k:Nat) (x:List I):(I.tup x).Cp k=false:=(rfl)
def AUM (x:DV):I.cells (I.d x)=[(I.d x)]:=(rfl)
def AG8:I.cells I.Ac=[I.Ac]:=(rfl)
def AL4 (t e s:Nat) (r:List (List DV)):I.cells (I.own t e s r)=[(I.own t e s r)]:=(rfl)
def AL3 (r:List I):I.cells (I.agg r)=r:=(rfl)
def APP (j o:Nat):I.cells (I.gp j o)=[(I.gp j o)]:=(rfl)
def APQ (i n s e:Nat):I.cells (I.ms i n s e)=[(I.ms i n s e)]:=(rfl)
def APO (f:FuncId) (x y:List I):I.cells (I.fn f x y)=[(I.fn f x y)]:=(rfl)
def AQ9 (x:DV):I.Bo (I.d x)=true:=(rfl)
def AES:I.Bo I.Ac=true:=(rfl)
def AH9 (t e s:Nat) (r:List (List DV)):I.Bo (I.own t e s r)=true:=(rfl)
def AM7 (j o:Nat):I.Bo (I.gp j o)=true:=(rfl)
def AER:I.Bo I.Dt=true:=(rfl)
def AM8 (i n s e:Nat):I.Bo (I.ms i n s e)=true:=(rfl)
def AEQ:I.Bo I.Jd=true:=(rfl)
def AM6 (f:FuncId) (x y:List I):I.Bo (I.fn f x y)=true:=(rfl)
def Je (x:DV):I.BS (I.d x)=true:=(rfl)
def ANQ:I.BS I.Ac=true:=(rfl)
def AR9 (t e s:Nat) (r:List (List DV)):I.BS (I.own t e s r)=true:=(rfl)
def CY (r:List I):I.BS (I.agg r)=true:=(rfl)
def Pl (j o:Nat):I.BS (I.gp j o)=true:=(rfl)
def AKY (i n s e:Nat):I.BS (I.ms i n s e)=true:=(rfl)
def eN (f:FuncId) (x y:List I):I.BS (I.fn f x y)=true:=(rfl)
def AIO:I.BS I.undef=true:=(rfl)
def AYV (x:DV):I.dv (I.d x)=some x:=(rfl)
def AUX:I.dv I.Ac=some (.sl []):=(rfl)
def ASU (t e s:Nat) (r:List (List DV)):I.rows (I.own t e s r)=some r:=(rfl)
def AZU (r:List (List DV)):I.rows (I.d (.sl r))=some r:=(rfl)
def ANE:Vh I.Ac=some (.d (.int .i64 0)):=(rfl)
def ARK (t e s:Nat) (r:List (List DV)):Vh (I.own t e s r)=some (.d (.int .i64 r.length)):=(rfl)
def AVL (i n s e:Nat):Vh (I.ms i n s e)=some (.d (.int .i64 n)):=(rfl)
def AZB (r:List (List DV)):Vh (I.d (.sl r))=some (.d (.int .i64 r.length)):=(rfl)
def AaQ:Bm P K [] F L A=K F L A:=(rfl)
def AaU (b:Bool) (q:Q) (t:QT):XT P K b (.one q t) F L A=Bm P (XT P K false t) [q] F L A:=by cases b<;>rfl
def AaT (b:Bool) (q:Q) (t s:QT):XT P K b (.alt q t s) F L A=(Bm P (XT P K false t) [q] F L A/\XT P K true s F L A):=by cases b<;>rfl
def AXM:XT P K false .done F L A=K F L A:=(rfl)
def AXN:XT P K true .done F L A=True:=(rfl)
def ATZ (v:I) (d:Nat):XPv (some v) (some d) K F L A=K (put d v F) L A:=(rfl)
def AcN (d:Nat) (x:Q09):Bm P K (⟨some d,.mv x,none⟩::r) F L A=Bm P K r (put d (xv F x) F) L A:=(rfl)
def AXI (d:Option Nat) (x y z:Q09):Bm P K (⟨d,.pick x y z,none⟩::r) F L A=XPv (AFE (xv F x) (xv F y) (xv F z)) d (Bm P K r) F L A:=(rfl)
def AaK (d:Option Nat) (x:Q09) (o:Nat):Bm P K (⟨d,.fld x o,none⟩::r) F L A=XPv (AHU (xv F x) o) d (Bm P K r) F L A:=(rfl)
def AcL (d:Option Nat) (x:Q09) (n:Option Nat):Bm P K (⟨d,.ld x n,none⟩::r) F L A=XPv (ldA L A (xv F x) n) d (Bm P K r) F L A:=(rfl)
def AcK (d:Option Nat) (x y:Q09) (n:Nat):Bm P K (⟨d,.ix x y n,none⟩::r) F L A=XPv (ixA (xv F x) (xv F y) n) d (Bm P K r) F L A:=(rfl)
def AXK (d:Option Nat) (x y:Q09):Bm P K (⟨d,.AS4 x y,none⟩::r) F L A=XPv (tD (xv F x) (xv F y)) d (Bm P K r) F L A:=(rfl)
def AaM (d:Option Nat) (x:Q09):Bm P K (⟨d,.len x,none⟩::r) F L A=XPv (Vh (xv F x)) d (Bm P K r) F L A:=(rfl)
def AXL (d:Option Nat) (x:Q09):Bm P K (⟨d,.AOD x,none⟩::r) F L A=XPv (zH (xv F x)) d (Bm P K r) F L A:=(rfl)
def AaF (d:Option Nat) (op:BinOp) (x y:Q09):Bm P K (⟨d,.bin op x y,none⟩::r) F L A=XPv (ALY op (xv F x) (xv F y)) d (Bm P K r) F L A:=(rfl)
def AXB (d:Option Nat) (op:BinOp) (x y:Q09):Bm P K (⟨d,.APJ op x y,none⟩::r) F L A=XPv (xG op (xv F x) (xv F y)) d (Bm P K r) F L A:=(rfl)
def AcP (d:Option Nat) (op:UnOp) (x:Q09):Bm P K (⟨d,.un op x,none⟩::r) F L A=XPv (unA op (xv F x)) d (Bm P K r) F L A:=(rfl)
def AXG (d:Option Nat) (k:IntKind) (x:Q09):Bm P K (⟨d,.conv k x,none⟩::r) F L A=XPv (xR k (xv F x)) d (Bm P K r) F L A:=(rfl)
def AaG (d:Option Nat) (z:List I) (a:List (Nat×Nat×Q09)):Bm P K (⟨d,.bld z a,none⟩::r) F L A=XPv ((LA z F a).map .agg) d (Bm P K r) F L A:=(rfl)
def AaI (d:Option Nat) (s n:Nat) (z:List I) (a:List (Nat×Nat×Q09)):Bm P K (⟨d,.bsl s n z a,none⟩::r) F L A=XPv (((LA z F a).bind dvs).map fun l=>.d (.sl (chunk s n l))) d (Bm P K r) F L A:=(rfl)
def AaN (d:Option Nat) (f:FuncId) (x y:List Q09):Bm P K (⟨d,.mkf f x y,none⟩::r) F L A=XPv (if (xvs F x++xvs F y).all I.BS then some (.fn f (xvs F x) (xvs F y)) else none) d (Bm P K r) F L A:=(rfl)
def AaJ (d:Option Nat) (x:Q09) (i:Nat):Bm P K (⟨d,.ext x i,none⟩::r) F L A=XPv (AMH (xv F x) i) d (Bm P K r) F L A:=(rfl)
def AaP (d:Option Nat) (x:Q09):Bm P K (⟨d,.nck x,none⟩::r) F L A=XPv (AR3 (xv F x)) d (Bm P K r) F L A:=(rfl)
def AcM (d:Option Nat) (b:Bool) (x y:Q09):Bm P K (⟨d,.mm b x y,none⟩::r) F L A=XPv (mmA b (xv F x) (xv F y)) d (Bm P K r) F L A:=(rfl)
def AaH (d:Nat) (x:Q09):Bm P K (⟨some d,.box x false,none⟩::r) F L A=(BA (xv F x).cells=true/\Bm P K r (put d (.lp d 0) (Dk d F)) (CN d (xv F x).cells L) A):=(rfl)
def AcD (d:Nat) (z:List I):Bm P K (⟨some d,.al z false,none⟩::r) F L A=(BA z=true/\Bm P K r (put d (.lp d 0) (Dk d F)) (CN d z L) A):=(rfl)
def AXC (d:Nat) (x:Q09):Bm P K (⟨some d,.box x true,none⟩::r) F L A=(BA (xv F x).cells=true/\∀i,A.C i=none->Bm P K r (put d (.gp i 0) F) L (A.AI i (xv F x).cells)):=(rfl)
def AYC (K:CV) (F:Fm):Option (Lm×X)->Prop
 |some (L',H)=>K F L' H
 |none=>False
def AT0 (F:Fm) (L':Lm) (H:X):AYC K F (some (L',H))=K F L' H:=(rfl)
def AcO (x v:Q09) (n:Nat):Bm P K (⟨none,.st x v n,none⟩::r) F L A=(BA (xv F v).cells=true/\(xv F v).cells.length=n/\AYC (Bm P K r) F (stA L A (xv F v).cells (xv F x))):=by
 show XSt _ _ _ _ _ _ _ _=_;unfold XSt AYC;simp only [true_and];cases stA L A (xv F v).cells (xv F x)<;>rfl
def AcG (d:Option Nat) (o:Q06) (s:Nat) (a:Bool):Bm P K (⟨d,o,some (s,a)⟩::r) F L A=XG (gdV a (F s)) (Bm P K (⟨d,o,none⟩::r) F L A) (Bm P K r (BW d (.tup []) F) L A):=rfl
def AcJ (d:Option Nat) (o:Q06) (s:Nat) (a:Bool) (h:gdV a (F s)=some true):Bm P K (⟨d,o,some (s,a)⟩::r) F L A=Bm P K (⟨d,o,none⟩::r) F L A:=by rw [AcG,h];rfl
def AcH (d:Option Nat) (o:Q06) (s:Nat) (a:Bool) (h:gdV a (F s)=some false):Bm P K (⟨d,o,some (s,a)⟩::r) F L A=Bm P K r (BW d (.tup []) F) L A:=by rw [AcG,h];rfl
def AbH (a b:Bool):gdV a (.d (.bool b))=some (b==a):=(rfl)
def AbI (a:Bool):gdV a (.tup [])=some false:=(rfl)
def AN5 (d:Nat) (v:I) (F:Fm):BW (some d) v F=put d v F:=(rfl)
def AXF (d:Option Nat) (f:FuncId) (args:List Q09):Bm P K (⟨d,.call f args,none⟩::r) F L A=AN P f (xvs F args) d (Bm P K r) F L A:=(rfl)
def AaE (d:Option Nat) (e s b:Nat) (x y:Q09):Bm P K (⟨d,.app e s b x y,none⟩::r) F L A=DH e s b (xv F x) (xv F y) d (Bm P K r) F L A:=(rfl)
def AX7 (P:Program) (x:I) (args:List I) (dst:Option Nat) (K:CV) (F:Fm) (L:Lm) (A:X):Prop:=
 ∃f first Ae,x= .fn f first Ae/\CP P f=true/\AN P f (first++args++Ae) dst K F L A
def ATY (d:Option Nat) (x:Q09) (args:List Q09):Bm P K (⟨d,.Z9 x args,none⟩::r) F L A=AX7 P (xv F x) (xvs F args) d (Bm P K r) F L A:=(rfl)
def AaO (d:Option Nat) (e s b:Nat) (z:List I) (x y:Q09):Bm P K (⟨d,.msl e s b z x y,none⟩::r) F L A=K8 e s b z (xv F x) (xv F y) d (Bm P K r) F L A:=(rfl)
def AXA (d:Option Nat) (e s b:Nat) (x y:Q09):Bm P K (⟨d,.uO e s b x y,none⟩::r) F L A=JU e s b (xv F x) (xv F y) d (Bm P K r) F L A:=(rfl)
def AXE (d:Option Nat) (e s n:Nat) (z:List I) (a:List (Nat×Nat×Q09)):Bm P K (⟨d,.lT e s n z a,none⟩::r) F L A=WM e s n (LA z F a) d (Bm P K r) F L A:=(rfl)
def AaL (d:Option Nat) (x:Q09) (n:Option Nat):Bm P K (⟨d,.ldl x n,none⟩::r) F L A=XPv (AA3 L (xv F x) n) d (Bm P K r) F L A:=(rfl)
def AcF (d:Option Nat) (x:Q09) (o:Nat) (n:Option Nat):Bm P K (⟨d,.fd x o n,none⟩::r) F L A=XPv (fdA (xv F x) o n) d (Bm P K r) F L A:=(rfl)
def AaS (d:Option Nat) (x:Q09) (a b:Option Q09):Bm P K (⟨d,.ssl x a b,none⟩::r) F L A=XPv (nG (xv F x) (a.map (xv F)) (b.map (xv F))) d (Bm P K r) F L A:=(rfl)
def AaR (d:Option Nat) (x:Q09) (a b c:Option Q09) (n:Nat):Bm P K (⟨d,.sls x a b c n,none⟩::r) F L A=XPv (AOE (xv F x) (a.map (xv F)) (b.map (xv F)) (c.map (xv F)) n) d (Bm P K r) F L A:=(rfl)
def AXJ (d:Option Nat) (ne:Bool) (x:Q09):Bm P K (⟨d,.AIS ne x,none⟩::r) F L A=XPv (yZ ne (xv F x)) d (Bm P K r) F L A:=(rfl)
def AXD (d:Option Nat) (x:Q09):Bm P K (⟨d,.APL x,none⟩::r) F L A=XPv ((dvs (xv F x).cells).map fun ds=>.d (.ptr ds)) d (Bm P K r) F L A:=(rfl)
def AcE (d:Option Nat) (k:EK) (a:List Q09):Bm P K (⟨d,.ex k a,none⟩::r) F L A=XEx k (xvs F a) d (Bm P K r) F L A:=(rfl)
def AW9 (d:Option Nat) (args:List I):XEx .usd args d K F L A=XPv (exP .usd args) d K F L A:=(rfl)
def AW8 (d:Nat) (t:Nat) (z:List I):XEx (.alt t z) [] (some d) K F L A=(BA z=true/\∀i,(A.C i=none/\A.bt i=none)->K (put d (.gp i 0) F) L ((A.AI i z).BM i (z.length,t))):=by
 simp only [XEx,EK.pure,As,if_false,Cl,true_and,ExR,BW]
def AXH (s:Bool) (d:Option Nat) (x y z:Q09):Bm P K (⟨d,.eK s x y z,none⟩::r) F L A=Z7 s (xv F x) (xv F y) (xv F z) d (Bm P K r) F L A:=(rfl)
def Z7.mk {t:Nat} {n x:Int} (b:A.tok t=true) (a:es.lookup n=none) (h:∀t',A.tok t'=false->K (reF t (.om t' (mI (es++[(n,x)]))) F) L ((A.Bh t).BV t')):
 Z7 false (.om t (mI es)) (.d (.int .i64 n)) (.d (.int .i64 x)) none K F L A:=⟨rfl,t,b,es,n,x,rfl,rfl,rfl,a,h⟩
def Z7.pk {t:Nat} {ks:List (Int×List UInt8)} {n:Int} (b:A.tok t=true) (a:(n,x) ∉ ks) (h:∀t',A.tok t'=false->K (reF t (.om t' (mK (ks++[(n,x)]))) F) L ((A.Bh t).BV t')):
 Z7 true (.om t (mK ks)) (.agg [.d (.int .i64 n),.d (.str x)]) (.d (.bool true)) none K F L A:=⟨rfl,t,b,ks,n,x,rfl,rfl,rfl,a,h⟩
def AWB (t:Nat) (x v:I) (d:Nat):reF t x (put d v F)=put d (reA t x v) (reF t x F):=by
 grind [reF,put]
def AbY (t:Nat) (x:I):reF t x U=U:=(rfl)
def AbX (t:Nat) (x:I) (y:DV):reA t x (.d y)= .d y:=(rfl)
def ASQ (t:Nat) (x:I) (es:MEs):reA t x (.om t es)=x:=by simp [reA]
def AZS (t:Nat) (x:I) (i o:Nat):reA t x (.gp i o)= .gp i o:=(rfl)
def AZT (t:Nat) (x:I) (i o:Nat):reA t x (.lp i o)= .lp i o:=(rfl)
def AWA (t:Nat) (x:I) (l:List I):reA t x (.agg l)= .agg l:=(rfl)
def XEx.mmk {d:Option Nat} (h:∀t,A.tok t=false->K (BW d (.om t []) F) L (A.BV t)):XEx .mmk [] d K F L A:=⟨rfl,h⟩
def XEx.AIH {d:Option Nat} {t:Nat} (b:A.tok t=true) (a:es.length<=1000000000) (h:K (BW d (.d (.int .i64 es.length)) F) L A):XEx .AIH [.om t (mI es)] d K F L A:=
 ⟨rfl,⟨b,by simpa [mI] using a⟩,by simpa [mI] using h⟩
def XEx.AbS {d:Option Nat} {t:Nat} {n x:Int} (b:A.tok t=true) (c:0<=x/\x<=1000000000) (a:es.lookup n=some x) (h:K (BW d (.tup [.d (.int .i64 x),.d (.bool true)]) F) L A):
 XEx .ANJ [.om t (mI es),.d (.int .i64 n)] d K F L A:=⟨rfl,b,es,rfl,x,.inl ⟨c,a,h⟩⟩
def XEx.AbR {d:Option Nat} {t:Nat} {n:Int} (b:A.tok t=true) (a:es.lookup n=none) (h:K (BW d (.tup [.d (.int .i64 0),.d (.bool false)]) F) L A):
 XEx .ANJ [.om t (mI es),.d (.int .i64 n)] d K F L A:=⟨rfl,b,es,rfl,0,.inr ⟨a,h⟩⟩
def XEx.ABB {d:Option Nat} {t:Nat} {ks:List (Int×List UInt8)} {n:Int} (a:A.tok t=true) (h:K (BW d (.d (.bool (ks.contains (n,s)))) F) L A):
 XEx .ABB [.om t (mK ks),.agg [.d (.int .i64 n),.d (.str s)]] d K F L A:=⟨by simp [I.BS],a,ks,rfl,h⟩
def XEx.wZ {d:Nat} {ne b:Bool} (a:v.BS=true) (c:ABE v=some b) (h:K (put d (.d (.bool (b != ne))) F) L A):XEx (.wZ ne) [v] (some d) K F L A:=by
 refine ⟨by simp [a],?_⟩;show (match ABE v with|some b=>_|none=>_);rw [c];exact h
def XEx.AS8 {d:Nat} {ne:Bool} (a:v.BS=true) (c:v.rows=some []) (h:∀b,K (put d (.d (.bool b)) F) L A):XEx (.wZ ne) [v] (some d) K F L A:=by
 refine ⟨by simp [a],?_⟩;show (match ABE v with|some b=>_|none=>_);cases ABE v with
 |some b=>exact h _
 |none=>exact ⟨c,h⟩
def XEx.apps {d:Option Nat} {e:Nat} {s:I} {rows:List (List DV)} (c:s.BS=true) (a:MT A e 1 s=some (rows,σ1)) (b:rows.length+x.length<=140737488355328)
 (h:∀t,A.tok t=false->K (BW d (.own t e 1 (rows++Bk x)) F) L (σ1.BV t)):XEx (.apps e) [s,.d (.str x)] d K F L A:=
 ⟨by rw [BK,c];rfl,rows,σ1,a,b,h⟩
def XEx.AJG {d:Option Nat} {e t:Nat} {n:Int} (b:n=s.length) (a:s≠[]) (c:A.tok t=true) (h:K (BW d (.d (.str s)) F) L (A.Bh t)):XEx (.AJG e) [.bp t e s,.d (.int .i64 n)] d K F L A:=
 ⟨rfl,⟨rfl,b⟩,a,c,h⟩
def JU.mk {d:Option Nat} {e size bytes:Nat} {s x:I} {srows:List (List DV)} (a:M6 A e size s=some (n,cs,σ1)) (b:x.rows=some srows)
 (c:∀r∈srows,r.length=size) (f:srows≠[]) (g:n+srows.length<=1000000000) (i:bytes<=10000)
 (h:∀j,A.C j=none->K (BW d (.ms j (n+srows.length) size e) F) L (σ1.AI j (cs++BL srows))):JU e size bytes s x d K F L A:=
 ⟨n,cs,σ1,srows,a,b,c,fun e=>absurd e f,by simp only [maxLen];omega,by
   calc (n+srows.length) * bytes<=1000000000 * 10000:=Tm g i
    _<=140737488355328:=by decide,fun _=>h⟩
def WM.mk {d:Option Nat} {e s:Nat} (h:∀j,A.C j=none->K (BW d (.ms j n s e) F) L (A.AI j cs)):WM e s n (some cs) d K F L A:=⟨cs,rfl,.inl h⟩
def WM.own {d:Option Nat} {e s:Nat} {ds:List DV} (a:dvs cs=some ds) (_:True) (h:∀t,A.tok t=false->K (BW d (.own t e s (chunk s n ds)) F) L (A.BV t)):WM e s n (some cs) d K F L A:=⟨cs,rfl,.inr ⟨ds,a,h⟩⟩
def K8.mk {d:Option Nat} {e s b:Nat} {z:List I} (n:Nat) (a:b * n<=281474976710656) (f:n<=9223372036854775807) (h:∀i,A.C i=none->K (BW d (.ms i n s e) F) L (A.AI i (AH n z).flatten)):
 K8 e s b z (.d (.int .i64 n)) (.d (.int .i64 n)) d K F L A:=
 ⟨.i64,.i64,n,rfl,rfl,by omega,by grind,by omega,fun i c=>by grind⟩
def AN.mk {d:Option Nat} {f:FuncId} {args:List I} {Q:I->X->Prop} (b:args.all I.BS=true) (h:AS P f args A Q) (a:∀v H,Q v H->K (BW d v F) L H):
 AN P f args d K F L A:=⟨b,Q,h,a⟩
def DH.mk {d:Option Nat} {e size bytes:Nat} {s x:I} {rows srows:List (List DV)} (a:MT A e size s=some (rows,σ1)) (b:x.rows=some srows)
 (c:∀r∈srows,r.length=size) (f:rows.length+srows.length<=maxLen) (g:(rows.length+srows.length) * bytes<=140737488355328)
 (h:∀t,A.tok t=false->K (BW d (.own t e size (rows++srows)) F) L (σ1.BV t)):DH e size bytes s x d K F L A:= .inl ⟨rows,σ1,srows,a,b,c,f,g,h⟩
def oI:∀(c:List Q) {K K':CV} {F:Fm} {L:Lm} {A:X},(∀F L A,K F L A->K' F L A)->Bm P K c F L A->Bm P K' c F L A
 |[],_,_,_,_,_,d,a=>d _ _ _ a
 |q::rest,K,K',F,L,A,d,a=>by
  have a:XG (gd F q.grd) (XO P q.dst (Bm P K rest) F L A q.o) (Bm P K rest (BW q.dst (.tup []) F) L A):=a;show XG (gd F q.grd) (XO P q.dst (Bm P K' rest) F L A q.o) (Bm P K' rest (BW q.dst (.tup []) F) L A);cases e:gd F q.grd with
  |none=>rw [e] at a;exact a.elim
  |some b=>
   rw [e] at a;cases b
   . exact oI rest d a
   . exact AGW (fun F L A h=>oI rest d h) a
def AI7 {P:Program} {m m1 m':Machine} (h:step P m= .next m1) (c:Steps P m m') (b:m≠m'):Steps P m1 m':=by
 obtain ⟨n,a⟩:=c;cases n with
 |zero=>simp only [runN] at a;grind
 |succ n=>simp only [runN,h] at a;exact ⟨n,a⟩
def W.PL {cx:Cx} {KK:I->X->Prop} {k:List CI} {c:Q01} (h:W cx KK (.again c::k) F L A):W cx KK (.code (.loop c)::k) F L A:=by
 intro j base g lam o a y w b cs t s r u;obtain ⟨p,ys,rfl,⟨d,rfl,q⟩,i⟩:=t.code;obtain ⟨v,w',fr,x,f,n,rest⟩:=h (.inLoop d::ys) base g lam o a y w b cs (.cons ⟨d,rfl,q⟩ i) s r u;refine ⟨v,w',fr,.head step_loop (AI7 step_inLoop x fun e=>?_),f,n,rest⟩;have l:(lone (b.at a (.inLoop d::ys)) cs w).gs=(lone fr cs w').gs:=by rw [e]
 simp only [lone,Array.mk.injEq,FJ,Goroutine.mk.injEq] at l;have m:(b.at a (.inLoop d::ys)).mode=fr.mode:=by rw [l.1.1]
 rw [n.1] at m;cases m
def oH (v:I) (Q00 B:Prop):Prop:=
 match v with
 | .d (.bool b)=>(b=true->Q00)/\(b=false->B)
 |_=>False
def AW7 (b:Bool) (Q00 B:Prop):oH (.d (.bool b)) Q00 B=((b=true->Q00)/\(b=false->B)):=(rfl)
def W.APZ {cx:Cx} {KK:I->X->Prop} {k:List CI} {x:Q09} {t e:Q01} (h:oH (xv F x) (W cx KK (.code t::k) F L A) (W cx KK (.code e::k) F L A)):W cx KK (.code (.cond x t e)::k) F L A:=by
 cases a:xv F x<;>rw [a] at h<;>try exact h.elim
 rename_i dv;cases dv<;>try exact h.elim
 exact W.cond a h.1 h.2
mutual
def I.plain:I->I
 | .Ac=>.d (.sl [])
 | .Dt=>.d .Dt
 | .own _ _ _ rows=>.d (.sl rows)
 | .clip rows=>.d (.sl rows)
 | .agg cs=>.agg (I.C3 cs)
 | .tup vs=>.tup (I.C3 vs)
 |v=>v
def I.C3:List I->List I
 |[]=>[]
 |v::l=>I.plain v::I.C3 l
end
theorem K6 (x:DV):I.plain (I.d x)=(I.d x):=by simp only [I.plain]
theorem H6:I.plain I.Ac= .d (.sl []):=by simp only [I.plain]
def Pu (r:List I):I.plain (I.agg r)= .agg (I.C3 r):=by simp only [I.plain]
def ASH (j o:Nat):I.plain (I.gp j o)=(I.gp j o):=by simp only [I.plain]
def Vr:I.plain I.Dt= .d .Dt:=by simp only [I.plain]
def plain_fn (f:FuncId) (x y:List I):I.plain (I.fn f x y)=(I.fn f x y):=by simp only [I.plain]
def ANZ (x:List I):I.plain (I.tup x)= .tup (I.C3 x):=by simp only [I.plain]
theorem NL:∀(l:List I) (i:Nat),(I.C3 l)[i]?=(l[i]?).map I.plain
 |[],i=>by simp [I.C3]
 |v::l,0=>by simp [I.C3]
 |v::l,i+1=>by simp [I.C3,NL l i]
def Vs:∀l:List I,(I.C3 l).length=l.length
 |[]=>rfl
 |v::l=>by simp [I.C3,Vs l]
theorem bO (h:v.Bo=true):v.plain.Bo=true:=by cases v<;>first|rfl|(cases h;done)
def VR.plain {g:Gh} {x:I} {v:Value} (h:VR g x v):VR g x.plain v:=by
 induction h with
 |d h=>simpa [I.plain] using VR.d h
 |Ac=>exact .d (.nil (D7 _) (fun _=>rfl))
 |own h _ _=>exact .d h
 |clip h=>exact .d h
 |@agg cs vs a s _ r=>
  refine .agg (by rw [Vs];exact a) (fun c f=>?_) (fun i c v e n=>?_)
  . obtain ⟨i,o,rfl⟩:=CJ f;have:=NL cs i
    grind [An,AP,bO,AE]
  grind [NL,AP]
 |gp h=>simpa [I.plain] using VR.gp h
 |ep o b=>simpa [I.plain] using VR.ep o b
 |Dt=>exact .d .Dt
 |Jd=>simpa [I.plain] using VR.Jd
 |om h=>simpa [I.plain] using VR.om h
 |ms h b m l=>simpa [I.plain] using VR.ms h b m l
 |mv h b m l q=>simpa [I.plain] using VR.mv h b m l q
 |bp h k=>simpa [I.plain] using VR.bp h k
 |fn a j h p _ _=>simpa [I.plain] using VR.fn a j h p
 |@tup cs vs a _ r=>
  refine .tup (by rw [Vs];exact a) (fun i c v e n=>?_)
  grind [NL,AP]
 |undef=>simpa [I.plain] using VR.undef
def VRs.plain {g:Gh} {xs:List I} {vs:List Value} (h:VRs g xs vs):VRs g (I.C3 xs) vs:=by
 induction h with
 |nil=>exact .nil
 |cons h _ a=>exact .cons h.plain a
def AS.plain {f:FuncId} {args:List I} {Q:I->X->Prop} (h:AS P f (I.C3 args) A Q):AS P f args A Q:=
 fun base g a d w vs b c=>h base g a d w vs b c.plain
def lR (o:Option I) (K:I->X->Prop) (A:X):Prop:=
 match o with
 |some v=>K v A
 |none=>False
def AOX (v:I) (K:I->X->Prop) (A:X):lR (some v) K A=K v A:=(rfl)
def W.By {cx:Cx} {KK:I->X->Prop} {k:List CI} (c:Good cx) (b:σ2.le A) (h:lR ((XC F L A cx.rs).map I.plain) KK σ2):W cx KK (.code .ret::k) F L A:=by
 cases a:XC F L A cx.rs with
 |none=>rw [a] at h;exact h.elim
 |some v=>rw [a] at h;exact W.ret c a (fun _ _ h=>h.plain) b h
def W.ASS {cx:Cx} {KK:I->X->Prop} {k:List CI} (c:Good cx) (b:σ2.le A) (h:lR (XC F L A cx.rs) KK σ2):W cx KK (.code .ret::k) F L A:=by
 cases a:XC F L A cx.rs with
 |none=>rw [a] at h;exact h.elim
 |some v=>rw [a] at h;exact W.ret c a (fun _ _ h=>h) b h
def AD (A:X) (i j:Nat) (cs:List I):(A.AI i cs).C j=if j=i then some cs else A.C j:=(rfl)
def C4 (A:X) (i:Nat) (cs ds:List I):(A.AI i cs).AI i ds=A.AI i ds:=by
 unfold X.AI
 grind
def Ir {A:X} (h:A.C i=some cs):A.AI i cs=A:=by
 unfold X.AI;cases A;congr 1
 grind
def Pw (A:X) (t i:Nat):(A.BV t).C i=A.C i:=(rfl)
theorem X.le_trans {a b c:X} (h:a.le b) (k:b.le c):a.le c:=⟨fun i cs x=>k.C i cs (h.C i cs x),fun t x=>k.tok t (h.tok t x),h.gt.trans k.gt,fun i x d=>k.bt i x (h.bt i x d)⟩
def Bf {A:X} (h:A.C i=none):A.le (A.AI i cs):=
 ⟨fun j ds a=>by
   have:j≠i:=fun e=>by grind
   rw [AD,if_neg this];exact a,fun _ h=>h,rfl,fun _ _ h=>h⟩
structure Bn (A:X) (e s:Nat) (rows:List (List DV)) (v:I) (H:X):Prop where
 app:∃σ1,MT H e s v=some (rows,σ1)/\A.le σ1
 le:A.le H
 plain:v.plain= .d (.sl rows)
 len:Vh v=some (.d (.int .i64 rows.length))
 cell:v.Bo=true
 BS:v.BS=true
 Cp:∀k,v.Cp k=false
 dv:v.dv=some (.sl rows)
 cells:v.cells=[v]
def Bn.nil (A:X) (e s:Nat):Bn A e s [] .Ac A:=
 ⟨⟨A,rfl,X.le_refl A⟩,X.le_refl A,rfl,rfl,rfl,rfl,fun _=>rfl,rfl,rfl⟩
def Bn.own {A H:X} {e s t:Nat} {rows:List (List DV)} (a:A.le σ1) (c:A.le H) (d:H.tok t=false):Bn A e s rows (.own t e s rows) (σ1.BV t):=by
 have f:A.tok t=false:=by
  cases h:A.tok t with
  |false=>rfl
  |true=>rw [c.tok t h] at d;cases d
 refine ⟨⟨(σ1.BV t).Bh t,by simp [MT,X.BV],⟨fun i cs h=>a.C i cs h,fun t' h=>?_,a.gt,a.bt⟩⟩,⟨fun i cs h=>a.C i cs h,fun t' h=>?_,a.gt,a.bt⟩,rfl,rfl,rfl,rfl,fun _=>rfl,rfl,rfl⟩
 . have b:t'≠t:=fun e=>by grind
   simp [X.Bh,X.BV,b,a.tok t' h]
 . have b:t'≠t:=fun e=>by grind
   simp [X.BV,b,a.tok t' h]
def DH.own {O:X} {d:Option Nat} {e size bytes:Nat} {s x:I} {rows srows:List (List DV)} (b:Bn O e size rows s A) (c:x.rows=some srows)
 (f:∀r∈srows,r.length=size) (g:rows.length+srows.length<=1000000000) (j:bytes<=10000)
 (h:∀v H,Bn O e size (rows++srows) v H->(∀i,H.C i=A.C i)->K (BW d v F) L H):DH e size bytes s x d K F L A:=by
 obtain ⟨σ1,a,k⟩:=b.app;refine DH.mk a c f (by simp only [maxLen];omega) ?_ (fun t l=>h _ _ (Bn.own k b.le l) (fun i=>?_))
 . calc (rows.length+srows.length) * bytes<=1000000000 * 10000:=Tm g j
    _<=140737488355328:=by decide
 . rw [Pw];unfold MT at a;split at a
   . grind
   . split at a
     . cases a;rfl
     . cases a
   . cases a
variable {cx:Cx} {KK:I->X->Prop} {k:List CI}
def W.facts {p:Prop} (m:∀base g lam d a e w,Bu base g lam d cx.N F L A a e w->p) (h:p->W cx KK k F L A):W cx KK k F L A:=
 fun c base g lam d a e w b cs j f i l=>h (m base g lam d a e w f) c base g lam d a e w b cs j f i l
def I.Ep:I->Prop
 | .d (.sl rows)=>rows.length<=9223372036854775807
 | .d (.str s)=>s.length<=9223372036854775807
 | .d (.int k n)=>k.min<=n/\n<=k.max
 | .own _ _ _ rows=>rows.length<=9223372036854775807
 | .clip rows=>rows.length<=9223372036854775807
 |_=>True
def VR.Ep {g:Gh} {x:I} {v:Value} (h:VR g x v):x.Ep:=by
 cases h with
 |d h=>
  cases h with
  |int h=>exact h
  |bool=>trivial
  |str h=>exact h
  |nil=>simp [I.Ep]
  |sl b c _ _ _=>exact Ai b c
  |ptr=>trivial
  |Dt=>trivial
 |own h _ _=>obtain ⟨_,_,_,a⟩:=h.NM;exact a
 |clip h=>obtain ⟨_,_,_,a⟩:=h.NM;exact a
 |_=>trivial
def SV.Ep {g:Gh} {lam:Nat->Option Nat} {x:I} {v:Value} (h:SV g lam x v):x.Ep:=by
 cases x<;>first|exact VR.Ep h|trivial
def W.slot (s:Nat) (h:(F s).Ep->W cx KK k F L A):W cx KK k F L A:=
 W.facts (fun _ _ _ _ _ _ _ a=>(a.tm s).Ep) h
def W.cell (j o:Nat) {c:I} (a:L j=some cs) (d:cs[o]?=some c) (h:c.Ep->W cx KK k F L A):W cx KK k F L A:=
 W.facts (fun _ _ _ _ _ _ _ e=>by
  obtain ⟨_,b,vs,ty,_,_,_,f⟩:=e.loc j cs a;obtain ⟨v,_,g⟩:=f.at o c d;exact g.Ep) h
end
open Go.RowKit Go.ChangeShapes Go.WideShapes
inductive RDs (im:Nat->Nat->Option Value):List DV->List Value->Prop
 |nil:RDs im [] []
 |cons {x:DV} {v:Value} {xs:List DV} {vs:List Value} (h:RD im x v) (hs:RDs im xs vs):RDs im (x::xs) (v::vs)
def RDs.length {xs:List DV} (h:RDs im xs vs):vs.length=xs.length:=by
 induction h with
 |nil=>rfl
 |cons _ _ a=>simp [a]
def RDs.idx {xs:List DV} (h:RDs im xs vs):∀(i:Nat) (x:DV) (v:Value),xs[i]?=some x->vs[i]?=some v->RD im x v:=by
 induction h with
 |nil=>grind
 |cons h _ a=>
  grind
def RDs.append {xs ys:List DV} {us:List Value} (h:RDs im xs vs) (k:RDs im ys us):RDs im (xs++ys) (vs++us):=by
 induction h with
 |nil=>exact k
 |cons h _ a=>exact .cons h a
def RDs.vrs {g:Gh} {xs:List DV} (h:RDs g.im xs vs):VRs g (xs.map I.d) vs:=by
 induction h with
 |nil=>exact .nil
 |cons h _ a=>exact .cons (.d h) a
mutual
inductive DT (P:Program):TypeId->List DV->Prop
 |bool {t:TypeId} {b:Bool} (h:P.underlying t=some .bool):DT P t [.bool b]
 |int {t:TypeId} {k:IntKind} {n:Int} (h:P.underlying t=some (.int k)) (hn:k.has n):DT P t [.int k n]
 |str {t:TypeId} {s:List UInt8} (h:P.underlying t=some .string) (hs:s.length<=maxLen):DT P t [.str s]
 |sl {t e:TypeId} {rows:List (List DV)} (h:P.underlying t=some (.slice e)) (hm:rows.length<=maxLen) (hr:∀r∈rows,DT P e r):DT P t [.sl rows]
 |struct {t:TypeId} {fs:Array Field} {ds:List DV} (h:P.underlying t=some (.struct fs)) (hf:DTs P fs.toList ds):DT P t ds
inductive DTs (P:Program):List Field->List DV->Prop
 |nil:DTs P [] []
 |cons {f:Field} {fs:List Field} {a b:List DV} (h:DT P f.type a) (hs:DTs P fs b):DTs P (f::fs) (a++b)
end
def Nq (P:Program) (S:List TypeId):Nat->List Field->Nat->Bool
 |off,[],n=>off==n
 |off,f::fs,n=>f.offset==off&&S.contains f.type&&Nq P S (off+P.cellsOf f.type) fs n
def sS (P:Program) (S:List TypeId) (t:TypeId):Bool:=
 match P.underlying t with
 |some .bool|some (.int _)|some .string=>true
 |some (.slice e)=>S.contains e&&decide (0 < P.cellsOf e)
 |some (.struct fs)=>Nq P S 0 fs.toList (P.cellsOf t)
 |_=>false
def AE2 {α β:Type} {f:α->Option β}:∀ {l:List α} {r:List β},l.mapM f=some r->∀x∈l,∃y,f x=some y
 |[],_,_,x,b=>by cases b
 |a::l,r,h,x,b=>by
  simp only [List.mapM_cons,AX,AF] at h;obtain ⟨y,d,ys,c,_⟩:=h;cases b with
  |head=>exact ⟨y,d⟩
  |tail _ b=>exact AE2 c x b
def kO {α:Type} (p:Nat->α->Prop):∀n,(∀i,i < n->∃r,p i r)->∃rows:List α,rows.length=n/\∀i r,rows[i]?=some r->p i r
 |0,_=>⟨[],rfl,by simp⟩
 |n+1,h=>by
  obtain ⟨rows,b,d⟩:=kO p n (fun i a=>h i (by omega));obtain ⟨r,c⟩:=h n (by omega);refine ⟨rows++[r],by simp [b],fun i r' a=>?_⟩
  grind
def imW (w:World):Nat->Nat->Option Value:=fun b o=>w.cell? ⟨b,o,none⟩
theorem Ky {w:World} {base:Nat} {a:Addr} {cs:List Value} (h:w.cells? base a n=some cs):cs.length=n/\∀j,j < n->w.cell? (a.add j)=cs[j]?:=by
 unfold World.cells? at h;split at h
 . have:∀(l:List Nat) (cs:List Value),l.mapM (fun i=>w.cell? (a.add i))=some cs->cs.length=l.length/\∀(j i:Nat),l[j]?=some i->w.cell? (a.add i)=cs[j]?:=by
    intro l
    induction l with
    |nil=>grind
    |cons x l d=>
     grind [AX,AF]
   obtain ⟨b,c⟩:=this _ _ h
   grind
 . cases h
section
variable {Q02:Type} {J:TypeId×Value->Q02} {P:Program} {w:World} {base:Nat} {spare:Nat->Bool} {held:Bool}
def lB {S:List TypeId} {fuel:Nat} {cs:List Value}
 (j:∀(t:TypeId) (cs:List Value) (x:DataW Q02×List MemPlace),t∈S->DataW.trod J P w base spare held fuel t cs=some x->∃ds,DT P t ds/\RDs (imW w) ds cs):
 ∀(fs:List Field) (off:Nat) (n:Nat) (k:List (DataW Q02×List MemPlace)),Nq P S off fs n=true->cs.length=n->off<=n->
  fs.mapM (fun f=>DataW.trod J P w base spare held fuel f.type ((cs.drop f.offset).take (P.cellsOf f.type)))=some k->∃ds,DTs P fs ds/\RDs (imW w) ds (cs.drop off)
 |[],off,n,k,d,m,_,_=>by
  simp only [Nq,beq_iff_eq] at d;refine ⟨[],.nil,?_⟩;rw [HN (by omega)];exact .nil
 |f::fs,off,n,k,d,m,r,h=>by
  simp only [Nq,AM,beq_iff_eq,B8] at d;obtain ⟨⟨u,o⟩,l⟩:=d;simp only [List.mapM_cons,AX,AF] at h;obtain ⟨y,s,ys,i,_⟩:=h;obtain ⟨a,p,e⟩:=j _ _ _ o s
  have c:∀(fs:List Field) (off n:Nat),Nq P S off fs n=true->off<=n:=by
   intro fs
   induction fs with
   |nil=>intro off n h;simp only [Nq,beq_iff_eq] at h;omega
   |cons f fs j=>intro off n h;simp only [Nq,AM] at h;grind
  obtain ⟨b,q,g⟩:=lB j fs (off+P.cellsOf f.type) n ys l m (c _ _ _ l) i;refine ⟨a++b,.cons p q,?_⟩;have:=e.append g
  grind [Fx,Am]
def AK0 {S:List TypeId} (hS:S.all (sS P S)=true):∀(fuel:Nat) (t:TypeId) (cs:List Value) (x:DataW Q02×List MemPlace),t∈S->DataW.trod J P w base spare held fuel t cs=some x->∃ds,DT P t ds/\RDs (imW w) ds cs
 |0,t,cs,x,_,h=>by simp [DataW.trod] at h
 |fuel+1,t,cs,x,ht,h=>by
  have ih:=AK0 hS fuel;have z:sS P S t=true:=Ao.1 hS t ht;unfold sS at z;unfold DataW.trod at h;cases v:P.underlying t with
  |none=>grind
  |some u=>
   rw [v] at z h;cases u<;>simp only [As] at z
   case bool=>
    split at h<;>(try (cases h;done))<;>rename_i d<;>cases d;exact ⟨[.bool _],.bool v,.cons .bool .nil⟩
   case int k=>
    split at h<;>(try (cases h;done))<;>rename_i d<;>cases d;split at h
    . rename_i o;obtain ⟨rfl,o⟩:=o;simp only [Lit.wf,AM,decide_eq_true_eq] at o;exact ⟨[.int _ _],.int v (by simpa [IntKind.has] using o),.cons (.int (by simpa [IntKind.has] using o)) .nil⟩
    . cases h
   case string=>
    split at h<;>(try (cases h;done))<;>rename_i d<;>cases d;split at h
    . rename_i s o;have F:s.data.toList.length<=maxLen:=by rw [Z5];exact o
      refine ⟨[.str s.data.toList],.str v F,.cons ?_ .nil⟩;have:(⟨s.data.toList.toArray⟩:ByteArray)=s:=by cases s;simp
      have g:=RD.str (im:=imW w) (s:=s.data.toList) F;simp_all
    . cases h
   case slice e=>
    simp only [AM,B8,decide_eq_true_eq] at z;obtain ⟨he,n⟩:=z;split at h<;>(try (cases h;done))<;>rename_i d<;>cases d
    . exact ⟨[.sl []],.sl v (by simp) (by simp),.cons (.nil (D7 _) (fun _=>rfl)) .nil⟩
    . rename_i a len cap;simp only at h;split at h
      . rename_i U;obtain ⟨_,Z,D⟩:=U;simp only [AF] at h;obtain ⟨R,Y,_⟩:=h;have B:=AE2 Y
        have:∀i,i < len->∃r,DT P e r/\∃cs,w.cells? base (a.add (i * P.cellsOf e)) (P.cellsOf e)=some cs/\RDs (imW w) r cs:=by
         intro i m;obtain ⟨y,Q⟩:=B i (by simp [m]);simp only [AF] at Q;obtain ⟨cs,c,Q⟩:=Q;obtain ⟨r,d,g⟩:=ih _ _ _ he Q;exact ⟨r,d,cs,c,g⟩
        obtain ⟨rows,hl,N⟩:=kO _ len this;refine ⟨[.sl rows],.sl v (by omega) (fun r p=>?_),.cons ?_ .nil⟩
        . obtain ⟨i,m,rfl⟩:=CJ p;exact (N i _ (by simp [m])).1
        . rcases RL len with T|T
          . subst T;have:rows=[]:=Ay hl;subst this;exact .nil D (fun h=>by cases h)
          . obtain ⟨b,off,G⟩:=a
            have q:G=none:=by
             obtain ⟨_,_,cs,c,_⟩:=this 0 T;have g:=(Ky c).2 0 n;have K:0 < cs.length:=by rw [(Ky c).1];exact n
             rw [An K] at g;simpa [Addr.add] using World.cell?_spot g
            subst q;subst hl;refine .sl (size:=P.cellsOf e) (f:=fun i j=>((imW w) b (off+i * P.cellsOf e+j)).getD DJ) Z D (fun r p=>?_) (fun i j m L=>?_) (fun i r j x m L=>?_)
            . obtain ⟨i,m,rfl⟩:=CJ p;obtain ⟨_,cs,c,l⟩:=N i rows[i] (An m);exact l.length.symm.trans (Ky c).1
            . obtain ⟨r,h5⟩:∃r,rows[i]?=some r:=⟨rows[i],by simp [m]⟩;obtain ⟨_,cs,c,l⟩:=N i r h5;have g:=(Ky c).2 j L
              grind [Ky,An,imW,Addr.add_lit]
            . obtain ⟨_,cs,c,l⟩:=N i r m;have h7:j < r.length:=(AG.1 L).1;have E:j < P.cellsOf e:=by have:=l.length;rw [(Ky c).1] at this;omega
              have g:=(Ky c).2 j E;have K:j < cs.length:=by rw [(Ky c).1];exact E
              rw [An K] at g;have h4:imW w b (off+i * P.cellsOf e+j)=some cs[j]:=by rw [Addr.add_lit,Addr.add_lit] at g;exact g
              rw [h4];exact l.idx j x cs[j] L (by simp [K])
      . cases h
   case struct fs=>
    simp only at h;split at h
    . rename_i U;simp only [AO] at h;obtain ⟨xs,h6,_⟩:=h;obtain ⟨ds,d,g⟩:=lB ih fs.toList 0 _ xs z U (D7 _) h6;exact ⟨ds,.struct v d,by grind⟩
    . cases h
end
def ALX (P:Program) (t:TypeId) (ds:List DV):I:=
 match P.underlying t with
 |some (.struct _)=>.agg (ds.map I.d)
 |_=>match ds with|[x]=>.d x|_=>.undef
def kJ {P:Program} {t:TypeId} {fs:Array Field} (h:P.underlying t=some (.struct fs)) (ds:List DV):ALX P t ds= .agg (ds.map I.d):=by
 unfold ALX;rw [h]
def APH {P:Program} {t:TypeId} {u:TypeDesc} (h:P.underlying t=some u) (a:∀fs,u≠.struct fs) (x:DV):ALX P t [x]= .d x:=by
 unfold ALX;grind
inductive oC (P:Program):List TypeId->List I->Prop
 |nil:oC P [] []
 |cons {t:TypeId} {ts:List TypeId} {ds:List DV} {avs:List I} (h:DT P t ds) (hs:oC P ts avs):oC P (t::ts) (ALX P t ds::avs)
section
variable {Q02:Type} {J:TypeId×Value->Q02} {P:Program} {w:World} {held:Bool}
def yW {S:List TypeId} (D:S.all (sS P S)=true) {g:Gh} (E:g.im=imW w) {b:Nat} {spare:Nat->Bool} {base:Nat}:∀(ts:List TypeId) (vs:List Value) (ds:List (DataW Q02)) (L:List MemPlace),
 (∀t∈ts,t∈S)->(∀(j:Nat) t v,ts[j]?=some t->vs[j]?=some v->Value.okWide P w .any base t v)->DataW.TrodAll J P w b spare held ts vs ds L->∃k,oC P ts k/\VRs g k vs
 |[],[],[],_,_,_,_=>⟨[],.nil,.nil⟩
 |t::ts,v::vs,d::ds,L,m,n,h=>by
  obtain ⟨p,q,⟨fuel,T⟩,l,_⟩:=h;obtain ⟨k,N,Q⟩:=yW D E ts vs ds q (fun t G=>m t (by simp [G])) (fun j t v G K=>n (j+1) t v (by grind) (by grind)) l;obtain ⟨dv,r,s⟩:=AK0 D fuel t _ _ (m t (by simp)) T;refine ⟨ALX P t dv::k,.cons r N,.cons ?_ Q⟩;have f:=n 0 t v rfl rfl;rw [<- E] at s;cases a:P.underlying t with
  |none=>cases r<;>simp_all
  |some u=>
   by_cases F:∃fs,u= .struct fs
   . obtain ⟨fs,rfl⟩:=F;rw [kJ a];unfold Value.okWide at f;rw [a] at f;simp only at f;obtain ⟨cs,rfl,_,_⟩:=f;have y:=s.vrs;simp only [Value.cells] at y;have:=VR.agg (g:=g) (cs:=dv.map I.d) (vs:=cs.toList) (by simpa using y.length) (by simp [I.Bo]) (fun i c v R K=>y.idx i c v R K);simp_all
   . have B:∀fs,u≠.struct fs:=fun fs e=>F ⟨fs,e⟩
     have o:∃x,dv=[x]:=by
      cases r with
      |struct h _=>grind
      |_=>grind
     obtain ⟨x,rfl⟩:=o;rw [APH a B];generalize z:v.cells.toList=cv at s;cases s with
     |cons Y U=>
      cases U;rename_i Z
      have:v=Z:=by
       unfold Value.okWide at f;rw [a] at f;cases v<;>try (simpa [Value.cells] using z)
       exfalso;cases r with
       |bool h=>rw [a] at h;cases h;simp [Cell.okWide,a,Cell.ok] at f
       |int h=>rw [a] at h;cases h;simp [Cell.okWide,a,Cell.ok] at f
       |str h=>rw [a] at h;cases h;simp [Cell.okWide,a,Cell.ok] at f
       |sl h=>rw [a] at h;cases h;simp [Cell.okWide,a,Cell.ok] at f
       |struct h=>grind
      subst this;exact .d Y
 |[],_::_,_,_,_,_,h=>by cases h
 |[],[],_::_,_,_,_,h=>by cases h
 |_::_,[],_,_,_,_,h=>by cases h
 |_::_,_::_,[],_,_,_,h=>by cases h
def AI6 (w:World):Gh:=⟨imW w,fun _=>none,fun _=>none,fun _=>none⟩
def TV (gt:Nat->Option (Array Value)):X:=⟨fun _=>none,fun _=>false,gt,fun _=>none⟩
def AOI (w:World) {gt:Nat->Option (Array Value)} (a:∀b vs,gt b=some vs->∃ty fr,w.heap[b]?=some (.cells vs ty fr)):Rel w.heap.size (AI6 w) (fun _=>False) (TV gt) w w:=
 ⟨fun _ _ _ h=>h,fun _ _ h=>by simp [TV] at h,fun _ _ _ h=>by simp [TV] at h,fun _ h=>by simp [TV] at h,fun _ h=>h.elim,Below.refl _ _,AW _,⟨0,fun _ _=>⟨rfl,rfl,rfl⟩⟩,⟨fun b vs h=>by
   obtain ⟨ty,fr,c⟩:=a b vs h
   grind,fun _ _ h=>by simp [TV] at h⟩⟩
def Zn (i:laidOutB P=true) {Q08 W':World} (g:Below Q08.heap.size Q08 W'):∀(ts:List TypeId) (vs:List Value) (ds:List (DataW Q02)) (c:List MemPlace),(∀t∈ts,P.readableRec t=true/\t < P.types.size)->
 (∀x∈c,x.block < Q08.heap.size)->DataW.TrodAll J P Q08 0 (fun _=>true) true ts vs ds c->DataW.TrodAll J P W' 0 (fun b=>decide (b < Q08.heap.size)) true ts vs ds c
 |[],[],[],_,_,_,h=>h
 |t::ts,v::vs,d::ds,c,e,a,h=>by
  obtain ⟨p,q,j,k,rfl⟩:=h;exact ⟨p,q,Below.trod i (e t (by simp)).1 (e t (by simp)).2 j g (fun x f=>a x (by simp [f])),Zn i g ts vs ds q (fun t l=>e t (by simp [l])) (fun x f=>a x (by simp [f])) k,rfl⟩
 |[],_::_,_,_,_,_,h=>by cases h
 |[],[],_::_,_,_,_,h=>by cases h
 |_::_,[],_,_,_,_,h=>by cases h
 |_::_,_::_,[],_,_,_,h=>by cases h
def wJ {fn:Func} {s:ChangeSpec} {f:FuncId} {gt:Nat->Option (Array Value)} (S:List TypeId) (hl:laidOutB P=true) (Z:S.all (sS P S)=true) (z:∀t∈fn.params.toList,t∈S)
 (l:∀t∈fn.params.toList,P.readableRec t=true/\t < P.types.size) {tb:TypeId} (n:fn.resultTypes=#[tb]) (D:P.underlying tb=some .bool) (a:s.vars=[])
 (hs:∀ds:List (DataW Q02),ds.length=fn.params.size->s.fn Q02 ds= { results:=[.lit (.bool true)],args:=ds})
 (r:∀c:List I,oC P fn.params.toList c->AS P f c (TV gt) (fun v _=>v= .d (.bool true)))
 (Q08:World) (y:∀b vs,gt b=some vs->∃ty fr,Q08.heap[b]?=some (.cells vs ty fr)) (base:Nat) (args:Array Value) (ds U:List (DataW Q02)) (before:List MemPlace)
 (o:∀(j:Nat) t v,fn.params[j]?=some t->args[j]?=some v->Value.okWide P Q08 .any base t v)
 (N:DataW.Whole J P fn.params.toList s.vars false Q08 args.toList ds U before):
 Calls P f args Q08 fun e G=>∃v,e= .returned v/\s.post J P fn false true false false Q08 args v G:=by
 have m:=N;obtain ⟨p,q,u,L,rfl,h0,h3⟩:=N;rw [a] at L;obtain ⟨rfl,rfl⟩:=trodVars_none L;obtain ⟨c,Y,K⟩:=yW Z (g:=AI6 Q08) rfl fn.params.toList args.toList ds p z (fun j t v ht T=>o j t v (by grind) (by grind)) u;have Q:=r c Y Q08.heap.size (AI6 Q08) (fun _=>False) Q08 Q08 args.toList (AOI Q08 y) K;simp only [Array.toArray_toList] at Q;refine Q.mono fun e G ⟨v,av,g',H,he,T,i,_,_,w⟩=>?_;subst w;have E:v= .bool true:=by cases T with|d h=>cases h;rfl
 subst E
 have R:ds.length=fn.params.size:=by
  have:∀(ts:List TypeId) (vs:List Value) (ds:List (DataW Q02)) (F:List MemPlace),DataW.TrodAll J P Q08 0 (fun _=>true) true ts vs ds F->ds.length=ts.length:=by
   intro ts
   induction ts with
   |nil=>intro vs ds F h;cases vs<;>cases ds<;>first|rfl|(cases h;done)
   |cons t ts ih=>
    intro vs ds F h;cases vs<;>cases ds<;>try (cases h;done)
    obtain ⟨_,_,_,K,_⟩:=h
    grind
  simpa using this _ _ _ _ u
 have B:∀x∈p,x.block < Q08.heap.size:=fun x hx=>by simpa using m.lt x (by simp [hx])
 have k:=hs (ds++[]) (by grind);refine ⟨_,he,ds,[],p++[],[],p,[],m,?_,?_,?_,i.bel.frame _,fun h=>by cases h⟩
 . rw [k,n];exact trodAll_mk1 ⟨1,by simp [DataW.trod,D,Value.cells]⟩
 . rw [k];simpa using Zn hl i.bel fn.params.toList args.toList ds p l B u
 . rw [k,a];rfl
end
section
variable {P:Program} {ti e:TypeId} {ds:List DV}
def DT.AAZ {k:IntKind} (h:DT P ti ds) (a:P.underlying ti=some (.int k)):∃n,ds=[.int k n]/\k.has n:=by
 cases h with
 |int h b=>rw [a] at h;cases h;exact ⟨_,rfl,b⟩
 |bool h=>rw [a] at h;cases h
 |str h=>rw [a] at h;cases h
 |sl h=>rw [a] at h;cases h
 |struct h=>rw [a] at h;cases h
def DT.Vf (h:DT P ti ds) (a:P.underlying ti=some .string):∃s,ds=[.str s]/\s.length<=maxLen:=by
 cases h with
 |str h b=>exact ⟨_,rfl,b⟩
 |int h=>rw [a] at h;cases h
 |bool h=>rw [a] at h;cases h
 |sl h=>rw [a] at h;cases h
 |struct h=>rw [a] at h;cases h
def DT.YK (h:DT P ti ds) (a:P.underlying ti=some (.slice e)):∃rows,ds=[.sl rows]/\rows.length<=maxLen/\∀r∈rows,DT P e r:=by
 cases h with
 |sl h b c=>rw [a] at h;cases h;exact ⟨_,rfl,b,c⟩
 |int h=>rw [a] at h;cases h
 |bool h=>rw [a] at h;cases h
 |str h=>rw [a] at h;cases h
 |struct h=>rw [a] at h;cases h
def DT.Km {fs:Array Field} (h:DT P ti ds) (a:P.underlying ti=some (.struct fs)):DTs P fs.toList ds:=by
 cases h with
 |struct h b=>rw [a] at h;cases h;exact b
 |int h=>rw [a] at h;cases h
 |bool h=>rw [a] at h;cases h
 |str h=>rw [a] at h;cases h
 |sl h=>rw [a] at h;cases h
def DTs.DL {f:Field} {fs:List Field} (h:DTs P (f::fs) ds):∃a b,ds=a++b/\DT P f.type a/\DTs P fs b:=by
 cases h with
 |cons h c=>exact ⟨_,_,rfl,h,c⟩
def DTs.Ve (h:DTs P [] ds):ds=[]:=by cases h;rfl
def MC {α:Type} {f:α->List DV}:∀(rows:List (List DV)),(∀r∈rows,∃x,r=f x)->∃l:List α,rows=l.map f
 |[],_=>⟨[],rfl⟩
 |r::rows,h=>by
  obtain ⟨x,c⟩:=h r (by simp);obtain ⟨l,a⟩:=MC rows (fun r b=>h r (by simp [b]));exact ⟨x::l,by rw [c,a];rfl⟩
end
section
variable {P:Program} {base N:Nat} {g g':Gh} {Pr:Nat->Prop} {A H:X} {w0 w w':World} {lam:Nat->Option Nat} {F F':Fm} {L L':Lm} {a:Act}
def VR.data {c:I} {v:Value} {x:DV} (h:VR g c v) (a:c.dv=some x):RD g.im x v:=by
 cases h<;>simp only [I.dv,AP] at a<;>try (cases a;done)
 . grind
 . subst a;exact .nil (D7 _) (fun _=>rfl)
 . grind
 . grind
 . subst a;exact .Dt
mutual
def frz (i n:Nat) (rows:List (List DV)):I->I
 | .ms j m s e=>if j=i/\m=n then .d (.sl rows) else .ms j m s e
 | .agg cs=>.agg (Sl i n rows cs)
 | .tup cs=>.tup (Sl i n rows cs)
 |v=>v
def Sl (i n:Nat) (rows:List (List DV)):List I->List I
 |[]=>[]
 |v::l=>frz i n rows v::Sl i n rows l
end
def Xk (i n:Nat) (rows:List (List DV)):∀l:List I,(Sl i n rows l).length=l.length
 |[]=>rfl
 |v::l=>by simp [Sl,Xk i n rows l]
theorem dL (i n:Nat) (rows:List (List DV)):∀(l:List I) (k:Nat),(Sl i n rows l)[k]?=(l[k]?).map (frz i n rows)
 |[],k=>by simp [Sl]
 |v::l,0=>by simp [Sl]
 |v::l,k+1=>by simp [Sl,dL i n rows l k]
theorem AD6 {rows:List (List DV)} (h:v.Bo=true):(frz i n rows v).Bo=true:=by
 cases v<;>first|exact h|(simp only [frz];split<;>rfl)|(simp [I.Bo] at h)
def AAK {i n:Nat} {rows:List (List DV)}:∀ {l:List I},BA l=true->BA (Sl i n rows l)=true
 |[],_=>rfl
 |v::l,h=>by
  simp only [BA,BK,AM] at h;simp only [Sl,BA,BK,AM];exact ⟨AD6 h.1,AAK (l:=l) h.2⟩
theorem VR.frz {i n b:Nat} {rows:List (List DV)} (a:g.le g') (y:g.mu i=some b) (p:∀cap,n<=cap->cap<=maxLen->RD g'.im (.sl rows) (.slice (some ⟨b,0,none⟩) n cap)) {x:I} {v:Value} (h:VR g x v):VR g' (frz i n rows x) v:=by
 induction h with
 |d h=>simpa [Ab.frz] using VR.d (h.mono a.im)
 |Ac=>simpa [Ab.frz] using VR.Ac
 |own h z L=>simpa [Ab.frz] using VR.own (h.mono a.im) (a.tau _ _ z) L
 |clip h=>simpa [Ab.frz] using VR.clip (h.mono a.im)
 |mv h o q y K=>simpa [Ab.frz] using VR.mv (a.mu _ _ h) (a.rm _ _ o) q y K
 |bp z u=>simpa [Ab.frz] using VR.bp (a.tau _ _ z) (fun j x D=>a.im _ _ _ (u j x D))
 |@agg cs vs f Q _ N=>
  refine .agg (by rw [Xk];exact f) (fun c t=>?_) (fun k c v r B=>?_)
  . obtain ⟨k,R,rfl⟩:=CJ t;have:=dL i n rows cs k
    grind [An,AP,AD6,AE]
  grind [dL,AP]
 |gp h=>simpa [Ab.frz] using VR.gp (a.mu _ _ h)
 |ep F o=>simpa [Ab.frz] using VR.ep (fun j G=>a.im _ _ _ (F j G)) (fun j x D=>(o j x D).mono a.im)
 |Dt=>simpa [Ab.frz] using VR.Dt
 |Jd=>simpa [Ab.frz] using VR.Jd
 |om h=>simpa [Ab.frz] using VR.om (a.tau _ _ h)
 |@ms j m s e P cap h o q l=>
  simp only [Ab.frz];split
  . rename_i e;obtain ⟨rfl,rfl⟩:=e;rw [y] at h;cases h;exact .d (p cap q l)
  . exact .ms (a.mu _ _ h) (a.rm _ _ o) q l
 |fn f w h E _ _=>simpa [Ab.frz] using VR.mono a (VR.fn f w h E)
 |@tup cs vs f _ N=>
  refine .tup (by rw [Xk];exact f) (fun k c v r B=>?_)
  grind [dL,AP]
 |undef=>simpa [Ab.frz] using VR.undef
def VRs.Sl {b:Nat} {rows:List (List DV)} (c:g.le g') (d:g.mu i=some b) (a:∀cap,n<=cap->cap<=maxLen->RD g'.im (.sl rows) (.slice (some ⟨b,0,none⟩) n cap)) {xs:List I} (h:VRs g xs vs):VRs g' (Sl i n rows xs) vs:=by
 induction h with
 |nil=>exact .nil
 |cons h _ e=>exact .cons (h.frz c d a) e
def AJ0:∀ {cs:List I} {ds:List DV},dvs cs=some ds->ds.length=cs.length/\∀(k:Nat) (c:I) (x:DV),cs[k]?=some c->ds[k]?=some x->c.dv=some x
 |[],ds,h=>by grind [dvs,AP]
 |c::cs,ds,h=>by
  simp only [dvs,AX,AF] at h;obtain ⟨x,i,ys,d,g⟩:=h;cases g;obtain ⟨e,f⟩:=AJ0 d;refine ⟨by simp [e],fun k c' j b a=>?_⟩;cases k with
  |zero=>simp at b a;subst b;subst a;exact i
  |succ k=>exact f k c' j (by simpa using b) (by simpa using a)
def Pq (size:Nat):∀(n:Nat) (l:List DV),(chunk size n l).length=n
 |0,_=>rfl
 |n+1,l=>by simp [chunk,Pq size n]
def gV (size:Nat):∀(n:Nat) (l:List DV) (i:Nat) (r:List DV),(chunk size n l)[i]?=some r->r=(l.drop (i * size)).take size
 |0,_,i,r,h=>by simp [chunk] at h
 |n+1,l,0,r,h=>by simp [chunk] at h;simp [h]
 |n+1,l,i+1,r,h=>by
  have:=gV size n (l.drop size) i r (by simpa [chunk] using h);rw [this,Fx];congr 2;rw [Cj];omega
theorem Rel.freeze (h:Rel base g Pr A w0 w) {size:Nat} {ds:List DV} (hi:A.C i=some cs) (hd:dvs cs=some ds) (hl:cs.length=n * size) (hn:n<=maxLen) (hm:∀j cs',H.C j=some cs'->j≠i/\∃p,A.C j=some p/\(cs'=p\/cs'=Sl i n (chunk size n ds) p))
 (ht:∀t,H.tok t=true->A.tok t=true) (h4:H.gt=A.gt) (Y:H.bt=A.bt):
 ∃g' b,g.le g'/\g.mu i=some b/\(∀cap,n<=cap->cap<=maxLen->RD g'.im (.sl (chunk size n ds)) (.slice (some ⟨b,0,none⟩) n cap))/\Rel base g' Pr H w0 w:=by
 obtain ⟨b,T,ho⟩:=h.shr i cs hi;obtain ⟨hx,ty,hv,al,hy,h7⟩:=ho.row;obtain ⟨vs,hf⟩:∃vs:Array Value,vs=(hx.toList.take cs.length).toArray:=⟨_,rfl⟩;have hr:VRs g cs vs.toList:=by rw [hf];simpa using h7
 have fs:vs.size=cs.length:=by simpa using hr.length
 let R:Gh:= { g with im:=fun a o=>if a=b then vs[o]? else g.im a o}
 have q:g.le R:=⟨fun a o v l=>by
  have:a≠b:=fun e=>by subst e;rw [ho.im o] at l;cases l
  grind,fun _ _ h=>h,fun _ _ h=>h,fun _ _ h=>h⟩
 have Z:∀o v,vs[o]?=some v->w.cell? ⟨b,o,none⟩=some v:=fun o v nm=>by
  grind [World.cell?]
 obtain ⟨h3,h2⟩:=AJ0 hd
 have y:∀cap,n<=cap->cap<=maxLen->RD R.im (.sl (chunk size n ds)) (.slice (some ⟨b,0,none⟩) n cap):=by
  intro cap F G;rcases RL n with S|S
  . subst S;exact .nil G (fun h=>by cases h)
  . have:=RD.sl (im:=R.im) (rows:=chunk size n ds) (b:=b) (off:=0) (cap:=cap) (size:=size) (f:=fun i j=>(vs[i * size+j]?).getD DJ) (by rw [Pq];exact F) G
     (fun r u=>?_) (fun k j s m=>?_) (fun k r j x s m=>?_)
    . rw [Pq] at this;exact this
    . obtain ⟨k,s,rfl⟩:=CJ u;rw [Pq] at s;have:=gV size n ds k _ (by rw [An (by grind)]);rw [this,Bs,OU];have h1:(k+1) * size<=n * size:=CW _ s
      grind
    . rw [Pq] at s;have h1:(k+1) * size<=n * size:=CW _ s
      grind
    . have ns:k < n:=by have:=(AG.1 s).1;rw [Pq] at this;exact this
      have:=gV size n ds k r s;subst this;rw [F9] at m;split at m
      . rename_i ks;rw [List.getElem?_drop] at m;have L:k * size+j < cs.length:=by rw [<- h3];exact (AG.1 m).1
        have hc:=h2 (k * size+j) cs[k * size+j] x (by simp [L]) m;have hg:vs.toList[k * size+j]?=some (vs[k * size+j]'(by omega)):=by simp
        have he:=hr.idx (k * size+j) cs[k * size+j] _ (An L) hg;have:=(he.data hc).mono q.im
        grind
      . cases m
 refine ⟨R,b,q,T,y,?_⟩
 have N:∀j,H.C j≠none->A.C j≠none/\j≠i:=fun j m=>by
  cases hc:H.C j with
  |none=>grind
  |some c=>grind
 have U:A.C i≠none:=by rw [hi];simp
 refine ⟨fun a o v l=>?_,fun j cs' m=>?_,fun j k a m s=>h.inj j k a (N j m).1 (N k s).1,fun t ha=>?_,fun a hp=>?_,h.bel,h.bs,h.fin,h.st.mono q h4 Y⟩
 . by_cases e:a=b
   . grind
   . have Q:(if a=b then vs[o]? else g.im a o)=some v:=l;rw [if_neg e] at Q;exact h.im a o v Q
 . obtain ⟨h5,p,S,z⟩:=hm j cs' m;obtain ⟨a,E,d⟩:=h.shr j p S;obtain ⟨hs,hq,l,K,h9,u⟩:=d.row;have B:a≠b:=fun e=>h5 (h.inj j i b (by grind) U (e ▸ E) T);refine ⟨a,E,?_,⟨hs,hq,l,?_,h9,?_⟩,d.low,fun o=>?_,d.pr⟩
   . rcases z with rfl|rfl
     . exact d.ok
     . exact AAK d.ok
   . rcases z with rfl|rfl
     . exact K
     . rw [Xk];exact K
   . rcases z with rfl|rfl
     . exact u.mono q
     . rw [Xk];exact u.Sl q T y
   . show (if a=b then vs[o]? else g.im a o)=none;rw [if_neg B];exact d.im o
 . obtain ⟨v,e,D,n',xs,h6,P,h8⟩:=(h.tok t (ht t ha)).row;refine ⟨v,e,D,n',xs,h6,P,fun a sc=>?_⟩
   grind
 . have B:a≠b:=fun e=>ho.pr (e ▸ hp);refine ⟨(h.pr a hp).1,fun o=>?_⟩;show (if a=b then vs[o]? else g.im a o)=none;rw [if_neg B];exact (h.pr a hp).2 o
variable {cx:Cx} {K:I->X->Prop} {k:List CI}
theorem W.freeze {i n size:Nat} {cs:List I} {ds:List DV} (hi:A.C i=some cs) (hd:dvs cs=some ds) (hl:cs.length=n * size) (hn:n<=maxLen)
 (Z:∀s,F' s=F s\/F' s=frz i n (chunk size n ds) (F s)) (hL:∀k cs',L' k=some cs'->∃c,L k=some c/\(cs'=c\/cs'=Sl i n (chunk size n ds) c))
 (G:∀j cs',H.C j=some cs'->j≠i/\∃c,A.C j=some c/\(cs'=c\/cs'=Sl i n (chunk size n ds) c)) (ht:∀t,H.tok t=true->A.tok t=true)
 (h:W cx K k F' L' H) (B:H.gt=A.gt:=by rfl) (y:H.bt=A.bt:=by rfl):W cx K k F L A:=by
 intro m base g lam Pr a w0 w b c D l hb hk;obtain ⟨g',bb,d,p,f,r⟩:=l.rel.freeze hi hd hl hn G ht B y
 have z:Bu base g' lam Pr cx.N F' L' H a w0 w:=by
  refine ⟨fun s=>?_,l.sz,l.df,fun S cs' E=>?_,l.inj,l.npr,r⟩
  . have o:=l.tm s
    have u:SV g' lam (F s) (a.tmps.getD s DJ):=by
     generalize F s=fs at o;cases fs<;>first|exact VR.mono d o|exact o
    rcases Z s with e|e
    . grind
    . rw [e];generalize F s=fs at o u;cases fs<;>first|exact u|exact SV.FT (VR.frz d p f o)
  . obtain ⟨U,Y,R⟩:=hL S cs' E;obtain ⟨q,T,vs,ty,N,P,Q,x⟩:=l.loc S U Y;refine ⟨?_,T,vs,ty,N,P,Q,?_⟩
    . rcases R with rfl|rfl
      . exact q
      . exact AAK q
    . rcases R with rfl|rfl
      . exact x.mono d
      . exact x.Sl d p f
 obtain ⟨v,w',fr,o,h6,h7,av,g2,σ2,N,P,Q,x,h5⟩:=h m base g' lam Pr a w0 w b c D z hb hk
 grind [Gh.le_trans]
def zU {K K':CV} (a:∀F L A,K F L A->K' F L A):∀(t:QT) (b:Bool) (F:Fm) (L:Lm) (A:X),XT P K b t F L A->XT P K' b t F L A
 | .done,false,F,L,A,h=>a _ _ _ h
 | .done,true,F,L,A,h=>trivial
 | .one q t,b,F,L,A,h=>by
  have h:XQ P q (XT P K false t) F L A:=by cases b<;>exact h
  have:XQ P q (XT P K' false t) F L A:=VC (fun F L A h=>zU a t false F L A h) h;cases b<;>exact this
 | .alt q t r,b,F,L,A,h=>by
  have h:XQ P q (XT P K false t) F L A/\XT P K true r F L A:=by cases b<;>exact h
  have:XQ P q (XT P K' false t) F L A/\XT P K' true r F L A:=⟨VC (fun F L A h=>zU a t false F L A h) h.1,zU a r true F L A h.2⟩;cases b<;>exact this
def W.WX {t:QT} (c:cx.P.follows .mixedOrders=true) (R:CV) (a:XT cx.P R false t F L A) (b:∀F L A,R F L A->W cx K k (Ee live F) (GK live L) A):W cx K (.code (.Gs t live)::k) F L A:=
 W.Gs c (zU (fun F L A h=>b F L A h) t false F L A a)
def W.AbZ (c:cx.P.follows .mixedOrders=true) (R:CV) (a:Bm cx.P R ops F L A) (b:∀F L A,R F L A->W cx K k (Ee live F) (GK live L) A):W cx K (.code (.reg ops live)::k) F L A:=
 W.reg c (oI ops (fun F L A h=>b F L A h) a)
def Rel.AF6 (h:Rel base g Pr A w0 w) (p:∀j cs',H.C j=some cs'->∃cs,A.C j=some cs/\BA cs'=true/\cs'.length=cs.length/\∀vs,VRs g cs vs->VRs g cs' vs) (G:∀t,H.tok t=true->A.tok t=true) (B:H.gt=A.gt) (z:H.bt=A.bt):Rel base g Pr H w0 w:=by
 have r:∀j,H.C j≠none->A.C j≠none:=fun j d=>by
  cases q:H.C j with
  |none=>grind
  |some c=>grind
 refine ⟨h.im,fun j cs' d=>?_,fun j k b d D=>h.inj j k b (r j d) (r k D),fun t o=>?_,h.pr,h.bel,h.bs,h.fin,⟨fun b vs K=>h.st.1 b vs (by grind),fun i x R=>h.st.2 i x (by grind)⟩⟩
 . obtain ⟨cs,q,l,E,K⟩:=p j cs' d;obtain ⟨b,y,f⟩:=h.shr j cs q;obtain ⟨vs,ty,s,P,u,Q⟩:=f.row;exact ⟨b,y,l,⟨vs,ty,s,by grind,u,by grind⟩,f.low,f.im,f.pr⟩
 . obtain ⟨v,e,size,n,N,F,a,m⟩:=(h.tok t (G t o)).row;refine ⟨v,e,size,n,N,F,a,fun b L=>?_⟩
   grind
def W.AF6 (p:∀j cs',H.C j=some cs'->∃cs,A.C j=some cs/\(cs'=cs\/cs'=I.C3 cs)) (y:∀t,H.tok t=true->A.tok t=true) (h:W cx K k F L H) (m:H.gt=A.gt:=by rfl) (l:H.bt=A.bt:=by rfl):W cx K k F L A:=by
 intro d base g lam Pr a w0 w b f n c s x;refine h d base g lam Pr a w0 w b f n ⟨c.tm,c.sz,c.df,c.loc,c.inj,c.npr,c.rel.AF6 (fun j cs' u=>?_) y m l⟩ s x;obtain ⟨cs,q,o⟩:=p j cs' u;obtain ⟨_,_,r⟩:=c.rel.shr j cs q;refine ⟨cs,q,?_,(by rcases o with rfl|rfl<;>simp [Vs]),fun vs e=>?_⟩
 . rcases o with rfl|rfl
   . exact r.ok
   . have:=r.ok;simp only [BA,Ao] at this ⊢;intro v e;obtain ⟨i,B,rfl⟩:=CJ e;have z:=NL cs i
     grind [An,AP,bO,AE]
 . rcases o with rfl|rfl
   . exact e
   . exact e.plain
def W.SB {α:Type} {c:Q01} (fr:α->Fm) (e:α->Lm) (d:α->X) (a:α->Prop) (m:α->Nat)
 (step:∀x,a x->(∀y,a y->m y < m x->W cx K (.again c::k) (fr y) (e y) (d y))->W cx K (.code c::.again c::k) (fr x) (e x) (d x)) (x:α) (b:a x):
 W cx K (.again c::k) (fr x) (e x) (d x):=by
 have:∀(n:Nat) (x:α),m x<=n->a x->W cx K (.again c::k) (fr x) (e x) (d x):=by
  intro n
  induction n with
  |zero=>intro x h b;exact W.again (step x b (fun y _ f=>by omega))
  |succ n i=>intro x h b;exact W.again (step x b (fun y f g=>i y (by omega) f))
 exact this _ x (AW _) b
end
attribute [go_sem] AXH AWB AbY AbX ASQ AZS AZT AWA AcE AW9 AW8 exP xV ABE AJT AKX AaL AA3 AXA AXE AcF AaS AaR AXJ AXD fdA AOE yZ AFT Oc eF AEQ Option.map_none false_implies true_implies AaU AaT AXM AXN AaQ ATZ AcN AXI AaK AcL AcK AXK AaM AXL AaF AXB AcP AXG AaG AaI AaN AaJ AaP AcM AaH AcD AXC AcO AT0 AXF AaE ATY AaO AcJ AcH AbH AbI AN5 DR ASM AaV Aa2 ARC ANC ANB AIB AIV AV7 AIU AN4 AdG AdF ixA ixR BX F8 AOX XC AIZ rvA AUM AG8 AL4 AL3 APP APQ APO AQ9 AES AH9 AM7 AER AM8 AM6 Je ANQ AR9 CY Pl AKY eN AIO AYV AUX ASU AZU ANE ARK AVL AZB K6 H6 Pu ASH Vr plain_fn ANZ I.C3 AGT AW7 AFE AHU rdC ldA zH AM4 ALY xG unA AMH AR3 stA wr LA dvs chunk xvs BA AV6 AN3 AZD ANH ARR ARQ AVT AVS AVQ AVU AVR ARS AD C4 Pw Jt Ap AX Option.pure_def AB AJ BK Cl AT A8 A7 Bz CK CD Eu N9 List.take_nil List.drop_nil AU A3 Aw XF Cu Fe Td Te XH MP Bool.not_true N6 Hg Bool.false_and OS BEq.rfl beq_self_eq_true CC Av decide_true decide_false AW and_self and_true true_and ite_true ite_false As Bool.cond_true Bool.cond_false beq_true beq_false Bool.true_beq Bool.false_beq
def AAG:Q01->List (List Nat×PT)
 | .reg _ l=>[(l,.done)]
 | .Gs _ l=>[(l,.done)]
 | .seq x y=>AAG x++AAG y
 | .cond _ t e=>AAG t++AAG e
 | .block _ c=>AAG c
 | .loop c=>AAG c
 | .scope c=>AAG c
 |_=>[]
inductive Ty where
 |mk (kind num:Int) (args:List Ty)
def Ty.kind:Ty->Int| .mk k _ _=>k
def Ty.num:Ty->Int| .mk _ n _=>n
def Ty.args:Ty->List Ty| .mk _ _ l=>l
mutual
def Ty.J:Ty->List DV
 | .mk k n l=>[.int .i64 k,.int .i64 n,.sl (Ty.Cz l)]
def Ty.Cz:List Ty->List (List DV)
 |[]=>[]
 |t::l=>Ty.J t::Ty.Cz l
end
mutual
def Ty.size:Ty->Nat
 | .mk _ _ l=>1+Ty.AQ l
def Ty.AQ:List Ty->Nat
 |[]=>0
 |t::l=>Ty.size t+Ty.AQ l
end
def tyA (t:Ty):I:= .agg (t.J.map I.d)
def L9 (l:List Ty):I:= .d (.sl (Ty.Cz l))
def CX:∀l:List Ty,(Ty.Cz l).length=l.length
 |[]=>rfl
 |t::l=>by simp [Ty.Cz,CX l]
def ADQ:∀(l:List Ty) (i:Nat),(Ty.Cz l)[i]?=(l[i]?).map Ty.J
 |[],i=>by simp [Ty.Cz]
 |t::l,0=>by simp [Ty.Cz]
 |t::l,i+1=>by simp [Ty.Cz,ADQ l i]
def JM {l:List Ty} {k n:Int} {a:List Ty} (h:l[i]?=some (.mk k n a)):(Ty.Cz l)[i]?=some [.int .i64 k,.int .i64 n,.sl (Ty.Cz a)]:=by
 rw [ADQ,h];rfl
theorem Aa {α:Type} {l:List α} {x:α} (h:l[i]?=some x):l.take (i+1)=l.take i++[x]:=by
 rw [List.take_add_one,h];rfl
def Ko:∀(l:List Ty) (t:Ty),Ty.AQ (l++[t])=Ty.AQ l+t.size
 |[],t=>by simp [Ty.AQ]
 |u::l,t=>by simp only [AU,Ty.AQ,Ko l t];omega
theorem CF:∀(l m:List Ty),Ty.AQ (l++m)=Ty.AQ l+Ty.AQ m
 |[],m=>by simp [Ty.AQ]
 |u::l,m=>by simp only [AU,Ty.AQ,CF l m];omega
def Yy {l:List Ty} {t:Ty} (h:l[i]?=some t):Ty.AQ (l.take i)+t.size<=Ty.AQ l:=by
 grind [Am,AG,List.drop_eq_getElem_cons,CF,Ty.AQ]
theorem size_pos:∀t:Ty,1<=t.size
 | .mk _ _ _=>by simp [Ty.size]
abbrev M:=List UInt8
inductive TE where
 |mk (kind:Int) (name:M) (args:List TE)
structure CE where
 name:M
 args:List TE
structure DE where
 name:M
 vars:List M
 cons:List CE
mutual
inductive Ex where
 |mk (op:Int) (name:M) (num:Int) (names:List M) (kids:List Ex) (alts:List Al)
inductive Al where
 |mk (con:M) (vars:List M) (body:Ex)
end
structure FE where
 name:M
 params:List M
 body:Ex
structure Pg where
 data:List DE
 Ca:List FE
def CG (s:M):List DV:=[.str s]
def ssD (l:List M):DV:= .sl (l.map CG)
mutual
def TE.J:TE->List DV
 | .mk k n l=>[.int .i64 k,.str n,.sl (TE.Cz l)]
def TE.Cz:List TE->List (List DV)
 |[]=>[]
 |t::l=>TE.J t::TE.Cz l
end
theorem TE.BQ:∀l:List TE,TE.Cz l=l.map TE.J
 |[]=>rfl
 |t::l=>by simp [TE.Cz,TE.BQ l]
def TE.A6 (k:Int) (n:M) (l:List TE):(TE.mk k n l).J=[.int .i64 k,.str n,.sl (l.map TE.J)]:=by
 simp [TE.J,TE.BQ]
mutual
def Ex.J:Ex->List DV
 | .mk o n u ns ks aS=>[.int .i64 o,.str n,.int .i64 u,ssD ns,.sl (Ex.Cz ks),.sl (Al.Cz aS)]
def Ex.Cz:List Ex->List (List DV)
 |[]=>[]
 |t::l=>Ex.J t::Ex.Cz l
def Al.J:Al->List DV
 | .mk c vs b=>.str c::ssD vs::Ex.J b
def Al.Cz:List Al->List (List DV)
 |[]=>[]
 |t::l=>Al.J t::Al.Cz l
end
theorem Ex.BQ:∀l:List Ex,Ex.Cz l=l.map Ex.J
 |[]=>rfl
 |t::l=>by simp [Ex.Cz,Ex.BQ l]
theorem Al.BQ:∀l:List Al,Al.Cz l=l.map Al.J
 |[]=>rfl
 |t::l=>by simp [Al.Cz,Al.BQ l]
def Ex.A6 (o:Int) (n:M) (u:Int) (ns:List M) (ks:List Ex) (aS:List Al):(Ex.mk o n u ns ks aS).J=[.int .i64 o,.str n,.int .i64 u,.sl (ns.map CG),.sl (ks.map Ex.J),.sl (aS.map Al.J)]:=by
 simp [Ex.J,Ex.BQ,Al.BQ,ssD]
def Al.A6 (c:M) (vs:List M) (o:Int) (n:M) (u:Int) (ns:List M) (ks:List Ex) (aS:List Al):(Al.mk c vs (.mk o n u ns ks aS)).J=[.str c,.sl (vs.map CG),.int .i64 o,.str n,.int .i64 u,.sl (ns.map CG),.sl (ks.map Ex.J),.sl (aS.map Al.J)]:=by
 simp [Al.J,Ex.A6,ssD]
def CE.J (c:CE):List DV:=[.str c.name,.sl (c.args.map TE.J)]
def DE.J (d:DE):List DV:=[.str d.name,.sl (d.vars.map CG),.sl (d.cons.map CE.J)]
def FE.J (f:FE):List DV:= .str f.name::.sl (f.params.map CG)::f.body.J
def Pg.J (p:Pg):List DV:=[.sl (p.data.map DE.J),.sl (p.Ca.map FE.J)]
def teA (t:TE):I:= .agg (t.J.map I.d)
def exA (e:Ex):I:= .agg (e.J.map I.d)
def alA (e:Al):I:= .agg (e.J.map I.d)
def ceA (c:CE):I:= .agg (c.J.map I.d)
def deA (c:DE):I:= .agg (c.J.map I.d)
def feA (c:FE):I:= .agg (c.J.map I.d)
def pgA (p:Pg):I:= .agg (p.J.map I.d)
theorem Ty.BQ:∀l:List Ty,Ty.Cz l=l.map Ty.J
 |[]=>rfl
 |t::l=>by simp [Ty.Cz,Ty.BQ l]
def Au {α:Type} {J:α->List DV} {l:List α} {x:α} (h:l[i]?=some x):(l.map J)[i]?=some (J x):=by
 grind
theorem Cs {α:Type} {l:List α} {x:α} (h:l[i]?=some x):l.drop i=x::l.drop (i+1):=by
 grind [AG,List.drop_eq_getElem_cons]
def Ak {α:Type} {l:List α} (h:i < l.length):∃x,l[i]?=some x:=⟨l[i],by simp [h]⟩
mutual
def TE.size:TE->Nat
 | .mk _ _ l=>1+TE.AQ l
def TE.AQ:List TE->Nat
 |[]=>0
 |t::l=>TE.size t+TE.AQ l
end
mutual
def Ex.size:Ex->Nat
 | .mk _ _ _ _ ks aS=>1+Ex.AQ ks+Al.AQ aS
def Ex.AQ:List Ex->Nat
 |[]=>0
 |t::l=>Ex.size t+Ex.AQ l
def Al.size:Al->Nat
 | .mk _ _ b=>Ex.size b
def Al.AQ:List Al->Nat
 |[]=>0
 |t::l=>Al.size t+Al.AQ l
end
theorem TE.size_pos:∀t:TE,1<=t.size
 | .mk _ _ _=>by simp [TE.size]
theorem Ex.size_pos:∀t:Ex,1<=t.size
 | .mk _ _ _ _ _ _=>by simp only [Ex.size];omega
def TE.MA {l:List TE} {t:TE} (h:t∈l):t.size<=TE.AQ l:=by
 induction l with
 |nil=>cases h
 |cons u l a=>
  grind [TE.AQ]
def Ex.MA {l:List Ex} {t:Ex} (h:t∈l):t.size<=Ex.AQ l:=by
 induction l with
 |nil=>cases h
 |cons u l a=>
  grind [Ex.AQ]
def Al.MA {l:List Al} {t:Al} (h:t∈l):t.size<=Al.AQ l:=by
 induction l with
 |nil=>cases h
 |cons u l a=>
  grind [Al.AQ]
def TE.CL:∀l:List TE,l.length<=TE.AQ l
 |[]=>by grind
 |t::l=>by have:=TE.CL l;have:=TE.size_pos t;simp only [AT,TE.AQ];omega
def Ex.CL:∀l:List Ex,l.length<=Ex.AQ l
 |[]=>by grind
 |t::l=>by have:=Ex.CL l;have:=Ex.size_pos t;simp only [AT,Ex.AQ];omega
def Al.CL:∀l:List Al,l.length<=Al.AQ l
 |[]=>by grind
 | .mk _ _ b::l=>by have:=Al.CL l;have:=Ex.size_pos b;simp only [AT,Al.AQ,Al.size];omega
theorem TE.CF:∀(l m:List TE),TE.AQ (l++m)=TE.AQ l+TE.AQ m
 |[],m=>by simp [TE.AQ]
 |u::l,m=>by simp only [AU,TE.AQ,TE.CF l m];omega
theorem Ex.CF:∀(l m:List Ex),Ex.AQ (l++m)=Ex.AQ l+Ex.AQ m
 |[],m=>by simp [Ex.AQ]
 |u::l,m=>by simp only [AU,Ex.AQ,Ex.CF l m];omega
theorem Al.CF:∀(l m:List Al),Al.AQ (l++m)=Al.AQ l+Al.AQ m
 |[],m=>by simp [Al.AQ]
 |u::l,m=>by simp only [AU,Al.AQ,Al.CF l m];omega
section
variable {P:Program} {K:CV} {F:Fm} {L:Lm} {A:X}
def AFI {s:Nat} (h:F s=v):put s v F=F:=by
 funext t;simp only [put];split
 . rename_i e;rw [<- h];first|(subst e;rfl)|(rw [e])
 . rfl
def Dq {d:Option Nat} {s:Nat} {b:Bool} {r:List Q} (a:F s= .d (.bool b))
 (c:b=true->Bm P K (⟨d,o,some (s,want)⟩::r) (put s (.d (.bool true)) F) L A) (e:b=false->Bm P K (⟨d,o,some (s,want)⟩::r) (put s (.d (.bool false)) F) L A):
 Bm P K (⟨d,o,some (s,want)⟩::r) F L A:=by
 cases b
 . have:=e rfl;rw [AFI a] at this;exact this
 . have:=c rfl;rw [AFI a] at this;exact this
def AN.det {d:Option Nat} {f:FuncId} {args:List I} (h:AS P f args A (fun a H=>a=v/\H=A)) (e:K (BW d v F) L A) (g:args.all I.BS=true:=by rfl):AN P f args d K F L A:=
 AN.mk g h (fun a H ⟨b,c⟩=>by subst b;subst c;exact e)
def wrap_add {a b:Nat} (h:a+b<=9000000000000000000):IntKind.i64.wrap ((a:Int)+(b:Int))=((a+b:Nat):Int):=by
 rw [B2 (by omega) (by omega)];omega
def Gv {a:Nat} (h:a+1<=9000000000000000000):IntKind.i64.wrap ((a:Int)+1)=((a+1:Nat):Int):=by
 rw [B2 (by omega) (by omega)];omega
def BI (h:i < n):decide ((i:Int) < (n:Int))=true:=by simp [h]
def B5 (h:¬i < n):decide ((i:Int) < (n:Int))=false:=by simp;omega
def Po {b:UInt8} (h:s[i]?=some b) (k:IntKind):tD (.d (.str s)) (.d (.int k (i:Int)))=some (.d (.int .u8 b.toNat)):=by
 simp [tD,h]
def ABW (h:n<=s.length):nG (.d (.str s)) none (some (.d (.int .i64 (n:Int))))=some (.d (.str (s.take n))):=by
 simp [nG,fZ,Vm,h]
def AZZ (h:n<=s.length):nG (.d (.str s)) (some (.d (.int .i64 (n:Int)))) none=some (.d (.str (s.drop n))):=by
 simp [nG,fZ,Vm,h]
def Ab3 {b c:UInt8} :nG (.d (.str (b::c::s))) none (some (.d (.int .i64 2)))=some (.d (.str [b,c])):=by
 rw [show (2:Int)=((2:Nat):Int) from rfl,ABW (by simp)];rfl
def AXZ {b:UInt8} :nG (.d (.str (b::s))) none (some (.d (.int .i64 1)))=some (.d (.str [b])):=by
 rw [show (1:Int)=((1:Nat):Int) from rfl,ABW (by simp)];rfl
def AZ2 (b x:UInt8):((b.toNat:Int)==(x.toNat:Int))=(b==x):=by
 rw [C2];simp only [beq_iff_eq,Int.natCast_inj,UInt8.toNat_inj]
def W.Zh {cx:Cx} {KK:I->X->Prop} {k:List CI} (ks:List Nat) (h:W cx KK k (Ee ks F) (GK ks L) A):W cx KK k F L A:=
 fun c base g lam d a l w b cs i f e j=>h c base g lam d a l w b cs i (f.kept ks) e j
def ctl (bl:Bool):List CI->Option (List CI)
 | .code .skip::k=>some k
 | .code (.seq x y)::k=>some (.code x::.code y::k)
 | .code (.block i c)::k=>if bl then some (.code c::.C i::k) else none
 | .code (.scope c)::k=>some (.code c::.scp::k)
 | .C _::k=>some k
 | .scp::k=>some k
 | .code (.exit i)::k=>KF i k
 |_=>none
def W.ctB {cx:Cx} {KK:I->X->Prop} (a:Bool) {k:List CI} (e:ctl a k=some k') (h:W cx KK k' F L A):W cx KK k F L A:=by
 unfold ctl at e;split at e
 . cases e;exact W.skip h
 . cases e;exact W.seq h
 . split at e
   . cases e;exact W.block h
   . cases e
 . cases e;exact W.scope h
 . cases e;exact W.C h
 . cases e;exact W.scp h
 . exact W.exit e h
 . cases e
def W.ct {cx:Cx} {KK:I->X->Prop} {k:List CI} (e:ctl true k=some k') (h:W cx KK k' F L A):W cx KK k F L A:=W.ctB true e h
def W.cb {cx:Cx} {KK:I->X->Prop} {k:List CI} (e:ctl false k=some k') (h:W cx KK k' F L A):W cx KK k F L A:=W.ctB false e h
def Kp (R:CV) (l:List Nat):CV:=fun F L A=>R (Ee l F) (GK l L) A
def Wp (cx:Cx) (K:I->X->Prop) (m:Nat):Q01->CV->List CI->CV
 | .skip,R,_=>R
 | .seq a b,R,k=>Wp cx K m a (Wp cx K m b R k) (.code b::k)
 | .block i c,R,k=>Wp cx K m c R (.C i::k)
 | .scope c,R,k=>Wp cx K m c R (.scp::k)
 | .exit i,_,k=>fun F L A=>match KF i k with
  |some k'=>W cx K k' F L A
  |none=>False
 | .reg ops l,R,_=>Bm cx.P (Kp R l) ops
 | .cond x a b,_,k=>fun F L A=>oH (xv F x) (W cx K (.code a::k) F L A) (W cx K (.code b::k) F L A)
 | .Gs t l,R,_=>XT cx.P (Kp R l) false t
 | .loop c,_,k=>W cx K (.code (.loop c)::k)
 | .ret,_,k=>fun F L A=>match m with
  |0=>W cx K (.code .ret::k) F L A
  |1=>lR ((XC F L A cx.rs).map I.plain) K A
  |_=>lR (XC F L A cx.rs) K A
 | .bad,_,k=>W cx K (.code .bad::k)
def fR {cx:Cx} {K:I->X->Prop} {m:Nat} [e:Good cx]:∀(c:Q01) (R:CV) (k:List CI) (F:Fm) (L:Lm) (A:X),(∀F L A,R F L A->W cx K k F L A)->Wp cx K m c R k F L A->W cx K (.code c::k) F L A
 | .skip,R,k,F,L,A,d,h=>W.skip (d F L A h)
 | .seq a b,R,k,F,L,A,d,h=>W.seq (fR a (Wp cx K m b R k) (.code b::k) F L A (fun F L A h=>fR b R k F L A d h) h)
 | .block i c,R,k,F,L,A,d,h=>W.block (fR c R (.C i::k) F L A (fun F L A h=>W.C (d F L A h)) h)
 | .scope c,R,k,F,L,A,d,h=>W.scope (fR c R (.scp::k) F L A (fun F L A h=>W.scp (d F L A h)) h)
 | .exit i,R,k,F,L,A,d,h=>by
  simp only [Wp] at h;cases f:KF i k with
  |none=>rw [f] at h;exact h.elim
  |some j=>rw [f] at h;exact W.exit f h
 | .reg g l,R,k,F,L,A,d,h=>W.AbZ e.gC (Kp R l) h fun F L A h=>d _ _ _ h
 | .cond x a b,R,k,F,L,A,d,h=>W.APZ h
 | .Gs t l,R,k,F,L,A,d,h=>W.WX e.gC (Kp R l) h fun F L A h=>d _ _ _ h
 | .loop c,R,k,F,L,A,d,h=>h
 | .ret,R,k,F,L,A,d,h=>by
  match m,h with
  |0,h=>exact h
  |1,h=>exact W.By e (X.le_refl _) h
  |_+2,h=>exact W.ASS e (X.le_refl _) h
 | .bad,R,k,F,L,A,d,h=>h
def hdC (m:Nat):List CI->Option (Q01×List CI)
 | .C _::k=>hdC m k
 | .scp::k=>hdC m k
 | .code .skip::k=>some (.skip,k)
 | .code (.seq a b)::k=>some (.seq a b,k)
 | .code (.block i c)::k=>some (.block i c,k)
 | .code (.scope c)::k=>some (.scope c,k)
 | .code (.exit i)::k=>some (.exit i,k)
 | .code (.reg o l)::k=>some (.reg o l,k)
 | .code (.Gs o l)::k=>some (.Gs o l,k)
 | .code (.cond x a b)::k=>some (.cond x a b,k)
 | .code .ret::k=>match m with
  |0=>none
  |_=>some (.ret,k)
 |_=>none
def wM {cx:Cx} {K:I->X->Prop} [Good cx] (m:Nat):∀ {k:List CI} {c:Q01} {k':List CI},hdC m k=some (c,k')->Wp cx K m c (W cx K k') k' F L A->W cx K k F L A
 | .C _::k,c,k',e,h=>W.C (wM m (k:=k) e h)
 | .scp::k,c,k',e,h=>W.scp (wM m (k:=k) e h)
 | .code d::k,c,k',e,h=>by
  cases d
  case ret=>cases m<;>cases e<;>exact fR _ _ _ F L A (fun _ _ _ h=>h) h
  all_goals cases e<;>exact fR _ _ _ F L A (fun _ _ _ h=>h) h
 | .again _::k,c,k',e,h=>by cases e
 |[],c,k',e,h=>by cases e
def wQ {cx:Cx} {K:I->X->Prop} [Good cx] {k:List CI} {c:Q01} (h:Wp cx K 0 c (W cx K k') k' F L A) (e:hdC 0 k=some (c,k'):=by rfl):W cx K k F L A:=wM 0 e h
def wP {cx:Cx} {K:I->X->Prop} [Good cx] {k:List CI} {c:Q01} (h:Wp cx K 1 c (W cx K k') k' F L A) (e:hdC 1 k=some (c,k'):=by rfl):W cx K k F L A:=wM 1 e h
def wR {cx:Cx} {K:I->X->Prop} [Good cx] {k:List CI} {c:Q01} (h:Wp cx K 2 c (W cx K k') k' F L A) (e:hdC 2 k=some (c,k'):=by rfl):W cx K k F L A:=wM 2 e h
def hd1 (m:Nat):Nat->Bool->List CI->Option (List CI)
 |0,_,_=>none
 |n+1,p,k=>match ctl true k with
  |some k'=>hd1 m n true k'
  |none=>match k with
   | .code (.reg _ _)::_=>some k
   | .code (.cond _ _ _)::_=>some k
   | .code .ret::_=>match m with
    |0=>if p then some k else none
    |_=>some k
   |_=>if p then some k else none
def W1 (cx:Cx) (K:I->X->Prop) (m:Nat):List CI->CV
 | .code (.reg ops l)::k=>Bm cx.P (Kp (W cx K k) l) ops
 | .code (.cond x a b)::k=>fun F L A=>oH (xv F x) (W cx K (.code a::k) F L A) (W cx K (.code b::k) F L A)
 | .code .ret::k=>fun F L A=>match m with
  |0=>W cx K (.code .ret::k) F L A
  |1=>lR ((XC F L A cx.rs).map I.plain) K A
  |_=>lR (XC F L A cx.rs) K A
 |k=>W cx K k
def AX6 {cx:Cx} {K:I->X->Prop} {m:Nat} [a:Good cx] {k:List CI} (h:W1 cx K m k F L A):W cx K k F L A:=by
 unfold W1 at h;split at h
 . exact W.AbZ a.gC (Kp (W cx K _) _) h fun F L A h=>h
 . exact W.APZ h
 . match m,h with
   |0,h=>exact h
   |1,h=>exact W.By a (X.le_refl _) h
   |_+2,h=>exact W.ASS a (X.le_refl _) h
 . exact h
def s1 {cx:Cx} {K:I->X->Prop} [Good cx] (m:Nat):∀ {n:Nat} {p:Bool} {k k':List CI},hd1 m n p k=some k'->W1 cx K m k' F L A->W cx K k F L A:=by
 intro n
 induction n with
 |zero=>intro p k k' e;cases e
 |succ n a=>
  intro p k k' e h;unfold hd1 at e;split at e
  . exact W.ct ‹_› (a e h)
  . have:k=k':=by
     repeat' split at e
     all_goals first|(cases e;rfl)|cases e
    subst this;exact AX6 h
def sQ {cx:Cx} {K:I->X->Prop} [Good cx] {k:List CI} (h:W1 cx K 0 k' F L A) (e:hd1 0 99 false k=some k':=by rfl):W cx K k F L A:=s1 0 e h
def sP {cx:Cx} {K:I->X->Prop} [Good cx] {k:List CI} (h:W1 cx K 1 k' F L A) (e:hd1 1 99 false k=some k':=by rfl):W cx K k F L A:=s1 1 e h
def sR {cx:Cx} {K:I->X->Prop} [Good cx] {k:List CI} (h:W1 cx K 2 k' F L A) (e:hd1 2 99 false k=some k':=by rfl):W cx K k F L A:=s1 2 e h
def lkS (k:Nat) (F:Fm):List (Nat×I)->I
 |[]=>F k
 |(j,v)::g=>if j==k then v else lkS k F g
def fKs (F:Fm) (g:List (Nat×I)):List Nat->Fm
 |[]=>U
 |k::ks=>put k (lkS k F g) (fKs F g ks)
class Sh (F:Fm) (ks:outParam (List Nat)):Prop where
 t:True
instance AdH:Sh U []:=⟨trivial⟩
instance AdC {k:Nat} {v:I} {F:Fm} {ks:List Nat} [Sh F ks]:Sh (put k v F) (k::ks):=⟨trivial⟩
def lpK {cx:Cx} {KK:I->X->Prop} {k:List CI} {α:Type} {c:Q01} {ks:List Nat} [Sh F ks] (g:α->List (Nat×I)) (b:α->X) (a:α->Prop) (m:α->Nat)
 (step:∀x,a x->(∀y,a y->m y < m x->W cx KK (.again c::k) (fKs F (g y) ks) L (b y))->W cx KK (.code c::.again c::k) (fKs F (g x) ks) L (b x)) (x:α) (d:a x)
 (e:(W cx KK (.again c::k) (fKs F (g x) ks) L (b x))=(W cx KK (.again c::k) F L A):=by rfl):W cx KK (.code (.loop c)::k) F L A:=
 W.PL (e ▸ W.SB (fun x=>fKs F (g x) ks) (fun _=>L) b a m step x d)
section eqs
variable {cx:Cx} {K:I->X->Prop} {R:CV} {k:List CI} {a b c:Q01} {m:Nat}
def AdE :Kp R l F L A=R (Ee l F) (GK l L) A:=(rfl)
def AaB:Wp cx K m .skip R k F L A=R F L A:=(rfl)
def AcB:Wp cx K m (.seq a b) R k F L A=Wp cx K m a (Wp cx K m b R k) (.code b::k) F L A:=(rfl)
def AW1 :Wp cx K m (.block i c) R k F L A=Wp cx K m c R (.C i::k) F L A:=(rfl)
def AW2:Wp cx K m (.scope c) R k F L A=Wp cx K m c R (.scp::k) F L A:=(rfl)
def Ab9 :Wp cx K m (.reg ops l) R k F L A=Bm cx.P (Kp R l) ops F L A:=(rfl)
def AZ8 {t:QT} :Wp cx K m (.Gs t l) R k F L A=XT cx.P (Kp R l) false t F L A:=(rfl)
def AZ5 {x:Q09}:Wp cx K m (.cond x a b) R k F L A=oH (xv F x) (W cx K (.code a::k) F L A) (W cx K (.code b::k) F L A):=(rfl)
def AZ7:Wp cx K m (.loop c) R k F L A=W cx K (.code (.loop c)::k) F L A:=(rfl)
def AcA:Wp cx K 0 .ret R k F L A=W cx K (.code .ret::k) F L A:=(rfl)
def AZ9:Wp cx K 1 .ret R k F L A=lR ((XC F L A cx.rs).map I.plain) K A:=(rfl)
def AaA:Wp cx K 2 .ret R k F L A=lR (XC F L A cx.rs) K A:=(rfl)
def AZ6 :Wp cx K m (.exit i) R k F L A=match KF i k with
 |some a=>W cx K a F L A
 |none=>False:=(rfl)
def AQG :KF i (.code c::k)=KF i k:=(rfl)
def AMD :KF i (.again c::k)=KF i k:=(rfl)
def AQH :KF i (.C i::k)=some k:=by rw [KF,if_pos rfl]
def AU0 {j:Nat}:KF i (.C j::k)=if j=i then some k else KF i k:=by rw [KF]
def AZ4 :W1 cx K m (.code (.reg ops l)::k) F L A=Bm cx.P (Kp (W cx K k) l) ops F L A:=(rfl)
def AWW {x:Q09}:W1 cx K m (.code (.cond x a b)::k) F L A=oH (xv F x) (W cx K (.code a::k) F L A) (W cx K (.code b::k) F L A):=(rfl)
def AWX:W1 cx K m (.code (.loop c)::k) F L A=W cx K (.code (.loop c)::k) F L A:=(rfl)
def AWY {t:QT} :W1 cx K m (.code (.Gs t l)::k) F L A=W cx K (.code (.Gs t l)::k) F L A:=(rfl)
def ATW:W1 cx K m (.again c::k) F L A=W cx K (.again c::k) F L A:=(rfl)
def AWZ:W1 cx K 1 (.code .ret::k) F L A=lR ((XC F L A cx.rs).map I.plain) K A:=(rfl)
def AW0:W1 cx K 2 (.code .ret::k) F L A=lR (XC F L A cx.rs) K A:=(rfl)
def AU3 {g:List (Nat×I)}:fKs F g []=U:=(rfl)
def AQJ {g:List (Nat×I)} {j:Nat} {ks:List Nat}:fKs F g (j::ks)=put j (lkS j F g) (fKs F g ks):=(rfl)
def AVO {j:Nat}:lkS j F []=F j:=(rfl)
def ARM {j:Nat} {g:List (Nat×I)}:lkS j F ((i,v)::g)=if i==j then v else lkS j F g:=(rfl)
end eqs
attribute [go_sem] AZ4 AWW AWX AWY ATW AWZ AW0 AU3 AQJ AVO ARM
attribute [go_sem] AdE AaB AcB AW1 AW2 Ab9 AZ8 AZ5 AZ7 AcA AZ9 AaA AZ6 AQG AMD AQH AU0
attribute [go_sem] HW Nat.reduceBEq Nat.reduceAdd Nat.reduceLeDiff reduceIte reduceCtorEq
attribute [go_sem] xR L9 tyA Ty.J Ty.Cz eq_self Du Bool.not_eq_false'
end
def pO (l:List Nat) (t:PT):PT:=l.foldr .one t
def pL (l:List Nat) (t:PT):PT:=l.foldr .lay t
def pD (l:List Nat):PT:=pO l .done
def qT (o:List Q):PT->QT
 | .done=>.done
 | .one i t| .lay i t=>.one (o.getD i ⟨none,.mv (.t 0),none⟩) (qT o t)
 | .alt i t r=>.alt (o.getD i ⟨none,.mv (.t 0),none⟩) (qT o t) (qT o r)
def Ac9 (q:List Q) (p:PT):Q01:=match p with
 | .done=>.reg q []
 |p=>match lin (qT q p) with
  |some q=>.reg q []
  |none=>.Gs (qT q p) []
def rgs:Code->Nat
 | .region _ _ _=>1
 | .seq x y=>rgs x+rgs y
 | .cond _ x y=>rgs x+rgs y
 | .block _ c=>rgs c
 | .loop c=>rgs c
 | .scope c=>rgs c
 |_=>0
def cG (ops:Array Oper) (o:Oper) (c:Option Q06):Option Q:=c.map fun c=>⟨o.dst,c,o.guard.bind fun g=>((ops[g.1]?).bind (·.dst)).map (·,g.2)⟩
def cQ (x:Cx) (ops:Array Oper) (o:Oper):Option Q:=match o.op with
 | .binOp op t a b _=>match x.P.underlying t with
  |some (.struct fs)=>cG ops o (zJ op fs.size a b)
  |_=>xQ x.P x.N x.esc ops o
 | .lookup _ a b false=>cG ops o ((xo a).bind fun p=>(xo b).map fun q=>.ex .ABB [p,q])
 | .mapUpdate t a b c=>cG ops o (match x.P.underlying t with
  |some (.map k _)=>(xo a).bind fun p=>(xo b).bind fun q=>(xo c).map fun r=>.eK (!rS x.P k) p q r
  |_=>none)
 |_=>xQ x.P x.N x.esc ops o
def cU (x:Cx) (ps:List (Nat×PT)):Code->Nat->Q01
 | .region _ ops _,n=>match ops.toList.mapM (cQ x ops) with
  |some q=>Ac9 q ((ps.lookup n).getD .done)
  |none=>.bad
 | .seq a b,n=>.seq (cU x ps a n) (cU x ps b (n+rgs a))
 | .cond c t e,n=>.cond ((xo c).getD (.t 0)) (cU x ps t n) (cU x ps e (n+rgs t))
 | .block id c,n=>.block id (cU x ps c n)
 | .loop c,n=>.loop (cU x ps c n)
 | .exit id,_=>.exit id
 | .ret,_=>.ret
 | .scope c,n=>.scope (cU x ps c n)
 |_,_=>.skip
def bit (n:Nat):Nat:=1 <<< n
def bits (l:List Nat):Nat:=l.foldl (fun m n=>m|||bit n) 0
def AXY (n:Nat) (m:Nat):List Nat:=(Aj n).filter fun i=>m.testBit i
def AZQ:QT->List Q
 | .done=>[]
 | .one q t=>q::AZQ t
 | .alt q t _=>q::AZQ t
def AKV:List Q->Nat->Nat
 |[],m=>m
 |q::l,m=>bits q.looks|||(match q.dst with|some d=>(AKV l m|||bit d) ^^^ bit d|none=>AKV l m)
def AbF (f:Nat->Nat):Nat->Nat->Nat
 |0,m=>m
 |n+1,m=>if f m|||m=m then m else AbF f n (f m|||m)
def lv (N r:Nat):Q01->List (Nat×Nat)->Nat->Q01×Nat
 | .reg q _,_,m=>(.reg q (AXY N m),AKV q m)
 | .Gs t _,_,m=>(.Gs t (AXY N m),AKV (AZQ t) m)
 | .seq a b,e,m=>match lv N r b e m with
  |(b',p)=>match lv N r a e p with
   |(a',q)=>(.seq a' b',q)
 | .cond x a b,e,m=>match lv N r a e m,lv N r b e m with
  |(a',p),(b',q)=>(.cond x a' b',bits (TW x)|||(p|||q))
 | .block i c,e,m=>match lv N r c ((i,m)::e) m with
  |(c',p)=>(.block i c',p)
 | .scope c,e,m=>match lv N r c e m with
  |(c',p)=>(.scope c',p)
 | .loop c,e,_=>match AbF (fun m=>(lv N r c e m).2) 8 0 with
  |m=>(.loop (lv N r c e m).1,m)
 | .exit i,e,_=>(.exit i,(e.lookup i).getD 0)
 | .ret,_,_=>(.ret,r)
 | .skip,_,m=>(.skip,m)
 | .bad,_,_=>(.bad,0)
def dK (ls:List Q01):Q01->Nat->Q01×Nat
 | .seq a b,n=>match dK ls a n with
  |(a',n)=>match dK ls b n with
   |(b',n)=>(.seq a' b',n)
 | .cond x a b,n=>match dK ls a n with
  |(a',n)=>match dK ls b n with
   |(b',n)=>(.cond x a' b',n)
 | .block i c,n=>match dK ls c n with
  |(c',n)=>(.block i c',n)
 | .scope c,n=>match dK ls c n with
  |(c',n)=>(.scope c',n)
 | .loop c,n=>match dK ls c n with
  |(_,n)=>(.loop (ls.getD n .skip),n+1)
 |c,n=>(c,n)
def ACY (ls:List Q01):Q01->Nat->List Q01×Nat
 | .seq a b,n=>match ACY ls a n with
  |(a',n)=>match ACY ls b n with
   |(b',n)=>(a'++b',n)
 | .cond _ a b,n=>match ACY ls a n with
  |(a',n)=>match ACY ls b n with
   |(b',n)=>(a'++b',n)
 | .block _ c,n=>ACY ls c n
 | .scope c,n=>ACY ls c n
 | .loop c,n=>match ACY ls c n with
  |(l,m)=>(l++[(dK ls c n).1],m+1)
 |_,n=>([],n)
def rvb:List RV->Nat
 |[]=>0
 | .t n::l=>bit n|||rvb l
 | .c n _::l=>bit n|||rvb l
def gen (N r:Nat) (c:Q01) (ls:List Q01):Q01×List Q01:=match lv N r c [] 0 with
 |(c,_)=>((dK ls c 0).1,(ACY ls c 0).1)
def u8c (n:Nat) (h:n < 2 ^ 8):UInt8.ofBitVec (BitVec.ofFin ⟨n,h⟩)=UInt8.ofNat n:=by
 apply UInt8.toNat.inj;simp [UInt8.toNat_ofNat'];omega
def C8 {α:Type} (x:Cx) (ps:List (Nat×PT)) (f:Q01×Nat×Nat->α)
 (y: {c:Q01×Nat×Nat // (cU x ps (x.fn.body.getD .skip) 0,x.N,rvb x.rs)=c}:=by exact ⟨_,by conv=> { lhs;reduce;try simp only [Int.reduceOfNat,Int.reduceNegSucc,u8c,UInt8.reduceOfNat]}⟩)
 (z: {a:α // f y.1=a}:=by exact ⟨_,by conv=> { lhs;(try (ext _;(try (ext _;(try (ext _;(try (ext _;(try (ext _;(try (ext _;(try (ext _;(try (ext _;(try (ext _;(try (ext _;(try (ext _;(try (ext _;(try (ext _;(try (ext _;skip))))))))))))))))))))))))))));cbv}⟩):α:=z.1
def k0 (x:Cx) (ps:List (Nat×PT):=[])
 (y: {c:Q01×Nat×Nat // (cU x ps (x.fn.body.getD .skip) 0,x.N,rvb x.rs)=c}:=by exact ⟨_,by conv=> { lhs;reduce;try simp only [Int.reduceOfNat,Int.reduceNegSucc,u8c,UInt8.reduceOfNat]}⟩)
 (z: {a:Q01 // (gen y.1.2.1 y.1.2.2 y.1.1 []).1=a}:=by exact ⟨_,by conv=> { lhs;cbv}⟩):Q01:=z.1
def lq (l:List Nat):List Nat:=l.map (300000+·)
def Rg (a:Nat):Nat->List Nat
 |0=>[]
 |n+1=>a::Rg (a+1) n
def G (c:Q01×Nat×Nat) (ls:List Q01):Q01×List Q01:=gen c.2.1 c.2.2 c.1 ls
def lpC (n:Nat) (p:Q01×List Q01):Q01:=p.2.getD n .skip
def wp (l:List (List Nat×PT)) (s:List (Nat×PT)):List (List Nat×PT):=s.foldl (fun l x=>l.modify x.1 fun y=>(y.1,x.2)) l
def Inn (cx:Cx) (c:Q01) (n:Nat):Prop:=∀ {args:List I} {A:X} {K:I->X->Prop},args.length<=n->W cx K [.code c] (Px args) E A->AS cx.P cx.f args A K
def inn {cx:Cx} {c:Q01} (t:List (Nat×PT)) (hg:Good cx) (hn:cx.fn.ntmps=n) (hc:(cx.fn.body.bind fun k=>Hi cx.P cx.N cx.esc cx.pf k (wp (AAG c) t))=some (c,[]):=by kernel_rfl) (hN:cx.N=n:=by rfl):Inn cx c n:=by
 intro args A K hl h;cases hb:cx.fn.body with
 |none=>rw [hb] at hc;cases hc
 |some code=>rw [hb] at hc;exact ALS hg hb (hn.trans hN.symm) (hN ▸ hl) (Nn cx _ _ _ _ hc) h
def inX {c:Q01} {cx:Cx} [hg:Good cx] (hn:cx.fn.ntmps=n) (t:List (Nat×PT):=[]) (hc:(cx.fn.body.bind fun k=>Hi cx.P cx.N cx.esc cx.pf k (wp (AAG c) t))=some (c,[]):=by kernel_rfl) (hN:cx.N=n:=by rfl):Inn cx c n:=inn t hg hn hc hN
def W.qP {cx:Cx} {KK:I->X->Prop} {k:List CI} {F:Fm} {L:Lm} {A:X} (hg:Good cx) (h:lR ((XC F L A cx.rs).map I.plain) KK A):W cx KK (.code .ret::k) F L A:=W.By hg (X.le_refl _) h
def ctQ {cx:Cx} {KK:I->X->Prop} {k:List CI} {F:Fm} {L:Lm} {A:X} (e:ctl true k=some k') (h:W cx KK k' F L A):W cx KK k F L A:=W.ct e h
def rgQ {cx:Cx} {KK:I->X->Prop} {k:List CI} {F:Fm} {L:Lm} {A:X} (hm:cx.P.follows .mixedOrders=true) (h:Bm cx.P (AGT cx KK k live) ops F L A):W cx KK (.code (.reg ops live)::k) F L A:=W.reg hm h
def cdQ {cx:Cx} {KK:I->X->Prop} {k:List CI} {F:Fm} {L:Lm} {A:X} {x:Q09} {t e:Q01} (h:oH (xv F x) (W cx KK (.code t::k) F L A) (W cx KK (.code e::k) F L A)):W cx KK (.code (.cond x t e)::k) F L A:=W.APZ h
def BB {A:X} :(A.AI i cs).C i=some cs:=by rw [AD,if_pos rfl]
def Bn.w4 {A H:X} {e s:Nat} {rows:List (List DV)} (h:Bn A e s rows v H):v.BS=true/\(∀k,v.Cp k=false)/\v.cells=[v]/\v.Bo=true:=⟨h.BS,h.Cp,h.cells,h.cell⟩
def wS (a:Nat) (h:a+1<=9000000000000000000:=by omega):IntKind.i64.wrap ((a:Int)+1)=((a+1:Nat):Int):=Gv h
def Inn.go {cx:Cx} {c:Q01} {args:List I} {A:X} {K:I->X->Prop} (i:Inn cx c n) (h:W cx K [.code c] (Px args) E A) (hl:args.length<=n:=by simp):AS cx.P cx.f args A K:=i hl h
abbrev A1 (x:Int):I:= .d (.int .i64 x)
abbrev BU (x:List (List DV)):I:= .d (.sl x)
abbrev Gb (x:List UInt8):I:= .d (.str x)
abbrev D1 (x:Bool):I:= .d (.bool x)
abbrev dtV (v:I) (A:X) (v':I) (H:X):Prop:=v'=v/\H=A
def dtV_e {A H:X}:dtV v A v' H=(v'=v/\H=A):=rfl
attribute [go_sem] dtV_e Dx B4 DN Ka oT
open Go.Proofs Go.Proofs.Tryz
set_option maxRecDepth 100000
set_option maxHeartbeats 40000000
noncomputable section
def mixed:Tzp.follows .mixedOrders=true:=by kernel_rfl
def mxQ:Tzp.follows .mixedOrders=true:=mixed
noncomputable abbrev mX (k:Nat) (f:Func) (N:Nat) (e:List Nat) (r:List RV):Cx:=⟨Tzp,k,f,N,e,[],r⟩
theorem gdX {k N:Nat} {f:Func} {e:List Nat} {r:List RV} (h:Tzp.funcs[k]?=some f) (h2:dB Tzp f.results.toList=some r:=by kernel_rfl):Good (mX k f N e r):=⟨h,h2,mixed⟩
abbrev Qt:=mX 18 f18 62 ([30]++lq [9,14,19,25,32,39,44,50,57]) [.t 2]
instance Ib:Good Qt:=gdX func18
def Q7:=C8 Qt [] fun c a b=>G c [a,b]
def Ru:=lpC 0 (Q7 .skip .skip)
def cW:=lpC 1 (Q7 Ru .skip)
def pF:=(Q7 Ru cW).1
def rI:Inn Qt pF 62:=inX ntmps18
abbrev Kt:=mX 38 f38 32 (lq [4,9,15,20,25,30]) [.t 2]
instance aV:Good Kt:=gdX func38
def aC:=k0 Kt
def bB:Inn Kt aC 32:=inX ntmps38
abbrev Ot:=mX 39 f39 5 [] [.t 2]
instance AO4:Good Ot:=gdX func39
def l8:=k0 Ot
def mT:Inn Ot l8 5:=inX ntmps39
abbrev Jn:=mX 40 f40 9 [3] [.t 4]
instance ZR:Good Jn:=gdX func40
def ZL:=k0 Jn
def ZV:Inn Jn ZL 9:=inX ntmps40
abbrev IB:=mX 41 f41 61 (lq [28,33,40,47,55]) [.t 6]
instance ACD:Good IB:=gdX func41
def Hr:=C8 IB [] fun c a b=>G c [a,b]
def Jz:=lpC 0 (Hr .skip .skip)
def S9:=lpC 1 (Hr Jz .skip)
def We:=(Hr Jz S9).1
def M8:Inn IB We 61:=inX ntmps41
abbrev NW:=mX 80 f80 5 [] [.t 2]
instance AMX:Good NW:=gdX func80
def gN:=k0 NW
def iU:Inn NW gN 5:=inX ntmps80
abbrev G2:=mX 81 f81 9 [3] [.t 4]
instance Sq:Good G2:=gdX func81
def S8:=k0 G2
def TD:Inn G2 S8 9:=inX ntmps81
abbrev JF:=mX 82 f82 17 (lq [4,8,14]) [.t 2]
instance Xq:Good JF:=gdX func82
def X5:=k0 JF
def YA:Inn JF X5 17:=inX ntmps82
abbrev Fp:=mX 83 f83 9 [3] [.t 4]
instance R8:Good Fp:=gdX func83
def RY:=k0 Fp
def Rj:Inn Fp RY 9:=inX ntmps83
abbrev Hd:=mX 84 f84 5 [300003] [.t 2]
instance AAP:Good Hd:=gdX func84
def VO:=k0 Hd
def Vb:Inn Hd VO 5:=inX ntmps84
abbrev Kw:=mX 85 f85 65 ([3]++lq [10,18,24,35,39,44,48,54,61]) [.t 4]
instance QR:Good Kw:=gdX func85
def aF:=k0 Kw
def Q0:Inn Kw aF 65:=inX ntmps85
abbrev NU:=mX 86 f86 37 [] [.t 4]
instance AMW:Good NU:=gdX func86
def gM:=k0 NU
def iT:Inn NU gM 37:=inX ntmps86
abbrev Ej:=mX 87 f87 9 [] [.t 4]
instance mG:Good Ej:=gdX func87
def OZ:=k0 Ej
def O9:Inn Ej OZ 9:=inX ntmps87
abbrev IA:=mX 88 f88 8 [] [.t 3]
instance ACC:Good IA:=gdX func88
def Wd:=k0 IA
def Ww:Inn IA Wd 8:=inX ntmps88
abbrev Kv:=mX 89 f89 194 (lq [8,10,12,22,34,44,48,59,63,73,79,85,89,97,107,113,117,127,133,137,149,159,163,171,183,191]) [.t 2]
instance AH2:Good Kv:=gdX func89
def aE:=k0 Kv
def bD:Inn Kv aE 194:=inX ntmps89
abbrev Dh:=mX 136 f136 9 [] [.t 4]
instance bZ:Good Dh:=gdX func136
def L4:=k0 Dh
def L7:Inn Dh L4 9:=inX ntmps136
abbrev F2:=mX 137 f137 8 [300005] [.t 3]
instance qO:Good F2:=gdX func137
def QG:=k0 F2
def QZ:Inn F2 QG 8:=inX ntmps137
abbrev D5:=mX 138 f138 9 [] [.t 4]
instance aT:Good D5:=gdX func138
def Kb:=k0 D5
def Kk:Inn D5 Kb 9:=inX ntmps138
abbrev FG:=mX 139 f139 8 [300005] [.t 3]
instance nO:Good FG:=gdX func139
def P1:=k0 FG
def Pf:Inn FG P1 8:=inX ntmps139
abbrev JG:=mX 140 f140 8 [300004] [.t 3]
instance AEB:Good JG:=gdX func140
def X6:=k0 JG
def YB:Inn JG X6 8:=inX ntmps140
abbrev T5:=mX 141 f141 61 (lq [47,52]) [.t 2,.t 3,.t 4]
instance Sr:Good T5:=gdX func141
def TP:=C8 T5 [] fun c a b=>G c [a,b]
def UK:=lpC 0 (TP .skip .skip)
def gO:=lpC 1 (TP UK .skip)
def uU:=(TP UK gO).1
def vW:Inn T5 uU 61:=inX ntmps141
abbrev Fo:=mX 142 f142 19 [] [.t 4]
instance uH:Good Fo:=gdX func142
def J0:=C8 Fo [] fun c a=>G c [a]
def O1:=lpC 0 (J0 .skip)
def RW:=(J0 O1).1
def Ri:Inn Fo RW 19:=inX ntmps142
abbrev Ku:=mX 143 f143 39 (lq [6,8,11,17,20,25,31,36]) [.t 2]
instance AH1:Good Ku:=gdX func143
def aD:=k0 Ku
def bC:Inn Ku aD 39:=inX ntmps143
abbrev Qu:=mX 144 f144 23 (lq [4,8,13,19]) [.t 2]
instance AQV:Good Qu:=gdX func144
def pG:=k0 Qu
def rJ:Inn Qu pG 23:=inX ntmps144
abbrev Oq:=mX 145 f145 9 [] [.t 2]
instance AO3:Good Oq:=gdX func145
def l7:=k0 Oq
def mS:Inn Oq l7 9:=inX ntmps145
abbrev JD:=mX 146 f146 9 [3] [.t 4]
instance Xp:Good JD:=gdX func146
def X4:=k0 JD
def Xz:Inn JD X4 9:=inX ntmps146
abbrev MO:=mX 147 f147 17 (lq [4,8,14]) [.t 2]
instance AKI:Good MO:=gdX func147
def cX:=k0 MO
def dQ:Inn MO cX 17:=inX ntmps147
abbrev NS:=mX 148 f148 15 [] [.t 6]
instance AMV:Good NS:=gdX func148
def gL:=k0 NS
def iS:Inn NS gL 15:=inX ntmps148
abbrev Ks:=mX 149 f149 19 [] [.t 2,.t 3]
instance AH0:Good Ks:=gdX func149
def aB:=k0 Ks
def bA:Inn Ks aB 19:=inX ntmps149
abbrev ET:=mX 184 f184 19 [] [.t 4]
instance iJ:Good ET:=gdX func184
def Gq:=C8 ET [] fun c a=>G c [a]
def L5:=lpC 0 (Gq .skip)
def Mp:=(Gq L5).1
def NC:Inn ET Mp 19:=inX ntmps184
abbrev EC:=mX 185 f185 19 [] [.t 4]
instance fG:Good EC:=gdX func185
def Gd:=C8 EC [] fun c a=>G c [a]
def Ke:=lpC 0 (Gd .skip)
def MV:=(Gd Ke).1
def M0:Inn EC MV 19:=inX ntmps185
abbrev T6:=mX 186 f186 17 [] [.t 2]
instance AT3:Good T6:=gdX func186
def uV:=k0 T6
def vX:Inn T6 uV 17:=inX ntmps186
abbrev WB:=mX 187 f187 75 (lq [38,48,64,70,20,74]) [.c 4 (some 3),.t 5]
instance AU9:Good WB:=gdX func187
def AAB:=k0 WB
def AAW:Inn WB AAB 75:=inX ntmps187
abbrev E6:=mX 188 f188 9 [] [.t 4]
instance kX:Good E6:=gdX func188
def Nh:=k0 E6
def Ny:Inn E6 Nh 9:=inX ntmps188
abbrev Hc:=mX 189 f189 8 [300005] [.t 3]
instance AAO:Good Hc:=gdX func189
def VN:=k0 Hc
def Va:Inn Hc VN 8:=inX ntmps189
abbrev T8:=mX 215 f215 9 [] [.t 2]
instance AT5:Good T8:=gdX func215
def uX:=k0 T8
def vZ:Inn T8 uX 9:=inX ntmps215
abbrev Ta:=mX 216 f216 9 [] [.t 2]
instance AT7:Good Ta:=gdX func216
def uZ:=k0 Ta
def wD:Inn Ta uZ 9:=inX ntmps216
abbrev Qv:=mX 217 f217 22 [] [.t 4]
instance AQW:Good Qv:=gdX func217
def YP:=C8 Qv [] fun c a=>G c [a]
def cY:=lpC 0 (YP .skip)
def pH:=(YP cY).1
def rK:Inn Qv pH 22:=inX ntmps217
abbrev Qw:=mX 218 f218 17 [] [.t 2]
instance AQX:Good Qw:=gdX func218
def pI:=k0 Qw
def rL:Inn Qw pI 17:=inX ntmps218
abbrev Ou:=mX 219 f219 33 [] [.t 2]
instance AO5:Good Ou:=gdX func219
def l9:=k0 Ou
def mU:Inn Ou l9 33:=inX ntmps219
abbrev T7:=mX 220 f220 9 [] [.t 2]
instance AT4:Good T7:=gdX func220
def uW:=k0 T7
def vY:Inn T7 uW 9:=inX ntmps220
abbrev T9:=mX 221 f221 21 [] [.t 2]
instance AT6:Good T9:=gdX func221
def Ze:=C8 T9 [] fun c a=>G c [a]
def gP:=lpC 0 (Ze .skip)
def uY:=(Ze gP).1
def wC:Inn T9 uY 21:=inX ntmps221
abbrev WC:=mX 222 f222 32 [] [.t 2]
instance AVA:Good WC:=gdX func222
def AAC:=k0 WC
def dR:Inn WC AAC 32:=inX ntmps222
abbrev FY:=mX 108 f108 19 [] [.t 4]
instance qJ:Good FY:=gdX func108
def Ih:=C8 FY [] fun c a=>G c [a]
def Ni:=lpC 0 (Ih .skip)
def QD:=(Ih Ni).1
def Ie:Inn FY QD 19:=inX ntmps108
end
def dF {ds:List DV} (h:DT Tzp 45 ds):∃l:List M,ds=[.sl (l.map CG)]:=by
 obtain ⟨rows,rfl,_,b⟩:=h.YK Tryz.underlying45
 obtain ⟨l,rfl⟩:=MC (f:=CG) rows (fun r a=>by
  obtain ⟨s,rfl,_⟩:=(b r a).Vf Tryz.underlying9;exact ⟨s,rfl⟩)
 exact ⟨l,rfl⟩
def AYT:∀(n:Nat) (ds:List DV),SizeOf.sizeOf ds<=n->DT Tzp 54 ds->∃t:TE,ds=t.J:=by
 intro n
 induction n with
 |zero=>intro ds h;cases ds<;>simp at h
 |succ n q=>
  intro ds x h;obtain ⟨a,b,rfl,g,o⟩:=(h.Km Tryz.underlying54).DL;obtain ⟨s,v,rfl,i,c⟩:=o.DL;obtain ⟨u,w,rfl,j,d⟩:=c.DL;cases d.Ve;obtain ⟨k,rfl,_⟩:=g.AAZ Tryz.underlying3;obtain ⟨m,rfl,_⟩:=i.Vf Tryz.underlying9;obtain ⟨rows,rfl,_,p⟩:=j.YK Tryz.underlying50
  obtain ⟨l,rfl⟩:=MC (f:=TE.J) rows (fun r e=>q r (by
   have:=List.sizeOf_lt_of_mem e
   grind) (p r e))
  exact ⟨.mk k m l,by rw [TE.A6];rfl⟩
def AYQ:∀(n:Nat) (ds:List DV),SizeOf.sizeOf ds<=n->DT Tzp 60 ds->∃t:Ex,ds=t.J:=by
 intro n
 induction n with
 |zero=>intro ds h;cases ds<;>simp at h
 |succ n w=>
  intro ds S h;obtain ⟨a,b,rfl,G,R⟩:=(h.Km Tryz.underlying60).DL;obtain ⟨Y,b2,rfl,K,i⟩:=R.DL;obtain ⟨Z,b3,rfl,L,j⟩:=i.DL;obtain ⟨a4,b4,rfl,N,k⟩:=j.DL;obtain ⟨a5,b5,rfl,P,p⟩:=k.DL;obtain ⟨a6,b6,rfl,Q,q⟩:=p.DL;cases q.Ve;obtain ⟨o,rfl,_⟩:=G.AAZ Tryz.underlying3;obtain ⟨m,rfl,_⟩:=K.Vf Tryz.underlying9;obtain ⟨u,rfl,_⟩:=L.AAZ Tryz.underlying2;obtain ⟨ns,rfl⟩:=dF N;obtain ⟨rows,rfl,_,T⟩:=P.YK Tryz.underlying57;obtain ⟨d,rfl,_,v⟩:=Q.YK Tryz.underlying58;simp only [AU,A3,Aw,List.cons.sizeOf_spec,List.nil.sizeOf_spec,DV.int.sizeOf_spec,DV.str.sizeOf_spec,DV.sl.sizeOf_spec] at S
  obtain ⟨l,rfl⟩:=MC (f:=Ex.J) rows (fun r g=>w r (by
   have:=List.sizeOf_lt_of_mem g;omega) (T r g))
  obtain ⟨U,rfl⟩:=MC (f:=Al.J) d (fun r g=>by
   have s:=List.sizeOf_lt_of_mem g;obtain ⟨c1,d1,rfl,D,y⟩:=((v r g).Km Tryz.underlying81).DL;obtain ⟨c2,d2,rfl,E,z⟩:=y.DL;obtain ⟨x,d3,rfl,F,B⟩:=z.DL;cases B.Ve;obtain ⟨c,rfl,_⟩:=D.Vf Tryz.underlying9;obtain ⟨vs,rfl⟩:=dF E;simp only [AU,A3,Aw,List.cons.sizeOf_spec,DV.str.sizeOf_spec,DV.sl.sizeOf_spec] at s;obtain ⟨e,rfl⟩:=w x (by omega) F;exact ⟨.mk c vs e,by simp [Al.J,ssD]⟩)
  exact ⟨.mk o m u ns l U,by rw [Ex.A6];rfl⟩
def AYO (ds:List DV) (h:DT Tzp 52 ds):∃c:CE,ds=c.J:=by
 obtain ⟨a,b,rfl,e,i⟩:=(h.Km Tryz.underlying52).DL;obtain ⟨m,n,rfl,g,d⟩:=i.DL;cases d.Ve;obtain ⟨s,rfl,_⟩:=e.Vf Tryz.underlying9;obtain ⟨rows,rfl,_,k⟩:=g.YK Tryz.underlying50;obtain ⟨l,rfl⟩:=MC (f:=TE.J) rows (fun r j=>AYT _ r (AW _) (k r j));exact ⟨⟨s,l⟩,rfl⟩
def AYP (ds:List DV) (h:DT Tzp 48 ds):∃c:DE,ds=c.J:=by
 obtain ⟨a,b,rfl,g,k⟩:=(h.Km Tryz.underlying48).DL;obtain ⟨o,q,rfl,i,d⟩:=k.DL;obtain ⟨p,t,rfl,j,e⟩:=d.DL;cases e.Ve;obtain ⟨s,rfl,_⟩:=g.Vf Tryz.underlying9;obtain ⟨vs,rfl⟩:=dF i;obtain ⟨rows,rfl,_,n⟩:=j.YK Tryz.underlying46;obtain ⟨l,rfl⟩:=MC (f:=CE.J) rows (fun r m=>AYO r (n r m));exact ⟨⟨s,vs,l⟩,rfl⟩
def AYR (ds:List DV) (h:DT Tzp 62 ds):∃c:FE,ds=c.J:=by
 obtain ⟨a,b,rfl,i,l⟩:=(h.Km Tryz.underlying62).DL;obtain ⟨m,n,rfl,j,d⟩:=l.DL;obtain ⟨g,o,rfl,k,f⟩:=d.DL;cases f.Ve;obtain ⟨s,rfl,_⟩:=i.Vf Tryz.underlying9;obtain ⟨vs,rfl⟩:=dF j;obtain ⟨e,rfl⟩:=AYQ _ g (AW _) k;exact ⟨⟨s,vs,e⟩,by simp [FE.J]⟩
def AYS (ds:List DV) (h:DT Tzp 25 ds):∃p:Pg,ds=p.J:=by
 obtain ⟨a,b,rfl,i,k⟩:=(h.Km Tryz.underlying25).DL;obtain ⟨o,q,rfl,j,d⟩:=k.DL;cases d.Ve;obtain ⟨rows,rfl,_,m⟩:=i.YK Tryz.underlying22;obtain ⟨l,rfl⟩:=MC (f:=DE.J) rows (fun r e=>AYP r (m r e));obtain ⟨c,rfl,_,g⟩:=j.YK Tryz.underlying23;obtain ⟨n,rfl⟩:=MC (f:=FE.J) c (fun r e=>AYR r (g r e));exact ⟨⟨l,n⟩,rfl⟩
def AUI {av:List I} (h:oC Tzp [25] av):∃p:Pg,av=[pgA p]:=by
 cases h with
 |cons a h=>
  cases h;obtain ⟨p,rfl⟩:=AYS _ a;exact ⟨p,by rw [kJ Tryz.underlying25];rfl⟩
structure Con where
 name:List UInt8
 args:List Ty
structure Dat where
 name:List UInt8
 vars:Int
 cons:List Con
def Con.J (c:Con):List DV:=[.str c.name,.sl (Ty.Cz c.args)]
def Dat.J (d:Dat):List DV:=[.str d.name,.int .i64 d.vars,.sl (d.cons.map Con.J)]
def dsA (l:List Dat):I:= .d (.sl (l.map Dat.J))
def Yg {l:List Con} {x:Con} (h:l[i]?=some x):(l.map Con.J)[i]?=some [.str x.name,.sl (Ty.Cz x.args)]:=by
 rw [Az,h];rfl
def NX {l:List Dat} {x:Dat} (h:l[i]?=some x):(l.map Dat.J)[i]?=some [.str x.name,.int .i64 x.vars,.sl (x.cons.map Con.J)]:=by
 rw [Az,h];rfl
def bU:∀t:Ty,1<=t.size
 | .mk _ _ _=>by simp [Ty.size]
def TY:∀l:List Ty,l.length<=Ty.AQ l
 |[]=>by grind
 |t::l=>by have:=TY l;have:=bU t;simp only [AT,Ty.AQ];omega
def D3 (l:List Ty) (i:Nat):Ty.AQ (l.take i)<=Ty.AQ l:=by
 grind [CF,Am]
def bW {a:Nat} (h:a<=9000000000000000000):IntKind.i64.wrap (((a+1:Nat):Int) - 1)=(a:Int):=by
 grind [B2]
def W.AVD {cx:Cx} {KK:I->X->Prop} {k:List CI} {F:Fm} {L:Lm} {A H:X} (e:H=A) (h:W cx KK k F L H):W cx KK k F L A:=e ▸ h
def W.ARZ {cx:Cx} {KK:I->X->Prop} {k:List CI} {c:Q01} {F:Fm} {L:Lm} {A:X} {α:Type} (ks:List Nat) (d:α->Fm) (e:Lm) (b:X) (Q03:α->Prop) (g:∀a,Q03 a->W cx KK k (d a) e b)
 (f:(∀(F':Fm) (L':Lm) (a:α),Ee ks F'=d a->GK ks L'=e->Q03 a->W cx KK k F' L' b)->W cx KK (.code c::k) F L A):W cx KK (.code c::k) F L A:=
 f fun F' L' a h j i=>W.Zh ks (by rw [h,j];exact g a i)
def AYG {A:X} {z:List I} {x:Nat×TypeId} (h:A.C i=none/\A.bt i=none):A.le ((A.AI i z).BM i x)/\((A.AI i z).BM i x).C i=some z:=
 ⟨⟨fun j cs b=>by
    grind [X.BM,X.AI],fun _ h=>h,rfl,fun j y b=>by
    have a:j≠i:=fun e=>by grind
    simp [X.BM,X.AI,a,b]⟩,by simp [X.BM,X.AI]⟩
def B6 {A:X} (h:A.le σ1) (c:A.C i=none):A.le (σ1.AI i cs):=
 ⟨fun j ds b=>by
   have a:j≠i:=fun e=>by grind
   rw [AD,if_neg a];exact h.C j ds b,h.tok,h.gt,h.bt⟩
def CZ (a b:List UInt8):jX .eql a b=some (.d (.bool (a==b))):=rfl
def ON (a b:List UInt8):jX .neq a b=some (.d (.bool (!(a==b)))):=rfl
def gtN (n k:Nat):decide ((k:Int) < (n:Int))=!decide (n<=k):=by
 grind
def leN (n k:Nat):decide ((n:Int)<=(k:Int))=decide (n<=k):=decide_eq_decide.2 (by omega)
def ltN (n k:Nat):decide ((n:Int) < (k:Int))=decide (n < k):=decide_eq_decide.2 (by omega)
def APK (a b:Nat):((a:Int) != (b:Int))=(a != b):=by
 grind
def Fb {a b:Int} (h:a≠b):(a==b)=false:=by grind
def DS (data:List Dat) (vars k n:Int) (len:Nat):Bool:=
 if k=1\/k=2\/k=3 then (n==0)&&(len==0)
                               else if k=4 then decide (0<=n)&&decide (n < vars)&&(len==0)
                               else if k=5 then decide (0<=n)&&(match data[n.toNat]? with|some d=>((len:Int)==d.vars)|none=>false)
                               else if k=6 then (n==0)&&decide (2<=len)&&decide (len<=6)
                               else if k=7\/k=8 then (n==0)&&(len==1)
                               else if k=9 then (n==0)&&decide (1<=len)&&decide (len<=7)
                               else false
mutual
def C1 (data:List Dat) (vars:Int):Ty->Bool
 | .mk k n l=>DS data vars k n l.length&&Bt data vars l
def Bt (data:List Dat) (vars:Int):List Ty->Bool
 |[]=>true
 |t::l=>C1 data vars t&&Bt data vars l
end
variable {dl dt:List Dat}
def fC (data:List Dat) (vars:Int) (t:Ty):∀l:List Ty,Bt data vars (l++[t])=(Bt data vars l&&C1 data vars t)
 |[]=>by simp [Bt]
 |u::l=>by simp only [AU,Bt,fC data vars t l,Bool.and_assoc]
def lJ (data:List Dat) (vars:Int):∀l m:List Ty,Bt data vars (l++m)=(Bt data vars l&&Bt data vars m)
 |[],m=>by simp [Bt]
 |u::l,m=>by simp only [AU,Bt,lJ data vars l m,Bool.and_assoc]
theorem lK {data:List Dat} {vars:Int} {l:List Ty} {t:Ty} (h:l[i]?=some t) (a:C1 data vars t=false):Bt data vars l=false:=by
 rw [<- Am i l,lJ,Cs h,Bt,a];simp
theorem lL {data:List Dat} {vars:Int} {l:List Ty} {t:Ty} (a:Bt data vars l=true) (b:t∈l):C1 data vars t=true:=by
 grind [Hn,C1,lK]
mutual
def Ty.subst (args:List Ty):Ty->Ty
 | .mk k n l=>if k=4/\0<=n/\n < args.length then args.getD n.toNat (.mk 0 0 []) else .mk k n (Ty.Df args l)
def Ty.Df (args:List Ty):List Ty->List Ty
 |[]=>[]
 |t::l=>Ty.subst args t::Ty.Df args l
end
mutual
def jY:∀t:Ty,t.subst []=t
 | .mk k n l=>by
  simp only [Ty.subst];rw [if_neg (by intro h;have:=h.2.2;simp at this;omega),tK l]
def tK:∀l:List Ty,Ty.Df [] l=l
 |[]=>rfl
 |t::l=>by simp [Ty.Df,jY t,tK l]
end
def FV (args:List Ty):∀l:List Ty,Ty.Df args l=l.map (Ty.subst args)
 |[]=>rfl
 |t::l=>by simp [Ty.Df,FV args l]
theorem Vw (args l:List Ty):(Ty.Df args l).length=l.length:=by rw [FV,AA]
def AI9 {args:List Ty} {Q05:Nat} (f:1<=Q05) (d:∀t∈args,t.size<=Q05):(∀t:Ty,(t.subst args).size<=t.size * Q05)/\∀l:List Ty,Ty.AQ (Ty.Df args l)<=Ty.AQ l * Q05:=by
 have key:∀n:Nat,(∀t:Ty,t.size<=n->(t.subst args).size<=t.size * Q05)/\∀l:List Ty,Ty.AQ l<=n->Ty.AQ (Ty.Df args l)<=Ty.AQ l * Q05:=by
  intro n
  induction n with
  |zero=>
   refine ⟨fun t h=>?_,fun l h=>?_⟩
   . obtain ⟨k,m,l⟩:=t;simp only [Ty.size] at h;omega
   . cases l with
     |nil=>simp [Ty.Df,Ty.AQ]
     |cons t l=>obtain ⟨k,m,i⟩:=t;simp only [Ty.AQ,Ty.size] at h;omega
  |succ n e=>
   have c:∀t:Ty,t.size<=n+1->(t.subst args).size<=t.size * Q05:=fun t h=>by
    obtain ⟨k,m,l⟩:=t;simp only [Ty.subst];split
    . rename_i g;have a:m.toNat < args.length:=by omega
      have:=d args[m.toNat] (Fa a);simp only [BG,An a,BH,Ty.size]
      calc args[m.toNat].size<=Q05:=this
       _=1 * Q05:=(Nat.one_mul Q05).symm
       _<=(1+Ty.AQ l) * Q05:=CW Q05 (by omega)
    . simp only [Ty.size] at h ⊢;have:=e.2 l (by omega);rw [Cj];omega
   refine ⟨c,fun l=>?_⟩
   induction l with
   |nil=>intro _;simp [Ty.Df,Ty.AQ]
   |cons t l b=>
    intro h;simp only [Ty.AQ,Ty.Df] at h ⊢;have:=c t (by omega);have:=b (by omega);rw [Cj];omega
 exact ⟨fun t=>(key t.size).1 t (AW _),fun l=>(key (Ty.AQ l)).2 l (AW _)⟩
def AFV {args:List Ty} {v w:Int} (i:v<=args.length) (f:Bt dt w args=true):∀n:Nat,(∀t:Ty,t.size<=n->C1 dt v t=true->C1 dt w (t.subst args)=true)/\∀l:List Ty,Ty.AQ l<=n->Bt dt v l=true->Bt dt w (Ty.Df args l)=true:=by
 intro n
 induction n with
 |zero=>
  refine ⟨fun t h=>?_,fun l h _=>?_⟩
  . obtain ⟨k,m,l⟩:=t;simp only [Ty.size] at h;omega
  . cases l with
    |nil=>rfl
    |cons t l=>obtain ⟨k,m,j⟩:=t;grind [Ty.AQ,Ty.size]
 |succ n d=>
  have b:∀t:Ty,t.size<=n+1->C1 dt v t=true->C1 dt w (t.subst args)=true:=fun t h a=>by
   obtain ⟨k,m,l⟩:=t;simp only [C1,AM] at a;simp only [Ty.subst];split
   . grind [An,lL,Fa]
   . rename_i g;simp only [Ty.size] at h;rw [C1,Vw,d.2 l (by omega) a.2,Cu];have c:=a.1;unfold DS at c ⊢
     grind
  refine ⟨b,fun l=>?_⟩
  induction l with
  |nil=>intro _ _;rfl
  |cons t l e=>
   intro h a;simp only [Ty.AQ,Ty.Df,Bt,AM] at h a ⊢
   grind
def AVP (n:Int):Bool:=decide (97<=n)&&decide (n<=122)
def ATQ (n:Int):Bool:=decide (65<=n)&&decide (n<=90)
def p8 (n:Int):Bool:=decide (48<=n)&&decide (n<=57)
def kD (n:Int):Bool:=AVP n||ATQ n||p8 n||(n==95)
def AUK (n:Int):Bool:=(n==9)||(n==10)||(n==13)||(n==32)
def Y8 (n:Int) (A:X):AS Tzp 215 [.d (.int .u8 n)] A (fun v H=>v= .d (.bool (AVP n))/\H=A):=by
 refine vZ.go ?_;(repeat' (first|refine wP ?_|(refine Dq rfl ?_ ?_<;>intro h<;>try (cases h;done))|fail)<;>try simp only [go_sem])
 all_goals (simp_all [AVP];try omega)
def Y9 (n:Int) (A:X):AS Tzp 216 [.d (.int .u8 n)] A (fun v H=>v= .d (.bool (ATQ n))/\H=A):=by
 refine wD.go ?_;(repeat' (first|refine wP ?_|(refine Dq rfl ?_ ?_<;>intro h<;>try (cases h;done))|fail)<;>try simp only [go_sem])
 all_goals (simp_all [ATQ];try omega)
def Qk (n:Int) (A:X):AS Tzp 220 [.d (.int .u8 n)] A (fun v H=>v= .d (.bool (p8 n))/\H=A):=by
 refine vY.go ?_;(repeat' (first|refine wP ?_|(refine Dq rfl ?_ ?_<;>intro h<;>try (cases h;done))|fail)<;>try simp only [go_sem])
 all_goals (simp_all [p8];try omega)
def MH (n:Int) (A:X):AS Tzp 186 [.d (.int .u8 n)] A (fun v H=>v= .d (.bool (AUK n))/\H=A):=by
 refine vX.go ?_;(repeat' (first|refine wP ?_|(refine Dq rfl ?_ ?_<;>intro h<;>try (cases h;done))|fail)<;>try simp only [go_sem])
 all_goals simp_all [AUK]
def nI (n:Int) (A:X):AS Tzp 218 [.d (.int .u8 n)] A (fun v H=>v= .d (.bool (kD n))/\H=A):=by
 refine rL.go ?_;(repeat' first|((first|refine wP ?_|refine AN.det (Y8 _ _) ?_|refine AN.det (Y9 _ _) ?_|refine AN.det (Qk _ _) ?_|(refine Dq rfl ?_ ?_<;>intro h<;>try (cases h;done))|fail)<;>try simp only [go_sem])|(constructor<;>intro h<;>first|(cases h;done)|try simp only [h])|fail)
 all_goals simp_all [kD]
def AEV:List M:=[[97,114,114,97,121],[98,111,111,108],[99,97,116,99,104],[100,97,116,97],[101,108,115,101],[101,110,100],[102,97,108,115,101],[102,110],[102,117,110],[103,101,116],[105,102],[105,110],[105,110,116],[108,101,110],[108,101,116],[109,97,116,99,104],[110,101,119],[114,97,105,115,101],[114,101,97,100],[114,101,102],[115,101,116],[116,104,101,110],[116,105,99,107],[116,114,117,101],[116,114,121],[117,110,105,116],[119,105,116,104],[119,114,105,116,101]]
def AY7 (s:M):Bool:=AEV.any (s==·)
def kA (s:M) (A:X):AS Tzp 219 [.d (.str s)] A (fun v H=>v= .d (.bool (AY7 s))/\H=A):=by
 refine mU.go ?_;(repeat' first|((first|refine wP ?_|(refine Dq rfl ?_ ?_<;>intro h<;>try (cases h;done))|fail)<;>try simp only [go_sem])|(constructor<;>intro h<;>first|(cases h;done)|try simp only [h])|fail)
 all_goals simp only [AY7,AEV,List.any_cons,List.any_nil,XH,Te,Td, *]
def tU:M->Int->Option Int
 |[],v=>some v
 |b::r,v=>if v * 10+IntKind.u8.wrap ((b.toNat:Int) - 48)>1000000 then none else tU r (v * 10+IntKind.u8.wrap ((b.toNat:Int) - 48))
def Ab6 (a:Int):0<=IntKind.u8.wrap a/\IntKind.u8.wrap a<=255:=by
 have b:IntKind.u8.wrap a=a % 256:=by rfl
 rw [b];omega
def AZY:M:=[40,41,44,61,124,43,45,42,47,37,60,59,95]
def AWL (b:UInt8):Nat:=if AZY.any (b==·) then 1 else 0
def Ab1 (b c:UInt8):Bool:=([b,c]==[45,62])||([b,c]==[60,61])||([b,c]==[61,61])
def zF:M->Nat
 |[]=>0
 |[b]=>AWL b
 |b::c::_=>if Ab1 b c then 2 else AWL b
def AbJ:decide ((2:Int)<=((1:Nat):Int))=false:=rfl
def AbK (n:Nat):decide ((2:Int)<=((n+1+1:Nat):Int))=true:=by simp;omega
def Aa5 (b c:UInt8):([b]==[c])=(b==c):=by
 grind
def w9 (s:M) (A:X) (a:s≠[]):AS Tzp 222 [.d (.str s)] A (fun v H=>v= .d (.str (s.take (zF s)))/\H=A):=by
 match s,a with
 |[b],_=>
  refine dR.go ?_;(repeat' first|(refine sP ?_<;>try simp only [AbJ,AXZ,Aa5,go_sem])|(constructor<;>intro h<;>first|(cases h;done)|try simp only [h])|fail)
  all_goals simp only [zF,AWL,AZY,List.any_cons,List.any_nil,XH,Te,Td,reduceIte,CK,CD,As, *]
 |b::c::r,_=>
  refine dR.go ?_;(repeat' first|(refine sP ?_<;>try simp only [AbK,AXZ,Ab3,Aa5,go_sem])|(constructor<;>intro h<;>first|(cases h;done)|try simp only [h])|fail)
  all_goals simp only [zF,Ab1,AWL,AZY,List.any_cons,List.any_nil,XH,Te,Td,reduceIte,CK,CD,As, *]
def tO (s:M) (A:X) (n:s.length<=1000000000):AS Tzp 221 [.d (.str s)] A (fun v H=>v= .d (.bool (tU s 0).isSome)/\H=A):=by
 refine wC.go ?_;rw [Dx]
 (repeat (first
   |refine W.seq ?_
   |refine W.skip ?_
   |refine W.block ?_
   |refine W.C ?_
   |refine W.scope ?_
   |refine W.scp ?_
   |(refine W.exit rfl ?_)
   |(refine rgQ mxQ ?_;simp only [go_sem])
   |(refine cdQ ?_;simp only [go_sem])))
 refine lpK (fun (y:Nat×Int)=>[(7,A1 y.1),(3,A1 y.2)]) (fun _=>A) (fun y=>y.1<=s.length/\0<=y.2/\y.2<=1000000/\tU s 0=tU (s.drop y.1) y.2) (fun y=>s.length - y.1) ?_ (0,0) ⟨by simp,by simp,by simp,rfl⟩;rintro ⟨i,v⟩ ⟨l,j,k,b⟩ m;simp only at l j k b;by_cases a:i < s.length
 . obtain ⟨x,d⟩:=Ak a;rw [Cs d,tU] at b;have o:=Ab6 ((x.toNat:Int) - 48);have e:IntKind.i64.wrap (v * 10)=v * 10:=B2 (by omega) (by omega);have f:IntKind.i64.wrap (IntKind.u8.wrap ((x.toNat:Int) - 48))=IntKind.u8.wrap ((x.toNat:Int) - 48):=B2 (by omega) (by omega);have g:IntKind.i64.wrap (v * 10+IntKind.u8.wrap ((x.toNat:Int) - 48))=v * 10+IntKind.u8.wrap ((x.toNat:Int) - 48):=B2 (by omega) (by omega);(repeat' first|(refine wP ?_<;>try simp only [BI a,Po d,e,f,g,wS i,go_sem])|(constructor<;>intro h<;>first|(cases h;done)|try simp only [h])|fail)
   . grind
   . have:¬v * 10+IntKind.u8.wrap ((x.toNat:Int) - 48)>1000000:=by simpa using h
     rw [if_neg this] at b;exact m (i+1,_) ⟨a,by simp only;omega,by simp only;omega,b⟩ (by simp only;omega)
 . have c:i=s.length:=by omega
   (repeat' refine wP ?_<;>simp only [B5 a,go_sem]);rw [b,c,List.drop_length,tU];rfl
def VZ (c:Int->Bool) (b:UInt8):Bool:=c b.toNat
def MG {c:UInt8->Bool} {s:M} (h:∀j b,j < i->s[j]?=some b->c b=true) (e:i<=s.length) (d:∀b,s[i]?=some b->c b=false):s.takeWhile c=s.take i:=by
 induction i generalizing s with
 |zero=>
  cases s with
  |nil=>rfl
  |cons b r=>simp [d b rfl]
 |succ i f=>
  cases s with
  |nil=>simp at e
  |cons b r=>
   have a:c b=true:=h 0 b (by omega) rfl;rw [List.takeWhile_cons,a,if_pos rfl,CK,f (fun j b g a=>h (j+1) b (by omega) a) (by simpa using e) (fun b a=>d b a)]
def W3 (a:CP Tzp fid=true) (c:Int->Bool) (m:∀n A,AS Tzp fid [.d (.int .u8 n)] A (fun v H=>v= .d (.bool (c n))/\H=A)) (s:M) (A:X) (q:s.length<=1000000000):
 AS Tzp 217 [.d (.str s),.fn fid [] []] A (fun v H=>v= .d (.str (s.takeWhile (VZ c)))/\H=A):=by
 refine rK.go ?_;rw [B4]
 (repeat (first
   |refine W.seq ?_
   |refine W.skip ?_
   |refine W.block ?_
   |refine W.C ?_
   |refine W.scope ?_
   |refine W.scp ?_
   |(refine W.exit rfl ?_)
   |(refine rgQ mxQ ?_;simp only [go_sem])
   |(refine cdQ ?_;simp only [go_sem])))
 refine lpK (fun (i:Nat)=>[(5,A1 i)]) (fun _=>A) (fun i=>i<=s.length/\∀j b,j < i->s[j]?=some b->VZ c b=true) (fun i=>s.length - i) ?_ 0 ⟨by simp,by simp⟩;rintro i ⟨e,g⟩ o;by_cases d:i < s.length
 . obtain ⟨x,k⟩:=Ak d;(repeat' first|((first|refine wP ?_|(refine ⟨fid,[],[],rfl,a,AN.det (m _ _) ?_⟩)|fail)<;>try simp only [BI d,Po k,ABW e,wS i,go_sem])|(constructor<;>intro h<;>first|(cases h;done)|try simp only [h])|fail)
   . refine o (i+1) ⟨d,fun j b p a=>?_⟩ (by omega);rcases Ff j i with l|l
     . exact g j b l a
     . have:j=i:=by omega
       subst this;rw [k] at a;cases a;exact h
   . rw [MG g e (fun b a=>by rw [k] at a;cases a;exact h)]
 . have f:i=s.length:=by omega
   (repeat' refine wP ?_<;>simp only [B5 d,ABW e,go_sem]);rw [MG g e (fun b a=>by rw [f] at a;simp at a)]
def Y0:M->Except Int (Int×M)
 |[]=>.error 2
 |b::r=>
  if AVP b.toNat||ATQ b.toNat then
   if decide (((b::r).takeWhile (VZ kD)).length>24) then .error 9
                                  else if ATQ b.toNat then .ok (2,(b::r).takeWhile (VZ kD))
                                  else if AY7 ((b::r).takeWhile (VZ kD)) then .ok (4,(b::r).takeWhile (VZ kD))
                                  else .ok (1,(b::r).takeWhile (VZ kD))
                                  else if p8 b.toNat then
   if b==48&&decide (((b::r).takeWhile (VZ p8)).length>1) then .error 2
                                         else if (tU ((b::r).takeWhile (VZ p8)) 0).isSome then .ok (3,(b::r).takeWhile (VZ p8))
                                         else .error 9
                                         else if (b::r).take (zF (b::r))==[] then .error 2
                                         else .ok (5,(b::r).take (zF (b::r)))
def ATI (k:Int) (t:M) (p:Int):I:= .agg [.d (.int .i64 k),.d (.str t),.d (.int .i64 p)]
def AK9 (p:Int):Except Int (Int×M)->I
 | .error e=>.tup [ATI 0 [] 0,.d (.int .i64 e)]
 | .ok (k,t)=>.tup [ATI k t p,.d (.int .i64 0)]
def N5 {α:Type} (p:α->Bool) (l:List α):(l.takeWhile p).length<=l.length:=(List.takeWhile_prefix p).length_le
def Ab7 (b:UInt8):((b.toNat:Int)==48)=(b==48):=AZ2 b 48
def Ac4 (n:Nat):decide ((24:Int) < (n:Int))=decide (n>24):=decide_eq_decide.2 (by omega)
def gt1 (n:Nat):decide ((1:Int) < (n:Int))=decide (n>1):=decide_eq_decide.2 (by omega)
def AM0:CP Tzp 218=true:=by kernel_rfl
def AQ1:CP Tzp 220=true:=by kernel_rfl
def Zm (src:M) (i:Nat) (A:X) (l:src.length<=1000000000) (k:i < src.length):
 AS Tzp 187 [.d (.str src),.d (.int .i64 i)] A (fun v H=>v=AK9 i (Y0 (src.drop i))/\H=A):=by
 obtain ⟨b,j⟩:=Ak k;have e:=Cs j;rw [e];have a:(src.drop i).length<=1000000000:=by simp;omega
 rw [e] at a;have f:=N5 (VZ kD) (b::src.drop (i+1));have g:=N5 (VZ p8) (b::src.drop (i+1));have d:nG (Gb src) (some (A1 i)) none=some (Gb (b::src.drop (i+1))):=by rw [AZZ (by omega),e]
 refine AAW.go ?_;rw [B4];generalize src.drop (i+1)=r at *;(repeat' first|((first|refine wP ?_|refine AN.det (Y8 _ _) ?_|refine AN.det (Y9 _ _) ?_|refine AN.det (Qk _ _) ?_|refine AN.det (kA _ _) ?_|refine AN.det (tO _ _ (by omega)) ?_|refine AN.det (w9 _ _ (by simp)) ?_|refine AN.det (W3 (c:=kD) AM0 nI _ _ a) ?_|refine AN.det (W3 (c:=p8) AQ1 Qk _ _ a) ?_|(refine Dq rfl ?_ ?_<;>intro h<;>try (cases h;done))|fail)<;>try simp only [Po j,d,Ab7,Ac4,gt1,go_sem])|(constructor<;>intro h<;>first|(cases h;done)|try simp only [h])|fail)
 all_goals (clear f g d e a;first|(simp only [Y0,AK9,ATI, *,Td,Te,XH,Cu,Hg,Bool.false_and,As,reduceIte];done)|simp_all [Y0])
structure Tok where
 kind:Int
 text:M
 pos:Nat
def Tok.J (t:Tok):List DV:=[.int .i64 t.kind,.str t.text,.int .i64 t.pos]
def cmt (s:M):Nat:=(s.takeWhile (fun c=>!(c==10))).length
def lF:Nat->M->Nat->List Tok->List Tok×Nat×Int
 |0,_,_,_=>([],0,0)
 |n+1,rest,i,acc=>match rest with
  |[]=>(acc++[⟨6,[],i⟩],0,0)
  |b::r=>
   if AUK b.toNat then lF n r (i+1) acc
                                else if b==35 then lF n ((b::r).drop (cmt (b::r))) (i+cmt (b::r)) acc
                                else match Y0 (b::r) with
    | .error e=>([],i,e)
    | .ok (k,t)=>lF n ((b::r).drop t.length) (i+t.length) (acc++[⟨k,t,i⟩])
def Vv (s:M):List Tok×Nat×Int:=if s.length>16384 then ([],0,9) else lF (s.length+1) s 0 []
def tG (r:List Tok×Nat×Int):I:= .tup [.d (.sl (r.1.map Tok.J)),.d (.int .i64 r.2.1),.d (.int .i64 r.2.2)]
def AJD (b:UInt8):((b.toNat:Int)==35)=(b==35):=AZ2 b 35
def ATM (b:UInt8):((b.toNat:Int)==10)=(b==10):=AZ2 b 10
def AbM (n:Nat):decide ((16384:Int) < (n:Int))=decide (n>16384):=decide_eq_decide.2 (by omega)
def ASZ {s:M} {k:Int} {t:M} (h:Y0 s= .ok (k,t)):1<=t.length/\t.length<=s.length:=by
 match s with
 |[]=>simp [Y0] at h
 |b::r=>
  have f:=N5 (VZ kD) (b::r);have g:=N5 (VZ p8) (b::r);simp only [Y0] at h;split at h
  . rename_i e
    have j:VZ kD b=true:=by
     simp only [VZ,kD];rw [e];rfl
    have c:1<=((b::r).takeWhile (VZ kD)).length:=by simp [j]
    split at h
    . cases h
    . split at h
      . cases h;exact ⟨c,f⟩
      . split at h<;>(cases h;exact ⟨c,f⟩)
  . split at h
    . rename_i d;have c:1<=((b::r).takeWhile (VZ p8)).length:=by simp [VZ,d]
      split at h
      . cases h
      . split at h<;>cases h;exact ⟨c,g⟩
    . split at h
      . cases h
      . rename_i a;cases h;refine ⟨?_,List.length_take_le' _ _⟩;cases i:(b::r).take (zF (b::r)) with
        |nil=>rw [i] at a;simp at a
        |cons=>simp
def ASY {s:M} {e:Int} (h:Y0 s= .error e):e=2\/e=9:=by
 match s with
 |[]=>simp only [Y0,Except.error.injEq] at h;omega
 |b::r=>
  simp only [Y0] at h
  repeat' split at h
  all_goals first|(cases h;simp;done)|cases h
def tN (s:M) (A:X):AS Tzp 141 [.d (.str s)] A (fun v H=>v=tG (Vv s)/\H=A):=by
 refine vW.go ?_;(repeat' first|(refine wP ?_<;>try simp only [AbM,go_sem])|(constructor<;>intro h<;>first|(cases h;done)|try simp only [h])|fail)
 . have:s.length>16384:=by simpa using h
   simp [tG,Vv,this]
 . have hl:¬s.length>16384:=by simpa using h
   refine lpK (fun (y:Nat×I×X)=>[(6,A1 y.1),(5,y.2.1)]) (fun y=>y.2.2) (fun y=>y.1<=s.length/\∃g n,Bn A 269 3 (g.map Tok.J) y.2.1 y.2.2/\g.length<=y.1/\s.length - y.1 < n/\Vv s=lF n (s.drop y.1) y.1 g) (fun y=>s.length - y.1) ?_ (0,.Ac,A) ⟨by simp,[],s.length+1,Bn.nil _ _ _,by simp,by simp,by simp [Vv,hl]⟩;rintro ⟨i,v,σ1⟩ ⟨hi,g,n,w,K,hn,d⟩ U;simp only at hi w K hn d;obtain ⟨n,rfl⟩:∃m,n=m+1:=⟨n - 1,by omega⟩;by_cases a:i < s.length
   . obtain ⟨x,p⟩:=Ak a;rw [Cs p,lF] at d;have S:=wS i;have Q:(x::s.drop (i+1)).length=s.length - i:=by simp;omega
     cases f:AUK x.toNat with
     |true=>
      rw [f] at d;(repeat' (first|refine wP ?_|refine AN.det (MH _ _) ?_|fail)<;>try simp only [BI a,Po p,f,S,go_sem]);exact U (i+1,v,σ1) ⟨a,g,n,w,by simp only;omega,by simp only;omega,d⟩ (by simp only;omega)
     |false=>
      rw [f,if_neg (by simp)] at d;cases B:(x==35) with
      |true=>
       rw [B,if_pos rfl] at d;(repeat' (first|refine wP ?_|refine AN.det (MH _ _) ?_|fail)<;>try simp only [BI a,Po p,AJD,f,B,go_sem]);refine W.Zh [0,5,6] ?_;simp only [go_sem];refine lpK (fun (j:Nat)=>[(6,A1 j)]) (fun _=>σ1) (fun j=>i<=j/\j<=s.length/\∀q b,q < j - i->(s.drop i)[q]?=some b->(!(b==10))=true) (fun j=>s.length - j) ?_ i ⟨AW i,hi,by intro q b hq;omega⟩;rintro j ⟨h0,hj,r⟩ Y;have T:=wS j;by_cases u:j < s.length
       . obtain ⟨z,F⟩:=Ak u;have G:(s.drop i)[j - i]?=some z:=by rw [List.getElem?_drop,show i+(j - i)=j by omega];exact F
         cases l:(z==10) with
         |true=>
          (repeat' refine wP ?_<;>simp only [BI u,Po F,ATM,l,go_sem])
          have N:cmt (x::s.drop (i+1))=j - i:=by
           rw [<- Cs p,cmt,MG r (by simp;omega) (fun b f=>by rw [G] at f;cases f;simp [l])];simp;omega
          have h1:j≠i:=fun e=>by
           subst e;rw [p] at F;cases F;simp only [beq_iff_eq] at B l;rw [B] at l;exact absurd l (by decide)
          rw [N,<- Cs p,Fx,show i+(j - i)=j by omega] at d;refine W.Zh [0,5,6] ?_;simp only [go_sem];exact U (j,v,σ1) ⟨hj,g,n,w,by simp only;omega,by simp only;omega,d⟩ (by simp only;omega)
         |false=>
          (repeat' refine wP ?_<;>simp only [BI u,Po F,ATM,l,T,go_sem]);refine Y (j+1) ⟨by omega,u,fun q b hq f=>?_⟩ (by omega);rcases Ff q (j - i) with h2|h2
          . exact r q b h2 f
          . have:q=j - i:=by omega
            subst this;rw [G] at f;cases f;simp [l]
       . have E:j=s.length:=by omega
         have N:cmt (x::s.drop (i+1))=j - i:=by
          rw [<- Cs p,cmt,MG r (by simp;omega) (fun b f=>by rw [List.getElem?_drop,show i+(j - i)=j by omega,E] at f;simp at f)];simp;omega
         rw [N,<- Cs p,Fx,show i+(j - i)=j by omega,E,List.drop_length] at d;obtain ⟨n,rfl⟩:∃m,n=m+1:=⟨n - 1,by omega⟩;rw [lF] at d;(repeat' (first|refine wQ ?_|(refine DH.own w rfl (by simp) (by simp;omega) (by decide) (fun Z σ2 c D=>?_))|(refine W.By Sr c.le ?_)|refine wP ?_|fail)<;>try simp only [B5 u,go_sem]);simp only [c.BS,c.plain,go_sem];rw [d];simp [tG,Tok.J]
      |false=>
       rw [B,if_neg (by simp)] at d;rcases o:Y0 (x::s.drop (i+1)) with e|⟨k,t⟩
       . rw [o] at d;have he:=ASY o;have P:(e != 0)=true:=by simp;omega
         (repeat' (first|refine wQ ?_|(refine W.By Sr w.le ?_)|refine wP ?_|refine AN.det (MH _ _) ?_|refine AN.det (Zm _ _ _ (by omega) a) ?_|fail)<;>try simp only [BI a,Po p,AJD,f,B,Cs p,o,AK9,ATI,P,w.Cp,As,go_sem]);rw [d];rfl
       . rw [o] at d;have R:=ASZ o;rw [Q] at R;(repeat' first|((first|refine sP ?_|(refine DH.own w rfl (by simp) (by simp;omega) (by decide) (fun Z σ2 c D=>?_))|refine AN.det (MH _ _) ?_|refine AN.det (Zm _ _ _ (by omega) a) ?_|fail)<;>try simp only [BI a,Po p,AJD,f,B,Cs p,o,AK9,ATI,w.Cp,As,wrap_add (show i+t.length<=9000000000000000000 by omega),go_sem])|(constructor<;>intro h<;>first|(cases h;done)|try simp only [h])|fail);refine U (i+t.length,Z,σ2) ⟨?_,g++[⟨k,t,i⟩],n,?_,?_,?_,?_⟩ ?_
         . simp only;omega
         . simpa [Tok.J] using c
         . simp only [A0,Ci];omega
         . simp only;omega
         . rw [d];simp only;rw [<- Cs p,Fx]
         . simp only;omega
   . have L:i=s.length:=by omega
     rw [L,List.drop_length,lF] at d;(repeat' (first|refine wQ ?_|(refine DH.own w rfl (by simp) (by simp;omega) (by decide) (fun Z σ2 c D=>?_))|(refine W.By Sr c.le ?_)|refine wP ?_|fail)<;>try simp only [B5 a,go_sem]);simp only [c.BS,c.plain,go_sem];rw [d];simp [tG,Tok.J]
def nY (k:Int) (s:M):Bool:=
 (Vv s).2.2==0&&((Vv s).1.length==2&&(match (Vv s).1 with|[]=>false|a::_=>a.kind==k&&a.text==s))
def PM (s:M):Bool:=nY 1 s
def upperB (s:M):Bool:=nY 2 s
def kK (s:M):Bool:=s==[]||PM s
def ABS (k:Int) (n:M) (len:Nat):Bool:=
 if k=1\/k=2\/k=3 then n==[]&&decide (len=0)
                                     else if k=4 then PM n&&decide (len=0)
                                     else if k=5 then upperB n&&decide (len<=6)
                                     else if k=6 then n==[]&&decide (2<=len)&&decide (len<=6)
                                     else if k=7\/k=8 then n==[]&&decide (len=1)
                                     else if k=9 then n==[]&&decide (1<=len)&&decide (len<=7)
                                     else false
def I2:Nat->TE->Bool
 |0,_=>false
 |d+1,.mk k n l=>ABS k n l.length&&l.all (I2 d)
def ADE (c:CE):Bool:=upperB c.name&&decide (c.args.length<=6)&&c.args.all (I2 40)
def Xe (d:DE):Bool:=upperB d.name&&decide (d.vars.length<=6)&&d.vars.all PM&&decide (1<=d.cons.length)&&decide (d.cons.length<=8)&&d.cons.all ADE
def AGX:Al->Bool
 | .mk c vs _=>upperB c&&decide (vs.length<=6)&&vs.all kK
def nmB (o:Int) (n:M):Bool:=
 if o=4 then PM n else if o=6 then upperB n else if o=7\/o=17 then kK n else n==[]
def nuB (o:Int) (u:Int):Bool:=
 if o=2 then decide (0<=u)&&decide (u<=1) else if o=3 then decide (-1000000<=u)&&decide (u<=1000000) else if o=13 then decide (1<=u)&&decide (u<=8)
                                                                                                                                          else if o=14 then decide (1<=u)&&decide (u<=7) else if o=15 then decide (-1000<=u)&&decide (u<=1000) else u==0
def nsB (o:Int) (ns:List M):Bool:=
 if o=8 then decide (2<=ns.length)&&decide (ns.length<=6)&&ns.all kK else if o=11 then decide (ns.length<=6)&&ns.all PM else decide (ns.length=0)
def asB (o:Int) (al:List Al):Bool:=
 if o=10 then decide (1<=al.length)&&al.all AGX else decide (al.length=0)
def eS (u:Int):Nat:=if u=1\/u=2\/u=7 then 2 else if u=3 then 3 else if u=4\/u=5\/u=6 then 1 else 0
def nkB (o u:Int) (nk:Nat):Bool:=
 if o=1\/o=2\/o=3\/o=4\/o=15 then decide (nk=0)
                                       else if o=5 then decide (2<=nk)&&decide (nk<=6)
                                       else if o=6 then decide (nk<=6)
                                       else if o=7\/o=8\/o=13\/o=17 then decide (nk=2)
                                       else if o=9 then decide (nk=3)
                                       else if o=10\/o=11\/o=16 then decide (nk=1)
                                       else if o=12 then decide (1<=nk)&&decide (nk<=7)
                                       else if o=14 then decide (nk=eS u)
                                       else false
def J3 (o:Int) (n:M) (u:Int) (ns:List M) (nk:Nat) (al:List Al):Bool:=
 nmB o n&&nuB o u&&nsB o ns&&asB o al&&nkB o u nk
def vEx:Nat->Nat->Ex->Option Nat
 |0,_,_=>none
 |d+1,q,.mk o n u ns ks al=>
  match q with
  |0=>none
  |q+1=>if J3 o n u ns ks.length al then (ks.foldlM (fun q e=>vEx d q e) q).bind fun q=>al.foldlM (fun q a=>match a with| .mk _ _ b=>vEx d q b) q else none
def AXU (f:FE):Bool:=PM f.name&&decide (f.params.length<=6)&&f.params.all PM
def xB (q:Nat) (f:FE):Option Nat:=if AXU f then vEx 40 q f.body else none
def Iv (p:Pg):Bool:=decide (p.data.length<=12)&&decide (p.Ca.length<=24)&&p.data.all Xe&&(p.Ca.foldlM xB 600).isSome
def Dz:List M->M->Option Nat
 |[],_=>none
 |x::l,s=>if x==s then some 0 else (Dz l s).map (·+1)
def Hq (o:Option Nat):Int:=match o with|some i=>i|none=>-1
def Dl:List M->Bool
 |[]=>false
 |x::l=>(!(x==[])&&l.contains x)||Dl l
def MB:List TE->List M->Bool
 |[],[]=>true
 | .mk k n _::l,v::vs=>(k==4&&n==v)&&MB l vs
 |_,_=>false
mutual
def Rn (ds:List (M×Nat)) (vars:List M):Bool->TE->Except Int Ty
 |whole,.mk k n l=>
  if k=4 then
   match Dz vars n with
   |none=>.error 3
   |some i=>(Er ds vars l).map (Ty.mk k i)
                                 else if k=5 then
   match Dz (ds.map (·.1)) n with
   |none=>.error 3
   |some i=>
    if l.length≠(ds.getD i ([],0)).2 then .error 5
                             else if i+1=ds.length/\¬(whole=true/\MB l vars=true) then .error 7
                             else (Er ds vars l).map (Ty.mk k i)
                             else (Er ds vars l).map (Ty.mk k 0)
def Er (ds:List (M×Nat)) (vars:List M):List TE->Except Int (List Ty)
 |[]=>.ok []
 |t::l=>match Rn ds vars false t with
  | .error e=>.error e
  | .ok u=>(Er ds vars l).map (u::·)
end
def Ga (ds:List (M×Nat)) (vars:List M):List TE->Except Int (List Ty)
 |[]=>.ok []
 |t::l=>match Rn ds vars true t with
  | .error e=>.error e
  | .ok u=>(Ga ds vars l).map (u::·)
def HS (ds:List (M×Nat)) (vars:List M):List M->List CE->Except Int (List Con)
 |_,[]=>.ok []
 |used,c::l=>
  if used.contains c.name then .error 4
   else match Ga ds vars c.args with
  | .error e=>.error e
  | .ok ts=>(HS ds vars (used++[c.name]) l).map (⟨c.name,ts⟩::·)
def QP (ds:List (M×Nat)) (used:List M) (d:DE):Except Int Dat:=
 if (ds.map (·.1)).contains d.name||Dl d.vars then .error 4
               else (HS (ds++[(d.name,d.vars.length)]) d.vars used d.cons).map (⟨d.name,d.vars.length,·⟩)
def Kj (l:List DE):List (M×Nat):=l.map fun d=>(d.name,d.vars.length)
def fB (l:List DE):List M:=l.flatMap fun d=>d.cons.map (·.name)
def FP:List DE->List DE->Except (Int×Nat) (List Dat)
 |_,[]=>.ok []
 |done,d::l=>match QP (Kj done) (fB done) d with
  | .error e=>.error (e,done.length)
  | .ok x=>(FP (done++[d]) l).map (x::·)
abbrev Dg:=Int×Int×Int
def Fc (p:Pg):Except Dg (List Dat):=
 if Iv p then (match FP [] p.data with| .error (e,i)=>.error (e,-1,i)| .ok l=>.ok l) else .error (1,-1,0)
def Ex.op:Ex->Int| .mk o _ _ _ _ _=>o
def Ex.num:Ex->Int| .mk _ _ u _ _ _=>u
def Ex.name:Ex->M| .mk _ n _ _ _ _=>n
def Ex.names:Ex->List M| .mk _ _ _ ns _ _=>ns
def Ex.kids:Ex->List Ex| .mk _ _ _ _ ks _=>ks
def Ex.alts:Ex->List Al| .mk _ _ _ _ _ al=>al
def Al.con:Al->M| .mk c _ _=>c
def Al.vars:Al->List M| .mk _ vs _=>vs
def Al.body:Al->Ex| .mk _ _ b=>b
def Ct (o:Int) (n:M) (ns:List M) (sc:List M) (i:Nat):List M:=
 if (o=7\/o=17)/\i=1 then (if n=[] then sc else sc++[n])
                          else if (o=8/\i=1)\/o=11 then sc++ns else sc
mutual
def Bl:Ex->List M->List (Ex×List M)
 | .mk o n u ns ks al,sc=>(.mk o n u ns ks al,sc)::(CA o n ns sc 0 ks++Cw sc al)
def CA (o:Int) (n:M) (ns sc:List M):Nat->List Ex->List (Ex×List M)
 |_,[]=>[]
 |i,k::l=>Bl k (Ct o n ns sc i)++CA o n ns sc (i+1) l
def Um:Al->List M->List (Ex×List M)
 | .mk _ vs b,sc=>Bl b (sc++vs)
def Cw (sc:List M):List Al->List (Ex×List M)
 |[]=>[]
 |a::l=>Um a sc++Cw sc l
end
def KD:List Con->M->Option Nat
 |[],_=>none
 |c::l,s=>if c.name==s then some 0 else (KD l s).map (·+1)
def Dy:List Dat->M->Option (Nat×Nat)
 |[],_=>none
 |d::l,s=>match KD d.cons s with
  |some k=>some (0,k)
  |none=>(Dy l s).map fun x=>(x.1+1,x.2)
def arity (dt:List Dat) (x:Nat×Nat):Nat:=match dt[x.1]? with|some d=>(match d.cons[x.2]? with|some c=>c.args.length|none=>0)|none=>0
def OJ (dt:List Dat) (d:Nat):Nat:=match dt[d]? with|some x=>x.cons.length|none=>0
def Ce (dt:List Dat):List Al->Except Int (List (Nat×Nat))
 |[]=>.ok []
 | .mk c vs _::l=>match Dy dt c with
  |none=>.error 3
  |some x=>if vs.length≠arity dt x then .error 5 else if Dl vs then .error 4 else (Ce dt l).map (x::·)
def Xg (dt:List Dat):List (Nat×Nat)->Bool
 |[]=>true
 |x::l=>(x::l).all (fun y=>y.1==x.1)&&decide ((x::l).Nodup)&&decide ((x::l).length=OJ dt x.1)
def Nc (dt:List Dat) (l:List Al):Int:=match Ce dt l with| .error e=>e| .ok xs=>if Xg dt xs then 0 else 7
def DB (fs:List FE):List M:=fs.map (·.name)
def M4 (fs:List FE) (dt:List Dat) (e:Ex) (sc:List M):Int:=
 if e.op=4 then (if !sc.contains e.name&&(Dz (DB fs) e.name).isNone then 3 else 0)
                                               else if e.op=6 then
  match Dy dt e.name with
  |none=>3
  |some x=>if e.kids.length≠arity dt x then 5 else 0
            else if e.op=8\/e.op=11 then (if Dl e.names then 4 else 0)
            else if e.op=10 then Nc dt e.alts
            else if e.op=12 then
  match e.kids.head? with
  |none=>0
  |some h=>if h.op=4&& !sc.contains h.name then
   (match Dz (DB fs) h.name with
   |none=>0
   |some f=>match fs[f]? with
    |some g=>if g.params.length+1≠e.kids.length then 5 else 0
    |none=>0) else 0
            else 0
def hZ (vis:Ex->List M->Int):List (Ex×List M)->Option (Nat×Int)
 |[]=>none
 |x::l=>if vis x.1 x.2=0 then (hZ vis l).map (fun y=>(y.1+1,y.2)) else some (0,vis x.1 x.2)
def AAE (fs:List FE) (dt:List Dat) (i:Nat) (f:FE):Option Dg:=
 if Dz (DB fs) f.name≠some i\/Dl f.params=true then some (4,i,0)
                                                          else match hZ (M4 fs dt) (Bl f.body f.params) with
  |some (k,c)=>some (c,i,k)
  |none=>none
def Rv (fs:List FE) (dt:List Dat):Nat->List FE->Dg
 |_,[]=>(0,0,0)
 |i,f::l=>match AAE fs dt i f with
  |some d=>d
  |none=>Rv fs dt (i+1) l
def R5 (p:Pg):Dg:=match Fc p with| .error d=>d| .ok dt=>Rv p.Ca dt 0 p.Ca
def NJ (fs:List FE) (g:Nat) (x:Ex×List M):Bool:=x.1.op==4&&(!x.2.contains x.1.name&&Dz (DB fs) x.1.name==some g)
def c7 (fs:List FE) (f:FE):List Nat:=(Aj fs.length).filter fun g=>(Bl f.body f.params).any (NJ fs g)
def J7 (p:Pg):List (List Nat):=if (R5 p).1=0 then p.Ca.map (c7 p.Ca) else []
def FM (fs:List FE):Nat->List (Ex×List M)->List (Nat×Int)
 |_,[]=>[]
 |k,x::l=>if x.1.op=4/\(x.1.name=[]\/x.1.name ∉ x.2) then (k,(match fs.findIdx? (fun f=>f.name==x.1.name) with|some i=>(i:Int)|none=>-1))::FM fs (k+1) l else FM fs (k+1) l
def jS (fs:List FE):∀(l m:List (Ex×List M)) (k:Nat),FM fs k (l++m)=FM fs k l++FM fs (k+l.length) m
 |[],m,k=>rfl
 |x::l,m,k=>by
  simp only [AU,FM,AT];rw [jS fs l m (k+1),show k+1+l.length=k+(l.length+1) from by omega];split<;>rfl
def Up (fs:List FE):∀(l:List (Ex×List M)) (k:Nat),(FM fs k l).length<=l.length/\∀y∈FM fs k l,k<=y.1/\y.1 < k+l.length
 |[],k=>⟨AW _,fun y a=>by cases a⟩
 |x::l,k=>by
  obtain ⟨b,c⟩:=Up fs l (k+1);simp only [FM]
  grind
def eU (fs:List FE) (fe:FE):List (Nat×Int):=FM fs 0 (Bl fe.body fe.params)
def Cn {α:Type} {p:α->Bool} {l:List α} {x:α} (h:∀y∈l.take i,p y=false) (d:l[i]?=some x) (c:p x=true):l.findIdx? p=some i:=by
 rw [SJ];obtain ⟨b,a⟩:=AG.1 d;refine ⟨b,by rw [a];exact c,fun j e=>?_⟩;rw [h (l[j]'(by omega)) (List.mem_take_iff_getElem.2 ⟨j,by omega,rfl⟩)];simp
theorem Co {α:Type} {p:α->Bool} {l:List α} (h:∀y∈l,p y=false):l.findIdx? p=none:=by
 rw [fO];exact h
def Ea {α:Type} {p:α->Bool} {l:List α} {x:α} (h:∀y∈l.take i,p y=false) (c:l[i]?=some x) (b:p x=false):∀y∈l.take (i+1),p y=false:=by
 intro y a;rw [Aa c] at a;rcases A2.1 a with a|a
 . exact h y a
 . simp only [A9] at a;subst a;exact b
theorem N0 (o:Option Nat):decide (0<=Hq o)=o.isSome:=by
 cases o<;>simp [Hq]
theorem Fy {α:Type} (p:α->Bool) (l:List α):(l.findIdx? p).isSome=l.any p:=by
 rw [List.findIdx?_isSome]
def ZA (k:CP Tzp fid=true) (c:Ae.all I.BS=true) (p:M->Bool) (l:List M) (A:X) (m:∀x∈l,AS Tzp fid ((.d (.str x))::Ae) A (fun v H=>v= .d (.bool (p x))/\H=A)):
 AS Tzp 142 [.d (.sl (l.map CG)),.fn fid [] Ae] A (fun v H=>v= .d (.int .i64 (Hq (l.findIdx? p)))/\H=A):=by
 refine Ri (by simp) ?_;rw [B4];refine W.slot 0 (fun h=>?_);simp only [DR,if_true,I.Ep,AA] at h;(repeat' (refine wQ ?_<;>try simp only [AA,go_sem]));refine lpK (fun (i:Nat)=>[(8,.d (.int .i64 i))]) (fun _=>A) (fun i=>i<=l.length/\∀x∈l.take i,p x=false) (fun i=>l.length - i) ?_ 0 ⟨by simp,by simp⟩;rintro i ⟨o,b⟩ n;by_cases a:i < l.length
 . obtain ⟨x,g⟩:=Ak a;have j:=Au (J:=CG) g;have d:IntKind.i64.wrap ((i:Int)+1)=((i+1:Nat):Int):=by rw [B2 (by omega) (by omega)];omega
   have e:=m x (AE g);simp only [CG] at j;cases f:p x with
   |true=>
    rw [f] at e;(repeat' ((first|refine wP ?_|(refine ⟨fid,[],Ae,rfl,k,AN.det e ?_ (by simp [c,Je])⟩)|fail)<;>try simp only [BI a,j,go_sem]));rw [Cn b g f];rfl
   |false=>
    rw [f] at e;(repeat' ((first|refine wQ ?_|(refine ⟨fid,[],Ae,rfl,k,AN.det e ?_ (by simp [c,Je])⟩)|fail)<;>try simp only [BI a,j,d,go_sem]));exact n (i+1) ⟨by omega,Ea b g f⟩ (by omega)
 . (repeat' (refine wP ?_<;>try simp only [B5 a,go_sem]));rw [AR (by omega)] at b;rw [Co b];rfl
def VB (b:CP Tzp fid=true) (a:Ae.all I.BS=true) (p:M->Bool) (l:List M) (A:X) (c:∀x∈l,AS Tzp fid ((.d (.str x))::Ae) A (fun v H=>v= .d (.bool (p x))/\H=A)):
 AS Tzp 87 [.d (.sl (l.map CG)),.fn fid [] Ae] A (fun v H=>v= .d (.bool (l.any p))/\H=A):=by
 refine O9.go ?_;(repeat' (first|refine wP ?_|refine AN.det (ZA b a p l A c) ?_|fail)<;>try simp only [N0,Fy,go_sem])
def lS (c:CP Tzp fid=true) (a:Ae.all I.BS=true) (x:M) (b:Bool) (j:Nat) (A:X) (e:A.C j=some [.fn fid [] Ae]) (d:AS Tzp fid ((.d (.str x))::Ae) A (fun v H=>v= .d (.bool b)/\H=A)):
 AS Tzp 88 [(.d (.str x)),.gp j 0] A (fun v H=>v= .d (.bool (!b))/\H=A):=by
 refine Ww.go ?_;(repeat' (first|refine wP ?_|(refine ⟨fid,[],Ae,rfl,c,AN.det d ?_ (by simp [a,Je])⟩)|fail)<;>try simp only [e,go_sem])
def Ju (c:CP Tzp fid=true) (b:Ae.all I.BS=true) (p:M->Bool) (l:List M) (A:X) (d:∀x∈l,∀σ1,A.le σ1->AS Tzp fid ((.d (.str x))::Ae) σ1 (fun v H=>v= .d (.bool (p x))/\H=σ1)):
 AS Tzp 40 [.d (.sl (l.map CG)),.fn fid [] Ae] A (fun v H=>v= .d (.bool (l.all p))/\H=A):=by
 refine ZV.go ?_;(repeat' refine wQ ?_<;>simp only [go_sem]);intro j e;have a:=Bf (cs:=[.fn fid [] Ae]) e;(repeat' (first|refine wQ ?_|(refine W.By ZR (σ2:=A) a ?_)|refine AN.det (VB (by kernel_rfl) rfl (fun x=>!p x) l _ (fun x f=>lS c b x (p x) j _ (by simp only [AD,if_true]) (d x f _ a))) ?_|fail)<;>try simp only [go_sem]);simp [Rq]
def RG (m:CP Tzp fid=true) (d:Ae.all I.BS=true) (p:TE->Bool) (l:List TE) (A:X) (o:∀x∈l,AS Tzp fid ((teA x)::Ae) A (fun v H=>v= .d (.bool (p x))/\H=A)):
 AS Tzp 185 [.d (.sl (l.map TE.J)),.fn fid [] Ae] A (fun v H=>v= .d (.int .i64 (Hq (l.findIdx? p)))/\H=A):=by
 refine M0 (by simp) ?_;rw [B4];refine W.slot 0 (fun h=>?_);simp only [DR,if_true,I.Ep,AA] at h;(repeat' (refine wQ ?_<;>try simp only [AA,go_sem]));refine lpK (fun (i:Nat)=>[(8,.d (.int .i64 i))]) (fun _=>A) (fun i=>i<=l.length/\∀x∈l.take i,p x=false) (fun i=>l.length - i) ?_ 0 ⟨by simp,by simp⟩;rintro i ⟨r,b⟩ q;by_cases a:i < l.length
 . obtain ⟨x,g⟩:=Ak a;have j:=Au (J:=TE.J) g;have e:IntKind.i64.wrap ((i:Int)+1)=((i+1:Nat):Int):=by rw [B2 (by omega) (by omega)];omega
   have c:=o x (AE g);obtain ⟨k,n,al⟩:=x;simp only [TE.A6,teA,AB,AJ] at j c;cases f:p (.mk k n al) with
   |true=>
    rw [f] at c;(repeat' ((first|refine wP ?_|(refine ⟨fid,[],Ae,rfl,m,AN.det c ?_ (by simp [d,CY])⟩)|fail)<;>try simp only [BI a,j,go_sem]));rw [Cn b g f];rfl
   |false=>
    rw [f] at c;(repeat' ((first|refine wQ ?_|(refine ⟨fid,[],Ae,rfl,m,AN.det c ?_ (by simp [d,CY])⟩)|fail)<;>try simp only [BI a,j,e,go_sem]));exact q (i+1) ⟨by omega,Ea b g f⟩ (by omega)
 . (repeat' (refine wP ?_<;>try simp only [B5 a,go_sem]));rw [AR (by omega)] at b;rw [Co b];rfl
def OT (b:CP Tzp fid=true) (a:Ae.all I.BS=true) (p:TE->Bool) (l:List TE) (A:X) (c:∀x∈l,AS Tzp fid ((teA x)::Ae) A (fun v H=>v= .d (.bool (p x))/\H=A)):
 AS Tzp 138 [.d (.sl (l.map TE.J)),.fn fid [] Ae] A (fun v H=>v= .d (.bool (l.any p))/\H=A):=by
 refine Kk.go ?_;(repeat' (first|refine wP ?_|refine AN.det (RG b a p l A c) ?_|fail)<;>try simp only [N0,Fy,go_sem])
def W6 (d:CP Tzp fid=true) (a:Ae.all I.BS=true) (x:TE) (b:Bool) (j:Nat) (A:X) (e:A.C j=some [.fn fid [] Ae]) (c:AS Tzp fid ((teA x)::Ae) A (fun v H=>v= .d (.bool b)/\H=A)):
 AS Tzp 139 [(teA x),.gp j 0] A (fun v H=>v= .d (.bool (!b))/\H=A):=by
 refine Pf.go ?_;rw [B4];obtain ⟨k,n,al⟩:=x;simp only [TE.A6,teA,AB,AJ] at c ⊢;(repeat' (first|refine wP ?_|(refine ⟨fid,[],Ae,rfl,d,AN.det c ?_ (by simp [a,CY])⟩)|fail)<;>try simp only [e,go_sem])
def Oz (c:CP Tzp fid=true) (b:Ae.all I.BS=true) (p:TE->Bool) (l:List TE) (A:X) (d:∀x∈l,∀σ1,A.le σ1->AS Tzp fid ((teA x)::Ae) σ1 (fun v H=>v= .d (.bool (p x))/\H=σ1)):
 AS Tzp 83 [.d (.sl (l.map TE.J)),.fn fid [] Ae] A (fun v H=>v= .d (.bool (l.all p))/\H=A):=by
 refine Rj.go ?_;(repeat' refine wQ ?_<;>simp only [go_sem]);intro j e;have a:=Bf (cs:=[.fn fid [] Ae]) e;(repeat' (first|refine wQ ?_|(refine W.By R8 (σ2:=A) a ?_)|refine AN.det (OT (by kernel_rfl) rfl (fun x=>!p x) l _ (fun x f=>W6 c b x (p x) j _ (by simp only [AD,if_true]) (d x f _ a))) ?_|fail)<;>try simp only [go_sem]);simp [Rq]
def SI (k:CP Tzp fid=true) (d:Ae.all I.BS=true) (p:CE->Bool) (l:List CE) (A:X) (m:∀x∈l,AS Tzp fid ((ceA x)::Ae) A (fun v H=>v= .d (.bool (p x))/\H=A)):
 AS Tzp 184 [.d (.sl (l.map CE.J)),.fn fid [] Ae] A (fun v H=>v= .d (.int .i64 (Hq (l.findIdx? p)))/\H=A):=by
 refine NC (by simp) ?_;rw [B4];refine W.slot 0 (fun h=>?_);simp only [DR,if_true,I.Ep,AA] at h;(repeat' (refine wQ ?_<;>try simp only [AA,go_sem]));refine lpK (fun (i:Nat)=>[(8,.d (.int .i64 i))]) (fun _=>A) (fun i=>i<=l.length/\∀x∈l.take i,p x=false) (fun i=>l.length - i) ?_ 0 ⟨by simp,by simp⟩;rintro i ⟨o,b⟩ n;by_cases a:i < l.length
 . obtain ⟨x,g⟩:=Ak a;have j:=Au (J:=CE.J) g;have e:IntKind.i64.wrap ((i:Int)+1)=((i+1:Nat):Int):=by rw [B2 (by omega) (by omega)];omega
   have c:=m x (AE g);obtain ⟨nm,ar⟩:=x;simp only [CE.J,ceA,AB,AJ] at j c;cases f:p (⟨nm,ar⟩) with
   |true=>
    rw [f] at c;(repeat' ((first|refine wP ?_|(refine ⟨fid,[],Ae,rfl,k,AN.det c ?_ (by simp [d,CY])⟩)|fail)<;>try simp only [BI a,j,go_sem]));rw [Cn b g f];rfl
   |false=>
    rw [f] at c;(repeat' ((first|refine wQ ?_|(refine ⟨fid,[],Ae,rfl,k,AN.det c ?_ (by simp [d,CY])⟩)|fail)<;>try simp only [BI a,j,e,go_sem]));exact n (i+1) ⟨by omega,Ea b g f⟩ (by omega)
 . (repeat' (refine wP ?_<;>try simp only [B5 a,go_sem]));rw [AR (by omega)] at b;rw [Co b];rfl
def PR (b:CP Tzp fid=true) (a:Ae.all I.BS=true) (p:CE->Bool) (l:List CE) (A:X) (c:∀x∈l,AS Tzp fid ((ceA x)::Ae) A (fun v H=>v= .d (.bool (p x))/\H=A)):
 AS Tzp 136 [.d (.sl (l.map CE.J)),.fn fid [] Ae] A (fun v H=>v= .d (.bool (l.any p))/\H=A):=by
 refine L7.go ?_;(repeat' (first|refine wP ?_|refine AN.det (SI b a p l A c) ?_|fail)<;>try simp only [N0,Fy,go_sem])
def XR (d:CP Tzp fid=true) (a:Ae.all I.BS=true) (x:CE) (b:Bool) (j:Nat) (A:X) (e:A.C j=some [.fn fid [] Ae]) (c:AS Tzp fid ((ceA x)::Ae) A (fun v H=>v= .d (.bool b)/\H=A)):
 AS Tzp 137 [(ceA x),.gp j 0] A (fun v H=>v= .d (.bool (!b))/\H=A):=by
 refine QZ.go ?_;rw [B4];obtain ⟨nm,ar⟩:=x;simp only [CE.J,ceA,AB,AJ] at c ⊢;(repeat' (first|refine wP ?_|(refine ⟨fid,[],Ae,rfl,d,AN.det c ?_ (by simp [a,CY])⟩)|fail)<;>try simp only [e,go_sem])
def Zs (c:CP Tzp fid=true) (b:Ae.all I.BS=true) (p:CE->Bool) (l:List CE) (A:X) (d:∀x∈l,∀σ1,A.le σ1->AS Tzp fid ((ceA x)::Ae) σ1 (fun v H=>v= .d (.bool (p x))/\H=σ1)):
 AS Tzp 81 [.d (.sl (l.map CE.J)),.fn fid [] Ae] A (fun v H=>v= .d (.bool (l.all p))/\H=A):=by
 refine TD.go ?_;(repeat' refine wQ ?_<;>simp only [go_sem]);intro j e;have a:=Bf (cs:=[.fn fid [] Ae]) e;(repeat' (first|refine wQ ?_|(refine W.By Sq (σ2:=A) a ?_)|refine AN.det (PR (by kernel_rfl) rfl (fun x=>!p x) l _ (fun x f=>XR c b x (p x) j _ (by simp only [AD,if_true]) (d x f _ a))) ?_|fail)<;>try simp only [go_sem]);simp [Rq]
def XL (m:CP Tzp fid=true) (e:Ae.all I.BS=true) (p:Al->Bool) (l:List Al) (A:X) (q:∀x∈l,AS Tzp fid ((alA x)::Ae) A (fun v H=>v= .d (.bool (p x))/\H=A)):
 AS Tzp 108 [.d (.sl (l.map Al.J)),.fn fid [] Ae] A (fun v H=>v= .d (.int .i64 (Hq (l.findIdx? p)))/\H=A):=by
 refine Ie (by simp) ?_;rw [B4];refine W.slot 0 (fun j=>?_);simp only [DR,if_true,I.Ep,AA] at j;(repeat' (refine wQ ?_<;>try simp only [AA,go_sem]));refine lpK (fun (i:Nat)=>[(8,.d (.int .i64 i))]) (fun _=>A) (fun i=>i<=l.length/\∀x∈l.take i,p x=false) (fun i=>l.length - i) ?_ 0 ⟨by simp,by simp⟩;rintro i ⟨s,b⟩ r;by_cases a:i < l.length
 . obtain ⟨x,h⟩:=Ak a;have k:=Au (J:=Al.J) h;have f:IntKind.i64.wrap ((i:Int)+1)=((i+1:Nat):Int):=by rw [B2 (by omega) (by omega)];omega
   have d:=q x (AE h);obtain ⟨c,vs,o,n,u,ns,ks,al⟩:=x;simp only [Al.A6,alA,AB,AJ] at k d;cases g:p (.mk c vs (.mk o n u ns ks al)) with
   |true=>
    rw [g] at d;(repeat' ((first|refine wP ?_|(refine ⟨fid,[],Ae,rfl,m,AN.det d ?_ (by simp [e,CY])⟩)|fail)<;>try simp only [BI a,k,go_sem]));rw [Cn b h g];rfl
   |false=>
    rw [g] at d;(repeat' ((first|refine wQ ?_|(refine ⟨fid,[],Ae,rfl,m,AN.det d ?_ (by simp [e,CY])⟩)|fail)<;>try simp only [BI a,k,f,go_sem]));exact r (i+1) ⟨by omega,Ea b h g⟩ (by omega)
 . (repeat' (refine wP ?_<;>try simp only [B5 a,go_sem]));rw [AR (by omega)] at b;rw [Co b];rfl
def Tf (b:CP Tzp fid=true) (a:Ae.all I.BS=true) (p:Al->Bool) (l:List Al) (A:X) (c:∀x∈l,AS Tzp fid ((alA x)::Ae) A (fun v H=>v= .d (.bool (p x))/\H=A)):
 AS Tzp 188 [.d (.sl (l.map Al.J)),.fn fid [] Ae] A (fun v H=>v= .d (.bool (l.any p))/\H=A):=by
 refine Ny.go ?_;(repeat' (first|refine wP ?_|refine AN.det (XL b a p l A c) ?_|fail)<;>try simp only [N0,Fy,go_sem])
def fV (e:CP Tzp fid=true) (a:Ae.all I.BS=true) (x:Al) (b:Bool) (j:Nat) (A:X) (f:A.C j=some [.fn fid [] Ae]) (d:AS Tzp fid ((alA x)::Ae) A (fun v H=>v= .d (.bool b)/\H=A)):
 AS Tzp 189 [(alA x),.gp j 0] A (fun v H=>v= .d (.bool (!b))/\H=A):=by
 refine Va.go ?_;rw [B4];obtain ⟨c,vs,o,n,u,ns,ks,al⟩:=x;simp only [Al.A6,alA,AB,AJ] at d ⊢;(repeat' (first|refine wP ?_|(refine ⟨fid,[],Ae,rfl,e,AN.det d ?_ (by simp [a,CY])⟩)|fail)<;>try simp only [f,go_sem])
def oM (c:CP Tzp fid=true) (b:Ae.all I.BS=true) (p:Al->Bool) (l:List Al) (A:X) (d:∀x∈l,∀σ1,A.le σ1->AS Tzp fid ((alA x)::Ae) σ1 (fun v H=>v= .d (.bool (p x))/\H=σ1)):
 AS Tzp 146 [.d (.sl (l.map Al.J)),.fn fid [] Ae] A (fun v H=>v= .d (.bool (l.all p))/\H=A):=by
 refine Xz.go ?_;(repeat' refine wQ ?_<;>simp only [go_sem]);intro j e;have a:=Bf (cs:=[.fn fid [] Ae]) e;(repeat' (first|refine wQ ?_|(refine W.By Xp (σ2:=A) a ?_)|refine AN.det (Tf (by kernel_rfl) rfl (fun x=>!p x) l _ (fun x f=>fV c b x (p x) j _ (by simp only [AD,if_true]) (d x f _ a))) ?_|fail)<;>try simp only [go_sem]);simp [Rq]
def singleR (r:List Tok×Nat×Int) (k:Int) (s:M):Bool:=
 r.2.2==0&&(r.1.length==2&&(match r.1 with|[]=>false|a::_=>a.kind==k&&a.text==s))
def AI2 (k:Int) (s:M):nY k s=singleR (Vv s) k s:=rfl
def AVN {α:Type} {l:List α} (h:l.length=2):∃a b,l=[a,b]:=by
 match l,h with
 |[a,b],_=>exact ⟨a,b,rfl⟩
def SF (s:M) (k:Int) (A:X):AS Tzp 86 [.d (.str s),.d (.int .i64 k)] A (fun v H=>v= .d (.bool (nY k s))/\H=A):=by
 refine iT.go ?_;rw [B4,AI2];have a:=tN s A;generalize Vv s=r at a ⊢;obtain ⟨l,q,e⟩:=r;simp only [tG] at a;cases c:(e==0) with
 |false=>
  (repeat' (first|refine wP ?_|refine AN.det (a) ?_|fail)<;>try simp only [c,go_sem]);simp [singleR,c]
 |true=>
 by_cases f:l.length=2
 . obtain ⟨⟨g,i,ap⟩,b,rfl⟩:=AVN f;simp only [Tok.J,AB,AJ] at a;cases d:(g==k) with
   |false=>
    (repeat' (first|refine wP ?_|refine AN.det (a) ?_|(refine Dq rfl ?_ ?_<;>intro h<;>try (cases h;done))|fail)<;>try simp only [c,d,go_sem]);simp [singleR,d]
   |true=>
    (repeat' (first|refine wP ?_|refine AN.det (a) ?_|(refine Dq rfl ?_ ?_<;>intro h<;>try (cases h;done))|fail)<;>try simp only [c,d,CZ,go_sem]);simp [singleR,d,c]
 . have j:((l.length:Int)==2)=false:=by grind
   (repeat' (first|refine wP ?_|refine AN.det (a) ?_|fail)<;>try simp only [c,AA,j,go_sem]);simp [singleR,f]
def EL (s:M) (A:X):AS Tzp 39 [.d (.str s)] A (fun v H=>v= .d (.bool (PM s))/\H=A):=by
 refine mT.go ?_;(repeat' (first|refine wP ?_|refine AN.det (SF s 1 _) ?_|fail)<;>try simp only [go_sem]);rfl
def C0 (s:M) (A:X):AS Tzp 80 [.d (.str s)] A (fun v H=>v= .d (.bool (upperB s))/\H=A):=by
 refine iU.go ?_;(repeat' (first|refine wP ?_|refine AN.det (SF s 2 _) ?_|fail)<;>try simp only [go_sem]);rfl
def NN (s:M) (A:X):AS Tzp 145 [.d (.str s)] A (fun v H=>v= .d (.bool (kK s))/\H=A):=by
 refine mS.go ?_;rw [Dx];cases a:(s==[]) with
 |true=>
  (repeat' refine wP ?_<;>simp only [CZ,a,go_sem]);simp [kK,a]
 |false=>
  (repeat' (first|refine wP ?_|refine AN.det (EL s _) ?_|fail)<;>try simp only [CZ,a,go_sem]);simp [kK,a]
def AYF {α:Type} {p:α->Bool} {l:List α} {x:α} (b:l[i]?=some x) (a:p x=false):l.all p=false:=by
 grind
def APF {α:Type} {p:α->Bool} {l:List α} {x:α} (h:(l.take i).all p=true) (b:l[i]?=some x) (a:p x=true):(l.take (i+1)).all p=true:=by
 rw [Aa b,ZB,h];simp [a]
def XD (d:Nat) (e:∀(t:TE) (A:X),t.size<=1000000->AS Tzp 85 [teA t,.d (.int .i64 ((41 - d:Nat):Int))] A (fun v H=>v= .d (.bool (I2 d t))/\H=A)) (c:d < 40)
 (t:TE) (j:Nat) (A:X) (a:t.size<=1000000) (f:A.C j=some [.d (.int .i64 ((40 - d:Nat):Int))]):
 AS Tzp 140 [teA t,.gp j 0] A (fun v H=>v= .d (.bool (I2 d t))/\H=A):=by
 refine YB.go ?_;rw [B4];have b:=e t A a;obtain ⟨k,n,l⟩:=t;simp only [TE.A6,teA,AB,AJ] at b ⊢;have g:IntKind.i64.wrap (((40 - d:Nat):Int)+1)=((41 - d:Nat):Int):=by grind [B2]
 (repeat' (first|refine wP ?_|refine AN.det (b) ?_|fail)<;>try simp only [f,g,go_sem])
def Z4:∀(d:Nat),d<=40->∀(t:TE) (A:X),t.size<=1000000->AS Tzp 85 [teA t,.d (.int .i64 ((41 - d:Nat):Int))] A (fun v H=>v= .d (.bool (I2 d t))/\H=A):=by
 intro d
 induction d with
 |zero=>
  rintro _ ⟨k,n,l⟩ A _;refine Q0 (by simp) ?_;rw [B4,teA,TE.A6];(repeat' (refine wQ ?_<;>try simp only [go_sem]));intro j i;have c:=Bf (cs:=[.d (.int .i64 ((41 - 0:Nat):Int))]) i;have g:decide ((40:Int) < ((41 - 0:Nat):Int))=true:=by decide
  (repeat' (first|((first|refine wQ ?_|(refine W.By QR (σ2:=A) c ?_)|(refine Dq rfl (fun h=>?_) (fun h=>?_)<;>try (cases h;done))|fail)<;>try simp only [go_sem])|(refine ⟨fun h=>?_,fun h=>?_⟩<;>first|(cases h;done)|try simp only [h])|fail));rfl
 |succ d f=>
  rintro s ⟨k,n,l⟩ A m;have o:=TE.CL l;have p:TE.AQ l+1<=1000000:=by simpa [TE.size,Nat.add_comm] using m
  have hd1:=f (by omega);refine Q0 (by simp) ?_;rw [B4,teA,TE.A6];have g:decide ((40:Int) < ((41 - (d+1):Nat):Int))=false:=by grind
  (repeat' (refine wQ ?_<;>try simp only [go_sem]));intro j i;have c:=Bf (cs:=[.d (.int .i64 ((41 - (d+1):Nat):Int))]) i
  have b:=Oz (fid:=140) (Ae:=[.gp j 0]) (by kernel_rfl) rfl (I2 d) l (A.AI j [.d (.int .i64 ((41 - (d+1):Nat):Int))]) (fun x r σ1 e=>by
   have q:=TE.MA r;refine XD d hd1 (by omega) x j σ1 (by omega) ?_;rw [e.C j _ (by simp only [AD,if_true];rfl)]
   grind)
  clear hd1 f;(repeat' (first|((first|refine wQ ?_|(refine W.By QR (σ2:=A) c ?_)|refine AN.det (EL _ _) ?_|refine AN.det (C0 _ _) ?_|refine AN.det (b) ?_|(refine Dq rfl (fun h=>?_) (fun h=>?_)<;>try (cases h;done))|fail)<;>try simp only [ON,AA,go_sem])|(refine ⟨fun h=>?_,fun h=>?_⟩<;>first|(cases h;done)|try simp only [h])|fail))
  all_goals clear b g
  all_goals (simp only [bne,beq_iff_eq,beq_eq_false_iff_ne,ne_eq,Du,Bool.not_eq_false',decide_eq_true_eq,decide_eq_false_iff_not] at *;simp_all [I2,ABS];first|done|omega|(intros;omega)|(intros;exfalso;omega)|(rcases l with _|⟨a,l⟩<;>simp<;>omega))
def AcW (n:Nat):((n:Int)==0)=decide (n=0):=by grind
def TS (n:M) (u:Int) (a b:Nat):Bool:=n==[]&&(u==0&&(decide (a=0)&&decide (b=0)))
def OK (o:Int) (n:M) (u:Int) (ns ks al:List (List DV)) (A:X):
 AS Tzp 144 [.agg [.d (.int .i64 o),.d (.str n),.d (.int .i64 u),.d (.sl ns),.d (.sl ks),.d (.sl al)]] A (fun v H=>v= .d (.bool (TS n u ns.length al.length))/\H=A):=by
 refine rJ.go ?_;rw [Dx];cases a:(n==[])<;>cases b:(u==0)<;>cases c:decide (ns.length=0)
 all_goals (repeat' refine wP ?_<;>simp only [CZ,a,b,c,AcW,go_sem])
 all_goals (unfold TS;grind)
def ANX (o:Int) (n:M) (u:Int) (ks al:List (List DV)) (A:X):
 AS Tzp 144 [.agg [.d (.int .i64 o),.d (.str n),.d (.int .i64 u),.Ac,.d (.sl ks),.d (.sl al)]] A (fun v H=>v= .d (.bool (TS n u 0 al.length))/\H=A):=
 AS.plain (by simpa only [I.C3,Pu,K6,H6,A8] using OK o n u [] ks al A)
def ANY (o:Int) (n:M) (u:Int) (ns ks:List (List DV)) (A:X):
 AS Tzp 144 [.agg [.d (.int .i64 o),.d (.str n),.d (.int .i64 u),.d (.sl ns),.d (.sl ks),.Ac]] A (fun v H=>v= .d (.bool (TS n u ns.length 0))/\H=A):=
 AS.plain (by simpa only [I.C3,Pu,K6,H6,A8] using OK o n u ns ks [] A)
def VE (n a b:Int) (A:X):AS Tzp 148 [.d (.int .i64 n),.d (.int .i64 a),.d (.int .i64 b)] A (fun v H=>v= .d (.bool (decide (a<=n)&&decide (n<=b)))/\H=A):=by
 refine iS.go ?_;rw [DN];cases c:decide (a<=n)
 all_goals (repeat' refine wP ?_<;>simp only [c,go_sem])
def AXX (u:Int):M:=if u=1 then [110,101,119] else if u=2 then [103,101,116] else if u=3 then [115,101,116] else if u=4 then [108,101,110] else if u=5 then [114,101,102] else if u=6 then [114,101,97,100] else if u=7 then [119,114,105,116,101] else []
def ABJ (u:Int) (A:X):AS Tzp 149 [.d (.int .i64 u)] A (fun v H=>v= .tup [.d (.str (AXX u)),.d (.int .i64 (eS u))]/\H=A):=by
 refine bA.go ?_;(repeat' first|(refine wP ?_<;>try simp only [go_sem])|(constructor<;>intro h<;>first|(cases h;done)|try simp only [h])|fail)
 all_goals (simp only [beq_iff_eq,beq_eq_false_iff_ne,ne_eq] at *;simp_all [AXX,eS])
def AF3 (a:Al) (A:X):AS Tzp 147 [alA a] A (fun v H=>v= .d (.bool (AGX a))/\H=A):=by
 refine dQ.go ?_;rw [Dx];obtain ⟨c,vs,o,n,u,ns,ks,al⟩:=a;simp only [Al.A6,alA,AB,AJ];have d:decide ((vs.length:Int)<=6)=decide (vs.length<=6):=leN vs.length 6;cases b:upperB c with
 |false=>
  (repeat' (first|refine wP ?_|refine AN.det (C0 c _) ?_|fail)<;>try simp only [b,go_sem]);simp [AGX,b]
 |true=>
  by_cases e:vs.length<=6
  . (repeat' (first|refine wP ?_|refine AN.det (C0 c _) ?_|refine AN.det (Ju (Ae:=[]) (by kernel_rfl) rfl kK vs A (fun x _ σ1 _=>NN x σ1)) ?_|fail)<;>try simp only [b,AA,d,decide_eq_true e,go_sem]);simp [AGX,b,e]
  . (repeat' (first|refine wP ?_|refine AN.det (C0 c _) ?_|fail)<;>try simp only [b,AA,d,decide_eq_false e,go_sem]);simp [AGX,e]
def AB3 (o:Int) (n:M) (u:Int) (ns:List M) (ks:List Ex) (al:List Al) (A:X) (a:o=1\/o=2\/o=3\/o=4\/o=15):
 AS Tzp 143 [exA (.mk o n u ns ks al)] A (fun v H=>v= .d (.bool (nmB o n&&nuB o u&&nsB o ns&&asB o al))/\H=A):=by
 refine bC.go ?_;rw [Dx,exA,Ex.A6];have fin:∀b c:Bool,(b=true↔c=true)->I.d (.bool b)=I.d (.bool c):=fun b c h=>by grind
 rcases a with rfl|rfl|rfl|rfl|rfl
 . (repeat' (first|refine wP ?_|refine AN.det (OK _ _ _ _ _ _ _) ?_|fail)<;>try simp only [AA,go_sem])
   grind [TS,nmB,nuB,nsB,asB]
 . (repeat' (first|refine wP ?_|refine AN.det (OK _ _ _ _ _ _ _) ?_|refine AN.det (VE _ _ _ _) ?_|(refine Dq rfl ?_ ?_<;>intro h<;>try (cases h;done))|fail)<;>try simp only [AA,Ad,go_sem])
   all_goals grind [TS,nmB,nuB,nsB,asB]
 . (repeat' (first|refine wP ?_|refine AN.det (OK _ _ _ _ _ _ _) ?_|refine AN.det (VE _ _ _ _) ?_|(refine Dq rfl ?_ ?_<;>intro h<;>try (cases h;done))|fail)<;>try simp only [AA,Ad,go_sem])
   all_goals grind [TS,nmB,nuB,nsB,asB]
 . (repeat' (first|refine wP ?_|refine AN.det (OK _ _ _ _ _ _ _) ?_|refine AN.det (EL _ _) ?_|(refine Dq rfl ?_ ?_<;>intro h<;>try (cases h;done))|fail)<;>try simp only [AA,Ad,go_sem])
   all_goals grind [TS,nmB,nuB,nsB,asB]
 . (repeat' (first|refine wP ?_|refine AN.det (OK _ _ _ _ _ _ _) ?_|refine AN.det (VE _ _ _ _) ?_|(refine Dq rfl ?_ ?_<;>intro h<;>try (cases h;done))|fail)<;>try simp only [AA,Ad,go_sem])
   all_goals grind [TS,nmB,nuB,nsB,asB]
def AN0 (u:Int):0 < eS u↔1<=u/\u<=7:=by
 grind [eS]
def AB4 (o:Int) (n:M) (u:Int) (ns:List M) (ks:List Ex) (al:List Al) (A:X):
 AS Tzp 89 [exA (.mk o n u ns ks al)] A (fun v H=>v= .d (.bool (J3 o n u ns ks.length al))/\H=A):=by
 refine bD.go ?_;rw [Dx,exA,Ex.A6];have fin:∀b c:Bool,(b=true↔c=true)->I.d (.bool b)=I.d (.bool c):=fun b c h=>by grind
 have a:=fun h=>AB3 o n u ns ks al A h;simp only [exA,Ex.A6,AB,AJ] at a ⊢;have e:=Ju (fid:=145) (Ae:=[]) (by kernel_rfl) rfl kK ns A (fun x _ σ1 _=>NN x σ1);have f:=Ju (fid:=39) (Ae:=[]) (by kernel_rfl) rfl PM ns A (fun x _ σ1 _=>EL x σ1);have d:=oM (fid:=147) (Ae:=[]) (by kernel_rfl) rfl AGX al A (fun x _ σ1 _=>AF3 x σ1);by_cases g:o=1\/o=2\/o=3\/o=4\/o=5\/o=6\/o=7\/o=8\/o=9\/o=10\/o=11\/o=12\/o=13\/o=14\/o=15\/o=16\/o=17
 . rcases g with rfl|rfl|rfl|rfl|rfl|rfl|rfl|rfl|rfl|rfl|rfl|rfl|rfl|rfl|rfl|rfl|rfl
   all_goals (repeat' (first|refine wP ?_|refine AN.det (a (by simp)) ?_|refine AN.det (OK _ _ _ _ _ _ _) ?_|refine AN.det (ANX _ _ _ _ _ _) ?_|refine AN.det (ANY _ _ _ _ _ _) ?_|refine AN.det (C0 _ _) ?_|refine AN.det (NN _ _) ?_|refine AN.det (VE _ _ _ _) ?_|refine AN.det (ABJ _ _) ?_|refine AN.det (e) ?_|refine AN.det (f) ?_|refine AN.det (d) ?_|(refine Dq rfl ?_ ?_<;>intro h<;>try (cases h;done))|fail)<;>try simp only [AA,Ad,go_sem])
   all_goals clear a e f d
   all_goals (refine fin _ _ ?_;simp [J3,TS,nmB,nuB,nsB,asB,nkB, *] at *;try (have K:=AN0 u;grind))
 . have s:J3 o n u ns ks.length al=false:=by
    simp only [not_or] at g;simp [J3,nkB,g]
   simp only [not_or] at g;obtain ⟨t,w,y,z,B,D,E,F,G,i,j,k,l,m,p,q,r⟩:=g;(repeat' refine wP ?_<;>simp only [Fb t,Fb w,Fb y,Fb z,Fb B,Fb D,Fb E,Fb F,Fb G,Fb i,Fb j,Fb k,Fb l,Fb m,Fb p,Fb q,Fb r,go_sem]);rw [s]
section
variable {α β:Type}
def aR {f:β->α->Option β} {l:List α} {x:α} {a b:β} (h:(l.take i).foldlM f a=some b) (c:l[i]?=some x):(l.take (i+1)).foldlM f a=f b x:=by
 rw [Aa c,List.foldlM_append,h];simp [List.foldlM]
def aQ {f:β->α->Option β} {l:List α} {x:α} {a b:β} (h:(l.take i).foldlM f a=some b) (d:l[i]?=some x) (c:f b x=none):l.foldlM f a=none:=by
 conv=>lhs;rw [<- Am i l]
 rw [List.foldlM_append,h,Cs d];simp [List.foldlM,c]
def qF {f:Nat->α->Option Nat}:∀(l:List α) (a b:Nat),(∀x∈l,∀a b,f a x=some b->b<=a)->l.foldlM f a=some b->b<=a
 |[],a,b,_,h=>by simp [List.foldlM] at h;omega
 |x::l,a,b,d,h=>by
  simp only [List.foldlM,AX,AF] at h;obtain ⟨c,e,h⟩:=h;have:=qF l c b (fun y g=>d y (AZ _ g)) h;have:=d x (AY ..) a c e;omega
end
def tS:∀(d q:Nat) (e:Ex) (r:Nat),vEx d q e=some r->r<=q
 |0,q,e,r,h=>by cases h
 |d+1,0,.mk ..,r,h=>by cases h
 |d+1,q+1,.mk o n u ns ks al,r,h=>by
  simp only [vEx] at h;split at h
  . simp only [AF] at h;obtain ⟨c,g,h⟩:=h;have i:=qF ks q c (fun x _ a b f=>tS d a x b f) g;have j:=qF al c r (fun x _ a b f=>by cases x;exact tS d a _ b f) h;omega
  . cases h
def VXQ (J:Nat->Int) (j d q:Nat) (e:Ex) (A:X) (v:I) (H:X):Prop:=
 ∃b z,v= .d (.bool b)/\H=A.AI j [.d (.int .i64 z)]/\b=(vEx d q e).isSome/\∀r,vEx d q e=some r->z=J r
def VXQ.yes {J:Nat->Int} {j d:Nat} {e:Ex} {A:X} {P:Program} {f:FuncId} {args:List I} {r:Nat} (h:AS P f args A (VXQ J j d q e A)) (a:vEx d q e=some r):AS P f args A (fun v H=>v= .d (.bool true)/\H=A.AI j [.d (.int .i64 (J r))]):=
 h.mono (by
  rintro v H ⟨b,z,rfl,rfl,rfl,h⟩;rw [h r a,a];exact ⟨rfl,rfl⟩)
def VXQ.no {J:Nat->Int} {j d:Nat} {e:Ex} {A:X} {P:Program} {f:FuncId} {args:List I} (h:AS P f args A (VXQ J j d q e A)) (a:vEx d q e=none):AS P f args A (fun v H=>v= .d (.bool false)/\∃z,H=A.AI j [.d (.int .i64 z)]):=
 h.mono (by
  rintro v H ⟨b,z,rfl,rfl,rfl,h⟩;rw [a];exact ⟨rfl,z,rfl⟩)
def fK (d:Nat):Nat->Ex->Option Nat:=fun q e=>vEx d q e
def fA (d:Nat):Nat->Al->Option Nat:=fun q a=>match a with| .mk _ _ b=>vEx d q b
def tT (d q:Nat) (o:Int) (n:M) (u:Int) (ns:List M) (ks:List Ex) (al:List Al):vEx (d+1) (q+1) (.mk o n u ns ks al)=if J3 o n u ns ks.length al then (ks.foldlM (fK d) q).bind fun q=>al.foldlM (fA d) q else none:=rfl
def P5 (r:Nat):Int:=((600 - r:Nat):Int)
def mC (j:Nat):∀(d q:Nat),d<=40->q<=600->∀(e:Ex) (A:X),A.C j=some [.d (.int .i64 (P5 q))]->
 AS Tzp 41 [.gp j 0,exA e,.d (.int .i64 ((41 - d:Nat):Int))] A (VXQ P5 j d q e A):=by
 intro d
 induction d with
 |zero=>
  intro q _ hq e A D;obtain ⟨o,n,u,ns,ks,al⟩:=e;refine M8 (by simp) ?_;rw [DN,exA,Ex.A6];have B:IntKind.i64.wrap (P5 q+1)=((601 - q:Nat):Int):=by rw [P5,B2 (by omega) (by omega)];omega
  have L:decide ((40:Int) < ((41 - 0:Nat):Int))=true:=by decide
  (repeat' ((first|refine wR ?_|(refine Dq rfl (fun h=>?_) (fun h=>?_)<;>try (cases h;done))|fail)<;>try simp only [D,B,L,go_sem]))
  all_goals exact ⟨false,_,rfl,rfl,rfl,fun r h=>by cases h⟩
 |succ d K=>
  intro q hd hq e A D;obtain ⟨o,n,u,ns,ks,al⟩:=e;refine M8 (by simp) ?_;rw [DN,exA,Ex.A6];cases q with
  |zero=>
   have B:IntKind.i64.wrap (P5 0+1)=601:=by decide
   have N:decide ((600:Int) < 601)=true:=by decide
   (repeat' (refine wR ?_<;>try simp only [D,B,N,go_sem]));exact ⟨false,_,rfl,rfl,rfl,fun r h=>by cases h⟩
  |succ q=>
  have B:IntKind.i64.wrap (P5 (q+1)+1)=P5 q:=by
   have e:P5 (q+1)+1=P5 q:=by simp only [P5];omega
   rw [e];exact B2 (by simp only [P5];omega) (by simp only [P5];omega)
  have N:decide ((600:Int) < P5 q)=false:=decide_eq_false (Int.not_lt.2 (by unfold P5;omega));have L:decide ((40:Int) < ((41 - (d+1):Nat):Int))=false:=by simp only [decide_eq_false_iff_not];omega
  have a:=AB4 o n u ns ks al;simp only [exA,Ex.A6,AB,AJ] at a
  have s:IntKind.i64.wrap (((41 - (d+1):Nat):Int)+1)=((41 - d:Nat):Int):=by
   have e:((41 - (d+1):Nat):Int)+1=((41 - d:Nat):Int):=by omega
   rw [e];exact B2 (by omega) (by omega)
  cases E:J3 o n u ns ks.length al with
  |false=>
   rw [E] at a;(repeat' ((first|refine wR ?_|refine AN.det (a _) ?_|fail)<;>try simp only [D,B,N,L,go_sem]));exact ⟨false,_,rfl,rfl,by rw [tT,if_neg (by simp [E])];rfl,fun r h=>by rw [tT,if_neg (by simp [E])] at h;cases h⟩
  |true=>
  rw [E] at a;have g:vEx (d+1) (q+1) (.mk o n u ns ks al)=(ks.foldlM (fK d) q).bind fun q=>al.foldlM (fA d) q:=by rw [tT,if_pos E]
  generalize R:VXQ P5 j (d+1) (q+1) (.mk o n u ns ks al) A=Q07
  have F:∀z,vEx (d+1) (q+1) (.mk o n u ns ks al)=none->Q07 (.d (.bool false)) (A.AI j [.d (.int .i64 z)]):=fun z h=>by
   rw [<- R];exact ⟨false,z,rfl,rfl,by rw [h];rfl,fun r t=>by rw [h] at t;cases t⟩
  have G:∀r,vEx (d+1) (q+1) (.mk o n u ns ks al)=some r->Q07 (.d (.bool true)) (A.AI j [.d (.int .i64 (P5 r))]):=fun z h=>by
   rw [<- R];exact ⟨true,_,rfl,rfl,by rw [h];rfl,fun r t=>by rw [h] at t;cases t;rfl⟩
  clear R;(repeat' ((first|refine wQ ?_|refine AN.det (a _) ?_|fail)<;>try simp only [D,B,N,L,AA,go_sem]));refine W.cell 4 4 rfl rfl (fun S=>?_);refine W.cell 4 5 rfl rfl (fun T=>?_);simp only [I.Ep,AA] at S T
  refine lpK (fun (y:Nat×Nat)=>[(35,.d (.int .i64 y.1))]) (fun y=>A.AI j [.d (.int .i64 (P5 y.2))])
   (fun y=>y.1<=ks.length/\y.2<=q/\(ks.take y.1).foldlM (fK d) q=some y.2) (fun y=>ks.length - y.1) ?_ (0,q) ⟨by simp,AW _,rfl⟩
  rintro ⟨i,p⟩ ⟨U,P,b⟩ Q;simp only at U P b;by_cases c:i < ks.length
  . obtain ⟨x,w⟩:=Ak c;have m:=Au (J:=Ex.J) w;have l:IntKind.i64.wrap ((i:Int)+1)=((i+1:Nat):Int):=by rw [B2 (by omega) (by omega)];omega
    have f:=K p (by omega) (by omega) x (A.AI j [.d (.int .i64 (P5 p))]) (by simp only [AD,if_true]);cases k:vEx d p x with
    |some r=>
     have t:=tS _ _ _ _ k;have f:=VXQ.yes f k;have v:=aR b w;obtain ⟨xo,xn,xu,xs,Z,Y⟩:=x;simp only [Ex.A6,exA,AB,AJ] at m f;(repeat' ((first|refine wQ ?_|(refine AN.mk rfl f ?_;rintro _ _ ⟨rfl,rfl⟩)|fail)<;>try simp only [BI c,m,l,s,go_sem]));exact Q (i+1,r) ⟨by simp only;omega,by simp only;omega,by simp only;rw [v];exact k⟩ (by simp only;omega)
    |none=>
     have f:=VXQ.no f k;have v:=aQ b w k;obtain ⟨xo,xn,xu,xs,Z,Y⟩:=x;simp only [Ex.A6,exA,AB,AJ] at m f;(repeat' ((first|refine wR ?_|(refine AN.mk rfl f ?_;rintro _ _ ⟨rfl,z,rfl⟩)|fail)<;>try simp only [BI c,m,s,go_sem]));exact F z (by rw [g,v];rfl)
  . rw [AR (by omega)] at b;rw [b,Jt] at g;clear Q;(repeat' (refine wQ ?_<;>try simp only [B5 c,AA,go_sem]))
    refine lpK (fun (y:Nat×Nat)=>[(49,.d (.int .i64 y.1))]) (fun y=>A.AI j [.d (.int .i64 (P5 y.2))])
     (fun y=>y.1<=al.length/\y.2<=q/\(al.take y.1).foldlM (fA d) p=some y.2) (fun y=>al.length - y.1) ?_ (0,p) ⟨by simp,P,rfl⟩
    rintro ⟨i,p⟩ ⟨U,P,b⟩ Q;simp only at U P b;by_cases c:i < al.length
    . obtain ⟨x,w⟩:=Ak c;have m:=Au (J:=Al.J) w;have l:IntKind.i64.wrap ((i:Int)+1)=((i+1:Nat):Int):=by rw [B2 (by omega) (by omega)];omega
      obtain ⟨xc,xv,x⟩:=x;have f:=K p (by omega) (by omega) x (A.AI j [.d (.int .i64 (P5 p))]) (by simp only [AD,if_true]);cases k:vEx d p x with
      |some r=>
       have t:=tS _ _ _ _ k;have f:=VXQ.yes f k;have v:=aR b w;obtain ⟨xo,xn,xu,xs,Z,Y⟩:=x;simp only [Al.A6,Ex.A6,exA,AB,AJ] at m f;(repeat' ((first|refine wQ ?_|(refine AN.mk rfl f ?_;rintro _ _ ⟨rfl,rfl⟩)|fail)<;>try simp only [BI c,m,l,s,go_sem]));exact Q (i+1,r) ⟨by simp only;omega,by simp only;omega,by simp only;rw [v];exact k⟩ (by simp only;omega)
      |none=>
       have f:=VXQ.no f k;have v:=aQ b w k;obtain ⟨xo,xn,xu,xs,Z,Y⟩:=x;simp only [Al.A6,Ex.A6,exA,AB,AJ] at m f;(repeat' ((first|refine wR ?_|(refine AN.mk rfl f ?_;rintro _ _ ⟨rfl,z,rfl⟩)|fail)<;>try simp only [BI c,m,s,go_sem]));exact F z (by rw [g,v])
    . rw [AR (by omega)] at b;(repeat' (refine wR ?_<;>try simp only [B5 c,go_sem]));exact G p (by rw [g,b])
section
variable {P:Program} {K:CV} {F:Fm} {L:Lm} {A:X}
def sel (c:Bool) (v:I):I:=if c then v else .tup []
def WY (v:I):sel true v=v:=rfl
def GV (want:Bool) (x:I) (c:Bool):Prop:=gdV want x=some c
def GV.t {b:Bool}:GV true (.d (.bool b)) b:=by cases b<;>rfl
def GV.f {b:Bool}:GV false (.d (.bool b)) (!b):=by cases b<;>rfl
def GV.st {b c:Bool}:GV true (sel c (.d (.bool b))) (c&&b):=by cases b<;>cases c<;>rfl
def GV.sf {b c:Bool}:GV false (sel c (.d (.bool b))) (c&& !b):=by cases b<;>cases c<;>rfl
def Is (d:Nat) (v:I) (F:Fm) (L:Lm) (A:X):CV:=fun F' L' H=>F'=put d v F/\L'=L/\H=A
def Is.mk {d:Nat} :Is d v F L A (put d v F) L A:=⟨rfl,rfl,rfl⟩
def AcI {d s:Nat} {c:Bool} {r:List Q} (h:GV want (F s) c)
 (i:c=true->Bm P (Is d v F L A) [⟨some d,o,none⟩] F L A)
 (b:Bm P K r (put d (sel c v) F) L A):Bm P K (⟨some d,o,some (s,want)⟩::r) F L A:=by
 show XG (gd F (some (s,want))) (XO P (some d) (Bm P K r) F L A o) (Bm P K r (BW (some d) (.tup []) F) L A);have a:gd F (some (s,want))=some c:=h;rw [a];cases c with
 |true=>exact AGW (fun F' L' H ⟨e,f,g⟩=>by rw [e,f,g];exact b) (i rfl)
 |false=>exact b
def Vq (c x:Bool):(if c=true then sel c (.d (.bool x)) else (.d (.bool false)))=I.d (.bool (c&&x)):=by cases c<;>rfl
def lD (c x:Bool):(if c=true then (.d (.bool true)) else sel (!c) (.d (.bool x)))=I.d (.bool (c||x)):=by cases c<;>rfl
end
def RA {P:Program} {K:CV} {F:Fm} {L:Lm} {A:X} {d s:Nat} {c:Bool} {r:List Q} (e:GV want (F s) c)
 (h:∃v,(c=true->Bm P (Is d v F L A) [⟨some d,o,none⟩] F L A)/\Bm P K r (put d (sel c v) F) L A):Bm P K (⟨some d,o,some (s,want)⟩::r) F L A:=by
 obtain ⟨v,a,b⟩:=h;exact AcI e a b
theorem Is.pv {d:Nat} {F:Fm} {L:Lm} {A:X} {x:Option I} (h:x=some v):XPv x (some d) (Is d v F L A) F L A:=by
 subst h;exact Is.mk
def AN.AQD {P:Program} {f:FuncId} {args args':List I} {d:Option Nat} {K:CV} {F:Fm} {L:Lm} {A:X} (e:args=args') (h:AN P f args' d K F L A):AN P f args d K F L A:=e ▸ h
def AWK (c:Bool) (v:I):sel c (sel c v)=sel c v:=by cases c<;>rfl
def AZV (c x:Bool) (v:I):sel (c&&x) (sel c v)=sel (c&&x) v:=by cases c<;>cases x<;>rfl
def AZW (c x:Bool) (v:I):sel (c&&x) (sel x v)=sel (c&&x) v:=by cases c<;>cases x<;>rfl
def AIR (c x:Bool):(if (!c)=true then (.d (.bool true)) else sel c (.d (.bool x)))=I.d (.bool (!c||x)):=by cases c<;>rfl
def e7 (c:CE):Prop:=∀t∈c.args,t.size<=1000000
def N4 (d:DE):Prop:=∀c∈d.cons,e7 c
theorem AYL {b c:Bool} (h:b=true↔c=true):I.d (.bool b)=I.d (.bool c):=by grind
def kC (t:TE) (A:X) (h:t.size<=1000000):AS Tzp 84 [teA t] A (fun v H=>v= .d (.bool (I2 40 t))/\H=A):=by
 refine Vb.go ?_;rw [Dx];have a:=Z4 40 (AW _) t A h;rw [show ((41 - 40:Nat):Int)=1 from rfl] at a;obtain ⟨k,n,l⟩:=t;simp only [TE.A6,teA,AB,AJ] at a ⊢;(repeat' (first|refine wP ?_|refine AN.det (a) ?_|fail)<;>try simp only [go_sem])
def tV (c:CE) (A:X) (h:e7 c):AS Tzp 82 [ceA c] A (fun v H=>v= .d (.bool (ADE c))/\H=A):=by
 refine YA.go ?_;rw [Dx];have b:=Oz (fid:=84) (Ae:=[]) (by kernel_rfl) rfl (I2 40) c.args A (fun t d σ1 _=>kC t σ1 (h t d));obtain ⟨nm,ar⟩:=c;simp only [CE.J,ceA,AB,AJ] at b ⊢;have a:decide ((ar.length:Int)<=6)=decide (ar.length<=6):=leN _ 6;(repeat' first|refine ctQ rfl ?_|(refine RA (by first|exact GV.t|exact GV.f|exact GV.st|exact GV.sf) ⟨?_,fun h=>?_,?_⟩;rotate_left;(focus ((try simp only [AM] at h);simp only [go_sem];first|exact Is.mk|exact Is.pv (by simp only [h,WY,AA,a,go_sem];rfl)|(refine AN.det (C0 nm _) ?_;exact Is.mk)|(refine AN.det (b) ?_;exact Is.mk)|(refine AN.AQD (by simp only [h];rfl) ?_;first|(refine AN.det (C0 nm _) ?_;exact Is.mk)|(refine AN.det (b) ?_;exact Is.mk))));(try simp only [↓Vq,go_sem]))|((first|refine rgQ mxQ ?_|refine cdQ ?_|refine W.qP Xq ?_|refine AN.det (C0 nm _) ?_|refine AN.det (b) ?_)<;>try simp only [go_sem])|fail);simp only [ADE]
def AB2 (d:DE) (A:X) (h:N4 d):AS Tzp 38 [deA d] A (fun v H=>v= .d (.bool (Xe d))/\H=A):=by
 refine bB.go ?_;rw [Dx];have g:=Ju (fid:=39) (Ae:=[]) (by kernel_rfl) rfl PM d.vars A (fun x _ σ1 _=>EL x σ1);have a:=Zs (fid:=82) (Ae:=[]) (by kernel_rfl) rfl ADE d.cons A (fun c a σ1 _=>tV c σ1 (h c a));obtain ⟨nm,vs,cs⟩:=d;simp only [DE.J,deA,AB,AJ] at g a ⊢;have e:decide ((6:Int) < (vs.length:Int))=!decide (vs.length<=6):=gtN _ 6;have f:decide ((8:Int) < (cs.length:Int))=!decide (cs.length<=8):=gtN _ 8;have b:decide ((cs.length:Int) < 1)=decide (cs.length < 1):=ltN _ 1
 (repeat' first|refine ctQ rfl ?_|(refine RA (by first|exact GV.t|exact GV.f|exact GV.st|exact GV.sf) ⟨?_,fun h=>?_,?_⟩;rotate_left;(focus ((try simp only [OS] at h);simp only [go_sem];first|exact Is.mk|exact Is.pv (by simp only [h,WY,AA,e,f,go_sem];rfl)|(refine AN.det (C0 nm _) ?_;exact Is.mk)|(refine AN.det (g) ?_;exact Is.mk)|(refine AN.det (a) ?_;exact Is.mk)|(refine AN.AQD (by simp only [h,WY];rfl) ?_;first|(refine AN.det (C0 nm _) ?_;exact Is.mk)|(refine AN.det (g) ?_;exact Is.mk)|(refine AN.det (a) ?_;exact Is.mk))));(try simp only [↓lD,↓AIR,go_sem]))|((first|refine rgQ mxQ ?_|refine cdQ ?_|refine W.qP aV ?_|refine AN.det (C0 nm _) ?_|refine AN.det (g) ?_|refine AN.det (a) ?_)<;>try simp only [AA,b,go_sem])|(refine ⟨fun h=>?_,fun h=>?_⟩<;>first|(cases h;done)|try simp only [h])|fail)
 all_goals grind [AYL,Xe]
def nH (p:Pg) (A:X) (h:∀d∈p.data,N4 d):AS Tzp 18 [pgA p] A (fun v H=>v= .d (.bool (Iv p))/\H=A):=by
 obtain ⟨ds,fs⟩:=p;refine rI.go ?_;rw [Dx,pgA];simp only [Pg.J,AB,AJ] at h ⊢;have D:decide ((12:Int) < (ds.length:Int))=!decide (ds.length<=12):=gtN _ 12;have F:decide ((24:Int) < (fs.length:Int))=!decide (fs.length<=24):=gtN _ 24;by_cases G:ds.length<=12
 case neg=>
  (repeat' refine wP ?_<;>simp only [AA,D,decide_eq_false G,go_sem]);simp [Iv,G]
 by_cases R:fs.length<=24
 case neg=>
  (repeat' refine wP ?_<;>simp only [AA,D,decide_eq_true G,F,decide_eq_false R,go_sem]);simp [Iv,R]
 have e:Iv ⟨ds,fs⟩=(ds.all Xe&&(fs.foldlM xB 600).isSome):=by simp [Iv,G,R]
 (repeat' refine wQ ?_<;>simp only [AA,D,decide_eq_true G,F,decide_eq_true R,go_sem]);refine lpK (fun (i:Nat)=>[(21,A1 i)]) (fun _=>A) (fun i=>i<=ds.length/\(ds.take i).all Xe=true) (fun i=>ds.length - i) ?_ 0 ⟨by simp,by simp⟩;rintro i ⟨Y,f⟩ T;by_cases b:i < ds.length
 . obtain ⟨x,w⟩:=Ak b;have l:=Au (J:=DE.J) w;have m:=wS i;have k:=AB2 x A (h x (AE w));cases S:Xe x with
   |true=>
    have K:=APF f w S;rw [S] at k;obtain ⟨nm,vs,cs⟩:=x;simp only [DE.J,deA,AB,AJ] at l k;(repeat' (first|refine wQ ?_|refine AN.det (k) ?_|fail)<;>try simp only [BI b,l,m,go_sem]);exact T (i+1) ⟨by omega,K⟩ (by omega)
   |false=>
    have K:=AYF (p:=Xe) w S;rw [S] at k;obtain ⟨nm,vs,cs⟩:=x;simp only [DE.J,deA,AB,AJ] at l k;(repeat' (first|refine wP ?_|refine AN.det (k) ?_|fail)<;>try simp only [BI b,l,go_sem]);rw [e,K];rfl
 . rw [AR (by omega)] at f;rw [f,Fe] at e;clear T;(repeat' refine sQ ?_<;>simp only [B5 b,go_sem]);intro j E;have h0:=Bf (cs:=[I.d (.int .i64 0)]) E;(repeat' refine sQ ?_<;>simp only [AA,go_sem])
   refine lpK (fun (y:Nat×Nat)=>[(34,A1 y.1)]) (fun y=>A.AI j [A1 (P5 y.2)])
    (fun y=>y.1<=fs.length/\y.2<=600/\(fs.take y.1).foldlM xB 600=some y.2) (fun y=>fs.length - y.1) ?_ (0,600) ⟨by simp,by simp,rfl⟩
   rintro ⟨i,q⟩ ⟨Y,Z,f⟩ T;simp only at Y Z f;by_cases b:i < fs.length
   . obtain ⟨x,w⟩:=Ak b;have l:=Au (J:=FE.J) w;have m:=wS i;have a:=EL x.name (A.AI j [A1 (P5 q)]);have g:=Ju (fid:=39) (Ae:=[]) (by kernel_rfl) rfl PM x.params (A.AI j [A1 (P5 q)]) (fun x _ σ1 _=>EL x σ1);have s:decide ((6:Int) < (x.params.length:Int))=!decide (x.params.length<=6):=gtN _ 6;have k:=mC j 40 q (AW _) Z x.body (A.AI j [A1 (P5 q)]) (by simp only [AD,if_true]);rw [show ((41 - 40:Nat):Int)=1 from rfl] at k;have t:xB q x=none->fs.foldlM xB 600=none:=fun h=>aQ f w h;have N:∀r,xB q x=some r->(fs.take (i+1)).foldlM xB 600=some r:=fun r h=>by rw [aR f w,h]
     have c:xB q x=if PM x.name&&decide (x.params.length<=6)&&x.params.all PM then vEx 40 q x.body else none:=rfl
     cases B:PM x.name with
     |false=>
      rw [B] at a c;obtain ⟨nm,U,o,n,u,ns,ks,al⟩:=x;simp only [FE.J,Ex.A6] at l a;(repeat' (first|refine sQ ?_|(refine W.By Ib (σ2:=A) (Bf E) ?_)|refine AN.det (a) ?_|fail)<;>try simp only [BI b,l,go_sem]);rw [e,t c];rfl
     |true=>
     by_cases P:x.params.length<=6
     case neg=>
      rw [decide_eq_false P] at s;rw [B,decide_eq_false P] at c;rw [B] at a;obtain ⟨nm,U,o,n,u,ns,ks,al⟩:=x;simp only [FE.J,Ex.A6] at l a s;(repeat' (first|refine sQ ?_|(refine W.By Ib (σ2:=A) (Bf E) ?_)|refine AN.det (a) ?_|fail)<;>try simp only [BI b,l,AA,s,go_sem]);rw [e,t c];rfl
     rw [decide_eq_true P] at s;cases Q:x.params.all PM with
     |false=>
      rw [B,Q] at c;rw [Hg] at c;rw [B] at a;rw [Q] at g;obtain ⟨nm,U,o,n,u,ns,ks,al⟩:=x;simp only [FE.J,Ex.A6] at l a s g;(repeat' (first|refine sQ ?_|(refine W.By Ib (σ2:=A) (Bf E) ?_)|refine AN.det (a) ?_|refine AN.det (g) ?_|fail)<;>try simp only [BI b,l,AA,s,go_sem]);rw [e,t c];rfl
     |true=>
     rw [B,Q,decide_eq_true P] at c;rw [B] at a;rw [Q] at g;cases L:vEx 40 q x.body with
     |some r=>
      have hr:=tS _ _ _ _ L;rw [L] at c;have k:=VXQ.yes k L;have K:=N r c;obtain ⟨nm,U,o,n,u,ns,ks,al⟩:=x;simp only [FE.J,Ex.A6,exA,AB,AJ] at l a s g k;(repeat' (first|refine sQ ?_|(refine AN.mk rfl k ?_;rintro _ _ ⟨rfl,rfl⟩)|refine AN.det (a) ?_|refine AN.det (g) ?_|fail)<;>try simp only [BI b,l,m,AA,s,go_sem]);exact T (i+1,r) ⟨by simp only;omega,by simp only;omega,K⟩ (by simp only;omega)
     |none=>
      rw [L] at c;have k:=VXQ.no k L;obtain ⟨nm,U,o,n,u,ns,ks,al⟩:=x;simp only [FE.J,Ex.A6,exA,AB,AJ] at l a s g k;(repeat' (first|refine sQ ?_|(refine AN.mk rfl k ?_;rintro _ _ ⟨rfl,z,rfl⟩)|(refine W.By Ib (σ2:=A) (Bf E) ?_)|refine AN.det (a) ?_|refine AN.det (g) ?_|fail)<;>try simp only [BI b,l,AA,s,go_sem]);rw [e,t c];rfl
   . rw [AR (by omega)] at f;(repeat' (first|refine sQ ?_|(refine W.By Ib (σ2:=A) (Bf E) ?_)|fail)<;>try simp only [B5 b,go_sem]);rw [e,f];rfl
set_option maxRecDepth 100000
set_option maxHeartbeats 40000000
noncomputable section
abbrev WA:=mX 11 f11 36 ([13]++lq [8,15,23]) [.t 2,.c 3 (some 3)]
instance P9:Good WA:=gdX func11
def dW:=C8 WA [] fun c a=>G c [a]
def lX:=lpC 0 (dW .skip)
def AAA:=(dW lX).1
def AAV:Inn WA AAA 36:=inX ntmps11
def KX:List (Nat×PT):=[(3,pO (Rg 0 4++Rg 5 6) (.alt 4 (pD (Rg 11 5)) (.alt 11 (pD ([4]++Rg 12 4)) .done))),(21,pO ([0,1,2]++Rg 4 11) (.alt 3 (pD (Rg 15 4)) (.alt 15 (pD [3,16,17,18]) .done)))]
abbrev EW:=mX 19 f19 115 ([37,100038]++lq [18,23,32,34,42,52,64,71,74,82,90,91,109]) [.t 4]
instance vG:Good EW:=gdX func19
def GO:=C8 EW KX fun c a b=>G c [a,b]
def II:=lpC 0 (GO .skip .skip)
def IJ:=lpC 1 (GO II .skip)
def SQ:=(GO II IJ).1
def Sw:Inn EW SQ 115:=inX ntmps19 KX
abbrev Hy:=mX 42 f42 11 [3] [.t 4]
instance Wm:Good Hy:=gdX func42
def Wb:=k0 Hy
def Wu:Inn Hy Wb 11:=inX ntmps42
abbrev NP:=mX 43 f43 22 [] [.t 2]
instance AMS:Good NP:=gdX func43
def Uj:=C8 NP [] fun c a=>G c [a]
def ZH:=lpC 0 (Uj .skip)
def gH:=(Uj ZH).1
def iO:Inn NP gH 22:=inX ntmps43
abbrev Jk:=mX 44 f44 38 [] [.t 4,.t 5,.t 6]
instance AGG:Good Jk:=gdX func44
def Ja:=C8 Jk [] fun c a b=>G c [a,b]
def Li:=lpC 0 (Ja .skip .skip)
def VH:=lpC 1 (Ja Li .skip)
def ZF:=(Ja Li VH).1
def PC:Inn Jk ZF 38:=inX ntmps44
abbrev EX:=mX 45 f45 103 (lq [14,17,26,30,37,41,45,52,59,72,79,87,96,97,102]) [.c 6 (some 3),.t 7]
instance KG:Good EX:=gdX func45
def KJ:=C8 EX [] fun c a=>G c [a]
def IK:=lpC 0 (KJ .skip)
def SR:=(KJ IK).1
def Sy:Inn EX SR 103:=inX ntmps45
abbrev T4:=mX 64 f64 58 (lq [11,16,18,19,23,30,32,38,44,45]) [.c 2 (some 3)]
instance AT2:Good T4:=gdX func64
def Zd:=C8 T4 [] fun c a=>G c [a]
def gF:=lpC 0 (Zd .skip)
def uT:=(Zd gF).1
def vV:Inn T4 uT 58:=inX ntmps64
abbrev Qp:=mX 65 f65 6 [300003] [.t 2]
instance AQU:Good Qp:=gdX func65
def pA:=k0 Qp
def rE:Inn Qp pA 6:=inX ntmps65
abbrev EU:=mX 78 f78 19 [] [.t 4]
instance iK:Good EU:=gdX func78
def Gr:=C8 EU [] fun c a=>G c [a]
def L6:=lpC 0 (Gr .skip)
def Ms:=(Gr L6).1
def ND:Inn EU Ms 19:=inX ntmps78
abbrev FD:=mX 90 f90 19 [] [.t 4]
instance nM:Good FD:=gdX func90
def IU:=C8 FD [] fun c a=>G c [a]
def Mq:=lpC 0 (IU .skip)
def PY:=(IU Mq).1
def Pe:Inn FD PY 19:=inX ntmps90
abbrev HB:=mX 91 f91 8 [300005] [.t 3]
instance yE:Good HB:=gdX func91
def UH:=k0 HB
def U9:Inn HB UH 8:=inX ntmps91
abbrev GY:=mX 92 f92 9 [] [.t 4]
instance vH:Good GY:=gdX func92
def SU:=k0 GY
def Sz:Inn GY SU 9:=inX ntmps92
abbrev Hz:=mX 93 f93 19 [] [.t 4]
instance ACB:Good Hz:=gdX func93
def M9:=C8 Hz [] fun c a=>G c [a]
def SY:=lpC 0 (M9 .skip)
def Wc:=(M9 SY).1
def Wv:Inn Hz Wc 19:=inX ntmps93
abbrev FB:=mX 94 f94 12 [] [.t 4]
instance nL:Good FB:=gdX func94
def PW:=k0 FB
def Pc:Inn FB PW 12:=inX ntmps94
abbrev NO:=mX 114 f114 9 ([3]++[300006]) [.t 4]
instance iH:Good NO:=gdX func114
def gG:=k0 NO
def iN:Inn NO gG 9:=inX ntmps114
abbrev Ol:=mX 115 f115 25 ([11]++lq [14,17]) [.t 4,.t 5]
instance WN:Good Ol:=gdX func115
def lY:=k0 Ol
def mO:Inn Ol lY 25:=inX ntmps115
abbrev Hw:=mX 116 f116 107 (lq [13,18,23,25,33,35,43,46,61,65,67,72,76,81,86,88,94,99]) [.t 6]
instance ACA:Good Hw:=gdX func116
def Wa:=k0 Hw
def Wt:Inn Hw Wa 107:=inX ntmps116
def Qj:List (Nat×PT):=[(6,pO [2] (.alt 0 (.alt 1 (pD [3,4,5]) (.alt 3 (pD [1,4,5]) .done)) (.alt 1 (.alt 0 (pD [3,4,5]) (.alt 3 (pD [0,4,5]) .done)) (.alt 3 (pD [0,1,4,5]) .done))))]
abbrev C6:=mX 117 f117 83 [1,3,4,5,6,7] [.t 2]
instance aS:Good C6:=gdX func117
def H3:=C8 C6 Qj fun c a b d=>G c [a,b,d]
def F4:=lpC 0 (H3 .skip .skip .skip)
def Hp:=lpC 1 (H3 F4 .skip .skip)
def M7:=lpC 2 (H3 F4 Hp .skip)
def Zw:=(H3 F4 Hp M7).1
def aX:Inn C6 Zw 83:=inX ntmps117 Qj
abbrev T1:=mX 118 f118 53 ([1,6]++[300029]) [.t 2]
instance Zb:Good T1:=gdX func118
def TO:=C8 T1 [] fun c a b=>G c [a,b]
def UC:=lpC 0 (TO .skip .skip)
def gE:=lpC 1 (TO UC .skip)
def uS:=(TO UC gE).1
def vU:Inn T1 uS 53:=inX ntmps118
abbrev Fl:=mX 150 f150 32 [300027] [.t 6]
instance uG:Good Fl:=gdX func150
def JY:=C8 Fl [] fun c a=>G c [a]
def O0:=lpC 0 (JY .skip)
def RT:=(JY O0).1
def Rh:Inn Fl RT 32:=inX ntmps150
abbrev E5:=mX 151 f151 14 (lq [6,10]) [.t 4]
instance Ns:Good E5:=gdX func151
def Ng:=k0 E5
def Nx:Inn E5 Ng 14:=inX ntmps151
abbrev Kq:=mX 161 f161 8 [300005] [.t 3]
instance AHY:Good Kq:=gdX func161
def Zx:=k0 Kq
def aY:Inn Kq Zx 8:=inX ntmps161
abbrev Jl:=mX 162 f162 108 (lq [19,26,36,39,47,51,55,64,75,83,98,101]) [.t 6]
instance AGI:Good Jl:=gdX func162
def Jc:=C8 Jl [] fun c a b=>G c [a,b]
def Lk:=lpC 0 (Jc .skip .skip)
def VI:=lpC 1 (Jc Lk .skip)
def ZI:=(Jc Lk VI).1
def ZU:Inn Jl ZI 108:=inX ntmps162
abbrev Iy:=mX 163 f163 21 [100018] [.t 4]
instance AD9:Good Iy:=gdX func163
def OC:=C8 Iy [] fun c a=>G c [a]
def UD:=lpC 0 (OC .skip)
def XZ:=(OC UD).1
def Xu:Inn Iy XZ 21:=inX ntmps163
abbrev Gj:=mX 164 f164 17 [] [.t 4]
instance AGH:Good Gj:=gdX func164
def PE:=C8 Gj [] fun c a=>G c [a]
def Lj:=lpC 0 (PE .skip)
def ZG:=(PE Lj).1
def ZT:Inn Gj ZG 17:=inX ntmps164
def OP:List (Nat×PT):=[(15,pD (Rg 0 8++[9,8,10]))]
abbrev Iz:=mX 165 f165 79 (lq [22,24,32,35,47,53]) [.t 4]
instance D8:Good Iz:=gdX func165
def OD:=C8 Iz OP fun c a=>G c [a]
def UE:=lpC 0 (OD .skip)
def X0:=(OD UE).1
def Xv:Inn Iz X0 79:=inX ntmps165 OP
abbrev JA:=mX 166 f166 34 [] []
instance Nr:Good JA:=gdX func166
def OE:=C8 JA [] fun c a=>G c [a]
def UF:=lpC 0 (OE .skip)
def X1:=(OE UF).1
def Xw:Inn JA X1 34:=inX ntmps166
abbrev JB:=mX 167 f167 36 [] [.t 5]
instance AEA:Good JB:=gdX func167
def OF:=C8 JB [] fun c a=>G c [a]
def UG:=lpC 0 (OF .skip)
def X2:=(OF UG).1
def Xx:Inn JB X2 36:=inX ntmps167
def W0:List (Nat×PT):=[(2,pO [1,2,3] (.alt 0 (pD [4,5,6]) (.alt 4 (pD [0,5,6]) .done)))]
abbrev Oj:=mX 168 f168 23 (lq [8,13,20]) [.t 6]
instance AO1:Good Oj:=gdX func168
def lW:=k0 Oj W0
def mN:Inn Oj lW 23:=inX ntmps168 W0
abbrev H9:=mX 205 f205 9 [] [.t 4]
instance AAM:Good H9:=gdX func205
def VJ:=k0 H9
def Lr:Inn H9 VJ 9:=inX ntmps205
abbrev Jm:=mX 228 f228 19 [] [.t 4]
instance AGJ:Good Jm:=gdX func228
def PH:=C8 Jm [] fun c a=>G c [a]
def VL:=lpC 0 (PH .skip)
def ZJ:=(PH VL).1
def PD:Inn Jm ZJ 19:=inX ntmps228
end
def bdD:List M->DV
 |[]=>.Dt
 |s::l=>.ptr [.str s,bdD l]
def bdL (sc:List M):DV:=bdD ((sc.filter (fun s=>!(s==[]))).reverse)
def ACX (sc:List M) (s:M) (h:(s==[])=false):bdL (sc++[s])= .ptr [.str s,bdL sc]:=by
 have a:List.filter (fun s=>!(s==[])) [s]=[s]:=by rw [List.filter_cons,h];rfl
 rw [bdL,RJ,a,List.reverse_append];rfl
def oU (sc:List M) (s:M) (h:(s==[])=true):bdL (sc++[s])=bdL sc:=by
 have a:List.filter (fun s=>!(s==[])) [s]=[]:=by rw [List.filter_cons,h];rfl
 rw [bdL,RJ,a,Aw];rfl
def AY3:∀(l:List M) (s:M) (A:X),AS Tzp 164 [.d (bdD l),.d (.str s)] A (fun v H=>v= .d (.bool (l.contains s))/\H=A):=by
 intro l s A;refine ZT.go ?_;(repeat' refine wQ ?_<;>simp only [go_sem]);refine W.PL ?_
 have c:∀a:List M,a.contains s=l.contains s->W Gj (dtV (D1 (l.contains s)) A) [.again Lj,.C 0,.code (.seq (.reg [⟨some 4,.mv (.c (D1 false)),none⟩] [4]) .ret)] (put 0 (.d (bdD a)) (put 1 (Gb s) U)) E A:=by
  intro a
  induction a with
  |nil=>
   intro h;refine W.again ?_;simp only [bdD];(repeat' refine wP ?_<;>simp only [go_sem]);rw [<- h];rfl
  |cons x a d=>
   intro h;refine W.again ?_;simp only [bdD];rw [RH] at h;cases b:(x==s) with
   |true=>
    (repeat' refine wP ?_<;>simp only [CZ,b,go_sem]);rw [<- h,BEq.comm,b];rfl
   |false=>
    rw [show (s==x)=(x==s) from BEq.comm,b,MP] at h;(repeat' refine wQ ?_<;>simp only [CZ,b,go_sem]);exact d h
 exact c l rfl
def AAT (sc:List M) (s:M) (a:s≠[]) (A:X):AS Tzp 164 [.d (bdL sc),.d (.str s)] A (fun v H=>v= .d (.bool (sc.contains s))/\H=A):=
 (AY3 _ s A).mono (by
   rintro v H ⟨rfl,rfl⟩;refine ⟨?_,rfl⟩;congr 2;rw [C2];simp [a])
def Yz (sc ns:List M) (A:X):AS Tzp 163 [.d (bdL sc),.d (.sl (ns.map CG))] A (fun v H=>v= .d (bdL (sc++ns))/\H=A):=by
 refine Xu (by simp) ?_;rw [B4];refine W.slot 1 (fun e=>?_);simp only [DR,HW,if_false,if_true,I.Ep,AA] at e;(repeat' (refine wQ ?_<;>try simp only [AA,go_sem]));refine W.PL ?_;refine W.SB ((fun (j:I) (k:I)=>fun (i:Nat)=>put 0 (.d (bdL (sc++ns.take i))) (put 7 j (put 8 k (put 9 (.d (.int .i64 i)) U)))) _ _) (fun _=>E) (fun _=>A) (fun i=>i<=ns.length) (fun i=>ns.length - i) ?_ 0 (by simp)|>(fun h=>by simpa using h)
 rintro i m l;by_cases b:i < ns.length
 . obtain ⟨x,g⟩:=Ak b;have f:=Au (J:=CG) g;simp only [CG] at f;have c:IntKind.i64.wrap ((i:Int)+1)=((i+1:Nat):Int):=by rw [B2 (by omega) (by omega)];omega
   have a:=l (i+1) (by omega) (by omega);simp only at a;rw [Aa g,<- Ax] at a;cases d:(x==[]) with
   |true=>
    rw [oU _ _ d] at a;(repeat' (refine wQ ?_<;>try simp only [BI b,f,c,ON,d,go_sem]));exact a
   |false=>
    rw [ACX _ _ d] at a;(repeat' (refine wQ ?_<;>try simp only [BI b,f,c,ON,d,go_sem]));exact a
 . (repeat' (refine wP ?_<;>try simp only [B5 b,go_sem]));rw [AR (by omega)]
def GM (k:CP Tzp fid=true) (d:Ae.all I.BS=true) (p:FE->Bool) (l:List FE) (A:X) (m:∀x∈l,AS Tzp fid ((feA x)::Ae) A (fun v H=>v= .d (.bool (p x))/\H=A)):
 AS Tzp 78 [.d (.sl (l.map FE.J)),.fn fid [] Ae] A (fun v H=>v= .d (.int .i64 (Hq (l.findIdx? p)))/\H=A):=by
 refine ND (by simp) ?_;rw [B4];refine W.slot 0 (fun h=>?_);simp only [DR,if_true,I.Ep,AA] at h;(repeat' (refine wQ ?_<;>try simp only [AA,go_sem]));refine lpK (fun (i:Nat)=>[(8,.d (.int .i64 i))]) (fun _=>A) (fun i=>i<=l.length/\∀x∈l.take i,p x=false) (fun i=>l.length - i) ?_ 0 ⟨by simp,by simp⟩;rintro i ⟨s,b⟩ q;by_cases a:i < l.length
 . obtain ⟨x,g⟩:=Ak a;have j:=Au (J:=FE.J) g;have e:IntKind.i64.wrap ((i:Int)+1)=((i+1:Nat):Int):=by rw [B2 (by omega) (by omega)];omega
   have c:=m x (AE g);obtain ⟨nm,r,o,n,u,ns,ks,al⟩:=x;simp only [FE.J,Ex.A6,feA,AB,AJ] at j c;cases f:p (⟨nm,r,.mk o n u ns ks al⟩) with
   |true=>
    rw [f] at c;(repeat' ((first|refine wP ?_|(refine ⟨fid,[],Ae,rfl,k,AN.det c ?_ (by simp [d,CY])⟩)|fail)<;>try simp only [BI a,j,go_sem]));rw [Cn b g f];rfl
   |false=>
    rw [f] at c;(repeat' ((first|refine wQ ?_|(refine ⟨fid,[],Ae,rfl,k,AN.det c ?_ (by simp [d,CY])⟩)|fail)<;>try simp only [BI a,j,e,go_sem]));exact q (i+1) ⟨by omega,Ea b g f⟩ (by omega)
 . (repeat' (refine wP ?_<;>try simp only [B5 a,go_sem]));rw [AR (by omega)] at b;rw [Co b];rfl
def Yn (l:List M) (s:M):l.findIdx? (fun x=>x==s)=Dz l s:=by
 induction l with
 |nil=>rfl
 |cons x l a=>
  rw [List.findIdx?_cons,Dz];split
  . rfl
  . rw [a]
theorem YH (fs:List FE) (s:M):fs.findIdx? (fun x=>x.name==s)=Dz (DB fs) s:=by
 rw [<- Yn,DB,List.findIdx?_map];rfl
def vB (f:FE) (s:M) (j:Nat) (A:X) (a:A.C j=some [.d (.str s)]):AS Tzp 161 [feA f,.gp j 0] A (fun v H=>v= .d (.bool (f.name==s))/\H=A):=by
 refine aY.go ?_;rw [B4];obtain ⟨nm,b,o,n,u,ns,ks,al⟩:=f;simp only [FE.J,Ex.A6,feA,AB,AJ];(repeat' refine wP ?_<;>simp only [a,CZ,go_sem])
def Xm (p:Pg) (s:M) (A:X):AS Tzp 114 [pgA p,.d (.str s)] A (fun v H=>v= .d (.int .i64 (Hq (Dz (DB p.Ca) s)))/\H=A):=by
 refine iN.go ?_;rw [B4];obtain ⟨ds,fs⟩:=p;simp only [Pg.J,pgA,AB,AJ];(repeat' refine wQ ?_<;>simp only [go_sem]);intro j c;have a:=Bf (cs:=[I.d (.str s)]) c;have b:=GM (fid:=161) (Ae:=[.gp j 0]) (by kernel_rfl) rfl (fun x=>x.name==s) fs (A.AI j [Gb s]) (fun x _=>vB x s j _ (by simp only [AD,if_true]));rw [YH] at b;(repeat' (first|refine wQ ?_|(refine W.By iH (σ2:=A) a ?_)|refine AN.det (b) ?_|fail)<;>try simp only [go_sem])
def WK (l:List M) (s:M) (A:X):AS Tzp 93 [.d (.sl (l.map CG)),.d (.str s)] A (fun v H=>v= .d (.int .i64 (Hq (Dz l s)))/\H=A):=by
 refine Wv (by simp) ?_;rw [B4,<- Yn];refine W.slot 0 (fun f=>?_);simp only [DR,if_true,I.Ep,AA] at f;(repeat' (refine wQ ?_<;>try simp only [AA,go_sem]));refine lpK (fun (i:Nat)=>[(8,.d (.int .i64 i))]) (fun _=>A) (fun i=>i<=l.length/\∀x∈l.take i,(x==s)=false) (fun i=>l.length - i) ?_ 0 ⟨by simp,by simp⟩;rintro i ⟨k,b⟩ j;by_cases a:i < l.length
 . obtain ⟨x,h⟩:=Ak a;have g:=Au (J:=CG) h;simp only [CG] at g;have d:IntKind.i64.wrap ((i:Int)+1)=((i+1:Nat):Int):=by rw [B2 (by omega) (by omega)];omega
   cases e:(x==s) with
   |true=>
    have c:(s==x)=true:=by rw [BEq.comm];exact e
    (repeat' (refine wP ?_<;>try simp only [BI a,g,CZ,c,go_sem]));rw [Cn (p:=fun x=>x==s) b h e];rfl
   |false=>
    have c:(s==x)=false:=by rw [BEq.comm];exact e
    (repeat' (refine wQ ?_<;>try simp only [BI a,g,d,CZ,c,go_sem]));exact j (i+1) ⟨by omega,Ea (p:=fun x=>x==s) b h e⟩ (by omega)
 . (repeat' (refine wP ?_<;>try simp only [B5 a,go_sem]));rw [AR (by omega)] at b;rw [Co (p:=fun x=>x==s) b];rfl
def YI (l:List M) (s:M):(Dz l s).isSome=l.contains s:=by
 induction l with
 |nil=>rfl
 |cons x l a=>
  rw [Dz,RH];cases h:(x==s) with
  |true=>rw [BEq.comm,h];rfl
  |false=>rw [show (s==x)=(x==s) from BEq.comm,h];simp [a]
def Zq (l:List M) (s:M) (A:X):AS Tzp 92 [.d (.sl (l.map CG)),.d (.str s)] A (fun v H=>v= .d (.bool (l.contains s))/\H=A):=by
 refine Sz.go ?_;(repeat' (first|refine wP ?_|refine AN.det (WK l s A) ?_|fail)<;>try simp only [N0,YI,go_sem])
def lH (l:List M) (x:M):Dl (l++[x])=(Dl l||(!(x==[])&&l.contains x)):=by
 induction l with
 |nil=>
  have:Dl [x]=false:=by rw [Dl,Dl];simp
  rw [A3,this];simp [Dl]
 |cons y l j=>
  rw [AU,Dl,j,Dl,RH]
  have i:(l++[x]).contains y=(l.contains y||(x==y)):=by
   rw [C2];simp only [B8,A2,A9,EH,beq_iff_eq];constructor
   . rintro (h|h)
     . exact .inl h
     . exact .inr h.symm
   . rintro (h|h)
     . exact .inl h
     . exact .inr h.symm
  rw [i];by_cases a:x=y
  . subst a;have e:(x==x)=true:=by simp
    rw [e];generalize (x==([]:M))=b;generalize Dl l=c;generalize l.contains x=d;cases b<;>cases c<;>cases d<;>rfl
  . have e:(x==y)=false:=by simpa using a
    rw [e];generalize (x==([]:M))=b;generalize (y==([]:M))=f;generalize Dl l=c;generalize l.contains x=d;generalize l.contains y=g;cases b<;>cases c<;>cases d<;>cases f<;>cases g<;>rfl
def AFY {l:List M} (h:Dl (l.take i)=true):Dl l=true:=by
 rw [<- Am i l];generalize l.drop i=m;generalize l.take i=k at h
 induction m generalizing k with
 |nil=>simpa using h
 |cons x m a=>
  rw [show k++x::m=(k++[x])++m by simp];exact a (k++[x]) (by rw [lH,h];rfl)
def AS7 {l:List M} (h:i<=l.length):Z3 (l.map CG) none (some (.d (.int .i64 (i:Int)))) none 1=some (.d (.sl ((l.take i).map CG))):=by
 simp [Z3,fZ,Vm,h,List.map_take]
def SD (l:List M) (A:X):AS Tzp 43 [.d (.sl (l.map CG))] A (fun v H=>v= .d (.bool (Dl l))/\H=A):=by
 refine iO (by simp) ?_;rw [Dx];refine W.slot 0 (fun j=>?_);simp only [DR,if_true,I.Ep,AA] at j;(repeat' (refine wQ ?_<;>try simp only [AA,go_sem]));refine lpK (fun (i:Nat)=>[(7,.d (.int .i64 i))]) (fun _=>A) (fun i=>i<=l.length/\Dl (l.take i)=false) (fun i=>l.length - i) ?_ 0 ⟨by simp,by simp [Dl]⟩;rintro i ⟨o,c⟩ n;by_cases b:i < l.length
 . obtain ⟨x,m⟩:=Ak b;have h:=Au (J:=CG) m;simp only [CG] at h;have d:IntKind.i64.wrap ((i:Int)+1)=((i+1:Nat):Int):=by rw [B2 (by omega) (by omega)];omega
   have k:=AS7 o;have a:=lH (l.take i) x;rw [<- Aa m,c,MP] at a;cases e:(x==[]) with
   |true=>
    rw [e] at a;(repeat' (refine wQ ?_<;>try simp only [BI b,h,d,ON,e,go_sem]));exact n (i+1) ⟨by omega,by simpa using a⟩ (by omega)
   |false=>
    rw [e] at a;have g:=Zq (l.take i) x A;cases f:(l.take i).contains x with
    |true=>
     rw [f] at g a;(repeat' ((first|refine wP ?_|refine AN.det (g) ?_|fail)<;>try simp only [BI b,h,ON,e,k,go_sem]));rw [AFY (i:=i+1) (by simpa using a)]
    |false=>
     rw [f] at g a;(repeat' ((first|refine wQ ?_|refine AN.det (g) ?_|fail)<;>try simp only [BI b,h,d,ON,e,k,go_sem]));exact n (i+1) ⟨by omega,by simpa using a⟩ (by omega)
 . (repeat' (refine wP ?_<;>try simp only [B5 b,go_sem]));rw [AR (by omega)] at c;rw [c]
def Jg {S Q09:Type} (vis:S->Q09->Int×S):List Q09->S->Option (Nat×Int)×S
 |[],s=>(none,s)
 |x::l,s=>if (vis s x).1=0 then (((Jg vis l (vis s x).2).1.map fun y=>(y.1+1,y.2)),(Jg vis l (vis s x).2).2) else (some (0,(vis s x).1),(vis s x).2)
def sZ {S Q09:Type} {vis:S->Q09->Int×S}:∀(l m:List Q09) (s a:S),Jg vis l s=(none,a)->Jg vis (l++m) s=(((Jg vis m a).1.map fun y=>(y.1+l.length,y.2)),(Jg vis m a).2)
 |[],m,s,a,h=>by
  simp only [Jg,B3,true_and] at h;subst h;simp
 |x::l,m,s,a,h=>by
  simp only [Jg] at h;split at h
  . rename_i b;simp only [B3,Option.map_eq_none_iff] at h;have:=sZ l m (vis s x).2 a (Prod.ext h.1 h.2);rw [AU,Jg,if_pos b,this];simp only [Option.map_map,AT,B3,and_true];congr 1
  . simp at h
def zC {S Q09:Type} {vis:S->Q09->Int×S}:∀(l m:List Q09) (s a:S) (r:Nat×Int),Jg vis l s=(some r,a)->Jg vis (l++m) s=(some r,a)
 |[],m,s,a,r,h=>by simp [Jg] at h
 |x::l,m,s,a,r,h=>by
  simp only [Jg] at h;split at h
  . rename_i b;simp only [B3,AO] at h;obtain ⟨⟨y,d,rfl⟩,c⟩:=h;have:=zC l m (vis s x).2 a y (Prod.ext d c);rw [AU,Jg,if_pos b,this];rfl
  . rename_i b;rw [AU,Jg,if_neg b];exact h
def nW {S Q09:Type} {vis:S->Q09->Int×S}:∀(l:List Q09) (s a:S) (r:Nat×Int),Jg vis l s=(some r,a)->r.2≠0
 |[],s,a,r,h=>by simp [Jg] at h
 |x::l,s,a,r,h=>by
  simp only [Jg] at h;split at h
  . simp only [B3,AO] at h;obtain ⟨⟨y,d,rfl⟩,c⟩:=h;exact nW l (vis s x).2 a y (Prod.ext d c)
  . rename_i b;simp only [B3,AP] at h;rw [<- h.1];exact b
def bQ (o:Int) (n:M) (ns sc:List M) (k:Ex):∀(l:List Ex) (i:Nat),CA o n ns sc i (l++[k])=CA o n ns sc i l++Bl k (Ct o n ns sc (i+l.length))
 |[],i=>by simp [CA]
 |x::l,i=>by
  rw [AU,CA,CA,bQ o n ns sc k l (i+1),Ax,AT,show i+1+l.length=i+(l.length+1) by omega]
def y5 (o:Int) (n:M) (ns sc:List M) (m:List Ex):∀(l:List Ex) (i:Nat),CA o n ns sc i (l++m)=CA o n ns sc i l++CA o n ns sc (i+l.length) m
 |[],i=>by simp [CA]
 |x::l,i=>by
  rw [AU,CA,CA,y5 o n ns sc m l (i+1),Ax,AT,show i+1+l.length=i+(l.length+1) by omega]
def Yu (sc:List M) (m:List Al):∀l:List Al,Cw sc (l++m)=Cw sc l++Cw sc m
 |[]=>by simp [Cw]
 |x::l=>by rw [AU,Cw,Cw,Yu sc m l,Ax]
mutual
def Ip:∀(e:Ex) (sc:List M),(Bl e sc).length=e.size
 | .mk o n u ns ks al,sc=>by rw [Bl,AT,A0,JR o n ns sc 0 ks,Un sc al,Ex.size];omega
def JR (o:Int) (n:M) (ns sc:List M):∀(i:Nat) (l:List Ex),(CA o n ns sc i l).length=Ex.AQ l
 |_,[]=>by simp [CA,Ex.AQ]
 |i,k::l=>by rw [CA,A0,Ip k _,JR o n ns sc (i+1) l,Ex.AQ]
def ASK:∀(a:Al) (sc:List M),(Um a sc).length=a.size
 | .mk c vs b,sc=>by rw [Um,Ip b _,Al.size]
def Un (sc:List M):∀l:List Al,(Cw sc l).length=Al.AQ l
 |[]=>by simp [Cw,Al.AQ]
 |a::l=>by rw [Cw,A0,ASK a sc,Un sc l,Al.AQ]
end
section
variable {S:Type} (vis:S->Ex×List M->Int×S) (hS:S->X) (j:Nat) (fv:I)
def WH (n:Nat) (s:S):X:=(hS s).AI j [.d (.int .i64 n),fv]
def WQ (l:List (Ex×List M)) (n:Nat) (s:S) (v:I) (H:X):Prop:=
 match Jg vis l s with
 |(none,s')=>v= .d (.int .i64 0)/\H=WH hS j fv (n+l.length - 1) s'
 |(some (k,c),s')=>c≠0/\v= .d (.int .i64 c)/\H=WH hS j fv (n+k) s'
def AJQ (fid:FuncId) (first Ae:List I) (l:List (Ex×List M)):Prop:=
 ∀x∈l,∀(s:S) (n:Nat),AS Tzp fid (first++[exA x.1,.d (bdL x.2)]++Ae) (WH hS j fv n s) (fun v H=>v= .d (.int .i64 (vis s x).1)/\H=WH hS j fv n (vis s x).2)
end
def AQ6 (o:Int) (n:M) (ns sc:List M) (i:Nat):bdL (Ct o n ns sc i)=bdL (if (o=7\/o=17)/\i=1 then sc++[n] else if (o=8/\i=1)\/o=11 then sc++ns else sc):=by
 unfold Ct;split
 . split
   . rename_i h;rw [oU _ _ (by simp [h])]
   . rfl
 . rfl
def AW3 {S:Type} (vis:S->Ex×List M->Int×S) (hS:S->X) (j:Nat) (fid:FuncId) (first Ae:List I) (hb:CP Tzp fid=true) (hp:first.all I.BS=true) (ho:Ae.all I.BS=true):
 ∀(N:Nat) (e:Ex) (sc:List M) (n:Nat) (s:S),e.size<=N->n+e.size<=1000000000->AJQ vis hS j (.fn fid first Ae) fid first Ae (Bl e sc)->
 AS Tzp 162 [.gp j 0,exA e,.d (bdL sc)] (WH hS j (.fn fid first Ae) n s) (WQ vis hS j (.fn fid first Ae) (Bl e sc) n s):=by
 intro N
 induction N with
 |zero=>intro e sc n s h;have:=Ex.size_pos e;omega
 |succ N hn=>
 intro e sc n s hN hs h5;have K:=h5 (e,sc) (by cases e;rw [Bl];exact AY ..) s n;obtain ⟨o,nm,u,ns,ks,al⟩:=e;simp only [Ex.size] at hN hs;have fs:=Ex.CL ks;have ht:=Al.CL al;refine ZU.go ?_;rw [DN,exA,Ex.A6];simp only [exA,Ex.A6,AB,AJ] at K;generalize hV:WQ vis hS j (.fn fid first Ae) (Bl (.mk o nm u ns ks al) sc) n s=Q07
 have hg:(first++[I.agg [A1 o,Gb nm,A1 u,BU (ns.map CG),BU (ks.map Ex.J),BU (al.map Al.J)],.d (bdL sc)]++Ae).all I.BS=true:=by
  simp [hp,ho,Je,CY]
 have F:∀n s,(WH hS j (.fn fid first Ae) n s).C j=some [A1 n,.fn fid first Ae]:=fun n s=>by simp only [WH,AD,if_true]
 cases hv:decide ((vis s (.mk o nm u ns ks al,sc)).1=0) with
 |false=>
  have Y:(vis s (.mk o nm u ns ks al,sc)).1≠0:=by simpa using hv
  have R:((vis s (.mk o nm u ns ks al,sc)).1 != 0)=true:=by simpa using Y
  (repeat' (first|refine wR ?_|(refine ⟨fid,first,Ae,rfl,hb,AN.mk hg K ?_⟩;rintro _ _ ⟨rfl,rfl⟩)|fail)<;>try simp only [F,R,go_sem]);rw [<- hV,WQ,Bl,Jg,if_neg Y];exact ⟨Y,rfl,rfl⟩
 |true=>
 have Y:(vis s (.mk o nm u ns ks al,sc)).1=0:=by simpa using hv
 have R:((vis s (.mk o nm u ns ks al,sc)).1 != 0)=false:=by simp [Y]
 (repeat' (first|refine wQ ?_|(refine ⟨fid,first,Ae,rfl,hb,AN.mk hg K ?_⟩;rintro _ _ ⟨rfl,rfl⟩)|fail)<;>try simp only [F,R,AA,go_sem]);have hk:Jg vis [((.mk o nm u ns ks al:Ex),sc)] s=(none,(vis s (.mk o nm u ns ks al,sc)).2):=by simp [Jg,Y]
 generalize (vis s (.mk o nm u ns ks al,sc)).2=s0 at hk ⊢;clear K hg hv Y R
 have h0:∀(l m:List (Ex×List M)) (k:Nat) (c:Int) (s':S),Bl (.mk o nm u ns ks al) sc=l++m->c≠0->Jg vis l s=(some (k,c),s')->Q07 (A1 c) (WH hS j (.fn fid first Ae) (n+k) s'):=fun l m k c s' he r hr=>by
  rw [<- hV,WQ,he,zC l m s s' (k,c) hr];exact ⟨r,rfl,rfl⟩
 have h4:Bl (.mk o nm u ns ks al) sc=((.mk o nm u ns ks al:Ex),sc)::(CA o nm ns sc 0 ks++Cw sc al):=by rw [Bl]
 refine lpK (fun (y:Nat×S)=>[(28,A1 y.1)]) (fun y=>WH hS j (.fn fid first Ae) (n+Ex.AQ (ks.take y.1)) y.2)
  (fun y=>y.1<=ks.length/\Jg vis (((.mk o nm u ns ks al:Ex),sc)::CA o nm ns sc 0 (ks.take y.1)) s=(none,y.2)) (fun y=>ks.length - y.1) ?_ (0,s0) ⟨by simp,by simpa [CA] using hk⟩
 rintro ⟨i,t⟩ ⟨hi,D⟩ ih;simp only at hi D;by_cases p:i < ks.length
 . obtain ⟨x,hx⟩:=Ak p;have he:=Au (J:=Ex.J) hx;have h9:=wS i;have hm:=Ex.MA (AE hx)
   have hd:Ex.AQ (ks.take i)+x.size+Ex.AQ (ks.drop (i+1))=Ex.AQ ks:=by
    conv=>rhs;rw [<- Am i ks,Ex.CF,Cs hx,Ex.AQ]
    omega
   have hl:Ex.AQ (ks.take (i+1))=Ex.AQ (ks.take i)+x.size:=by rw [Aa hx,Ex.CF];simp [Ex.AQ]
   have ha:IntKind.i64.wrap (((n+Ex.AQ (ks.take i):Nat):Int)+1)=((n+Ex.AQ (ks.take i)+1:Nat):Int):=Gv (by omega)
   have Q:CA o nm ns sc 0 (ks.take (i+1))=CA o nm ns sc 0 (ks.take i)++Bl x (Ct o nm ns sc i):=by
    rw [Aa hx,bQ,Bs,I4 (by omega),Av]
   have P:Bl (.mk o nm u ns ks al) sc=(((.mk o nm u ns ks al:Ex),sc)::CA o nm ns sc 0 (ks.take (i+1)))++(CA o nm ns sc (i+1) (ks.drop (i+1))++Cw sc al):=by
    rw [h4,AU,<- Ax];congr 2
    conv=>lhs;rw [<- Am (i+1) ks,y5,Bs,I4 (by omega),Av]
   have h3:(((.mk o nm u ns ks al:Ex),sc)::CA o nm ns sc 0 (ks.take i)).length=1+Ex.AQ (ks.take i):=by
    rw [AT,JR];omega
   have b:=sZ (vis:=vis) _ (Bl x (Ct o nm ns sc i)) s t D;rw [AU,<- Q,h3] at b
   have h6:AJQ vis hS j (.fn fid first Ae) fid first Ae (Bl x (Ct o nm ns sc i)):=fun y hy=>h5 y (by
    rw [P,A2,Ah,Q,A2];exact .inl (.inr (.inr hy)))
   have r:=hn x (Ct o nm ns sc i) (n+Ex.AQ (ks.take i)+1) t (by omega) (by omega) h6;have d:=AQ6 o nm ns sc i;generalize ds:Ct o nm ns sc i=L at r b d h6 Q;have T:∀m:Nat,(WH hS j (.fn fid first Ae) (n+Ex.AQ (ks.take i)) t).AI j [A1 m,.fn fid first Ae]=WH hS j (.fn fid first Ae) m t:=fun m=>by simp only [WH,C4]
   rcases z:Jg vis (Bl x L) t with ⟨_|⟨k,c⟩,t'⟩
   . have r:AS Tzp 162 [.gp j 0,exA x,.d (bdL L)] (WH hS j (.fn fid first Ae) (n+Ex.AQ (ks.take i)+1) t) (fun v H=>v=A1 0/\H=WH hS j (.fn fid first Ae) (n+Ex.AQ (ks.take (i+1))) t'):=r.mono (by
      intro v H h;simp only [WQ,z] at h;rw [Ip] at h;obtain ⟨rfl,rfl⟩:=h;have:=Ex.size_pos x;refine ⟨rfl,?_⟩;congr 1;omega)
     rw [z] at b;simp only [Option.map_none] at b;obtain ⟨xo,xn,xu,xs,xk,xa⟩:=x;simp only [Ex.A6,exA,AB,AJ] at he r;(repeat' first|refine W.cb rfl ?_|((first|refine rgQ mxQ ?_|refine cdQ ?_)<;>try simp only [BI p,go_sem])|fail);refine W.block ?_;(repeat' first|refine W.cb rfl ?_|((first|refine rgQ mxQ ?_|refine cdQ ?_)<;>try simp only [he,go_sem])|fail);refine W.ARZ (α:=Unit) [0,2,4,9,10,26,27,28] (fun _=>put 0 (.gp j 0) (put 2 (.d (bdL sc)) (put 4 (.lp 4 0) (put 9 (.lp 9 0) (put 10 (.d (bdL L)) (put 26 (BU (ks.map Ex.J)) (put 27 (A1 ks.length) (put 28 (A1 i) U)))))))) (CN 4 [A1 o,Gb nm,A1 u,BU (ns.map CG),BU (ks.map Ex.J),BU (al.map Al.J)] (CN 9 [A1 xo,Gb xn,A1 xu,BU (xs.map CG),BU (xk.map Ex.J),BU (xa.map Al.J)] E)) (WH hS j (.fn fid first Ae) (n+Ex.AQ (ks.take i)) t) (fun _=>True) ?_ ?_
     . rintro ⟨⟩ _;(repeat' first|((first|refine wQ ?_|(refine AN.mk rfl r ?_;rintro _ _ ⟨rfl,rfl⟩)|fail)<;>try simp only [F,ha,T,h9,go_sem])|(constructor<;>intro h<;>first|(cases h;done)|try simp only [h])|fail);exact ih (i+1,t') ⟨by simp only;omega,b⟩ (by simp only;omega)
     . intro w;clear r;have g:((i:Int)==1)=decide (i=1):=by rw [C2];simp only [beq_iff_eq,decide_eq_true_eq];omega
       have f:=Yz sc ns (WH hS j (.fn fid first Ae) (n+Ex.AQ (ks.take i)) t);have B:=Yz sc [nm] (WH hS j (.fn fid first Ae) (n+Ex.AQ (ks.take i)) t);simp only [AB,AJ,CG] at B;have key:=fun (F':Fm) (L':Lm) h1 h2=>w F' L' () h1 h2 trivial;clear w;by_cases q:o=11
       . subst q;rw [if_neg (by omega),if_pos (.inr rfl)] at d;rw [<- d] at f;(repeat' first|(refine key _ _ (by simp only [go_sem]) (by simp only [go_sem]))|refine ctQ rfl ?_|((first|refine rgQ mxQ ?_|refine cdQ ?_|refine AN.det (f) ?_)<;>try simp only [go_sem])|fail)
       by_cases h8:o=8/\i=1
       . obtain ⟨rfl,rfl⟩:=h8;rw [if_neg (by omega),if_pos (.inl ⟨rfl,rfl⟩)] at d;rw [<- d] at f;(repeat' first|(refine key _ _ (by simp only [go_sem]) (by simp only [go_sem]))|refine ctQ rfl ?_|((first|refine rgQ mxQ ?_|refine cdQ ?_|refine AN.det (f) ?_)<;>try simp only [Ad,g,go_sem])|fail)
       by_cases Z:(o=7\/o=17)/\i=1
       . rw [if_pos Z] at d;rw [<- d] at B;obtain ⟨Z,rfl⟩:=Z;rcases Z with rfl|rfl
         all_goals (repeat' first|(refine key _ _ (by simp only [go_sem]) (by simp only [go_sem]))|refine ctQ rfl ?_|((first|refine rgQ mxQ ?_|refine cdQ ?_|refine AN.det (B) ?_)<;>try simp only [Ad,g,go_sem])|fail)
       . rw [if_neg Z,if_neg (by omega)] at d
         have hA:(o==8&&decide (i=1))=false:=by
          rw [M5];intro h;exact h8 (by simpa using h)
         have hB:((o==7||o==17)&&decide (i=1))=false:=by
          rw [M5];intro h;exact Z (by simpa using h)
         (repeat' first|(refine key _ _ (by simp only [go_sem,d]) (by simp only [go_sem]))|refine ctQ rfl ?_|(refine RA (by first|exact GV.t|exact GV.f|exact GV.st|exact GV.sf) ⟨?_,fun h=>?_,?_⟩;rotate_left;(focus ((try simp only [AM,OS] at h);simp only [go_sem];first|exact Is.mk|exact Is.pv (by simp only [h,WY,g,go_sem];rfl)));(try simp only [↓Vq,↓lD,hA,hB,go_sem]))|((first|refine rgQ mxQ ?_|refine cdQ ?_)<;>try simp only [Fb q,go_sem])|fail)
   . have r:AS Tzp 162 [.gp j 0,exA x,.d (bdL L)] (WH hS j (.fn fid first Ae) (n+Ex.AQ (ks.take i)+1) t) (fun v H=>v=A1 c/\H=WH hS j (.fn fid first Ae) (n+(k+(1+Ex.AQ (ks.take i)))) t'/\c≠0):=r.mono (by
      intro v H h;simp only [WQ,z] at h;obtain ⟨G,rfl,rfl⟩:=h;refine ⟨rfl,?_,G⟩;congr 1;omega)
     rw [z] at b;simp only [Ap] at b;have G:c≠0:=nW _ _ _ _ z;have R:(c != 0)=true:=by simpa using G
     obtain ⟨xo,xn,xu,xs,xk,xa⟩:=x;simp only [Ex.A6,exA,AB,AJ] at he r;(repeat' first|refine W.cb rfl ?_|((first|refine rgQ mxQ ?_|refine cdQ ?_)<;>try simp only [BI p,go_sem])|fail);refine W.block ?_;(repeat' first|refine W.cb rfl ?_|((first|refine rgQ mxQ ?_|refine cdQ ?_)<;>try simp only [he,go_sem])|fail);refine W.ARZ (α:=Unit) [0,2,4,9,10,26,27,28] (fun _=>put 0 (.gp j 0) (put 2 (.d (bdL sc)) (put 4 (.lp 4 0) (put 9 (.lp 9 0) (put 10 (.d (bdL L)) (put 26 (BU (ks.map Ex.J)) (put 27 (A1 ks.length) (put 28 (A1 i) U)))))))) (CN 4 [A1 o,Gb nm,A1 u,BU (ns.map CG),BU (ks.map Ex.J),BU (al.map Al.J)] (CN 9 [A1 xo,Gb xn,A1 xu,BU (xs.map CG),BU (xk.map Ex.J),BU (xa.map Al.J)] E)) (WH hS j (.fn fid first Ae) (n+Ex.AQ (ks.take i)) t) (fun _=>True) ?_ ?_
     . rintro ⟨⟩ _;(repeat' (first|refine wR ?_|(refine AN.mk rfl r ?_;rintro _ _ ⟨rfl,rfl,_⟩)|fail)<;>try simp only [F,ha,T,R,go_sem]);exact h0 _ _ _ _ _ P G b
     . intro w;clear r;have g:((i:Int)==1)=decide (i=1):=by rw [C2];simp only [beq_iff_eq,decide_eq_true_eq];omega
       have f:=Yz sc ns (WH hS j (.fn fid first Ae) (n+Ex.AQ (ks.take i)) t);have B:=Yz sc [nm] (WH hS j (.fn fid first Ae) (n+Ex.AQ (ks.take i)) t);simp only [AB,AJ,CG] at B;have key:=fun (F':Fm) (L':Lm) h1 h2=>w F' L' () h1 h2 trivial;clear w;by_cases q:o=11
       . subst q;rw [if_neg (by omega),if_pos (.inr rfl)] at d;rw [<- d] at f;(repeat' first|(refine key _ _ (by simp only [go_sem]) (by simp only [go_sem]))|refine ctQ rfl ?_|((first|refine rgQ mxQ ?_|refine cdQ ?_|refine AN.det (f) ?_)<;>try simp only [go_sem])|fail)
       by_cases h8:o=8/\i=1
       . obtain ⟨rfl,rfl⟩:=h8;rw [if_neg (by omega),if_pos (.inl ⟨rfl,rfl⟩)] at d;rw [<- d] at f;(repeat' first|(refine key _ _ (by simp only [go_sem]) (by simp only [go_sem]))|refine ctQ rfl ?_|((first|refine rgQ mxQ ?_|refine cdQ ?_|refine AN.det (f) ?_)<;>try simp only [Ad,g,go_sem])|fail)
       by_cases Z:(o=7\/o=17)/\i=1
       . rw [if_pos Z] at d;rw [<- d] at B;obtain ⟨Z,rfl⟩:=Z;rcases Z with rfl|rfl
         all_goals (repeat' first|(refine key _ _ (by simp only [go_sem]) (by simp only [go_sem]))|refine ctQ rfl ?_|((first|refine rgQ mxQ ?_|refine cdQ ?_|refine AN.det (B) ?_)<;>try simp only [Ad,g,go_sem])|fail)
       . rw [if_neg Z,if_neg (by omega)] at d
         have hA:(o==8&&decide (i=1))=false:=by
          rw [M5];intro h;exact h8 (by simpa using h)
         have hB:((o==7||o==17)&&decide (i=1))=false:=by
          rw [M5];intro h;exact Z (by simpa using h)
         (repeat' first|(refine key _ _ (by simp only [go_sem,d]) (by simp only [go_sem]))|refine ctQ rfl ?_|(refine RA (by first|exact GV.t|exact GV.f|exact GV.st|exact GV.sf) ⟨?_,fun h=>?_,?_⟩;rotate_left;(focus ((try simp only [AM,OS] at h);simp only [go_sem];first|exact Is.mk|exact Is.pv (by simp only [h,WY,g,go_sem];rfl)));(try simp only [↓Vq,↓lD,hA,hB,go_sem]))|((first|refine rgQ mxQ ?_|refine cdQ ?_)<;>try simp only [Fb q,go_sem])|fail)
 . have hf:ks.take i=ks:=AR (by omega);rw [hf] at D;clear ih;(repeat' refine wQ ?_<;>simp only [B5 p,AA,hf,go_sem])
   refine lpK (fun (y:Nat×S)=>[(85,A1 y.1)]) (fun y=>WH hS j (.fn fid first Ae) (n+Ex.AQ ks+Al.AQ (al.take y.1)) y.2)
    (fun y=>y.1<=al.length/\Jg vis (((.mk o nm u ns ks al:Ex),sc)::(CA o nm ns sc 0 ks++Cw sc (al.take y.1))) s=(none,y.2)) (fun y=>al.length - y.1) ?_ (0,t) ⟨by simp,by simpa [Cw] using D⟩
   clear D hi p hf;rintro ⟨i,t⟩ ⟨hi,D⟩ ih;simp only at hi D;by_cases p:i < al.length
   . obtain ⟨a,hx⟩:=Ak p;have he:=Au (J:=Al.J) hx;have h9:=wS i;have hm:=Al.MA (AE hx)
     have hd:Al.AQ (al.take i)+a.size+Al.AQ (al.drop (i+1))=Al.AQ al:=by
      conv=>rhs;rw [<- Am i al,Al.CF,Cs hx,Al.AQ]
      omega
     have hl:Al.AQ (al.take (i+1))=Al.AQ (al.take i)+a.size:=by rw [Aa hx,Al.CF];simp [Al.AQ]
     have ha:IntKind.i64.wrap (((n+Ex.AQ ks+Al.AQ (al.take i):Nat):Int)+1)=((n+Ex.AQ ks+Al.AQ (al.take i)+1:Nat):Int):=Gv (by omega)
     have Q:Cw sc (al.take (i+1))=Cw sc (al.take i)++Um a sc:=by
      rw [Aa hx,Yu];simp [Cw]
     have P:Bl (.mk o nm u ns ks al) sc=(((.mk o nm u ns ks al:Ex),sc)::(CA o nm ns sc 0 ks++Cw sc (al.take (i+1))))++Cw sc (al.drop (i+1)):=by
      rw [h4,AU,Ax,<- Yu,Am]
     have h3:(((.mk o nm u ns ks al:Ex),sc)::(CA o nm ns sc 0 ks++Cw sc (al.take i))).length=1+Ex.AQ ks+Al.AQ (al.take i):=by
      rw [AT,A0,JR,Un];omega
     have b:=sZ (vis:=vis) _ (Um a sc) s t D;rw [AU,Ax,<- Q,h3] at b;obtain ⟨ac,av,x⟩:=a;rw [Um] at b Q;simp only [Al.size] at hm hl hd
     have h6:AJQ vis hS j (.fn fid first Ae) fid first Ae (Bl x (sc++av)):=fun y hy=>h5 y (by
      rw [P,A2,Ah,A2,Q,A2];exact .inl (.inr (.inr (.inr hy))))
     have r:=hn x (sc++av) (n+Ex.AQ ks+Al.AQ (al.take i)+1) t (by omega) (by omega) h6;have hj:=Yz sc av;generalize sc++av=L at r b h6 Q hj;have T:∀m:Nat,(WH hS j (.fn fid first Ae) (n+Ex.AQ ks+Al.AQ (al.take i)) t).AI j [A1 m,.fn fid first Ae]=WH hS j (.fn fid first Ae) m t:=fun m=>by simp only [WH,C4]
     rcases z:Jg vis (Bl x L) t with ⟨_|⟨k,c⟩,t'⟩
     . have r:AS Tzp 162 [.gp j 0,exA x,.d (bdL L)] (WH hS j (.fn fid first Ae) (n+Ex.AQ ks+Al.AQ (al.take i)+1) t) (fun v H=>v=A1 0/\H=WH hS j (.fn fid first Ae) (n+Ex.AQ ks+Al.AQ (al.take (i+1))) t'):=r.mono (by
        intro v H h;simp only [WQ,z] at h;rw [Ip] at h;obtain ⟨rfl,rfl⟩:=h;have:=Ex.size_pos x;refine ⟨rfl,?_⟩;congr 1;omega)
       rw [z] at b;simp only [Option.map_none] at b;obtain ⟨xo,xn,xu,xs,xk,xa⟩:=x;simp only [Al.A6,Ex.A6,exA,AB,AJ] at he r;(repeat' first|((first|refine wQ ?_|(refine AN.mk rfl r ?_;rintro _ _ ⟨rfl,rfl⟩)|refine AN.det (hj _) ?_|fail)<;>try simp only [BI p,he,F,ha,T,h9,go_sem])|(constructor<;>intro h<;>first|(cases h;done)|try simp only [h])|fail);exact ih (i+1,t') ⟨by simp only;omega,b⟩ (by simp only;omega)
     . have r:AS Tzp 162 [.gp j 0,exA x,.d (bdL L)] (WH hS j (.fn fid first Ae) (n+Ex.AQ ks+Al.AQ (al.take i)+1) t) (fun v H=>v=A1 c/\H=WH hS j (.fn fid first Ae) (n+(k+(1+Ex.AQ ks+Al.AQ (al.take i)))) t'/\c≠0):=r.mono (by
        intro v H h;simp only [WQ,z] at h;obtain ⟨G,rfl,rfl⟩:=h;refine ⟨rfl,?_,G⟩;congr 1;omega)
       rw [z] at b;simp only [Ap] at b;have G:c≠0:=nW _ _ _ _ z;have R:(c != 0)=true:=by simpa using G
       obtain ⟨xo,xn,xu,xs,xk,xa⟩:=x;simp only [Al.A6,Ex.A6,exA,AB,AJ] at he r;(repeat' (first|refine wR ?_|(refine AN.mk rfl r ?_;rintro _ _ ⟨rfl,rfl,_⟩)|refine AN.det (hj _) ?_|fail)<;>try simp only [BI p,he,F,ha,T,R,go_sem]);exact h0 _ _ _ _ _ P G b
   . rw [AR (by omega)] at D;have hq:al.take i=al:=AR (by omega);(repeat' refine wR ?_<;>simp only [B5 p,go_sem]);rw [<- hV,WQ,h4,D,hq];refine ⟨rfl,?_⟩;congr 1;rw [AT,A0,JR,Un];omega
theorem Mu (l:List Con) (s:M):l.findIdx? (fun c=>c.name==s)=KD l s:=by
 induction l with
 |nil=>rfl
 |cons x l a=>
  rw [List.findIdx?_cons,KD];split
  . rfl
  . rw [a]
def gY (s:M):∀(l m:List Dat),(∀d∈l,KD d.cons s=none)->Dy (l++m) s=(Dy m s).map fun x=>(x.1+l.length,x.2)
 |[],m,_=>by simp
 |d::l,m,h=>by
  rw [AU,Dy,h d (AY ..),gY s l m (fun x a=>h x (AZ _ a))];simp only [Option.map_map,AT];congr 1
def AJV {s:M} {k:Nat} {d:Dat} (h:∀d∈dt.take i,KD d.cons s=none) (a:dt[i]?=some d) (b:KD d.cons s=some k):Dy dt s=some (i,k):=by
 have c:=(AG.1 a).1;rw [<- Am i dt,gY s _ _ h,Cs a,Dy,b];simp;omega
def AJW {s:M} (h:∀d∈dt,KD d.cons s=none):Dy dt s=none:=by
 have:=gY s dt [] h;simpa [Dy] using this
def AHG {l:List Con} {s:M} {k:Nat} (h:KD l s=some k):∃c,l[k]?=some c/\c.name=s:=by
 rw [<- Mu,SJ] at h;obtain ⟨a,b,_⟩:=h;exact ⟨l[k],by simp [a],by simpa using b⟩
theorem Kz {s:M}:∀ {dt:List Dat} {x:Nat×Nat},Dy dt s=some x->∃d c,dt[x.1]?=some d/\d.cons[x.2]?=some c/\c.name=s
 |[],x,h=>by simp [Dy] at h
 |d::l,x,h=>by
  rw [Dy] at h;split at h
  . rename_i k i;cases h;obtain ⟨c,g,j⟩:=AHG i;exact ⟨d,c,rfl,g,j⟩
  . simp only [AO] at h;obtain ⟨y,m,rfl⟩:=h;obtain ⟨a,c,b,e,f⟩:=Kz m;exact ⟨a,c,by simpa using b,e,f⟩
def aM {s:M} {x:Nat×Nat} {d:Dat} {c:Con} (a:dt[x.1]?=some d) (b:d.cons[x.2]?=some c):arity dt x=c.args.length:=by
 simp [arity,a,b]
def pW (o:Option (Nat×Nat)):I:=match o with
 |some x=>.tup [.d (.int .i64 x.1),.d (.int .i64 x.2),.d (.bool true)]
 |none=>.tup [.d (.int .i64 0),.d (.int .i64 0),.d (.bool false)]
def uL (dt:List Dat):Prop:=∀d∈dt,d.cons.length<=1000000
def Lb (dt:List Dat) (r:uL dt) (s:M) (A:X):AS Tzp 44 [dsA dt,.d (.str s)] A (fun v H=>v=pW (Dy dt s)/\H=A):=by
 refine PC (by simp) ?_;rw [B4,dsA];refine W.slot 0 (fun o=>?_);simp only [DR,if_true,I.Ep,AA] at o;(repeat' (refine wQ ?_<;>try simp only [AA,go_sem]));refine lpK (fun (i:Nat)=>[(11,.d (.int .i64 i))]) (fun _=>A) (fun i=>i<=dt.length/\∀d∈dt.take i,KD d.cons s=none) (fun i=>dt.length - i) ?_ 0 ⟨by simp,by simp⟩;rintro i ⟨F,e⟩ D;by_cases f:i < dt.length
 . obtain ⟨d,m⟩:=Ak f;have t:=NX m;have u:IntKind.i64.wrap ((i:Int)+1)=((i+1:Nat):Int):=by rw [B2 (by omega) (by omega)];omega
   (repeat' (refine wQ ?_<;>try simp only [BI f,t,go_sem]));have B:=r d (AE m);have j:=fun k=>AJV (k:=k) e m;rw [<- Mu] at j;have g:=fun (h:KD d.cons s=none)=>Ea (p:=fun d:Dat=>(KD d.cons s).isSome) (i:=i) (fun y x=>by simp [e y x]) m (by rw [h];rfl);obtain ⟨E,dv,cs⟩:=d;simp only [AA] at *;(repeat' (refine wQ ?_<;>try simp only [AA,go_sem]));refine lpK (fun (k:Nat)=>[(20,.d (.int .i64 k))]) (fun _=>A) (fun k=>k<=cs.length/\∀c∈cs.take k,(c.name==s)=false) (fun k=>cs.length - k) ?_ 0 ⟨by simp,by simp⟩;rintro k ⟨G,b⟩ z;by_cases a:k < cs.length
   . obtain ⟨c,q⟩:=Ak a;have l:=Yg q;have w:=Gv (show k+1<=9000000000000000000 by omega);cases n:(c.name==s) with
     |true=>
      (repeat' (refine wP ?_<;>try simp only [BI a,t,l,CZ,n,go_sem]));rw [j k (Cn (p:=fun c:Con=>c.name==s) b q n)];rfl
     |false=>
      (repeat' (refine wQ ?_<;>try simp only [BI a,t,l,w,CZ,n,go_sem]));exact z (k+1) ⟨by omega,Ea (p:=fun c:Con=>c.name==s) b q n⟩ (by omega)
   . rw [AR (by omega)] at b;(repeat' (refine wQ ?_<;>try simp only [B5 a,u,go_sem]));refine D (i+1) ⟨by omega,fun y x=>?_⟩ (by omega);have:=g (by rw [<- Mu,Co (p:=fun c:Con=>c.name==s) b]) y x;simpa using this
 . (repeat' (refine wP ?_<;>try simp only [B5 f,go_sem]));rw [AR (by omega)] at e;rw [AJW e];rfl
def BP (l:List Bool):List I:=l.map fun b=>.d (.bool b)
def Tr (l:List Bool):(BP l).length=l.length:=by simp [BP]
def Gl {l:List Bool} {k:Nat} {x:Bool} (h:l[k]?=some x):(BP l)[k]?=some (.d (.bool x)):=by simp [BP,h]
def cK {l:List Bool} {k:Nat} (x:Bool) (h:k < l.length):wr (BP l) k [.d (.bool x)]=BP (l.set k x):=by
 unfold wr BP;rw [List.map_set,AO0,if_pos (by simpa using h)];simp
def Yd (n:Nat):(AH n [I.d (.bool false)]).flatten=BP (AH n false):=by
 induction n with
 |zero=>rfl
 |succ n a=>rw [Bg,BO,a,Bg];rfl
def uM (l:List Bool) (b:Bool) (j e:Nat) (A:X) (m:A.C j=some (BP l)) (q:l.length<=1000000000):AS Tzp 228 [.ms j l.length 1 e,.d (.bool b)] A (fun v H=>v= .d (.int .i64 (Hq (l.findIdx? (fun x=>b==x))))/\H=A):=by
 refine PD.go ?_;(repeat' refine wQ ?_<;>simp only [go_sem]);refine lpK (fun (i:Nat)=>[(8,A1 i)]) (fun _=>A) (fun i=>i<=l.length/\∀x∈l.take i,(b==x)=false) (fun i=>l.length - i) ?_ 0 ⟨by simp,by simp⟩;rintro i ⟨o,c⟩ n;by_cases a:i < l.length
 . obtain ⟨x,h⟩:=Ak a;have k:=Gl h;have d:((i:Int) < (l.length:Int))=True:=by simp;omega
   have g:=wS i;cases f:(b==x) with
   |true=>
    (repeat' refine wP ?_<;>simp only [d,m,k,f,Ag,go_sem]);rw [Cn (p:=fun x=>b==x) c h f];rfl
   |false=>
    (repeat' refine wQ ?_<;>simp only [d,m,k,g,f,Ag,go_sem]);exact n (i+1) ⟨by omega,Ea (p:=fun x=>b==x) c h f⟩ (by omega)
 . (repeat' refine wP ?_<;>simp only [B5 a,go_sem]);rw [AR (by omega)] at c;rw [Co (p:=fun x=>b==x) c];rfl
def fI (l:List Bool) (b:Bool) (j e:Nat) (A:X) (a:A.C j=some (BP l)) (c:l.length<=1000000000):AS Tzp 205 [.ms j l.length 1 e,.d (.bool b)] A (fun v H=>v= .d (.bool (l.any (fun x=>b==x)))/\H=A):=by
 refine Lr.go ?_;(repeat' (first|refine wP ?_|refine AN.det (uM l b j e A a c) ?_|fail)<;>try simp only [N0,Fy,go_sem])
def lN (b:Bool) (A:X):AS Tzp 205 [.Ac,.d (.bool b)] A (fun v H=>v= .d (.bool false)/\H=A):=by
 have d:AS Tzp 228 [.Ac,D1 b] A (dtV (A1 (-1)) A):=by
  refine PD.go ?_;rw [B4];have a:decide ((0:Int) < 0)=false:=by decide
  (repeat' (first|refine wP ?_|(refine W.loop ?_)|fail)<;>try simp only [a,go_sem])
 refine Lr.go ?_;rw [B4];have c:decide ((0:Int)<=-1)=false:=by decide
 (repeat' (first|refine wP ?_|refine AN.det (d) ?_|fail)<;>try simp only [c,go_sem])
def tW {S:Type} (vis:S->Ex×List M->Int×S) (b:S->X) (fid:FuncId) (first Ae:List I) (B:CP Tzp fid=true) (w:first.all I.BS=true) (r:Ae.all I.BS=true)
 (f:FE) (s:S) (D:f.body.size<=1000000) (m:∀t j,(b s).C j=none->(b t).C j=none) (p:∀j,(b s).C j=none->AJQ vis b j (.fn fid first Ae) fid first Ae (Bl f.body f.params)):
 AS Tzp 115 [feA f,.fn fid first Ae] (b s) (fun v H=>match Jg vis (Bl f.body f.params) s with
  |(none,d)=>v= .tup [.d (.int .i64 ((f.body.size - 1:Nat):Int)),.d (.int .i64 0)]/\H=b d
  |(some (k,c),d)=>v= .tup [.d (.int .i64 (k:Nat)),.d (.int .i64 c)]/\H=b d):=by
 refine mO.go ?_;rw [B4];have y:=fun A=>Yz [] f.params A;rw [show bdL []= .Dt from rfl] at y;have g:∀A,AS Tzp 163 [.Dt,BU (f.params.map CG)] A (dtV (.d (bdL f.params)) A):=fun A=>AS.plain (by simpa only [I.C3,Vr,K6,A3] using y A);clear y;have a:=fun j e=>AW3 vis b j fid first Ae B w r _ f.body f.params 0 s (AW _) (by omega) (p j e)
 have x:=Ip f.body f.params;have i:∀j n s,(WH b j (.fn fid first Ae) n s).C j=some [A1 n,.fn fid first Ae]:=fun j n s=>by simp only [WH,AD,if_true]
 rcases z:Jg vis (Bl f.body f.params) s with ⟨_|⟨k,c⟩,d⟩
 . have a:∀j,(b s).C j=none->AS Tzp 162 [.gp j 0,exA f.body,.d (bdL f.params)] (WH b j (.fn fid first Ae) 0 s) (fun v H=>v=A1 0/\H=WH b j (.fn fid first Ae) (f.body.size - 1) d):=fun j e=>(a j e).mono (by
    intro v H h;simp only [WQ,z] at h;rw [x,Av] at h;exact h)
   obtain ⟨nm,E,o,n,u,ns,ks,al⟩:=f;simp only [FE.J,Ex.A6,feA,exA,AB,AJ] at g a ⊢;(repeat' refine wQ ?_<;>simp only [go_sem]);intro j e;have q:(b s).AI j [A1 0,.fn fid first Ae]=WH b j (.fn fid first Ae) 0 s:=rfl;rw [q];have l:(b d).le (WH b j (.fn fid first Ae) ((Ex.mk o n u ns ks al).size - 1) d):=Bf (m d j e);(repeat' (first|refine wQ ?_|(refine AN.mk rfl (a j e) ?_;rintro _ _ ⟨rfl,rfl⟩)|(refine W.By WN l ?_)|refine AN.det (g _) ?_|fail)<;>try simp only [i,go_sem])
 . have a:∀j,(b s).C j=none->AS Tzp 162 [.gp j 0,exA f.body,.d (bdL f.params)] (WH b j (.fn fid first Ae) 0 s) (fun v H=>v=A1 c/\H=WH b j (.fn fid first Ae) k d):=fun j e=>(a j e).mono (by
    intro v H h;simp only [WQ,z] at h;rw [Av] at h;exact h.2)
   obtain ⟨nm,E,o,n,u,ns,ks,al⟩:=f;simp only [FE.J,Ex.A6,feA,exA,AB,AJ] at g a ⊢;(repeat' refine wQ ?_<;>simp only [go_sem]);intro j e;have q:(b s).AI j [A1 0,.fn fid first Ae]=WH b j (.fn fid first Ae) 0 s:=rfl;rw [q];have l:(b d).le (WH b j (.fn fid first Ae) k d):=Bf (m d j e);(repeat' (first|refine wQ ?_|(refine AN.mk rfl (a j e) ?_;rintro _ _ ⟨rfl,rfl⟩)|(refine W.By WN l ?_)|refine AN.det (g _) ?_|fail)<;>try simp only [i,go_sem])
def Ys {α:Type} [DecidableEq α]:∀ {l m:List α},l.Nodup->(∀x∈l,x∈m)->l.length<=m.length
 |[],m,_,_=>by simp
 |x::l,m,c,a=>by
  have b:=a x (AY ..);have e:(m.erase x).length=m.length - 1:=List.length_erase_of_mem b;have f:=List.length_pos_of_mem b
  have g:l.length<=(m.erase x).length:=Ys (List.nodup_cons.1 c).2 (fun y d=>(List.mem_erase_of_ne (by
   grind)).2 (a y (AZ _ d)))
  grind
def H2:List (Nat×Nat)->Nat
 |[]=>0
 |x::_=>x.1
def flg (xs:List (Nat×Nat)) (f n:Nat):List Bool:=(Aj n).map fun q=>xs.contains (f,q)
def exB:List (Nat×Nat)->Bool
 |[]=>true
 |x::l=>(x::l).all (fun y=>y.1==x.1)&&decide (x::l).Nodup
theorem V3 (a:List (Nat×Nat)) (f n:Nat):(flg a f n).length=n:=by simp [flg]
theorem nK (a:List (Nat×Nat)) {f:Nat} (h:q < n):(flg a f n)[q]?=some (a.contains (f,q)):=by simp [flg,h]
def AU6 (f n:Nat):flg [] f n=AH n false:=by
 apply Dw
 grind [nK,FO,V3]
def AQP {f d k:Nat} (h:d≠f\/(f,k)∈xs):flg (xs++[(d,k)]) f n=flg xs f n:=by
 unfold flg
 grind
def AKD {f k:Nat} (b:k < n):(flg xs f n).set k true=flg (xs++[(f,k)]) f n:=by
 apply Dw;intro q;by_cases h:q < n
 . rw [nK _ h,CT];by_cases a:k=q
   . subst a;rw [if_pos rfl,if_pos (by rw [V3];exact b)];congr 1;simp
   . rw [if_neg a,nK _ h]
     grind
 grind [FO,V3]
def AQF (a:xs≠[]) (d k:Nat):exB (xs++[(d,k)])=(exB xs&& !(d != H2 xs||xs.contains (H2 xs,k))):=by
 cases xs with
 |nil=>grind
 |cons x l=>
  simp only [AU,exB,H2]
  grind
def AME (k:xs≠[]) (e:∀x∈xs,x.1=H2 xs->x.2 < OJ dt (H2 xs)):
 Xg dt xs=(exB xs&& !(flg xs (H2 xs) (OJ dt (H2 xs))).any (fun x=>false==x)):=by
 cases xs with
 |nil=>grind
 |cons x l=>
  simp only [Xg,exB,H2] at e ⊢;generalize p:x::l=xs at e ⊢;generalize OJ dt x.1=n at e ⊢;rw [C2];simp only [AM,Ao,beq_iff_eq,decide_eq_true_eq,Du,List.any_eq_false];constructor
  . rintro ⟨⟨d,a⟩,f⟩;refine ⟨⟨d,a⟩,fun b g=>?_⟩;simp only [flg,BR,Cr] at g;obtain ⟨q,o,rfl⟩:=g;intro r;have h:¬(x.1,q)∈xs:=fun s=>by grind
    have:=Ys (m:=((Aj n).map fun q=>(x.1,q)).erase (x.1,q)) a (fun y c=>by
     grind)
    grind
  . rintro ⟨⟨d,a⟩,f⟩;refine ⟨⟨d,a⟩,?_⟩
    have j:=Ys (m:=(Aj n).map fun q=>(x.1,q)) a (fun y c=>by
     grind)
    have i:=Ys (l:=(Aj n).map fun q=>(x.1,q)) (m:=xs) (by
     grind [List.Pairwise.imp,Prod.mk.inj,List.nodup_range]) (fun y c=>by
     rw [BR] at c;obtain ⟨q,o,rfl⟩:=c;have:=f (xs.contains (x.1,q)) (by simp only [flg,BR];grind)
     grind)
    grind
def Zt (dt:List Dat) (m:List Al):∀ {l:List Al} {xs:List (Nat×Nat)},Ce dt l= .ok xs->Ce dt (l++m)=(Ce dt m).map (xs++·)
 |[],xs,h=>by
  simp only [Ce,Da] at h;subst h;simp only [A3];cases Ce dt m<;>rfl
 | .mk c vs b::l,xs,h=>by
  rw [AU,Ce];rw [Ce] at h;cases g:Dy dt c with
  |none=>grind
  |some x=>
   rw [g] at h;simp only at h ⊢;split at h
   . cases h
   . split at h
     . cases h
     . rename_i d f;rw [if_neg d,if_neg f];cases a:Ce dt l with
       |error e=>rw [a] at h;cases h
       |ok ys=>
        rw [a] at h;simp only [F7,Da] at h;subst h;rw [Zt dt m a];cases Ce dt m<;>rfl
def xD (dt:List Dat) (A:X) (xs:List (Nat×Nat)) (v:I) (V:X):Prop:=
 (xs=[]/\v= .Ac/\V=A)\/(xs≠[]/\∃k e,A.C k=none/\v= .ms k (OJ dt (H2 xs)) 1 e/\V=A.AI k (BP (flg xs (H2 xs) (OJ dt (H2 xs)))))
def xD.le {A:X} (h:xD dt A xs v V):A.le V:=by
 rcases h with ⟨_,_,rfl⟩|⟨_,k,e,a,_,rfl⟩
 . exact X.le_refl _
 . exact Bf a
theorem eL {d:Nat} {x:Dat} (h:dt[d]?=some x):OJ dt d=x.cons.length:=by simp [OJ,h]
def fW {dt:List Dat}:∀ {l:List Al} {xs:List (Nat×Nat)},Ce dt l= .ok xs->∀x∈xs,x.2 < OJ dt x.1
 |[],xs,h=>by grind [Ce,Da]
 | .mk c vs b::l,xs,h=>by
  rw [Ce] at h;cases f:Dy dt c with
  |none=>grind
  |some x=>
   rw [f] at h;simp only at h;split at h
   . cases h
   . split at h
     . cases h
     . cases a:Ce dt l with
       |error e=>rw [a] at h;cases h
       |ok ys=>
        rw [a] at h;simp only [F7,Da] at h;subst h;intro y d;rcases Ah.1 d with rfl|d
        . grind [Kz,eL,AG]
        . exact fW a y d
def AUZ:exB []=true:=rfl
def Xl (h:xs≠[]) (y:Nat×Nat):H2 (xs++[y])=H2 xs:=by
 cases xs with
 |nil=>exact absurd rfl h
 |cons x l=>rfl
def AUG (ds:List DE) (fs:List FE) (dt:List Dat) (h3:uL dt) (al:List Al) (A:X) (hj:al.length<=1000000):
 AS Tzp 165 [.agg [.d (.sl (ds.map DE.J)),.d (.sl (fs.map FE.J)),.d (.sl (dt.map Dat.J))],.d (.sl (al.map Al.J))] A (fun v H=>v= .d (.int .i64 (Nc dt al))/\H=A):=by
 refine Xv.go ?_;(repeat' refine wQ ?_<;>simp only [AA,go_sem])
 refine lpK (fun (y:Nat×List (Nat×Nat)×I×X)=>[(15,A1 y.1),(5,D1 (exB y.2.1)),(6,A1 (H2 y.2.1)),(7,y.2.2.1)]) (fun y=>y.2.2.2)
  (fun y=>y.1<=al.length/\y.2.1.length=y.1/\Ce dt (al.take y.1)= .ok y.2.1/\xD dt A y.2.1 y.2.2.1 y.2.2.2) (fun y=>al.length - y.1) ?_ (0,[],.Ac,A) ⟨by simp,rfl,rfl,.inl ⟨rfl,rfl,rfl⟩⟩
 rintro ⟨i,j,sv,V⟩ ⟨hi,U,Q,m⟩ ih;simp only at hi U Q m;by_cases r:i < al.length
 . obtain ⟨a,ha⟩:=Ak r;have he:=Au (J:=Al.J) ha;have Y:=wS i
   have b:Ce dt al=(Ce dt (a::al.drop (i+1))).map (j++·):=by
    conv=>lhs;rw [<- Am i al,Cs ha]
    exact Zt dt _ Q
   have t:Ce dt (al.take (i+1))=(Ce dt [a]).map (j++·):=by
    rw [Aa ha];exact Zt dt _ Q
   obtain ⟨c,vs,o,n,u,ns,ks,aa⟩:=a;rw [Ce] at b t;simp only [Al.A6] at he;have g:=Lb dt h3 c V;rw [dsA] at g;have F:∀e:Int,Ce dt al= .error e->Nc dt al=e:=fun e h=>by rw [Nc,h]
   cases hc:Dy dt c with
   |none=>
    rw [hc] at g b;simp only [pW] at g;(repeat' (first|refine wQ ?_|(refine W.By D8 m.le ?_)|refine AN.det (g) ?_|fail)<;>try simp only [BI r,he,go_sem]);rw [F 3 (by rw [b];rfl)]
   |some x=>
   rw [hc] at g b t;simp only [pW] at g b t;obtain ⟨d,cc,h1,h2,_⟩:=Kz hc;have h9:=aM (s:=[]) h1 h2;have hn:=eL h1;have hl:=h3 d (AE h1);have P:x.2 < d.cons.length:=(AG.1 h2).1;have hd:=NX h1;have N:=Yg h2;rw [h9] at b t;have hm:Vm (A1 x.1)=some x.1:=by simp [Vm]
   by_cases hA:vs.length≠cc.args.length
   . rw [if_pos hA] at b;have G:((vs.length:Int) != (cc.args.length:Int))=true:=by rw [APK];simpa using hA
     (repeat' (first|refine wQ ?_|(refine W.By D8 m.le ?_)|refine AN.det (g) ?_|fail)<;>try simp only [BI r,he,hd,N,AA,CX,G,go_sem]);rw [F 5 (by rw [b];rfl)]
   rw [if_neg hA] at b t;have G:((vs.length:Int) != (cc.args.length:Int))=false:=by rw [APK];simpa using hA
   have q:=SD vs V;cases Z:Dl vs with
   |true=>
    rw [Z] at q b;rw [if_pos rfl] at b;(repeat' (first|refine wQ ?_|(refine W.By D8 m.le ?_)|refine AN.det (g) ?_|refine AN.det (q) ?_|fail)<;>try simp only [BI r,he,hd,N,AA,CX,G,go_sem]);rw [F 4 (by rw [b];rfl)]
   |false=>
   rw [Z] at q t;rw [if_neg (by simp)] at t;simp only [Ce,F7] at t;rw [show j++[x]=j++[(x.1,x.2)] from rfl] at t;have B:∀(h7:I) (h8:X),xD dt A (j++[(x.1,x.2)]) h7 h8->_:=fun h7 h8 h=>ih (i+1,j++[(x.1,x.2)],h7,h8) ⟨by simp only;omega,by simp [U],t,h⟩ (by simp only;omega);simp only at B;have h6:((x.2:Int) < ((d.cons.length:Nat):Int))=True:=by simp only [eq_iff_iff,iff_true];omega
   rcases m with ⟨rfl,rfl,rfl⟩|⟨E,k,e,T,rfl,rfl⟩
   . -- the first alternative
     have h0:((i:Int)==0)=true:=by
      simp only [A8] at U;subst U;rfl
     have p:((x.1:Int) != (x.1:Int))=false:=by simp
     have D:=Gl (l:=AH d.cons.length false) (k:=x.2) (x:=false) (by simp [P]);have w1:=cK (l:=AH d.cons.length false) (k:=x.2) true (by simpa using P);simp only [wr,AT,A8,Av] at w1;have d1:(x.2+(0+1)<=(BP (AH d.cons.length false)).length)=True:=by rw [Tr,MR];simp;omega
     have h4:∀k e,V.C k=none->xD dt V ([]++[(x.1,x.2)]) (.ms k d.cons.length 1 e) (V.AI k (BP ((AH d.cons.length false).set x.2 true))):=fun k e T=>by
      refine .inr ⟨by simp,k,e,T,by rw [show H2 ([]++[(x.1,x.2)])=x.1 from rfl,hn],?_⟩;rw [show H2 ([]++[(x.1,x.2)])=x.1 from rfl,hn,<- AU6 x.1,AKD P]
     have e1:exB ([]++[(x.1,x.2)])=true:=by simp [exB]
     rw [e1,show H2 ([]++[(x.1,x.2)])=x.1 from rfl] at B;clear b t ih F;(repeat' (first|refine wQ ?_|(refine K8.mk d.cons.length (by omega) (by omega) (fun k T=>?_))|refine AN.det (g) ?_|refine AN.det (q) ?_|fail)<;>try simp only [BI r,he,hd,N,Y,AA,CX,G,h0,p,h6,D,w1,d1,Ag,Yd,AUZ,go_sem]);exact B _ _ (h4 _ _ (by assumption))
   . have h0:((i:Int)==0)=false:=by
      have:=Ds.2 E;simp only [beq_eq_false_iff_ne,ne_eq];omega
     have hg:=AQF E x.1 x.2;rw [Xl E,hg] at B
     have K:(x.1≠H2 j\/(H2 j,x.2)∈j)->xD dt A (j++[(x.1,x.2)]) (.ms k (OJ dt (H2 j)) 1 e) (A.AI k (BP (flg j (H2 j) (OJ dt (H2 j))))):=fun h=>by
      refine .inr ⟨by simp,k,e,T,by rw [Xl E],?_⟩;rw [Xl E,AQP h]
     clear b t ih F;by_cases hf:x.1=H2 j
     . have p:((x.1:Int) != (H2 j:Int))=false:=by simp [hf]
       have w:(x.1 != H2 j)=false:=by simpa using hf
       have h5:OJ dt (H2 j)=d.cons.length:=by rw [<- hf];exact hn
       rw [h5] at K g q ⊢;have D:=Gl (nK j (f:=H2 j) P);cases S:j.contains (H2 j,x.2) with
       |true=>
        rw [S] at D;rw [w,S,Td,Bool.not_true,Hg] at B;(repeat' (first|refine wQ ?_|refine AN.det (g) ?_|refine AN.det (q) ?_|fail)<;>try simp only [BI r,he,hd,N,Y,AA,CX,G,h0,p,h6,D,Ag,go_sem]);exact B _ _ (K (.inr (B8.1 S)))
       |false=>
        rw [S] at D;rw [w,S,Bool.or_self,N6,Cu] at B;have w1:=cK (l:=flg j (H2 j) d.cons.length) (k:=x.2) true (by rw [V3];exact P);simp only [wr,AT,A8,Av] at w1;have d1:(x.2+(0+1)<=(BP (flg j (H2 j) d.cons.length)).length)=True:=by rw [Tr,V3];simp;omega
        (repeat' (first|refine wQ ?_|refine AN.det (g) ?_|refine AN.det (q) ?_|fail)<;>try simp only [BI r,he,hd,N,Y,AA,CX,G,h0,p,h6,D,w1,d1,Ag,go_sem]);refine B _ _ (.inr ⟨by simp,k,e,T,by rw [Xl E,h5],?_⟩);rw [Xl E,h5,AKD P,<- hf]
     . have p:((x.1:Int) != (H2 j:Int))=true:=by simp only [bne_iff_ne,ne_eq];omega
       have w:(x.1 != H2 j)=true:=by simpa using hf
       rw [w,Te,Bool.not_true,Hg] at B;(repeat' (first|refine wQ ?_|refine AN.det (g) ?_|refine AN.det (q) ?_|fail)<;>try simp only [BI r,he,hd,N,Y,AA,CX,G,h0,p,go_sem]);exact B _ _ (K (.inl hf))
 . rw [AR (by omega)] at Q;have L:Nc dt al=if Xg dt j then 0 else 7:=by rw [Nc,Q]
   rcases m with ⟨rfl,rfl,rfl⟩|⟨E,k,e,T,rfl,rfl⟩
   . (repeat' (first|refine wP ?_|refine AN.det (lN false _) ?_|fail)<;>try simp only [B5 r,show exB []=true from rfl,go_sem]);rw [L];rfl
   . have hb:=fW Q;have z:=AME (dt:=dt) E (fun x hx h=>by rw [<- h];exact hb x hx)
     have ho:OJ dt (H2 j)<=1000000:=by
      unfold OJ;split
      . rename_i d hd;exact h3 d (AE hd)
      . omega
     have R:=fI (flg j (H2 j) (OJ dt (H2 j))) false k e (A.AI k (BP (flg j (H2 j) (OJ dt (H2 j))))) (by simp only [AD,if_true]) (by rw [V3];omega);rw [V3] at R;cases Z:exB j with
     |false=>
      rw [Z,Bool.false_and] at z;(repeat' (first|refine wQ ?_|(refine W.By D8 (Bf T) ?_)|fail)<;>try simp only [B5 r,go_sem]);rw [L,z];rfl
     |true=>
      rw [Z,Fe] at z;cases hC:(flg j (H2 j) (OJ dt (H2 j))).any (fun x=>false==x) with
      |true=>
       rw [hC] at R z;(repeat' (first|refine wQ ?_|(refine W.By D8 (Bf T) ?_)|refine AN.det (R) ?_|fail)<;>try simp only [B5 r,go_sem]);rw [L,z];rfl
      |false=>
       rw [hC] at R z;(repeat' (first|refine wQ ?_|(refine W.By D8 (Bf T) ?_)|refine AN.det (R) ?_|fail)<;>try simp only [B5 r,go_sem]);rw [L,z];rfl
def AKK (e:Ex):Prop:=(e.op=4->e.name≠[])/\(e.op=12->∃h t,e.kids=h::t/\(h.op=4->h.name≠[]))/\e.alts.length<=1000000/\e.kids.length<=1000000
def AKM (o:Option Nat):decide (Hq o < 0)=o.isNone:=by
 cases o with
 |none=>rfl
 |some i=>grind [decide_eq_false,Hq]
def Uh {s:M}:∀ {l:List M} {i:Nat},Dz l s=some i->l[i]?=some s
 |[],i,h=>by simp [Dz] at h
 |x::l,i,h=>by
  rw [Dz] at h;split at h
  . grind
  . simp only [AO] at h;obtain ⟨k,a,rfl⟩:=h;simpa using Uh a
def xZ {fs:List FE} {s:M} (h:Dz (DB fs) s=some i):∃g,fs[i]?=some g/\g.name=s:=by
 have:=Uh h
 grind [DB,AO]
def ARI:((0:Int)<=0)=True:=by simp
def Vy (fs:List FE) (dt:List Dat) (o:Int) (n:M) (u:Int) (ns:List M) (ks:List Ex) (al:List Al) (sc:List M):M4 fs dt (.mk o n u ns ks al) sc=
 if o=4 then (if !sc.contains n&&(Dz (DB fs) n).isNone then 3 else 0)
                                       else if o=6 then
  match Dy dt n with
  |none=>3
  |some x=>if ks.length≠arity dt x then 5 else 0
            else if o=8\/o=11 then (if Dl ns then 4 else 0)
            else if o=10 then Nc dt al
            else if o=12 then
  match ks.head? with
  |none=>0
  |some h=>if h.op=4&& !sc.contains h.name then
   (match Dz (DB fs) h.name with
   |none=>0
   |some f=>match fs[f]? with
    |some g=>if g.params.length+1≠ks.length then 5 else 0
    |none=>0) else 0
            else 0:=rfl
def ATV (ds:List DE) (fs:List FE) (dt:List Dat) (Q:uL dt) (e:Ex) (sc:List M) (hg:AKK e) (A:X):
 AS Tzp 116 [.agg [.d (.sl (ds.map DE.J)),.d (.sl (fs.map FE.J)),.d (.sl (dt.map Dat.J))],exA e,.d (bdL sc)] A (fun v H=>v= .d (.int .i64 (M4 fs dt e sc))/\H=A):=by
 obtain ⟨o,n,u,ns,ks,al⟩:=e;obtain ⟨R,q,r,T⟩:=hg;simp only [Ex.op,Ex.name,Ex.kids,Ex.alts] at R q r T;refine Wt.go ?_;rw [DN,exA,Ex.A6];have l:=fun s=>Xm ⟨ds,fs⟩ s A;simp only [pgA,Pg.J,AB,AJ] at l;have b:=Lb dt Q n A;rw [dsA] at b;by_cases Z:o=4
 . subst Z
   have a:M4 fs dt (.mk 4 n u ns ks al) sc=if !sc.contains n&&(Dz (DB fs) n).isNone then 3 else 0:=by
    rw [Vy,if_pos rfl]
   have j:=AAT sc n (R rfl) A;have m:=l n;cases k:sc.contains n with
   |true=>
    rw [k] at j;(repeat' (first|refine wP ?_|refine AN.det (j) ?_|fail)<;>try simp only [go_sem]);rw [a,k];rfl
   |false=>
    rw [k] at j;cases F:(Dz (DB fs) n).isNone with
    |true=>
     (repeat' (first|refine wP ?_|refine AN.det (j) ?_|refine AN.det (m) ?_|fail)<;>try simp only [AKM,F,go_sem]);rw [a,k,F];rfl
    |false=>
     (repeat' (first|refine wP ?_|refine AN.det (j) ?_|refine AN.det (m) ?_|fail)<;>try simp only [AKM,F,go_sem]);rw [a,k,F];rfl
 by_cases h6:o=6
 . subst h6
   have a:M4 fs dt (.mk 6 n u ns ks al) sc=match Dy dt n with|none=>3|some x=>if ks.length≠arity dt x then 5 else 0:=by
    rw [Vy,if_neg (show ¬(6:Int)=4 by decide),if_pos rfl]
    all_goals rfl
   cases hc:Dy dt n with
   |none=>
    rw [hc] at b a;simp only [pW] at b;(repeat' (first|refine wP ?_|refine AN.det (b) ?_|fail)<;>try simp only [Ad,go_sem]);rw [a]
   |some x=>
    rw [hc] at b a;simp only [pW] at b;obtain ⟨d,cc,k,F,_⟩:=Kz hc;have N:=aM (s:=[]) k F;have hd:=NX k;have P:=Yg F;have p:=APK ks.length cc.args.length;cases c:(ks.length != cc.args.length) with
    |true=>
     rw [c] at p;(repeat' (first|refine wP ?_|refine AN.det (b) ?_|fail)<;>try simp only [Ad,hd,P,AA,CX,p,go_sem]);rw [a];simp only;rw [if_pos (by rw [N];simpa using c)]
    |false=>
     rw [c] at p;(repeat' (first|refine wP ?_|refine AN.det (b) ?_|fail)<;>try simp only [Ad,hd,P,AA,CX,p,go_sem]);rw [a];simp only;rw [if_neg (by rw [N];simpa using c)]
 by_cases G:o=8\/o=11
 . have a:M4 fs dt (.mk o n u ns ks al) sc=if Dl ns then 4 else 0:=by
    rw [Vy,if_neg (show ¬o=4 from Z),if_neg (show ¬o=6 from h6),if_pos (show o=8\/o=11 from G)]
    all_goals rfl
   have i:=SD ns A;cases hB:Dl ns with
   |true=>
    rw [hB] at i a;rcases G with rfl|rfl
    all_goals (repeat' (first|refine wP ?_|refine AN.det (i) ?_|fail)<;>try simp only [Ad,go_sem])
    all_goals (rw [a];rfl)
   |false=>
    rw [hB] at i a;rcases G with rfl|rfl
    all_goals (repeat' (first|refine wP ?_|refine AN.det (i) ?_|fail)<;>try simp only [Ad,go_sem])
    all_goals (rw [a];rfl)
 by_cases D:o=10
 . subst D
   have a:M4 fs dt (.mk 10 n u ns ks al) sc=Nc dt al:=by
    rw [Vy,if_neg (show ¬(10:Int)=4 by decide),if_neg (show ¬(10:Int)=6 by decide),if_neg (show ¬((10:Int)=8\/(10:Int)=11) by decide),if_pos rfl]
    all_goals rfl
   (repeat' (first|refine wP ?_|refine AN.det (AUG ds fs dt Q al A r) ?_|fail)<;>try simp only [Ad,go_sem]);rw [a]
 by_cases E:o=12
 . subst E;obtain ⟨h,t,rfl,U⟩:=q rfl;have h3:(h::t).length=t.length+1:=rfl;obtain ⟨xo,B,xu,xs,xk,xa⟩:=h
   have a:M4 fs dt (.mk 12 n u ns (.mk xo B xu xs xk xa::t) al) sc=if decide (xo=4)&& !sc.contains B then (match Dz (DB fs) B with|none=>0|some f=>match fs[f]? with|some g=>if g.params.length+1≠t.length+1 then 5 else 0|none=>0) else 0:=by
    rw [Vy,if_neg (show ¬(12:Int)=4 by decide),if_neg (show ¬(12:Int)=6 by decide),if_neg (show ¬((12:Int)=8\/(12:Int)=11) by decide),if_neg (show ¬(12:Int)=10 by decide),if_pos rfl]
    all_goals rfl
   simp only [Ex.op] at U;generalize hw:M4 fs dt (.mk 12 n u ns (.mk xo B xu xs xk xa::t) al) sc=w at a ⊢;clear hw;have m:=l B;by_cases L:xo=4
   . subst L;have j:=AAT sc B (U rfl) A;cases k:sc.contains B with
     |true=>
      rw [k] at j a;(repeat' (first|refine wP ?_|refine AN.det (j) ?_|fail)<;>try simp only [Ad,AB,Ex.A6,Bb,ARI,go_sem]);rw [a];rfl
     |false=>
      rw [k] at j a;cases hi:Dz (DB fs) B with
      |none=>
       rw [hi] at m a;simp only [Hq] at m;have Y:decide ((0:Int)<=-1)=false:=by decide
       (repeat' (first|refine wP ?_|refine AN.det (j) ?_|refine AN.det (m) ?_|fail)<;>try simp only [Ad,AB,Ex.A6,Bb,ARI,Y,go_sem]);rw [a];rfl
      |some f=>
       rw [hi] at m a;simp only [Hq] at m;obtain ⟨g,S,_⟩:=xZ hi;have K:=Au (J:=FE.J) S;simp only at a;rw [S] at a;obtain ⟨gn,gp,go,h5,gu,h7,gk,ga⟩:=g;simp only [FE.J,Ex.A6] at K;have y:decide ((0:Int)<=(f:Int))=true:=by simp
       have z:IntKind.i64.wrap (((t.length+1:Nat):Int) - 1)=(t.length:Int):=bW (by simp only [AT] at T;omega);have p:=APK t.length gp.length;simp only [N6,Cu,decide_true,if_true] at a;cases c:(t.length != gp.length) with
       |true=>
        rw [c] at p;(repeat' (first|refine wP ?_|refine AN.det (j) ?_|refine AN.det (m) ?_|fail)<;>try simp only [Ad,AB,Ex.A6,Bb,ARI,K,AT,AA,z,p,go_sem]);rw [a,if_pos (by simp only [bne_iff_ne,ne_eq] at c;omega)]
       |false=>
        rw [c] at p;(repeat' (first|refine wP ?_|refine AN.det (j) ?_|refine AN.det (m) ?_|fail)<;>try simp only [Ad,AB,Ex.A6,Bb,ARI,K,AT,AA,z,p,go_sem]);rw [a,if_neg (by simp only [bne_eq_false_iff_eq] at c;omega)]
   . have h0:=Fb L;(repeat' refine wP ?_<;>simp only [Ad,AB,Ex.A6,Bb,ARI,h0,go_sem]);rw [a,decide_eq_false L];rfl
 . have a:M4 fs dt (.mk o n u ns ks al) sc=0:=by
    rw [Vy,if_neg (show ¬o=4 from Z),if_neg (show ¬o=6 from h6),if_neg (show ¬(o=8\/o=11) from G),if_neg (show ¬o=10 from D),if_neg (show ¬o=12 from E)]
   simp only [not_or] at G;(repeat' refine wP ?_<;>simp only [Fb Z,Fb h6,Fb G.1,Fb G.2,Fb D,Fb E,go_sem]);rw [a]
def SlV (v:I) (rows:List (List DV)):Prop:=v= .d (.sl rows)\/(∃t e s,v= .own t e s rows)\/(rows=[]/\v= .Ac)
def SlV.BS {rows:List (List DV)} (h:SlV v rows):v.BS=true:=by
 rcases h with rfl|⟨t,e,s,rfl⟩|⟨rfl,rfl⟩<;>rfl
def SlV.cell {rows:List (List DV)} (h:SlV v rows):v.Bo=true:=by
 rcases h with rfl|⟨t,e,s,rfl⟩|⟨rfl,rfl⟩<;>rfl
def SlV.len {rows:List (List DV)} (h:SlV v rows):Vh v=some (.d (.int .i64 rows.length)):=by
 rcases h with rfl|⟨t,e,s,rfl⟩|⟨rfl,rfl⟩<;>rfl
def SlV.dv {rows:List (List DV)} (h:SlV v rows):v.dv=some (.sl rows):=by
 rcases h with rfl|⟨t,e,s,rfl⟩|⟨rfl,rfl⟩<;>rfl
def Lf (cs:List I) (dl:List Dat):Prop:=cs.length=dl.length * 3/\∀i d,dl[i]?=some d->∃cv,(cs.drop (i * 3)).take 3=[.d (.str d.name),.d (.int .i64 d.vars),cv]/\SlV cv (d.cons.map Con.J)
def Lf.at (h:Lf cs dl) {d:Dat} (a:dl[i]?=some d):
 ∃cv,(cs.drop (i * 3)).take 3=[.d (.str d.name),.d (.int .i64 d.vars),cv]/\SlV cv (d.cons.map Con.J)/\cs[i * 3]?=some (.d (.str d.name))/\cs[i * 3+1]?=some (.d (.int .i64 d.vars))/\cs[i * 3+2]?=some cv/\(i * 3+3<=cs.length)=True:=by
 obtain ⟨cv,b,c⟩:=h.2 i d a;have e:=(AG.1 a).1
 have g:∀k,k < 3->cs[i * 3+k]?=([Gb d.name,A1 d.vars,cv]:List I)[k]?:=fun k f=>by
  grind
 refine ⟨cv,b,c,g 0 (by omega),g 1 (by omega),g 2 (by omega),?_⟩;rw [h.1];simp;omega
def DlS (V:X) (dl:List Dat) (v:I):Prop:=(dl=[]/\v= .Ac)\/(∃jd e cs,v= .ms jd dl.length 3 e/\V.C jd=some cs/\Lf cs dl)
def DlS.len (h:DlS V dl v):Vh v=some (.d (.int .i64 dl.length)):=by
 rcases h with ⟨rfl,rfl⟩|⟨a,e,cs,rfl,_,_⟩<;>rfl
def DlS.BS (h:DlS V dl v):v.BS=true:=by
 rcases h with ⟨rfl,rfl⟩|⟨a,e,cs,rfl,_,_⟩<;>rfl
def DlS.le {τ':X} (h:DlS V dl v) (b:V.le τ'):DlS τ' dl v:=by
 rcases h with ⟨rfl,rfl⟩|⟨d,e,cs,rfl,a,c⟩
 . exact .inl ⟨rfl,rfl⟩
 . exact .inr ⟨d,e,cs,rfl,b.C _ _ a,c⟩
def cC (s:CP Tzp fid=true) (g:Ae.all I.BS=true) (p:Dat->Bool) (l:List Dat) (v:I) (A:X) (D:l.length<=1000000) (u:DlS A l v)
 (y:∀d∈l,∀cv,cv.BS=true->cv.Bo=true->AS Tzp fid (.agg [.d (.str d.name),.d (.int .i64 d.vars),cv]::Ae) A (fun v H=>v= .d (.bool (p d))/\H=A)):
 AS Tzp 90 [v,.fn fid [] Ae] A (fun v H=>v= .d (.int .i64 (Hq (l.findIdx? p)))/\H=A):=by
 refine Pe.go ?_;rw [B4];have t:=u.len;rcases u with ⟨rfl,rfl⟩|⟨E,e,cs,rfl,f,c⟩
 . have w:decide ((0:Int) < 0)=false:=by decide
   (repeat' (first|refine wP ?_|(refine W.loop ?_)|fail)<;>try simp only [w,go_sem]);rfl
 (repeat' refine wQ ?_<;>simp only [go_sem]);refine lpK (fun (i:Nat)=>[(8,A1 i)]) (fun _=>A) (fun i=>i<=l.length/\∀x∈l.take i,p x=false) (fun i=>l.length - i) ?_ 0 ⟨by simp,by simp⟩;rintro i ⟨B,b⟩ z;by_cases a:i < l.length
 . obtain ⟨x,n⟩:=Ak a;obtain ⟨cv,o,q,_,_,_,r⟩:=c.at n;have h:((i:Int) < (l.length:Int))=True:=by simp;omega
   have j:=wS i;have k:=y x (AE n) cv q.BS q.cell;cases m:p x with
   |true=>
    rw [m] at k;(repeat' (first|refine wP ?_|(refine ⟨fid,[],Ae,rfl,s,AN.det k ?_ (by simp [g,CY])⟩)|fail)<;>try simp only [h,f,o,r,go_sem]);rw [Cn b n m];rfl
   |false=>
    rw [m] at k;(repeat' (first|refine wQ ?_|(refine ⟨fid,[],Ae,rfl,s,AN.det k ?_ (by simp [g,CY])⟩)|fail)<;>try simp only [h,f,o,r,j,go_sem]);exact z (i+1) ⟨by omega,Ea b n m⟩ (by omega)
 . (repeat' refine wP ?_<;>simp only [B5 a,go_sem]);rw [AR (by omega)] at b;rw [Co b];rfl
def AMN (s nm:M) (n:Int) (cv:I) (a:cv.Bo=true) (j:Nat) (A:X) (b:A.C j=some [.d (.str s)]):AS Tzp 91 [.agg [.d (.str nm),.d (.int .i64 n),cv],.gp j 0] A (fun v H=>v= .d (.bool (nm==s))/\H=A):=by
 refine U9.go ?_;(repeat' refine wP ?_<;>simp only [b,CZ,a,go_sem])
def Mv (l:List Dat):List M:=l.map (·.name)
def AEK (l:List Dat) (s:M):l.findIdx? (fun x=>x.name==s)=Dz (Mv l) s:=by
 rw [<- Yn,Mv,List.findIdx?_map];rfl
def AKC (l:List Dat) (dv:I) (rest:List I) (h:Nat) (s:M) (A:X) (o:l.length<=1000000) (m:A.C h=some (dv::rest)) (g:DlS A l dv):
 AS Tzp 42 [.gp h 0,.d (.str s)] A (fun v H=>v= .d (.int .i64 (Hq (Dz (Mv l) s)))/\H=A):=by
 refine Wu.go ?_;(repeat' refine sQ ?_<;>simp only [go_sem]);intro j n;have b:=Bf (cs:=[I.d (.str s)]) n;have a:dv.Bo=true:=by rcases g with ⟨_,rfl⟩|⟨p,e,cs,rfl,_,_⟩<;>rfl
 have c:h≠j:=fun e=>by grind
 have i:=cC (fid:=91) (Ae:=[.gp j 0]) (by kernel_rfl) rfl (fun x=>x.name==s) l dv (A.AI j [Gb s]) o (g.le b) (fun d _ cv _ k=>AMN s d.name d.vars cv k j _ (by simp only [AD,if_true]));rw [AEK] at i;have f:=g.BS;(repeat' (first|refine wQ ?_|(refine AN.mk (by simp only [BK,Cl,f,eN,XF]) i ?_;rintro _ _ ⟨rfl,rfl⟩)|(refine W.By Wm (σ2:=A) b ?_)|fail)<;>try simp only [c,m,a,go_sem])
def ARA (t:TE) (s:M):Bool:=match t with| .mk k n _=>k==4&&n==s
def nB (t:TE) (s:M) (A:X):AS Tzp 151 [teA t,.d (.str s)] A (fun v H=>v= .d (.bool (ARA t s))/\H=A):=by
 refine Nx.go ?_;rw [B4];obtain ⟨k,n,l⟩:=t;simp only [TE.A6,teA,AB,AJ];(repeat' first|refine ctQ rfl ?_|(refine RA (by first|exact GV.t|exact GV.f|exact GV.st|exact GV.sf) ⟨?_,fun h=>?_,?_⟩;rotate_left;(focus ((try simp only [AM,OS] at h);simp only [go_sem];first|exact Is.mk|exact Is.pv (by simp only [h,WY,CZ,go_sem];rfl)));(try simp only [↓Vq,go_sem]))|((first|refine rgQ mxQ ?_|refine cdQ ?_|refine W.qP Ns ?_)<;>try simp only [go_sem])|fail);rfl
def eQ (t:TE) (l:List TE) (s:M) (vs:List M):MB (t::l) (s::vs)=(ARA t s&&MB l vs):=by cases t;rfl
def lC:∀ {l:List TE} {vs:List M},l.length≠vs.length->MB l vs=false
 |[],[],h=>absurd rfl h
 |[],v::vs,_=>rfl
 |t::l,[],_=>by cases t;rfl
 |t::l,v::vs,h=>by rw [eQ,lC (by simpa using h),Hg]
def zS (l:List TE) (vs:List M) (A:X) (u:l.length<=1000000):AS Tzp 150 [.d (.sl (l.map TE.J)),.d (.sl (vs.map CG)),.fn 151 [] []] A (fun v H=>v= .d (.bool (MB l vs))/\H=A):=by
 refine Rh.go ?_;rw [DN];have g:=APK l.length vs.length;cases c:(l.length != vs.length) with
 |true=>
  rw [c] at g;(repeat' refine wP ?_<;>simp only [AA,g,go_sem]);rw [lC (by simpa using c)]
 |false=>
 rw [c] at g;have j:l.length=vs.length:=by simpa using c
 (repeat' refine wQ ?_<;>simp only [AA,g,go_sem]);refine lpK (fun (i:Nat)=>[(17,A1 i)]) (fun _=>A) (fun i=>i<=l.length/\MB l vs=MB (l.drop i) (vs.drop i)) (fun i=>l.length - i) ?_ 0 ⟨by simp,rfl⟩;rintro i ⟨t,a⟩ o;by_cases b:i < l.length
 . obtain ⟨x,n⟩:=Ak b;obtain ⟨s,m⟩:=Ak (show i < vs.length by omega);have h:=Au (J:=TE.J) n;have d:=Au (J:=CG) m;simp only [CG] at d;have f:=wS i;have e:=nB x s A;rw [Cs n,Cs m,eQ] at a;cases k:ARA x s with
   |true=>
    rw [k] at e a;obtain ⟨p,r,q⟩:=x;simp only [TE.A6,teA,AB,AJ] at h e;(repeat' (first|refine wQ ?_|(refine ⟨_,[],[],rfl,by kernel_rfl,AN.det e ?_⟩)|fail)<;>try simp only [BI b,h,d,f,go_sem]);exact o (i+1) ⟨by omega,a⟩ (by omega)
   |false=>
    rw [k] at e a;obtain ⟨p,r,q⟩:=x;simp only [TE.A6,teA,AB,AJ] at h e;(repeat' (first|refine wP ?_|(refine ⟨_,[],[],rfl,by kernel_rfl,AN.det e ?_⟩)|fail)<;>try simp only [BI b,h,d,go_sem]);rw [a];rfl
 . (repeat' refine wP ?_<;>simp only [B5 b,go_sem]);rw [HN (by omega),HN (by omega)] at a;rw [a];rfl
def wT (l:List TE) (dv:I) (nm:M) (vs:List M) (cs:List CE) (a:Nat) (A:X) (c:l.length<=1000000) (b:A.C a=some [dv,.d (.str nm),.d (.sl (vs.map CG)),.d (.sl (cs.map CE.J))]):
 AS Tzp 94 [.gp a 0,.d (.sl (l.map TE.J))] A (fun v H=>v= .d (.bool (MB l vs))/\H=A):=by
 refine Pc.go ?_;(repeat' (first|refine wP ?_|refine AN.det (zS l vs A c) ?_|fail)<;>try simp only [b,go_sem])
end Go.Ab
