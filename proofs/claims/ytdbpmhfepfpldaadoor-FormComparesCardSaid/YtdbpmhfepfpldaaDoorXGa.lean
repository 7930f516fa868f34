/- Valid forms. Equal forms; small lists of forms. The order of forms. Conditions: none. -/
import Derived.Test.YtdbpmhfepfpldaaDoorXJg
set_option linter.unusedSimpArgs false
set_option linter.unusedVariables false
set_option maxRecDepth 4000
set_option maxHeartbeats 8000000
open List renaming getElem?_map→Ao,length_map→AG,take_add_one→Ds,take_of_length_le→Ag,all_eq_true→A6,getElem?_take→A9,mem_of_mem_take→Ad,drop_of_length_le→D9
open Bool renaming eq_iff_iff→FC,true_and→GV,and_true→DG,and_eq_true→AJ
open Option renaming bind_some→BU
open Nat renaming eq_zero_or_pos→BE
open List.cons renaming injEq→HQ
namespace Go.Ab
open Go.Proofs
def UE (p:Option Int) (v:Int):Bool:=match p with|none=>true|some q=>decide (q < v)
def Ly:Option Int→List (Int×Int)→Bool
 |_,[]=>true
 |p,x::l=>vaB x.1&& !(x.2==0)&&smB x.2&&UE p x.1&&Ly (some x.1) l
def Bb (l:Ln):Bool:=smB l.c&&decide (l.ts.length≤16)&&Ly none l.ts
def UD (ts:List (Int×Int)):Nat→Option Int
 |0=>none
 |j+1=>(ts[j]?).map (·.1)
theorem Iw {l:List (Int×Int)} {i:Nat} {x:Int×Int} (h:l[i]?=some x):(l.map tmR)[i]?=some [.int .i64 x.1,.int .i64 x.2]:=by
 rw [Ao,h];rfl
theorem Vy (n:Nat):decide ((16:Int) < (n:Int))=!decide (n≤16):=by
 rw [FC];simp;omega
theorem Av (l:Ln) (σ:AF):AM Tryd.prog 35 [B6 l] σ (fun v σ'=>v= .d (.bool (Bb l))∧σ'=σ):=by
 obtain ⟨c,ts⟩:=l
 refine LA (by simp) ?_
 rw [CQ,B6]
 cases hc:smB c with
 |false=>
  (repeat' (first|refine Run.ct rfl ?_|((first|refine Run.reg mixed ?_|refine Run.AN ?_|refine Run.Aj BO (AF.le_refl _) ?_|refine AK.det (BQ _ _) ?_|(refine AO rfl (fun h=>?_) (fun h=>?_)<;>try (cases h;done)))<;>try simp -implicitDefEqProofs only [hc,go_sem])|(refine ⟨fun h=>?_,fun h=>?_⟩<;>first|(cases h;done)|try simp only [h])|fail))
  simp [Bb,hc]
 |true=>
 by_cases hl:ts.length≤16
 case neg=>
  (repeat' (first|refine Run.ct rfl ?_|((first|refine Run.reg mixed ?_|refine Run.AN ?_|refine Run.Aj BO (AF.le_refl _) ?_|refine AK.det (BQ _ _) ?_|(refine AO rfl (fun h=>?_) (fun h=>?_)<;>try (cases h;done)))<;>try simp -implicitDefEqProofs only [hc,Vy,AG,decide_eq_false hl,go_sem])|(refine ⟨fun h=>?_,fun h=>?_⟩<;>first|(cases h;done)|try simp only [h])|fail))
  simp [Bb,hl]
 (repeat' (first|refine Run.ct rfl ?_|((first|refine Run.reg mixed ?_|refine Run.AN ?_|refine Run.Aj BO (AF.le_refl _) ?_|refine AK.det (BQ _ _) ?_|(refine AO rfl (fun h=>?_) (fun h=>?_)<;>try (cases h;done)))<;>try simp -implicitDefEqProofs only [hc,Vy,AG,decide_eq_true hl,go_sem])|(refine ⟨fun h=>?_,fun h=>?_⟩<;>first|(cases h;done)|try simp only [h])|fail))
 refine Run.DR ?_
 refine Run.DS ((fun (a1:AV) (a16:AV) (a17:AV)=>fun (i:Nat)=>put 1 a1 (put 16 a16 (put 17 a17 (put 18 (.d (.int .i64 i)) U)))) _ _ _) (fun _=>Ba 1 [.d (.int .i64 c),.d (.sl (ts.map tmR))] E) (fun _=>σ) (fun i=>i≤ts.length∧Ly none ts=Ly (UD ts i) (ts.drop i)) (fun i=>ts.length - i) ?_ 0 ⟨by simp,rfl⟩
 rintro i ⟨hi,hok⟩ ih
 by_cases hlt:i < ts.length
 · obtain ⟨x,hx⟩:=Dt hlt
   rw [EB hx,Ly] at hok
   have hw1:=Bc (show i+1≤9000000000000000000 by omega)
   have hx':=Iw hx
   cases hva:vaB x.1 with
   |false=>
    (repeat' (first|refine Run.ct rfl ?_|((first|refine Run.reg mixed ?_|refine Run.AN ?_|refine Run.Aj BO (AF.le_refl _) ?_|refine AK.det (BQ _ _) ?_|refine AK.det (BZ _ _) ?_|(refine AO rfl (fun h=>?_) (fun h=>?_)<;>try (cases h;done)))<;>try simp -implicitDefEqProofs only [CR hlt,hx',hva,BU,go_sem])|(refine ⟨fun h=>?_,fun h=>?_⟩<;>first|(cases h;done)|try simp only [h])|fail))
    simp [Bb,hok,hva]
   |true=>
   cases hz:(x.2==0) with
   |true=>
    (repeat' (first|refine Run.ct rfl ?_|((first|refine Run.reg mixed ?_|refine Run.AN ?_|refine Run.Aj BO (AF.le_refl _) ?_|refine AK.det (BQ _ _) ?_|refine AK.det (BZ _ _) ?_|(refine AO rfl (fun h=>?_) (fun h=>?_)<;>try (cases h;done)))<;>try simp -implicitDefEqProofs only [CR hlt,hx',hva,hz,go_sem])|(refine ⟨fun h=>?_,fun h=>?_⟩<;>first|(cases h;done)|try simp only [h])|fail))
    simp [Bb,hok,hz]
   |false=>
   cases hsm:smB x.2 with
   |false=>
    (repeat' (first|refine Run.ct rfl ?_|((first|refine Run.reg mixed ?_|refine Run.AN ?_|refine Run.Aj BO (AF.le_refl _) ?_|refine AK.det (BQ _ _) ?_|refine AK.det (BZ _ _) ?_|(refine AO rfl (fun h=>?_) (fun h=>?_)<;>try (cases h;done)))<;>try simp -implicitDefEqProofs only [CR hlt,hx',hva,hz,hsm,go_sem])|(refine ⟨fun h=>?_,fun h=>?_⟩<;>first|(cases h;done)|try simp only [h])|fail))
    simp [Bb,hok,hsm]
   |true=>
   simp only [hva,hz,hsm,Bool.not_false,GV] at hok
   rcases BE i with h0|h0
   · have hpos:decide ((0:Int) < (i:Int))=false:=by simp;omega
     (repeat' (first|refine Run.ct rfl ?_|((first|refine Run.reg mixed ?_|refine Run.AN ?_|refine Run.Aj BO (AF.le_refl _) ?_|refine AK.det (BQ _ _) ?_|refine AK.det (BZ _ _) ?_|(refine AO rfl (fun h=>?_) (fun h=>?_)<;>try (cases h;done)))<;>try simp -implicitDefEqProofs only [CR hlt,hx',hva,hz,hsm,hw1,hpos,go_sem])|(refine ⟨fun h=>?_,fun h=>?_⟩<;>first|(cases h;done)|try simp only [h])|fail))
     refine ih (i+1) ⟨by omega,?_⟩ (by omega)
     rw [hok,h0]
     rw [h0] at hx
     simp [UD,UE,hx]
   · obtain ⟨j,hj⟩:∃j,i=j+1:=⟨i - 1,by omega⟩
     obtain ⟨y,hy⟩:=Dt (show j < ts.length by omega)
     have hy':=Iw hy
     have hpos:decide ((0:Int) < (i:Int))=true:=by simp;omega
     have hsub:IntKind.i64.wrap ((i:Int) - 1)=(j:Int):=by
      rw [Dl (by omega) (by omega)];omega
     by_cases hp:y.1 < x.1
     · have hp':decide (x.1≤y.1)=false:=by simpa using hp
       (repeat' (first|refine Run.ct rfl ?_|((first|refine Run.reg mixed ?_|refine Run.AN ?_|refine Run.Aj BO (AF.le_refl _) ?_|refine AK.det (BQ _ _) ?_|refine AK.det (BZ _ _) ?_|(refine AO rfl (fun h=>?_) (fun h=>?_)<;>try (cases h;done)))<;>try simp -implicitDefEqProofs only [CR hlt,hx',hy',hva,hz,hsm,hw1,hpos,hsub,hp',go_sem])|(refine ⟨fun h=>?_,fun h=>?_⟩<;>first|(cases h;done)|try simp only [h])|fail))
       refine ih (i+1) ⟨by omega,?_⟩ (by omega)
       rw [hok,hj]
       rw [hj] at hx
       simp [UD,UE,hx,hy,hp]
     · have hp':decide (x.1≤y.1)=true:=by simp;omega
       (repeat' (first|refine Run.ct rfl ?_|((first|refine Run.reg mixed ?_|refine Run.AN ?_|refine Run.Aj BO (AF.le_refl _) ?_|refine AK.det (BQ _ _) ?_|refine AK.det (BZ _ _) ?_|(refine AO rfl (fun h=>?_) (fun h=>?_)<;>try (cases h;done)))<;>try simp -implicitDefEqProofs only [CR hlt,hx',hy',hva,hz,hsm,hw1,hpos,hsub,hp',go_sem])|(refine ⟨fun h=>?_,fun h=>?_⟩<;>first|(cases h;done)|try simp only [h])|fail))
       rw [hj] at hok
       simp [Bb,hok,UD,UE,hy,hp]
 · have hge:i=ts.length:=by omega
   (repeat' (first|refine Run.ct rfl ?_|((first|refine Run.reg mixed ?_|refine Run.AN ?_|refine Run.Aj BO (AF.le_refl _) ?_|(refine AO rfl (fun h=>?_) (fun h=>?_)<;>try (cases h;done)))<;>try simp -implicitDefEqProofs only [DU hlt,go_sem])|(refine ⟨fun h=>?_,fun h=>?_⟩<;>first|(cases h;done)|try simp only [h])|fail))
   rw [hge,List.drop_length] at hok
   simp [Bb,hc,hl,hok,Ly]
end Go.Ab
namespace Go.Ab
open Go.Proofs
def Gr (l m:Ln):Bool:=l.c==m.c&&(l.ts==m.ts)
theorem RY (l m:Ln):Gr l m=true↔l=m:=by
 obtain ⟨a,b⟩:=l
 obtain ⟨c,d⟩:=m
 simp [Gr]
theorem Pv (a b:Nat):((a:Int) != (b:Int))=(a != b):=by
 rw [FC];simp;omega
theorem KD (l m:Ln) (σ:AF):AM Tryd.prog 17 [B6 l,B6 m] σ (fun v σ'=>v= .d (.bool (Gr l m))∧σ'=σ):=by
 obtain ⟨c,ts⟩:=l
 obtain ⟨d,us⟩:=m
 refine Ky (by simp) ?_
 rw [CC,B6,B6]
 cases hc:(c != d) with
 |true=>
  (repeat' (first|refine Run.ct rfl ?_|((first|refine Run.reg mixed ?_|refine Run.AN ?_|refine Run.Aj Bv (AF.le_refl _) ?_|(refine AO rfl (fun h=>?_) (fun h=>?_)<;>try (cases h;done)))<;>try simp -implicitDefEqProofs only [hc,go_sem])|(refine ⟨fun h=>?_,fun h=>?_⟩<;>first|(cases h;done)|try simp only [h])|fail))
  have:(c==d)=false:=by simpa using hc
  simp [Gr,this]
 |false=>
 cases hn:(ts.length != us.length) with
 |true=>
  (repeat' (first|refine Run.ct rfl ?_|((first|refine Run.reg mixed ?_|refine Run.AN ?_|refine Run.Aj Bv (AF.le_refl _) ?_|(refine AO rfl (fun h=>?_) (fun h=>?_)<;>try (cases h;done)))<;>try simp -implicitDefEqProofs only [hc,AG,Pv,hn,go_sem])|(refine ⟨fun h=>?_,fun h=>?_⟩<;>first|(cases h;done)|try simp only [h])|fail))
  have:(ts==us)=false:=by
   simp only [bne_iff_ne,ne_eq] at hn
   simp only [beq_eq_false_iff_ne,ne_eq]
   intro e;exact hn (by rw [e])
  simp [Gr,this]
 |false=>
 have hn':ts.length=us.length:=by simpa using hn
 have hc':c=d:=by simpa using hc
 (repeat' (first|refine Run.ct rfl ?_|((first|refine Run.reg mixed ?_|refine Run.AN ?_|refine Run.Aj Bv (AF.le_refl _) ?_|(refine AO rfl (fun h=>?_) (fun h=>?_)<;>try (cases h;done)))<;>try simp -implicitDefEqProofs only [hc,AG,Pv,hn,go_sem])|(refine ⟨fun h=>?_,fun h=>?_⟩<;>first|(cases h;done)|try simp only [h])|fail))
 refine Run.DR ?_
 refine Run.DS ((fun (a2:AV) (a3:AV) (a22:AV)=>fun (i:Nat)=>put 2 a2 (put 3 a3 (put 22 a22 (put 23 (.d (.int .i64 i)) U)))) _ _ _) (fun _=>Ba 2 [.d (.int .i64 c),.d (.sl (ts.map tmR))] (Ba 3 [.d (.int .i64 d),.d (.sl (us.map tmR))] E)) (fun _=>σ) (fun i=>i≤ts.length∧ts.take i=us.take i) (fun i=>ts.length - i) ?_ 0 ⟨by simp,by simp⟩
 rintro i ⟨hi,hok⟩ ih
 by_cases hlt:i < ts.length
 · obtain ⟨x,hx⟩:=Dt hlt
   obtain ⟨y,hy⟩:=Dt (show i < us.length by omega)
   have hlen:ts.length≤9223372036854775807∨9223372036854775807 < ts.length:=by omega
   have hx':=Iw hx
   have hy':=Iw hy
   refine Run.cell 2 1 rfl rfl (fun hb=>?_)
   simp only [AV.Il,AG] at hb
   have hw1:IntKind.i64.wrap ((i:Int)+1)=((i+1:Nat):Int):=by rw [Dl (by omega) (by omega)];omega
   cases he:(x.1==y.1&&(x.2==y.2)) with
   |true=>
    (repeat' (first|refine Run.ct rfl ?_|((first|refine Run.reg mixed ?_|refine Run.AN ?_|refine Run.Aj Bv (AF.le_refl _) ?_|(refine AO rfl (fun h=>?_) (fun h=>?_)<;>try (cases h;done)))<;>try simp -implicitDefEqProofs only [CR hlt,hx',hy',hw1,he,DG,go_sem])|(refine ⟨fun h=>?_,fun h=>?_⟩<;>first|(cases h;done)|try simp only [h])|fail))
    refine ih (i+1) ⟨by omega,?_⟩ (by omega)
    simp only [AJ,beq_iff_eq] at he
    rw [Ds,Ds,hok,hx,hy,Prod.ext he.1 he.2]
   |false=>
    (repeat' (first|refine Run.ct rfl ?_|((first|refine Run.reg mixed ?_|refine Run.AN ?_|refine Run.Aj Bv (AF.le_refl _) ?_|(refine AO rfl (fun h=>?_) (fun h=>?_)<;>try (cases h;done)))<;>try simp -implicitDefEqProofs only [CR hlt,hx',hy',hw1,he,DG,go_sem])|(refine ⟨fun h=>?_,fun h=>?_⟩<;>first|(cases h;done)|try simp only [h])|fail))
    have:(ts==us)=false:=by
     simp only [beq_eq_false_iff_ne,ne_eq]
     intro e
     rw [e] at hx
     rw [hx] at hy;cases hy
     simp at he
    simp [Gr,this]
 · (repeat' (first|refine Run.ct rfl ?_|((first|refine Run.reg mixed ?_|refine Run.AN ?_|refine Run.Aj Bv (AF.le_refl _) ?_|(refine AO rfl (fun h=>?_) (fun h=>?_)<;>try (cases h;done)))<;>try simp -implicitDefEqProofs only [DU hlt,go_sem])|(refine ⟨fun h=>?_,fun h=>?_⟩<;>first|(cases h;done)|try simp only [h])|fail))
   rw [Ag (by omega),Ag (by omega)] at hok
   simp [Gr,hok,hc']
def Ug (l:List Ln):AV:= .d (.sl (l.map Ln.enc))
def IG (l:List Ln):Bool:=(l.take 9).all (fun x=>decide (x.ts.length≤70))&&decide (l.length≤8)
theorem VJ {l:List Ln} {i:Nat} {x:Ln} (h:l[i]?=some x):(l.map Ln.enc)[i]?=some [.int .i64 x.c,.sl (x.ts.map tmR)]:=by
 rw [Ao,h];rfl
theorem le8 (n:Nat):decide ((n:Int)≤8)=decide (n≤8):=decide_eq_decide.2 (by omega)
theorem lt9 (n:Nat):decide ((n:Int) < 9)=decide (n < 9):=decide_eq_decide.2 (by omega)
theorem LG (l:List Ln) (σ:AF):AM Tryd.prog 23 [Ug l] σ (fun v σ'=>v= .d (.bool (IG l))∧σ'=σ):=by
 refine Lr (by simp) ?_
 rw [CQ,Ug]
 (repeat' (first|refine Run.ct rfl ?_|((first|refine Run.reg mixed ?_|refine Run.AN ?_|refine Run.Aj Ci (AF.le_refl _) ?_|(refine AO rfl (fun h=>?_) (fun h=>?_)<;>try (cases h;done)))<;>try simp -implicitDefEqProofs only [go_sem])|(refine ⟨fun h=>?_,fun h=>?_⟩<;>first|(cases h;done)|try simp only [h])|fail))
 refine Run.DR ?_
 refine Run.DS ((fun (a0:AV)=>fun (i:Nat)=>put 0 a0 (put 3 (.d (.int .i64 i)) U)) _) (fun _=>E) (fun _=>σ) (fun i=>i≤l.length∧i≤9∧(l.take i).all (fun x=>decide (x.ts.length≤70))=true) (fun i=>l.length - i) ?_ 0 ⟨by simp,by simp,by simp⟩
 rintro i ⟨hi,hi9,hok⟩ ih
 by_cases hlt:i < l.length
 · by_cases h9:i < 9
   · obtain ⟨x,hx⟩:=Dt hlt
     have hx':=VJ hx
     have hw1:=Bc (show i+1≤9000000000000000000 by omega)
     cases hk:decide (x.ts.length≤70) with
     |true=>
      (repeat' (first|refine Run.ct rfl ?_|((first|refine Run.reg mixed ?_|refine Run.AN ?_|refine Run.Aj Ci (AF.le_refl _) ?_|refine AK.det (Jk x _) ?_|(refine AO rfl (fun h=>?_) (fun h=>?_)<;>try (cases h;done)))<;>try simp -implicitDefEqProofs only [CR hlt,lt9,decide_eq_true h9,AG,hx',hk,hw1,go_sem])|(refine ⟨fun h=>?_,fun h=>?_⟩<;>first|(cases h;done)|try simp only [h])|fail))
      refine ih (i+1) ⟨by omega,by omega,?_⟩ (by omega)
      rw [Ds,hx,List.all_append,hok]
      simpa using hk
     |false=>
      (repeat' (first|refine Run.ct rfl ?_|((first|refine Run.reg mixed ?_|refine Run.AN ?_|refine Run.Aj Ci (AF.le_refl _) ?_|refine AK.det (Jk x _) ?_|(refine AO rfl (fun h=>?_) (fun h=>?_)<;>try (cases h;done)))<;>try simp -implicitDefEqProofs only [CR hlt,lt9,decide_eq_true h9,AG,hx',hk,hw1,go_sem])|(refine ⟨fun h=>?_,fun h=>?_⟩<;>first|(cases h;done)|try simp only [h])|fail))
      have:(l.take 9).all (fun x=>decide (x.ts.length≤70))=false:=by
       rw [Bool.eq_false_iff]
       intro h
       rw [A6] at h
       have:=h x (by
        rw [List.mem_iff_getElem?]
        exact ⟨i,by rw [A9,if_pos h9,hx]⟩)
       rw [hk] at this;cases this
      simp [IG,this]
   · (repeat' (first|refine Run.ct rfl ?_|((first|refine Run.reg mixed ?_|refine Run.AN ?_|refine Run.Aj Ci (AF.le_refl _) ?_|(refine AO rfl (fun h=>?_) (fun h=>?_)<;>try (cases h;done)))<;>try simp -implicitDefEqProofs only [CR hlt,lt9,decide_eq_false h9,AG,le8,go_sem])|(refine ⟨fun h=>?_,fun h=>?_⟩<;>first|(cases h;done)|try simp only [h])|fail))
     have:i=9:=by omega
     subst this
     simp [IG,hok]
 · (repeat' (first|refine Run.ct rfl ?_|((first|refine Run.reg mixed ?_|refine Run.AN ?_|refine Run.Aj Ci (AF.le_refl _) ?_|(refine AO rfl (fun h=>?_) (fun h=>?_)<;>try (cases h;done)))<;>try simp -implicitDefEqProofs only [DU hlt,AG,le8,go_sem])|(refine ⟨fun h=>?_,fun h=>?_⟩<;>first|(cases h;done)|try simp only [h])|fail))
   rw [Ag (by omega)] at hok
   have:(l.take 9).all (fun x=>decide (x.ts.length≤70))=true:=by
    rw [A6] at hok ⊢
    exact fun x hx=>hok x (Ad hx)
   simp [IG,this]
end Go.Ab
set_option maxHeartbeats 4000000
namespace Go.Ab
open Go.Proofs
def Dr (x y:Int×Int):Int:=orI (B1 x.1 y.1) (B1 x.2 y.2)
def Br:Tms→Tms→Int
 |x::l,y::m=>orI (Dr x y) (Br l m)
 |_,_=>0
def Dc (l m:Ln):Int:=if l.ts.length=m.ts.length then orI (Br l.ts m.ts) (B1 l.c m.c) else B1 l.ts.length m.ts.length
theorem B9 {a b:Int}:B1 a b=0↔a=b:=by
 unfold B1
 split
 · omega
 · split<;>omega
theorem I2 (a b:Int):B1 b a=-B1 a b:=by
 unfold B1
 split<;>split<;>first|omega|(split<;>omega)|skip
theorem I3 (a b:Int):B1 a b=-1∨B1 a b=0∨B1 a b=1:=by
 unfold B1
 split
 · exact .inl rfl
 · split
   · exact .inr (.inr rfl)
   · exact .inr (.inl rfl)
theorem Dh {a b:Int}:B1 a b≤0↔a≤b:=by
 unfold B1
 split
 · omega
 · split<;>omega
theorem Fg (n:Int) (σ:AF):AM Tryd.prog 89 [.d (.int .i64 n)] σ (fun v σ'=>v= .d (.bool false)∧σ'=σ):=by
 refine KB (by simp) ?_
 rw [CQ]
 (repeat' (first|refine Run.ct rfl ?_|((first|refine Run.reg mixed ?_|refine Run.AN ?_|refine Run.Aj GO (AF.le_refl _) ?_|(refine AO rfl (fun h=>?_) (fun h=>?_)<;>try (cases h;done)))<;>try simp -implicitDefEqProofs only [bne_self_eq_false,go_sem])|(refine ⟨fun h=>?_,fun h=>?_⟩<;>first|(cases h;done)|try simp only [h])|fail))
theorem FZ (a b:Int) (σ:AF):AM Tryd.prog 64 [.d (.int .i64 a),.d (.int .i64 b)] σ (fun v σ'=>v= .d (.int .i64 (B1 a b))∧σ'=σ):=by
 refine Ie (by simp) ?_
 rw [CC]
 by_cases h1:a < b
 · (repeat' (first|refine Run.ct rfl ?_|((first|refine Run.reg mixed ?_|refine Run.AN ?_|refine Run.Aj Cm (AF.le_refl _) ?_|refine AK.det (Fg a _) ?_|refine AK.det (Fg b _) ?_|(refine AO rfl (fun h=>?_) (fun h=>?_)<;>try (cases h;done)))<;>try simp -implicitDefEqProofs only [decide_eq_true h1,go_sem])|(refine ⟨fun h=>?_,fun h=>?_⟩<;>first|(cases h;done)|try simp only [h])|fail))
   simp [B1,h1]
 · by_cases h2:b < a
   · (repeat' (first|refine Run.ct rfl ?_|((first|refine Run.reg mixed ?_|refine Run.AN ?_|refine Run.Aj Cm (AF.le_refl _) ?_|refine AK.det (Fg a _) ?_|refine AK.det (Fg b _) ?_|(refine AO rfl (fun h=>?_) (fun h=>?_)<;>try (cases h;done)))<;>try simp -implicitDefEqProofs only [decide_eq_false h1,decide_eq_true h2,go_sem])|(refine ⟨fun h=>?_,fun h=>?_⟩<;>first|(cases h;done)|try simp only [h])|fail))
     simp [B1,h1,h2]
   · (repeat' (first|refine Run.ct rfl ?_|((first|refine Run.reg mixed ?_|refine Run.AN ?_|refine Run.Aj Cm (AF.le_refl _) ?_|refine AK.det (Fg a _) ?_|refine AK.det (Fg b _) ?_|(refine AO rfl (fun h=>?_) (fun h=>?_)<;>try (cases h;done)))<;>try simp -implicitDefEqProofs only [decide_eq_false h1,decide_eq_false h2,go_sem])|(refine ⟨fun h=>?_,fun h=>?_⟩<;>first|(cases h;done)|try simp only [h])|fail))
     simp [B1,h1,h2]
theorem Dz (n:Int) (σ:AF):AM Tryd.prog 90 [.d (.int .i64 n)] σ (fun v σ'=>v= .d (.bool false)∧σ'=σ):=by
 refine If (by simp) ?_
 rw [CQ]
 (repeat' (first|refine Run.ct rfl ?_|((first|refine Run.reg mixed ?_|refine Run.AN ?_|refine Run.Aj FU (AF.le_refl _) ?_|(refine AO rfl (fun h=>?_) (fun h=>?_)<;>try (cases h;done)))<;>try simp -implicitDefEqProofs only [bne_self_eq_false,go_sem])|(refine ⟨fun h=>?_,fun h=>?_⟩<;>first|(cases h;done)|try simp only [h])|fail))
theorem GK (a b:Int) (σ:AF):AM Tryd.prog 68 [.d (.int .i64 a),.d (.int .i64 b)] σ (fun v σ'=>v= .d (.int .i64 (B1 a b))∧σ'=σ):=by
 refine HY (by simp) ?_
 rw [CC]
 by_cases h1:a < b
 · (repeat' (first|refine Run.ct rfl ?_|((first|refine Run.reg mixed ?_|refine Run.AN ?_|refine Run.Aj CV (AF.le_refl _) ?_|refine AK.det (Dz a _) ?_|refine AK.det (Dz b _) ?_|(refine AO rfl (fun h=>?_) (fun h=>?_)<;>try (cases h;done)))<;>try simp -implicitDefEqProofs only [decide_eq_true h1,go_sem])|(refine ⟨fun h=>?_,fun h=>?_⟩<;>first|(cases h;done)|try simp only [h])|fail))
   simp [B1,h1]
 · by_cases h2:b < a
   · (repeat' (first|refine Run.ct rfl ?_|((first|refine Run.reg mixed ?_|refine Run.AN ?_|refine Run.Aj CV (AF.le_refl _) ?_|refine AK.det (Dz a _) ?_|refine AK.det (Dz b _) ?_|(refine AO rfl (fun h=>?_) (fun h=>?_)<;>try (cases h;done)))<;>try simp -implicitDefEqProofs only [decide_eq_false h1,decide_eq_true h2,go_sem])|(refine ⟨fun h=>?_,fun h=>?_⟩<;>first|(cases h;done)|try simp only [h])|fail))
     simp [B1,h1,h2]
   · (repeat' (first|refine Run.ct rfl ?_|((first|refine Run.reg mixed ?_|refine Run.AN ?_|refine Run.Aj CV (AF.le_refl _) ?_|refine AK.det (Dz a _) ?_|refine AK.det (Dz b _) ?_|(refine AO rfl (fun h=>?_) (fun h=>?_)<;>try (cases h;done)))<;>try simp -implicitDefEqProofs only [decide_eq_false h1,decide_eq_false h2,go_sem])|(refine ⟨fun h=>?_,fun h=>?_⟩<;>first|(cases h;done)|try simp only [h])|fail))
     simp [B1,h1,h2]
theorem Ud (a b:Int) (σ:AF):AM Tryd.prog 67 [.d (.sl [[.int .i64 a],[.int .i64 b]])] σ (fun v σ'=>v= .d (.int .i64 (orI a b))∧σ'=σ):=by
 refine Mm (by simp) ?_
 rw [CQ]
 have q1:IntKind.i64.wrap ((0:Int)+1)=1:=by decide
 have q2:IntKind.i64.wrap ((1:Int)+1)=2:=by decide
 have c0:decide ((0:Int) < ((2:Nat):Int))=true:=by decide
 have c1:decide ((1:Int) < ((2:Nat):Int))=true:=by decide
 have c2:decide ((2:Int) < ((2:Nat):Int))=false:=by decide
 have i0:Int.toNat 0=0:=rfl
 have i1:Int.toNat 1=1:=rfl
 have l0:((0:Int)≤0)=True:=by simp
 have l1:((0:Int)≤1)=True:=by simp
 by_cases ha:a=0
 · have hab:(a != 0)=false:=by simpa using ha
   by_cases hb:b=0
   · have hbb:(b != 0)=false:=by simpa using hb
     (repeat' (first|refine Run.ct rfl ?_|((first|refine Run.reg mixed ?_|refine Run.AN ?_|(refine Run.loop ?_)|(refine Run.again ?_)|refine Run.Aj E6 (AF.le_refl _) ?_|(refine AO rfl (fun h=>?_) (fun h=>?_)<;>try (cases h;done)))<;>try simp -implicitDefEqProofs only [q1,q2,c0,c1,c2,i0,i1,l0,l1,hab,hbb,go_sem])|(refine ⟨fun h=>?_,fun h=>?_⟩<;>first|(cases h;done)|try simp only [h])|fail))
     simp [orI,ha,hb]
   · have hbb:(b != 0)=true:=by simpa using hb
     (repeat' (first|refine Run.ct rfl ?_|((first|refine Run.reg mixed ?_|refine Run.AN ?_|(refine Run.loop ?_)|(refine Run.again ?_)|refine Run.Aj E6 (AF.le_refl _) ?_|(refine AO rfl (fun h=>?_) (fun h=>?_)<;>try (cases h;done)))<;>try simp -implicitDefEqProofs only [q1,q2,c0,c1,c2,i0,i1,l0,l1,hab,hbb,go_sem])|(refine ⟨fun h=>?_,fun h=>?_⟩<;>first|(cases h;done)|try simp only [h])|fail))
     simp [orI,ha]
 · have hab:(a != 0)=true:=by simpa using ha
   (repeat' (first|refine Run.ct rfl ?_|((first|refine Run.reg mixed ?_|refine Run.AN ?_|(refine Run.loop ?_)|(refine Run.again ?_)|refine Run.Aj E6 (AF.le_refl _) ?_|(refine AO rfl (fun h=>?_) (fun h=>?_)<;>try (cases h;done)))<;>try simp -implicitDefEqProofs only [q1,q2,c0,c1,c2,i0,i1,l0,l1,hab,go_sem])|(refine ⟨fun h=>?_,fun h=>?_⟩<;>first|(cases h;done)|try simp only [h])|fail))
   simp [orI,ha]
theorem Ha (x y:Int×Int) (σ:AF):AM Tryd.prog 66 [.agg [.d (.int .i64 x.1),.d (.int .i64 x.2)],.agg [.d (.int .i64 y.1),.d (.int .i64 y.2)]] σ (fun v σ'=>v= .d (.int .i64 (Dr x y))∧σ'=σ):=by
 refine Hu (by simp) ?_
 rw [CC]
 (repeat' (first|refine Run.ct rfl ?_|((first|refine Run.reg mixed ?_|refine Run.AN ?_|refine Run.Aj Er (AF.le_refl _) ?_|refine AK.det (FZ x.1 y.1 _) ?_|refine AK.det (GK x.2 y.2 _) ?_|refine AK.det (Ud (B1 x.1 y.1) (B1 x.2 y.2) _) ?_|(refine AO rfl (fun h=>?_) (fun h=>?_)<;>try (cases h;done)))<;>try simp -implicitDefEqProofs only [go_sem])|(refine ⟨fun h=>?_,fun h=>?_⟩<;>first|(cases h;done)|try simp only [h])|fail))
 rfl
theorem Kn {l m:Tms} {i:Nat} {x y:Int×Int} (hx:l[i]?=some x) (hy:m[i]?=some y):Br (l.drop i) (m.drop i)=orI (Dr x y) (Br (l.drop (i+1)) (m.drop (i+1))):=by
 rw [EB hx,EB hy];rfl
theorem KY (l m:Tms) (σ:AF) (hl:l.length=m.length) (hm:l.length≤1000000):AM Tryd.prog 65 [Gw l,Gw m,.fn 66 [] []] σ (fun v σ'=>v= .d (.int .i64 (Br l m))∧σ'=σ):=by
 refine Dj (by simp) ?_
 rw [O5]
 simp only [Gw]
 (repeat' (first|refine Run.ct rfl ?_|((first|refine Run.reg mixed ?_|refine Run.AN ?_|(refine AO rfl (fun h=>?_) (fun h=>?_)<;>try (cases h;done)))<;>try simp -implicitDefEqProofs only [AG,go_sem])|(refine ⟨fun h=>?_,fun h=>?_⟩<;>first|(cases h;done)|try simp only [h])|fail))
 refine Run.DR ?_
 refine Run.DS ((fun (a0:AV) (a1:AV) (a2:AV) (a11:AV) (a12:AV)=>fun (i:Nat)=>put 0 a0 (put 1 a1 (put 2 a2 (put 11 a11 (put 12 a12 (put 13 (.d (.int .i64 i)) U)))))) _ _ _ _ _) (fun _=>E) (fun _=>σ) (fun i=>i≤l.length∧Br l m=Br (l.drop i) (m.drop i)) (fun i=>l.length - i) ?_ 0 ⟨by simp,by simp⟩
 rintro i ⟨hi,hc⟩ ih
 by_cases hlt:i < l.length
 · obtain ⟨x,hx⟩:=Dt hlt
   obtain ⟨y,hy⟩:=Dt (show i < m.length by omega)
   have hx':=Iw hx
   have hy':=Iw hy
   have hw1:=Bc (show i+1≤9000000000000000000 by omega)
   have hge:decide ((m.length:Int)≤(i:Int))=false:=by simp;omega
   rw [Kn hx hy] at hc
   by_cases h0:Dr x y=0
   · have hb:(Dr x y != 0)=false:=by simpa using h0
     (repeat' (first|refine Run.ct rfl ?_|((first|refine Run.reg mixed ?_|refine Run.AN ?_|(refine ⟨_,[],[],rfl,by kernel_rfl,?_⟩)|refine AK.det (Ha x y _) ?_|(refine AO rfl (fun h=>?_) (fun h=>?_)<;>try (cases h;done)))<;>try simp -implicitDefEqProofs only [CR hlt,hx',hy',hw1,hge,hb,AG,go_sem])|(refine ⟨fun h=>?_,fun h=>?_⟩<;>first|(cases h;done)|try simp only [h])|fail))
     exact ih (i+1) ⟨by omega,by rw [hc,orI,if_pos h0]⟩ (by omega)
   · have hb:(Dr x y != 0)=true:=by simpa using h0
     (repeat' (first|refine Run.ct rfl ?_|((first|refine Run.reg mixed ?_|refine Run.AN ?_|(refine ⟨_,[],[],rfl,by kernel_rfl,?_⟩)|refine Run.Aj B3 (AF.le_refl _) ?_|refine AK.det (Ha x y _) ?_|(refine AO rfl (fun h=>?_) (fun h=>?_)<;>try (cases h;done)))<;>try simp -implicitDefEqProofs only [CR hlt,hx',hy',hw1,hge,hb,AG,go_sem])|(refine ⟨fun h=>?_,fun h=>?_⟩<;>first|(cases h;done)|try simp only [h])|fail))
     rw [hc,orI,if_neg h0]
 · have hlm:decide ((l.length:Int) < (m.length:Int))=false:=by simp;omega
   (repeat' (first|refine Run.ct rfl ?_|((first|refine Run.reg mixed ?_|refine Run.AN ?_|refine Run.Aj B3 (AF.le_refl _) ?_|(refine AO rfl (fun h=>?_) (fun h=>?_)<;>try (cases h;done)))<;>try simp -implicitDefEqProofs only [DU hlt,hlm,AG,go_sem])|(refine ⟨fun h=>?_,fun h=>?_⟩<;>first|(cases h;done)|try simp only [h])|fail))
   rw [hc,D9 (by omega)];rfl
theorem Cp (l m:Ln) (σ:AF) (hl:l.ts.length≤1000):AM Tryd.prog 37 [B6 l,B6 m] σ (fun v σ'=>v= .d (.int .i64 (Dc l m))∧σ'=σ):=by
 obtain ⟨c,ts⟩:=l
 obtain ⟨d,us⟩:=m
 simp only at hl
 refine JN (by simp) ?_
 rw [CC]
 simp only [B6]
 by_cases hn:ts.length=us.length
 · have h0:B1 (ts.length:Int) (us.length:Int)=0:=B9.2 (by omega)
   have hb:((0:Int) != 0)=false:=by decide
   have hC:=FZ (ts.length:Int) (us.length:Int) σ
   rw [h0] at hC
   have hF:=KY ts us σ hn (by omega)
   simp only [Gw] at hF
   (repeat' (first|refine Run.ct rfl ?_|((first|refine Run.reg mixed ?_|refine Run.AN ?_|refine Run.Aj Dy (AF.le_refl _) ?_|refine AK.det (hC) ?_|refine AK.det (hF) ?_|refine AK.det (GK c d _) ?_|refine AK.det (Ud (Br ts us) (B1 c d) _) ?_|(refine AO rfl (fun h=>?_) (fun h=>?_)<;>try (cases h;done)))<;>try simp -implicitDefEqProofs only [hb,AG,go_sem])|(refine ⟨fun h=>?_,fun h=>?_⟩<;>first|(cases h;done)|try simp only [h])|fail))
   simp [Dc,hn]
 · have h0:¬B1 (ts.length:Int) (us.length:Int)=0:=fun h=>hn (by have:=B9.1 h;omega)
   have hb:(B1 (ts.length:Int) (us.length:Int) != 0)=true:=by simpa using h0
   (repeat' (first|refine Run.ct rfl ?_|((first|refine Run.reg mixed ?_|refine Run.AN ?_|refine Run.Aj Dy (AF.le_refl _) ?_|refine AK.det (FZ (ts.length:Int) (us.length:Int) _) ?_|(refine AO rfl (fun h=>?_) (fun h=>?_)<;>try (cases h;done)))<;>try simp -implicitDefEqProofs only [hb,AG,go_sem])|(refine ⟨fun h=>?_,fun h=>?_⟩<;>first|(cases h;done)|try simp only [h])|fail))
   simp [Dc,hn]
theorem Io (b:Bool) (σ:AF):AM Tryd.prog 69 [.d (.bool b)] σ (fun v σ'=>v= .d (.int .i64 (if b then -1 else 1))∧σ'=σ):=by
 refine Nj (by simp) ?_
 rw [CQ]
 cases b
 · (repeat' (first|refine Run.ct rfl ?_|((first|refine Run.reg mixed ?_|refine Run.AN ?_|refine Run.Aj Gf (AF.le_refl _) ?_|(refine AO rfl (fun h=>?_) (fun h=>?_)<;>try (cases h;done)))<;>try simp -implicitDefEqProofs only [go_sem])|(refine ⟨fun h=>?_,fun h=>?_⟩<;>first|(cases h;done)|try simp only [h])|fail))
 · (repeat' (first|refine Run.ct rfl ?_|((first|refine Run.reg mixed ?_|refine Run.AN ?_|refine Run.Aj Gf (AF.le_refl _) ?_|(refine AO rfl (fun h=>?_) (fun h=>?_)<;>try (cases h;done)))<;>try simp -implicitDefEqProofs only [go_sem])|(refine ⟨fun h=>?_,fun h=>?_⟩<;>first|(cases h;done)|try simp only [h])|fail))
theorem KS {a b:Int} (h:a≠b):B1 a b=if decide (a < b)=true then -1 else 1:=by
 unfold B1
 by_cases h1:a < b
 · simp [h1]
 · have:b < a:=by omega
   simp [h1,this]
set_option maxHeartbeats 1000000 in
theorem LU (l m:Ln) (σ:AF) (hl:l.ts.length≤1000):AM Tryd.prog 38 [B6 l,B6 m] σ (fun v σ'=>v= .d (.int .i64 (Dc l m))∧σ'=σ):=by
 obtain ⟨c,ts⟩:=l
 obtain ⟨d,us⟩:=m
 simp only at hl
 refine Lt (by simp) ?_
 rw [CC]
 simp only [B6]
 by_cases hn:ts.length=us.length
 case neg=>
  have hne:((ts.length:Int) != (us.length:Int))=true:=by rw [Pv];simpa using hn
  (repeat' (first|refine Run.ct rfl ?_|((first|refine Run.reg mixed ?_|refine Run.AN ?_|refine Run.Aj Cj (AF.le_refl _) ?_|refine AK.det (Io (decide ((ts.length:Int) < (us.length:Int))) _) ?_|(refine AO rfl (fun h=>?_) (fun h=>?_)<;>try (cases h;done)))<;>try simp -implicitDefEqProofs only [hne,AG,go_sem])|(refine ⟨fun h=>?_,fun h=>?_⟩<;>first|(cases h;done)|try simp only [h])|fail))
  have:(ts.length:Int)≠(us.length:Int):=by omega
  rw [Dc,if_neg hn,KS this]
 have hne:((ts.length:Int) != (us.length:Int))=false:=by rw [Pv];simpa using hn
 (repeat' (first|refine Run.ct rfl ?_|((first|refine Run.reg mixed ?_|refine Run.AN ?_|(refine AO rfl (fun h=>?_) (fun h=>?_)<;>try (cases h;done)))<;>try simp -implicitDefEqProofs only [hne,AG,go_sem])|(refine ⟨fun h=>?_,fun h=>?_⟩<;>first|(cases h;done)|try simp only [h])|fail))
 refine Run.DR ?_
 refine Run.DS ((fun (a2:AV) (a3:AV) (a23:AV)=>fun (i:Nat)=>put 2 a2 (put 3 a3 (put 23 a23 (put 24 (.d (.int .i64 i)) U)))) _ _ _) (fun _=>Ba 2 [.d (.int .i64 c),.d (.sl (ts.map tmR))] (Ba 3 [.d (.int .i64 d),.d (.sl (us.map tmR))] E)) (fun _=>σ) (fun i=>i≤ts.length∧Br ts us=Br (ts.drop i) (us.drop i)) (fun i=>ts.length - i) ?_ 0 ⟨by simp,by simp⟩
 rintro i ⟨hi,hc⟩ ih
 by_cases hlt:i < ts.length
 · obtain ⟨x,hx⟩:=Dt hlt
   obtain ⟨y,hy⟩:=Dt (show i < us.length by omega)
   have hx':=Iw hx
   have hy':=Iw hy
   have hw1:=Bc (show i+1≤9000000000000000000 by omega)
   rw [Kn hx hy] at hc
   by_cases h1:x.1=y.1
   · have b1:(x.1 != y.1)=false:=by simpa using h1
     by_cases h2:x.2=y.2
     · have b2:(x.2 != y.2)=false:=by simpa using h2
       have h0:Dr x y=0:=by simp [Dr,orI,B9.2 h1,B9.2 h2]
       (repeat' (first|refine Run.ct rfl ?_|((first|refine Run.reg mixed ?_|refine Run.AN ?_|(refine AO rfl (fun h=>?_) (fun h=>?_)<;>try (cases h;done)))<;>try simp -implicitDefEqProofs only [CR hlt,hx',hy',hw1,b1,b2,go_sem])|(refine ⟨fun h=>?_,fun h=>?_⟩<;>first|(cases h;done)|try simp only [h])|fail))
       exact ih (i+1) ⟨by omega,by rw [hc,orI,if_pos h0]⟩ (by omega)
     · have b2:(x.2 != y.2)=true:=by simpa using h2
       have h0:Dr x y=B1 x.2 y.2:=by simp [Dr,orI,B9.2 h1]
       have h00:¬B1 x.2 y.2=0:=fun h=>h2 (B9.1 h)
       (repeat' (first|refine Run.ct rfl ?_|((first|refine Run.reg mixed ?_|refine Run.AN ?_|refine Run.Aj Cj (AF.le_refl _) ?_|refine AK.det (Io (decide (x.2 < y.2)) _) ?_|(refine AO rfl (fun h=>?_) (fun h=>?_)<;>try (cases h;done)))<;>try simp -implicitDefEqProofs only [CR hlt,hx',hy',hw1,b1,b2,go_sem])|(refine ⟨fun h=>?_,fun h=>?_⟩<;>first|(cases h;done)|try simp only [h])|fail))
       rw [Dc,if_pos hn,hc,h0]
       simp only [orI,if_neg h00]
       rw [KS h2]
   · have b1:(x.1 != y.1)=true:=by simpa using h1
     have h00:¬B1 x.1 y.1=0:=fun h=>h1 (B9.1 h)
     have h0:Dr x y=B1 x.1 y.1:=by simp [Dr,orI,h00]
     (repeat' (first|refine Run.ct rfl ?_|((first|refine Run.reg mixed ?_|refine Run.AN ?_|refine Run.Aj Cj (AF.le_refl _) ?_|refine AK.det (Io (decide (x.1 < y.1)) _) ?_|(refine AO rfl (fun h=>?_) (fun h=>?_)<;>try (cases h;done)))<;>try simp -implicitDefEqProofs only [CR hlt,hx',hy',hw1,b1,go_sem])|(refine ⟨fun h=>?_,fun h=>?_⟩<;>first|(cases h;done)|try simp only [h])|fail))
     rw [Dc,if_pos hn,hc,h0]
     simp only [orI,if_neg h00]
     rw [KS h1]
 · rw [D9 (by omega),D9 (by omega)] at hc
   have hc0:Br ts us=0:=hc
   by_cases hcd:c=d
   · have b1:(c != d)=false:=by simpa using hcd
     (repeat' (first|refine Run.ct rfl ?_|((first|refine Run.reg mixed ?_|refine Run.AN ?_|refine Run.Aj Cj (AF.le_refl _) ?_|(refine AO rfl (fun h=>?_) (fun h=>?_)<;>try (cases h;done)))<;>try simp -implicitDefEqProofs only [DU hlt,b1,go_sem])|(refine ⟨fun h=>?_,fun h=>?_⟩<;>first|(cases h;done)|try simp only [h])|fail))
     rw [Dc,if_pos hn,hc0];simp [orI,B9.2 hcd]
   · have b1:(c != d)=true:=by simpa using hcd
     (repeat' (first|refine Run.ct rfl ?_|((first|refine Run.reg mixed ?_|refine Run.AN ?_|refine Run.Aj Cj (AF.le_refl _) ?_|refine AK.det (Io (decide (c < d)) _) ?_|(refine AO rfl (fun h=>?_) (fun h=>?_)<;>try (cases h;done)))<;>try simp -implicitDefEqProofs only [DU hlt,b1,go_sem])|(refine ⟨fun h=>?_,fun h=>?_⟩<;>first|(cases h;done)|try simp only [h])|fail))
     rw [Dc,if_pos hn,hc0]
     simp only [orI,if_true]
     rw [KS hcd]
theorem NB (a b:Int):orI (-a) (-b)=-orI a b:=by unfold orI;split<;>split<;>omega
theorem SA (x y:Int×Int):Dr y x=-Dr x y:=by
 unfold Dr
 rw [I2 x.1 y.1,I2 x.2 y.2,NB]
theorem MP:∀l m:Tms,Br m l=-Br l m
 |[],[]=>rfl
 |[],y::m=>rfl
 |x::l,[]=>rfl
 |x::l,y::m=>by simp only [Br];rw [SA x y,MP l m,NB]
theorem Rz (l m:Ln):Dc m l=-Dc l m:=by
 unfold Dc
 by_cases h:l.ts.length=m.ts.length
 · rw [if_pos h,if_pos h.symm,MP,I2 l.c m.c,NB]
 · rw [if_neg h,if_neg (fun e=>h e.symm),I2]
theorem Fi {a b:Int}:orI a b=0↔a=0∧b=0:=by unfold orI;split<;>omega
theorem Q3 {x y:Int×Int}:Dr x y=0↔x=y:=by
 unfold Dr
 rw [Fi,B9,B9]
 exact ⟨fun h=>Prod.ext h.1 h.2,fun h=>by rw [h];exact ⟨rfl,rfl⟩⟩
theorem Ko:∀ {l m:Tms},l.length=m.length→(Br l m=0↔l=m)
 |[],[],_=>by simp [Br]
 |[],y::m,h=>by simp at h
 |x::l,[],h=>by simp at h
 |x::l,y::m,h=>by
  simp only [Br,Fi,Q3,Ko (l:=l) (m:=m) (by simpa using h),HQ]
theorem Q2 (l m:Ln):Dc l m=0↔l=m:=by
 obtain ⟨c,ts⟩:=l
 obtain ⟨d,us⟩:=m
 unfold Dc
 simp only
 by_cases h:ts.length=us.length
 · rw [if_pos h,Fi,Ko h,B9]
   simp only [Ln.mk.injEq]
   exact ⟨fun h=>⟨h.2,h.1⟩,fun h=>⟨h.2,h.1⟩⟩
 · rw [if_neg h,B9]
   simp only [Ln.mk.injEq]
   constructor
   · intro e;omega
   · intro e;exact absurd (by rw [e.2]) h
theorem JU {a1 a2 a3 b1 b2 b3:Int} (h1:a1≤0→a2≤0→a3≤0) (h2:a1≤0→a2≤0→a3=0→a1=0∧a2=0) (h3:b1≤0→b2≤0→b3≤0):
 orI a1 b1≤0→orI a2 b2≤0→orI a3 b3≤0:=by
 unfold orI
 intro p q
 have e1:a1≤0:=by split at p<;>omega
 have e2:a2≤0:=by split at q<;>omega
 have e3:=h1 e1 e2
 split
 · rename_i hz
   have:=h2 e1 e2 hz
   rw [if_pos this.1] at p
   rw [if_pos this.2] at q
   exact h3 p q
 · exact e3
theorem Sf {a1 a2 a3 b1 b2 b3:Int} (h1:a1≤0→a2≤0→a3≤0) (h2:a1≤0→a2≤0→a3=0→a1=0∧a2=0) (h3:b1≤0→b2≤0→b3=0→b1=0∧b2=0):
 orI a1 b1≤0→orI a2 b2≤0→orI a3 b3=0→orI a1 b1=0∧orI a2 b2=0:=by
 intro p q r
 rw [Fi] at r
 unfold orI at p q
 have e1:a1≤0:=by split at p<;>omega
 have e2:a2≤0:=by split at q<;>omega
 have:=h2 e1 e2 r.1
 rw [if_pos this.1] at p
 rw [if_pos this.2] at q
 have k:=h3 p q r.2
 rw [Fi,Fi]
 exact ⟨⟨this.1,k.1⟩,this.2,k.2⟩
theorem Fw (a b c:Int):B1 a b≤0→B1 b c≤0→B1 a c≤0:=by rw [Dh,Dh,Dh];omega
theorem Mi (a b c:Int):B1 a b≤0→B1 b c≤0→B1 a c=0→B1 a b=0∧B1 b c=0:=by rw [Dh,Dh,B9,B9,B9];omega
theorem Kl (x y z:Int×Int):Dr x y≤0→Dr y z≤0→Dr x z≤0:=JU (Fw _ _ _) (Mi _ _ _) (Fw _ _ _)
theorem Pk (x y z:Int×Int):Dr x y≤0→Dr y z≤0→Dr x z=0→Dr x y=0∧Dr y z=0:=Sf (Fw _ _ _) (Mi _ _ _) (Mi _ _ _)
theorem Km:∀ {l m k:Tms},l.length=m.length→m.length=k.length→(Br l m≤0→Br m k≤0→Br l k≤0)∧(Br l m≤0→Br m k≤0→Br l k=0→Br l m=0∧Br m k=0)
 |[],[],[],_,_=>by simp [Br]
 |x::l,y::m,z::k,h1,h2=>by
  have ih:=Km (l:=l) (m:=m) (k:=k) (by simpa using h1) (by simpa using h2)
  simp only [Br]
  exact ⟨JU (Kl _ _ _) (Pk _ _ _) ih.1,Sf (Kl _ _ _) (Pk _ _ _) ih.2⟩
 |[],_::_,_,h,_=>by simp at h
 |_::_,[],_,h,_=>by simp at h
 |_,[],_::_,_,h=>by simp at h
 |_,_::_,[],_,h=>by simp at h
theorem Oh (l m k:Ln):Dc l m≤0→Dc m k≤0→Dc l k≤0:=by
 unfold Dc
 intro p q
 by_cases h1:l.ts.length=m.ts.length
 · by_cases h2:m.ts.length=k.ts.length
   · rw [if_pos h1] at p
     rw [if_pos h2] at q
     rw [if_pos (h1.trans h2)]
     have:=Km h1 h2
     exact JU this.1 this.2 (Fw _ _ _) p q
   · rw [if_neg h2,Dh] at q
     rw [if_neg (by omega),Dh];omega
 · rw [if_neg h1,Dh] at p
   by_cases h2:m.ts.length=k.ts.length
   · rw [if_neg (by omega),Dh];omega
   · rw [if_neg h2,Dh] at q
     rw [if_neg (by omega),Dh];omega
end Go.Ab
