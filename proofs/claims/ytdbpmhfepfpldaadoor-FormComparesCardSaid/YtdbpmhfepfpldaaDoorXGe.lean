/- Add, Sub, Scale, Canonical. The builder of strings. The text of a form. The sanity check of the laws of forms. Conditions: the table of powers of ten is laid. The law FormCompares over abstract values. Conditions: the table of powers of ten is laid. Conditions: none. -/
import Derived.Test.YtdbpmhfepfpldaaDoorXJl
set_option linter.unusedSimpArgs false
set_option linter.unusedVariables false
set_option maxRecDepth 4000
set_option maxHeartbeats 8000000
open List renaming length_append→AI,length_map→AG,map_cons→C5,length_cons→Ap,length_nil→B7,mem_cons→BD,append_nil→BS,mem_cons_self→A5,mem_cons_of_mem→Am,mem_of_mem_take→Ad,length_take→Aq,mem_of_getElem?→BA,take_add_one→Ds,append_assoc→Az
open Bool renaming and_eq_true→AJ,eq_iff_iff→FC,true_and→GV,or_eq_true→Bq
open Nat renaming le_trans→Aa,min_eq_left→FD
set_option maxHeartbeats 4000000
namespace Go.Ab
open Go.Proofs
theorem Lw (l m:Ln) (σ:AF):AM Tryd.prog 27 [B6 l,B6 m] σ (fun v σ'=>v=Gp (Ri l m)∧σ'=σ):=by
 obtain ⟨c,ts⟩:=l
 obtain ⟨d,us⟩:=m
 refine Mn (by simp) ?_
 rw [CC,B6,B6]
 cases hv:Bb ⟨c,ts⟩ with
 |false=>
  (repeat' (first|refine Run.ct rfl ?_|((first|refine Run.reg mixed ?_|refine Run.AN ?_|refine Run.Aj E7 (AF.le_refl _) ?_|refine AK.det (Av ⟨c,ts⟩ _) ?_|(refine AO rfl (fun h=>?_) (fun h=>?_)<;>try (cases h;done)))<;>try simp -implicitDefEqProofs only [hv,go_sem])|(refine ⟨fun h=>?_,fun h=>?_⟩<;>first|(cases h;done)|try simp only [h])|fail))
  simp [Ri,hv,Q7,Gp,B6]
 |true=>
 cases hu:Bb ⟨d,us⟩ with
 |false=>
  (repeat' (first|refine Run.ct rfl ?_|((first|refine Run.reg mixed ?_|refine Run.AN ?_|refine Run.Aj E7 (AF.le_refl _) ?_|refine AK.det (Av ⟨c,ts⟩ _) ?_|refine AK.det (Av ⟨d,us⟩ _) ?_|(refine AO rfl (fun h=>?_) (fun h=>?_)<;>try (cases h;done)))<;>try simp -implicitDefEqProofs only [hv,hu,go_sem])|(refine ⟨fun h=>?_,fun h=>?_⟩<;>first|(cases h;done)|try simp only [h])|fail))
  simp [Ri,hu,Q7,Gp,B6]
 |true=>
 obtain ⟨h1,h2,h3,h4⟩:=EJ hv
 obtain ⟨k1,k2,k3,k4⟩:=EJ hu
 simp only at h1 h2 h3 h4 k1 k2 k3 k4
 have hw:IntKind.i64.wrap (c+d)=c+d:=Iy (by omega) (by omega)
 have hbd:Bd (ts++us):=⟨by simp only [AI];omega,Pf (PC h2) (PC k2)⟩
 (repeat' (first|refine Run.ct rfl ?_|((first|refine Run.reg mixed ?_|refine Run.AN ?_|refine Run.Aj E7 (AF.le_refl _) ?_|refine AK.det (Av ⟨c,ts⟩ _) ?_|refine AK.det (Av ⟨d,us⟩ _) ?_|refine AK.det (MH ts us _ (by omega)) ?_|refine AK.det (Kp (c+d) (ts++us) _ hbd) ?_|(refine AO rfl (fun h=>?_) (fun h=>?_)<;>try (cases h;done)))<;>try simp -implicitDefEqProofs only [hv,hu,hw,Gp,B6,go_sem])|(refine ⟨fun h=>?_,fun h=>?_⟩<;>first|(cases h;done)|try simp only [h])|fail))
 simp [Ri,hv,hu,Gp,B6]
theorem Lx (l m:Ln) (σ:AF):AM Tryd.prog 29 [B6 l,B6 m] σ (fun v σ'=>v=Gp (TL l m)∧σ'=σ):=by
 obtain ⟨c,ts⟩:=l
 obtain ⟨d,us⟩:=m
 refine Mo (by simp) ?_
 rw [CC,B6,B6]
 cases hv:Bb ⟨c,ts⟩ with
 |false=>
  (repeat' (first|refine Run.ct rfl ?_|((first|refine Run.reg mixed ?_|refine Run.AN ?_|refine Run.Aj E8 (AF.le_refl _) ?_|refine AK.det (Av ⟨c,ts⟩ _) ?_|(refine AO rfl (fun h=>?_) (fun h=>?_)<;>try (cases h;done)))<;>try simp -implicitDefEqProofs only [hv,go_sem])|(refine ⟨fun h=>?_,fun h=>?_⟩<;>first|(cases h;done)|try simp only [h])|fail))
  simp [TL,hv,Q7,Gp,B6]
 |true=>
 cases hu:Bb ⟨d,us⟩ with
 |false=>
  (repeat' (first|refine Run.ct rfl ?_|((first|refine Run.reg mixed ?_|refine Run.AN ?_|refine Run.Aj E8 (AF.le_refl _) ?_|refine AK.det (Av ⟨c,ts⟩ _) ?_|refine AK.det (Av ⟨d,us⟩ _) ?_|(refine AO rfl (fun h=>?_) (fun h=>?_)<;>try (cases h;done)))<;>try simp -implicitDefEqProofs only [hv,hu,go_sem])|(refine ⟨fun h=>?_,fun h=>?_⟩<;>first|(cases h;done)|try simp only [h])|fail))
  simp [TL,hu,Q7,Gp,B6]
 |true=>
 obtain ⟨h1,h2,h3,h4⟩:=EJ hv
 obtain ⟨k1,k2,k3,k4⟩:=EJ hu
 simp only at h1 h2 h3 h4 k1 k2 k3 k4
 have hw:IntKind.i64.wrap (c - d)=c - d:=Iy (by omega) (by omega)
 have hsc:=UI k2 (show -1048576≤(-1:Int)∧(-1:Int)≤1048576 by decide)
 have hcl:ts.length+(us.map (Mz (-1))).length≤1000000:=by simp only [AG];omega
 have hbd:Bd (ts++us.map (Mz (-1))):=⟨by simp only [AI,AG];omega,Pf (PC h2) (VN (by omega) k2 (by decide))⟩
 (repeat' (first|refine Run.ct rfl ?_|((first|refine Run.reg mixed ?_|refine Run.AN ?_|refine Run.Aj E8 (AF.le_refl _) ?_|refine AK.det (Av ⟨c,ts⟩ _) ?_|refine AK.det (Av ⟨d,us⟩ _) ?_|refine AK.det (TP us (-1) _ (by omega)) ?_|refine AK.det (MH ts (us.map (Mz (-1))) _ hcl) ?_|refine AK.det (Kp (c - d) (ts++us.map (Mz (-1))) _ hbd) ?_|(refine AO rfl (fun h=>?_) (fun h=>?_)<;>try (cases h;done)))<;>try simp -implicitDefEqProofs only [hv,hu,hw,Gp,B6,Gw,hsc,go_sem])|(refine ⟨fun h=>?_,fun h=>?_⟩<;>first|(cases h;done)|try simp only [h])|fail))
 simp [TL,hv,hu,Gp,B6]
end Go.Ab
set_option maxHeartbeats 4000000
namespace Go.Ab
open Go.Proofs
structure BuS (σ0:AF) (i:Nat) (s:List UInt8) (σ:AF):Prop where
 fresh:σ0.blk i=none
 Ot:σ0.bt i=none
 le:σ0.le σ
 bt:σ.bt i=some (2,73)
 blk:∃p v,σ.blk i=some [p,v]∧(p= .CS∨p= .gp i 0)∧((v= .A7∧s=[])∨(∃t,v= .own t 5 1 (A3 s)∧s≠[]∧σ.tok t=true∧σ0.tok t=false))
theorem QU {σ:AF} {i:Nat} (h:σ.blk i=none∧σ.bt i=none):BuS σ i [] ((σ.AX i [.CS,.A7]).E0 i (2,73)) where
 fresh:=h.1
 Ot:=h.2
 le:=⟨fun j cs hj=>by
  have hne:j≠i:=fun e=>by rw [e,h.1] at hj;cases hj
  simp [AF.E0,AF.AX,hne,hj],fun _ h=>h,rfl,fun j x hj=>by
  have hne:j≠i:=fun e=>by rw [e,h.2] at hj;cases hj
  simp [AF.E0,AF.AX,hne,hj]⟩
 bt:=by simp [AF.E0]
 blk:=⟨.CS,.A7,by simp [AF.E0,AF.AX],.inl rfl,.inl ⟨rfl,rfl⟩⟩
theorem Lp {σ0 σ:AF} {i:Nat} {s:List UInt8} (h:BuS σ0 i s σ):AM Tryd.prog 82 [.gp i 0] σ (fun v σ'=>v= .tup []∧BuS σ0 i s σ'∧∃v,σ'.blk i=some [.gp i 0,v]∧((v= .A7∧s=[])∨(∃t,v= .own t 5 1 (A3 s)∧s≠[]∧σ'.tok t=true∧σ0.tok t=false))):=by
 obtain ⟨p,v,hb,hp|hp,hv⟩:=h.blk
 · subst hp
   refine (Hs hb h.bt).mono ?_
   rintro v' σ' ⟨rfl,rfl⟩
   have hn:(σ.AX i [.gp i 0,v]).blk i=some [.gp i 0,v]:=by simp [Af]
   refine ⟨rfl,⟨h.fresh,h.Ot,⟨fun j cs hj=>?_,h.le.tok,h.le.gt,h.le.bt⟩,h.bt,.gp i 0,v,hn,.inr rfl,hv⟩,v,hn,hv⟩
   have hne:j≠i:=fun e=>by rw [e,h.fresh] at hj;cases hj
   simp [Af,hne,h.le.blk j cs hj]
 · subst hp
   refine (I6 hb h.bt).mono ?_
   rintro v' σ' ⟨rfl,rfl⟩
   exact ⟨rfl,h,v,hb,hv⟩
theorem Mf (s x:List UInt8):A3 s++A3 x=A3 (s++x):=by simp [A3]
theorem ET (s:List UInt8):(A3 s).length=s.length:=by simp [A3]
theorem BN {σ0 σ:AF} {i:Nat} {s:List UInt8} (x:List UInt8) (h:BuS σ0 i s σ) (hx:x≠[]) (hl:s.length+x.length≤1000000000):
 AM Tryd.prog 52 [.gp i 0,.d (.str x)] σ (fun v σ'=>v= .tup [.d (.int .i64 x.length),.undef]∧BuS σ0 i (s++x) σ'):=by
 refine EG (by simp) ?_
 rw [CC]
 (repeat' (first|refine Run.ct rfl ?_|((first|refine Run.reg mixed ?_|refine Run.AN ?_|(refine AK.mk rfl (Lp h) ?_)|(refine AO rfl (fun h=>?_) (fun h=>?_)<;>try (cases h;done)))<;>try simp -implicitDefEqProofs only [go_sem])|(refine ⟨fun h=>?_,fun h=>?_⟩<;>first|(cases h;done)|try simp only [h])|fail))
 rintro _ σ1 ⟨rfl,hbu,v,hblk,hv⟩
 have hcell:v.BH=true∧v.BC=true∧v.cells=[v]:=by
  rcases hv with ⟨rfl,_⟩|⟨t,rfl,_⟩<;>exact ⟨rfl,rfl,rfl⟩
 (repeat' (first|refine Run.ct rfl ?_|((first|refine Run.reg mixed ?_|refine Run.AN ?_|(refine AO rfl (fun h=>?_) (fun h=>?_)<;>try (cases h;done)))<;>try simp -implicitDefEqProofs only [hblk,hcell.1,hcell.2.1,hcell.2.2,go_sem])|(refine ⟨fun h=>?_,fun h=>?_⟩<;>first|(cases h;done)|try simp only [h])|fail))
 have happ:∃σ2,Jy σ1 5 1 v=some (A3 s,σ2)∧(∀j,σ2.blk j=σ1.blk j)∧σ0.le σ2∧σ2.bt=σ1.bt∧(∀t,σ2.tok t=true→σ1.tok t=true):=by
  rcases hv with ⟨rfl,rfl⟩|⟨t,rfl,hs,ht,ht0⟩
  · exact ⟨σ1,rfl,fun _=>rfl,hbu.le,rfl,fun _ h=>h⟩
  · refine ⟨σ1.Cv t,by simp [Jy,ht],fun _=>rfl,⟨hbu.le.blk,fun u hu=>?_,hbu.le.gt,hbu.le.bt⟩,rfl,fun u hu=>?_⟩
    · have hne:u≠t:=fun e=>by rw [e,ht0] at hu;cases hu
      simp [AF.Cv,hne,hbu.le.tok u hu]
    · simp only [AF.Cv] at hu
      split at hu
      · cases hu
      · exact hu
 obtain ⟨σ2,ha,hb2,hle2,hbt2,htk2⟩:=happ
 have hblk2:σ2.blk i=some [.gp i 0,v]:=by rw [hb2];exact hblk
 refine XEx.apps hcell.2.1 ha (by rw [ET];omega) (fun t ht=>?_)
 simp -implicitDefEqProofs only [hblk2,go_sem]
 (repeat' (first|refine Run.ct rfl ?_|((first|refine Run.reg mixed ?_|refine Run.AN ?_|refine Run.MA C7 (AF.le_refl _) ?_|(refine AO rfl (fun h=>?_) (fun h=>?_)<;>try (cases h;done)))<;>try simp -implicitDefEqProofs only [hblk2,go_sem])|(refine ⟨fun h=>?_,fun h=>?_⟩<;>first|(cases h;done)|try simp only [h])|fail))
 refine ⟨hbu.fresh,hbu.Ot,⟨fun j cs hj=>?_,fun u hu=>?_,hle2.gt,hle2.bt⟩,?_,.gp i 0,.own t 5 1 (A3 (s++x)),?_,.inr rfl,.inr ⟨t,rfl,by simp [hx],?_,?_⟩⟩
 · have hne:j≠i:=fun e=>by rw [e,hbu.fresh] at hj;cases hj
   simp [Af,hne,Ho,hle2.blk j cs hj]
 · have:=hle2.tok u hu
   simp [AF.AX,AF.CX,this]
 · show σ2.bt i=_
   rw [hbt2];exact hbu.bt
 · simp [Af,Mf]
 · simp [AF.AX,AF.CX]
 · cases h0:σ0.tok t with
   |false=>rfl
   |true=>rw [hbu.le.tok t h0] at ht;cases ht
theorem IS:∀s:List UInt8,bytesOf (A3 s)=some s
 |[]=>rfl
 |b::s=>by
  have:=IS s
  simp only [A3] at this
  simp only [A3,C5,bytesOf,this]
  have hb:(b.toNat:Int) < 256:=by have:=b.toNat_lt;omega
  simp [byteOf,hb]
theorem Iz {σ0 σ:AF} {i:Nat} {s:List UInt8} (h:BuS σ0 i s σ) (hs:s≠[]):
 AM Tryd.prog 55 [.gp i 0] σ (fun v σ'=>v= .d (.str s)∧σ0.le σ'):=by
 refine F1 (by simp) ?_
 rw [CQ]
 obtain ⟨p,v,hb,hp,hv⟩:=h.blk
 rcases hv with ⟨rfl,rfl⟩|⟨t,rfl,_,ht,ht0⟩
 · exact absurd rfl hs
 obtain ⟨b,r,rfl⟩:∃b r,s=b::r:=by cases s with|nil=>exact absurd rfl hs|cons b r=>exact ⟨b,r,rfl⟩
 have hbr:A3 (b::r)=[.int .u8 b.toNat]::A3 r:=rfl
 have hby:bytesOf ([.int .u8 b.toNat]::A3 r)=some (b::r):=IS (b::r)
 rw [hbr] at hb
 (repeat' (first|refine Run.ct rfl ?_|((first|refine Run.reg mixed ?_|refine Run.AN ?_|(refine XEx.OR (by simp only [ET,Ap]) hs ht ?_)|refine Run.MA DQ (AF.le_refl _) ?_|(refine AO rfl (fun h=>?_) (fun h=>?_)<;>try (cases h;done)))<;>try simp -implicitDefEqProofs only [hb,hby,ET,go_sem])|(refine ⟨fun h=>?_,fun h=>?_⟩<;>first|(cases h;done)|try simp only [h])|fail))
 refine ⟨h.le.blk,fun u hu=>?_,h.le.gt,h.le.bt⟩
 have hne:u≠t:=fun e=>by rw [e,ht0] at hu;cases hu
 simp [AF.Cv,hne,h.le.tok u hu]
end Go.Ab
set_option maxHeartbeats 4000000
namespace Go.Ab
open Go.Proofs
def Gs (first:Bool) (n:Int):List UInt8:=if n < 0 then (if first then [45] else [32,45,32]) else if first then [] else [32,43,32]
def Dg (n:Int):Int:=if n < 0 then -n else n
def Hg (v:Int):List UInt8:=if v=-1 then [114,101,115] else [118]++Lib.itoa v
def Jc (n:Int):List UInt8:=if Dg n=1 then [] else Lib.itoa (Dg n)++[42]
def Gv (first:Bool) (x:Int×Int):List UInt8:=Gs first x.2++Jc x.2++Hg x.1
def D5:Bool→Tms→List UInt8
 |_,[]=>[]
 |b,x::l=>Gv b x++D5 false l
def Fc (l:Ln):List UInt8:=if l.c=0∧l.ts≠[] then [] else Gs l.ts.isEmpty l.c++Lib.itoa (Dg l.c)
def Kt (l:Ln):List UInt8:=if Bb l then D5 true l.ts++Fc l else []
theorem Ju:∀(l:Tms) (b:Bool) (x:Int×Int),D5 b (l++[x])=D5 b l++Gv (b&&l.isEmpty) x
 |[],b,x=>by simp [D5]
 |y::l,b,x=>by simp [D5,Ju l]
theorem Ms (n:Int):Lib.itoa n≠[]:=by
 unfold Lib.itoa
 split
 · simp
 · intro h
   have:=congrArg List.length h
   rw [Lib.decDigits_length] at this
   have:=Lib.nDigits_pos n.toNat
   simp at *;omega
theorem Gj {n:Int} (h: -2000000≤n∧n≤2000000):(Lib.itoa n).length≤21:=Lib.itoa_length_le n (by omega) (by omega)
theorem J0 (b:Bool) (n:Int):(Gs b n).length≤3:=by unfold Gs;split<;>split<;>simp
theorem Me {n:Int} (h: -1048576≤n∧n≤1048576):0≤Dg n∧Dg n≤1048576:=by unfold Dg;split<;>omega
theorem R5 (b:Bool) {x:Int×Int} (h: -1048576≤x.2∧x.2≤1048576) (hv: -1≤x.1∧x.1 < 3000):(Gv b x).length≤50:=by
 have h1:=J0 b x.2
 have ha:=Me h
 have h2:(Jc x.2).length≤22:=by
  unfold Jc;split
  · simp
  · have:=Gj (n:=Dg x.2) ⟨by omega,by omega⟩
    simp only [AI,Ap,B7];omega
 have h3:(Hg x.1).length≤22:=by
  unfold Hg;split
  · simp
  · have:=Gj (n:=x.1) ⟨by omega,by omega⟩
    simp only [AI,Ap,B7];omega
 simp only [Gv,AI];omega
theorem S8 (v:Int):Hg v≠[]:=by unfold Hg;split<;>simp
theorem TO (b:Bool) (x:Int×Int):Gv b x≠[]:=by
 simp only [Gv]
 intro h
 exact S8 x.1 (List.append_eq_nil_iff.1 h).2
theorem OB:∀ {ts:Tms} {p:Option Int},Ly p ts=true→∀x∈ts,-1≤x.1∧x.1 < 3000
 |[],_,_,x,hx=>by cases hx
 |y::l,p,h,x,hx=>by
  simp only [Ly,AJ] at h
  rcases BD.1 hx with rfl|hx
  · have:=h.1.1.1.1;simpa [vaB] using this
  · exact OB h.2 x hx
theorem R9 {l:Ln} (h:Bb l=true):∀x∈l.ts,-1≤x.1∧x.1 < 3000:=by
 simp only [Bb,AJ] at h
 exact OB h.2
theorem Sa {n:Int} (h: -1048576≤n∧n≤1048576):IntKind.i64.wrap (0 - n)=-n:=by rw [Iy (by omega) (by omega)];omega
theorem HN {σ0 σ:AF} {i:Nat} {s:List UInt8} (n:Int) (first:Bool) (h:BuS σ0 i s σ) (hn: -1048576≤n∧n≤1048576) (hl:s.length≤100000):
 AM Tryd.prog 51 [.gp i 0,.d (.int .i64 n),.d (.bool first)] σ (fun v σ'=>v= .d (.int .i64 (Dg n))∧BuS σ0 i (s++Gs first n) σ'):=by
 refine Ls (by simp) ?_
 rw [O5]
 have hw:=Sa hn
 by_cases h0:n < 0
 · have hmax:(if -n>n then -n else n)=-n:=if_pos (by omega)
   cases first with
   |true=>
    (repeat' (first|refine Run.ct rfl ?_|((first|refine Run.reg mixed ?_|refine Run.AN ?_|(refine AK.mk rfl (BN [45] h (by simp) (by simp;omega)) ?_;rintro _ σ1 ⟨rfl,hq1⟩)|refine Run.MA DP (AF.le_refl _) ?_|(refine AO rfl (fun h=>?_) (fun h=>?_)<;>try (cases h;done)))<;>try simp -implicitDefEqProofs only [decide_eq_true h0,hw,mmA,hmax,go_sem])|(refine ⟨fun h=>?_,fun h=>?_⟩<;>first|(cases h;done)|try simp only [h])|fail))
    simp only [Gs,Dg,if_pos h0,if_true]
    exact ⟨trivial,hq1⟩
   |false=>
    (repeat' (first|refine Run.ct rfl ?_|((first|refine Run.reg mixed ?_|refine Run.AN ?_|(refine AK.mk rfl (BN [32,45,32] h (by simp) (by simp;omega)) ?_;rintro _ σ1 ⟨rfl,hq1⟩)|refine Run.MA DP (AF.le_refl _) ?_|(refine AO rfl (fun h=>?_) (fun h=>?_)<;>try (cases h;done)))<;>try simp -implicitDefEqProofs only [decide_eq_true h0,hw,mmA,hmax,go_sem])|(refine ⟨fun h=>?_,fun h=>?_⟩<;>first|(cases h;done)|try simp only [h])|fail))
    simp only [Gs,Dg,if_pos h0]
    exact ⟨trivial,hq1⟩
 · have hmax:(if -n>n then -n else n)=n:=by split<;>omega
   cases first with
   |true=>
    (repeat' (first|refine Run.ct rfl ?_|((first|refine Run.reg mixed ?_|refine Run.AN ?_|refine Run.MA DP (AF.le_refl _) ?_|(refine AO rfl (fun h=>?_) (fun h=>?_)<;>try (cases h;done)))<;>try simp -implicitDefEqProofs only [decide_eq_false h0,hw,mmA,hmax,go_sem])|(refine ⟨fun h=>?_,fun h=>?_⟩<;>first|(cases h;done)|try simp only [h])|fail))
    simp only [Gs,Dg,if_neg h0,if_true,BS]
    exact ⟨trivial,h⟩
   |false=>
    (repeat' (first|refine Run.ct rfl ?_|((first|refine Run.reg mixed ?_|refine Run.AN ?_|(refine AK.mk rfl (BN [32,43,32] h (by simp) (by simp;omega)) ?_;rintro _ σ1 ⟨rfl,hq1⟩)|refine Run.MA DP (AF.le_refl _) ?_|(refine AO rfl (fun h=>?_) (fun h=>?_)<;>try (cases h;done)))<;>try simp -implicitDefEqProofs only [decide_eq_false h0,hw,mmA,hmax,go_sem])|(refine ⟨fun h=>?_,fun h=>?_⟩<;>first|(cases h;done)|try simp only [h])|fail))
    simp only [Gs,Dg,if_neg h0]
    exact ⟨trivial,hq1⟩
theorem Iv {a b:List UInt8} (h:a.length+b.length≤1000000000):OO .add a b=some (.d (.str (a++b))):=by
 have:a.length+b.length≤maxLen:=Aa h (by decide+kernel)
 simp only [OO,if_pos this]
theorem La:∀ {l:Tms} {b:Bool},(∀x∈l,-1048576≤x.2∧x.2≤1048576)→(∀x∈l,-1≤x.1∧x.1 < 3000)→(D5 b l).length≤50 * l.length
 |[],_,_,_=>by simp [D5]
 |x::l,b,h,k=>by
  have h1:=R5 b (h x (A5 ..)) (k x (A5 ..))
  have h2:=La (l:=l) (b:=false) (fun y hy=>h y (Am _ hy)) (fun y hy=>k y (Am _ hy))
  simp only [D5,AI,Ap];omega
set_option maxHeartbeats 1000000 in
theorem JS (l:Ln) (σ:AF) (ht:σ.gt NC=some PR):AM Tryd.prog 24 [B6 l] σ (fun v σ'=>v= .d (.str (Kt l))∧σ'=σ):=by
 obtain ⟨c,ts⟩:=l
 refine KC (by simp) ?_
 rw [CQ,B6]
 cases hv:Bb ⟨c,ts⟩ with
 |false=>
  (repeat' (first|refine Run.ct rfl ?_|((first|refine Run.reg mixed ?_|refine Run.AN ?_|refine Run.Aj Cd (AF.le_refl _) ?_|refine AK.det (Av ⟨c,ts⟩ _) ?_|(refine AO rfl (fun h=>?_) (fun h=>?_)<;>try (cases h;done)))<;>try simp -implicitDefEqProofs only [hv,go_sem])|(refine ⟨fun h=>?_,fun h=>?_⟩<;>first|(cases h;done)|try simp only [h])|fail))
  simp [Kt,hv]
 |true=>
 obtain ⟨h1,h2,h3,h4⟩:=EJ hv
 have h5:=R9 hv
 simp only at h1 h2 h3 h4 h5
 (repeat' (first|refine Run.ct rfl ?_|((first|refine Run.reg mixed ?_|refine Run.AN ?_|refine AK.det (Av ⟨c,ts⟩ _) ?_|(refine AO rfl (fun h=>?_) (fun h=>?_)<;>try (cases h;done)))<;>try simp -implicitDefEqProofs only [hv,AG,go_sem])|(refine ⟨fun h=>?_,fun h=>?_⟩<;>first|(cases h;done)|try simp only [h])|fail))
 intro j hj
 have hb0:=QU hj
 generalize (σ.AX j [.CS,.A7]).E0 j (2,73)=σ1 at hb0 ⊢
 (repeat' (first|refine Run.ct rfl ?_|((first|refine Run.reg mixed ?_|refine Run.AN ?_|(refine AO rfl (fun h=>?_) (fun h=>?_)<;>try (cases h;done)))<;>try simp -implicitDefEqProofs only [AG,go_sem])|(refine ⟨fun h=>?_,fun h=>?_⟩<;>first|(cases h;done)|try simp only [h])|fail))
 refine Run.DR ?_
 refine Run.DS ((fun (a1:AV) (a3:AV) (a11:AV) (a12:AV)=>fun (y:Nat×AF)=>put 1 a1 (put 3 a3 (put 11 a11 (put 12 a12 (put 13 (.d (.int .i64 y.1)) U))))) _ _ _ _) (fun y=>Ba 1 [.d (.int .i64 c),.d (.sl (ts.map tmR))] E) (fun y=>y.2)
  (fun y=>y.1≤ts.length∧BuS σ j (D5 true (ts.take y.1)) y.2) (fun y=>ts.length - y.1) ?_ (0,σ1) ⟨by simp,hb0⟩
 rintro ⟨i,σ2⟩ ⟨hi,hb⟩ ih
 simp only at hi hb
 have htl:(D5 true (ts.take i)).length≤50 * i:=by
  have:=La (l:=ts.take i) (b:=true) (fun x hx=>h2 x (Ad hx)) (fun x hx=>h5 x (Ad hx))
  rw [Aq,FD hi] at this
  exact this
 by_cases hlt:i < ts.length
 · obtain ⟨x,hx⟩:=Dt hlt
   have hw1:=Bc (show i+1≤9000000000000000000 by omega)
   have hx':=Iw hx
   have hxm:=BA hx
   have hxb:=h2 x hxm
   have hxv:=h5 x hxm
   have hab:=Me hxb
   have hsl:=J0 ((i:Int)==0) x.2
   have hfirst:((i:Int)==0)=(true&&(ts.take i).isEmpty):=by
    rw [FC]
    simp only [beq_iff_eq,GV,List.isEmpty_iff,List.take_eq_nil_iff]
    constructor
    · intro h;left;omega
    · rintro (h|h)
      · omega
      · rw [h] at hlt;simp at hlt
   have hil:=Gj (n:=Dg x.2) ⟨by omega,by omega⟩
   have hvl:=Gj (n:=x.1) ⟨by omega,by omega⟩
   have hsn:=Ju (ts.take i) true x
   have htk:ts.take (i+1)=ts.take i++[x]:=by rw [Ds,hx];rfl
   by_cases hone:Dg x.2=1
   · have hone':(Dg x.2 != 1)=false:=by simpa using hone
     by_cases hres:x.1=-1
     · (repeat' (first|refine Run.ct rfl ?_|((first|refine Run.reg mixed ?_|refine Run.AN ?_|(refine AK.mk rfl (HN x.2 ((i:Int)==0) hb hxb (by omega)) ?_;rintro _ σ3 ⟨rfl,hq1⟩)|(refine AK.mk rfl (BN [114,101,115] hq1 (by simp) (by simp;omega)) ?_;rintro _ σ4 ⟨rfl,hq2⟩)|(refine AO rfl (fun h=>?_) (fun h=>?_)<;>try (cases h;done)))<;>try simp -implicitDefEqProofs only [CR hlt,hx',hw1,hone',Vn hres,go_sem])|(refine ⟨fun h=>?_,fun h=>?_⟩<;>first|(cases h;done)|try simp only [h])|fail))
       refine ih (i+1,σ4) ⟨by simp only;omega,?_⟩ (by simp only;omega)
       simp only
       rw [htk,hsn,← hfirst,Gv,Jc,if_pos hone,Hg,if_pos hres,BS,← Az]
       exact hq2
     · (repeat' (first|refine Run.ct rfl ?_|((first|refine Run.reg mixed ?_|refine Run.AN ?_|(refine AK.mk rfl (HN x.2 ((i:Int)==0) hb hxb (by omega)) ?_;rintro _ σ3 ⟨rfl,hq1⟩)|(refine AK.det (GP x.1 _ (by rw [← hq1.le.gt];exact ht)) ?_)|(refine AK.mk rfl (BN (118::Lib.itoa x.1) hq1 (by simp) (by simp;omega)) ?_;rintro _ σ4 ⟨rfl,hq2⟩)|(refine AO rfl (fun h=>?_) (fun h=>?_)<;>try (cases h;done)))<;>try simp -implicitDefEqProofs only [CR hlt,hx',hw1,hone',Rn hres,Iv (a:=[118]) (b:=Lib.itoa x.1) (by simp;omega),go_sem])|(refine ⟨fun h=>?_,fun h=>?_⟩<;>first|(cases h;done)|try simp only [h])|fail))
       refine ih (i+1,σ4) ⟨by simp only;omega,?_⟩ (by simp only;omega)
       simp only
       rw [htk,hsn,← hfirst,Gv,Jc,if_pos hone,Hg,if_neg hres,BS,← Az]
       exact hq2
   · have hone':(Dg x.2 != 1)=true:=by simpa using hone
     by_cases hres:x.1=-1
     · (repeat' (first|refine Run.ct rfl ?_|((first|refine Run.reg mixed ?_|refine Run.AN ?_|(refine AK.mk rfl (HN x.2 ((i:Int)==0) hb hxb (by omega)) ?_;rintro _ σ3 ⟨rfl,hq1⟩)|(refine AK.det (CJ (Dg x.2) _ (by rw [← hq1.le.gt];exact ht)) ?_)|(refine AK.mk rfl (BN (Lib.itoa (Dg x.2)++[42]) hq1 (by simp) (by simp;omega)) ?_;rintro _ σ4 ⟨rfl,hq2⟩)|(refine AK.mk rfl (BN [114,101,115] hq2 (by simp) (by simp;omega)) ?_;rintro _ σ5 ⟨rfl,hq3⟩)|(refine AO rfl (fun h=>?_) (fun h=>?_)<;>try (cases h;done)))<;>try simp -implicitDefEqProofs only [CR hlt,hx',hw1,hone',Vn hres,Iv (a:=Lib.itoa (Dg x.2)) (b:=[42]) (by simp;omega),go_sem])|(refine ⟨fun h=>?_,fun h=>?_⟩<;>first|(cases h;done)|try simp only [h])|fail))
       refine ih (i+1,σ5) ⟨by simp only;omega,?_⟩ (by simp only;omega)
       simp only
       rw [htk,hsn,← hfirst,Gv,Jc,if_neg hone,Hg,if_pos hres,← Az,← Az]
       exact hq3
     · (repeat' (first|refine Run.ct rfl ?_|((first|refine Run.reg mixed ?_|refine Run.AN ?_|(refine AK.mk rfl (HN x.2 ((i:Int)==0) hb hxb (by omega)) ?_;rintro _ σ3 ⟨rfl,hq1⟩)|(refine AK.det (CJ (Dg x.2) _ (by rw [← hq1.le.gt];exact ht)) ?_)|(refine AK.mk rfl (BN (Lib.itoa (Dg x.2)++[42]) hq1 (by simp) (by simp;omega)) ?_;rintro _ σ4 ⟨rfl,hq2⟩)|(refine AK.det (GP x.1 _ (by rw [← hq2.le.gt];exact ht)) ?_)|(refine AK.mk rfl (BN (118::Lib.itoa x.1) hq2 (by simp) (by simp;omega)) ?_;rintro _ σ5 ⟨rfl,hq3⟩)|(refine AO rfl (fun h=>?_) (fun h=>?_)<;>try (cases h;done)))<;>try simp -implicitDefEqProofs only [CR hlt,hx',hw1,hone',Rn hres,Iv (a:=Lib.itoa (Dg x.2)) (b:=[42]) (by simp;omega),Iv (a:=[118]) (b:=Lib.itoa x.1) (by simp;omega),go_sem])|(refine ⟨fun h=>?_,fun h=>?_⟩<;>first|(cases h;done)|try simp only [h])|fail))
       refine ih (i+1,σ5) ⟨by simp only;omega,?_⟩ (by simp only;omega)
       simp only
       rw [htk,hsn,← hfirst,Gv,Jc,if_neg hone,Hg,if_neg hres]
       simpa using hq3
 · have hil:i=ts.length:=by omega
   subst hil
   rw [List.take_length] at hb htl
   have hemp:((ts.length:Int)==0)=ts.isEmpty:=by
    rw [FC];simp
   have hne:∀ {s:List UInt8},s=Kt ⟨c,ts⟩→s≠[]:=by
    rintro s rfl
    simp only [Kt,hv,if_true]
    cases ts with
    |nil=>simp [Fc,Ms]
    |cons x l=>simp [D5,TO]
   by_cases hc:c=0∧ts≠[]
   · have hc0:(c != 0)=false:=by simpa using hc.1
     have hte:ts.isEmpty=false:=by simpa using hc.2
     have hf:D5 true ts=Kt ⟨c,ts⟩:=by
      simp only [Kt,hv,if_true,Fc]
      rw [if_pos hc,BS]
     (repeat' (first|refine Run.ct rfl ?_|((first|refine Run.reg mixed ?_|refine Run.AN ?_|(refine AK.mk rfl (Iz hb (hne hf)) ?_;rintro _ σ3 ⟨rfl,hle⟩)|(refine Run.Aj Cd hle ?_)|(refine AO rfl (fun h=>?_) (fun h=>?_)<;>try (cases h;done)))<;>try simp -implicitDefEqProofs only [DU hlt,AG,hc0,hemp,hte,go_sem])|(refine ⟨fun h=>?_,fun h=>?_⟩<;>first|(cases h;done)|try simp only [h])|fail))
     rw [hf]
   · have hor:((c != 0)||ts.isEmpty)=true:=by
      simp only [Bq,bne_iff_ne,ne_eq,List.isEmpty_iff]
      by_cases h0:c=0
      · right
        by_cases h:ts=[]
        · exact h
        · exact absurd ⟨h0,h⟩ hc
      · exact .inl h0
     have hab:=Me ⟨h3,h4⟩
     have hil:=Gj (n:=Dg c) ⟨by omega,by omega⟩
     have hsl:=J0 ts.isEmpty c
     have hf:D5 true ts++Gs ts.isEmpty c++Lib.itoa (Dg c)=Kt ⟨c,ts⟩:=by
      simp only [Kt,hv,if_true,Fc]
      rw [if_neg hc,Az]
     have hTail:True:=trivial
     cases hc0:(c != 0) with
     |true=>
      (repeat' (first|refine Run.ct rfl ?_|((first|refine Run.reg mixed ?_|refine Run.AN ?_|(refine AK.mk rfl (HN c ts.isEmpty hb ⟨h3,h4⟩ (by omega)) ?_;rintro _ σ3 ⟨rfl,hq1⟩)|(refine AK.det (CJ (Dg c) _ (by rw [← hq1.le.gt];exact ht)) ?_)|(refine AK.mk rfl (BN (Lib.itoa (Dg c)) hq1 (Ms _) (by simp;omega)) ?_;rintro _ σ4 ⟨rfl,hq2⟩)|(refine AK.mk rfl (Iz hq2 (hne hf)) ?_;rintro _ σ5 ⟨rfl,hle⟩)|(refine Run.Aj Cd hle ?_)|(refine AO rfl (fun h=>?_) (fun h=>?_)<;>try (cases h;done)))<;>try simp -implicitDefEqProofs only [DU hlt,AG,hc0,hemp,go_sem])|(refine ⟨fun h=>?_,fun h=>?_⟩<;>first|(cases h;done)|try simp only [h])|fail))
      rw [hf]
     |false=>
      have hte:ts.isEmpty=true:=by rw [hc0] at hor;simpa using hor
      (repeat' (first|refine Run.ct rfl ?_|((first|refine Run.reg mixed ?_|refine Run.AN ?_|(refine AK.mk rfl (HN c true hb ⟨h3,h4⟩ (by omega)) ?_;rintro _ σ3 ⟨rfl,hq1⟩)|(refine AK.det (CJ (Dg c) _ (by rw [← hq1.le.gt];exact ht)) ?_)|(refine AK.mk rfl (BN (Lib.itoa (Dg c)) hq1 (Ms _) (by rw [hte] at hsl;simp;omega)) ?_;rintro _ σ4 ⟨rfl,hq2⟩)|(refine AK.mk rfl (Iz hq2 (hne (by rw [← hf,hte]))) ?_;rintro _ σ5 ⟨rfl,hle⟩)|(refine Run.Aj Cd hle ?_)|(refine AO rfl (fun h=>?_) (fun h=>?_)<;>try (cases h;done)))<;>try simp -implicitDefEqProofs only [DU hlt,AG,hc0,hemp,hte,go_sem])|(refine ⟨fun h=>?_,fun h=>?_⟩<;>first|(cases h;done)|try simp only [h])|fail))
      rw [← hf,hte]
end Go.Ab
namespace Go.Ab
open Go.Proofs
theorem TJ (a b:List UInt8):OO .eql a b=some (.d (.bool (a==b))):=rfl
theorem QM:Kt ⟨3,[(1,1),(2,-1)]⟩=[118,49,32,45,32,118,50,32,43,32,51]:=by
 have h1:Lib.decDigits 1=[49]:=Lib.decDigits_one (by decide)
 have h2:Lib.decDigits 2=[50]:=Lib.decDigits_one (by decide)
 have h3:Lib.decDigits 3=[51]:=Lib.decDigits_one (by decide)
 have hv:Bb ⟨3,[(1,1),(2,-1)]⟩=true:=by decide
 simp [Kt,hv,D5,Gv,Gs,Jc,Hg,Dg,Fc,Lib.itoa,h1,h2,h3]
theorem Rm (σ:AF) (ht:σ.gt NC=some PR):AM Tryd.prog 22 [] σ (fun v σ'=>v= .d (.bool true)∧σ'=σ):=by
 refine Lq (by simp) ?_
 have h0:B0 []=U:=by funext s;simp [B0,U]
 rw [h0]
 have r1:Gp (TL (Ei 1) (Ei 2))= .tup [B6 ⟨0,[(1,1),(2,-1)]⟩,.d (.int .i64 0)]:=rfl
 have r2:Gp (Ri ⟨0,[(1,1),(2,-1)]⟩ (Mj 3))= .tup [B6 ⟨3,[(1,1),(2,-1)]⟩,.d (.int .i64 0)]:=rfl
 have r3:(Kt ⟨3,[(1,1),(2,-1)]⟩==[118,49,32,45,32,118,50,32,43,32,51])=true:=by rw [QM];rfl
 (repeat' (first|refine Run.ct rfl ?_|((first|refine Run.reg mixed ?_|refine Run.AN ?_|refine Run.Aj Hc (AF.le_refl _) ?_|refine AK.det (Eu 1 _) ?_|refine AK.det (Eu 2 _) ?_|refine AK.det (Lx (Ei 1) (Ei 2) _) ?_|refine AK.det (KE 3 _) ?_|refine AK.det (Lw ⟨0,[(1,1),(2,-1)]⟩ (Mj 3) _) ?_|refine AK.det (JS ⟨3,[(1,1),(2,-1)]⟩ _ ht) ?_|(refine AO rfl (fun h=>?_) (fun h=>?_)<;>try (cases h;done)))<;>try simp -implicitDefEqProofs only [r1,r2,r3,TJ,B6,tmR,go_sem])|(refine ⟨fun h=>?_,fun h=>?_⟩<;>first|(cases h;done)|try simp only [h])|fail))
end Go.Ab
namespace Go.Ab
open Go.Proofs
theorem Jx (l m n:Ln) (v:Int) (hb:MW l.ts) (σ:AF) (ht:σ.gt NC=some PR):AM Tryd.prog 9 [B6 l,B6 m,B6 n,.d (.int .i64 v)] σ (fun v σ'=>v= .d (.bool true)∧σ'=σ):=
 IJ l m n v hb σ (Rm σ ht)
end Go.Ab
