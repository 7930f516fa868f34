/- The compact codes of the functions of this seat, computed out of the translation. The reference's texts of expressions. Conditions: none. -/
import Derived.Test.YtifplkldbbcldaaGreatDoorProg
import Derived.KernelRfl
import Derived.Test.YtifplkldbbcldaaGreatDoorXTb
set_option linter.unusedSimpArgs false
set_option linter.unusedVariables false
set_option maxRecDepth 4000
set_option maxHeartbeats 8000000
open List renaming replicate→Ak,map_cons→AG,map_nil→AH,length_cons→AB,length_nil→AD,length_append→AA,cons_append→A0,nil_append→A1,take_of_length_le→A6,getElem?_cons_zero→A5,getElem?_cons_succ→Ae,mem_of_getElem?→Aa,length_take→B1,length_map→AE,take→Jl,drop→GN,append_nil→AY,length_pos_iff→Aj,append_assoc→AS,length→I8,all_eq_true→A4,mem_map→Iw
open Int renaming reduceLE→BB,reduceToNat→Ap,reduceBEq→AP
open Bool renaming and_eq_true→AM
open And renaming intro→Cg
open Nat renaming zero_mul→Lj,mul_le_mul_right→Ah
namespace Go.Ab
open Go.Proofs
variable {args:List AV} {σ:AN} {K:AV→AN→Prop}
def Wn:C:=(.seq (.reg [Qo 2 (.mv (.c (.d (.str []))))] [0])
 (.seq (.reg [Qo 4 (.bsl 1 9 [(.d (.str [])),(.d (.str [])),(.d (.str [])),(.d (.str [])),(.d (.str [])),(.d (.str [])),(.d (.str [])),(.d (.str [])),(.d (.str []))] [(0,1,(.c (.d (.str [])))),(1,1,(.c (.d (.str [43])))),(2,1,(.c (.d (.str [45])))),(3,1,(.c (.d (.str [42])))),(4,1,(.c (.d (.str [47])))),(5,1,(.c (.d (.str [37])))),(6,1,(.c (.d (.str [60])))),(7,1,(.c (.d (.str [60,61])))),(8,1,(.c (.d (.str [61,61]))))]),
 Qm 3 4] [0,3])
 (.seq (.seq (.reg [Qm 5 0,
 Qo 6 (.bin .lss (.t 5) (.c (.d (.int .i64 1)))),
 Qm 7 6,
 ⟨some 8,.mv (.t 0),some (7,false)⟩,
 ⟨some 9,.mv (.t 3),some (7,false)⟩,
 ⟨some 10,.len (.t 9),some (7,false)⟩,
 ⟨some 11,.bin .geq (.t 8) (.t 10),some (7,false)⟩,
 Qo 12 (.pick (.t 7) (.c (.d (.bool true))) (.t 11))] [0,3,12])
 (.cond (.t 12) (.seq (.reg [Qo 2 (.mv (.c (.d (.str []))))] [2])
 .ret)
 .skip))
 (.seq (.reg [Qm 13 3,
 Qm 14 0,
 Qo 15 (.ix (.t 13) (.t 14) 1),
 Qo 16 (.ld (.t 15) none),
 Qm 2 16] [2])
 .ret))))
noncomputable def Le:Cx:=⟨Tryz.prog,96,Tryz.f96,17,[],[],[.t 2]⟩
theorem Wv:Good Le:=⟨Tryz.func96,by kernel_rfl⟩
theorem fC:Le.rs=[.t 2]:=rfl
theorem gS (hl:args.length≤17) (h:Run Le K [.code Wn] (Ar args) E σ):AQ Tryz.prog 96 args σ K:=
 AW (cx:=Le) (code:=Tryz.f96.body.getD .skip) Wv (by kernel_rfl) Tryz.ntmps96 hl (AZ Le _ (Az Wn) _ [] (by kernel_rfl)) h
def Tz:C:=(.seq (.reg [Qo 2 (.mv (.c (.d (.str []))))] [0])
 (.seq (.reg [Qo 4 (.bsl 1 8 [(.d (.str [])),(.d (.str [])),(.d (.str [])),(.d (.str [])),(.d (.str [])),(.d (.str [])),(.d (.str [])),(.d (.str []))] [(0,1,(.c (.d (.str [])))),(1,1,(.c (.d (.str [110,101,119])))),(2,1,(.c (.d (.str [103,101,116])))),(3,1,(.c (.d (.str [115,101,116])))),(4,1,(.c (.d (.str [108,101,110])))),(5,1,(.c (.d (.str [114,101,102])))),(6,1,(.c (.d (.str [114,101,97,100])))),(7,1,(.c (.d (.str [119,114,105,116,101]))))]),
 Qm 3 4] [0,3])
 (.seq (.seq (.reg [Qm 5 0,
 Qo 6 (.bin .lss (.t 5) (.c (.d (.int .i64 1)))),
 Qm 7 6,
 ⟨some 8,.mv (.t 0),some (7,false)⟩,
 ⟨some 9,.mv (.t 3),some (7,false)⟩,
 ⟨some 10,.len (.t 9),some (7,false)⟩,
 ⟨some 11,.bin .geq (.t 8) (.t 10),some (7,false)⟩,
 Qo 12 (.pick (.t 7) (.c (.d (.bool true))) (.t 11))] [0,3,12])
 (.cond (.t 12) (.seq (.reg [Qo 2 (.mv (.c (.d (.str []))))] [2])
 .ret)
 .skip))
 (.seq (.reg [Qm 13 3,
 Qm 14 0,
 Qo 15 (.ix (.t 13) (.t 14) 1),
 Qo 16 (.ld (.t 15) none),
 Qm 2 16] [2])
 .ret))))
noncomputable def IM:Cx:=⟨Tryz.prog,100,Tryz.f100,17,[],[],[.t 2]⟩
theorem UJ:Good IM:=⟨Tryz.func100,by kernel_rfl⟩
theorem ZY:IM.rs=[.t 2]:=rfl
theorem aO (hl:args.length≤17) (h:Run IM K [.code Tz] (Ar args) E σ):AQ Tryz.prog 100 args σ K:=
 AW (cx:=IM) (code:=Tryz.f100.body.getD .skip) UJ (by kernel_rfl) Tryz.ntmps100 hl (AZ IM _ (Az Tz) _ [] (by kernel_rfl)) h
attribute [go_sem] fC ZY
end Go.Ab
namespace Go.Ab
open Go.Proofs
theorem eW (u:Int) (σ:AN) (h:1≤u∧u≤8):AQ Tryz.prog 96 [.d (.int .i64 u)] σ (fun v σ'=>v= .d (.str (opT u))∧σ'=σ):=by
 refine gS (by simp) ?_
 rw [Ax]
 have hu:u=1∨u=2∨u=3∨u=4∨u=5∨u=6∨u=7∨u=8:=by omega
 rcases hu with rfl|rfl|rfl|rfl|rfl|rfl|rfl|rfl
 all_goals (repeat' (first|refine Run.ct rfl ?_|((first|refine Run.reg mixed ?_|refine Run.AJ ?_|refine Run.A9 Wv (AN.le_refl _) ?_)<;>try simp -implicitDefEqProofs only [Ak,Int.reduceLT,BB,Ap,go_sem])|(refine ⟨fun h=>?_,fun h=>?_⟩<;>first|(cases h;done)|try simp only [h])|fail))
 all_goals rfl
theorem ZV (u:Int) (σ:AN) (h:1≤u∧u≤7):AQ Tryz.prog 100 [.d (.int .i64 u)] σ (fun v σ'=>v= .d (.str (prT u))∧σ'=σ):=by
 refine aO (by simp) ?_
 rw [Ax]
 have hu:u=1∨u=2∨u=3∨u=4∨u=5∨u=6∨u=7:=by omega
 rcases hu with rfl|rfl|rfl|rfl|rfl|rfl|rfl
 all_goals (repeat' (first|refine Run.ct rfl ?_|((first|refine Run.reg mixed ?_|refine Run.AJ ?_|refine Run.A9 UJ (AN.le_refl _) ?_)<;>try simp -implicitDefEqProofs only [Ak,Int.reduceLT,BB,Ap,go_sem])|(refine ⟨fun h=>?_,fun h=>?_⟩<;>first|(cases h;done)|try simp only [h])|fail))
 all_goals rfl
theorem AEJ (a b:Nat):decide ((a:Int) < (b:Int))=decide (a < b):=decide_eq_decide.2 (by omega)
theorem lO {o:Int} {n:Str} {u:Int} {ns:List Str} {ks:List Ex} {al:List Al} (h:(Ex.mk o n u ns ks al).nb):o=13→1≤u∧u≤8:=fun e=>by
 have:=(ZF h).2.1
 subst e
 simpa [nuB] using this
theorem iV {e:Ex} (hn:e.nb) (hz:e.size≤100000) (d:Nat) (σ:AN) (hT:AQ Tryz.prog 49 [exA e] σ (fun v σ'=>v= .d (.str (Af e))∧σ'=σ)):AQ Tryz.prog 95 [exA e,.d (.int .i64 (d:Int))] σ (fun v σ'=>v= .d (.str (pl d e (Af e)))∧σ'=σ):=by
 refine lC (by simp) ?_
 rw [BP]
 have hle:=V9 e hn
 obtain ⟨o,n,u,ns,ks,al⟩:=e
 have hlv:=XJ (n:=n) (ns:=ns) (ks:=ks) (al:=al) (lO hn) σ
 unfold pl
 generalize Af (.mk o n u ns ks al)=tx at *
 have hli:=AEJ (lvl (.mk o n u ns ks al)) d
 generalize lvl (.mk o n u ns ks al)=lv at *
 simp only [exA,Ex.A3,AG,AH] at hlv hT ⊢
 by_cases hl:lv < d
 · rw [if_pos hl]
   have ha1:=B7 (a:=[40]) (b:=tx) (by simp only [AB,AD];omega)
   have ha2:=B7 (a:=[40]++tx) (b:=[41]) (by simp only [AA,AB,AD];omega)
   simp only [A0,A1] at ha1 ha2
   (repeat' (first|refine Run.ct rfl ?_|((first|refine Run.reg mixed ?_|refine Run.AJ ?_|refine Run.A9 Ua (AN.le_refl _) ?_|refine AI.det (hlv) ?_|refine AI.det (hT) ?_)<;>try simp -implicitDefEqProofs only [hli,decide_eq_true hl,ha1,ha2,go_sem])|fail))
   all_goals rfl
 · rw [if_neg hl]
   (repeat' (first|refine Run.ct rfl ?_|((first|refine Run.reg mixed ?_|refine Run.AJ ?_|refine Run.A9 Ua (AN.le_refl _) ?_|refine AI.det (hlv) ?_|refine AI.det (hT) ?_)<;>try simp -implicitDefEqProofs only [hli,decide_eq_false hl,go_sem])|fail))
theorem sG:∀ {l:List Str} {k:Nat} {x:Str},l[k]?=some x→x.length≤JL l
 |[],_,_,h=>by cases h
 |y::l,0,x,h=>by simp at h;subst h;rw [Cz];omega
 |y::l,k+1,x,h=>by
  have:=sG (l:=l) (by simpa using h)
  rw [Cz];omega
theorem TZ (x:Str) (l:List Str):Ur ((x::l).map BM) (some (.d (.int .i64 1))) none none 1=some (.d (.sl (l.map BM))):=by
 simp [Ur,VG,Th,fG,BM]
 rw [A6 (by simp)]
set_option maxHeartbeats 8000000 in
theorem Uo:∀(s:Nat) (e:Ex),e.size≤s→s≤100000→e.nb→∀σ,AQ Tryz.prog 49 [exA e] σ (fun v σ'=>v= .d (.str (Af e))∧σ'=σ)
 |0,e,hs,_,_,_=>by have:=e.size_pos;omega
 |s+1,.mk o n u ns ks al,hs,hz,hb,σ=>by
  have hne:=hb
  rw [Ex.nb,Ex.IW,Al.IW] at hb
  obtain ⟨hn,hk,ha⟩:=hb
  simp only [Ex.size] at hs
  have hpl:∀x∈ks,∀(d:Nat) τ,AQ Tryz.prog 95 [exA x,.d (.int .i64 (d:Int))] τ (fun v σ'=>v= .d (.str (pl d x (Af x)))∧σ'=τ):=fun x hx d τ=>by
   have:=Ex.Ly hx
   exact iV (hk x hx) (by omega) d τ (Uo s x (by omega) (by omega) (hk x hx) τ)
  have htx:∀c vs b,Al.mk c vs b∈al→∀τ,AQ Tryz.prog 49 [exA b] τ (fun v σ'=>v= .d (.str (Af b))∧σ'=τ):=fun c vs b hx τ=>by
   have:=Al.Ly hx
   rw [Al.size] at this
   exact Uo s b (by omega) (by omega) (by have:=ha _ hx;rwa [Al.nb] at this) τ
  simp only [GJ,AM] at hn
  obtain ⟨⟨⟨⟨hnm,hnu⟩,hns⟩,has⟩,hnk⟩:=hn
  have hes:=Yy ks ((Ex.IW).2 hk)
  have has':=Yx al ((Al.IW).2 ha) (YH has)
  rw [Ij] at hes
  rw [Ox] at has'
  have hnn:=oH hnm
  have hnsn:=oJ hns
  refine qF (by simp) ?_
  rw [Ax]
  rw [Af,Ij,Ox]
  by_cases h13:o=13
  · subst h13
    obtain ⟨a,b,rfl⟩:=PR (by simpa [nkB] using hnk)
    have hu8:=lO hne rfl
    have hlv:=XJ (n:=n) (ns:=ns) (ks:=[a,b]) (al:=al) (lO hne) σ
    have hop:=eW u σ hu8
    have hpa:=hpl a (by simp) (if Ch u=1 then 2 else Ch u) σ
    have hpb:=hpl b (by simp) (if Ch u=1 then 2 else Ch u+1) σ
    have e:G9 13 n u ns [a,b] ([a,b].map Af) (al.map E5)=pl (if Ch u=1 then 2 else Ch u) a (Af a)++[32]++opT u++[32]++pl (if Ch u=1 then 2 else Ch u+1) b (Af b):=by
     show sW u [a,b] [Af a,Af b]=_
     simp [sW,at0]
    have hl1:=TT (if Ch u=1 then 2 else Ch u) a (Af a)
    have hl2:=TT (if Ch u=1 then 2 else Ch u+1) b (Af b)
    have hl3:=hO u
    simp only [AG,AH,Cz] at hes
    have hlu:lvl (.mk 13 n u ns [a,b] al)=Ch u:=rfl
    rw [e]
    rw [hlu] at hlv
    clear e hlu hpl htx
    have h3:Ch u=1∨Ch u=2∨Ch u=3:=by unfold Ch;split;exact .inr (.inl rfl);split;exact .inr (.inr rfl);exact .inl rfl
    generalize Ch u=z at *
    generalize opT u=tu at *
    generalize Af a=ta0 at *
    generalize Af b=tb0 at *
    rcases h3 with rfl|rfl|rfl
    all_goals simp only [Nat.reduceEqDiff,if_true,if_false,Nat.reduceAdd] at hpa hpb hl1 hl2 ⊢
    · replace hlv:AQ Tryz.prog 94 [exA (.mk 13 n u ns [a,b] al)] σ (fun v σ'=>v= .d (.int .i64 1)∧σ'=σ):=hlv
      replace hpa:AQ Tryz.prog 95 [exA a,.d (.int .i64 2)] σ (fun v σ'=>v= .d (.str (pl 2 a ta0))∧σ'=σ):=hpa
      replace hpb:AQ Tryz.prog 95 [exA b,.d (.int .i64 2)] σ (fun v σ'=>v= .d (.str (pl 2 b tb0))∧σ'=σ):=hpb
      generalize pl 2 a ta0=ta at *
      generalize pl 2 b tb0=tb at *
      obtain ⟨o1,n1,u1,ns1,ks1,al1⟩:=a
      obtain ⟨o2,n2,u2,ns2,ks2,al2⟩:=b
      simp only [exA,Ex.A3,AG,AH] at hpa hpb hlv ⊢
      (repeat' (first|refine Run.ct rfl ?_|((first|refine Run.reg mixed ?_|refine Run.AJ ?_|(refine Run.FA mixed ?_)|(with_reducible refine Cg ?_ ?_)|(refine Run.A9 Bj (σ2:=σ) (AN.le_refl _) ?_)|(refine XPv.cat (by (try simp only [AA,AB,AD]);omega) ?_)|refine AI.det (hlv) ?_|refine AI.det (hpa) ?_|refine AI.det (hpb) ?_|refine AI.det (hop) ?_)<;>try simp -implicitDefEqProofs only [AP,BB,Ap,if_true,A5,Ae,go_sem])|fail))
    · replace hlv:AQ Tryz.prog 94 [exA (.mk 13 n u ns [a,b] al)] σ (fun v σ'=>v= .d (.int .i64 2)∧σ'=σ):=hlv
      replace hpa:AQ Tryz.prog 95 [exA a,.d (.int .i64 2)] σ (fun v σ'=>v= .d (.str (pl 2 a ta0))∧σ'=σ):=hpa
      replace hpb:AQ Tryz.prog 95 [exA b,.d (.int .i64 3)] σ (fun v σ'=>v= .d (.str (pl 3 b tb0))∧σ'=σ):=hpb
      generalize pl 2 a ta0=ta at *
      generalize pl 3 b tb0=tb at *
      obtain ⟨o1,n1,u1,ns1,ks1,al1⟩:=a
      obtain ⟨o2,n2,u2,ns2,ks2,al2⟩:=b
      simp only [exA,Ex.A3,AG,AH] at hpa hpb hlv ⊢
      (repeat' (first|refine Run.ct rfl ?_|((first|refine Run.reg mixed ?_|refine Run.AJ ?_|(refine Run.FA mixed ?_)|(with_reducible refine Cg ?_ ?_)|(refine Run.A9 Bj (σ2:=σ) (AN.le_refl _) ?_)|(refine XPv.cat (by (try simp only [AA,AB,AD]);omega) ?_)|refine AI.det (hlv) ?_|refine AI.det (hpa) ?_|refine AI.det (hpb) ?_|refine AI.det (hop) ?_)<;>try simp -implicitDefEqProofs only [AP,BB,Ap,if_true,A5,Ae,go_sem])|fail))
    · replace hlv:AQ Tryz.prog 94 [exA (.mk 13 n u ns [a,b] al)] σ (fun v σ'=>v= .d (.int .i64 3)∧σ'=σ):=hlv
      replace hpa:AQ Tryz.prog 95 [exA a,.d (.int .i64 3)] σ (fun v σ'=>v= .d (.str (pl 3 a ta0))∧σ'=σ):=hpa
      replace hpb:AQ Tryz.prog 95 [exA b,.d (.int .i64 4)] σ (fun v σ'=>v= .d (.str (pl 4 b tb0))∧σ'=σ):=hpb
      generalize pl 3 a ta0=ta at *
      generalize pl 4 b tb0=tb at *
      obtain ⟨o1,n1,u1,ns1,ks1,al1⟩:=a
      obtain ⟨o2,n2,u2,ns2,ks2,al2⟩:=b
      simp only [exA,Ex.A3,AG,AH] at hpa hpb hlv ⊢
      (repeat' (first|refine Run.ct rfl ?_|((first|refine Run.reg mixed ?_|refine Run.AJ ?_|(refine Run.FA mixed ?_)|(with_reducible refine Cg ?_ ?_)|(refine Run.A9 Bj (σ2:=σ) (AN.le_refl _) ?_)|(refine XPv.cat (by (try simp only [AA,AB,AD]);omega) ?_)|refine AI.det (hlv) ?_|refine AI.det (hpa) ?_|refine AI.det (hpb) ?_|refine AI.det (hop) ?_)<;>try simp -implicitDefEqProofs only [AP,BB,Ap,if_true,A5,Ae,go_sem])|fail))
  have hks7:ks.length≤100000:=by have:=Ex.Es ks;omega
  simp only [exA,Ex.A3,AG,AH]
  (repeat' (first|refine Run.ct rfl ?_|((first|refine Run.reg mixed ?_|refine Run.AJ ?_)<;>try simp -implicitDefEqProofs only [Bt h13,go_sem])|fail))
  refine Run.B3 ?_
  refine Run.B6 ((fun (a1:AV)=>fun (y:Nat×AV×AN)=>put 1 a1 (put 5 (y.2.1) (put 6 (.d (.int .i64 y.1)) U))) _) (fun _=>BZ 1 [.d (.int .i64 o),.d (.str n),.d (.int .i64 u),.d (.sl (ns.map BM)),.d (.sl (ks.map Ex.enc)),.d (.sl (al.map Al.enc))] E) (fun y=>y.2.2) (fun y=>y.1≤ks.length∧SR σ ((V8 o ks).take y.1) y.2.1 y.2.2) (fun y=>ks.length - y.1) ?_ (0,.AX,σ) ⟨by simp,SR.nil σ⟩
  rintro ⟨i,v,τ⟩ ⟨hi,hm⟩ ih
  simp only at hi hm
  have hq:=hm.cell
  by_cases hlt:i < ks.length
  · obtain ⟨x,hx⟩:=Bu hlt
    have he:=Bi (enc:=Ex.enc) hx
    have hw1:IntKind.i64.wrap ((i:Int)+1)=((i+1:Nat):Int):=by rw [Av (by omega) (by omega)];omega
    have hp:=hpl x (Aa hx) (if o=12∧i=0 then 4 else 0) τ
    have hnx:(V8 o ks).take (i+1)=(V8 o ks).take i++[pl (if o=12∧i=0 then 4 else 0) x (Af x)]:=E3 (xU hx)
    have hlk:((V8 o ks).take i).length≤100000:=by rw [B1,gZ];omega
    have hih:=fun v' τ' (h:SR σ ((V8 o ks).take i++[pl (if o=12∧i=0 then 4 else 0) x (Af x)]) v' τ')=>ih (i+1,v',τ') ⟨by simp only;omega,by simp only;rw [hnx];exact h⟩ (by simp only;omega)
    clear hnx ih
    generalize pl (if o=12∧i=0 then 4 else 0) x (Af x)=tx at hp hih
    generalize (V8 o ks).take i=ts at hm hih hlk
    obtain ⟨k0,n0,u0,ns0,ks0,al0⟩:=x
    simp only [exA,Ex.A3,AG,AH] at he hp
    by_cases h12:o=12
    · by_cases h0:i=0
      · subst h12 h0
        simp only [and_self,if_true] at hp
        (repeat' (first|refine Run.ct rfl ?_|((first|refine Run.reg mixed ?_|refine Run.AJ ?_|(refine Rt.sr hm rfl hlk (by decide) (fun v3 τ3 hm3=>?_);have hq3:=hm3.cell)|refine AI.det (hp) ?_)<;>try simp -implicitDefEqProofs only [BQ hlt,he,hw1,AE,AP,hq.1,hq.2.1,hq.2.2.1,hq.2.2.2,go_sem])|(refine ⟨fun h=>?_,fun h=>?_⟩<;>first|(cases h;done)|try simp only [h])|fail))
        (repeat' (first|refine Run.ct rfl ?_|((first|refine Run.reg mixed ?_|refine Run.AJ ?_)<;>try simp -implicitDefEqProofs only [hw1,hq3.1,hq3.2.1,hq3.2.2.1,hq3.2.2.2,go_sem])|fail))
        exact hih v3 τ3 hm3
      · have hi0:(((i:Nat):Int)==0)=false:=Bt (by omega)
        subst h12
        simp only [h0,and_false,if_false] at hp
        (repeat' (first|refine Run.ct rfl ?_|((first|refine Run.reg mixed ?_|refine Run.AJ ?_|(refine Rt.sr hm rfl hlk (by decide) (fun v3 τ3 hm3=>?_);have hq3:=hm3.cell)|refine AI.det (hp) ?_)<;>try simp -implicitDefEqProofs only [BQ hlt,he,hw1,AE,AP,hi0,hq.1,hq.2.1,hq.2.2.1,hq.2.2.2,go_sem])|fail))
        (repeat' (first|refine Run.ct rfl ?_|((first|refine Run.reg mixed ?_|refine Run.AJ ?_)<;>try simp -implicitDefEqProofs only [hw1,hq3.1,hq3.2.1,hq3.2.2.1,hq3.2.2.2,go_sem])|fail))
        exact hih v3 τ3 hm3
    · simp only [h12,false_and,if_false] at hp
      (repeat' (first|refine Run.ct rfl ?_|((first|refine Run.reg mixed ?_|refine Run.AJ ?_|(refine Rt.sr hm rfl hlk (by decide) (fun v3 τ3 hm3=>?_);have hq3:=hm3.cell)|refine AI.det (hp) ?_)<;>try simp -implicitDefEqProofs only [BQ hlt,he,hw1,AE,Bt h12,hq.1,hq.2.1,hq.2.2.1,hq.2.2.2,go_sem])|fail))
      (repeat' (first|refine Run.ct rfl ?_|((first|refine Run.reg mixed ?_|refine Run.AJ ?_)<;>try simp -implicitDefEqProofs only [hw1,hq3.1,hq3.2.1,hq3.2.2.1,hq3.2.2.2,go_sem])|fail))
      exact hih v3 τ3 hm3
  rw [A6 (by rw [gZ];omega)] at hm
  clear ih
  by_cases h12:o=12
  · subst h12
    obtain ⟨f,l,rfl⟩:∃f l,ks=f::l:=by
     cases ks with
     |nil=>simp [nkB] at hnk
     |cons f l=>exact ⟨f,l,rfl⟩
    have hl0:=TT 4 f (Af f)
    have hjl:=E2 (sep:=[44,32]) (by decide) (l.map Af)
    simp only [AG,Cz] at hes
    have e:G9 12 n u ns (f::l) ((f::l).map Af) (al.map E5)=(if Hc f then [40]++Af f++[41] else pl 4 f (Af f))++[40]++Lib.join (l.map Af) [44,32]++[41]:=by
     show (if Hc f then GB (Af f) else pl 4 f (Af f))++FU (l.map Af)=_
     simp [FU,GB,cms]
    have hji:=HZ (l.map Af) σ (by omega)
    have hbl:Hc f=true→pl 4 f (Af f)=Af f:=fun h=>by
     obtain ⟨of,nf,uf,nsf,ksf,alf⟩:=f
     simp only [Hc,AM,beq_iff_eq] at h
     obtain ⟨rfl,_⟩:=h
     rfl
    rw [e]
    simp only [V8,if_true] at hm
    have hrow:∀t:Str,Ur ((t::l.map Af).map BM) (some (.d (.int .i64 1))) none none 1=some (.d (.sl ((l.map Af).map BM))):=fun t=>TZ t _
    have hr0:∀t:Str,((t::l.map Af).map BM)[0]?=some [.str t]:=fun t=>rfl
    have hlL:∀t:Str,(t::l.map Af).length≤1000000:=fun t=>by simp only [AB,AE] at hks7 ⊢;omega
    have hjv:∃j,σ.blk j=none∧v= .ms j (pl 4 f (Af f)::l.map Af).length 1 wN∧τ=σ.AK j (Wd (pl 4 f (Af f)::l.map Af)):=by
     rcases hm with ⟨_,h,_⟩|h
     · cases h
     · exact h
    obtain ⟨j,hj,rfl,rfl⟩:=hjv
    have hm':∀t:Str,SR σ (t::l.map Af) (.ms j (pl 4 f (Af f)::l.map Af).length 1 wN) (σ.AK j (Wd (t::l.map Af))):=fun t=>.inr ⟨j,hj,by simp,rfl⟩
    have hln:(pl 4 f (Af f)::l.map Af).length=l.length+1:=by simp
    rw [hln] at hm' ⊢
    have hli:decide ((i:Int) < (((l.map Ex.enc).length+1:Nat):Int))=false:=by simp only [AB,AE,decide_eq_false_iff_not] at hlt ⊢;omega
    have hli2:decide ((i:Int) < ((l.length+1:Nat):Int))=false:=by simp only [AB,AE,decide_eq_false_iff_not] at hlt ⊢;omega
    clear e hpl htx hm hln
    generalize Lib.join (l.map Af) [44,32]=J at *
    generalize l.map Af=tl at *
    generalize hP:pl 4 f (Af f)=P at *
    generalize Af f=tf at *
    have hpos:((0:Int) < ((l.length+1:Nat):Int))=True:=eq_true (by omega)
    have hz00:(((0:Nat):Int)==0)=true:=rfl
    obtain ⟨of,nf,uf,nsf,ksf,alf⟩:=f
    cases hbc:Hc (.mk of nf uf nsf ksf alf) with
    |true=>
     have hPf:=hbl hbc
     subst hPf
     simp only [Hc,AM,beq_iff_eq,List.isEmpty_iff] at hbc
     obtain ⟨rfl,rfl⟩:=hbc
     rw [if_pos rfl]
     have hc1:=B7 (a:=[40]) (b:=P) (by simp only [AB,AD];omega)
     have hc2:=B7 (a:=[40]++P) (b:=[41]) (by simp only [AA,AB,AD];omega)
     simp only [A0,A1] at hc1 hc2 ⊢
     (repeat' (first|refine Run.ct rfl ?_|((first|refine Run.reg mixed ?_|refine Run.AJ ?_)<;>try simp -implicitDefEqProofs only [hli,hz00,hpos,Lj,AB,AP,BB,Ap,if_true,A5,AG,Ex.A3,AH,Wd,hc1,hc2,AO,A2,Jl,GN,A1,A0,go_sem])|fail))
     refine Run.srz (F':=put 5 (.d (.sl (((40::(P++[41]))::tl).map BM))) U) (ts:=(40::(P++[41]))::tl) (hm' _) (hlL _) ((FzT.refl _ _ _).here 5) ?_
     have hs1:=TZ (40::(P++[41])) tl
     simp only [AG,BM] at hs1
     (repeat' (first|refine Run.ct rfl ?_|((first|refine Run.reg mixed ?_|refine Run.AJ ?_|(refine Run.FA mixed ?_)|(with_reducible refine Cg ?_ ?_)|(refine Run.A9 Bj (σ2:=σ) (AN.le_refl _) ?_)|(refine XPv.cat (by (try simp only [AA,AB,AD]);omega) ?_)|refine AI.det (hji) ?_)<;>try simp -implicitDefEqProofs only [AP,BB,Ap,if_true,AG,BM,AB,AD,A5,hs1,go_sem])|fail))
    |false=>
     rw [if_neg (by decide)]
     have hfb:(of==6)=false∨((of==6)=true∧(((ksf.length:Nat):Int)==0)=false):=by
      cases h6:of==6 with
      |false=>exact .inl rfl
      |true=>
       refine .inr ⟨rfl,Bt ?_⟩
       cases ksf with
       |nil=>rw [Hc,h6] at hbc;cases hbc
       |cons k r=>simp only [AB];omega
     rcases hfb with hfb|⟨hfb,hf2⟩
     · (repeat' (first|refine Run.ct rfl ?_|((first|refine Run.reg mixed ?_|refine Run.AJ ?_)<;>try simp -implicitDefEqProofs only [hli,hli2,hfb,hz00,hpos,Lj,AE,AB,AP,BB,Ap,if_true,A5,AG,Ex.A3,AH,go_sem])|fail))
       refine Run.srz (F':=put 5 (.d (.sl ((P::tl).map BM))) (put 232 (.d (.bool false)) U)) (ts:=P::tl) (hm' _) (hlL _) ((FzT.refl _ _ _).here 5) ?_
       have hs1:=TZ P tl
       simp only [AG,BM] at hs1
       (repeat' (first|refine Run.ct rfl ?_|((first|refine Run.reg mixed ?_|refine Run.AJ ?_|(refine Run.FA mixed ?_)|(with_reducible refine Cg ?_ ?_)|(refine Run.A9 Bj (σ2:=σ) (AN.le_refl _) ?_)|(refine XPv.cat (by (try simp only [AA,AB,AD]);omega) ?_)|refine AI.det (hji) ?_)<;>try simp -implicitDefEqProofs only [AP,BB,Ap,if_true,AG,BM,AB,AD,A5,hs1,go_sem])|fail))
     · (repeat' (first|refine Run.ct rfl ?_|((first|refine Run.reg mixed ?_|refine Run.AJ ?_)<;>try simp -implicitDefEqProofs only [hli,hli2,hfb,hf2,hz00,hpos,Lj,AE,AB,AP,BB,Ap,if_true,A5,AG,Ex.A3,AH,go_sem])|fail))
       refine Run.srz (F':=put 5 (.d (.sl ((P::tl).map BM))) (put 232 (.d (.bool false)) U)) (ts:=P::tl) (hm' _) (hlL _) ((FzT.refl _ _ _).here 5) ?_
       have hs1:=TZ P tl
       simp only [AG,BM] at hs1
       (repeat' (first|refine Run.ct rfl ?_|((first|refine Run.reg mixed ?_|refine Run.AJ ?_|(refine Run.FA mixed ?_)|(with_reducible refine Cg ?_ ?_)|(refine Run.A9 Bj (σ2:=σ) (AN.le_refl _) ?_)|(refine XPv.cat (by (try simp only [AA,AB,AD]);omega) ?_)|refine AI.det (hji) ?_)<;>try simp -implicitDefEqProofs only [AP,BB,Ap,if_true,AG,BM,AB,AD,A5,hs1,go_sem])|fail))
  rw [xV h12] at hm
  refine Run.srz (F':=put 1 (.lp 1 0) (put 5 (.d (.sl ((ks.map Af).map BM))) (put 6 (.d (.int .i64 i)) U))) hm (by simp;omega) (((FzT.refl _ _ _).here 5).skip 1 _) ?_
  clear hm hq v τ hpl
  have hjl:=E2 (sep:=[44,32]) (by decide) (ks.map Af)
  have hrl:((ks.map Af).map BM).length=ks.length:=by simp
  have hjo:=HZ (ks.map Af) σ (by omega)
  generalize hJ:Lib.join (ks.map Af) [44,32]=J at hjl hjo
  (repeat (first
    |refine Run.seq ?_
    |refine Run.skip ?_
    |refine Run.block ?_
    |refine Run.blk ?_
    |refine Run.scope ?_
    |refine Run.scp ?_
    |(refine Run.exit rfl ?_)
    |(refine Run.reg mixed ?_;simp -implicitDefEqProofs only [DA hlt,AE,go_sem])
    |(refine Run.AJ ?_;simp -implicitDefEqProofs only [DA hlt,AE,go_sem])))
  have hop:o=1∨o=2∨o=3∨o=4∨o=5∨o=6∨o=7∨o=8∨o=9∨o=10∨o=11∨o=14∨o=15∨o=16∨o=17:=by
   have:=iH hnk;omega
  rcases hop with rfl|rfl|rfl|rfl|rfl|rfl|rfl|rfl|rfl|rfl|rfl|rfl|rfl|rfl|rfl
  · have e:G9 1 n u ns ks (ks.map Af) (al.map E5)=[40,41]:=by rfl
    rw [e]
    clear e htx
    (try simp -implicitDefEqProofs only [AP,go_sem])
    (repeat' (first|refine Run.ct rfl ?_|((first|refine Run.reg mixed ?_|refine Run.AJ ?_|(refine Run.FA mixed ?_)|(with_reducible refine Cg ?_ ?_)|(refine Run.A9 Bj (σ2:=σ) (AN.le_refl _) ?_)|(refine XPv.cat (by (try simp only [AA,AB,AD]);omega) ?_))<;>try simp -implicitDefEqProofs only [AP,BB,Ap,if_true,A5,Ae,go_sem])|fail))
  · by_cases hu:u=1
    · subst hu
      have e:G9 2 n 1 ns ks (ks.map Af) (al.map E5)=[116,114,117,101]:=rfl
      rw [e]
      (try simp -implicitDefEqProofs only [AP,go_sem])
      (repeat' (first|refine Run.ct rfl ?_|((first|refine Run.reg mixed ?_|refine Run.AJ ?_|(refine Run.FA mixed ?_)|(with_reducible refine Cg ?_ ?_)|(refine Run.A9 Bj (σ2:=σ) (AN.le_refl _) ?_)|(refine XPv.cat (by (try simp only [AA,AB,AD]);omega) ?_))<;>try simp -implicitDefEqProofs only [AP,BB,Ap,if_true,A5,Ae,go_sem])|fail))
    · have e:G9 2 n u ns ks (ks.map Af) (al.map E5)=[102,97,108,115,101]:=by show (if u=1 then _ else _)=_;rw [if_neg hu]
      rw [e]
      (try simp -implicitDefEqProofs only [AP,go_sem])
      (repeat' (first|refine Run.ct rfl ?_|((first|refine Run.reg mixed ?_|refine Run.AJ ?_|(refine Run.FA mixed ?_)|(with_reducible refine Cg ?_ ?_)|(refine Run.A9 Bj (σ2:=σ) (AN.le_refl _) ?_)|(refine XPv.cat (by (try simp only [AA,AB,AD]);omega) ?_))<;>try simp -implicitDefEqProofs only [AP,BB,Ap,if_true,A5,Ae,Bt hu,go_sem])|fail))
  · have hno:=Vl u σ (by simp [nuB] at hnu;omega) (by simp [nuB] at hnu;omega)
    have e:G9 3 n u ns ks (ks.map Af) (al.map E5)=Lib.itoa u:=by rfl
    rw [e]
    clear e htx
    (try simp -implicitDefEqProofs only [AP,go_sem])
    (repeat' (first|refine Run.ct rfl ?_|((first|refine Run.reg mixed ?_|refine Run.AJ ?_|(refine Run.FA mixed ?_)|(with_reducible refine Cg ?_ ?_)|(refine Run.A9 Bj (σ2:=σ) (AN.le_refl _) ?_)|(refine XPv.cat (by (try simp only [AA,AB,AD]);omega) ?_)|refine AI.det (hno) ?_)<;>try simp -implicitDefEqProofs only [AP,BB,Ap,if_true,A5,Ae,go_sem])|fail))
  · have hks:ks=[]:=by simpa [nkB] using hnk
    subst hks
    have e:G9 4 n u ns [] ([].map Af) (al.map E5)=n:=by show n++[]=n;rw [AY]
    rw [e]
    (try simp -implicitDefEqProofs only [AP,go_sem])
    (repeat' (first|refine Run.ct rfl ?_|((first|refine Run.reg mixed ?_|refine Run.AJ ?_|(refine Run.FA mixed ?_)|(with_reducible refine Cg ?_ ?_)|(refine Run.A9 Bj (σ2:=σ) (AN.le_refl _) ?_)|(refine XPv.cat (by (try simp only [AA,AB,AD]);omega) ?_))<;>try simp -implicitDefEqProofs only [AP,BB,Ap,if_true,A5,Ae,go_sem])|fail))
  · have e:G9 5 n u ns ks (ks.map Af) (al.map E5)=[40]++J++[41]:=by show FU _=_;rw [FU,cms,hJ];rfl
    rw [e]
    clear e htx
    (try simp -implicitDefEqProofs only [AP,go_sem])
    (repeat' (first|refine Run.ct rfl ?_|((first|refine Run.reg mixed ?_|refine Run.AJ ?_|(refine Run.FA mixed ?_)|(with_reducible refine Cg ?_ ?_)|(refine Run.A9 Bj (σ2:=σ) (AN.le_refl _) ?_)|(refine XPv.cat (by (try simp only [AA,AB,AD]);omega) ?_)|refine AI.det (hjo) ?_)<;>try simp -implicitDefEqProofs only [AP,BB,Ap,if_true,A5,Ae,go_sem])|fail))
  · by_cases hks:ks=[]
    · subst hks
      have e:G9 6 n u ns [] ([].map Af) (al.map E5)=n:=by show n++[]=n;rw [AY]
      rw [e]
      simp only [AH]
      (try simp -implicitDefEqProofs only [AP,go_sem])
      (repeat' (first|refine Run.ct rfl ?_|((first|refine Run.reg mixed ?_|refine Run.AJ ?_|(refine Run.FA mixed ?_)|(with_reducible refine Cg ?_ ?_)|(refine Run.A9 Bj (σ2:=σ) (AN.le_refl _) ?_)|(refine XPv.cat (by (try simp only [AA,AB,AD]);omega) ?_))<;>try simp -implicitDefEqProofs only [AP,BB,Ap,if_true,A5,Ae,AD,AH,beq_self_eq_true,Int.natCast_zero,Int.ofNat_zero,go_sem])|fail))
    · have e:G9 6 n u ns ks (ks.map Af) (al.map E5)=n++[40]++J++[41]:=by
       show n++Dc _=_
       rw [Dc,if_neg (by simpa using hks),GB,cms,hJ];simp
      have hz0:(((ks.length:Nat):Int)==0)=false:=Bt (by have:=Aj.2 hks;omega)
      rw [e]
      (try simp -implicitDefEqProofs only [AP,go_sem])
      (repeat' (first|refine Run.ct rfl ?_|((first|refine Run.reg mixed ?_|refine Run.AJ ?_|(refine Run.FA mixed ?_)|(with_reducible refine Cg ?_ ?_)|(refine Run.A9 Bj (σ2:=σ) (AN.le_refl _) ?_)|(refine XPv.cat (by (try simp only [AA,AB,AD]);omega) ?_)|refine AI.det (hjo) ?_)<;>try simp -implicitDefEqProofs only [AP,BB,Ap,if_true,A5,Ae,AE,hz0,go_sem])|fail))
  · have hsh:=Sm n σ
    obtain ⟨a,b,rfl⟩:=PR (by simpa [nkB] using hnk)
    have e:G9 7 n u ns [a,b] ([a,b].map Af) (al.map E5)=[108,101,116,32]++shown n++[32,61,32]++Af a++[32,105,110,32]++Af b:=by show [108,101,116,32]++(shown n++([32,61,32]++(Af a++([32,105,110,32]++Af b))))=_;simp only [AS]
    rw [e]
    simp only [AG,AH,Cz,BM] at hes ⊢
    clear e htx hk
    generalize Af a=ta at *
    generalize Af b=tb at *
    (try simp -implicitDefEqProofs only [AP,go_sem])
    (repeat' (first|refine Run.ct rfl ?_|((first|refine Run.reg mixed ?_|refine Run.AJ ?_|(refine Run.FA mixed ?_)|(with_reducible refine Cg ?_ ?_)|(refine Run.A9 Bj (σ2:=σ) (AN.le_refl _) ?_)|(refine XPv.cat (by (try simp only [AA,AB,AD]);omega) ?_)|refine AI.det (hsh) ?_)<;>try simp -implicitDefEqProofs only [AP,BB,Ap,if_true,A5,Ae,go_sem])|fail))
  · have hn2:ns≠[]∧ns.length≤6:=by simp [nsB] at hns;exact ⟨fun e=>by simp [e] at hns,hns.1.2⟩
    have hjb:=E2 (sep:=[44,32]) (by decide) (ns.map shown)
    have hbo:=XI ns σ (by omega) (by omega)
    have hos:Dc (ns.map shown)=[40]++Lib.join (ns.map shown) [44,32]++[41]:=by rw [Dc,if_neg (by simpa using hn2.1),GB,cms];rfl
    generalize Lib.join (ns.map shown) [44,32]=B at *
    obtain ⟨a,b,rfl⟩:=PR (by simpa [nkB] using hnk)
    have e:G9 8 n u ns [a,b] ([a,b].map Af) (al.map E5)=[108,101,116,32,40]++B++[41,32,61,32]++Af a++[32,105,110,32]++Af b:=by show [108,101,116,32]++(Dc (ns.map shown)++([32,61,32]++(Af a++([32,105,110,32]++Af b))))=_;rw [hos];simp
    rw [e]
    simp only [AG,AH,Cz,BM] at hes ⊢
    clear e htx hk
    generalize Af a=ta at *
    generalize Af b=tb at *
    (try simp -implicitDefEqProofs only [AP,go_sem])
    (repeat' (first|refine Run.ct rfl ?_|((first|refine Run.reg mixed ?_|refine Run.AJ ?_|(refine Run.FA mixed ?_)|(with_reducible refine Cg ?_ ?_)|(refine Run.A9 Bj (σ2:=σ) (AN.le_refl _) ?_)|(refine XPv.cat (by (try simp only [AA,AB,AD]);omega) ?_)|refine AI.det (hbo) ?_)<;>try simp -implicitDefEqProofs only [AP,BB,Ap,if_true,A5,Ae,go_sem])|fail))
  · obtain ⟨a,b,c,rfl⟩:=iB (by simpa [nkB] using hnk)
    have e:G9 9 n u ns [a,b,c] ([a,b,c].map Af) (al.map E5)=[105,102,32]++Af a++[32,116,104,101,110,32]++Af b++[32,101,108,115,101,32]++Af c:=by show [105,102,32]++(Af a++([32,116,104,101,110,32]++(Af b++([32,101,108,115,101,32]++Af c))))=_;simp only [AS]
    rw [e]
    simp only [AG,AH,Cz,BM] at hes ⊢
    clear e htx hk
    generalize Af a=ta at *
    generalize Af b=tb at *
    generalize Af c=tc at *
    (try simp -implicitDefEqProofs only [AP,go_sem])
    (repeat' (first|refine Run.ct rfl ?_|((first|refine Run.reg mixed ?_|refine Run.AJ ?_|(refine Run.FA mixed ?_)|(with_reducible refine Cg ?_ ?_)|(refine Run.A9 Bj (σ2:=σ) (AN.le_refl _) ?_)|(refine XPv.cat (by (try simp only [AA,AB,AD]);omega) ?_))<;>try simp -implicitDefEqProofs only [AP,BB,Ap,if_true,A5,Ae,go_sem])|fail))
  · obtain ⟨a,rfl⟩:=Ui (by simpa [nkB] using hnk)
    have hall:=YH has
    have e:G9 10 n u ns [a] ([a].map Af) (al.map E5)=[109,97,116,99,104,32]++Af a++[32,119,105,116,104,32]++Lib.join (al.map E5) [32,124,32]++[32,101,110,100]:=by show [109,97,116,99,104,32]++(Af a++([32,119,105,116,104,32]++(Lib.join (al.map E5) [32,124,32]++[32,101,110,100])))=_;simp only [AS]
    have hja:=E2 (sep:=[32,124,32]) (by decide) (al.map E5)
    have hal7:al.length≤100000:=by have:=Al.Es al;omega
    rw [e]
    simp only [AG,AH,Cz,BM] at hes ⊢
    clear e hk
    generalize Af a=ta at *
    (try simp -implicitDefEqProofs only [AP,go_sem])
    (repeat' (first|refine Run.ct rfl ?_|((first|refine Run.reg mixed ?_|refine Run.AJ ?_|(refine XPv.cat (by (try simp only [AA,AB,AD]);omega) ?_))<;>try simp -implicitDefEqProofs only [AP,BB,Ap,if_true,A5,Ae,go_sem])|fail))
    refine Run.B3 ?_
    refine Run.B6 ((fun (a1:AV)=>fun (y:Nat×Str)=>put 1 a1 (put 8 (.d (.str y.2)) (put 9 (.d (.int .i64 y.1)) U))) _) (fun _=>BZ 1 [.d (.int .i64 10),.d (.str n),.d (.int .i64 u),.d (.sl (ns.map BM)),.d (.sl [a.enc]),.d (.sl (al.map Al.enc))] E) (fun _=>σ) (fun y=>y.1≤al.length∧y.2=[109,97,116,99,104,32]++ta++[32,119,105,116,104,32]++Lib.join ((al.map E5).take y.1) [32,124,32]) (fun y=>al.length - y.1) ?_ (0,_) ⟨by simp,by simp [Lib.join_nil]⟩
    rintro ⟨k,s1⟩ ⟨hk1,hs1⟩ ih
    simp only at hk1 hs1
    have htk:=QZ [32,124,32] (al.map E5) k
    have hsl:=congrArg I8 hs1
    simp only [AA,AB,AD] at hsl
    by_cases hlk:k < al.length
    · obtain ⟨x,hx⟩:=Bu hlk
      have he:=Bi (enc:=Al.enc) hx
      have hw1:IntKind.i64.wrap ((k:Int)+1)=((k+1:Nat):Int):=by rw [Av (by omega) (by omega)];omega
      have hxm:=Aa hx
      have hab:=hall x hxm
      have hmx:(al.map E5)[k]?=some (E5 x):=by simp [hx]
      have hle2:=sG hmx
      obtain ⟨c,vs,b⟩:=x
      have htb:=htx c vs b hxm σ
      simp only [M4,AM,decide_eq_true_eq,A4] at hab
      have hcl:=J7 hab.1.1
      have hjb:=E2 (sep:=[44,32]) (by decide) (vs.map shown)
      have hjl3:JL (vs.map shown)≤(vs.map shown).length * 27:=Uz (fun x hx=>by obtain ⟨y,hy,rfl⟩:=Iw.1 hx;exact Sd (hab.2 y hy))
      have hjl4:(vs.map shown).length * 27≤6 * 27:=Ah _ (by simpa using hab.1.2)
      have hbo:=XI vs σ (by omega) (by omega)
      have hih:=fun s2 h=>ih (k+1,s2) ⟨by simp only;omega,h⟩ (by simp only;omega)
      simp only at hih
      have hfa:E5 (.mk c vs b)=c++(Dc (vs.map shown)++([32,45,62,32]++Af b)):=rfl
      have hop1:vs≠[]→Dc (vs.map shown)=[40]++Lib.join (vs.map shown) [44,32]++[41]:=fun h=>by rw [Dc,if_neg (by simpa using h),GB,cms];rfl
      have hop0:vs=[]→Dc (vs.map shown)=[]:=fun h=>by subst h;rfl
      generalize E5 (.mk c vs b)=fa at *
      generalize Lib.join (vs.map shown) [44,32]=B at *
      generalize Dc (vs.map shown)=ov at *
      have htl:(Af b).length≤fa.length:=by rw [hfa];simp only [AA];omega
      generalize Af b=tb at *
      obtain ⟨o1,n1,u1,ns1,ks1,al1⟩:=b
      simp only [Al.A3,exA,Ex.A3,AG,AH] at he htb
      by_cases hk0:0 < k
      · have hjs:=Yu (sep:=[32,124,32]) hk0 hmx
        rw [hjs] at hih
        by_cases hv:vs=[]
        · have h2:=hop0 hv
          subst hv h2
          (repeat' (first|refine Run.ct rfl ?_|((first|refine Run.reg mixed ?_|refine Run.AJ ?_|(refine XPv.cat (by (try simp only [AA,AB,AD]);omega) ?_)|refine AI.det (htb) ?_)<;>try simp -implicitDefEqProofs only [BQ hlk,he,hw1,gt0,AE,AD,AH,decide_eq_true hk0,decide_eq_false (Nat.lt_irrefl 0),go_sem])|fail))
          exact hih _ (by rw [hs1,hfa];simp)
        · have h2:=hop1 hv
          have hv0:0 < vs.length:=Aj.2 hv
          (repeat' (first|refine Run.ct rfl ?_|((first|refine Run.reg mixed ?_|refine Run.AJ ?_|(refine XPv.cat (by (try simp only [AA,AB,AD]);omega) ?_)|refine AI.det (htb) ?_|refine AI.det (hbo) ?_)<;>try simp -implicitDefEqProofs only [BQ hlk,he,hw1,gt0,AE,decide_eq_true hk0,decide_eq_true hv0,go_sem])|fail))
          exact hih _ (by rw [hs1,hfa,h2];simp)
      · obtain rfl:k=0:=by omega
        have hjs:=Yt (sep:=[32,124,32]) hmx
        rw [hjs] at hih
        by_cases hv:vs=[]
        · have h2:=hop0 hv
          subst hv h2
          (repeat' (first|refine Run.ct rfl ?_|((first|refine Run.reg mixed ?_|refine Run.AJ ?_|(refine XPv.cat (by (try simp only [AA,AB,AD]);omega) ?_)|refine AI.det (htb) ?_)<;>try simp -implicitDefEqProofs only [BQ hlk,he,hw1,gt0,AE,AD,AH,decide_eq_false hk0,decide_eq_false (Nat.lt_irrefl 0),go_sem])|fail))
          exact hih _ (by rw [hs1,hfa];simp [Lib.join_nil])
        · have h2:=hop1 hv
          have hv0:0 < vs.length:=Aj.2 hv
          (repeat' (first|refine Run.ct rfl ?_|((first|refine Run.reg mixed ?_|refine Run.AJ ?_|(refine XPv.cat (by (try simp only [AA,AB,AD]);omega) ?_)|refine AI.det (htb) ?_|refine AI.det (hbo) ?_)<;>try simp -implicitDefEqProofs only [BQ hlk,he,hw1,gt0,AE,decide_eq_false hk0,decide_eq_true hv0,go_sem])|fail))
          exact hih _ (by rw [hs1,hfa,h2];simp [Lib.join_nil])
    · rw [A6 (by simp;omega)] at hs1 htk
      subst hs1
      (repeat' (first|refine Run.ct rfl ?_|((first|refine Run.reg mixed ?_|refine Run.AJ ?_|(refine XPv.cat (by (try simp only [AA,AB,AD]);omega) ?_)|(refine Run.A9 Bj (σ2:=σ) (AN.le_refl _) ?_))<;>try simp -implicitDefEqProofs only [DA hlk,AE,go_sem])|fail))
  · have hjb:=E2 (sep:=[44,32]) (by decide) ns
    have hjn:=HZ ns σ (by omega)
    have hls:FU ns=[40]++Lib.join ns [44,32]++[41]:=rfl
    generalize Lib.join ns [44,32]=B at *
    obtain ⟨a,rfl⟩:=Ui (by simpa [nkB] using hnk)
    have e:G9 11 n u ns [a] ([a].map Af) (al.map E5)=[102,110,40]++B++[41,32,45,62,32]++Af a:=by show [102,110]++(FU ns++([32,45,62,32]++Af a))=_;rw [hls];simp
    rw [e]
    simp only [AG,AH,Cz,BM] at hes ⊢
    clear e htx hk
    generalize Af a=ta at *
    (try simp -implicitDefEqProofs only [AP,go_sem])
    (repeat' (first|refine Run.ct rfl ?_|((first|refine Run.reg mixed ?_|refine Run.AJ ?_|(refine Run.FA mixed ?_)|(with_reducible refine Cg ?_ ?_)|(refine Run.A9 Bj (σ2:=σ) (AN.le_refl _) ?_)|(refine XPv.cat (by (try simp only [AA,AB,AD]);omega) ?_)|refine AI.det (hjn) ?_)<;>try simp -implicitDefEqProofs only [AP,BB,Ap,if_true,A5,Ae,go_sem])|fail))
  · have hu7:1≤u∧u≤7:=by simpa [nuB] using hnu
    have hpn:=ZV u σ hu7
    have hpl:=nY u
    have e:G9 14 n u ns ks (ks.map Af) (al.map E5)=prT u++[40]++J++[41]:=by show prT u++FU _=_;rw [FU,cms,hJ,GB];simp
    rw [e]
    clear e htx
    (try simp -implicitDefEqProofs only [AP,go_sem])
    (repeat' (first|refine Run.ct rfl ?_|((first|refine Run.reg mixed ?_|refine Run.AJ ?_|(refine Run.FA mixed ?_)|(with_reducible refine Cg ?_ ?_)|(refine Run.A9 Bj (σ2:=σ) (AN.le_refl _) ?_)|(refine XPv.cat (by (try simp only [AA,AB,AD]);omega) ?_)|refine AI.det (hpn) ?_|refine AI.det (hjo) ?_)<;>try simp -implicitDefEqProofs only [AP,BB,Ap,if_true,A5,Ae,go_sem])|fail))
  · have hno:=Vl u σ (by simp [nuB] at hnu;omega) (by simp [nuB] at hnu;omega)
    have hil:=nW hnu
    have e:G9 15 n u ns ks (ks.map Af) (al.map E5)=[116,105,99,107,40]++Lib.itoa u++[41]:=by show [116,105,99,107]++GB (Lib.itoa u)=_;rw [GB];simp
    rw [e]
    clear e htx
    (try simp -implicitDefEqProofs only [AP,go_sem])
    (repeat' (first|refine Run.ct rfl ?_|((first|refine Run.reg mixed ?_|refine Run.AJ ?_|(refine Run.FA mixed ?_)|(with_reducible refine Cg ?_ ?_)|(refine Run.A9 Bj (σ2:=σ) (AN.le_refl _) ?_)|(refine XPv.cat (by (try simp only [AA,AB,AD]);omega) ?_)|refine AI.det (hno) ?_)<;>try simp -implicitDefEqProofs only [AP,BB,Ap,if_true,A5,Ae,go_sem])|fail))
  · obtain ⟨a,rfl⟩:=Ui (by simpa [nkB] using hnk)
    have e:G9 16 n u ns [a] ([a].map Af) (al.map E5)=[114,97,105,115,101,40]++Af a++[41]:=by show [114,97,105,115,101]++FU [Af a]=_;simp [FU,GB,cms,Lib.join_one]
    rw [e]
    simp only [AG,AH,Cz,BM] at hes ⊢
    clear e htx hk
    generalize Af a=ta at *
    (try simp -implicitDefEqProofs only [AP,go_sem])
    (repeat' (first|refine Run.ct rfl ?_|((first|refine Run.reg mixed ?_|refine Run.AJ ?_|(refine Run.FA mixed ?_)|(with_reducible refine Cg ?_ ?_)|(refine Run.A9 Bj (σ2:=σ) (AN.le_refl _) ?_)|(refine XPv.cat (by (try simp only [AA,AB,AD]);omega) ?_))<;>try simp -implicitDefEqProofs only [AP,BB,Ap,if_true,A5,Ae,go_sem])|fail))
  · have hsh:=Sm n σ
    obtain ⟨a,b,rfl⟩:=PR (by simpa [nkB] using hnk)
    have e:G9 17 n u ns [a,b] ([a,b].map Af) (al.map E5)=[116,114,121,32]++Af a++[32,99,97,116,99,104,32]++shown n++[32,45,62,32]++Af b++[32,101,110,100]:=by show [116,114,121,32]++(Af a++([32,99,97,116,99,104,32]++(shown n++([32,45,62,32]++(Af b++[32,101,110,100])))))=_;simp only [AS]
    rw [e]
    simp only [AG,AH,Cz,BM] at hes ⊢
    clear e htx hk
    generalize Af a=ta at *
    generalize Af b=tb at *
    (try simp -implicitDefEqProofs only [AP,go_sem])
    (repeat' (first|refine Run.ct rfl ?_|((first|refine Run.reg mixed ?_|refine Run.AJ ?_|(refine Run.FA mixed ?_)|(with_reducible refine Cg ?_ ?_)|(refine Run.A9 Bj (σ2:=σ) (AN.le_refl _) ?_)|(refine XPv.cat (by (try simp only [AA,AB,AD]);omega) ?_)|refine AI.det (hsh) ?_)<;>try simp -implicitDefEqProofs only [AP,BB,Ap,if_true,A5,Ae,go_sem])|fail))
end Go.Ab
