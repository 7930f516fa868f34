/- Guarded operations that change nothing, run whatever the guard is. Valid expressions, as the reference looks at them: the nodes. Valid programs. Conditions: none. -/
import Derived.Test.YtlckhmkeihbhmaaGreatXUd
set_option linter.unusedSimpArgs false
set_option linter.unusedVariables false
set_option maxRecDepth 4000
set_option maxHeartbeats 8000000
open Bool renaming eq_iff_iff→Af,and_eq_true→AP,not_not→JN,true_and→Au,and_false→Bm
open List renaming length_map→AA,map_cons→AG,map_nil→AQ,mem_of_getElem?→AT,take_of_length_le→AK
open Int renaming reduceBEq→AU
open Nat renaming le_refl→A0
namespace Go.Ab
open Go.RowKit
variable {P:Program} {K:CV} {F:Fm} {L:Lm} {σ:AF}
def sel (c:Bool) (v:AV):AV:=if c then v else .tup []
theorem Pf (v:AV):sel true v=v:=rfl
def GV (want:Bool) (x:AV) (c:Bool):Prop:=gdV want x=some c
theorem GV.t {b:Bool}:GV true (.d (.bool b)) b:=by cases b<;>rfl
theorem GV.f {b:Bool}:GV false (.d (.bool b)) (!b):=by cases b<;>rfl
theorem GV.st {b c:Bool}:GV true (sel c (.d (.bool b))) (c&&b):=by cases b<;>cases c<;>rfl
theorem GV.sf {b c:Bool}:GV false (sel c (.d (.bool b))) (c&& !b):=by cases b<;>cases c<;>rfl
def Is (d:Nat) (v:AV) (F:Fm) (L:Lm) (σ:AF):CV:=fun F' L' σ'=>F'=put d v F∧L'=L∧σ'=σ
theorem Is.mk {d:Nat} {v:AV}:Is d v F L σ (put d v F) L σ:=⟨rfl,rfl,rfl⟩
theorem nW {d s:Nat} {o:O} {want c:Bool} {v:AV} {r:List Q} (hg:GV want (F s) c)
 (hy:c=true→BR P (Is d v F L σ) [⟨some d,o,none⟩] F L σ)
 (hk:BR P K r (put d (sel c v) F) L σ):BR P K (⟨some d,o,some (s,want)⟩::r) F L σ:=by
 show XG (gd F (some (s,want))) (XO P (some d) (BR P K r) F L σ o) (BR P K r (Ar (some d) (.tup []) F) L σ)
 have hgd:gd F (some (s,want))=some c:=hg
 rw [hgd]
 cases c with
 |true=>exact YW (fun F' L' σ' ⟨h1,h2,h3⟩=>by rw [h1,h2,h3];exact hk) (hy rfl)
 |false=>exact hk
theorem Ef (c x:Bool):(if c=true then sel c (.d (.bool x)) else (.d (.bool false)))=AV.d (.bool (c&&x)):=by cases c<;>rfl
theorem Gk (c x:Bool):(if c=true then (.d (.bool true)) else sel (!c) (.d (.bool x)))=AV.d (.bool (c||x)):=by cases c<;>rfl
end Go.Ab
namespace Go.Ab
theorem QP {P:Program} {K:CV} {F:Fm} {L:Lm} {σ:AF} {d s:Nat} {o:O} {want c:Bool} {r:List Q} (hg:GV want (F s) c)
 (h:∃v,(c=true→BR P (Is d v F L σ) [⟨some d,o,none⟩] F L σ)∧BR P K r (put d (sel c v) F) L σ):BR P K (⟨some d,o,some (s,want)⟩::r) F L σ:=by
 obtain ⟨v,h1,h2⟩:=h
 exact nW hg h1 h2
end Go.Ab
namespace Go.Ab
theorem Is.pv {d:Nat} {v:AV} {F:Fm} {L:Lm} {σ:AF} {x:Option AV} (h:x=some v):XPv x (some d) (Is d v F L σ) F L σ:=by
 subst h;exact Is.mk
theorem AI.Yn {P:Program} {f:FuncId} {args args':List AV} {d:Option Nat} {K:CV} {F:Fm} {L:Lm} {σ:AF} (e:args=args') (h:AI P f args' d K F L σ):AI P f args d K F L σ:=e ▸ h
end Go.Ab
namespace Go.Ab
theorem Fo (c:Bool) (v:AV):sel c (sel c v)=sel c v:=by cases c<;>rfl
theorem Hm (c x:Bool) (v:AV):sel (c&&x) (sel c v)=sel (c&&x) v:=by cases c<;>cases x<;>rfl
theorem Hn (c x:Bool) (v:AV):sel (c&&x) (sel x v)=sel (c&&x) v:=by cases c<;>cases x<;>rfl
end Go.Ab
namespace Go.Ab
theorem Eg (c x:Bool):(if (!c)=true then (.d (.bool true)) else sel c (.d (.bool x)))=AV.d (.bool (!c||x)):=by cases c<;>rfl
end Go.Ab
namespace Go.Ab
open Go.Proofs
def bC (nm nu nn na:Bool) (lo hi:Nat) (n:Str) (u:Int) (a k b:Nat):Bool:=
 (nm||n==[])&&(nu||u==0)&&(nn||decide (a=0))&&(na||decide (b=0))&&decide (lo≤k)&&decide (k≤hi)
set_option maxHeartbeats 4000000 in
theorem gO (o:Int) (n:Str) (u:Int) (ns:List Str) (ks:List Ex) (al:List Al) (d j:Nat) (σ:AF) (nm nu nn na:Bool) (lo hi:Nat):
 BR Tryz.prog (Cut [1,2,3,201] (put 1 (.d (.int .i64 ((d+1:Nat):Int))) (put 2 (.gp j 0) (put 3 (.lp 3 0) (put 201 (.d (.bool (!bC nm nu nn na lo hi n u ns.length ks.length al.length))) U)))) (Az 3 [.d (.int .i64 o),.d (.str n),.d (.int .i64 u),.d (.sl (ns.map Aw)),.d (.sl (ks.map Ex.enc)),.d (.sl (al.map Al.enc))] E) σ)
  [⟨some 152,.mv (.t 7),none⟩,⟨some 153,.un .not (.t 152),none⟩,⟨some 154,.mv (.t 153),none⟩,⟨some 155,.fld (.t 3) 1,some (154,true)⟩,⟨some 156,.ldl (.t 155) none,some (154,true)⟩,⟨some 157,.bin .neq (.t 156) (.c (.d (.str []))),some (154,true)⟩,⟨some 158,.pick (.t 154) (.t 157) (.c (.d (.bool false))),none⟩,⟨some 159,.mv (.t 158),none⟩,⟨some 160,.mv (.t 8),some (159,false)⟩,⟨some 161,.un .not (.t 160),some (159,false)⟩,⟨some 162,.mv (.t 161),some (159,false)⟩,⟨some 163,.fld (.t 3) 2,some (162,true)⟩,⟨some 164,.ldl (.t 163) none,some (162,true)⟩,⟨some 165,.bin .neq (.t 164) (.c (.d (.int .i64 0))),some (162,true)⟩,⟨some 166,.pick (.t 162) (.t 165) (.c (.d (.bool false))),some (159,false)⟩,⟨some 167,.pick (.t 159) (.c (.d (.bool true))) (.t 166),none⟩,⟨some 168,.mv (.t 167),none⟩,⟨some 169,.mv (.t 9),some (168,false)⟩,⟨some 170,.un .not (.t 169),some (168,false)⟩,⟨some 171,.mv (.t 170),some (168,false)⟩,⟨some 172,.fld (.t 3) 3,some (171,true)⟩,⟨some 173,.ldl (.t 172) none,some (171,true)⟩,⟨some 174,.len (.t 173),some (171,true)⟩,⟨some 175,.bin .gtr (.t 174) (.c (.d (.int .i64 0))),some (171,true)⟩,⟨some 176,.pick (.t 171) (.t 175) (.c (.d (.bool false))),some (168,false)⟩,⟨some 177,.pick (.t 168) (.c (.d (.bool true))) (.t 176),none⟩,⟨some 178,.mv (.t 177),none⟩,⟨some 179,.mv (.t 10),some (178,false)⟩,⟨some 180,.un .not (.t 179),some (178,false)⟩,⟨some 181,.mv (.t 180),some (178,false)⟩,⟨some 182,.fld (.t 3) 5,some (181,true)⟩,⟨some 183,.ldl (.t 182) none,some (181,true)⟩,⟨some 184,.len (.t 183),some (181,true)⟩,⟨some 185,.bin .gtr (.t 184) (.c (.d (.int .i64 0))),some (181,true)⟩,⟨some 186,.pick (.t 181) (.t 185) (.c (.d (.bool false))),some (178,false)⟩,⟨some 187,.pick (.t 178) (.c (.d (.bool true))) (.t 186),none⟩,⟨some 188,.mv (.t 187),none⟩,⟨some 189,.fld (.t 3) 4,some (188,false)⟩,⟨some 190,.ldl (.t 189) none,some (188,false)⟩,⟨some 191,.len (.t 190),some (188,false)⟩,⟨some 192,.mv (.t 11),some (188,false)⟩,⟨some 193,.bin .lss (.t 191) (.t 192),some (188,false)⟩,⟨some 194,.pick (.t 188) (.c (.d (.bool true))) (.t 193),none⟩,⟨some 195,.mv (.t 194),none⟩,⟨some 196,.fld (.t 3) 4,some (195,false)⟩,⟨some 197,.ldl (.t 196) none,some (195,false)⟩,⟨some 198,.len (.t 197),some (195,false)⟩,⟨some 199,.mv (.t 12),some (195,false)⟩,⟨some 200,.bin .gtr (.t 198) (.t 199),some (195,false)⟩,⟨some 201,.pick (.t 195) (.c (.d (.bool true))) (.t 200),none⟩]
  (put 1 (.d (.int .i64 ((d+1:Nat):Int))) (put 2 (.gp j 0) (put 3 (.lp 3 0) (put 7 (.d (.bool nm)) (put 8 (.d (.bool nu)) (put 9 (.d (.bool nn)) (put 10 (.d (.bool na)) (put 11 (.d (.int .i64 (lo:Nat))) (put 12 (.d (.int .i64 (hi:Nat))) U))))))))) (Az 3 [.d (.int .i64 o),.d (.str n),.d (.int .i64 u),.d (.sl (ns.map Aw)),.d (.sl (ks.map Ex.enc)),.d (.sl (al.map Al.enc))] E) σ:=by
 have fin:∀(b c:Bool),(b=true↔c=true)→∀(a1 a2 a3:AV),(put 1 a1 (put 2 a2 (put 3 a3 (put 201 (.d (.bool b)) U))))=put 1 a1 (put 2 a2 (put 3 a3 (put 201 (.d (.bool c)) U))):=fun b c h a1 a2 a3=>by rw [Af.2 h]
 simp -implicitDefEqProofs only [Cb,go_sem]
 (repeat' (first|refine Run.ct rfl ?_|(refine QP (by first|exact GV.t|exact GV.f|exact GV.st|exact GV.sf) ⟨?_,fun h=>?_,?_⟩;rotate_left;(focus ((try simp only [AP,JN] at h);simp -implicitDefEqProofs only [AA,Cb,gtN,ltN,go_sem];first|exact Is.mk|exact Is.pv (by simp -implicitDefEqProofs only [h,Pf,↓Ef,↓Gk,↓Eg,AA,Cb,gtN,ltN,go_sem];rfl)));(try simp -implicitDefEqProofs only [Fo,Hm,Hn,↓Ef,↓Gk,↓Eg,AA,Cb,gtN,ltN,J2,go_sem]))|((first|refine Run.reg mixed ?_|refine Run.AE ?_)<;>try simp -implicitDefEqProofs only [Fo,Hm,Hn,↓Ef,↓Gk,↓Eg,AA,Cb,gtN,ltN,go_sem])|fail))
 refine fin _ _ ?_ _ _ _
 simp only [bC]
 simp [bne]
 grind
set_option maxHeartbeats 8000000 in
theorem Sp (j:Nat):∀(d q:Nat),d≤40→q≤600→∀(e:Ex) (σ:AF),σ.blk j=some [.d (.int .i64 (F9 q))]→
 AL Tryz.prog 94 [exA e,.d (.int .i64 (d:Int)),.gp j 0] σ (VXQ F9 j d q e σ):=by
 intro d
 induction d with
 |zero=>
  intro q _ hq e σ hj
  obtain ⟨o,n,u,ns,ks,al⟩:=e
  refine OB (by simp) ?_
  rw [LO,exA,Ex.A4]
  have h0:(((0:Nat):Int)==0)=true:=by decide
  (repeat' (first|refine Run.ct rfl ?_|((first|refine Run.reg mixed ?_|refine Run.AE ?_|refine Run.Fp CY (AF.le_refl _) ?_)<;>try simp -implicitDefEqProofs only [h0,go_sem])|fail))
  exact ⟨false,F9 q,rfl,(HR hj).symm,rfl,fun r h=>by cases h⟩
 |succ d ihd=>
  intro q hd hq e σ hj
  obtain ⟨o,n,u,ns,ks,al⟩:=e
  refine OB (by simp) ?_
  rw [LO,exA,Ex.A4]
  have h0:(((d+1:Nat):Int)==0)=false:=by simp only [beq_eq_false_iff_ne,ne_eq];omega
  cases q with
  |zero=>
   have hz:(F9 0==0)=true:=by decide
   (repeat' (first|refine Run.ct rfl ?_|((first|refine Run.reg mixed ?_|refine Run.AE ?_|refine Run.Fp CY (AF.le_refl _) ?_)<;>try simp -implicitDefEqProofs only [h0,hj,hz,go_sem])|fail))
   exact ⟨false,F9 0,rfl,(HR hj).symm,rfl,fun r h=>by cases h⟩
  |succ q=>
  have hz:(F9 (q+1)==0)=false:=by simp only [F9,beq_eq_false_iff_ne,ne_eq];omega
  have hwq:IntKind.i64.wrap (F9 (q+1) - 1)=F9 q:=Ie (by omega)
  have hL:=fun h=>gP j d q (fun q hq e σ h=>ihd q (by omega) hq e σ h) (by omega) (by omega) o n u ns ks al σ h
  have hbt:=HQ ns true (σ.AO j [.d (.int .i64 (F9 q))])
  have hbf:=HQ ns false (σ.AO j [.d (.int .i64 (F9 q))])
  have hfail:SX o n u ns ks.length al.length=false→VXQ F9 j (d+1) (q+1) (.mk o n u ns ks al) σ (.d (.bool false)) (σ.AO j [.d (.int .i64 (F9 q))]):=fun h=>
   have hr:vEx (d+1) (q+1) (.mk o n u ns ks al)=none:=by rw [O6,SW,h];rfl
   ⟨false,_,rfl,rfl,by rw [hr];rfl,fun r h=>by rw [hr] at h;cases h⟩
  generalize hV:VXQ F9 j (d+1) (q+1) (.mk o n u ns ks al) σ=V at hL hfail
  clear ihd hV
  (repeat' (first|refine Run.cb rfl ?_|((first|refine Run.reg mixed ?_|refine Run.AE ?_)<;>try simp -implicitDefEqProofs only [h0,hj,hz,hwq,go_sem])|fail))
  refine Run.ZI (α:=Bool×Bool×Bool×Bool×Nat×Nat) [1,2,3,7,8,9,10,11,12] (fun a=>put 1 (.d (.int .i64 ((d+1:Nat):Int))) (put 2 (.gp j 0) (put 3 (.lp 3 0) (put 7 (.d (.bool a.1)) (put 8 (.d (.bool a.2.1)) (put 9 (.d (.bool a.2.2.1)) (put 10 (.d (.bool a.2.2.2.1)) (put 11 (.d (.int .i64 (a.2.2.2.2.1:Nat))) (put 12 (.d (.int .i64 (a.2.2.2.2.2:Nat))) U))))))))) (Az 3 [.d (.int .i64 o),.d (.str n),.d (.int .i64 u),.d (.sl (ns.map Aw)),.d (.sl (ks.map Ex.enc)),.d (.sl (al.map Al.enc))] E) (σ.AO j [.d (.int .i64 (F9 q))]) (fun a=>SX o n u ns ks.length al.length=bC a.1 a.2.1 a.2.2.1 a.2.2.2.1 a.2.2.2.2.1 a.2.2.2.2.2 n u ns.length ks.length al.length) ?_ ?_
  · rintro ⟨nm,nu,nn,na,lo,hi⟩ hI
    simp only at hI ⊢
    (repeat (first
    |refine Run.seq ?_
    |refine Run.skip ?_
    |refine Run.block ?_
    |refine Run.blk ?_
    |refine Run.scope ?_
    |refine Run.scp ?_
    |(refine Run.exit rfl ?_)))
    refine Run.mA mixed (put 1 (.d (.int .i64 ((d+1:Nat):Int))) (put 2 (.gp j 0) (put 3 (.lp 3 0) (put 201 (.d (.bool (!bC nm nu nn na lo hi n u ns.length ks.length al.length))) U)))) (Az 3 [.d (.int .i64 o),.d (.str n),.d (.int .i64 u),.d (.sl (ns.map Aw)),.d (.sl (ks.map Ex.enc)),.d (.sl (al.map Al.enc))] E) (σ.AO j [.d (.int .i64 (F9 q))]) ?_ ?_
    · exact gO o n u ns ks al d j _ nm nu nn na lo hi
    · cases hc:bC nm nu nn na lo hi n u ns.length ks.length al.length with
      |true=>
       (repeat' (first|refine Run.ct rfl ?_|((first|refine Run.reg mixed ?_|refine Run.AE ?_)<;>try simp -implicitDefEqProofs only [hc,go_sem])|fail))
       exact hL (hI.trans hc)
      |false=>
       (repeat' (first|refine Run.ct rfl ?_|((first|refine Run.reg mixed ?_|refine Run.AE ?_|refine Run.Fp CY (AF.le_refl _) ?_)<;>try simp -implicitDefEqProofs only [go_sem])|fail))
       exact hfail (hI.trans hc)
  · intro hrest
    clear hL
    have key:=fun (F':Fm) (L':Lm) (nm nu nn na:Bool) (lo hi:Nat) h1 h2 h3=>hrest F' L' (nm,nu,nn,na,lo,hi) h1 h2 h3
    simp only at key
    clear hrest
    have fin:∀b c:Bool,(b=true↔c=true)→b=c:=fun b c h=>Af.2 h
    by_cases ho:o=1∨o=2∨o=3∨o=4∨o=5∨o=6∨o=7∨o=8∨o=9∨o=10∨o=11∨o=12∨o=13∨o=14∨o=15∨o=16∨o=17
    · rcases ho with rfl|rfl|rfl|rfl|rfl|rfl|rfl|rfl|rfl|rfl|rfl|rfl|rfl|rfl|rfl|rfl|rfl
      all_goals (repeat' (first|(refine key _ _ ?_ ?_ ?_ ?_ ?_ ?_ ?_ ?_ ?_;rotate_left 6;(focus (simp only [go_sem];rfl));(focus (simp only [go_sem])))|refine Run.ct rfl ?_|(refine QP (by first|exact GV.t|exact GV.f|exact GV.st|exact GV.sf) ⟨?_,fun h=>?_,?_⟩;rotate_left;(focus ((try simp only [AP,JN] at h);simp -implicitDefEqProofs only [AU,AA,BM,go_sem];first|exact Is.mk|exact Is.pv (by simp -implicitDefEqProofs only [h,Pf,↓Ef,↓Gk,↓Eg,AU,AA,BM,go_sem];rfl)|(refine AI.det (Cv _ _ _) ?_;exact Is.mk)|(refine AI.det (Mm _ _) ?_;exact Is.mk)|(refine AI.det (hbt) ?_;exact Is.mk)|(refine AI.det (hbf) ?_;exact Is.mk)|(refine AI.Yn (by simp only [h,Pf];rfl) ?_;first|(refine AI.det (Cv _ _ _) ?_;exact Is.mk)|(refine AI.det (Mm _ _) ?_;exact Is.mk)|(refine AI.det (hbt) ?_;exact Is.mk)|(refine AI.det (hbf) ?_;exact Is.mk))));(try simp -implicitDefEqProofs only [Fo,Hm,Hn,↓Ef,↓Gk,↓Eg,AU,AA,BM,J2,go_sem]))|((first|refine Run.reg mixed ?_|refine Run.AE ?_|refine Run.Fp CY (AF.le_refl _) ?_|refine AI.det (Cv _ _ _) ?_|refine AI.det (Mm _ _) ?_|refine AI.det (hbt) ?_|refine AI.det (hbf) ?_)<;>try simp -implicitDefEqProofs only [Fo,Hm,Hn,↓Ef,↓Gk,↓Eg,AU,AA,BM,go_sem])|(refine ⟨fun h=>?_,fun h=>?_⟩<;>first|(cases h;done)|try simp only [h])|fail))
      all_goals clear key
      all_goals (try refine hfail ?_)
      all_goals clear hfail hbt hbf hj hz hwq h0
      all_goals (refine fin _ _ ?_;simp [SX,bC,nmB,nuB,nsB,nkB,EJ,Ev,Nd,Nf,MX, *] at *;try grind)
    · have hn:SX o n u ns ks.length al.length=false:=by
       simp only [not_or] at ho
       simp [SX,nkB,ho]
      simp only [not_or] at ho
      obtain ⟨h1,h2,h3,h4,h5,h6,h7,h8,h9,h10,h11,h12,h13,h14,h15,h16,h17⟩:=ho
      (repeat' (first|refine Run.ct rfl ?_|((first|refine Run.reg mixed ?_|refine Run.AE ?_|refine Run.Fp CY (AF.le_refl _) ?_)<;>try simp -implicitDefEqProofs only [C1 h1,C1 h2,C1 h3,C1 h4,C1 h5,C1 h6,C1 h7,C1 h8,C1 h9,C1 h10,C1 h11,C1 h12,C1 h13,C1 h14,C1 h15,C1 h16,C1 h17,go_sem])|fail))
      exact hfail hn
end Go.Ab
namespace Go.Ab
open Go.Proofs
def Oj (c:CE):Prop:=∀t∈c.args,t.size≤1000000
def Hp (d:DE):Prop:=∀c∈d.cons,Oj c
theorem lF {b c:Bool} (h:b=true↔c=true):AV.d (.bool b)=AV.d (.bool c):=by rw [Af.2 h]
theorem SG (t:TE) (σ:AF) (h:t.size≤1000000):AL Tryz.prog 123 [teA t] σ (fun v σ'=>v= .d (.bool (Dj 40 t))∧σ'=σ):=by
 refine Me (by simp) ?_
 rw [Bj]
 have hc:=PL 40 (A0 _) t σ h
 rw [show ((41 - 40:Nat):Int)=1 from rfl] at hc
 obtain ⟨k,n,l⟩:=t
 simp only [TE.A4,teA,AG,AQ] at hc ⊢
 (repeat' (first|refine Run.ct rfl ?_|((first|refine Run.reg mixed ?_|refine Run.AE ?_|refine Run.A1 Hb (AF.le_refl _) ?_|refine AI.det (hc) ?_)<;>try simp -implicitDefEqProofs only [go_sem])|fail))
theorem Ur (c:CE) (σ:AF) (h:Oj c):AL Tryz.prog 121 [ceA c] σ (fun v σ'=>v= .d (.bool (VN c))∧σ'=σ):=by
 refine OJ (by simp) ?_
 rw [Bj]
 have ha:=J8 (fid:=123) (caps:=[]) (by kernel_rfl) rfl (Dj 40) c.args σ (fun t ht σ1 _=>SG t σ1 (h t ht))
 obtain ⟨nm,ar⟩:=c
 simp only [CE.enc,ceA,AG,AQ] at ha ⊢
 have h6:decide ((ar.length:Int)≤6)=decide (ar.length≤6):=leN _ 6
 (repeat' (first|refine Run.ct rfl ?_|(refine QP (by first|exact GV.t|exact GV.f|exact GV.st|exact GV.sf) ⟨?_,fun h=>?_,?_⟩;rotate_left;(focus ((try simp only [AP,JN] at h);simp -implicitDefEqProofs only [AA,h6,go_sem];first|exact Is.mk|exact Is.pv (by simp -implicitDefEqProofs only [h,Pf,↓Ef,↓Gk,↓Eg,AA,h6,go_sem];rfl)|(refine AI.det (Bh nm _) ?_;exact Is.mk)|(refine AI.det (ha) ?_;exact Is.mk)|(refine AI.Yn (by simp only [h,Pf];rfl) ?_;first|(refine AI.det (Bh nm _) ?_;exact Is.mk)|(refine AI.det (ha) ?_;exact Is.mk))));(try simp -implicitDefEqProofs only [Fo,Hm,Hn,↓Ef,↓Gk,↓Eg,AA,h6,IT,go_sem]))|((first|refine Run.reg mixed ?_|refine Run.AE ?_|refine Run.A1 JE (AF.le_refl _) ?_|refine AI.det (Bh nm _) ?_|refine AI.det (ha) ?_)<;>try simp -implicitDefEqProofs only [Fo,Hm,Hn,↓Ef,↓Gk,↓Eg,AA,h6,go_sem])|fail))
 simp only [VN]
theorem XA (d:DE) (σ:AF) (h:Hp d):AL Tryz.prog 95 [deA d] σ (fun v σ'=>v= .d (.bool (Kz d))∧σ'=σ):=by
 refine QB (by simp) ?_
 rw [Bj]
 have ha:=Gb (fid:=96) (caps:=[]) (by kernel_rfl) rfl EJ d.vars σ (fun x _ σ1 _=>D3 x σ1)
 have hc:=Pn (fid:=121) (caps:=[]) (by kernel_rfl) rfl VN d.cons σ (fun c hc σ1 _=>Ur c σ1 (h c hc))
 obtain ⟨nm,vs,cs⟩:=d
 simp only [DE.enc,deA,AG,AQ] at ha hc ⊢
 have h6:decide ((6:Int) < (vs.length:Int))=!decide (vs.length≤6):=gtN _ 6
 have h8:decide ((8:Int) < (cs.length:Int))=!decide (cs.length≤8):=gtN _ 8
 have h1:decide ((cs.length:Int) < 1)=decide (cs.length < 1):=ltN _ 1
 (repeat' (first|refine Run.ct rfl ?_|(refine QP (by first|exact GV.t|exact GV.f|exact GV.st|exact GV.sf) ⟨?_,fun h=>?_,?_⟩;rotate_left;(focus ((try simp only [AP,JN] at h);simp -implicitDefEqProofs only [AA,h6,h8,h1,go_sem];first|exact Is.mk|exact Is.pv (by simp -implicitDefEqProofs only [h,Pf,↓Ef,↓Gk,↓Eg,AA,h6,h8,h1,go_sem];rfl)|(refine AI.det (Bh nm _) ?_;exact Is.mk)|(refine AI.det (ha) ?_;exact Is.mk)|(refine AI.det (hc) ?_;exact Is.mk)|(refine AI.Yn (by simp only [h,Pf];rfl) ?_;first|(refine AI.det (Bh nm _) ?_;exact Is.mk)|(refine AI.det (ha) ?_;exact Is.mk)|(refine AI.det (hc) ?_;exact Is.mk))));(try simp -implicitDefEqProofs only [Fo,Hm,Hn,↓Ef,↓Gk,↓Eg,AA,h6,h8,h1,Ji,go_sem]))|((first|refine Run.reg mixed ?_|refine Run.AE ?_|refine Run.A1 KV (AF.le_refl _) ?_|refine AI.det (Bh nm _) ?_|refine AI.det (ha) ?_|refine AI.det (hc) ?_)<;>try simp -implicitDefEqProofs only [Fo,Hm,Hn,↓Ef,↓Gk,↓Eg,AA,h6,h8,h1,go_sem])|(refine ⟨fun h=>?_,fun h=>?_⟩<;>first|(cases h;done)|try simp only [h])|fail))
 all_goals (refine lF ?_;simp [Kz] at *;try grind)
set_option maxHeartbeats 4000000 in
theorem TG (p:Pg) (σ:AF) (h:∀d∈p.data,Hp d):AL Tryz.prog 71 [pgA p] σ (fun v σ'=>v= .d (.bool (EF p))∧σ'=σ):=by
 obtain ⟨ds,fs⟩:=p
 refine UC (by simp) ?_
 rw [Bj,pgA]
 simp only [Pg.enc,AG,AQ] at h ⊢
 have h12:decide ((12:Int) < (ds.length:Int))=!decide (ds.length≤12):=gtN _ 12
 have h24:decide ((24:Int) < (fs.length:Int))=!decide (fs.length≤24):=gtN _ 24
 by_cases hd:ds.length≤12
 case neg=>
  (repeat' (first|refine Run.ct rfl ?_|((first|refine Run.reg mixed ?_|refine Run.AE ?_|refine Run.A1 Cs (AF.le_refl _) ?_)<;>try simp -implicitDefEqProofs only [AA,h12,decide_eq_false hd,go_sem])|fail))
  simp [EF,hd]
 by_cases hf:fs.length≤24
 case neg=>
  (repeat' (first|refine Run.ct rfl ?_|((first|refine Run.reg mixed ?_|refine Run.AE ?_|refine Run.A1 Cs (AF.le_refl _) ?_)<;>try simp -implicitDefEqProofs only [AA,h12,decide_eq_true hd,h24,decide_eq_false hf,go_sem])|fail))
  simp [EF,hf]
 have hres:EF ⟨ds,fs⟩=(ds.all Kz&&(fs.foldlM L9 600).isSome):=by simp [EF,hd,hf]
 (repeat' (first|refine Run.ct rfl ?_|((first|refine Run.reg mixed ?_|refine Run.AE ?_)<;>try simp -implicitDefEqProofs only [AA,h12,decide_eq_true hd,h24,decide_eq_true hf,go_sem])|fail))
 refine Run.BD ?_
 refine Run.BK ((fun (a1:AV) (a19:AV) (a20:AV)=>fun (i:Nat)=>put 1 a1 (put 19 a19 (put 20 a20 (put 21 (.d (.int .i64 i)) U)))) _ _ _) (fun _=>Az 1 [.d (.sl (ds.map DE.enc)),.d (.sl (fs.map FE.enc))] E) (fun _=>σ) (fun i=>i≤ds.length∧(ds.take i).all Kz=true) (fun i=>ds.length - i) ?_ 0 ⟨by simp,by simp⟩
 rintro i ⟨hi,hok⟩ ih
 by_cases hlt:i < ds.length
 · obtain ⟨x,hx⟩:=BC hlt
   have he:=BA (enc:=DE.enc) hx
   have hw1:=A5 (show i+1≤9000000000000000000 by omega)
   have hc:=XA x σ (h x (AT hx))
   cases hp:Kz x with
   |true=>
    have hs:=Ik hok hx hp
    rw [hp] at hc
    obtain ⟨nm,vs,cs⟩:=x
    simp only [DE.enc,deA,AG,AQ] at he hc
    (repeat' (first|refine Run.ct rfl ?_|((first|refine Run.reg mixed ?_|refine Run.AE ?_|refine AI.det (hc) ?_)<;>try simp -implicitDefEqProofs only [Ac hlt,he,hw1,go_sem])|fail))
    exact ih (i+1) ⟨by omega,hs⟩ (by omega)
   |false=>
    have hs:=T1 (p:=Kz) hx hp
    rw [hp] at hc
    obtain ⟨nm,vs,cs⟩:=x
    simp only [DE.enc,deA,AG,AQ] at he hc
    (repeat' (first|refine Run.ct rfl ?_|((first|refine Run.reg mixed ?_|refine Run.AE ?_|refine Run.A1 Cs (AF.le_refl _) ?_|refine AI.det (hc) ?_)<;>try simp -implicitDefEqProofs only [Ac hlt,he,hw1,go_sem])|fail))
    rw [hres,hs];rfl
 · rw [AK (by omega)] at hok
   rw [hok,Au] at hres
   clear ih
   (repeat' (first|refine Run.ct rfl ?_|((first|refine Run.reg mixed ?_|refine Run.AE ?_)<;>try simp -implicitDefEqProofs only [Bi hlt,go_sem])|fail))
   intro j hj
   have hle:=Bl (cs:=[AV.d (.int .i64 0)]) hj
   (repeat' (first|refine Run.ct rfl ?_|((first|refine Run.reg mixed ?_|refine Run.AE ?_)<;>try simp -implicitDefEqProofs only [AA,go_sem])|fail))
   refine Run.BD ?_
   refine Run.BK ((fun (a5:AV) (a32:AV) (a33:AV)=>fun (y:Nat×Nat)=>put 5 a5 (put 32 a32 (put 33 a33 (put 34 (.d (.int .i64 y.1)) U)))) _ _ _) (fun _=>E) (fun y=>σ.AO j [.d (.int .i64 (Jo y.2))])
    (fun y=>y.1≤fs.length∧y.2≤600∧(fs.take y.1).foldlM L9 600=some y.2) (fun y=>fs.length - y.1) ?_ (0,600) ⟨by simp,by simp,rfl⟩
   rintro ⟨i,q⟩ ⟨hi,hq,hok⟩ ih
   simp only at hi hq hok
   by_cases hlt:i < fs.length
   · obtain ⟨x,hx⟩:=BC hlt
     have he:=BA (enc:=FE.enc) hx
     have hw1:=A5 (show i+1≤9000000000000000000 by omega)
     have hnm:=D3 x.name (σ.AO j [.d (.int .i64 (Jo q))])
     have hps:=Gb (fid:=96) (caps:=[]) (by kernel_rfl) rfl EJ x.params (σ.AO j [.d (.int .i64 (Jo q))]) (fun x _ σ1 _=>D3 x σ1)
     have h6:decide ((6:Int) < (x.params.length:Int))=!decide (x.params.length≤6):=gtN _ 6
     have hc:=Sh j 40 q (A0 _) hq x.body (σ.AO j [.d (.int .i64 (Jo q))]) (by simp only [AM,if_true])
     rw [show ((41 - 40:Nat):Int)=1 from rfl] at hc
     have hno:L9 q x=none→fs.foldlM L9 600=none:=fun h=>IZ hok hx h
     have hyes:∀r,L9 q x=some r→(fs.take (i+1)).foldlM L9 600=some r:=fun r h=>by rw [I0 hok hx,h]
     have hvf:L9 q x=if EJ x.name&&decide (x.params.length≤6)&&x.params.all EJ then vEx 40 q x.body else none:=rfl
     cases h1:EJ x.name with
     |false=>
      rw [h1] at hnm hvf
      obtain ⟨nm,ps,o,n,u,ns,ks,al⟩:=x
      simp only [FE.enc,Ex.A4] at he hnm
      (repeat' (first|refine Run.ct rfl ?_|((first|refine Run.reg mixed ?_|refine Run.AE ?_|(refine Run.A1 Cs (σ2:=σ) (Bl hj) ?_)|refine AI.det (hnm) ?_)<;>try simp -implicitDefEqProofs only [Ac hlt,he,go_sem])|fail))
      rw [hres,hno hvf];rfl
     |true=>
     by_cases h2:x.params.length≤6
     case neg=>
      rw [decide_eq_false h2] at h6
      rw [h1,decide_eq_false h2] at hvf
      rw [h1] at hnm
      obtain ⟨nm,ps,o,n,u,ns,ks,al⟩:=x
      simp only [FE.enc,Ex.A4] at he hnm h6
      (repeat' (first|refine Run.ct rfl ?_|((first|refine Run.reg mixed ?_|refine Run.AE ?_|(refine Run.A1 Cs (σ2:=σ) (Bl hj) ?_)|refine AI.det (hnm) ?_)<;>try simp -implicitDefEqProofs only [Ac hlt,he,AA,h6,go_sem])|fail))
      rw [hres,hno hvf];rfl
     rw [decide_eq_true h2] at h6
     cases h3:x.params.all EJ with
     |false=>
      rw [h1,h3] at hvf
      rw [Bm] at hvf
      rw [h1] at hnm
      rw [h3] at hps
      obtain ⟨nm,ps,o,n,u,ns,ks,al⟩:=x
      simp only [FE.enc,Ex.A4] at he hnm h6 hps
      (repeat' (first|refine Run.ct rfl ?_|((first|refine Run.reg mixed ?_|refine Run.AE ?_|(refine Run.A1 Cs (σ2:=σ) (Bl hj) ?_)|refine AI.det (hnm) ?_|refine AI.det (hps) ?_)<;>try simp -implicitDefEqProofs only [Ac hlt,he,AA,h6,go_sem])|fail))
      rw [hres,hno hvf];rfl
     |true=>
     rw [h1,h3,decide_eq_true h2] at hvf
     rw [h1] at hnm
     rw [h3] at hps
     cases hv:vEx 40 q x.body with
     |some r=>
      have hr:=O5 _ _ _ _ hv
      rw [hv] at hvf
      have hc:=VXQ.yes hc hv
      have hs:=hyes r hvf
      obtain ⟨nm,ps,o,n,u,ns,ks,al⟩:=x
      simp only [FE.enc,Ex.A4,exA,AG,AQ] at he hnm h6 hps hc
      (repeat' (first|refine Run.ct rfl ?_|((first|refine Run.reg mixed ?_|refine Run.AE ?_|(refine AI.mk rfl hc ?_;rintro _ _ ⟨rfl,rfl⟩)|refine AI.det (hnm) ?_|refine AI.det (hps) ?_)<;>try simp -implicitDefEqProofs only [Ac hlt,he,hw1,AA,h6,go_sem])|fail))
      exact ih (i+1,r) ⟨by simp only;omega,by simp only;omega,hs⟩ (by simp only;omega)
     |none=>
      rw [hv] at hvf
      have hc:=VXQ.no hc hv
      obtain ⟨nm,ps,o,n,u,ns,ks,al⟩:=x
      simp only [FE.enc,Ex.A4,exA,AG,AQ] at he hnm h6 hps hc
      (repeat' (first|refine Run.ct rfl ?_|((first|refine Run.reg mixed ?_|refine Run.AE ?_|(refine AI.mk rfl hc ?_;rintro _ _ ⟨rfl,z,rfl⟩)|(refine Run.A1 Cs (σ2:=σ) (Bl hj) ?_)|refine AI.det (hnm) ?_|refine AI.det (hps) ?_)<;>try simp -implicitDefEqProofs only [Ac hlt,he,hw1,AA,h6,go_sem])|fail))
      rw [hres,hno hvf];rfl
   · rw [AK (by omega)] at hok
     (repeat' (first|refine Run.ct rfl ?_|((first|refine Run.reg mixed ?_|refine Run.AE ?_|(refine Run.A1 Cs (σ2:=σ) (Bl hj) ?_))<;>try simp -implicitDefEqProofs only [Bi hlt,go_sem])|fail))
     rw [hres,hok];rfl
end Go.Ab
