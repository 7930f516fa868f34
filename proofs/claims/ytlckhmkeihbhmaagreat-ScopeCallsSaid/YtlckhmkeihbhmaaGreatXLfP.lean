/- Programs read out of memory. Rules for walks that split and call by themselves. Data types of package api as plain data. Bytes and keywords. Keywords and numbers of the reference. Signs, numbers and prefixes. Prefixes and tokens. Conditions: none. -/
import Derived.Test.YtlckhmkeihbhmaaGreatXAb13
set_option linter.unusedSimpArgs false
set_option linter.unusedVariables false
set_option maxRecDepth 4000
set_option maxHeartbeats 8000000
open List renaming cons_append→Ad,nil_append→Au,append_nil→Aq,getElem?_map→Ah,take_append_drop→A4,any_cons→KT,length_map→AA,drop_length→Nj,take_succ_cons→Pk,take_zero→Iu
open Nat renaming le_refl→A0,lt_or_ge→Br
open Bool renaming eq_iff_iff→Ac,not_eq_true'→Cb,or_false→KS,false_or→DP,true_or→J0,false_eq_true→AZ
namespace Go.Ab
open Go.Proofs
theorem R3 {ds:List DV} (h:DT Tryz.prog 38 ds):∃l:List Str,ds=[.sl (l.map BF)]:=by
 obtain ⟨rows,rfl,_,hr⟩:=h.Oe Tryz.underlying38
 obtain ⟨l,rfl⟩:=Hv (f:=BF) rows (fun r hm=>by
  obtain ⟨s,rfl,_⟩:=(hr r hm).NN Tryz.underlying9
  exact ⟨s,rfl⟩)
 exact ⟨l,rfl⟩
theorem m8:∀(n:Nat) (ds:List DV),SizeOf.sizeOf ds≤n→DT Tryz.prog 74 ds→∃t:TE,ds=t.enc:=by
 intro n
 induction n with
 |zero=>intro ds h;cases ds<;>simp at h
 |succ n ih=>
  intro ds hn h
  obtain ⟨a,b,rfl,h1,hb⟩:=(h.HS Tryz.underlying74).C3
  obtain ⟨a2,b2,rfl,h2,hb2⟩:=hb.C3
  obtain ⟨a3,b3,rfl,h3,hb3⟩:=hb2.C3
  cases hb3.NM
  obtain ⟨k,rfl,_⟩:=h1.X4 Tryz.underlying3
  obtain ⟨m,rfl,_⟩:=h2.NN Tryz.underlying9
  obtain ⟨rows,rfl,_,hr⟩:=h3.Oe Tryz.underlying70
  obtain ⟨l,rfl⟩:=Hv (f:=TE.enc) rows (fun r hm=>ih r (by
   have:=List.sizeOf_lt_of_mem hm
   simp only [Ad,Au,Aq,List.cons.sizeOf_spec,List.nil.sizeOf_spec,DV.int.sizeOf_spec,DV.str.sizeOf_spec,DV.sl.sizeOf_spec] at hn
   omega) (hr r hm))
  exact ⟨.mk k m l,by rw [TE.A7];rfl⟩
theorem m5:∀(n:Nat) (ds:List DV),SizeOf.sizeOf ds≤n→DT Tryz.prog 42 ds→∃t:Ex,ds=t.enc:=by
 intro n
 induction n with
 |zero=>intro ds h;cases ds<;>simp at h
 |succ n ih=>
  intro ds hn h
  obtain ⟨a,b,rfl,h1,hb⟩:=(h.HS Tryz.underlying42).C3
  obtain ⟨a2,b2,rfl,h2,hb2⟩:=hb.C3
  obtain ⟨a3,b3,rfl,h3,hb3⟩:=hb2.C3
  obtain ⟨a4,b4,rfl,h4,hb4⟩:=hb3.C3
  obtain ⟨a5,b5,rfl,h5,hb5⟩:=hb4.C3
  obtain ⟨a6,b6,rfl,h6,hb6⟩:=hb5.C3
  cases hb6.NM
  obtain ⟨o,rfl,_⟩:=h1.X4 Tryz.underlying3
  obtain ⟨m,rfl,_⟩:=h2.NN Tryz.underlying9
  obtain ⟨u,rfl,_⟩:=h3.X4 Tryz.underlying2
  obtain ⟨ns,rfl⟩:=R3 h4
  obtain ⟨rows,rfl,_,hr⟩:=h5.Oe Tryz.underlying39
  obtain ⟨rows2,rfl,_,hr2⟩:=h6.Oe Tryz.underlying40
  simp only [Ad,Au,Aq,List.cons.sizeOf_spec,List.nil.sizeOf_spec,DV.int.sizeOf_spec,DV.str.sizeOf_spec,DV.sl.sizeOf_spec] at hn
  obtain ⟨l,rfl⟩:=Hv (f:=Ex.enc) rows (fun r hm=>ih r (by
   have:=List.sizeOf_lt_of_mem hm
   omega) (hr r hm))
  obtain ⟨l2,rfl⟩:=Hv (f:=Al.enc) rows2 (fun r hm=>by
   have hlt:=List.sizeOf_lt_of_mem hm
   obtain ⟨c1,d1,rfl,g1,e1⟩:=((hr2 r hm).HS Tryz.underlying129).C3
   obtain ⟨c2,d2,rfl,g2,e2⟩:=e1.C3
   obtain ⟨c3,d3,rfl,g3,e3⟩:=e2.C3
   cases e3.NM
   obtain ⟨c,rfl,_⟩:=g1.NN Tryz.underlying9
   obtain ⟨vs,rfl⟩:=R3 g2
   simp only [Ad,Au,Aq,List.cons.sizeOf_spec,DV.str.sizeOf_spec,DV.sl.sizeOf_spec] at hlt
   obtain ⟨e,rfl⟩:=ih c3 (by omega) g3
   exact ⟨.mk c vs e,by simp [Al.enc,ssD]⟩)
  exact ⟨.mk o m u ns l l2,by rw [Ex.A7];rfl⟩
theorem m0 (ds:List DV) (h:DT Tryz.prog 72 ds):∃c:CE,ds=c.enc:=by
 obtain ⟨a,b,rfl,h1,hb⟩:=(h.HS Tryz.underlying72).C3
 obtain ⟨a2,b2,rfl,h2,hb2⟩:=hb.C3
 cases hb2.NM
 obtain ⟨s,rfl,_⟩:=h1.NN Tryz.underlying9
 obtain ⟨rows,rfl,_,hr⟩:=h2.Oe Tryz.underlying70
 obtain ⟨l,rfl⟩:=Hv (f:=TE.enc) rows (fun r hm=>m8 _ r (A0 _) (hr r hm))
 exact ⟨⟨s,l⟩,rfl⟩
theorem m4 (ds:List DV) (h:DT Tryz.prog 68 ds):∃c:DE,ds=c.enc:=by
 obtain ⟨a,b,rfl,h1,hb⟩:=(h.HS Tryz.underlying68).C3
 obtain ⟨a2,b2,rfl,h2,hb2⟩:=hb.C3
 obtain ⟨a3,b3,rfl,h3,hb3⟩:=hb2.C3
 cases hb3.NM
 obtain ⟨s,rfl,_⟩:=h1.NN Tryz.underlying9
 obtain ⟨vs,rfl⟩:=R3 h2
 obtain ⟨rows,rfl,_,hr⟩:=h3.Oe Tryz.underlying66
 obtain ⟨l,rfl⟩:=Hv (f:=CE.enc) rows (fun r hm=>m0 r (hr r hm))
 exact ⟨⟨s,vs,l⟩,rfl⟩
theorem m6 (ds:List DV) (h:DT Tryz.prog 44 ds):∃c:FE,ds=c.enc:=by
 obtain ⟨a,b,rfl,h1,hb⟩:=(h.HS Tryz.underlying44).C3
 obtain ⟨a2,b2,rfl,h2,hb2⟩:=hb.C3
 obtain ⟨a3,b3,rfl,h3,hb3⟩:=hb2.C3
 cases hb3.NM
 obtain ⟨s,rfl,_⟩:=h1.NN Tryz.underlying9
 obtain ⟨vs,rfl⟩:=R3 h2
 obtain ⟨e,rfl⟩:=m5 _ a3 (A0 _) h3
 exact ⟨⟨s,vs,e⟩,by simp [FE.enc]⟩
theorem m7 (ds:List DV) (h:DT Tryz.prog 25 ds):∃p:Pg,ds=p.enc:=by
 obtain ⟨a,b,rfl,h1,hb⟩:=(h.HS Tryz.underlying25).C3
 obtain ⟨a2,b2,rfl,h2,hb2⟩:=hb.C3
 cases hb2.NM
 obtain ⟨rows,rfl,_,hr⟩:=h1.Oe Tryz.underlying22
 obtain ⟨l,rfl⟩:=Hv (f:=DE.enc) rows (fun r hm=>m4 r (hr r hm))
 obtain ⟨rows2,rfl,_,hr2⟩:=h2.Oe Tryz.underlying23
 obtain ⟨l2,rfl⟩:=Hv (f:=FE.enc) rows2 (fun r hm=>m6 r (hr2 r hm))
 exact ⟨⟨l,l2⟩,rfl⟩
theorem kA {av:List AV} (h:Sn Tryz.prog [25] av):∃p:Pg,av=[pgA p]:=by
 cases h with
 |cons h1 h=>
  cases h
  obtain ⟨p,rfl⟩:=m7 _ h1
  exact ⟨p,by rw [So Tryz.underlying25];rfl⟩
end Go.Ab
namespace Go.Ab
open Go.RowKit
variable {P:Program} {K:CV} {F:Fm} {L:Lm} {σ:AF}
theorem Yb {s:Nat} {v:AV} (h:F s=v):put s v F=F:=by
 funext t
 simp only [put]
 split
 · rename_i e;rw [← h];first|(subst e;rfl)|(rw [e])
 · rfl
theorem FY {d:Option Nat} {o:O} {s:Nat} {want b:Bool} {r:List Q} (hF:F s= .d (.bool b))
 (h1:b=true→BV P K (⟨d,o,some (s,want)⟩::r) (put s (.d (.bool true)) F) L σ) (h2:b=false→BV P K (⟨d,o,some (s,want)⟩::r) (put s (.d (.bool false)) F) L σ):
 BV P K (⟨d,o,some (s,want)⟩::r) F L σ:=by
 cases b
 · have:=h2 rfl;rw [Yb hF] at this;exact this
 · have:=h1 rfl;rw [Yb hF] at this;exact this
theorem AJ.det {d:Option Nat} {f:FuncId} {args:List AV} {v:AV} (h:AM P f args σ (fun v' σ'=>v'=v∧σ'=σ)) (hk:K (Av d v F) L σ) (hn:args.all AV.BZ=true:=by rfl):AJ P f args d K F L σ:=
 AJ.mk hn h (fun v' σ' ⟨e1,e2⟩=>by subst e1;subst e2;exact hk)
theorem jS {n:Nat} (h:n≤9000000000000000000):IntKind.i64.wrap (n:Int)=n:=BI (by omega) (by omega)
theorem wrap_add {a b:Nat} (h:a+b≤9000000000000000000):IntKind.i64.wrap ((a:Int)+(b:Int))=((a+b:Nat):Int):=by
 rw [BI (by omega) (by omega)];omega
theorem A6 {a:Nat} (h:a+1≤9000000000000000000):IntKind.i64.wrap ((a:Int)+1)=((a+1:Nat):Int):=by
 rw [BI (by omega) (by omega)];omega
theorem A8 {i n:Nat} (h:i < n):decide ((i:Int) < (n:Int))=true:=by simp [h]
theorem Bd {i n:Nat} (h:¬i < n):decide ((i:Int) < (n:Int))=false:=by simp;omega
theorem Co {s:List UInt8} {i:Nat} {b:UInt8} (h:s[i]?=some b) (k:IntKind):V5 (.d (.str s)) (.d (.int k (i:Int)))=some (.d (.int .u8 b.toNat)):=by
 simp [V5,h]
theorem Xp {s:List UInt8} {n:Nat} (h:n≤s.length):Ov (.d (.str s)) none (some (.d (.int .i64 (n:Int))))=some (.d (.str (s.take n))):=by
 simp [Ov,TT,Of,h]
theorem jK {s:List UInt8} {n:Nat} (h:n≤s.length):Ov (.d (.str s)) (some (.d (.int .i64 (n:Int)))) none=some (.d (.str (s.drop n))):=by
 simp [Ov,TT,Of,h]
theorem jJ {s:List UInt8} {n m:Nat} (h:n≤m) (h2:m≤s.length):Ov (.d (.str s)) (some (.d (.int .i64 (n:Int)))) (some (.d (.int .i64 (m:Int))))=some (.d (.str ((s.take m).drop n))):=by
 simp [Ov,TT,Of,h,h2]
theorem mM {b c:UInt8} {s:List UInt8}:Ov (.d (.str (b::c::s))) none (some (.d (.int .i64 2)))=some (.d (.str [b,c])):=by
 rw [show (2:Int)=((2:Nat):Int) from rfl,Xp (by simp)];rfl
theorem mL {b:UInt8} {s:List UInt8}:Ov (.d (.str (b::s))) none (some (.d (.int .i64 1)))=some (.d (.str [b])):=by
 rw [show (1:Int)=((1:Nat):Int) from rfl,Xp (by simp)];rfl
theorem lP (b x:UInt8):((b.toNat:Int)==(x.toNat:Int))=(b==x):=by
 rw [Ac];simp only [beq_iff_eq,Int.natCast_inj,UInt8.toNat_inj]
theorem Run.Jr {cx:Cx} {KK:AV→AF→Prop} {k:List CI} (ks:List Nat) (h:Run cx KK k (M4 ks F) (I1 ks L) σ):Run cx KK k F L σ:=
 fun items base g lam Pr a w0 w b cs hi hf hb hk=>h items base g lam Pr a w0 w b cs hi (hf.kept ks) hb hk
def ctl (bl:Bool):List CI→Option (List CI)
 | .code .skip::k=>some k
 | .code (.seq x y)::k=>some (.code x::.code y::k)
 | .code (.block i c)::k=>if bl then some (.code c::.blk i::k) else none
 | .code (.scope c)::k=>some (.code c::.scp::k)
 | .blk _::k=>some k
 | .scp::k=>some k
 | .code (.exit i)::k=>R5 i k
 |_=>none
theorem Run.ctB {cx:Cx} {KK:AV→AF→Prop} (bl:Bool) {k k':List CI} (e:ctl bl k=some k') (h:Run cx KK k' F L σ):Run cx KK k F L σ:=by
 unfold ctl at e
 split at e
 · cases e;exact Run.skip h
 · cases e;exact Run.seq h
 · split at e
   · cases e;exact Run.block h
   · cases e
 · cases e;exact Run.scope h
 · cases e;exact Run.blk h
 · cases e;exact Run.scp h
 · exact Run.exit e h
 · cases e
theorem Run.ct {cx:Cx} {KK:AV→AF→Prop} {k k':List CI} (e:ctl true k=some k') (h:Run cx KK k' F L σ):Run cx KK k F L σ:=Run.ctB true e h
theorem Run.cb {cx:Cx} {KK:AV→AF→Prop} {k k':List CI} (e:ctl false k=some k') (h:Run cx KK k' F L σ):Run cx KK k F L σ:=Run.ctB false e h
attribute [go_sem] Nat.reduceEqDiff Nat.reduceBEq Nat.reduceAdd Nat.reduceLeDiff reduceIte reduceCtorEq
attribute [go_sem] Wf pY tyA Ty.enc Ty.J5 eq_self Cb Bool.not_eq_false'
end Go.Ab
namespace Go.Ab
structure Con where
 name:List UInt8
 args:List Ty
structure Dat where
 name:List UInt8
 vars:Int
 cons:List Con
def Con.enc (c:Con):List DV:=[.str c.name,.sl (Ty.J5 c.args)]
def Dat.enc (d:Dat):List DV:=[.str d.name,.int .i64 d.vars,.sl (d.cons.map Con.enc)]
def dsA (l:List Dat):AV:= .d (.sl (l.map Dat.enc))
theorem NA {l:List Con} {i:Nat} {x:Con} (h:l[i]?=some x):(l.map Con.enc)[i]?=some [.str x.name,.sl (Ty.J5 x.args)]:=by
 rw [Ah,h];rfl
theorem ND {l:List Dat} {i:Nat} {x:Dat} (h:l[i]?=some x):(l.map Dat.enc)[i]?=some [.str x.name,.int .i64 x.vars,.sl (x.cons.map Con.enc)]:=by
 rw [Ah,h];rfl
theorem G1 (l:List Ty) (i:Nat):Ty.A2 (l.take i)≤Ty.A2 l:=by
 have:=CA (l.take i) (l.drop i)
 rw [A4] at this;omega
theorem Io {a:Nat} (h:a≤9000000000000000000):IntKind.i64.wrap (((a+1:Nat):Int) - 1)=(a:Int):=by
 rw [BI (by omega) (by omega)];omega
theorem Run.kS {cx:Cx} {KK:AV→AF→Prop} {k:List CI} {F:Fm} {L:Lm} {σ σ':AF} (e:σ'=σ) (h:Run cx KK k F L σ'):Run cx KK k F L σ:=e ▸ h
theorem Run.Zz {cx:Cx} {KK:AV→AF→Prop} {k:List CI} {c:C} {F:Fm} {L:Lm} {σ:AF} {α:Type} (ks:List Nat) (Fs:α→Fm) (Ls:Lm) (σs:AF) (I:α→Prop) (h2:∀a,I a→Run cx KK k (Fs a) Ls σs)
 (h1:(∀(F':Fm) (L':Lm) (a:α),M4 ks F'=Fs a→I1 ks L'=Ls→I a→Run cx KK k F' L' σs)→Run cx KK (.code c::k) F L σ):Run cx KK (.code c::k) F L σ:=
 h1 fun F' L' a hF hL hI=>Run.Jr ks (by rw [hF,hL];exact h2 a hI)
theorem gB {σ:AF} {i:Nat} {z:List AV} {x:Nat×TypeId} (h:σ.blk i=none∧σ.bt i=none):σ.le ((σ.AP i z).DK i x)∧((σ.AP i z).DK i x).blk i=some z:=
 ⟨⟨fun j cs hj=>by
    have hne:j≠i:=fun e=>by rw [e,h.1] at hj;cases hj
    simp [AF.DK,AF.AP,hne,hj],fun _ h=>h,rfl,fun j y hj=>by
    have hne:j≠i:=fun e=>by rw [e,h.2] at hj;cases hj
    simp [AF.DK,AF.AP,hne,hj]⟩,by simp [AF.DK,AF.AP]⟩
theorem C1 {σ σ1:AF} {i:Nat} {cs:List AV} (h:σ.le σ1) (hn:σ.blk i=none):σ.le (σ1.AP i cs):=
 ⟨fun j ds hj=>by
   have hne:j≠i:=fun e=>by rw [e,hn] at hj;cases hj
   rw [AL,if_neg hne];exact h.blk j ds hj,h.tok,h.gt,h.bt⟩
theorem BS (a b:List UInt8):bF .eql a b=some (.d (.bool (a==b))):=rfl
theorem Cd (a b:List UInt8):bF .neq a b=some (.d (.bool (!(a==b)))):=rfl
theorem gtN (n k:Nat):decide ((k:Int) < (n:Int))=!decide (n≤k):=by
 rw [Ac];simp
theorem leN (n k:Nat):decide ((n:Int)≤(k:Int))=decide (n≤k):=decide_eq_decide.2 (by omega)
theorem ltN (n k:Nat):decide ((n:Int) < (k:Int))=decide (n < k):=decide_eq_decide.2 (by omega)
theorem mZ (n k:Nat):((n:Int)==(k:Int))=(n==k):=by
 rw [Ac];simp only [beq_iff_eq];omega
theorem TU (a b:Nat):((a:Int) != (b:Int))=(a != b):=by
 rw [Ac];simp;omega
theorem CZ {a b:Int} (h:a≠b):(a==b)=false:=by simpa using h
end Go.Ab
namespace Go.Ab
open Go.Proofs
def WO (n:Int):Bool:=decide (97≤n)&&decide (n≤122)
def Tu (n:Int):Bool:=decide (65≤n)&&decide (n≤90)
def Hi (n:Int):Bool:=decide (48≤n)&&decide (n≤57)
def Hb (n:Int):Bool:=WO n||Tu n||Hi n||(n==95)
def ZW (n:Int):Bool:=(n==9)||(n==10)||(n==13)||(n==32)
theorem Oy (n:Int) (σ:AF):AM Tryz.prog 166 [.d (.int .u8 n)] σ (fun v σ'=>v= .d (.bool (WO n))∧σ'=σ):=by
 refine WJ (by simp) ?_
 rw [Bg]
 (repeat' (first|refine Run.ct rfl ?_|((first|refine Run.reg mixed ?_|refine Run.AD ?_|refine Run.A1 QH (AF.le_refl _) ?_|(refine FY rfl (fun h=>?_) (fun h=>?_)<;>try (cases h;done)))<;>try simp -implicitDefEqProofs only [go_sem])|fail))
 all_goals (simp_all [WO];try omega)
theorem Oz (n:Int) (σ:AF):AM Tryz.prog 167 [.d (.int .u8 n)] σ (fun v σ'=>v= .d (.bool (Tu n))∧σ'=σ):=by
 refine WL (by simp) ?_
 rw [Bg]
 (repeat' (first|refine Run.ct rfl ?_|((first|refine Run.reg mixed ?_|refine Run.AD ?_|refine Run.A1 QI (AF.le_refl _) ?_|(refine FY rfl (fun h=>?_) (fun h=>?_)<;>try (cases h;done)))<;>try simp -implicitDefEqProofs only [go_sem])|fail))
 all_goals (simp_all [Tu];try omega)
theorem Ks (n:Int) (σ:AF):AM Tryz.prog 171 [.d (.int .u8 n)] σ (fun v σ'=>v= .d (.bool (Hi n))∧σ'=σ):=by
 refine WI (by simp) ?_
 rw [Bg]
 (repeat' (first|refine Run.ct rfl ?_|((first|refine Run.reg mixed ?_|refine Run.AD ?_|refine Run.A1 QG (AF.le_refl _) ?_|(refine FY rfl (fun h=>?_) (fun h=>?_)<;>try (cases h;done)))<;>try simp -implicitDefEqProofs only [go_sem])|fail))
 all_goals (simp_all [Hi];try omega)
theorem H3 (n:Int) (σ:AF):AM Tryz.prog 138 [.d (.int .u8 n)] σ (fun v σ'=>v= .d (.bool (WO n))∧σ'=σ):=by
 refine Zl (by simp) ?_
 rw [Bg]
 (repeat' (first|refine Run.ct rfl ?_|((first|refine Run.reg mixed ?_|refine Run.AD ?_|refine Run.A1 Ug (AF.le_refl _) ?_|(refine FY rfl (fun h=>?_) (fun h=>?_)<;>try (cases h;done)))<;>try simp -implicitDefEqProofs only [go_sem])|fail))
 all_goals (simp_all [WO];try omega)
theorem H4 (n:Int) (σ:AF):AM Tryz.prog 139 [.d (.int .u8 n)] σ (fun v σ'=>v= .d (.bool (Tu n))∧σ'=σ):=by
 refine Zm (by simp) ?_
 rw [Bg]
 (repeat' (first|refine Run.ct rfl ?_|((first|refine Run.reg mixed ?_|refine Run.AD ?_|refine Run.A1 Uh (AF.le_refl _) ?_|(refine FY rfl (fun h=>?_) (fun h=>?_)<;>try (cases h;done)))<;>try simp -implicitDefEqProofs only [go_sem])|fail))
 all_goals (simp_all [Tu];try omega)
theorem GZ (n:Int) (σ:AF):AM Tryz.prog 140 [.d (.int .u8 n)] σ (fun v σ'=>v= .d (.bool (Hi n))∧σ'=σ):=by
 refine Zk (by simp) ?_
 rw [Bg]
 (repeat' (first|refine Run.ct rfl ?_|((first|refine Run.reg mixed ?_|refine Run.AD ?_|refine Run.A1 Uf (AF.le_refl _) ?_|(refine FY rfl (fun h=>?_) (fun h=>?_)<;>try (cases h;done)))<;>try simp -implicitDefEqProofs only [go_sem])|fail))
 all_goals (simp_all [Hi];try omega)
theorem ID (n:Int) (σ:AF):AM Tryz.prog 162 [.d (.int .u8 n)] σ (fun v σ'=>v= .d (.bool (ZW n))∧σ'=σ):=by
 refine WG (by simp) ?_
 rw [Bg]
 (repeat' (first|refine Run.ct rfl ?_|((first|refine Run.reg mixed ?_|refine Run.AD ?_|refine Run.A1 QF (AF.le_refl _) ?_|(refine FY rfl (fun h=>?_) (fun h=>?_)<;>try (cases h;done)))<;>try simp -implicitDefEqProofs only [go_sem])|fail))
 all_goals simp_all [ZW]
theorem Tt (n:Int) (σ:AF):AM Tryz.prog 169 [.d (.int .u8 n)] σ (fun v σ'=>v= .d (.bool (Hb n))∧σ'=σ):=by
 refine Up (by simp) ?_
 rw [Bg]
 (repeat' (first|refine Run.ct rfl ?_|((first|refine Run.reg mixed ?_|refine Run.AD ?_|refine Run.A1 O3 (AF.le_refl _) ?_|refine AJ.det (Oy _ _) ?_|refine AJ.det (Oz _ _) ?_|refine AJ.det (Ks _ _) ?_|(refine FY rfl (fun h=>?_) (fun h=>?_)<;>try (cases h;done)))<;>try simp -implicitDefEqProofs only [go_sem])|fail))
 all_goals simp_all [Hb]
def Hp:List Str:=[[97,114,114,97,121],[98,111,111,108],[99,97,116,99,104],[100,97,116,97],[101,108,115,101],[101,110,100],[102,97,108,115,101],[102,110],[102,117,110],[103,101,116],[105,102],[105,110],[105,110,116],[108,101,110],[108,101,116],[109,97,116,99,104],[110,101,119],[114,97,105,115,101],[114,101,97,100],[114,101,102],[115,101,116],[116,104,101,110],[116,105,99,107],[116,114,117,101],[116,114,121],[117,110,105,116],[119,105,116,104],[119,114,105,116,101]]
def eA (s:Str):Bool:=Hp.any (s==·)
set_option maxHeartbeats 4000000 in
theorem Sl (s:Str) (σ:AF):AM Tryz.prog 170 [.d (.str s)] σ (fun v σ'=>v= .d (.bool (eA s))∧σ'=σ):=by
 refine T8 (by simp) ?_
 rw [Bg]
 (repeat' (first|refine Run.ct rfl ?_|((first|refine Run.reg mixed ?_|refine Run.AD ?_|refine Run.A1 Nh (AF.le_refl _) ?_)<;>try simp -implicitDefEqProofs only [go_sem])|(refine ⟨fun h=>?_,fun h=>?_⟩<;>first|(cases h;done)|try simp only [h])|fail))
 all_goals simp only [eA,Hp,KT,List.any_nil,KS,DP,J0,Bool.or_true,and_self, *]
end Go.Ab
namespace Go.Ab
open Go.Proofs
theorem WT (s:Str) (σ:AF):AM Tryz.prog 141 [.d (.str s)] σ (fun v σ'=>v= .d (.bool (eA s))∧σ'=σ):=by
 refine XZ (by simp) ?_
 rw [Bg]
 (repeat (first
   |refine Run.seq ?_
   |refine Run.skip ?_
   |refine Run.block ?_
   |refine Run.blk ?_
   |refine Run.scope ?_
   |refine Run.scp ?_
   |(refine Run.exit rfl ?_)
   |(refine Run.reg mixed ?_;simp -implicitDefEqProofs only [go_sem])
   |(refine Run.AD ?_;simp -implicitDefEqProofs only [go_sem])))
 refine Run.BD ?_
 refine Run.BG ((fun (a0:AV)=>fun (i:Nat)=>put 0 a0 (put 3 (.d (.sl (Hp.map BF))) (put 4 (.d (.int .i64 i)) U))) _) (fun _=>E) (fun _=>σ) (fun i=>i≤Hp.length∧eA s=(Hp.drop i).any (s==·)) (fun i=>Hp.length - i) ?_ 0 ⟨by omega,rfl⟩
 rintro i ⟨hi,hs⟩ ih
 by_cases hlt:i < Hp.length
 · obtain ⟨x,hx⟩:=BC hlt
   have he:=Ay (enc:=BF) hx
   rw [Bb hx,KT] at hs
   (repeat' (first|refine Run.ct rfl ?_|((first|refine Run.reg mixed ?_|refine Run.AD ?_|refine Run.A1 NH (AF.le_refl _) ?_)<;>try simp -implicitDefEqProofs only [AA,A8 hlt,he,BF,A6 (show i+1≤9000000000000000000 by have:Hp.length=28:=rfl;omega),go_sem])|(refine ⟨fun h=>?_,fun h=>?_⟩<;>first|(cases h;done)|try simp only [h])|fail))
   · rw [hs];simp_all
   · refine ih (i+1) ⟨hlt,?_⟩ (by omega)
     rw [hs,show (s==x)=(x==s) from BEq.comm,h,DP]
 · have hge:i=Hp.length:=by omega
   (repeat' (first|refine Run.ct rfl ?_|((first|refine Run.reg mixed ?_|refine Run.AD ?_|refine Run.A1 NH (AF.le_refl _) ?_)<;>try simp -implicitDefEqProofs only [AA,Bd hlt,go_sem])|fail))
   rw [hs,hge];rfl
def L8:Str→Int→Option Int
 |[],v=>some v
 |b::r,v=>if v * 10+IntKind.u8.wrap ((b.toNat:Int) - 48)>1000000 then none else L8 r (v * 10+IntKind.u8.wrap ((b.toNat:Int) - 48))
theorem mN (a:Int):0≤IntKind.u8.wrap a∧IntKind.u8.wrap a≤255:=by
 have h1:IntKind.u8.wrap a=a % 256:=by rfl
 rw [h1];omega
theorem Yd (s:Str) (σ:AF) (hl:s.length≤1000000000):AM Tryz.prog 142 [.d (.str s)] σ (fun v σ'=>v=(match L8 s 0 with|some n=>.tup [.d (.int .i64 n),.d (.bool true)]|none=>.tup [.d (.int .i64 0),.d (.bool false)])∧σ'=σ):=by
 refine Zj (by simp) ?_
 rw [Bg]
 (repeat (first
   |refine Run.seq ?_
   |refine Run.skip ?_
   |refine Run.block ?_
   |refine Run.blk ?_
   |refine Run.scope ?_
   |refine Run.scp ?_
   |(refine Run.exit rfl ?_)
   |(refine Run.reg mixed ?_;simp -implicitDefEqProofs only [go_sem])
   |(refine Run.AD ?_;simp -implicitDefEqProofs only [go_sem])))
 refine Run.BD ?_
 refine Run.BG ((fun (a0:AV)=>fun (y:Nat×Int)=>put 0 a0 (put 4 (.d (.int .i64 y.2)) (put 5 (.d (.int .i64 y.1)) U))) _) (fun _=>E) (fun _=>σ) (fun y=>y.1≤s.length∧0≤y.2∧y.2≤1000000∧L8 s 0=L8 (s.drop y.1) y.2) (fun y=>s.length - y.1) ?_ (0,0) ⟨by simp,by simp,by simp,rfl⟩
 rintro ⟨i,v⟩ ⟨hi,h0,h1,hs⟩ ih
 simp only at hi h0 h1 hs
 by_cases hlt:i < s.length
 · obtain ⟨x,hx⟩:=BC hlt
   rw [Bb hx,L8] at hs
   have hu:=mN ((x.toNat:Int) - 48)
   have e1:IntKind.i64.wrap (v * 10)=v * 10:=BI (by omega) (by omega)
   have e2:IntKind.i64.wrap (IntKind.u8.wrap ((x.toNat:Int) - 48))=IntKind.u8.wrap ((x.toNat:Int) - 48):=BI (by omega) (by omega)
   have e3:IntKind.i64.wrap (v * 10+IntKind.u8.wrap ((x.toNat:Int) - 48))=v * 10+IntKind.u8.wrap ((x.toNat:Int) - 48):=BI (by omega) (by omega)
   (repeat' (first|refine Run.ct rfl ?_|((first|refine Run.reg mixed ?_|refine Run.AD ?_|refine Run.A1 Q6 (AF.le_refl _) ?_)<;>try simp -implicitDefEqProofs only [A8 hlt,Co hx,e1,e2,e3,A6 (show i+1≤9000000000000000000 by omega),go_sem])|(refine ⟨fun h=>?_,fun h=>?_⟩<;>first|(cases h;done)|try simp only [h])|fail))
   · have:v * 10+IntKind.u8.wrap ((x.toNat:Int) - 48)>1000000:=by simpa using h
     rw [hs,if_pos this]
   · have:¬v * 10+IntKind.u8.wrap ((x.toNat:Int) - 48)>1000000:=by simpa using h
     rw [if_neg this] at hs
     exact ih (i+1,_) ⟨hlt,by simp only;omega,by simp only;omega,hs⟩ (by simp only;omega)
 · have hge:i=s.length:=by omega
   (repeat' (first|refine Run.ct rfl ?_|((first|refine Run.reg mixed ?_|refine Run.AD ?_|refine Run.A1 Q6 (AF.le_refl _) ?_)<;>try simp -implicitDefEqProofs only [Bd hlt,go_sem])|fail))
   rw [hs,hge,Nj,L8]
end Go.Ab
namespace Go.Ab
open Go.Proofs
def V3:Str:=[40,41,44,61,124,43,45,42,47,37,60,59,95]
def Xo (b:UInt8):Nat:=if V3.any (b==·) then 1 else 0
def jG (b c:UInt8):Bool:=([b,c]==[45,62])||([b,c]==[60,61])||([b,c]==[61,61])
def Gx:Str→Nat
 |[]=>0
 |[b]=>Xo b
 |b::c::_=>if jG b c then 2 else Xo b
theorem mG:decide ((2:Int)≤((1:Nat):Int))=false:=rfl
theorem mH (n:Nat):decide ((2:Int)≤((n+1+1:Nat):Int))=true:=by simp;omega
theorem o4 (b c:UInt8):([b]==[c])=(b==c):=by
 rw [Ac];simp
set_option maxHeartbeats 4000000 in
theorem W4 (s:Str) (σ:AF) (hs:s≠[]):AM Tryz.prog 173 [.d (.str s)] σ (fun v σ'=>v= .d (.str (s.take (Gx s)))∧σ'=σ):=by
 match s,hs with
 |[b],_=>
  refine Rc (by simp) ?_
  rw [Bg]
  (repeat' (first|refine Run.ct rfl ?_|((first|refine Run.reg mixed ?_|refine Run.AD ?_|refine Run.A1 NJ (AF.le_refl _) ?_)<;>try simp -implicitDefEqProofs only [mG,mL,o4,go_sem])|(refine ⟨fun h=>?_,fun h=>?_⟩<;>first|(cases h;done)|try simp only [h])|fail))
  all_goals simp only [Gx,Xo,V3,KT,List.any_nil,KS,DP,J0,Bool.or_true,reduceIte,Pk,Iu,AZ,and_self, *]
 |b::c::r,_=>
  refine Rc (by simp) ?_
  rw [Bg]
  (repeat' (first|refine Run.ct rfl ?_|((first|refine Run.reg mixed ?_|refine Run.AD ?_|refine Run.A1 NJ (AF.le_refl _) ?_)<;>try simp -implicitDefEqProofs only [mH,mL,mM,o4,go_sem])|(refine ⟨fun h=>?_,fun h=>?_⟩<;>first|(cases h;done)|try simp only [h])|fail))
  all_goals simp only [Gx,jG,Xo,V3,KT,List.any_nil,KS,DP,J0,Bool.or_true,reduceIte,Pk,Iu,AZ,and_self, *]
theorem Vb (s:Str) (σ:AF) (hl:s.length≤1000000000):AM Tryz.prog 172 [.d (.str s)] σ (fun v σ'=>v= .d (.bool (L8 s 0).isSome)∧σ'=σ):=by
 refine WK (by simp) ?_
 rw [Bg]
 (repeat (first
   |refine Run.seq ?_
   |refine Run.skip ?_
   |refine Run.block ?_
   |refine Run.blk ?_
   |refine Run.scope ?_
   |refine Run.scp ?_
   |(refine Run.exit rfl ?_)
   |(refine Run.reg mixed ?_;simp -implicitDefEqProofs only [go_sem])
   |(refine Run.AD ?_;simp -implicitDefEqProofs only [go_sem])))
 refine Run.BD ?_
 refine Run.BG ((fun (a0:AV) (a6:AV)=>fun (y:Nat×Int)=>put 0 a0 (put 3 (.d (.int .i64 y.2)) (put 6 a6 (put 7 (.d (.int .i64 y.1)) U)))) _ _) (fun _=>E) (fun _=>σ) (fun y=>y.1≤s.length∧0≤y.2∧y.2≤1000000∧L8 s 0=L8 (s.drop y.1) y.2) (fun y=>s.length - y.1) ?_ (0,0) ⟨by simp,by simp,by simp,rfl⟩
 rintro ⟨i,v⟩ ⟨hi,h0,h1,hs⟩ ih
 simp only at hi h0 h1 hs
 by_cases hlt:i < s.length
 · obtain ⟨x,hx⟩:=BC hlt
   rw [Bb hx,L8] at hs
   have hu:=mN ((x.toNat:Int) - 48)
   have e1:IntKind.i64.wrap (v * 10)=v * 10:=BI (by omega) (by omega)
   have e2:IntKind.i64.wrap (IntKind.u8.wrap ((x.toNat:Int) - 48))=IntKind.u8.wrap ((x.toNat:Int) - 48):=BI (by omega) (by omega)
   have e3:IntKind.i64.wrap (v * 10+IntKind.u8.wrap ((x.toNat:Int) - 48))=v * 10+IntKind.u8.wrap ((x.toNat:Int) - 48):=BI (by omega) (by omega)
   (repeat' (first|refine Run.ct rfl ?_|((first|refine Run.reg mixed ?_|refine Run.AD ?_|refine Run.A1 Lk (AF.le_refl _) ?_)<;>try simp -implicitDefEqProofs only [A8 hlt,Co hx,e1,e2,e3,A6 (show i+1≤9000000000000000000 by omega),go_sem])|(refine ⟨fun h=>?_,fun h=>?_⟩<;>first|(cases h;done)|try simp only [h])|fail))
   · have:v * 10+IntKind.u8.wrap ((x.toNat:Int) - 48)>1000000:=by simpa using h
     rw [hs,if_pos this];rfl
   · have:¬v * 10+IntKind.u8.wrap ((x.toNat:Int) - 48)>1000000:=by simpa using h
     rw [if_neg this] at hs
     exact ih (i+1,_) ⟨hlt,by simp only;omega,by simp only;omega,hs⟩ (by simp only;omega)
 · have hge:i=s.length:=by omega
   (repeat' (first|refine Run.ct rfl ?_|((first|refine Run.reg mixed ?_|refine Run.AD ?_|refine Run.A1 Lk (AF.le_refl _) ?_)<;>try simp -implicitDefEqProofs only [Bd hlt,go_sem])|fail))
   rw [hs,hge,Nj,L8];rfl
end Go.Ab
namespace Go.Ab
open Go.Proofs
def EG (c:Int→Bool) (b:UInt8):Bool:=c b.toNat
theorem EW {c:UInt8→Bool} {s:Str} {i:Nat} (h:∀j b,j < i→s[j]?=some b→c b=true) (hi:i≤s.length) (he:∀b,s[i]?=some b→c b=false):s.takeWhile c=s.take i:=by
 induction i generalizing s with
 |zero=>
  cases s with
  |nil=>rfl
  |cons b r=>simp [he b rfl]
 |succ i ih=>
  cases s with
  |nil=>simp at hi
  |cons b r=>
   have hb:c b=true:=h 0 b (by omega) rfl
   rw [List.takeWhile_cons,hb,if_pos rfl,Pk,ih (fun j b hj hb=>h (j+1) b (by omega) hb) (by simpa using hi) (fun b hb=>he b hb)]
theorem Ni {fid:FuncId} (hb:C0 Tryz.prog fid=true) (c:Int→Bool) (hc:∀n σ,AM Tryz.prog fid [.d (.int .u8 n)] σ (fun v σ'=>v= .d (.bool (c n))∧σ'=σ)) (s:Str) (σ:AF) (hl:s.length≤1000000000):
 AM Tryz.prog 168 [.d (.str s),.fn fid [] []] σ (fun v σ'=>v= .d (.str (s.takeWhile (EG c)))∧σ'=σ):=by
 refine Uo (by simp) ?_
 rw [BY]
 (repeat (first
   |refine Run.seq ?_
   |refine Run.skip ?_
   |refine Run.block ?_
   |refine Run.blk ?_
   |refine Run.scope ?_
   |refine Run.scp ?_
   |(refine Run.exit rfl ?_)
   |(refine Run.reg mixed ?_;simp -implicitDefEqProofs only [go_sem])
   |(refine Run.AD ?_;simp -implicitDefEqProofs only [go_sem])))
 refine Run.BD ?_
 refine Run.BG ((fun (a0:AV) (a1:AV)=>fun (i:Nat)=>put 0 a0 (put 1 a1 (put 5 (.d (.int .i64 i)) U))) _ _) (fun _=>E) (fun _=>σ) (fun i=>i≤s.length∧∀j b,j < i→s[j]?=some b→EG c b=true) (fun i=>s.length - i) ?_ 0 ⟨by simp,by simp⟩
 rintro i ⟨hi,hs⟩ ih
 by_cases hlt:i < s.length
 · obtain ⟨x,hx⟩:=BC hlt
   (repeat' (first|refine Run.ct rfl ?_|((first|refine Run.reg mixed ?_|refine Run.AD ?_|(refine ⟨fid,[],[],rfl,hb,AJ.det (hc _ _) ?_⟩)|refine Run.A1 Kj (AF.le_refl _) ?_)<;>try simp -implicitDefEqProofs only [A8 hlt,Co hx,Xp hi,A6 (show i+1≤9000000000000000000 by omega),go_sem])|(refine ⟨fun h=>?_,fun h=>?_⟩<;>first|(cases h;done)|try simp only [h])|fail))
   · refine ih (i+1) ⟨hlt,fun j b hj hb=>?_⟩ (by omega)
     rcases Br j i with h2|h2
     · exact hs j b h2 hb
     · have:j=i:=by omega
       subst this
       rw [hx] at hb;cases hb;exact h
   · rw [EW hs hi (fun b hb=>by rw [hx] at hb;cases hb;exact h)]
 · have hge:i=s.length:=by omega
   (repeat' (first|refine Run.ct rfl ?_|((first|refine Run.reg mixed ?_|refine Run.AD ?_|refine Run.A1 Kj (AF.le_refl _) ?_)<;>try simp -implicitDefEqProofs only [Bd hlt,Xp hi,go_sem])|fail))
   rw [EW hs hi (fun b hb=>by rw [hge] at hb;simp at hb)]
theorem aN (s:Str) (σ:AF) (hs:s≠[]):AM Tryz.prog 143 [.d (.str s)] σ (fun v σ'=>v= .d (.int .i64 (Gx s))∧σ'=σ):=by
 have hloop:∀(b:UInt8) (r:Str),(Gx (b::r)=Xo b)→Run KR (fun v σ'=>v= .d (.int .i64 (Gx (b::r)))∧σ'=σ) [.again RJ,.blk 0,.code (.seq (.reg [⟨some 2,.mv (.c (.d (.int .i64 0))),none⟩] [2]) .ret)] (put 0 (.d (.str (b::r))) (put 3 (.d (.str V3)) (put 4 (.d (.int .i64 0)) U))) E σ:=by
  intro b r hbr
  refine Run.BG ((fun (a0:AV) (a3:AV)=>fun (i:Nat)=>put 0 a0 (put 3 a3 (put 4 (.d (.int .i64 i)) U))) _ _) (fun _=>E) (fun _=>σ) (fun i=>i≤V3.length∧V3.any (b==·)=(V3.drop i).any (b==·)) (fun i=>V3.length - i) ?_ 0 ⟨by simp,rfl⟩
  rintro i ⟨hi,hs⟩ ih
  have hn:V3.length=13:=rfl
  have h0:(b::r)[0]?=some b:=rfl
  by_cases hlt:i < V3.length
  · obtain ⟨x,hx⟩:=BC hlt
    rw [Bb hx,KT] at hs
    have hz:=Co h0 .i64
    rw [show ((0:Nat):Int)=0 from rfl] at hz
    (repeat' (first|refine Run.ct rfl ?_|((first|refine Run.reg mixed ?_|refine Run.AD ?_|refine Run.A1 MX (AF.le_refl _) ?_)<;>try simp -implicitDefEqProofs only [A8 hlt,Co hx,hz,lP,A6 (show i+1≤9000000000000000000 by omega),go_sem])|(refine ⟨fun h=>?_,fun h=>?_⟩<;>first|(cases h;done)|try simp only [h])|fail))
    · rw [hbr,Xo,hs,h];rfl
    · exact ih (i+1) ⟨hlt,by rw [hs,h];rfl⟩ (by omega)
  · have hge:i=V3.length:=by omega
    (repeat' (first|refine Run.ct rfl ?_|((first|refine Run.reg mixed ?_|refine Run.AD ?_|refine Run.A1 MX (AF.le_refl _) ?_)<;>try simp -implicitDefEqProofs only [Bd hlt,go_sem])|fail))
    rw [hbr,Xo,hs,hge];rfl
 match s,hs with
 |[b],_=>
  refine Wm (by simp) ?_
  rw [Bg]
  (repeat' (first|refine Run.ct rfl ?_|((first|refine Run.reg mixed ?_|refine Run.AD ?_|refine Run.A1 MX (AF.le_refl _) ?_)<;>try simp -implicitDefEqProofs only [mG,go_sem])|fail))
  exact Run.BD (hloop b [] rfl)
 |b::c::r,_=>
  refine Wm (by simp) ?_
  rw [Bg]
  (repeat' (first|refine Run.ct rfl ?_|((first|refine Run.reg mixed ?_|refine Run.AD ?_|refine Run.A1 MX (AF.le_refl _) ?_|(refine FY rfl (fun h=>?_) (fun h=>?_)<;>try (cases h;done)))<;>try simp -implicitDefEqProofs only [mH,mM,go_sem])|(refine ⟨fun h=>?_,fun h=>?_⟩<;>first|(cases h;done)|try simp only [h])|fail))
  all_goals (first|exact Run.BD (hloop b (c::r) (by simp only [Gx,jG, *];rfl))|(simp only [Gx,jG, *];rfl))
end Go.Ab
