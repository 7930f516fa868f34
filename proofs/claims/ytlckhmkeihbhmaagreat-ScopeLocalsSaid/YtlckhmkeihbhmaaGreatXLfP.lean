/- Programs read out of memory. Rules for walks that split and call by themselves. Data types of package api as plain data. Bytes and keywords. Keywords and numbers of the reference. Signs, numbers and prefixes. Prefixes and tokens. Conditions: none. -/
import Derived.Test.YtlckhmkeihbhmaaGreatXAb13
set_option linter.unusedSimpArgs false
set_option linter.unusedVariables false
set_option maxRecDepth 4000
set_option maxHeartbeats 8000000
open List renaming cons_append→Ac,nil_append→Au,append_nil→At,getElem?_map→Ad,take_append_drop→A4,any_cons→IP,length_map→AA,drop_length→Ja,take_succ_cons→Py,take_zero→Iz
open Nat renaming le_refl→A0,reduceEqDiff→E5,lt_or_ge→Bt
open Bool renaming eq_iff_iff→Af,not_eq_true'→Cf,or_false→Gg,false_or→DW,true_or→J8,or_true→MA,false_eq_true→AZ
namespace Go.Ab
open Go.Proofs
theorem Rb {ds:List DV} (h:DT Tryz.prog 38 ds):∃l:List Str,ds=[.sl (l.map Ak)]:=by
 obtain ⟨rows,rfl,_,hr⟩:=h.Oo Tryz.underlying38
 obtain ⟨l,rfl⟩:=IC (f:=Ak) rows (fun r hm=>by
  obtain ⟨s,rfl,_⟩:=(hr r hm).NQ Tryz.underlying9
  exact ⟨s,rfl⟩)
 exact ⟨l,rfl⟩
theorem p6:∀(n:Nat) (ds:List DV),SizeOf.sizeOf ds≤n→DT Tryz.prog 74 ds→∃t:TE,ds=t.enc:=by
 intro n
 induction n with
 |zero=>intro ds h;cases ds<;>simp at h
 |succ n ih=>
  intro ds hn h
  obtain ⟨a,b,rfl,h1,hb⟩:=(h.HY Tryz.underlying74).C8
  obtain ⟨a2,b2,rfl,h2,hb2⟩:=hb.C8
  obtain ⟨a3,b3,rfl,h3,hb3⟩:=hb2.C8
  cases hb3.NP
  obtain ⟨k,rfl,_⟩:=h1.YR Tryz.underlying3
  obtain ⟨m,rfl,_⟩:=h2.NQ Tryz.underlying9
  obtain ⟨rows,rfl,_,hr⟩:=h3.Oo Tryz.underlying70
  obtain ⟨l,rfl⟩:=IC (f:=TE.enc) rows (fun r hm=>ih r (by
   have:=List.sizeOf_lt_of_mem hm
   simp only [Ac,Au,At,List.cons.sizeOf_spec,List.nil.sizeOf_spec,DV.int.sizeOf_spec,DV.str.sizeOf_spec,DV.sl.sizeOf_spec] at hn
   omega) (hr r hm))
  exact ⟨.mk k m l,by rw [TE.A3];rfl⟩
theorem p0:∀(n:Nat) (ds:List DV),SizeOf.sizeOf ds≤n→DT Tryz.prog 42 ds→∃t:Ex,ds=t.enc:=by
 intro n
 induction n with
 |zero=>intro ds h;cases ds<;>simp at h
 |succ n ih=>
  intro ds hn h
  obtain ⟨a,b,rfl,h1,hb⟩:=(h.HY Tryz.underlying42).C8
  obtain ⟨a2,b2,rfl,h2,hb2⟩:=hb.C8
  obtain ⟨a3,b3,rfl,h3,hb3⟩:=hb2.C8
  obtain ⟨a4,b4,rfl,h4,hb4⟩:=hb3.C8
  obtain ⟨a5,b5,rfl,h5,hb5⟩:=hb4.C8
  obtain ⟨a6,b6,rfl,h6,hb6⟩:=hb5.C8
  cases hb6.NP
  obtain ⟨o,rfl,_⟩:=h1.YR Tryz.underlying3
  obtain ⟨m,rfl,_⟩:=h2.NQ Tryz.underlying9
  obtain ⟨u,rfl,_⟩:=h3.YR Tryz.underlying2
  obtain ⟨ns,rfl⟩:=Rb h4
  obtain ⟨rows,rfl,_,hr⟩:=h5.Oo Tryz.underlying39
  obtain ⟨rows2,rfl,_,hr2⟩:=h6.Oo Tryz.underlying40
  simp only [Ac,Au,At,List.cons.sizeOf_spec,List.nil.sizeOf_spec,DV.int.sizeOf_spec,DV.str.sizeOf_spec,DV.sl.sizeOf_spec] at hn
  obtain ⟨l,rfl⟩:=IC (f:=Ex.enc) rows (fun r hm=>ih r (by
   have:=List.sizeOf_lt_of_mem hm
   omega) (hr r hm))
  obtain ⟨l2,rfl⟩:=IC (f:=Al.enc) rows2 (fun r hm=>by
   have hlt:=List.sizeOf_lt_of_mem hm
   obtain ⟨c1,d1,rfl,g1,e1⟩:=((hr2 r hm).HY Tryz.underlying129).C8
   obtain ⟨c2,d2,rfl,g2,e2⟩:=e1.C8
   obtain ⟨c3,d3,rfl,g3,e3⟩:=e2.C8
   cases e3.NP
   obtain ⟨c,rfl,_⟩:=g1.NQ Tryz.underlying9
   obtain ⟨vs,rfl⟩:=Rb g2
   simp only [Ac,Au,At,List.cons.sizeOf_spec,DV.str.sizeOf_spec,DV.sl.sizeOf_spec] at hlt
   obtain ⟨e,rfl⟩:=ih c3 (by omega) g3
   exact ⟨.mk c vs e,by simp [Al.enc,ssD]⟩)
  exact ⟨.mk o m u ns l l2,by rw [Ex.A3];rfl⟩
theorem pY (ds:List DV) (h:DT Tryz.prog 72 ds):∃c:CE,ds=c.enc:=by
 obtain ⟨a,b,rfl,h1,hb⟩:=(h.HY Tryz.underlying72).C8
 obtain ⟨a2,b2,rfl,h2,hb2⟩:=hb.C8
 cases hb2.NP
 obtain ⟨s,rfl,_⟩:=h1.NQ Tryz.underlying9
 obtain ⟨rows,rfl,_,hr⟩:=h2.Oo Tryz.underlying70
 obtain ⟨l,rfl⟩:=IC (f:=TE.enc) rows (fun r hm=>p6 _ r (A0 _) (hr r hm))
 exact ⟨⟨s,l⟩,rfl⟩
theorem pZ (ds:List DV) (h:DT Tryz.prog 68 ds):∃c:DE,ds=c.enc:=by
 obtain ⟨a,b,rfl,h1,hb⟩:=(h.HY Tryz.underlying68).C8
 obtain ⟨a2,b2,rfl,h2,hb2⟩:=hb.C8
 obtain ⟨a3,b3,rfl,h3,hb3⟩:=hb2.C8
 cases hb3.NP
 obtain ⟨s,rfl,_⟩:=h1.NQ Tryz.underlying9
 obtain ⟨vs,rfl⟩:=Rb h2
 obtain ⟨rows,rfl,_,hr⟩:=h3.Oo Tryz.underlying66
 obtain ⟨l,rfl⟩:=IC (f:=CE.enc) rows (fun r hm=>pY r (hr r hm))
 exact ⟨⟨s,vs,l⟩,rfl⟩
theorem p4 (ds:List DV) (h:DT Tryz.prog 44 ds):∃c:FE,ds=c.enc:=by
 obtain ⟨a,b,rfl,h1,hb⟩:=(h.HY Tryz.underlying44).C8
 obtain ⟨a2,b2,rfl,h2,hb2⟩:=hb.C8
 obtain ⟨a3,b3,rfl,h3,hb3⟩:=hb2.C8
 cases hb3.NP
 obtain ⟨s,rfl,_⟩:=h1.NQ Tryz.underlying9
 obtain ⟨vs,rfl⟩:=Rb h2
 obtain ⟨e,rfl⟩:=p0 _ a3 (A0 _) h3
 exact ⟨⟨s,vs,e⟩,by simp [FE.enc]⟩
theorem p5 (ds:List DV) (h:DT Tryz.prog 25 ds):∃p:Pg,ds=p.enc:=by
 obtain ⟨a,b,rfl,h1,hb⟩:=(h.HY Tryz.underlying25).C8
 obtain ⟨a2,b2,rfl,h2,hb2⟩:=hb.C8
 cases hb2.NP
 obtain ⟨rows,rfl,_,hr⟩:=h1.Oo Tryz.underlying22
 obtain ⟨l,rfl⟩:=IC (f:=DE.enc) rows (fun r hm=>pZ r (hr r hm))
 obtain ⟨rows2,rfl,_,hr2⟩:=h2.Oo Tryz.underlying23
 obtain ⟨l2,rfl⟩:=IC (f:=FE.enc) rows2 (fun r hm=>p4 r (hr2 r hm))
 exact ⟨⟨l,l2⟩,rfl⟩
theorem m4 {av:List AV} (h:TG Tryz.prog [25] av):∃p:Pg,av=[pgA p]:=by
 cases h with
 |cons h1 h=>
  cases h
  obtain ⟨p,rfl⟩:=p5 _ h1
  exact ⟨p,by rw [TI Tryz.underlying25];rfl⟩
end Go.Ab
namespace Go.Ab
open Go.RowKit
variable {P:Program} {K:C0} {F:Fm} {L:Lm} {σ:AF}
theorem Zm {s:Nat} {v:AV} (h:F s=v):put s v F=F:=by
 funext t
 simp only [put]
 split
 · rename_i e;rw [← h];first|(subst e;rfl)|(rw [e])
 · rfl
theorem BO {d:Option Nat} {o:O} {s:Nat} {want b:Bool} {r:List Q} (hF:F s= .d (.bool b))
 (h1:b=true→BU P K (⟨d,o,some (s,want)⟩::r) (put s (.d (.bool true)) F) L σ) (h2:b=false→BU P K (⟨d,o,some (s,want)⟩::r) (put s (.d (.bool false)) F) L σ):
 BU P K (⟨d,o,some (s,want)⟩::r) F L σ:=by
 cases b
 · have:=h2 rfl;rw [Zm hF] at this;exact this
 · have:=h1 rfl;rw [Zm hF] at this;exact this
theorem AI.det {d:Option Nat} {f:FuncId} {args:List AV} {v:AV} (h:AK P f args σ (fun v' σ'=>v'=v∧σ'=σ)) (hk:K (Av d v F) L σ) (hn:args.all AV.BF=true:=by rfl):AI P f args d K F L σ:=
 AI.mk hn h (fun v' σ' ⟨e1,e2⟩=>by subst e1;subst e2;exact hk)
theorem wrap_add {a b:Nat} (h:a+b≤9000000000000000000):IntKind.i64.wrap ((a:Int)+(b:Int))=((a+b:Nat):Int):=by
 rw [As (by omega) (by omega)];omega
theorem A7 {a:Nat} (h:a+1≤9000000000000000000):IntKind.i64.wrap ((a:Int)+1)=((a+1:Nat):Int):=by
 rw [As (by omega) (by omega)];omega
theorem A8 {i n:Nat} (h:i < n):decide ((i:Int) < (n:Int))=true:=by simp [h]
theorem B8 {i n:Nat} (h:¬i < n):decide ((i:Int) < (n:Int))=false:=by simp;omega
theorem Cr {s:List UInt8} {i:Nat} {b:UInt8} (h:s[i]?=some b) (k:IntKind):WG (.d (.str s)) (.d (.int k (i:Int)))=some (.d (.int .u8 b.toNat)):=by
 simp [WG,h]
theorem Yo {s:List UInt8} {n:Nat} (h:n≤s.length):PF (.d (.str s)) none (some (.d (.int .i64 (n:Int))))=some (.d (.str (s.take n))):=by
 simp [PF,SF,Oq,h]
theorem dQ {s:List UInt8} {n:Nat} (h:n≤s.length):PF (.d (.str s)) (some (.d (.int .i64 (n:Int)))) none=some (.d (.str (s.drop n))):=by
 simp [PF,SF,Oq,h]
theorem mF {s:List UInt8} {n m:Nat} (h:n≤m) (h2:m≤s.length):PF (.d (.str s)) (some (.d (.int .i64 (n:Int)))) (some (.d (.int .i64 (m:Int))))=some (.d (.str ((s.take m).drop n))):=by
 simp [PF,SF,Oq,h,h2]
theorem pL {b c:UInt8} {s:List UInt8}:PF (.d (.str (b::c::s))) none (some (.d (.int .i64 2)))=some (.d (.str [b,c])):=by
 rw [show (2:Int)=((2:Nat):Int) from rfl,Yo (by simp)];rfl
theorem pK {b:UInt8} {s:List UInt8}:PF (.d (.str (b::s))) none (some (.d (.int .i64 1)))=some (.d (.str [b])):=by
 rw [show (1:Int)=((1:Nat):Int) from rfl,Yo (by simp)];rfl
theorem oP (b x:UInt8):((b.toNat:Int)==(x.toNat:Int))=(b==x):=by
 rw [Af];simp only [beq_iff_eq,Int.natCast_inj,UInt8.toNat_inj]
theorem Run.Ma {cx:Cx} {KK:AV→AF→Prop} {k:List CI} (ks:List Nat) (h:Run cx KK k (M4 ks F) (I6 ks L) σ):Run cx KK k F L σ:=
 fun items base g lam Pr a w0 w b cs hi hf hb hk=>h items base g lam Pr a w0 w b cs hi (hf.kept ks) hb hk
def ctl (bl:Bool):List CI→Option (List CI)
 | .code .skip::k=>some k
 | .code (.seq x y)::k=>some (.code x::.code y::k)
 | .code (.block i c)::k=>if bl then some (.code c::.blk i::k) else none
 | .code (.scope c)::k=>some (.code c::.scp::k)
 | .blk _::k=>some k
 | .scp::k=>some k
 | .code (.exit i)::k=>Rc i k
 |_=>none
theorem Run.ctB {cx:Cx} {KK:AV→AF→Prop} (bl:Bool) {k k':List CI} (e:ctl bl k=some k') (h:Run cx KK k' F L σ):Run cx KK k F L σ:=by
 unfold ctl at e
 split at e
 · cases e;exact Run.skip h
 · cases e;exact Run.seq h
 · split at e
   · cases e;exact Run.block h
   · cases e
 · cases e;exact Run.scope h
 · cases e;exact Run.blk h
 · cases e;exact Run.scp h
 · exact Run.exit e h
 · cases e
theorem Run.ct {cx:Cx} {KK:AV→AF→Prop} {k k':List CI} (e:ctl true k=some k') (h:Run cx KK k' F L σ):Run cx KK k F L σ:=Run.ctB true e h
theorem Run.cb {cx:Cx} {KK:AV→AF→Prop} {k k':List CI} (e:ctl false k=some k') (h:Run cx KK k' F L σ):Run cx KK k F L σ:=Run.ctB false e h
attribute [go_sem] E5 Nat.reduceBEq Nat.reduceAdd Nat.reduceLeDiff reduceIte reduceCtorEq
attribute [go_sem] XV sU tyA Ty.enc Ty.Jg eq_self Cf Bool.not_eq_false'
end Go.Ab
namespace Go.Ab
structure Con where
 name:List UInt8
 args:List Ty
structure Dat where
 name:List UInt8
 vars:Int
 cons:List Con
def Con.enc (c:Con):List DV:=[.str c.name,.sl (Ty.Jg c.args)]
def Dat.enc (d:Dat):List DV:=[.str d.name,.int .i64 d.vars,.sl (d.cons.map Con.enc)]
def dsA (l:List Dat):AV:= .d (.sl (l.map Dat.enc))
theorem ND {l:List Con} {i:Nat} {x:Con} (h:l[i]?=some x):(l.map Con.enc)[i]?=some [.str x.name,.sl (Ty.Jg x.args)]:=by
 rw [Ad,h];rfl
theorem NH {l:List Dat} {i:Nat} {x:Dat} (h:l[i]?=some x):(l.map Dat.enc)[i]?=some [.str x.name,.int .i64 x.vars,.sl (x.cons.map Con.enc)]:=by
 rw [Ad,h];rfl
theorem G7 (l:List Ty) (i:Nat):Ty.A2 (l.take i)≤Ty.A2 l:=by
 have:=CC (l.take i) (l.drop i)
 rw [A4] at this;omega
theorem Ir {a:Nat} (h:a≤9000000000000000000):IntKind.i64.wrap (((a+1:Nat):Int) - 1)=(a:Int):=by
 rw [As (by omega) (by omega)];omega
theorem Run.nP {cx:Cx} {KK:AV→AF→Prop} {k:List CI} {F:Fm} {L:Lm} {σ σ':AF} (e:σ'=σ) (h:Run cx KK k F L σ'):Run cx KK k F L σ:=e ▸ h
theorem Run.cU {cx:Cx} {KK:AV→AF→Prop} {k:List CI} {c:C} {F:Fm} {L:Lm} {σ:AF} {α:Type} (ks:List Nat) (Fs:α→Fm) (Ls:Lm) (σs:AF) (I:α→Prop) (h2:∀a,I a→Run cx KK k (Fs a) Ls σs)
 (h1:(∀(F':Fm) (L':Lm) (a:α),M4 ks F'=Fs a→I6 ks L'=Ls→I a→Run cx KK k F' L' σs)→Run cx KK (.code c::k) F L σ):Run cx KK (.code c::k) F L σ:=
 h1 fun F' L' a hF hL hI=>Run.Ma ks (by rw [hF,hL];exact h2 a hI)
theorem jT {σ:AF} {i:Nat} {z:List AV} {x:Nat×TypeId} (h:σ.blk i=none∧σ.bt i=none):σ.le ((σ.AQ i z).DO i x)∧((σ.AQ i z).DO i x).blk i=some z:=
 ⟨⟨fun j cs hj=>by
    have hne:j≠i:=fun e=>by rw [e,h.1] at hj;cases hj
    simp [AF.DO,AF.AQ,hne,hj],fun _ h=>h,rfl,fun j y hj=>by
    have hne:j≠i:=fun e=>by rw [e,h.2] at hj;cases hj
    simp [AF.DO,AF.AQ,hne,hj]⟩,by simp [AF.DO,AF.AQ]⟩
theorem Dc {σ σ1:AF} {i:Nat} {cs:List AV} (h:σ.le σ1) (hn:σ.blk i=none):σ.le (σ1.AQ i cs):=
 ⟨fun j ds hj=>by
   have hne:j≠i:=fun e=>by rw [e,hn] at hj;cases hj
   rw [AP,if_neg hne];exact h.blk j ds hj,h.tok,h.gt,h.bt⟩
theorem BS (a b:List UInt8):aL .eql a b=some (.d (.bool (a==b))):=rfl
theorem C4 (a b:List UInt8):aL .neq a b=some (.d (.bool (!(a==b)))):=rfl
theorem gtN (n k:Nat):decide ((k:Int) < (n:Int))=!decide (n≤k):=by
 rw [Af];simp
theorem leN (n k:Nat):decide ((n:Int)≤(k:Int))=decide (n≤k):=decide_eq_decide.2 (by omega)
theorem ltN (n k:Nat):decide ((n:Int) < (k:Int))=decide (n < k):=decide_eq_decide.2 (by omega)
theorem rW (n k:Nat):((n:Int)==(k:Int))=(n==k):=by
 rw [Af];simp only [beq_iff_eq];omega
theorem Ta (a b:Nat):((a:Int) != (b:Int))=(a != b):=by
 rw [Af];simp;omega
theorem CA {a b:Int} (h:a≠b):(a==b)=false:=by simpa using h
end Go.Ab
namespace Go.Ab
open Go.Proofs
def Sc (n:Int):Bool:=decide (97≤n)&&decide (n≤122)
def SA (n:Int):Bool:=decide (65≤n)&&decide (n≤90)
def Ho (n:Int):Bool:=decide (48≤n)&&decide (n≤57)
def H2 (n:Int):Bool:=Sc n||SA n||Ho n||(n==95)
def Xx (n:Int):Bool:=(n==9)||(n==10)||(n==13)||(n==32)
theorem PH (n:Int) (σ:AF):AK Tryz.prog 166 [.d (.int .u8 n)] σ (fun v σ'=>v= .d (.bool (Sc n))∧σ'=σ):=by
 refine Wm (by simp) ?_
 rw [Bf]
 (repeat' (first|refine Run.ct rfl ?_|((first|refine Run.reg mixed ?_|refine Run.AD ?_|refine Run.A1 QS (AF.le_refl _) ?_|(refine BO rfl (fun h=>?_) (fun h=>?_)<;>try (cases h;done)))<;>try simp -implicitDefEqProofs only [go_sem])|fail))
 all_goals (simp_all [Sc];try omega)
theorem PI (n:Int) (σ:AF):AK Tryz.prog 167 [.d (.int .u8 n)] σ (fun v σ'=>v= .d (.bool (SA n))∧σ'=σ):=by
 refine Wo (by simp) ?_
 rw [Bf]
 (repeat' (first|refine Run.ct rfl ?_|((first|refine Run.reg mixed ?_|refine Run.AD ?_|refine Run.A1 QU (AF.le_refl _) ?_|(refine BO rfl (fun h=>?_) (fun h=>?_)<;>try (cases h;done)))<;>try simp -implicitDefEqProofs only [go_sem])|fail))
 all_goals (simp_all [SA];try omega)
theorem Ky (n:Int) (σ:AF):AK Tryz.prog 171 [.d (.int .u8 n)] σ (fun v σ'=>v= .d (.bool (Ho n))∧σ'=σ):=by
 refine Wl (by simp) ?_
 rw [Bf]
 (repeat' (first|refine Run.ct rfl ?_|((first|refine Run.reg mixed ?_|refine Run.AD ?_|refine Run.A1 QR (AF.le_refl _) ?_|(refine BO rfl (fun h=>?_) (fun h=>?_)<;>try (cases h;done)))<;>try simp -implicitDefEqProofs only [go_sem])|fail))
 all_goals (simp_all [Ho];try omega)
theorem Ha (n:Int) (σ:AF):AK Tryz.prog 138 [.d (.int .u8 n)] σ (fun v σ'=>v= .d (.bool (Sc n))∧σ'=σ):=by
 refine cE (by simp) ?_
 rw [Bf]
 (repeat' (first|refine Run.ct rfl ?_|((first|refine Run.reg mixed ?_|refine Run.AD ?_|refine Run.A1 VI (AF.le_refl _) ?_|(refine BO rfl (fun h=>?_) (fun h=>?_)<;>try (cases h;done)))<;>try simp -implicitDefEqProofs only [go_sem])|fail))
 all_goals (simp_all [Sc];try omega)
theorem Hb (n:Int) (σ:AF):AK Tryz.prog 139 [.d (.int .u8 n)] σ (fun v σ'=>v= .d (.bool (SA n))∧σ'=σ):=by
 refine cF (by simp) ?_
 rw [Bf]
 (repeat' (first|refine Run.ct rfl ?_|((first|refine Run.reg mixed ?_|refine Run.AD ?_|refine Run.A1 VJ (AF.le_refl _) ?_|(refine BO rfl (fun h=>?_) (fun h=>?_)<;>try (cases h;done)))<;>try simp -implicitDefEqProofs only [go_sem])|fail))
 all_goals (simp_all [SA];try omega)
theorem G5 (n:Int) (σ:AF):AK Tryz.prog 140 [.d (.int .u8 n)] σ (fun v σ'=>v= .d (.bool (Ho n))∧σ'=σ):=by
 refine cD (by simp) ?_
 rw [Bf]
 (repeat' (first|refine Run.ct rfl ?_|((first|refine Run.reg mixed ?_|refine Run.AD ?_|refine Run.A1 VH (AF.le_refl _) ?_|(refine BO rfl (fun h=>?_) (fun h=>?_)<;>try (cases h;done)))<;>try simp -implicitDefEqProofs only [go_sem])|fail))
 all_goals (simp_all [Ho];try omega)
theorem II (n:Int) (σ:AF):AK Tryz.prog 162 [.d (.int .u8 n)] σ (fun v σ'=>v= .d (.bool (Xx n))∧σ'=σ):=by
 refine Wk (by simp) ?_
 rw [Bf]
 (repeat' (first|refine Run.ct rfl ?_|((first|refine Run.reg mixed ?_|refine Run.AD ?_|refine Run.A1 QQ (AF.le_refl _) ?_|(refine BO rfl (fun h=>?_) (fun h=>?_)<;>try (cases h;done)))<;>try simp -implicitDefEqProofs only [go_sem])|fail))
 all_goals simp_all [Xx]
theorem UK (n:Int) (σ:AF):AK Tryz.prog 169 [.d (.int .u8 n)] σ (fun v σ'=>v= .d (.bool (H2 n))∧σ'=σ):=by
 refine VT (by simp) ?_
 rw [Bf]
 (repeat' (first|refine Run.ct rfl ?_|((first|refine Run.reg mixed ?_|refine Run.AD ?_|refine Run.A1 Od (AF.le_refl _) ?_|refine AI.det (PH _ _) ?_|refine AI.det (PI _ _) ?_|refine AI.det (Ky _ _) ?_|(refine BO rfl (fun h=>?_) (fun h=>?_)<;>try (cases h;done)))<;>try simp -implicitDefEqProofs only [go_sem])|fail))
 all_goals simp_all [H2]
def HB:List Str:=[[97,114,114,97,121],[98,111,111,108],[99,97,116,99,104],[100,97,116,97],[101,108,115,101],[101,110,100],[102,97,108,115,101],[102,110],[102,117,110],[103,101,116],[105,102],[105,110],[105,110,116],[108,101,110],[108,101,116],[109,97,116,99,104],[110,101,119],[114,97,105,115,101],[114,101,97,100],[114,101,102],[115,101,116],[116,104,101,110],[116,105,99,107],[116,114,117,101],[116,114,121],[117,110,105,116],[119,105,116,104],[119,114,105,116,101]]
def YY (s:Str):Bool:=HB.any (s==·)
set_option maxHeartbeats 4000000 in
theorem TB (s:Str) (σ:AF):AK Tryz.prog 170 [.d (.str s)] σ (fun v σ'=>v= .d (.bool (YY s))∧σ'=σ):=by
 refine Tp (by simp) ?_
 rw [Bf]
 (repeat' (first|refine Run.ct rfl ?_|((first|refine Run.reg mixed ?_|refine Run.AD ?_|refine Run.A1 Np (AF.le_refl _) ?_)<;>try simp -implicitDefEqProofs only [go_sem])|(refine ⟨fun h=>?_,fun h=>?_⟩<;>first|(cases h;done)|try simp only [h])|fail))
 all_goals simp only [YY,HB,IP,List.any_nil,Gg,DW,J8,MA,and_self, *]
end Go.Ab
namespace Go.Ab
open Go.Proofs
theorem Wt (s:Str) (σ:AF):AK Tryz.prog 141 [.d (.str s)] σ (fun v σ'=>v= .d (.bool (YY s))∧σ'=σ):=by
 refine YL (by simp) ?_
 rw [Bf]
 (repeat (first
   |refine Run.seq ?_
   |refine Run.skip ?_
   |refine Run.block ?_
   |refine Run.blk ?_
   |refine Run.scope ?_
   |refine Run.scp ?_
   |(refine Run.exit rfl ?_)
   |(refine Run.reg mixed ?_;simp -implicitDefEqProofs only [go_sem])
   |(refine Run.AD ?_;simp -implicitDefEqProofs only [go_sem])))
 refine Run.Ay ?_
 refine Run.BB ((fun (a0:AV)=>fun (i:Nat)=>put 0 a0 (put 3 (.d (.sl (HB.map Ak))) (put 4 (.d (.int .i64 i)) U))) _) (fun _=>E) (fun _=>σ) (fun i=>i≤HB.length∧YY s=(HB.drop i).any (s==·)) (fun i=>HB.length - i) ?_ 0 ⟨by omega,rfl⟩
 rintro i ⟨hi,hs⟩ ih
 by_cases hlt:i < HB.length
 · obtain ⟨x,hx⟩:=Aw hlt
   have he:=Aq (enc:=Ak) hx
   rw [Bc hx,IP] at hs
   (repeat' (first|refine Run.ct rfl ?_|((first|refine Run.reg mixed ?_|refine Run.AD ?_|refine Run.A1 NL (AF.le_refl _) ?_)<;>try simp -implicitDefEqProofs only [AA,A8 hlt,he,Ak,A7 (show i+1≤9000000000000000000 by have:HB.length=28:=rfl;omega),go_sem])|(refine ⟨fun h=>?_,fun h=>?_⟩<;>first|(cases h;done)|try simp only [h])|fail))
   · rw [hs];simp_all
   · refine ih (i+1) ⟨hlt,?_⟩ (by omega)
     rw [hs,show (s==x)=(x==s) from BEq.comm,h,DW]
 · have hge:i=HB.length:=by omega
   (repeat' (first|refine Run.ct rfl ?_|((first|refine Run.reg mixed ?_|refine Run.AD ?_|refine Run.A1 NL (AF.le_refl _) ?_)<;>try simp -implicitDefEqProofs only [AA,B8 hlt,go_sem])|fail))
   rw [hs,hge];rfl
def Lc:Str→Int→Option Int
 |[],v=>some v
 |b::r,v=>if v * 10+IntKind.u8.wrap ((b.toNat:Int) - 48)>1000000 then none else Lc r (v * 10+IntKind.u8.wrap ((b.toNat:Int) - 48))
theorem pM (a:Int):0≤IntKind.u8.wrap a∧IntKind.u8.wrap a≤255:=by
 have h1:IntKind.u8.wrap a=a % 256:=by rfl
 rw [h1];omega
theorem Zo (s:Str) (σ:AF) (hl:s.length≤1000000000):AK Tryz.prog 142 [.d (.str s)] σ (fun v σ'=>v=(match Lc s 0 with|some n=>.tup [.d (.int .i64 n),.d (.bool true)]|none=>.tup [.d (.int .i64 0),.d (.bool false)])∧σ'=σ):=by
 refine cC (by simp) ?_
 rw [Bf]
 (repeat (first
   |refine Run.seq ?_
   |refine Run.skip ?_
   |refine Run.block ?_
   |refine Run.blk ?_
   |refine Run.scope ?_
   |refine Run.scp ?_
   |(refine Run.exit rfl ?_)
   |(refine Run.reg mixed ?_;simp -implicitDefEqProofs only [go_sem])
   |(refine Run.AD ?_;simp -implicitDefEqProofs only [go_sem])))
 refine Run.Ay ?_
 refine Run.BB ((fun (a0:AV)=>fun (y:Nat×Int)=>put 0 a0 (put 4 (.d (.int .i64 y.2)) (put 5 (.d (.int .i64 y.1)) U))) _) (fun _=>E) (fun _=>σ) (fun y=>y.1≤s.length∧0≤y.2∧y.2≤1000000∧Lc s 0=Lc (s.drop y.1) y.2) (fun y=>s.length - y.1) ?_ (0,0) ⟨by simp,by simp,by simp,rfl⟩
 rintro ⟨i,v⟩ ⟨hi,h0,h1,hs⟩ ih
 simp only at hi h0 h1 hs
 by_cases hlt:i < s.length
 · obtain ⟨x,hx⟩:=Aw hlt
   rw [Bc hx,Lc] at hs
   have hu:=pM ((x.toNat:Int) - 48)
   have e1:IntKind.i64.wrap (v * 10)=v * 10:=As (by omega) (by omega)
   have e2:IntKind.i64.wrap (IntKind.u8.wrap ((x.toNat:Int) - 48))=IntKind.u8.wrap ((x.toNat:Int) - 48):=As (by omega) (by omega)
   have e3:IntKind.i64.wrap (v * 10+IntKind.u8.wrap ((x.toNat:Int) - 48))=v * 10+IntKind.u8.wrap ((x.toNat:Int) - 48):=As (by omega) (by omega)
   (repeat' (first|refine Run.ct rfl ?_|((first|refine Run.reg mixed ?_|refine Run.AD ?_|refine Run.A1 Qg (AF.le_refl _) ?_)<;>try simp -implicitDefEqProofs only [A8 hlt,Cr hx,e1,e2,e3,A7 (show i+1≤9000000000000000000 by omega),go_sem])|(refine ⟨fun h=>?_,fun h=>?_⟩<;>first|(cases h;done)|try simp only [h])|fail))
   · have:v * 10+IntKind.u8.wrap ((x.toNat:Int) - 48)>1000000:=by simpa using h
     rw [hs,if_pos this]
   · have:¬v * 10+IntKind.u8.wrap ((x.toNat:Int) - 48)>1000000:=by simpa using h
     rw [if_neg this] at hs
     exact ih (i+1,_) ⟨hlt,by simp only;omega,by simp only;omega,hs⟩ (by simp only;omega)
 · have hge:i=s.length:=by omega
   (repeat' (first|refine Run.ct rfl ?_|((first|refine Run.reg mixed ?_|refine Run.AD ?_|refine Run.A1 Qg (AF.le_refl _) ?_)<;>try simp -implicitDefEqProofs only [B8 hlt,go_sem])|fail))
   rw [hs,hge,Ja,Lc]
end Go.Ab
namespace Go.Ab
open Go.Proofs
def WD:Str:=[40,41,44,61,124,43,45,42,47,37,60,59,95]
def Ym (b:UInt8):Nat:=if WD.any (b==·) then 1 else 0
def mB (b c:UInt8):Bool:=([b,c]==[45,62])||([b,c]==[60,61])||([b,c]==[61,61])
def HE:Str→Nat
 |[]=>0
 |[b]=>Ym b
 |b::c::_=>if mB b c then 2 else Ym b
theorem pF:decide ((2:Int)≤((1:Nat):Int))=false:=rfl
theorem pG (n:Nat):decide ((2:Int)≤((n+1+1:Nat):Int))=true:=by simp;omega
theorem rV (b c:UInt8):([b]==[c])=(b==c):=by
 rw [Af];simp
set_option maxHeartbeats 4000000 in
theorem XF (s:Str) (σ:AF) (hs:s≠[]):AK Tryz.prog 173 [.d (.str s)] σ (fun v σ'=>v= .d (.str (s.take (HE s)))∧σ'=σ):=by
 match s,hs with
 |[b],_=>
  refine Rj (by simp) ?_
  rw [Bf]
  (repeat' (first|refine Run.ct rfl ?_|((first|refine Run.reg mixed ?_|refine Run.AD ?_|refine Run.A1 NM (AF.le_refl _) ?_)<;>try simp -implicitDefEqProofs only [pF,pK,rV,go_sem])|(refine ⟨fun h=>?_,fun h=>?_⟩<;>first|(cases h;done)|try simp only [h])|fail))
  all_goals simp only [HE,Ym,WD,IP,List.any_nil,Gg,DW,J8,MA,reduceIte,Py,Iz,AZ,and_self, *]
 |b::c::r,_=>
  refine Rj (by simp) ?_
  rw [Bf]
  (repeat' (first|refine Run.ct rfl ?_|((first|refine Run.reg mixed ?_|refine Run.AD ?_|refine Run.A1 NM (AF.le_refl _) ?_)<;>try simp -implicitDefEqProofs only [pG,pK,pL,rV,go_sem])|(refine ⟨fun h=>?_,fun h=>?_⟩<;>first|(cases h;done)|try simp only [h])|fail))
  all_goals simp only [HE,mB,Ym,WD,IP,List.any_nil,Gg,DW,J8,MA,reduceIte,Py,Iz,AZ,and_self, *]
theorem WN (s:Str) (σ:AF) (hl:s.length≤1000000000):AK Tryz.prog 172 [.d (.str s)] σ (fun v σ'=>v= .d (.bool (Lc s 0).isSome)∧σ'=σ):=by
 refine Wn (by simp) ?_
 rw [Bf]
 (repeat (first
   |refine Run.seq ?_
   |refine Run.skip ?_
   |refine Run.block ?_
   |refine Run.blk ?_
   |refine Run.scope ?_
   |refine Run.scp ?_
   |(refine Run.exit rfl ?_)
   |(refine Run.reg mixed ?_;simp -implicitDefEqProofs only [go_sem])
   |(refine Run.AD ?_;simp -implicitDefEqProofs only [go_sem])))
 refine Run.Ay ?_
 refine Run.BB ((fun (a0:AV) (a6:AV)=>fun (y:Nat×Int)=>put 0 a0 (put 3 (.d (.int .i64 y.2)) (put 6 a6 (put 7 (.d (.int .i64 y.1)) U)))) _ _) (fun _=>E) (fun _=>σ) (fun y=>y.1≤s.length∧0≤y.2∧y.2≤1000000∧Lc s 0=Lc (s.drop y.1) y.2) (fun y=>s.length - y.1) ?_ (0,0) ⟨by simp,by simp,by simp,rfl⟩
 rintro ⟨i,v⟩ ⟨hi,h0,h1,hs⟩ ih
 simp only at hi h0 h1 hs
 by_cases hlt:i < s.length
 · obtain ⟨x,hx⟩:=Aw hlt
   rw [Bc hx,Lc] at hs
   have hu:=pM ((x.toNat:Int) - 48)
   have e1:IntKind.i64.wrap (v * 10)=v * 10:=As (by omega) (by omega)
   have e2:IntKind.i64.wrap (IntKind.u8.wrap ((x.toNat:Int) - 48))=IntKind.u8.wrap ((x.toNat:Int) - 48):=As (by omega) (by omega)
   have e3:IntKind.i64.wrap (v * 10+IntKind.u8.wrap ((x.toNat:Int) - 48))=v * 10+IntKind.u8.wrap ((x.toNat:Int) - 48):=As (by omega) (by omega)
   (repeat' (first|refine Run.ct rfl ?_|((first|refine Run.reg mixed ?_|refine Run.AD ?_|refine Run.A1 Ln (AF.le_refl _) ?_)<;>try simp -implicitDefEqProofs only [A8 hlt,Cr hx,e1,e2,e3,A7 (show i+1≤9000000000000000000 by omega),go_sem])|(refine ⟨fun h=>?_,fun h=>?_⟩<;>first|(cases h;done)|try simp only [h])|fail))
   · have:v * 10+IntKind.u8.wrap ((x.toNat:Int) - 48)>1000000:=by simpa using h
     rw [hs,if_pos this];rfl
   · have:¬v * 10+IntKind.u8.wrap ((x.toNat:Int) - 48)>1000000:=by simpa using h
     rw [if_neg this] at hs
     exact ih (i+1,_) ⟨hlt,by simp only;omega,by simp only;omega,hs⟩ (by simp only;omega)
 · have hge:i=s.length:=by omega
   (repeat' (first|refine Run.ct rfl ?_|((first|refine Run.reg mixed ?_|refine Run.AD ?_|refine Run.A1 Ln (AF.le_refl _) ?_)<;>try simp -implicitDefEqProofs only [B8 hlt,go_sem])|fail))
   rw [hs,hge,Ja,Lc];rfl
end Go.Ab
namespace Go.Ab
open Go.Proofs
def EE (c:Int→Bool) (b:UInt8):Bool:=c b.toNat
theorem EX {c:UInt8→Bool} {s:Str} {i:Nat} (h:∀j b,j < i→s[j]?=some b→c b=true) (hi:i≤s.length) (he:∀b,s[i]?=some b→c b=false):s.takeWhile c=s.take i:=by
 induction i generalizing s with
 |zero=>
  cases s with
  |nil=>rfl
  |cons b r=>simp [he b rfl]
 |succ i ih=>
  cases s with
  |nil=>simp at hi
  |cons b r=>
   have hb:c b=true:=h 0 b (by omega) rfl
   rw [List.takeWhile_cons,hb,if_pos rfl,Py,ih (fun j b hj hb=>h (j+1) b (by omega) hb) (by simpa using hi) (fun b hb=>he b hb)]
theorem Ns {fid:FuncId} (hb:C7 Tryz.prog fid=true) (c:Int→Bool) (hc:∀n σ,AK Tryz.prog fid [.d (.int .u8 n)] σ (fun v σ'=>v= .d (.bool (c n))∧σ'=σ)) (s:Str) (σ:AF) (hl:s.length≤1000000000):
 AK Tryz.prog 168 [.d (.str s),.fn fid [] []] σ (fun v σ'=>v= .d (.str (s.takeWhile (EE c)))∧σ'=σ):=by
 refine VS (by simp) ?_
 rw [BR]
 (repeat (first
   |refine Run.seq ?_
   |refine Run.skip ?_
   |refine Run.block ?_
   |refine Run.blk ?_
   |refine Run.scope ?_
   |refine Run.scp ?_
   |(refine Run.exit rfl ?_)
   |(refine Run.reg mixed ?_;simp -implicitDefEqProofs only [go_sem])
   |(refine Run.AD ?_;simp -implicitDefEqProofs only [go_sem])))
 refine Run.Ay ?_
 refine Run.BB ((fun (a0:AV) (a1:AV)=>fun (i:Nat)=>put 0 a0 (put 1 a1 (put 5 (.d (.int .i64 i)) U))) _ _) (fun _=>E) (fun _=>σ) (fun i=>i≤s.length∧∀j b,j < i→s[j]?=some b→EE c b=true) (fun i=>s.length - i) ?_ 0 ⟨by simp,by simp⟩
 rintro i ⟨hi,hs⟩ ih
 by_cases hlt:i < s.length
 · obtain ⟨x,hx⟩:=Aw hlt
   (repeat' (first|refine Run.ct rfl ?_|((first|refine Run.reg mixed ?_|refine Run.AD ?_|(refine ⟨fid,[],[],rfl,hb,AI.det (hc _ _) ?_⟩)|refine Run.A1 Kn (AF.le_refl _) ?_)<;>try simp -implicitDefEqProofs only [A8 hlt,Cr hx,Yo hi,A7 (show i+1≤9000000000000000000 by omega),go_sem])|(refine ⟨fun h=>?_,fun h=>?_⟩<;>first|(cases h;done)|try simp only [h])|fail))
   · refine ih (i+1) ⟨hlt,fun j b hj hb=>?_⟩ (by omega)
     rcases Bt j i with h2|h2
     · exact hs j b h2 hb
     · have:j=i:=by omega
       subst this
       rw [hx] at hb;cases hb;exact h
   · rw [EX hs hi (fun b hb=>by rw [hx] at hb;cases hb;exact h)]
 · have hge:i=s.length:=by omega
   (repeat' (first|refine Run.ct rfl ?_|((first|refine Run.reg mixed ?_|refine Run.AD ?_|refine Run.A1 Kn (AF.le_refl _) ?_)<;>try simp -implicitDefEqProofs only [B8 hlt,Yo hi,go_sem])|fail))
   rw [EX hs hi (fun b hb=>by rw [hge] at hb;simp at hb)]
theorem dB (s:Str) (σ:AF) (hs:s≠[]):AK Tryz.prog 143 [.d (.str s)] σ (fun v σ'=>v= .d (.int .i64 (HE s))∧σ'=σ):=by
 have hloop:∀(b:UInt8) (r:Str),(HE (b::r)=Ym b)→Run K4 (fun v σ'=>v= .d (.int .i64 (HE (b::r)))∧σ'=σ) [.again RX,.blk 0,.code (.seq (.reg [⟨some 2,.mv (.c (.d (.int .i64 0))),none⟩] [2]) .ret)] (put 0 (.d (.str (b::r))) (put 3 (.d (.str WD)) (put 4 (.d (.int .i64 0)) U))) E σ:=by
  intro b r hbr
  refine Run.BB ((fun (a0:AV) (a3:AV)=>fun (i:Nat)=>put 0 a0 (put 3 a3 (put 4 (.d (.int .i64 i)) U))) _ _) (fun _=>E) (fun _=>σ) (fun i=>i≤WD.length∧WD.any (b==·)=(WD.drop i).any (b==·)) (fun i=>WD.length - i) ?_ 0 ⟨by simp,rfl⟩
  rintro i ⟨hi,hs⟩ ih
  have hn:WD.length=13:=rfl
  have h0:(b::r)[0]?=some b:=rfl
  by_cases hlt:i < WD.length
  · obtain ⟨x,hx⟩:=Aw hlt
    rw [Bc hx,IP] at hs
    have hz:=Cr h0 .i64
    rw [show ((0:Nat):Int)=0 from rfl] at hz
    (repeat' (first|refine Run.ct rfl ?_|((first|refine Run.reg mixed ?_|refine Run.AD ?_|refine Run.A1 MX (AF.le_refl _) ?_)<;>try simp -implicitDefEqProofs only [A8 hlt,Cr hx,hz,oP,A7 (show i+1≤9000000000000000000 by omega),go_sem])|(refine ⟨fun h=>?_,fun h=>?_⟩<;>first|(cases h;done)|try simp only [h])|fail))
    · rw [hbr,Ym,hs,h];rfl
    · exact ih (i+1) ⟨hlt,by rw [hs,h];rfl⟩ (by omega)
  · have hge:i=WD.length:=by omega
    (repeat' (first|refine Run.ct rfl ?_|((first|refine Run.reg mixed ?_|refine Run.AD ?_|refine Run.A1 MX (AF.le_refl _) ?_)<;>try simp -implicitDefEqProofs only [B8 hlt,go_sem])|fail))
    rw [hbr,Ym,hs,hge];rfl
 match s,hs with
 |[b],_=>
  refine X1 (by simp) ?_
  rw [Bf]
  (repeat' (first|refine Run.ct rfl ?_|((first|refine Run.reg mixed ?_|refine Run.AD ?_|refine Run.A1 MX (AF.le_refl _) ?_)<;>try simp -implicitDefEqProofs only [pF,go_sem])|fail))
  exact Run.Ay (hloop b [] rfl)
 |b::c::r,_=>
  refine X1 (by simp) ?_
  rw [Bf]
  (repeat' (first|refine Run.ct rfl ?_|((first|refine Run.reg mixed ?_|refine Run.AD ?_|refine Run.A1 MX (AF.le_refl _) ?_|(refine BO rfl (fun h=>?_) (fun h=>?_)<;>try (cases h;done)))<;>try simp -implicitDefEqProofs only [pG,pL,go_sem])|(refine ⟨fun h=>?_,fun h=>?_⟩<;>first|(cases h;done)|try simp only [h])|fail))
  all_goals (first|exact Run.Ay (hloop b (c::r) (by simp only [HE,mB, *];rfl))|(simp only [HE,mB, *];rfl))
end Go.Ab
