/- Components: the whole function. Scope: the groups. The compact codes of the functions of this seat, computed out of the translation. Conditions: none. -/
import Derived.Test.YtlckhmkeihbhmaaGreatProg
import Derived.KernelRfl
import Derived.Test.YtlckhmkeihbhmaaGreatXXm
set_option linter.unusedSimpArgs false
set_option linter.unusedVariables false
set_option maxRecDepth 4000
set_option maxHeartbeats 8000000
open List renaming replicate→AH,replicate_succ→EC,flatten_cons→Dq,length_map→AA,length_filter_le→F6,mem_filter→On,mem_range→Ci,mem_map→Dr,map_cons→AG,map_nil→AQ
open Nat renaming le_trans→BS
namespace Go.Ab
open Go.Proofs
theorem gA (n:Nat):(AH n [AV.AZ]).flatten=AH n AV.AZ:=by
 induction n with
 |zero=>rfl
 |succ n ih=>rw [EC,Dq,ih];rfl
theorem PK (g:List (List Nat)) (hg:N9 g) (hgl:g.length≤1000) (hll:∀l∈g,l.length≤1000) (σ:AF):
 AL Tryz.prog 35 [.d (.sl (g.map J1))] σ (fun v σ'=>v= .d (.sl ((H6 g).map J1))∧σ'=σ):=by
 refine Py (by simp) ?_
 rw [Bj]
 generalize hQ:(fun (v:AV) (σ':AF)=>v= .d (.sl ((H6 g).map J1))∧σ'=σ)=Q
 have hok:Q (.d (.sl ((H6 g).map J1))) σ:=by rw [← hQ];exact ⟨rfl,rfl⟩
 clear hQ
 have hbt:∀(τ:AF) (j:Nat) (x:Nat×TypeId) (q:Nat),(τ.DF j x).blk q=τ.blk q:=fun _ _ _ _=>rfl
 (repeat' (first|refine Run.ct rfl ?_|((first|refine Run.reg mixed ?_|refine Run.AE ?_)<;>try simp -implicitDefEqProofs only [go_sem])|fail))
 intro j1 hj1
 have hle1:=Bl (cs:=[AV.d (.sl (g.map J1))]) hj1
 have hb1:(σ.AO j1 [AV.d (.sl (g.map J1))]).blk j1=some [AV.d (.sl (g.map J1))]:=by rw [AM,if_pos rfl]
 generalize σ.AO j1 [AV.d (.sl (g.map J1))]=τ1 at hle1 hb1 ⊢
 (repeat' (first|refine Run.ct rfl ?_|((first|refine Run.reg mixed ?_|refine Run.AE ?_)<;>try simp -implicitDefEqProofs only [hb1,AA,go_sem])|fail))
 rintro j3 ⟨hj3,hjb3⟩
 have hj30:=hle1.none hj3
 have n13:j1≠j3:=fun e=>by rw [← e,hb1] at hj3;cases hj3
 have hle3:σ.le (((τ1.AO j3 [AV.d (.int .i64 0)]).DF j3 (1,3)).AO j3 [.d (.int .i64 g.length)]):=DH (Qt (DH hle1 hj30) hjb3) hj30
 have hb13:(((τ1.AO j3 [AV.d (.int .i64 0)]).DF j3 (1,3)).AO j3 [.d (.int .i64 g.length)]).blk j1=some [AV.d (.sl (g.map J1))]:=by rw [AM,if_neg n13,hbt,AM,if_neg n13];exact hb1
 have hb3:(((τ1.AO j3 [AV.d (.int .i64 0)]).DF j3 (1,3)).AO j3 [.d (.int .i64 g.length)]).blk j3=some [.d (.int .i64 g.length)]:=by rw [AM,if_pos rfl]
 simp -implicitDefEqProofs only [hbt,AM,go_sem]
 generalize ((τ1.AO j3 [AV.d (.int .i64 0)]).DF j3 (1,3)).AO j3 [AV.d (.int .i64 g.length)]=τ3 at hle3 hb13 hb3 ⊢
 clear hb1 hle1
 (repeat' (first|refine Run.ct rfl ?_|((first|refine Run.reg mixed ?_|refine Run.AE ?_|(refine S9.mk (n:=g.length) (by omega) (by omega) (fun jr hjr=>?_)))<;>try simp -implicitDefEqProofs only [hb3,AA,go_sem])|fail))
 rw [gA]
 have hjr0:=hle3.none hjr
 have nr1:jr≠j1:=fun e=>by rw [e,hb13] at hjr;cases hjr
 have nr3:jr≠j3:=fun e=>by rw [e,hb3] at hjr;cases hjr
 rintro j4 ⟨hj4,hjb4⟩
 replace hj4:(τ3.AO jr (AH g.length AV.AZ)).blk j4=none:=by rw [AM];exact hj4
 have hle4:=DH (cs:=AH g.length AV.AZ) hle3 hjr0
 have hb14:=HH hb13 hjr (AH g.length AV.AZ)
 have hb34:=HH hb3 hjr (AH g.length AV.AZ)
 have hbr:(τ3.AO jr (AH g.length AV.AZ)).blk jr=some (AH g.length AV.AZ):=by rw [AM,if_pos rfl]
 generalize τ3.AO jr (AH g.length AV.AZ)=τ4 at hle4 hb14 hb34 hbr hj4 hjb4 ⊢
 clear hb13 hb3 hle3 hjr
 have hj40:=hle4.none hj4
 have n14:j1≠j4:=fun e=>by rw [← e,hb14] at hj4;cases hj4
 have n34:j3≠j4:=fun e=>by rw [← e,hb34] at hj4;cases hj4
 have nr4:jr≠j4:=fun e=>by rw [← e,hbr] at hj4;cases hj4
 have hrs:RS σ g j1 j3 j4 jr 0 0 (AH g.length AV.AZ) (((τ4.AO j4 [AV.AZ]).DF j4 (1,141)).AO j4 [AV.ms jr g.length 1 78]):=
  ⟨by rw [AM,if_neg n14,hbt,AM,if_neg n14];exact hb14,by rw [AM,if_neg n34,hbt,AM,if_neg n34];exact hb34,by rw [AM,if_pos rfl],by rw [AM,if_neg nr4,hbt,AM,if_neg nr4];exact hbr,by simp,fun k hk=>by omega,fun k _ hk=>by simp [hk],DH (Qt (DH hle4 hj40) hjb4) hj40,hjr0,nr1,nr3,nr4⟩
 simp -implicitDefEqProofs only [hbt,AM,go_sem]
 generalize ((τ4.AO j4 [AV.AZ]).DF j4 (1,141)).AO j4 [AV.ms jr g.length 1 78]=τ5 at hrs ⊢
 clear hle4 hb14 hb34 hbr hj4 hjb4
 (repeat' (first|refine Run.ct rfl ?_|((first|refine Run.reg mixed ?_|refine Run.AE ?_)<;>try simp -implicitDefEqProofs only [hrs.b4,hrs.b3,hrs.b1,go_sem])|fail))
 refine iI Q _ g hg hgl hll j1 j3 j4 jr σ τ5 _ hrs (fun cells τ6 hrs=>?_)
 (repeat' (first|refine Run.ct rfl ?_|((first|refine Run.reg mixed ?_|refine Run.AE ?_|(refine S9.mk (n:=g.length) (by omega) (by omega) (fun jl hjl=>?_)))<;>try simp -implicitDefEqProofs only [hrs.b3,go_sem])|fail))
 rw [Ob]
 obtain ⟨f1,f2,f3,f4,f5,f6⟩:=hrs.fresh hjl
 have hrs2:=hrs.new f1 f2 f3 f4 f5 f6 (BZ (AH g.length false))
 rintro j7 ⟨hj7,hjb7⟩
 replace hj7:(τ6.AO jl (BZ (AH g.length false))).blk j7=none:=by rw [AM];exact hj7
 have hbl:(τ6.AO jl (BZ (AH g.length false))).blk jl=some (BZ (AH g.length false)):=by rw [AM,if_pos rfl]
 generalize τ6.AO jl (BZ (AH g.length false))=τ7 at hrs2 hbl hj7 hjb7 ⊢
 obtain ⟨e1,e2,e3,e4,e5,e6⟩:=hrs2.fresh hj7
 have nl7:jl≠j7:=fun e=>by rw [← e,hbl] at hj7;cases hj7
 have hrs3:=((hrs2.new e1 e2 e3 e4 e5 e6 [.AZ]).bt (x:=(1,78)) hjb7).new e1 e2 e3 e4 e5 e6 [AV.ms jl g.length 1 4]
 have hls:LS σ g j1 j3 j4 jr j7 jl cells (AH g.length false) (((τ7.AO j7 [AV.AZ]).DF j7 (1,78)).AO j7 [AV.ms jl g.length 1 4]):=
  ⟨hrs3,by rw [AM,if_pos rfl],by rw [AM,if_neg nl7,hbt,AM,if_neg nl7];exact hbl,by simp,f1,f2,f3,f4,f5,nl7,f6⟩
 simp -implicitDefEqProofs only [hbt,AM,go_sem]
 generalize ((τ7.AO j7 [AV.AZ]).DF j7 (1,78)).AO j7 [AV.ms jl g.length 1 4]=τ8 at hls ⊢
 clear hrs hrs2 hrs3 hbl hjl hj7 hjb7
 (repeat' (first|refine Run.ct rfl ?_|((first|refine Run.reg mixed ?_|refine Run.AE ?_)<;>try simp -implicitDefEqProofs only [go_sem])|fail))
 refine iK Q _ g hgl j1 j3 j4 jr j7 jl σ τ8 cells hls (fun outv τ9 hle ho=>?_)
 (repeat' (first|refine Run.ct rfl ?_|((first|refine Run.reg mixed ?_|refine Run.AE ?_|(refine Run.A1 KS (σ2:=σ) hle ?_))<;>try simp -implicitDefEqProofs only [ho.BO,go_sem])|fail))
 simp -implicitDefEqProofs only [ho.BY,ho.plain,go_sem]
 exact hok
theorem XM {fs:List FE} {f:FE}:(P3 fs f).length≤fs.length∧∀w∈P3 fs f,w < fs.length:=by
 refine ⟨by rw [P3];exact BS (F6 _ _) (by simp),fun w hw=>?_⟩
 rw [P3,On,Ci] at hw
 exact hw.1
theorem SN (p:Pg):N9 (E5 p):=by
 intro l hl w hw
 unfold E5 at hl ⊢
 split at hl
 · rename_i h
   rw [if_pos h,AA]
   obtain ⟨f,_,rfl⟩:=Dr.1 hl
   exact XM.2 w hw
 · cases hl
theorem Nq (l:List (List Nat)):Np l= .d (.sl (l.map J1)):=rfl
end Go.Ab
namespace Go.Ab
open Go.Proofs
theorem SO (p:Pg):(E5 p).length≤24:=by
 by_cases hc0:(NN p).1=0
 · have:=(Pt hc0).1
   unfold E5
   rw [if_pos hc0,AA];exact this
 · unfold E5;rw [if_neg hc0];simp
theorem Qd (p:Pg):∀l∈E5 p,l.length≤24:=by
 intro l hl
 by_cases hc0:(NN p).1=0
 · have:=(Pt hc0).1
   unfold E5 at hl
   rw [if_pos hc0] at hl
   obtain ⟨f,_,rfl⟩:=Dr.1 hl
   exact BS XM.1 this
 · unfold E5 at hl;rw [if_neg hc0] at hl;cases hl
noncomputable def W4 (p:Pg):List (List Nat):=H6 (E5 p)
theorem TF (p:Pg) (σ:AF) (h:∀d∈p.data,Hp d):AL Tryz.prog 12 [pgA p] σ (fun v σ'=>v=Np (W4 p)∧σ'=σ):=by
 have hcl:=fun σ=>OX p σ h
 have hco:=fun σ=>PK (E5 p) (SN p) (BS (SO p) (by decide)) (fun l hl=>BS (Qd p l hl) (by decide)) σ
 refine UB (by simp) ?_
 rw [Bj]
 rw [W4,Nq]
 simp only [Nq] at hcl
 obtain ⟨ds,fs⟩:=p
 simp only [pgA,Pg.enc,AG,AQ] at hcl ⊢
 (repeat' (first|refine Run.ct rfl ?_|((first|refine Run.reg mixed ?_|refine Run.AE ?_|refine Run.Fp Ny (AF.le_refl _) ?_|refine AI.det (hcl _) ?_|refine AI.det (hco _) ?_)<;>try simp -implicitDefEqProofs only [go_sem])|fail))
end Go.Ab
namespace Go.Ab
open Go.Proofs
variable {args:List AV} {σ:AF} {K:AV→AF→Prop}
def IB:C:=(.seq (.reg [Qo 45 (.bin .lss (.t 44) (.t 43))] [3,4,5,35,36,37,42,43,44,45])
 (.seq (.cond (.t 45) .skip
 (.exit 2))
 (.seq (.block 3 (.seq (.reg [Qo 46 (.ix (.t 42) (.t 44) 1),
 Qo 47 (.ld (.t 46) none),
 Qm 8 47] [3,4,5,8,35,36,37,42,43,44])
 (.seq (.seq (.reg [Qm 48 8,
 Qo 49 (.bin .lss (.t 48) (.c (.d (.int .i64 0)))),
 Qm 50 49,
 ⟨some 51,.mv (.t 8),some (50,false)⟩,
 ⟨some 52,.mv (.t 4),some (50,false)⟩,
 ⟨some 53,.len (.t 52),some (50,false)⟩,
 ⟨some 54,.bin .geq (.t 51) (.t 53),some (50,false)⟩,
 Qo 55 (.pick (.t 50) (.c (.d (.bool true))) (.t 54)),
 Qm 56 55,
 ⟨some 57,.mv (.t 4),some (56,false)⟩,
 ⟨some 58,.mv (.t 8),some (56,false)⟩,
 ⟨some 59,.ix (.t 57) (.t 58) 1,some (56,false)⟩,
 ⟨some 60,.ld (.t 59) none,some (56,false)⟩,
 ⟨some 61,.bin .neq (.t 60) (.c (.d (.int .i64 0))),some (56,false)⟩,
 Qo 62 (.pick (.t 56) (.c (.d (.bool true))) (.t 61))] [3,4,5,8,35,36,37,42,43,44,62])
 (.cond (.t 62) (.seq (.reg [Qo 2 (.mv (.c (.d (.bool false))))] [2])
 .ret)
 .skip))
 (.reg [Qm 63 4,
 Qm 64 8,
 Qm 65 5,
 Qo 66 (.bin .add (.t 65) (.c (.d (.int .i64 1)))),
 Qo 67 (.ix (.t 63) (.t 64) 1),
 ⟨none,.st (.t 67) (.t 66) 1,none⟩] [3,4,5,35,36,37,42,43,44]))))
 (.reg [Qo 68 (.bin .add (.t 44) (.c (.d (.int .i64 1)))),
 Qm 44 68] [3,4,5,35,36,37,42,43,44]))))
def IC:C:=(.seq (.reg [Qo 38 (.bin .lss (.t 37) (.t 36))] [3,4,35,36,37,38])
 (.seq (.cond (.t 38) .skip
 (.exit 0))
 (.seq (.block 1 (.seq (.reg [Qm 39 37,
 Qo 40 (.ix (.t 35) (.t 37) 1),
 Qo 41 (.ld (.t 40) none),
 Qm 5 39,
 Qm 6 41] [3,4,5,6,35,36,37])
 (.seq (.reg [Qm 42 6,
 Qo 43 (.len (.t 42)),
 Qo 44 (.mv (.c (.d (.int .i64 0))))] [3,4,5,35,36,37,42,43,44])
 (.block 2 (.loop IB)))))
 (.reg [Qo 69 (.bin .add (.t 37) (.c (.d (.int .i64 1)))),
 Qm 37 69] [3,4,35,36,37]))))
def ID:C:=(.seq (.reg [Qo 85 (.bin .lss (.t 84) (.t 83))] [4,9,70,71,72,82,83,84,85])
 (.seq (.cond (.t 85) .skip
 (.exit 6))
 (.seq (.block 7 (.seq (.reg [Qo 86 (.ix (.t 82) (.t 84) 1),
 Qo 87 (.ld (.t 86) none),
 Qm 12 87] [4,9,12,70,71,72,82,83,84])
 (.seq (.reg [Qm 88 12,
 Qo 89 (.bin .lss (.t 88) (.c (.d (.int .i64 0)))),
 Qm 90 89,
 ⟨some 91,.mv (.t 12),some (90,false)⟩,
 ⟨some 92,.mv (.t 4),some (90,false)⟩,
 ⟨some 93,.len (.t 92),some (90,false)⟩,
 ⟨some 94,.bin .geq (.t 91) (.t 93),some (90,false)⟩,
 Qo 95 (.pick (.t 90) (.c (.d (.bool true))) (.t 94)),
 Qm 96 95,
 ⟨some 97,.mv (.t 4),some (96,false)⟩,
 ⟨some 98,.mv (.t 12),some (96,false)⟩,
 ⟨some 99,.ix (.t 97) (.t 98) 1,some (96,false)⟩,
 ⟨some 100,.ld (.t 99) none,some (96,false)⟩,
 ⟨some 101,.mv (.t 4),some (96,false)⟩,
 ⟨some 102,.mv (.t 9),some (96,false)⟩,
 ⟨some 103,.ix (.t 101) (.t 102) 1,some (96,false)⟩,
 ⟨some 104,.ld (.t 103) none,some (96,false)⟩,
 ⟨some 105,.bin .gtr (.t 100) (.t 104),some (96,false)⟩,
 Qo 106 (.pick (.t 96) (.c (.d (.bool true))) (.t 105))] [4,9,70,71,72,82,83,84,106])
 (.cond (.t 106) (.seq (.reg [Qo 2 (.mv (.c (.d (.bool false))))] [2])
 .ret)
 .skip))))
 (.reg [Qo 107 (.bin .add (.t 84) (.c (.d (.int .i64 1)))),
 Qm 84 107] [4,9,70,71,72,82,83,84]))))
def IE:C:=(.seq (.reg [Qo 73 (.bin .lss (.t 72) (.t 71))] [4,70,71,72,73])
 (.seq (.cond (.t 73) .skip
 (.exit 4))
 (.seq (.block 5 (.seq (.reg [Qm 74 72,
 Qo 75 (.ix (.t 70) (.t 72) 1),
 Qo 76 (.ld (.t 75) none),
 Qm 9 74,
 Qm 10 76] [4,9,10,70,71,72])
 (.seq (.seq (.reg [Qm 77 4,
 Qm 78 9,
 Qo 79 (.ix (.t 77) (.t 78) 1),
 Qo 80 (.ld (.t 79) none),
 Qo 81 (.bin .eql (.t 80) (.c (.d (.int .i64 0))))] [4,9,10,70,71,72,81])
 (.cond (.t 81) (.seq (.reg [Qo 2 (.mv (.c (.d (.bool false))))] [2])
 .ret)
 .skip))
 (.seq (.reg [Qm 82 10,
 Qo 83 (.len (.t 82)),
 Qo 84 (.mv (.c (.d (.int .i64 0))))] [4,9,70,71,72,82,83,84])
 (.block 6 (.loop ID))))))
 (.reg [Qo 108 (.bin .add (.t 72) (.c (.d (.int .i64 1)))),
 Qm 72 108] [4,70,71,72]))))
def KG:C:=(.seq (.reg [Qo 1 (.box (.t 0) false),
 Qo 2 (.mv (.c (.d (.bool false))))] [1])
 (.seq (.seq (.reg [Qo 13 (.ldl (.t 1) (some 2)),
 Qo 14 (.call 8 [(.t 13)]),
 Qo 15 (.un .not (.t 14)),
 Qm 16 15,
 ⟨some 17,.ldl (.t 1) (some 2),some (16,false)⟩,
 ⟨some 18,.call 15 [(.t 17)],some (16,false)⟩,
 ⟨some 19,.fd (.t 18) 0 none,some (16,false)⟩,
 ⟨some 20,.bin .neq (.t 19) (.c (.d (.int .i64 0))),some (16,false)⟩,
 Qo 21 (.pick (.t 16) (.c (.d (.bool true))) (.t 20))] [1,21])
 (.cond (.t 21) (.seq (.reg [Qo 2 (.mv (.c (.d (.bool true))))] [2])
 .ret)
 .skip))
 (.seq (.reg [Qo 22 (.ldl (.t 1) (some 2)),
 Qo 23 (.call 10 [(.t 22)]),
 Qm 3 23] [1,3])
 (.seq (.seq (.reg [Qm 24 3,
 Qo 25 (.len (.t 24)),
 Qo 26 (.fld (.t 1) 1),
 Qo 27 (.ldl (.t 26) none),
 Qo 28 (.len (.t 27)),
 Qo 29 (.bin .neq (.t 25) (.t 28))] [1,3,29])
 (.cond (.t 29) (.seq (.reg [Qo 2 (.mv (.c (.d (.bool false))))] [2])
 .ret)
 .skip))
 (.seq (.reg [Qo 30 (.fld (.t 1) 1),
 Qo 31 (.ldl (.t 30) none),
 Qo 32 (.len (.t 31)),
 Qo 33 (.msl 3 1 8 [(.d (.int .i64 0))] (.t 32) (.t 32)),
 Qm 4 33] [1,3,4])
 (.seq (.seq (.reg [Qo 34 (.ldl (.t 1) (some 2)),
 Qo 35 (.call 12 [(.t 34)]),
 Qo 36 (.len (.t 35)),
 Qo 37 (.mv (.c (.d (.int .i64 0))))] [3,4,35,36,37])
 (.block 0 (.loop IC)))
 (.seq (.seq (.reg [Qm 70 3,
 Qo 71 (.len (.t 70)),
 Qo 72 (.mv (.c (.d (.int .i64 0))))] [4,70,71,72])
 (.block 4 (.loop IE)))
 (.seq (.reg [Qo 109 (.call 14 []),
 Qm 2 109] [2])
 .ret))))))))
noncomputable def BV:Cx:=⟨Tryz.prog,4,Tryz.f4,110,[300013,300017,300022,300027,300031,300034],[],[.t 2]⟩
theorem FR:Good BV:=⟨Tryz.func4,by kernel_rfl⟩
theorem PD:BV.rs=[.t 2]:=rfl
theorem Px (hl:args.length≤110) (h:Run BV K [.code KG] (BN args) E σ):AL Tryz.prog 4 args σ K:=
 AW (cx:=BV) (code:=Tryz.f4.body.getD .skip) FR (by kernel_rfl) Tryz.ntmps4 hl (AX BV _ (B2 KG) _ [] (by kernel_rfl)) h
def PQ:C:=(.seq (.reg [Qo 0 (.mv (.c (.d (.bool false))))] [])
 (.seq (.reg [Qo 2 (.bld [(.d (.int .i64 0)),(.d (.str [])),(.d (.int .i64 0)),.AZ,.AZ,.AZ] [(0,1,(.c (.d (.int .i64 4)))),(1,1,(.c (.d (.str [103]))))]),
 Qo 3 (.bld [(.d (.str [])),.AZ,(.d (.int .i64 0)),(.d (.str [])),(.d (.int .i64 0)),.AZ,.AZ,.AZ] [(0,1,(.c (.d (.str [102])))),(2,6,(.t 2))]),
 Qo 4 (.bsl 8 1 [(.d (.str [])),.AZ,(.d (.int .i64 0)),(.d (.str [])),(.d (.int .i64 0)),.AZ,.AZ,.AZ] [(0,8,(.t 3))]),
 Qo 5 (.bld [.AZ,.AZ] [(1,1,(.t 4))]),
 Qo 1 (.al [.AZ,.AZ] false),
 ⟨none,.st (.t 1) (.t 5) 2,none⟩] [1])
 (.seq (.reg [Qo 6 (.ldl (.t 1) (some 2)),
 Qo 7 (.call 18 [(.t 6)]),
 Qo 8 (.bld [(.d (.int .i64 0)),(.d (.int .i64 0)),(.d (.int .i64 0))] [(0,1,(.c (.d (.int .i64 3))))]),
 Qo 9 (.YJ false 3 (.t 7) (.t 8)),
 Qm 0 9] [0])
 .ret)))
noncomputable def Gq:Cx:=⟨Tryz.prog,14,Tryz.f14,10,[300006],[],[.t 0]⟩
theorem P6:Good Gq:=⟨Tryz.func14,by kernel_rfl⟩
theorem U2:Gq.rs=[.t 0]:=rfl
theorem VP (hl:args.length≤10) (h:Run Gq K [.code PQ] (BN args) E σ):AL Tryz.prog 14 args σ K:=
 AW (cx:=Gq) (code:=Tryz.f14.body.getD .skip) P6 (by kernel_rfl) Tryz.ntmps14 hl (AX Gq _ (B2 PQ) _ [] (by kernel_rfl)) h
def VK:C:=(.seq (.seq (.reg [Qm 19 5,
 Qo 20 (.fld (.t 1) 1),
 Qo 21 (.ldl (.t 20) none),
 Qo 22 (.len (.t 21)),
 Qo 23 (.bin .lss (.t 19) (.t 22))] [1,2,3,5,23])
 (.cond (.t 23) .skip
 (.exit 0)))
 (.seq (.block 1 (.seq (.reg [Qo 26 (.fld (.t 1) 1),
 Qo 27 (.ldl (.t 26) none),
 Qm 28 5,
 Qo 29 (.ix (.t 27) (.t 28) 8),
 Qo 30 (.ld (.t 29) (some 8)),
 Qo 6 (.al [(.d (.str [])),.AZ,(.d (.int .i64 0)),(.d (.str [])),(.d (.int .i64 0)),.AZ,.AZ,.AZ] false),
 ⟨none,.st (.t 6) (.t 30) 8,none⟩] [1,2,3,5,6])
 (.seq (.reg [Qo 31 (.ldl (.t 1) (some 2)),
 Qm 32 3,
 Qo 33 (.bld [.AZ,.AZ,.AZ,(.d (.int .i64 0)),.AZ] [(0,2,(.t 31)),(2,1,(.t 32))]),
 Qo 34 (.box (.t 33) true),
 Qm 7 34] [1,2,3,5,6,7])
 (.seq (.seq (.reg [Qm 35 7,
 Qo 36 (.fld (.t 6) 0),
 Qo 37 (.ldl (.t 36) none),
 Qo 38 (.call 37 [(.t 35),(.t 37)]),
 Qm 39 5,
 Qo 40 (.bin .lss (.t 38) (.t 39)),
 Qm 41 40,
 ⟨some 42,.fld (.t 6) 1,some (41,false)⟩,
 ⟨some 43,.ldl (.t 42) none,some (41,false)⟩,
 ⟨some 44,.call 38 [(.t 43)],some (41,false)⟩,
 Qo 45 (.pick (.t 41) (.c (.d (.bool true))) (.t 44))] [1,2,3,5,6,7,45])
 (.cond (.t 45) (.seq (.reg [Qm 46 5,
 Qo 47 (.bld [(.d (.int .i64 0)),(.d (.int .i64 0)),(.d (.int .i64 0))] [(0,1,(.c (.d (.int .i64 4)))),(1,1,(.t 46))]),
 ⟨none,.st (.t 2) (.t 47) 3,none⟩] [2])
 .ret)
 .skip))
 (.seq (.reg [Qm 49 7,
 Qo 50 (.fld (.t 6) 2),
 Qo 51 (.ldl (.t 50) (some 6)),
 Qo 52 (.fld (.t 6) 1),
 Qo 53 (.ldl (.t 52) none),
 Qo 54 (.call 34 [(.t 49),(.t 51),(.t 53)]),
 Qm 48 54,
 Qo 55 (.ext (.t 48) 0),
 Qo 56 (.ext (.t 48) 1),
 Qm 8 55,
 Qm 9 56] [1,2,3,5,8,9])
 (.seq (.reg [Qm 57 8,
 Qo 58 (.bin .neq (.t 57) (.c (.d (.int .i64 0))))] [1,2,3,5,8,9,58])
 (.cond (.t 58) (.seq (.reg [Qm 59 8,
 Qm 60 5,
 Qm 61 9,
 Qo 62 (.bld [(.d (.int .i64 0)),(.d (.int .i64 0)),(.d (.int .i64 0))] [(0,1,(.t 59)),(1,1,(.t 60)),(2,1,(.t 61))]),
 ⟨none,.st (.t 2) (.t 62) 3,none⟩] [2])
 .ret)
 .skip)))))))
 (.reg [Qm 24 5,
 Qo 25 (.bin .add (.t 24) (.c (.d (.int .i64 1)))),
 Qm 5 25] [1,2,3,5])))
def Ti:C:=(.seq (.reg [Qo 1 (.box (.t 0) false),
 Qo 2 (.al [(.d (.int .i64 0)),(.d (.int .i64 0)),(.d (.int .i64 0))] false)] [1,2])
 (.seq (.reg [Qo 11 (.ldl (.t 1) (some 2)),
 Qo 12 (.call 23 [(.t 11)]),
 Qm 10 12,
 Qo 13 (.ext (.t 10) 0),
 Qo 14 (.ext (.t 10) 1),
 Qo 4 (.al [(.d (.int .i64 0)),(.d (.int .i64 0)),(.d (.int .i64 0))] false),
 Qm 3 13,
 ⟨none,.st (.t 4) (.t 14) 3,none⟩] [1,2,3,4])
 (.seq (.seq (.reg [Qo 15 (.fld (.t 4) 0),
 Qo 16 (.ldl (.t 15) none),
 Qo 17 (.bin .neq (.t 16) (.c (.d (.int .i64 0))))] [1,2,3,4,17])
 (.cond (.t 17) (.seq (.reg [Qo 18 (.ldl (.t 4) (some 3)),
 ⟨none,.st (.t 2) (.t 18) 3,none⟩] [2])
 .ret)
 .skip))
 (.seq (.seq (.reg [Qo 5 (.mv (.c (.d (.int .i64 0))))] [1,2,3,5])
 (.block 0 (.loop VK)))
 (.seq (.reg [Qo 63 (.bld [(.d (.int .i64 0)),(.d (.int .i64 0)),(.d (.int .i64 0))] []),
 ⟨none,.st (.t 2) (.t 63) 3,none⟩] [2])
 .ret)))))
noncomputable def Ke:Cx:=⟨Tryz.prog,15,Tryz.f15,64,[34,300011,300016,300018,300021,300027,300031,300037,300043,300051,300053],[],[.c 2 (some 3)]⟩
theorem I1:Good Ke:=⟨Tryz.func15,by kernel_rfl⟩
theorem YB:Ke.rs=[.c 2 (some 3)]:=rfl
theorem Yz (hl:args.length≤64) (h:Run Ke K [.code Ti] (BN args) E σ):AL Tryz.prog 15 args σ K:=
 AW (cx:=Ke) (code:=Tryz.f15.body.getD .skip) I1 (by kernel_rfl) Tryz.ntmps15 hl (AX Ke _ (B2 Ti) _ [] (by kernel_rfl)) h
def Q4:C:=(.seq (.seq (.reg [Qm 88 12,
 Qo 89 (.fld (.t 8) 2),
 Qo 90 (.ldl (.t 89) none),
 Qm 91 10,
 Qo 92 (.ix (.t 90) (.t 91) 2),
 Qo 93 (.fld (.t 92) 1),
 Qo 94 (.ld (.t 93) none),
 Qo 95 (.len (.t 94)),
 Qo 96 (.bin .lss (.t 88) (.t 95))] [1,3,4,5,6,7,8,9,10,11,12,96])
 (.cond (.t 96) .skip
 (.exit 4)))
 (.seq (.block 5 (.seq (.reg [Qo 13 (.al [(.d (.int .i64 0)),(.d (.int .i64 0)),.AZ] false),
 Qo 100 (.ldl (.t 1) (some 2)),
 Qm 101 5,
 Qo 102 (.fld (.t 8) 1),
 Qo 103 (.ldl (.t 102) none),
 Qo 104 (.fld (.t 8) 2),
 Qo 105 (.ldl (.t 104) none),
 Qm 106 10,
 Qo 107 (.ix (.t 105) (.t 106) 2),
 Qo 108 (.fld (.t 107) 1),
 Qo 109 (.ld (.t 108) none),
 Qm 110 12,
 Qo 111 (.ix (.t 109) (.t 110) 3),
 Qo 112 (.ld (.t 111) (some 3)),
 Qo 113 (.call 60 [(.t 100),(.t 101),(.t 103),(.t 112),(.c (.d (.bool true)))]),
 Qm 99 113,
 Qo 114 (.ext (.t 99) 0),
 Qo 115 (.ext (.t 99) 1),
 ⟨none,.st (.t 13) (.t 114) 3,none⟩,
 Qm 14 115] [1,3,4,5,6,7,8,9,10,11,12,13,14])
 (.seq (.seq (.reg [Qm 116 14,
 Qo 117 (.bin .neq (.t 116) (.c (.d (.int .i64 0))))] [1,3,4,5,6,7,8,9,10,11,12,13,14,117])
 (.cond (.t 117) (.seq (.reg [Qm 118 14,
 Qm 119 7,
 Qo 120 (.bld [(.d (.int .i64 0)),(.d (.int .i64 0)),(.d (.int .i64 0))] [(0,1,(.t 118)),(1,1,(.c (.d (.int .i64 (-1))))),(2,1,(.t 119))]),
 Qo 2 (.mv (.c .AZ)),
 ⟨none,.st (.t 3) (.t 120) 3,none⟩] [2,3])
 .ret)
 .skip))
 (.reg [Qo 121 (.fld (.t 11) 1),
 Qo 122 (.ldl (.t 121) none),
 Qo 123 (.ldl (.t 13) (some 3)),
 Qo 124 (.bsl 3 1 [(.d (.int .i64 0)),(.d (.int .i64 0)),.AZ] [(0,3,(.t 123))]),
 Qo 125 (.app 57 3 40 (.t 122) (.t 124)),
 Qo 126 (.fld (.t 11) 1),
 ⟨none,.st (.t 126) (.t 125) 1,none⟩] [1,3,4,5,6,7,8,9,10,11,12]))))
 (.reg [Qm 97 12,
 Qo 98 (.bin .add (.t 97) (.c (.d (.int .i64 1)))),
 Qm 12 98] [1,3,4,5,6,7,8,9,10,11,12])))
def Q5:C:=(.seq (.seq (.reg [Qm 54 10,
 Qo 55 (.fld (.t 8) 2),
 Qo 56 (.ldl (.t 55) none),
 Qo 57 (.len (.t 56)),
 Qo 58 (.bin .lss (.t 54) (.t 57))] [1,3,4,5,6,7,8,9,10,58])
 (.cond (.t 58) .skip
 (.exit 2)))
 (.seq (.block 3 (.seq (.seq (.reg [Qm 61 6,
 Qo 62 (.fld (.t 8) 2),
 Qo 63 (.ldl (.t 62) none),
 Qm 64 10,
 Qo 65 (.ix (.t 63) (.t 64) 2),
 Qo 66 (.fld (.t 65) 0),
 Qo 67 (.ld (.t 66) none),
 Qo 68 (.call 59 [(.t 61),(.t 67)]),
 Qo 69 (.bin .geq (.t 68) (.c (.d (.int .i64 0))))] [1,3,4,5,6,7,8,9,10,69])
 (.cond (.t 69) (.seq (.reg [Qm 70 7,
 Qo 71 (.bld [(.d (.int .i64 0)),(.d (.int .i64 0)),(.d (.int .i64 0))] [(0,1,(.c (.d (.int .i64 4)))),(1,1,(.c (.d (.int .i64 (-1))))),(2,1,(.t 70))]),
 Qo 2 (.mv (.c .AZ)),
 ⟨none,.st (.t 3) (.t 71) 3,none⟩] [2,3])
 .ret)
 .skip))
 (.seq (.reg [Qm 72 6,
 Qo 73 (.fld (.t 8) 2),
 Qo 74 (.ldl (.t 73) none),
 Qm 75 10,
 Qo 76 (.ix (.t 74) (.t 75) 2),
 Qo 77 (.fld (.t 76) 0),
 Qo 78 (.ld (.t 77) none),
 Qo 79 (.bsl 1 1 [(.d (.str []))] [(0,1,(.t 78))]),
 Qo 80 (.app 9 1 16 (.t 72) (.t 79)),
 Qm 6 80] [1,3,4,5,6,7,8,9,10])
 (.seq (.reg [Qo 81 (.fld (.t 8) 2),
 Qo 82 (.ldl (.t 81) none),
 Qm 83 10,
 Qo 84 (.ix (.t 82) (.t 83) 2),
 Qo 85 (.fld (.t 84) 0),
 Qo 86 (.ld (.t 85) none),
 Qo 87 (.bld [(.d (.str [])),.AZ] [(0,1,(.t 86))]),
 Qo 11 (.al [(.d (.str [])),.AZ] false),
 ⟨none,.st (.t 11) (.t 87) 2,none⟩] [1,3,4,5,6,7,8,9,10,11])
 (.seq (.seq (.reg [Qo 12 (.mv (.c (.d (.int .i64 0))))] [1,3,4,5,6,7,8,9,10,11,12])
 (.block 4 (.loop Q4)))
 (.reg [Qo 127 (.fld (.t 9) 2),
 Qo 128 (.ldl (.t 127) none),
 Qo 129 (.ldl (.t 11) (some 2)),
 Qo 130 (.bsl 2 1 [(.d (.str [])),.AZ] [(0,2,(.t 129))]),
 Qo 131 (.app 124 2 40 (.t 128) (.t 130)),
 Qo 132 (.fld (.t 9) 2),
 ⟨none,.st (.t 132) (.t 131) 1,none⟩] [1,3,4,5,6,7,8,9,10]))))))
 (.reg [Qm 59 10,
 Qo 60 (.bin .add (.t 59) (.c (.d (.int .i64 1)))),
 Qm 10 60] [1,3,4,5,6,7,8,9,10])))
def WY:C:=(.seq (.seq (.reg [Qm 19 7,
 Qo 20 (.fld (.t 1) 0),
 Qo 21 (.ldl (.t 20) none),
 Qo 22 (.len (.t 21)),
 Qo 23 (.bin .lss (.t 19) (.t 22))] [1,3,4,5,6,7,23])
 (.cond (.t 23) .skip
 (.exit 0)))
 (.seq (.block 1 (.seq (.reg [Qo 26 (.fld (.t 1) 0),
 Qo 27 (.ldl (.t 26) none),
 Qm 28 7,
 Qo 29 (.ix (.t 27) (.t 28) 3),
 Qo 30 (.ld (.t 29) (some 3)),
 Qo 8 (.al [(.d (.str [])),.AZ,.AZ] false),
 ⟨none,.st (.t 8) (.t 30) 3,none⟩] [1,3,4,5,6,7,8])
 (.seq (.seq (.reg [Qm 31 5,
 Qo 32 (.fld (.t 8) 0),
 Qo 33 (.ldl (.t 32) none),
 Qo 34 (.call 59 [(.t 31),(.t 33)]),
 Qo 35 (.bin .geq (.t 34) (.c (.d (.int .i64 0)))),
 Qm 36 35,
 ⟨some 37,.fld (.t 8) 1,some (36,false)⟩,
 ⟨some 38,.ldl (.t 37) none,some (36,false)⟩,
 ⟨some 39,.call 38 [(.t 38)],some (36,false)⟩,
 Qo 40 (.pick (.t 36) (.c (.d (.bool true))) (.t 39))] [1,3,4,5,6,7,8,40])
 (.cond (.t 40) (.seq (.reg [Qm 41 7,
 Qo 42 (.bld [(.d (.int .i64 0)),(.d (.int .i64 0)),(.d (.int .i64 0))] [(0,1,(.c (.d (.int .i64 4)))),(1,1,(.c (.d (.int .i64 (-1))))),(2,1,(.t 41))]),
 Qo 2 (.mv (.c .AZ)),
 ⟨none,.st (.t 3) (.t 42) 3,none⟩] [2,3])
 .ret)
 .skip))
 (.seq (.reg [Qm 43 5,
 Qo 44 (.fld (.t 8) 0),
 Qo 45 (.ldl (.t 44) none),
 Qo 46 (.bsl 1 1 [(.d (.str []))] [(0,1,(.t 45))]),
 Qo 47 (.app 9 1 16 (.t 43) (.t 46)),
 Qm 5 47] [1,3,4,5,6,7,8])
 (.seq (.reg [Qo 48 (.fld (.t 8) 0),
 Qo 49 (.ldl (.t 48) none),
 Qo 50 (.fld (.t 8) 1),
 Qo 51 (.ldl (.t 50) none),
 Qo 52 (.len (.t 51)),
 Qo 53 (.bld [(.d (.str [])),(.d (.int .i64 0)),.AZ] [(0,1,(.t 49)),(1,1,(.t 52))]),
 Qo 9 (.al [(.d (.str [])),(.d (.int .i64 0)),.AZ] false),
 ⟨none,.st (.t 9) (.t 53) 3,none⟩] [1,3,4,5,6,7,8,9])
 (.seq (.seq (.reg [Qo 10 (.mv (.c (.d (.int .i64 0))))] [1,3,4,5,6,7,8,9,10])
 (.block 2 (.loop Q5)))
 (.reg [Qm 133 4,
 Qo 134 (.ldl (.t 9) (some 3)),
 Qo 135 (.bsl 3 1 [(.d (.str [])),(.d (.int .i64 0)),.AZ] [(0,3,(.t 134))]),
 Qo 136 (.app 122 3 48 (.t 133) (.t 135)),
 Qm 4 136] [1,3,4,5,6,7])))))))
 (.reg [Qm 24 7,
 Qo 25 (.bin .add (.t 24) (.c (.d (.int .i64 1)))),
 Qm 7 25] [1,3,4,5,6,7])))
def aW:C:=(.seq (.reg [Qo 1 (.box (.t 0) false),
 Qo 2 (.mv (.c .AZ)),
 Qo 3 (.al [(.d (.int .i64 0)),(.d (.int .i64 0)),(.d (.int .i64 0))] false)] [1,3])
 (.seq (.seq (.reg [Qo 15 (.ldl (.t 1) (some 2)),
 Qo 16 (.call 58 [(.t 15)]),
 Qo 17 (.un .not (.t 16))] [1,3,17])
 (.cond (.t 17) (.seq (.reg [Qo 18 (.bld [(.d (.int .i64 0)),(.d (.int .i64 0)),(.d (.int .i64 0))] [(0,1,(.c (.d (.int .i64 1)))),(1,1,(.c (.d (.int .i64 (-1)))))]),
 Qo 2 (.mv (.c .AZ)),
 ⟨none,.st (.t 3) (.t 18) 3,none⟩] [2,3])
 .ret)
 .skip))
 (.seq (.reg [Qo 4 (.mv (.c .AZ))] [1,3,4])
 (.seq (.reg [Qo 5 (.mv (.c .AZ)),
 Qo 6 (.mv (.c .AZ))] [1,3,4,5,6])
 (.seq (.seq (.reg [Qo 7 (.mv (.c (.d (.int .i64 0))))] [1,3,4,5,6,7])
 (.block 0 (.loop WY)))
 (.seq (.reg [Qm 137 4,
 Qo 138 (.bld [(.d (.int .i64 0)),(.d (.int .i64 0)),(.d (.int .i64 0))] []),
 Qm 2 137,
 ⟨none,.st (.t 3) (.t 138) 3,none⟩] [2,3])
 .ret))))))
def dL:List (List Nat×PT):=[([1,3],.done),([1,3,17],.done),([2,3],.done),([1,3,4],.done),([1,3,4,5,6],.done),([1,3,4,5,6,7],.done),([1,3,4,5,6,7,23],.done),([1,3,4,5,6,7,8],.done),([1,3,4,5,6,7,8,40],.done),([2,3],.done),([1,3,4,5,6,7,8],.done),([1,3,4,5,6,7,8,9],.done),([1,3,4,5,6,7,8,9,10],.done),([1,3,4,5,6,7,8,9,10,58],.done),([1,3,4,5,6,7,8,9,10,69],.done),([2,3],.done),([1,3,4,5,6,7,8,9,10],.done),([1,3,4,5,6,7,8,9,10,11],.done),([1,3,4,5,6,7,8,9,10,11,12],.done),([1,3,4,5,6,7,8,9,10,11,12,96],.done),([1,3,4,5,6,7,8,9,10,11,12,13,14],(.lay 17 (.one 0 (.one 1 (.one 2 (.one 3 (.one 4 (.one 5 (.one 6 (.one 7 (.one 8 (.one 9 (.one 10 (.one 11 (.one 12 (.one 13 (.one 14 (.one 15 (.one 16 (.one 18 (.one 19 .done))))))))))))))))))))),([1,3,4,5,6,7,8,9,10,11,12,13,14,117],.done),([2,3],.done),([1,3,4,5,6,7,8,9,10,11,12],.done),([1,3,4,5,6,7,8,9,10,11,12],.done),([1,3,4,5,6,7,8,9,10],.done),([1,3,4,5,6,7,8,9,10],.done),([1,3,4,5,6,7],.done),([1,3,4,5,6,7],.done),([2,3],.done)]
noncomputable def Dk:Cx:=⟨Tryz.prog,23,Tryz.f23,139,[300015,300021,300027,300033,300038,300045,300049,300051,300056,300063,300074,300082,300090,300100,300103,300105,300122,300123,300128,300129,300134],[],[.t 2,.c 3 (some 3)]⟩
theorem I3:Good Dk:=⟨Tryz.func23,by kernel_rfl⟩
theorem Z3:Dk.rs=[.t 2,.c 3 (some 3)]:=rfl
theorem bU (hl:args.length≤139) (h:Run Dk K [.code aW] (BN args) E σ):AL Tryz.prog 23 args σ K:=
 AW (cx:=Dk) (code:=Tryz.f23.body.getD .skip) I3 (by kernel_rfl) Tryz.ntmps23 hl (AX Dk _ dL _ [] (by kernel_rfl)) h
def Im:C:=(.seq (.seq (.reg [Qm 157 16,
 Qo 158 (.fld (.t 4) 4),
 Qo 159 (.ldl (.t 158) none),
 Qo 160 (.len (.t 159)),
 Qo 161 (.bin .lss (.t 157) (.t 160))] [0,2,4,16,161])
 (.cond (.t 161) .skip
 (.exit 1)))
 (.seq (.block 2 (.seq (.reg [Qm 164 2,
 Qm 17 164] [0,2,4,16,17])
 (.seq (.block 3 (.seq (.reg [Qo 166 (.fld (.t 4) 0),
 Qo 167 (.ldl (.t 166) none),
 Qo 168 (.bin .eql (.t 167) (.c (.d (.int .i64 7)))),
 Qm 169 168,
 ⟨some 170,.fld (.t 4) 0,some (169,false)⟩,
 ⟨some 171,.ldl (.t 170) none,some (169,false)⟩,
 ⟨some 172,.bin .eql (.t 171) (.c (.d (.int .i64 17))),some (169,false)⟩,
 Qo 173 (.pick (.t 169) (.c (.d (.bool true))) (.t 172)),
 Qm 174 173,
 ⟨some 175,.mv (.t 16),some (174,true)⟩,
 ⟨some 176,.bin .eql (.t 175) (.c (.d (.int .i64 1))),some (174,true)⟩,
 Qo 177 (.pick (.t 174) (.t 176) (.c (.d (.bool false)))),
 Qm 178 177,
 ⟨some 179,.fld (.t 4) 1,some (178,true)⟩,
 ⟨some 180,.ldl (.t 179) none,some (178,true)⟩,
 ⟨some 181,.bin .neq (.t 180) (.c (.d (.str []))),some (178,true)⟩,
 Qo 182 (.pick (.t 178) (.t 181) (.c (.d (.bool false)))),
 Qm 165 182] [0,2,4,16,17,165])
 (.cond (.t 165) (.reg [Qm 183 17,
 Qo 184 (.fld (.t 4) 1),
 Qo 185 (.ldl (.t 184) none),
 Qo 186 (.bsl 1 1 [(.d (.str []))] [(0,1,(.t 185))]),
 Qo 187 (.app 9 1 16 (.t 183) (.t 186)),
 Qm 17 187] [0,2,4,16,17])
 (.seq (.reg [Qo 189 (.fld (.t 4) 0),
 Qo 190 (.ldl (.t 189) none),
 Qo 191 (.bin .eql (.t 190) (.c (.d (.int .i64 8)))),
 Qm 192 191,
 ⟨some 193,.mv (.t 16),some (192,true)⟩,
 ⟨some 194,.bin .eql (.t 193) (.c (.d (.int .i64 1))),some (192,true)⟩,
 Qo 195 (.pick (.t 192) (.t 194) (.c (.d (.bool false)))),
 Qm 196 195,
 ⟨some 197,.fld (.t 4) 0,some (196,false)⟩,
 ⟨some 198,.ldl (.t 197) none,some (196,false)⟩,
 ⟨some 199,.bin .eql (.t 198) (.c (.d (.int .i64 11))),some (196,false)⟩,
 Qo 200 (.pick (.t 196) (.c (.d (.bool true))) (.t 199)),
 Qm 188 200] [0,2,4,16,17,188])
 (.cond (.t 188) (.reg [Qm 201 17,
 Qo 202 (.fld (.t 4) 3),
 Qo 203 (.ldl (.t 202) none),
 Qo 204 (.app 9 1 16 (.t 201) (.t 203)),
 Qm 17 204] [0,2,4,16,17])
 .skip)))))
 (.seq (.reg [Qm 206 0,
 Qo 207 (.fld (.t 4) 4),
 Qo 208 (.ldl (.t 207) none),
 Qm 209 16,
 Qo 210 (.ix (.t 208) (.t 209) 6),
 Qo 211 (.ld (.t 210) (some 6)),
 Qm 212 17,
 Qo 213 (.call 34 [(.t 206),(.t 211),(.t 212)]),
 Qm 205 213,
 Qo 214 (.ext (.t 205) 0),
 Qo 215 (.ext (.t 205) 1),
 Qm 18 214,
 Qm 19 215] [0,2,4,16,18,19])
 (.seq (.reg [Qm 216 18,
 Qo 217 (.bin .neq (.t 216) (.c (.d (.int .i64 0))))] [0,2,4,16,18,19,217])
 (.cond (.t 217) (.seq (.reg [Qm 218 18,
 Qm 219 19,
 Qm 6 218,
 Qm 7 219] [6,7])
 .ret)
 .skip))))))
 (.reg [Qm 162 16,
 Qo 163 (.bin .add (.t 162) (.c (.d (.int .i64 1)))),
 Qm 16 163] [0,2,4,16])))
def Io:C:=(.seq (.seq (.reg [Qm 220 20,
 Qo 221 (.fld (.t 4) 5),
 Qo 222 (.ldl (.t 221) none),
 Qo 223 (.len (.t 222)),
 Qo 224 (.bin .lss (.t 220) (.t 223))] [0,2,4,20,224])
 (.cond (.t 224) .skip
 (.exit 4)))
 (.seq (.block 5 (.seq (.Rv (.one (Qm 228 0)
 (.one (Qo 229 (.fld (.t 4) 5))
 (.one (Qo 230 (.ldl (.t 229) none))
 (.one (Qm 231 20)
 (.one (Qo 232 (.ix (.t 230) (.t 231) 8))
 (.one (Qo 233 (.fld (.t 232) 2))
 (.one (Qm 235 2)
 (.one (Qo 236 (.fld (.t 4) 5))
 (.one (Qo 237 (.ldl (.t 236) none))
 (.one (Qm 238 20)
 (.one (Qo 239 (.ix (.t 237) (.t 238) 8))
 (.one (Qo 240 (.fld (.t 239) 1))
 (.one (Qo 241 (.ld (.t 240) none))
 (.alt (Qo 234 (.ld (.t 233) (some 6)))
 (.one (Qo 242 (.app 9 1 16 (.t 235) (.t 241)))
 (.one (Qo 243 (.call 34 [(.t 228),(.t 234),(.t 242)]))
 (.one (Qm 227 243)
 (.one (Qo 244 (.ext (.t 227) 0))
 (.one (Qo 245 (.ext (.t 227) 1))
 (.one (Qm 21 244)
 (.one (Qm 22 245)
 .done)))))))
 (.alt (Qo 242 (.app 9 1 16 (.t 235) (.t 241)))
 (.one (Qo 234 (.ld (.t 233) (some 6)))
 (.one (Qo 243 (.call 34 [(.t 228),(.t 234),(.t 242)]))
 (.one (Qm 227 243)
 (.one (Qo 244 (.ext (.t 227) 0))
 (.one (Qo 245 (.ext (.t 227) 1))
 (.one (Qm 21 244)
 (.one (Qm 22 245)
 .done)))))))
 .done))))))))))))))) [0,2,4,20,21,22])
 (.seq (.reg [Qm 246 21,
 Qo 247 (.bin .neq (.t 246) (.c (.d (.int .i64 0))))] [0,2,4,20,21,22,247])
 (.cond (.t 247) (.seq (.reg [Qm 248 21,
 Qm 249 22,
 Qm 6 248,
 Qm 7 249] [6,7])
 .ret)
 .skip))))
 (.reg [Qm 225 20,
 Qo 226 (.bin .add (.t 225) (.c (.d (.int .i64 1)))),
 Qm 20 226] [0,2,4,20])))
def Q6:C:=(.seq (.reg [Qo 4 (.box (.t 1) false),
 Qo 6 (.mv (.c (.d (.int .i64 0)))),
 Qo 7 (.mv (.c (.d (.int .i64 0))))] [0,2,4])
 (.seq (.reg [Qm 23 0,
 Qo 24 (.nck (.t 23)),
 Qo 25 (.fld (.t 24) 3),
 Qo 26 (.ld (.t 25) none),
 Qm 8 26] [0,2,4,8])
 (.seq (.reg [Qm 27 0,
 Qo 28 (.nck (.t 27)),
 Qo 29 (.fld (.t 28) 3),
 Qo 30 (.ld (.t 29) none),
 Qo 31 (.bin .add (.t 30) (.c (.d (.int .i64 1)))),
 Qo 32 (.nck (.t 27)),
 Qo 33 (.fld (.t 32) 3),
 ⟨none,.st (.t 33) (.t 31) 1,none⟩] [0,2,4,8])
 (.seq (.reg [Qm 34 2,
 Qm 35 2,
 Qo 36 (.len (.t 35)),
 Qm 37 2,
 Qo 38 (.len (.t 37)),
 Qo 39 (.sls (.t 34) none (some (.t 36)) (some (.t 38)) 1),
 Qm 2 39] [0,2,4,8])
 (.seq (.seq (.reg [Qo 40 (.fld (.t 4) 0),
 Qo 41 (.ldl (.t 40) none)] [0,2,4,8,41])
 (.block 0 (.seq (.reg [Qo 43 (.bin .eql (.t 41) (.c (.d (.int .i64 4)))),
 Qm 42 43] [0,2,4,8,41,42])
 (.cond (.t 42) (.seq (.reg [Qm 44 2,
 Qo 45 (.fld (.t 4) 1),
 Qo 46 (.ldl (.t 45) none),
 Qo 47 (.call 59 [(.t 44),(.t 46)]),
 Qo 48 (.bin .lss (.t 47) (.c (.d (.int .i64 0))))] [0,2,4,8,48])
 (.cond (.t 48) (.seq (.reg [Qm 49 0,
 Qo 50 (.fld (.t 4) 1),
 Qo 51 (.ldl (.t 50) none),
 Qo 52 (.call 37 [(.t 49),(.t 51)]),
 Qm 9 52] [0,2,4,8,9])
 (.seq (.seq (.reg [Qm 53 9,
 Qo 54 (.bin .lss (.t 53) (.c (.d (.int .i64 0))))] [0,2,4,8,9,54])
 (.cond (.t 54) (.seq (.reg [Qm 55 8,
 Qo 6 (.mv (.c (.d (.int .i64 3)))),
 Qm 7 55] [6,7])
 .ret)
 .skip))
 (.reg [Qm 56 0,
 Qm 57 0,
 Qo 58 (.nck (.t 57)),
 Qo 59 (.fld (.t 58) 4),
 Qo 60 (.ld (.t 59) none),
 Qm 61 9,
 Qo 62 (.bsl 1 1 [(.d (.int .i64 0))] [(0,1,(.t 61))]),
 Qo 63 (.app 3 1 8 (.t 60) (.t 62)),
 Qo 64 (.nck (.t 56)),
 Qo 65 (.fld (.t 64) 4),
 ⟨none,.st (.t 65) (.t 63) 1,none⟩] [0,2,4])))
 .skip))
 (.seq (.reg [Qo 67 (.bin .eql (.t 41) (.c (.d (.int .i64 6)))),
 Qm 66 67] [0,2,4,8,41,66])
 (.cond (.t 66) (.seq (.reg [Qm 69 0,
 Qo 70 (.nck (.t 69)),
 Qo 71 (.fld (.t 70) 2),
 Qo 72 (.ld (.t 71) none),
 Qo 73 (.fld (.t 4) 1),
 Qo 74 (.ldl (.t 73) none),
 Qo 75 (.call 67 [(.t 72),(.t 74)]),
 Qm 68 75,
 Qo 76 (.ext (.t 68) 0),
 Qo 77 (.ext (.t 68) 1),
 Qo 78 (.ext (.t 68) 2),
 Qm 10 76,
 Qm 11 77,
 Qm 12 78] [0,2,4,8,10,11,12])
 (.seq (.seq (.reg [Qm 79 12,
 Qo 80 (.un .not (.t 79))] [0,2,4,8,10,11,80])
 (.cond (.t 80) (.seq (.reg [Qm 81 8,
 Qo 6 (.mv (.c (.d (.int .i64 3)))),
 Qm 7 81] [6,7])
 .ret)
 .skip))
 (.seq (.reg [Qo 82 (.fld (.t 4) 4),
 Qo 83 (.ldl (.t 82) none),
 Qo 84 (.len (.t 83)),
 Qm 85 0,
 Qo 86 (.nck (.t 85)),
 Qo 87 (.fld (.t 86) 2),
 Qo 88 (.ld (.t 87) none),
 Qm 89 10,
 Qo 90 (.ix (.t 88) (.t 89) 3),
 Qo 91 (.fld (.t 90) 2),
 Qo 92 (.ld (.t 91) none),
 Qm 93 11,
 Qo 94 (.ix (.t 92) (.t 93) 2),
 Qo 95 (.fld (.t 94) 1),
 Qo 96 (.ld (.t 95) none),
 Qo 97 (.len (.t 96)),
 Qo 98 (.bin .neq (.t 84) (.t 97))] [0,2,4,8,98])
 (.cond (.t 98) (.seq (.reg [Qm 99 8,
 Qo 6 (.mv (.c (.d (.int .i64 5)))),
 Qm 7 99] [6,7])
 .ret)
 .skip))))
 (.seq (.seq (.reg [Qo 101 (.bin .eql (.t 41) (.c (.d (.int .i64 8)))),
 Qm 100 101] [0,2,4,8,41,100])
 (.cond (.t 100) .skip
 (.reg [Qo 102 (.bin .eql (.t 41) (.c (.d (.int .i64 11)))),
 Qm 100 102] [0,2,4,8,41,100])))
 (.cond (.t 100) (.seq (.reg [Qo 103 (.fld (.t 4) 3),
 Qo 104 (.ldl (.t 103) none),
 Qo 105 (.call 38 [(.t 104)])] [0,2,4,8,105])
 (.cond (.t 105) (.seq (.reg [Qm 106 8,
 Qo 6 (.mv (.c (.d (.int .i64 4)))),
 Qm 7 106] [6,7])
 .ret)
 .skip))
 (.seq (.reg [Qo 108 (.bin .eql (.t 41) (.c (.d (.int .i64 10)))),
 Qm 107 108] [0,2,4,8,41,107])
 (.cond (.t 107) (.seq (.reg [Qm 109 0,
 Qo 110 (.fld (.t 4) 5),
 Qo 111 (.ldl (.t 110) none),
 Qo 112 (.call 68 [(.t 109),(.t 111)]),
 Qm 13 112] [0,2,4,8,13])
 (.seq (.reg [Qm 113 13,
 Qo 114 (.bin .neq (.t 113) (.c (.d (.int .i64 0))))] [0,2,4,8,13,114])
 (.cond (.t 114) (.seq (.reg [Qm 115 13,
 Qm 116 8,
 Qm 6 115,
 Qm 7 116] [6,7])
 .ret)
 .skip)))
 (.seq (.reg [Qo 118 (.bin .eql (.t 41) (.c (.d (.int .i64 12)))),
 Qm 117 118] [0,2,4,8,117])
 (.cond (.t 117) (.seq (.reg [Qo 119 (.fld (.t 4) 4),
 Qo 120 (.ldl (.t 119) none),
 Qo 121 (.ix (.t 120) (.c (.d (.int .i64 0))) 6),
 Qo 122 (.ld (.t 121) (some 6)),
 Qo 14 (.al [(.d (.int .i64 0)),(.d (.str [])),(.d (.int .i64 0)),.AZ,.AZ,.AZ] false),
 ⟨none,.st (.t 14) (.t 122) 6,none⟩] [0,2,4,8,14])
 (.seq (.reg [Qo 123 (.fld (.t 14) 0),
 Qo 124 (.ldl (.t 123) none),
 Qo 125 (.bin .eql (.t 124) (.c (.d (.int .i64 4)))),
 Qm 126 125,
 ⟨some 127,.mv (.t 2),some (126,true)⟩,
 ⟨some 128,.fld (.t 14) 1,some (126,true)⟩,
 ⟨some 129,.ldl (.t 128) none,some (126,true)⟩,
 ⟨some 130,.call 59 [(.t 127),(.t 129)],some (126,true)⟩,
 ⟨some 131,.bin .lss (.t 130) (.c (.d (.int .i64 0))),some (126,true)⟩,
 Qo 132 (.pick (.t 126) (.t 131) (.c (.d (.bool false))))] [0,2,4,8,14,132])
 (.cond (.t 132) (.seq (.reg [Qm 133 0,
 Qo 134 (.fld (.t 14) 1),
 Qo 135 (.ldl (.t 134) none),
 Qo 136 (.call 37 [(.t 133),(.t 135)]),
 Qm 15 136] [0,2,4,8,15])
 (.seq (.reg [Qm 137 15,
 Qo 138 (.bin .geq (.t 137) (.c (.d (.int .i64 0)))),
 Qm 139 138,
 ⟨some 140,.mv (.t 0),some (139,true)⟩,
 ⟨some 141,.nck (.t 140),some (139,true)⟩,
 ⟨some 142,.fld (.t 141) 0,some (139,true)⟩,
 ⟨some 143,.fld (.t 142) 1,some (139,true)⟩,
 ⟨some 144,.ld (.t 143) none,some (139,true)⟩,
 ⟨some 145,.mv (.t 15),some (139,true)⟩,
 ⟨some 146,.ix (.t 144) (.t 145) 8,some (139,true)⟩,
 ⟨some 147,.fld (.t 146) 1,some (139,true)⟩,
 ⟨some 148,.ld (.t 147) none,some (139,true)⟩,
 ⟨some 149,.len (.t 148),some (139,true)⟩,
 ⟨some 150,.fld (.t 4) 4,some (139,true)⟩,
 ⟨some 151,.ldl (.t 150) none,some (139,true)⟩,
 ⟨some 152,.len (.t 151),some (139,true)⟩,
 ⟨some 153,.bin .sub (.t 152) (.c (.d (.int .i64 1))),some (139,true)⟩,
 ⟨some 154,.bin .neq (.t 149) (.t 153),some (139,true)⟩,
 Qo 155 (.pick (.t 139) (.t 154) (.c (.d (.bool false))))] [0,2,4,8,155])
 (.cond (.t 155) (.seq (.reg [Qm 156 8,
 Qo 6 (.mv (.c (.d (.int .i64 5)))),
 Qm 7 156] [6,7])
 .ret)
 .skip)))
 .skip)))
 .skip))))))))))))
 (.seq (.seq (.reg [Qo 16 (.mv (.c (.d (.int .i64 0))))] [0,2,4,16])
 (.block 1 (.loop Im)))
 (.seq (.seq (.reg [Qo 20 (.mv (.c (.d (.int .i64 0))))] [0,2,4,20])
 (.block 4 (.loop Io)))
 (.seq (.reg [Qo 6 (.mv (.c (.d (.int .i64 0)))),
 Qo 7 (.mv (.c (.d (.int .i64 0))))] [6,7])
 .ret))))))))
def RN:List (List Nat×PT):=[([0,2,4],.done),([0,2,4,8],.done),([0,2,4,8],.done),([0,2,4,8],.done),([0,2,4,8,41],.done),([0,2,4,8,41,42],.done),([0,2,4,8,48],.done),([0,2,4,8,9],.done),([0,2,4,8,9,54],.done),([6,7],.done),([0,2,4],.done),([0,2,4,8,41,66],.done),([0,2,4,8,10,11,12],.done),([0,2,4,8,10,11,80],.done),([6,7],.done),([0,2,4,8,98],.done),([6,7],.done),([0,2,4,8,41,100],.done),([0,2,4,8,41,100],.done),([0,2,4,8,105],.done),([6,7],.done),([0,2,4,8,41,107],.done),([0,2,4,8,13],.done),([0,2,4,8,13,114],.done),([6,7],.done),([0,2,4,8,117],.done),([0,2,4,8,14],.done),([0,2,4,8,14,132],.done),([0,2,4,8,15],.done),([0,2,4,8,155],.done),([6,7],.done),([0,2,4,16],.done),([0,2,4,16,161],.done),([0,2,4,16,17],.done),([0,2,4,16,17,165],.done),([0,2,4,16,17],.done),([0,2,4,16,17,188],.done),([0,2,4,16,17],.done),([0,2,4,16,18,19],.done),([0,2,4,16,18,19,217],.done),([6,7],.done),([0,2,4,16],.done),([0,2,4,20],.done),([0,2,4,20,224],.done),([0,2,4,20,21,22],(.one 0 (.one 1 (.one 2 (.one 3 (.one 4 (.one 5 (.one 7 (.one 8 (.one 9 (.one 10 (.one 11 (.one 12 (.one 13 (.alt 6 (.one 14 (.one 15 (.one 16 (.one 17 (.one 18 (.one 19 (.one 20 .done))))))) (.alt 14 (.one 6 (.one 15 (.one 16 (.one 17 (.one 18 (.one 19 (.one 20 .done))))))) .done)))))))))))))))),([0,2,4,20,21,22,247],.done),([6,7],.done),([0,2,4,20],.done),([6,7],.done)]
noncomputable def Dl:Cx:=⟨Tryz.prog,34,Tryz.f34,250,[300041,300046,300051,300074,300083,300104,300111,300120,300124,300129,300135,300151,300159,300167,300171,300180,300185,300190,300198,300203,300208,300222,300230,300237],[],[.t 6,.t 7]⟩
theorem Ak:Good Dl:=⟨Tryz.func34,by kernel_rfl⟩
theorem QJ:Dl.rs=[.t 6,.t 7]:=rfl
theorem Qq (hl:args.length≤250) (h:Run Dl K [.code Q6] (BN args) E σ):AL Tryz.prog 34 args σ K:=
 AW (cx:=Dl) (code:=Tryz.f34.body.getD .skip) Ak (by kernel_rfl) Tryz.ntmps34 hl (AX Dl _ RN _ [] (by kernel_rfl)) h
def Li:C:=(.seq (.seq (.reg [Qm 6 5,
 Qm 7 0,
 Qo 8 (.nck (.t 7)),
 Qo 9 (.fld (.t 8) 0),
 Qo 10 (.fld (.t 9) 1),
 Qo 11 (.ld (.t 10) none),
 Qo 12 (.len (.t 11)),
 Qo 13 (.bin .lss (.t 6) (.t 12))] [0,1,5,13])
 (.cond (.t 13) .skip
 (.exit 0)))
 (.seq (.block 1 (.seq (.reg [Qm 16 0,
 Qo 17 (.nck (.t 16)),
 Qo 18 (.fld (.t 17) 0),
 Qo 19 (.fld (.t 18) 1),
 Qo 20 (.ld (.t 19) none),
 Qm 21 5,
 Qo 22 (.ix (.t 20) (.t 21) 8),
 Qo 23 (.fld (.t 22) 0),
 Qo 24 (.ld (.t 23) none),
 Qm 25 1,
 Qo 26 (.bin .eql (.t 24) (.t 25))] [0,1,5,26])
 (.cond (.t 26) (.seq (.reg [Qm 27 5,
 Qm 4 27] [4])
 .ret)
 .skip)))
 (.reg [Qm 14 5,
 Qo 15 (.bin .add (.t 14) (.c (.d (.int .i64 1)))),
 Qm 5 15] [0,1,5])))
def Ip:C:=(.seq (.reg [Qo 4 (.mv (.c (.d (.int .i64 0))))] [0,1])
 (.seq (.seq (.reg [Qo 5 (.mv (.c (.d (.int .i64 0))))] [0,1,5])
 (.block 0 (.loop Li)))
 (.seq (.reg [Qo 4 (.mv (.c (.d (.int .i64 (-1)))))] [4])
 .ret)))
noncomputable def D8:Cx:=⟨Tryz.prog,37,Tryz.f37,28,[],[],[.t 4]⟩
theorem GD:Good D8:=⟨Tryz.func37,by kernel_rfl⟩
theorem NV:D8.rs=[.t 4]:=rfl
theorem OD (hl:args.length≤28) (h:Run D8 K [.code Ip] (BN args) E σ):AL Tryz.prog 37 args σ K:=
 AW (cx:=D8) (code:=Tryz.f37.body.getD .skip) GD (by kernel_rfl) Tryz.ntmps37 hl (AX D8 _ (B2 Ip) _ [] (by kernel_rfl)) h
def VL:C:=(.seq (.seq (.reg [Qm 11 4,
 Qm 12 3,
 Qo 13 (.bin .lss (.t 11) (.t 12))] [0,3,4,13])
 (.cond (.t 13) .skip
 (.exit 2)))
 (.seq (.block 3 (.seq (.reg [Qm 16 0,
 Qm 17 3,
 Qo 18 (.ix (.t 16) (.t 17) 1),
 Qo 19 (.ld (.t 18) none),
 Qm 20 0,
 Qm 21 4,
 Qo 22 (.ix (.t 20) (.t 21) 1),
 Qo 23 (.ld (.t 22) none),
 Qo 24 (.bin .eql (.t 19) (.t 23)),
 Qm 25 24,
 ⟨some 26,.mv (.t 0),some (25,true)⟩,
 ⟨some 27,.mv (.t 3),some (25,true)⟩,
 ⟨some 28,.ix (.t 26) (.t 27) 1,some (25,true)⟩,
 ⟨some 29,.ld (.t 28) none,some (25,true)⟩,
 ⟨some 30,.bin .neq (.t 29) (.c (.d (.str []))),some (25,true)⟩,
 Qo 31 (.pick (.t 25) (.t 30) (.c (.d (.bool false))))] [0,3,4,31])
 (.cond (.t 31) (.seq (.reg [Qo 2 (.mv (.c (.d (.bool true))))] [2])
 .ret)
 .skip)))
 (.reg [Qm 14 4,
 Qo 15 (.bin .add (.t 14) (.c (.d (.int .i64 1)))),
 Qm 4 15] [0,3,4])))
def VM:C:=(.seq (.seq (.reg [Qm 5 3,
 Qm 6 0,
 Qo 7 (.len (.t 6)),
 Qo 8 (.bin .lss (.t 5) (.t 7))] [0,3,8])
 (.cond (.t 8) .skip
 (.exit 0)))
 (.seq (.block 1 (.seq (.reg [Qo 4 (.mv (.c (.d (.int .i64 0))))] [0,3,4])
 (.block 2 (.loop VL))))
 (.reg [Qm 9 3,
 Qo 10 (.bin .add (.t 9) (.c (.d (.int .i64 1)))),
 Qm 3 10] [0,3])))
def Tj:C:=(.seq (.reg [Qo 2 (.mv (.c (.d (.bool false))))] [0])
 (.seq (.seq (.reg [Qo 3 (.mv (.c (.d (.int .i64 0))))] [0,3])
 (.block 0 (.loop VM)))
 (.seq (.reg [Qo 2 (.mv (.c (.d (.bool false))))] [2])
 .ret)))
noncomputable def Kf:Cx:=⟨Tryz.prog,38,Tryz.f38,32,[],[],[.t 2]⟩
theorem Pw:Good Kf:=⟨Tryz.func38,by kernel_rfl⟩
theorem YC:Kf.rs=[.t 2]:=rfl
theorem ZA (hl:args.length≤32) (h:Run Kf K [.code Tj] (BN args) E σ):AL Tryz.prog 38 args σ K:=
 AW (cx:=Kf) (code:=Tryz.f38.body.getD .skip) Pw (by kernel_rfl) Tryz.ntmps38 hl (AX Kf _ (B2 Tj) _ [] (by kernel_rfl)) h
def WZ:C:=(.seq (.seq (.reg [Qm 6 5,
 Qm 7 0,
 Qo 8 (.len (.t 7)),
 Qo 9 (.bin .lss (.t 6) (.t 8))] [0,1,5,9])
 (.cond (.t 9) .skip
 (.exit 0)))
 (.seq (.block 1 (.seq (.reg [Qm 12 0,
 Qm 13 5,
 Qo 14 (.ix (.t 12) (.t 13) 1),
 Qo 15 (.ld (.t 14) none),
 Qm 16 1,
 Qo 17 (.bin .eql (.t 15) (.t 16))] [0,1,5,17])
 (.cond (.t 17) (.seq (.reg [Qm 18 5,
 Qm 4 18] [4])
 .ret)
 .skip)))
 (.reg [Qm 10 5,
 Qo 11 (.bin .add (.t 10) (.c (.d (.int .i64 1)))),
 Qm 5 11] [0,1,5])))
def Vl:C:=(.seq (.reg [Qo 4 (.mv (.c (.d (.int .i64 0))))] [0,1])
 (.seq (.seq (.reg [Qo 5 (.mv (.c (.d (.int .i64 0))))] [0,1,5])
 (.block 0 (.loop WZ)))
 (.seq (.reg [Qo 4 (.mv (.c (.d (.int .i64 (-1)))))] [4])
 .ret)))
noncomputable def MQ:Cx:=⟨Tryz.prog,59,Tryz.f59,19,[],[],[.t 4]⟩
theorem Ra:Good MQ:=⟨Tryz.func59,by kernel_rfl⟩
theorem Z4:MQ.rs=[.t 4]:=rfl
theorem bV (hl:args.length≤19) (h:Run MQ K [.code Vl] (BN args) E σ):AL Tryz.prog 59 args σ K:=
 AW (cx:=MQ) (code:=Tryz.f59.body.getD .skip) Ra (by kernel_rfl) Tryz.ntmps59 hl (AX MQ _ (B2 Vl) _ [] (by kernel_rfl)) h
def Se:C:=(.seq (.seq (.reg [Qm 63 13,
 Qo 64 (.fld (.t 8) 2),
 Qo 65 (.ldl (.t 64) none),
 Qo 66 (.len (.t 65)),
 Qo 67 (.bin .lss (.t 63) (.t 66))] [1,2,4,5,8,10,12,13,67])
 (.cond (.t 67) .skip
 (.exit 1)))
 (.seq (.block 2 (.seq (.reg [Qo 70 (.fld (.t 8) 2),
 Qo 71 (.ldl (.t 70) none),
 Qm 72 13,
 Qo 73 (.ix (.t 71) (.t 72) 3),
 Qo 74 (.fld (.t 73) 0),
 Qo 75 (.ld (.t 74) none),
 Qo 76 (.bin .neq (.t 75) (.c (.d (.int .i64 4)))),
 Qm 77 76,
 ⟨some 78,.fld (.t 8) 2,some (77,false)⟩,
 ⟨some 79,.ldl (.t 78) none,some (77,false)⟩,
 ⟨some 80,.mv (.t 13),some (77,false)⟩,
 ⟨some 81,.ix (.t 79) (.t 80) 3,some (77,false)⟩,
 ⟨some 82,.fld (.t 81) 1,some (77,false)⟩,
 ⟨some 83,.ld (.t 82) none,some (77,false)⟩,
 ⟨some 84,.mv (.t 2),some (77,false)⟩,
 ⟨some 85,.mv (.t 13),some (77,false)⟩,
 ⟨some 86,.ix (.t 84) (.t 85) 1,some (77,false)⟩,
 ⟨some 87,.ld (.t 86) none,some (77,false)⟩,
 ⟨some 88,.bin .neq (.t 83) (.t 87),some (77,false)⟩,
 Qo 89 (.pick (.t 77) (.c (.d (.bool true))) (.t 88))] [1,2,4,5,8,10,12,13,89])
 (.cond (.t 89) (.seq (.reg [Qo 90 (.bld [(.d (.int .i64 0)),(.d (.int .i64 0)),.AZ] []),
 ⟨none,.st (.t 10) (.t 90) 3,none⟩,
 Qo 11 (.mv (.c (.d (.int .i64 7))))] [10,11])
 .ret)
 .skip)))
 (.reg [Qm 68 13,
 Qo 69 (.bin .add (.t 68) (.c (.d (.int .i64 1)))),
 Qm 13 69] [1,2,4,5,8,10,12,13])))
def Mx:C:=(.seq (.seq (.reg [Qm 94 14,
 Qo 95 (.fld (.t 8) 2),
 Qo 96 (.ldl (.t 95) none),
 Qo 97 (.len (.t 96)),
 Qo 98 (.bin .lss (.t 94) (.t 97))] [1,2,5,8,10,12,14,98])
 (.cond (.t 98) .skip
 (.exit 3)))
 (.seq (.block 4 (.seq (.reg [Qo 15 (.al [(.d (.int .i64 0)),(.d (.int .i64 0)),.AZ] false),
 Qo 102 (.ldl (.t 5) (some 2)),
 Qm 103 1,
 Qm 104 2,
 Qo 105 (.fld (.t 8) 2),
 Qo 106 (.ldl (.t 105) none),
 Qm 107 14,
 Qo 108 (.ix (.t 106) (.t 107) 3),
 Qo 109 (.ld (.t 108) (some 3)),
 Qo 110 (.call 60 [(.t 102),(.t 103),(.t 104),(.t 109),(.c (.d (.bool false)))]),
 Qm 101 110,
 Qo 111 (.ext (.t 101) 0),
 Qo 112 (.ext (.t 101) 1),
 ⟨none,.st (.t 15) (.t 111) 3,none⟩,
 Qm 16 112] [1,2,5,8,10,12,14,15,16])
 (.seq (.seq (.reg [Qm 113 16,
 Qo 114 (.bin .neq (.t 113) (.c (.d (.int .i64 0))))] [1,2,5,8,10,12,14,15,16,114])
 (.cond (.t 114) (.seq (.reg [Qo 115 (.bld [(.d (.int .i64 0)),(.d (.int .i64 0)),.AZ] []),
 Qm 116 16,
 ⟨none,.st (.t 10) (.t 115) 3,none⟩,
 Qm 11 116] [10,11])
 .ret)
 .skip))
 (.reg [Qo 117 (.fld (.t 12) 2),
 Qo 118 (.ldl (.t 117) none),
 Qo 119 (.ldl (.t 15) (some 3)),
 Qo 120 (.bsl 3 1 [(.d (.int .i64 0)),(.d (.int .i64 0)),.AZ] [(0,3,(.t 119))]),
 Qo 121 (.app 57 3 40 (.t 118) (.t 120)),
 Qo 122 (.fld (.t 12) 2),
 ⟨none,.st (.t 122) (.t 121) 1,none⟩] [1,2,5,8,10,12,14]))))
 (.reg [Qm 99 14,
 Qo 100 (.bin .add (.t 99) (.c (.d (.int .i64 1)))),
 Qm 14 100] [1,2,5,8,10,12,14])))
def W0:C:=(.seq (.reg [Qo 5 (.box (.t 0) false),
 Qo 8 (.box (.t 3) false),
 Qo 10 (.al [(.d (.int .i64 0)),(.d (.int .i64 0)),.AZ] false),
 Qo 11 (.mv (.c (.d (.int .i64 0))))] [1,2,4,5,8,10])
 (.seq (.reg [Qo 17 (.fld (.t 8) 0),
 Qo 18 (.ldl (.t 17) none),
 Qo 19 (.bld [(.d (.int .i64 0)),(.d (.int .i64 0)),.AZ] [(0,1,(.t 18))]),
 Qo 12 (.al [(.d (.int .i64 0)),(.d (.int .i64 0)),.AZ] false),
 ⟨none,.st (.t 12) (.t 19) 3,none⟩] [1,2,4,5,8,10,12])
 (.seq (.seq (.reg [Qo 20 (.fld (.t 8) 0),
 Qo 21 (.ldl (.t 20) none)] [1,2,4,5,8,10,12,21])
 (.block 0 (.seq (.reg [Qo 23 (.bin .eql (.t 21) (.c (.d (.int .i64 4)))),
 Qm 22 23] [1,2,4,5,8,10,12,21,22])
 (.cond (.t 22) (.seq (.reg [Qm 24 2,
 Qo 25 (.fld (.t 8) 1),
 Qo 26 (.ldl (.t 25) none),
 Qo 27 (.call 59 [(.t 24),(.t 26)]),
 Qo 28 (.fld (.t 12) 1),
 ⟨none,.st (.t 28) (.t 27) 1,none⟩] [1,2,5,8,10,12])
 (.seq (.reg [Qo 29 (.fld (.t 12) 1),
 Qo 30 (.ldl (.t 29) none),
 Qo 31 (.bin .lss (.t 30) (.c (.d (.int .i64 0))))] [1,2,5,8,10,12,31])
 (.cond (.t 31) (.seq (.reg [Qo 32 (.bld [(.d (.int .i64 0)),(.d (.int .i64 0)),.AZ] []),
 ⟨none,.st (.t 10) (.t 32) 3,none⟩,
 Qo 11 (.mv (.c (.d (.int .i64 3))))] [10,11])
 .ret)
 .skip)))
 (.seq (.reg [Qo 34 (.bin .eql (.t 21) (.c (.d (.int .i64 5)))),
 Qm 33 34] [1,2,4,5,8,10,12,33])
 (.cond (.t 33) (.seq (.reg [Qm 35 1,
 Qo 36 (.fld (.t 8) 1),
 Qo 37 (.ldl (.t 36) none),
 Qo 38 (.call 59 [(.t 35),(.t 37)]),
 Qo 39 (.fld (.t 12) 1),
 ⟨none,.st (.t 39) (.t 38) 1,none⟩] [1,2,4,5,8,10,12])
 (.seq (.seq (.reg [Qo 40 (.fld (.t 12) 1),
 Qo 41 (.ldl (.t 40) none),
 Qo 42 (.bin .lss (.t 41) (.c (.d (.int .i64 0))))] [1,2,4,5,8,10,12,42])
 (.cond (.t 42) (.seq (.reg [Qo 43 (.bld [(.d (.int .i64 0)),(.d (.int .i64 0)),.AZ] []),
 ⟨none,.st (.t 10) (.t 43) 3,none⟩,
 Qo 11 (.mv (.c (.d (.int .i64 3))))] [10,11])
 .ret)
 .skip))
 (.seq (.seq (.reg [Qo 44 (.fld (.t 8) 2),
 Qo 45 (.ldl (.t 44) none),
 Qo 46 (.len (.t 45)),
 Qo 47 (.fld (.t 5) 0),
 Qo 48 (.ldl (.t 47) none),
 Qo 49 (.fld (.t 12) 1),
 Qo 50 (.ldl (.t 49) none),
 Qo 51 (.ix (.t 48) (.t 50) 3),
 Qo 52 (.fld (.t 51) 1),
 Qo 53 (.ld (.t 52) none),
 Qo 54 (.len (.t 53)),
 Qo 55 (.bin .neq (.t 46) (.t 54))] [1,2,4,5,8,10,12,55])
 (.cond (.t 55) (.seq (.reg [Qo 56 (.bld [(.d (.int .i64 0)),(.d (.int .i64 0)),.AZ] []),
 ⟨none,.st (.t 10) (.t 56) 3,none⟩,
 Qo 11 (.mv (.c (.d (.int .i64 5))))] [10,11])
 .ret)
 .skip))
 (.seq (.reg [Qo 57 (.fld (.t 12) 1),
 Qo 58 (.ldl (.t 57) none),
 Qm 59 1,
 Qo 60 (.len (.t 59)),
 Qo 61 (.bin .sub (.t 60) (.c (.d (.int .i64 1)))),
 Qo 62 (.bin .eql (.t 58) (.t 61))] [1,2,4,5,8,10,12,62])
 (.cond (.t 62) (.seq (.seq (.reg [Qo 13 (.mv (.c (.d (.int .i64 0))))] [1,2,4,5,8,10,12,13])
 (.block 1 (.loop Se)))
 (.seq (.reg [Qm 91 4,
 Qo 92 (.un .not (.t 91))] [1,2,5,8,10,12,92])
 (.cond (.t 92) (.seq (.reg [Qo 93 (.bld [(.d (.int .i64 0)),(.d (.int .i64 0)),.AZ] []),
 ⟨none,.st (.t 10) (.t 93) 3,none⟩,
 Qo 11 (.mv (.c (.d (.int .i64 7))))] [10,11])
 .ret)
 .skip)))
 .skip)))))
 .skip))))))
 (.seq (.seq (.reg [Qo 14 (.mv (.c (.d (.int .i64 0))))] [1,2,5,8,10,12,14])
 (.block 3 (.loop Mx)))
 (.seq (.reg [Qo 123 (.ldl (.t 12) (some 3)),
 ⟨none,.st (.t 10) (.t 123) 3,none⟩,
 Qo 11 (.mv (.c (.d (.int .i64 0))))] [10,11])
 .ret)))))
def Wy:List (List Nat×PT):=[([1,2,4,5,8,10],.done),([1,2,4,5,8,10,12],.done),([1,2,4,5,8,10,12,21],.done),([1,2,4,5,8,10,12,21,22],.done),([1,2,5,8,10,12],.done),([1,2,5,8,10,12,31],.done),([10,11],.done),([1,2,4,5,8,10,12,33],.done),([1,2,4,5,8,10,12],.done),([1,2,4,5,8,10,12,42],.done),([10,11],.done),([1,2,4,5,8,10,12,55],.done),([10,11],.done),([1,2,4,5,8,10,12,62],.done),([1,2,4,5,8,10,12,13],.done),([1,2,4,5,8,10,12,13,67],.done),([1,2,4,5,8,10,12,13,89],.done),([10,11],.done),([1,2,4,5,8,10,12,13],.done),([1,2,5,8,10,12,92],.done),([10,11],.done),([1,2,5,8,10,12,14],.done),([1,2,5,8,10,12,14,98],.done),([1,2,5,8,10,12,14,15,16],(.lay 12 (.one 0 (.one 1 (.one 2 (.one 3 (.one 4 (.one 5 (.one 6 (.one 7 (.one 8 (.one 9 (.one 10 (.one 11 (.one 13 (.one 14 .done)))))))))))))))),([1,2,5,8,10,12,14,15,16,114],.done),([10,11],.done),([1,2,5,8,10,12,14],.done),([1,2,5,8,10,12,14],.done),([10,11],.done)]
noncomputable def G1:Cx:=⟨Tryz.prog,60,Tryz.f60,124,[300018,300021,300026,300030,300037,300041,300045,300048,300050,300058,300065,300071,300079,300096,300102,300106,300118,300119,300123],[],[.c 10 (some 3),.t 11]⟩
theorem EE:Good G1:=⟨Tryz.func60,by kernel_rfl⟩
theorem V8:G1.rs=[.c 10 (some 3),.t 11]:=rfl
theorem W9 (hl:args.length≤124) (h:Run G1 K [.code W0] (BN args) E σ):AL Tryz.prog 60 args σ K:=
 AW (cx:=G1) (code:=Tryz.f60.body.getD .skip) EE (by kernel_rfl) Tryz.ntmps60 hl (AX G1 _ Wy _ [] (by kernel_rfl)) h
def Ot:C:=(.seq (.seq (.reg [Qm 15 8,
 Qm 16 0,
 Qm 17 7,
 Qo 18 (.ix (.t 16) (.t 17) 3),
 Qo 19 (.fld (.t 18) 2),
 Qo 20 (.ld (.t 19) none),
 Qo 21 (.len (.t 20)),
 Qo 22 (.bin .lss (.t 15) (.t 21))] [0,1,7,8,22])
 (.cond (.t 22) .skip
 (.exit 2)))
 (.seq (.block 3 (.seq (.reg [Qm 25 0,
 Qm 26 7,
 Qo 27 (.ix (.t 25) (.t 26) 3),
 Qo 28 (.fld (.t 27) 2),
 Qo 29 (.ld (.t 28) none),
 Qm 30 8,
 Qo 31 (.ix (.t 29) (.t 30) 2),
 Qo 32 (.fld (.t 31) 0),
 Qo 33 (.ld (.t 32) none),
 Qm 34 1,
 Qo 35 (.bin .eql (.t 33) (.t 34))] [0,1,7,8,35])
 (.cond (.t 35) (.seq (.reg [Qm 36 7,
 Qm 37 8,
 Qm 4 36,
 Qm 5 37,
 Qo 6 (.mv (.c (.d (.bool true))))] [4,5,6])
 .ret)
 .skip)))
 (.reg [Qm 23 8,
 Qo 24 (.bin .add (.t 23) (.c (.d (.int .i64 1)))),
 Qm 8 24] [0,1,7,8])))
def Ou:C:=(.seq (.seq (.reg [Qm 9 7,
 Qm 10 0,
 Qo 11 (.len (.t 10)),
 Qo 12 (.bin .lss (.t 9) (.t 11))] [0,1,7,12])
 (.cond (.t 12) .skip
 (.exit 0)))
 (.seq (.block 1 (.seq (.reg [Qo 8 (.mv (.c (.d (.int .i64 0))))] [0,1,7,8])
 (.block 2 (.loop Ot))))
 (.reg [Qm 13 7,
 Qo 14 (.bin .add (.t 13) (.c (.d (.int .i64 1)))),
 Qm 7 14] [0,1,7])))
def Lg:C:=(.seq (.reg [Qo 4 (.mv (.c (.d (.int .i64 0)))),
 Qo 5 (.mv (.c (.d (.int .i64 0)))),
 Qo 6 (.mv (.c (.d (.bool false))))] [0,1])
 (.seq (.seq (.reg [Qo 7 (.mv (.c (.d (.int .i64 0))))] [0,1,7])
 (.block 0 (.loop Ou)))
 (.seq (.reg [Qo 4 (.mv (.c (.d (.int .i64 0)))),
 Qo 5 (.mv (.c (.d (.int .i64 0)))),
 Qo 6 (.mv (.c (.d (.bool false))))] [4,5,6])
 .ret)))
noncomputable def FA:Cx:=⟨Tryz.prog,67,Tryz.f67,38,[],[],[.t 4,.t 5,.t 6]⟩
theorem I2:Good FA:=⟨Tryz.func67,by kernel_rfl⟩
theorem RA:FA.rs=[.t 4,.t 5,.t 6]:=rfl
theorem Rc (hl:args.length≤38) (h:Run FA K [.code Lg] (BN args) E σ):AL Tryz.prog 67 args σ K:=
 AW (cx:=FA) (code:=Tryz.f67.body.getD .skip) I2 (by kernel_rfl) Tryz.ntmps67 hl (AX FA _ (B2 Lg) _ [] (by kernel_rfl)) h
def J9:C:=(.seq (.seq (.reg [Qm 70 12,
 Qm 71 5,
 Qo 72 (.len (.t 71)),
 Qo 73 (.bin .lss (.t 70) (.t 72))] [0,1,5,6,7,8,9,10,12,73])
 (.cond (.t 73) .skip
 (.exit 2)))
 (.seq (.block 3 (.reg [Qm 76 7,
 Qm 77 76,
 ⟨some 78,.mv (.t 9),some (77,true)⟩,
 ⟨some 79,.mv (.t 6),some (77,true)⟩,
 ⟨some 80,.bin .eql (.t 78) (.t 79),some (77,true)⟩,
 ⟨some 81,.mv (.t 80),some (77,true)⟩,
 ⟨some 82,.mv (.t 5),some (81,true)⟩,
 ⟨some 83,.mv (.t 12),some (81,true)⟩,
 ⟨some 84,.ix (.t 82) (.t 83) 1,some (81,true)⟩,
 ⟨some 85,.ld (.t 84) none,some (81,true)⟩,
 ⟨some 86,.mv (.t 10),some (81,true)⟩,
 ⟨some 87,.bin .eql (.t 85) (.t 86),some (81,true)⟩,
 ⟨some 88,.pick (.t 81) (.t 87) (.c (.d (.bool false))),some (77,true)⟩,
 ⟨some 89,.un .not (.t 88),some (77,true)⟩,
 Qo 90 (.pick (.t 77) (.t 89) (.c (.d (.bool false)))),
 Qm 7 90] [0,1,5,6,7,8,9,10,12]))
 (.reg [Qm 74 12,
 Qo 75 (.bin .add (.t 74) (.c (.d (.int .i64 1)))),
 Qm 12 75] [0,1,5,6,7,8,9,10,12])))
def Ov:C:=(.seq (.seq (.reg [Qm 13 8,
 Qm 14 1,
 Qo 15 (.len (.t 14)),
 Qo 16 (.bin .lss (.t 13) (.t 15))] [0,1,5,6,7,8,16])
 (.cond (.t 16) .skip
 (.exit 0)))
 (.seq (.block 1 (.seq (.reg [Qm 20 0,
 Qo 21 (.nck (.t 20)),
 Qo 22 (.fld (.t 21) 2),
 Qo 23 (.ld (.t 22) none),
 Qm 24 1,
 Qm 25 8,
 Qo 26 (.ix (.t 24) (.t 25) 8),
 Qo 27 (.fld (.t 26) 0),
 Qo 28 (.ld (.t 27) none),
 Qo 29 (.call 67 [(.t 23),(.t 28)]),
 Qm 19 29,
 Qo 30 (.ext (.t 19) 0),
 Qo 31 (.ext (.t 19) 1),
 Qo 32 (.ext (.t 19) 2),
 Qm 9 30,
 Qm 10 31,
 Qm 11 32] [0,1,5,6,7,8,9,10,11])
 (.seq (.seq (.reg [Qm 33 11,
 Qo 34 (.un .not (.t 33))] [0,1,5,6,7,8,9,10,34])
 (.cond (.t 34) (.seq (.reg [Qo 4 (.mv (.c (.d (.int .i64 3))))] [4])
 .ret)
 .skip))
 (.seq (.seq (.reg [Qm 35 1,
 Qm 36 8,
 Qo 37 (.ix (.t 35) (.t 36) 8),
 Qo 38 (.fld (.t 37) 1),
 Qo 39 (.ld (.t 38) none),
 Qo 40 (.len (.t 39)),
 Qm 41 0,
 Qo 42 (.nck (.t 41)),
 Qo 43 (.fld (.t 42) 2),
 Qo 44 (.ld (.t 43) none),
 Qm 45 9,
 Qo 46 (.ix (.t 44) (.t 45) 3),
 Qo 47 (.fld (.t 46) 2),
 Qo 48 (.ld (.t 47) none),
 Qm 49 10,
 Qo 50 (.ix (.t 48) (.t 49) 2),
 Qo 51 (.fld (.t 50) 1),
 Qo 52 (.ld (.t 51) none),
 Qo 53 (.len (.t 52)),
 Qo 54 (.bin .neq (.t 40) (.t 53))] [0,1,5,6,7,8,9,10,54])
 (.cond (.t 54) (.seq (.reg [Qo 4 (.mv (.c (.d (.int .i64 5))))] [4])
 .ret)
 .skip))
 (.seq (.seq (.reg [Qm 55 1,
 Qm 56 8,
 Qo 57 (.ix (.t 55) (.t 56) 8),
 Qo 58 (.fld (.t 57) 1),
 Qo 59 (.ld (.t 58) none),
 Qo 60 (.call 38 [(.t 59)])] [0,1,5,6,7,8,9,10,60])
 (.cond (.t 60) (.seq (.reg [Qo 4 (.mv (.c (.d (.int .i64 4))))] [4])
 .ret)
 .skip))
 (.seq (.seq (.reg [Qm 61 6,
 Qo 62 (.bin .lss (.t 61) (.c (.d (.int .i64 0))))] [0,1,5,6,7,8,9,10,62])
 (.cond (.t 62) (.reg [Qm 63 9,
 Qm 6 63] [0,1,5,6,7,8,9,10])
 .skip))
 (.seq (.reg [Qm 64 7,
 Qm 65 64,
 ⟨some 66,.mv (.t 9),some (65,true)⟩,
 ⟨some 67,.mv (.t 6),some (65,true)⟩,
 ⟨some 68,.bin .eql (.t 66) (.t 67),some (65,true)⟩,
 Qo 69 (.pick (.t 65) (.t 68) (.c (.d (.bool false)))),
 Qm 7 69] [0,1,5,6,7,8,9,10])
 (.seq (.seq (.reg [Qo 12 (.mv (.c (.d (.int .i64 0))))] [0,1,5,6,7,8,9,10,12])
 (.block 2 (.loop J9)))
 (.reg [Qm 91 5,
 Qm 92 10,
 Qo 93 (.bsl 1 1 [(.d (.int .i64 0))] [(0,1,(.t 92))]),
 Qo 94 (.app 3 1 8 (.t 91) (.t 93)),
 Qm 5 94] [0,1,5,6,7,8])))))))))
 (.reg [Qm 17 8,
 Qo 18 (.bin .add (.t 17) (.c (.d (.int .i64 1)))),
 Qm 8 18] [0,1,5,6,7,8])))
def Lh:C:=(.seq (.reg [Qo 4 (.mv (.c (.d (.int .i64 0))))] [0,1])
 (.seq (.reg [Qo 5 (.mv (.c .AZ))] [0,1,5])
 (.seq (.reg [Qo 6 (.mv (.c (.d (.int .i64 (-1)))))] [0,1,5,6])
 (.seq (.reg [Qo 7 (.mv (.c (.d (.bool true))))] [0,1,5,6,7])
 (.seq (.seq (.reg [Qo 8 (.mv (.c (.d (.int .i64 0))))] [0,1,5,6,7,8])
 (.block 0 (.loop Ov)))
 (.seq (.seq (.reg [Qm 95 7,
 Qo 96 (.un .not (.t 95)),
 Qm 97 96,
 ⟨some 98,.mv (.t 1),some (97,false)⟩,
 ⟨some 99,.len (.t 98),some (97,false)⟩,
 ⟨some 100,.mv (.t 0),some (97,false)⟩,
 ⟨some 101,.nck (.t 100),some (97,false)⟩,
 ⟨some 102,.fld (.t 101) 2,some (97,false)⟩,
 ⟨some 103,.ld (.t 102) none,some (97,false)⟩,
 ⟨some 104,.mv (.t 6),some (97,false)⟩,
 ⟨some 105,.ix (.t 103) (.t 104) 3,some (97,false)⟩,
 ⟨some 106,.fld (.t 105) 2,some (97,false)⟩,
 ⟨some 107,.ld (.t 106) none,some (97,false)⟩,
 ⟨some 108,.len (.t 107),some (97,false)⟩,
 ⟨some 109,.bin .neq (.t 99) (.t 108),some (97,false)⟩,
 Qo 110 (.pick (.t 97) (.c (.d (.bool true))) (.t 109))] [110])
 (.cond (.t 110) (.seq (.reg [Qo 4 (.mv (.c (.d (.int .i64 7))))] [4])
 .ret)
 .skip))
 (.seq (.reg [Qo 4 (.mv (.c (.d (.int .i64 0))))] [4])
 .ret)))))))
noncomputable def D4:Cx:=⟨Tryz.prog,68,Tryz.f68,111,[],[],[.t 4]⟩
theorem DZ:Good D4:=⟨Tryz.func68,by kernel_rfl⟩
theorem RE:D4.rs=[.t 4]:=rfl
theorem Rd (hl:args.length≤111) (h:Run D4 K [.code Lh] (BN args) E σ):AL Tryz.prog 68 args σ K:=
 AW (cx:=D4) (code:=Tryz.f68.body.getD .skip) DZ (by kernel_rfl) Tryz.ntmps68 hl (AX D4 _ (B2 Lh) _ [] (by kernel_rfl)) h
attribute [go_sem] PD U2 YB Z3 QJ NV YC Z4 V8 RA RE
end Go.Ab
