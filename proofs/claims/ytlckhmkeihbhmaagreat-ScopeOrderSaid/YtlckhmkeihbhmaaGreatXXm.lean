/- Components: the rows of reach. Several owned slices side by side. Several owned slices, as a list. Components: groups that are ready. Conditions: none. -/
import Derived.Test.YtlckhmkeihbhmaaGreatXVr
set_option linter.unusedSimpArgs false
set_option linter.unusedVariables false
set_option maxRecDepth 4000
set_option maxHeartbeats 8000000
open Ne renaming symm→CL
open List renaming replicate→AH,take→DJ,drop→Cq,getElem?_set→BW,mem_cons_self→BG,mem_cons_of_mem→B6,pairwise_cons→HT,mem_cons→Bc,getElem?_map→Ag,getElem?_range→DC,all_eq_true→Ah,mem_range→Ci,range→An,filter_append→Ki,length_filter_le→F6,length_range→Lc,length_map→AA,length_cons→A9,length_nil→CN,map_append→Kg,mem_singleton→Bd,length_append→AS,append_nil→Ao
open Nat renaming mul_one→Ax,mul_le_mul→Le,lt_or_ge→Bt,mul_le_mul_right→BQ,succ_mul→JQ
open Option.some renaming injEq→AJ
open Bool renaming eq_false_iff→CU
namespace Go.Ab
open Go.Proofs
structure RS (σ:AF) (g:List (List Nat)) (j1 j3 j4 jr:Nat) (i m:Nat) (cells:List AV) (τ:AF):Prop where
 b1:τ.blk j1=some [.d (.sl (g.map J1))]
 b3:τ.blk j3=some [.d (.int .i64 g.length)]
 b4:τ.blk j4=some [.ms jr g.length 1 78]
 br:τ.blk jr=some cells
 cl:cells.length=g.length
 rows:∀k,k < i→∃jk,cells[k]?=some (.ms jk g.length 1 4)∧τ.blk jk=some (BZ (Xt g k))∧jk≠jr
 rest:∀k,m≤k→k < g.length→cells[k]?=some .AZ
 le:σ.le τ
 nr:σ.blk jr=none
 n1:jr≠j1
 n3:jr≠j3
 n4:jr≠j4
theorem AF.le.none {σ τ:AF} (h:σ.le τ) {j:Nat} (hj:τ.blk j=none):σ.blk j=none:=by
 cases hc:σ.blk j with
 |none=>rfl
 |some c=>rw [h.blk j c hc] at hj;cases hj
theorem RS.new {σ τ:AF} {g:List (List Nat)} {j1 j3 j4 jr i m:Nat} {cells:List AV} (h:RS σ g j1 j3 j4 jr i m cells τ) {j:Nat} (hj:σ.blk j=none) (n1:j≠j1) (n3:j≠j3) (n4:j≠j4) (nr:j≠jr) (hk:∀k jk,k < i→cells[k]?=some (.ms jk g.length 1 4)→jk≠j) (cs:List AV):RS σ g j1 j3 j4 jr i m cells (τ.AO j cs):=
 ⟨by rw [AM,if_neg (CL n1)];exact h.b1,by rw [AM,if_neg (CL n3)];exact h.b3,by rw [AM,if_neg (CL n4)];exact h.b4,by rw [AM,if_neg (CL nr)];exact h.br,h.cl,
   fun k hki=>by
    obtain ⟨jk,h1,h2,h3⟩:=h.rows k hki
    exact ⟨jk,h1,by rw [AM,if_neg (hk k jk hki h1)];exact h2,h3⟩,h.rest,DH h.le hj,h.nr,h.n1,h.n3,h.n4⟩
theorem RS.fresh {σ τ:AF} {g:List (List Nat)} {j1 j3 j4 jr i m:Nat} {cells:List AV} (h:RS σ g j1 j3 j4 jr i m cells τ) {j:Nat} (hj:τ.blk j=none):σ.blk j=none∧j≠j1∧j≠j3∧j≠j4∧j≠jr∧∀k jk,k < i→cells[k]?=some (.ms jk g.length 1 4)→jk≠j:=by
 refine ⟨h.le.none hj,fun e=>?_,fun e=>?_,fun e=>?_,fun e=>?_,fun k jk hk hc e=>?_⟩
 · rw [e,h.b1] at hj;cases hj
 · rw [e,h.b3] at hj;cases hj
 · rw [e,h.b4] at hj;cases hj
 · rw [e,h.br] at hj;cases hj
 · obtain ⟨jk',h1,h2,_⟩:=h.rows k hk
   rw [hc] at h1;cases h1
   rw [e,hj] at h2;cases h2
theorem RS.bt {σ τ:AF} {g:List (List Nat)} {j1 j3 j4 jr i m:Nat} {cells:List AV} (h:RS σ g j1 j3 j4 jr i m cells τ) {j:Nat} {x:Nat×TypeId} (hj:τ.bt j=none):RS σ g j1 j3 j4 jr i m cells (τ.DF j x):=
 ⟨h.b1,h.b3,h.b4,h.br,h.cl,h.rows,h.rest,Qt h.le hj,h.nr,h.n1,h.n3,h.n4⟩
theorem HH {τ:AF} {j k:Nat} {x:List AV} (h:τ.blk j=some x) (hk:τ.blk k=none) (cs:List AV):(τ.AO k cs).blk j=some x:=by
 rw [AM,if_neg (fun e=>by rw [e,hk] at h;cases h)];exact h
def hY (F0:Fm) (τ:AF) (jr n i:Nat) (cells:List AV) (F:Fm) (L:Lm) (τ':AF):Prop:=
 ∃jw,τ.blk jw=none∧ME [1,3,4,5,18,19] F=F0∧IS [1,3,4,5,18,19] L=E∧τ'=(τ.AO jw (BZ (AH n false))).AO jr (cells.set i (.ms jw n 1 4))
theorem hY.mk {F0:Fm} {τ:AF} {jr n i:Nat} {cells:List AV} {F:Fm} {L:Lm} {τ':AF} (jw:Nat) (h1:τ.blk jw=none) (h2:ME [1,3,4,5,18,19] F=F0) (h3:IS [1,3,4,5,18,19] L=E) (h4:τ'=(τ.AO jw (BZ (AH n false))).AO jr (cells.set i (.ms jw n 1 4))):hY F0 τ jr n i cells F L τ':=⟨jw,h1,h2,h3,h4⟩
theorem iI (Q:AV→AF→Prop) (rest:List CI) (g:List (List Nat)) (hg:N9 g) (hgl:g.length≤1000) (hll:∀l∈g,l.length≤1000) (j1 j3 j4 jr:Nat) (σ τ:AF) (cells:List AV) (h:RS σ g j1 j3 j4 jr 0 0 cells τ)
 (hfin:∀cells' τ',RS σ g j1 j3 j4 jr g.length g.length cells' τ'→Run B0 Q rest (put 1 (.gp j1 0) (put 3 (.gp j3 0) (put 4 (.gp j4 0) (put 18 (.d (.int .i64 g.length)) (put 19 (.d (.int .i64 g.length)) (put 20 (.d (.bool false)) U)))))) E τ'):
 Run B0 Q (.code (.loop IG)::.blk 0::rest) (put 1 (.gp j1 0) (put 3 (.gp j3 0) (put 4 (.gp j4 0) (put 18 (.d (.int .i64 g.length)) (put 19 (.d (.int .i64 0)) U))))) E τ:=by
 refine Run.BD ?_
 refine Run.BK ((fun (a1:AV) (a3:AV) (a4:AV) (a18:AV)=>fun (y:Nat×List AV×AF)=>put 1 a1 (put 3 a3 (put 4 a4 (put 18 a18 (put 19 (.d (.int .i64 y.1)) U))))) _ _ _ _) (fun _=>E) (fun y=>y.2.2)
  (fun y=>y.1≤g.length∧RS σ g j1 j3 j4 jr y.1 y.1 y.2.1 y.2.2) (fun y=>g.length - y.1) ?_ (0,cells,τ) ⟨by simp,h⟩
 clear h
 rintro ⟨i,cells,τ⟩ ⟨hi,h⟩ ih
 simp only at hi h
 by_cases hlt:i < g.length
 · have hw1:=A5 (show i+1≤9000000000000000000 by omega)
   have hil:((i:Int) < (g.length:Int))=True:=by simp only [eq_iff_iff,iff_true];omega
   (repeat' (first|refine Run.ct rfl ?_|((first|refine Run.reg mixed ?_|refine Run.AE ?_)<;>try simp -implicitDefEqProofs only [Ac hlt,go_sem])|fail))
   rintro j5 ⟨hj5,hjb5⟩
   obtain ⟨f1,f2,f3,f4,f5,f6⟩:=h.fresh hj5
   have h1:=((h.new f1 f2 f3 f4 f5 f6 [.d (.int .i64 0)]).bt (x:=(1,3)) hjb5).new f1 f2 f3 f4 f5 f6 [.d (.int .i64 i)]
   have hb5:((((τ.AO j5 [AV.d (.int .i64 0)]).DF j5 (1,3))).AO j5 [.d (.int .i64 i)]).blk j5=some [.d (.int .i64 i)]:=by rw [AM,if_pos rfl]
   have hbt:∀(τ:AF) (x:Nat×TypeId),(τ.DF j5 x).blk=τ.blk:=fun _ _=>rfl
   simp -implicitDefEqProofs only [hbt,AM,go_sem]
   generalize ((τ.AO j5 [AV.d (.int .i64 0)]).DF j5 (1,3)).AO j5 [AV.d (.int .i64 i)]=τ1 at h1 hb5 ⊢
   clear hbt h hj5 hjb5
   have hil2:(i+1≤cells.length)=True:=by rw [h1.cl];simp;omega
   have hwr:∀x:AV,DJ i cells++[x]++Cq (i+1) cells=cells.set i x:=fun x=>wr1 x (by rw [h1.cl];exact hlt)
   refine Run.ct rfl ?_
   refine Run.aF mixed (hY (put 1 (.gp j1 0) (put 3 (.gp j3 0) (put 4 (.gp j4 0) (put 5 (.gp j5 0) (put 18 (.d (.int .i64 g.length)) (put 19 (.d (.int .i64 i)) U)))))) τ1 jr g.length i cells) ?_ ?_
   · simp -implicitDefEqProofs only [h1.b3,h1.b4,hb5,h1.br,hil,Ax,and_true,go_sem]
     (repeat' (first|refine And.intro ?_ ?_|(refine S9.mk (n:=g.length) (by omega) (by omega) (fun jw hjw=>?_);simp -implicitDefEqProofs only [Ob,HH h1.b4 hjw,HH hb5 hjw,HH h1.br hjw,hil,hil2,hwr,h1.b4,hb5,h1.br,Ax,and_true,go_sem];try (refine hY.mk jw hjw (by simp -implicitDefEqProofs only [go_sem]) (by simp -implicitDefEqProofs only [go_sem]) ?_;rfl))))
   · rintro F L τ2 ⟨jw,hjw,hF,hL,rfl⟩
     rw [hF,hL]
     clear hF hL
     have hjwr:jw≠jr:=fun e=>by rw [e,h1.br] at hjw;cases hjw
     have h2:RS σ g j1 j3 j4 jr i (i+1) (cells.set i (.ms jw g.length 1 4)) ((τ1.AO jw (BZ (AH g.length false))).AO jr (cells.set i (.ms jw g.length 1 4))):=by
      have hs:∀j x,τ1.blk j=some x→j≠jr→((τ1.AO jw (BZ (AH g.length false))).AO jr (cells.set i (.ms jw g.length 1 4))).blk j=some x:=fun j x hx hne=>by
       rw [AM,if_neg hne];exact HH hx hjw _
      refine ⟨hs _ _ h1.b1 (CL h1.n1),hs _ _ h1.b3 (CL h1.n3),hs _ _ h1.b4 (CL h1.n4),by rw [AM,if_pos rfl],by rw [List.length_set];exact h1.cl,fun k hk=>?_,fun k hk hkl=>?_,DH (DH h1.le (h1.le.none hjw)) h1.nr,h1.nr,h1.n1,h1.n3,h1.n4⟩
      · obtain ⟨jk,g1,g2,g3⟩:=h1.rows k hk
        exact ⟨jk,by rw [BW,if_neg (by omega)];exact g1,hs _ _ g2 g3,g3⟩
      · rw [BW,if_neg (by omega)];exact h1.rest k (by omega) hkl
     have hw2:((τ1.AO jw (BZ (AH g.length false))).AO jr (cells.set i (.ms jw g.length 1 4))).blk jw=some (BZ (AH g.length false)):=by
      rw [AM,if_neg hjwr,AM,if_pos rfl]
     have hb52:((τ1.AO jw (BZ (AH g.length false))).AO jr (cells.set i (.ms jw g.length 1 4))).blk j5=some [.d (.int .i64 i)]:=by
      rw [AM,if_neg f5];exact HH hb5 hjw _
     have hci:(cells.set i (AV.ms jw g.length 1 4))[i]?=some (.ms jw g.length 1 4):=by rw [BW,if_pos rfl,if_pos (by rw [h1.cl];exact hlt)]
     have hw51:jw≠j5:=fun e=>by rw [e,hb5] at hjw;cases hjw
     have hwn:jw≠j1∧jw≠j3∧jw≠j4:=⟨fun e=>(by rw [e,h1.b1] at hjw;cases hjw),fun e=>(by rw [e,h1.b3] at hjw;cases hjw),fun e=>(by rw [e,h1.b4] at hjw;cases hjw)⟩
     have hrw:∀k jk,k < i→(cells.set i (AV.ms jw g.length 1 4))[k]?=some (.ms jk g.length 1 4)→jk≠jw:=fun k jk hk hc e=>by
      rw [BW,if_neg (by omega)] at hc
      obtain ⟨jk',g1,g2,_⟩:=h1.rows k hk
      rw [hc] at g1;cases g1
      rw [e,hjw] at g2;cases g2
     have hjw0:=h1.le.none hjw
     generalize (τ1.AO jw (BZ (AH g.length false))).AO jr (cells.set i (.ms jw g.length 1 4))=τ2 at h2 hw2 hb52 ⊢
     clear h1 hb5 hil2 hwr hjw
     generalize cells.set i (AV.ms jw g.length 1 4)=cells2 at h2 hci hrw
     (repeat' (first|refine Run.ct rfl ?_|((first|refine Run.reg mixed ?_|refine Run.AE ?_)<;>try simp -implicitDefEqProofs only [hw1,go_sem])|fail))
     rintro j6 ⟨hj6,hjb6⟩
     obtain ⟨e1,e2,e3,e4,e5,e6⟩:=h2.fresh hj6
     have h2b:=(h2.new e1 e2 e3 e4 e5 e6 [.Hy]).bt (x:=(1,102)) hjb6
     have n56:j5≠j6:=fun e=>by rw [← e,hb52] at hj6;cases hj6
     have nw6:jw≠j6:=fun e=>by rw [← e,hw2] at hj6;cases hj6
     have hbt:∀(τ:AF) (x:Nat×TypeId),(τ.DF j6 x).blk=τ.blk:=fun _ _=>rfl
     have hb6':((τ2.AO j6 [AV.Hy]).DF j6 (1,102)).blk j6=some [.Hy]:=by rw [hbt,AM,if_pos rfl]
     have hb53:((τ2.AO j6 [AV.Hy]).DF j6 (1,102)).blk j5=some [.d (.int .i64 i)]:=by rw [hbt,AM,if_neg n56];exact hb52
     have hw3:((τ2.AO j6 [AV.Hy]).DF j6 (1,102)).blk jw=some (BZ (AH g.length false)):=by rw [hbt,AM,if_neg nw6];exact hw2
     generalize (τ2.AO j6 [AV.Hy]).DF j6 (1,102)=τ3 at h2b hb6' hb53 hw3 ⊢
     clear hbt h2 hw2 hb52 hj6 hjb6
     have h3:=h2b.new e1 e2 e3 e4 e5 e6 [.fn 69 [] [.gp j4 0,.gp j5 0,.gp j1 0,.gp j6 0]]
     replace hb53:(τ3.AO j6 [.fn 69 [] [.gp j4 0,.gp j5 0,.gp j1 0,.gp j6 0]]).blk j5=some [.d (.int .i64 i)]:=by rw [AM,if_neg n56];exact hb53
     replace hw3:(τ3.AO j6 [.fn 69 [] [.gp j4 0,.gp j5 0,.gp j1 0,.gp j6 0]]).blk jw=some (BZ (AH g.length false)):=by rw [AM,if_neg nw6];exact hw3
     have hb6:(τ3.AO j6 [.fn 69 [] [.gp j4 0,.gp j5 0,.gp j1 0,.gp j6 0]]).blk j6=some [.fn 69 [] [.gp j4 0,.gp j5 0,.gp j1 0,.gp j6 0]]:=by rw [AM,if_pos rfl]
     have hcb:CB g j1 j4 j5 j6 jr jw i cells2 (AH g.length false) _:=⟨h3.b1,h3.b4,hb53,hb6,h3.br,h3.cl,hci,hlt,hw3,by simp,hwn.1,hwn.2.2,hw51,nw6,hjwr⟩
     have hcl:=eQ g hg hgl hll j1 j4 j5 j6 jr jw i cells2 _ (AH g.length false) i _ rfl hlt hcb
     (repeat' (first|refine Run.ct rfl ?_|((first|refine Run.reg mixed ?_|refine Run.AE ?_|(refine ⟨_,[],[.gp j4 0,.gp j5 0,.gp j1 0,.gp j6 0],rfl,by kernel_rfl,AI.mk rfl hcl ?_⟩;rintro _ _ ⟨R2,rfl,rfl,hd⟩))<;>try simp -implicitDefEqProofs only [hb6',Cq,hb6,hb53,hw1,go_sem])|fail))
     have hR:=iM hg hlt hd
     subst hR
     refine ih (i+1,cells2,_) ⟨by simp only;omega,?_⟩ (by simp only;omega)
     have h4:=h3.new hjw0 hwn.1 hwn.2.1 hwn.2.2 hjwr hrw (BZ (Xt g i))
     refine ⟨h4.b1,h4.b3,h4.b4,h4.br,h4.cl,fun k hk=>?_,h4.rest,h4.le,h4.nr,h4.n1,h4.n3,h4.n4⟩
     by_cases hki:k=i
     · subst hki
       exact ⟨jw,hci,if_pos rfl,hjwr⟩
     · exact h4.rows k (by omega)
 · have hie:i=g.length:=by omega
   subst hie
   have:=hfin cells τ h
   (repeat' (first|refine Run.ct rfl ?_|((first|refine Run.reg mixed ?_|refine Run.AE ?_)<;>try simp -implicitDefEqProofs only [Bi hlt,go_sem])|fail))
   exact this
end Go.Ab
namespace Go.Ab
def tkA:AV→Option Nat
 | .own t _ _ _=>some t
 |_=>none
def TS (v w:AV):Prop:=∀t,tkA v=some t→tkA w≠some t
theorem TS.symm {v w:AV} (h:TS v w):TS w v:=fun t h1 h2=>h t h2 h1
theorem YY (w:AV):TS .AZ w:=fun t h=>by cases h
theorem Dh.ME {σ0 σ σ':AF} {e s:Nat} {rows:List (List DV)} {w:AV} (h:Dh σ0 e s rows w σ) (hle:σ0.le σ') (ht:∀t,tkA w=some t→σ.tok t=true→σ'.tok t=true):Dh σ0 e s rows w σ':=by
 obtain ⟨⟨σ1,ha,hl⟩,_,h1,h2,h3,h4,h5,h6,h7⟩:=h
 refine ⟨?_,hle,h1,h2,h3,h4,h5,h6,h7⟩
 unfold NM at ha ⊢
 split at ha
 · cases ha;exact ⟨σ',rfl,hle⟩
 · rename_i t e' s' rows'
   split at ha
   · rename_i hc
     cases ha
     obtain ⟨q1,q2,q3⟩:=hc
     refine ⟨σ'.Ed t,by rw [if_pos ⟨q1,q2,ht t rfl q3⟩],⟨hle.blk,fun t' h'=>?_,hle.gt,hle.bt⟩⟩
     have hne:t'≠t:=fun e=>by
      have:=hl.tok t' h'
      simp [AF.Ed,e] at this
     simp [AF.Ed,hne,hle.tok t' h']
   · cases ha
 · cases ha
theorem EY.oF {cx:Cx} {K:Fm→Lm→AF→Prop} {F:Fm} {L:Lm} {σ σ0:AF} {d:Option Nat} {e size bytes:Nat} {s x:AV} {rows srows:List (List DV)} (ho:Dh σ0 e size rows s σ) (h2:x.rows=some srows)
 (h3:∀r∈srows,r.length=size) (h4:rows.length+srows.length≤1000000000) (hb:bytes≤10000)
 (h:∀v σ',Dh σ0 e size (rows++srows) v σ'→(∀i,σ'.blk i=σ.blk i)→(∀e2 s2 rows2 w,Dh σ0 e2 s2 rows2 w σ→TS s w→Dh σ0 e2 s2 rows2 w σ'∧TS v w)→K (Ar d v F) L σ'):EY e size bytes s x d K F L σ:=by
 obtain ⟨σ1,ha,hl⟩:=ho.app
 have hblk:∀i,σ1.blk i=σ.blk i:=fun i=>by
  unfold NM at ha
  split at ha
  · cases ha;rfl
  · split at ha
    · cases ha;rfl
    · cases ha
  · cases ha
 have htok:∀t,tkA s≠some t→σ.tok t=true→σ1.tok t=true:=fun t hne ht=>by
  unfold NM at ha
  split at ha
  · cases ha;exact ht
  · rename_i ts e' s' rows'
    split at ha
    · cases ha
      have:t≠ts:=fun e=>hne (by rw [e];rfl)
      simp [AF.Ed,this,ht]
    · cases ha
  · cases ha
 refine EY.mk ha h2 h3 (by simp only [maxLen];omega) ?_ (fun t ht=>h _ _ (Dh.own hl ho.le ht) (fun i=>by rw [Pm];exact hblk i) (fun e2 s2 rows2 w hw hap=>?_))
 · calc (rows.length+srows.length) * bytes≤1000000000 * 10000:=Le h4 hb
    _≤140737488355328:=by decide
 · have hwt:∀t',tkA w=some t'→σ.tok t'=true:=fun t' h'=>by
    obtain ⟨_,hw1,_⟩:=hw.app
    cases w<;>simp only [tkA] at h'<;>try cases h'
    simp only [NM] at hw1
    split at hw1
    · rename_i hc;exact hc.2.2
    · cases hw1
   have hown:=Dh.own (e:=e) (s:=size) (rows:=rows++srows) hl ho.le ht
   refine ⟨hw.ME hown.le (fun t' h1 h2=>?_),fun t' h1 h3=>?_⟩
   · have:=htok t' (fun e=>hap t' e h1) h2
     simp [AF.Fu,this]
   · simp only [tkA,AJ] at h1
     subst h1
     rw [hwt _ h3] at ht;cases ht
end Go.Ab
namespace Go.Ab
structure Ow where
 e:Nat
 s:Nat
 rows:List (List DV)
 v:AV
def G6 (σ0:AF) (l:List Ow) (τ:AF):Prop:=(∀x∈l,Dh σ0 x.e x.s x.rows x.v τ)∧l.Pairwise fun a b=>TS a.v b.v
theorem G6.perm {σ0 τ:AF} {l m:List Ow} (h:G6 σ0 l τ) (hp:l.Perm m):G6 σ0 m τ:=
 ⟨fun x hx=>h.1 x (hp.mem_iff.2 hx),(hp.pairwise_iff (fun hab=>hab.symm)).1 h.2⟩
theorem G6.head {σ0 τ:AF} {l:List Ow} {x:Ow} (h:G6 σ0 (x::l) τ):Dh σ0 x.e x.s x.rows x.v τ:=h.1 x (BG ..)
theorem G6.tail {σ0 τ:AF} {l:List Ow} {x:Ow} (h:G6 σ0 (x::l) τ):G6 σ0 l τ:=⟨fun y hy=>h.1 y (B6 _ hy),(HT.1 h.2).2⟩
theorem G6.nil {σ0 τ:AF} {l:List Ow} (h:G6 σ0 l τ) (hle:σ0.le τ) (e s:Nat):G6 σ0 (⟨e,s,[],.AZ⟩::l) τ:=
 ⟨fun y hy=>by
   rcases Bc.1 hy with rfl|hy
   · exact ⟨⟨τ,rfl,hle⟩,hle,rfl,rfl,rfl,rfl,fun _=>rfl,rfl,rfl⟩
   · exact h.1 y hy,HT.2 ⟨fun y _=>YY y.v,h.2⟩⟩
theorem EY.c4 {cx:Cx} {K:Fm→Lm→AF→Prop} {F:Fm} {L:Lm} {σ σ0:AF} {d:Option Nat} {e size bytes:Nat} {s x:AV} {rows srows:List (List DV)} {l:List Ow} (ho:G6 σ0 (⟨e,size,rows,s⟩::l) σ) (h2:x.rows=some srows)
 (h3:∀r∈srows,r.length=size) (h4:rows.length+srows.length≤1000000000) (hb:bytes≤10000)
 (h:∀v σ',G6 σ0 (⟨e,size,rows++srows,v⟩::l) σ'→(∀i,σ'.blk i=σ.blk i)→K (Ar d v F) L σ'):EY e size bytes s x d K F L σ:=
 EY.oF (cx:=cx) ho.head h2 h3 h4 hb (fun v σ' h1 hbk hk=>h v σ' ⟨fun y hy=>by
  rcases Bc.1 hy with rfl|hy
  · exact h1
  · exact (hk _ _ _ _ (ho.tail.1 y hy) ((HT.1 ho.2).1 y hy)).1,
  HT.2 ⟨fun y hy=>(hk _ _ _ _ (ho.tail.1 y hy) ((HT.1 ho.2).1 y hy)).2,(HT.1 ho.2).2⟩⟩ hbk)
end Go.Ab
namespace Go.Ab
open Go.Proofs
theorem Qz {g:List (List Nat)} {i k:Nat} (hk:k < g.length):(Xt g i)[k]?=some (rB g i k):=by
 rw [Xt,Ag,DC hk];rfl
theorem RS.at {σ τ:AF} {g:List (List Nat)} {j1 j3 j4 jr:Nat} {cells:List AV} (h:RS σ g j1 j3 j4 jr g.length g.length cells τ) {i:Nat} (hi:i < g.length):∃ji,cells[i]?=some (.ms ji g.length 1 4)∧τ.blk ji=some (BZ (Xt g i)):=by
 obtain ⟨ji,h1,h2,_⟩:=h.rows i hi
 exact ⟨ji,h1,h2⟩
theorem ilT {i n:Nat} (h:i < n):((i:Int) < (n:Int))=True:=by simp only [eq_iff_iff,iff_true];omega
theorem eR (g:List (List Nat)) (hgl:g.length≤1000) (j1 j3 j4 jr j7 jl:Nat) (σ τ:AF) (cells:List AV) (h:RS σ g j1 j3 j4 jr g.length g.length cells τ) (ls:List Bool) (hls:ls.length=g.length) (h7:τ.blk j7=some [.ms jl g.length 1 4]) (hl:τ.blk jl=some (BZ ls)) (i:Nat) (hi:i < g.length):
 AL Tryz.prog 70 [.d (.int .i64 i),.gp j3 0,.gp j4 0,.gp j7 0] τ (fun v σ'=>v= .d (.bool (V5 g ls i))∧σ'=τ):=by
 obtain ⟨ji,hci,hbi⟩:=h.at hi
 have hil:=ilT hi
 refine OH (by simp) ?_
 rw [eF]
 (repeat' (first|refine Run.ct rfl ?_|((first|refine Run.reg mixed ?_|refine Run.AE ?_)<;>try simp -implicitDefEqProofs only [h.b3,go_sem])|fail))
 refine Run.BD ?_
 refine Run.BK ((fun (a0:AV) (a2:AV) (a3:AV) (a7:AV)=>fun (j:Nat)=>put 0 a0 (put 2 a2 (put 3 a3 (put 7 a7 (put 8 (.d (.int .i64 j)) U))))) _ _ _ _) (fun _=>E) (fun _=>τ) (fun j=>j≤g.length∧∀k,k < j→((rB g i k&& !rB g k i)&& !lsB ls k)=false) (fun j=>g.length - j) ?_ 0 ⟨by simp,fun k hk=>by omega⟩
 rintro j ⟨hj,hno⟩ ih
 by_cases hlt:j < g.length
 · obtain ⟨jj,hcj,hbj⟩:=h.at hlt
   have hjl:=ilT hlt
   have hw1:=A5 (show j+1≤9000000000000000000 by omega)
   have e1:=Em (Qz (i:=i) hlt)
   have e2:=Em (Qz (i:=j) hi)
   obtain ⟨bl,hbl⟩:=BC (show j < ls.length by omega)
   have e3:=Em hbl
   rw [← Mi hbl] at e3
   have hnx:((rB g i j&& !rB g j i)&& !lsB ls j)=false→∀k,k < j+1→((rB g i k&& !rB g k i)&& !lsB ls k)=false:=fun h0 k hk=>by
    rcases Bt k j with h|h
    · exact hno k h
    · have:k=j:=by omega
      subst this;exact h0
   cases c1:rB g i j with
   |false=>
    rw [c1] at e1
    (repeat' (first|refine Run.ct rfl ?_|((first|refine Run.reg mixed ?_|refine Run.AE ?_)<;>try simp -implicitDefEqProofs only [Ac hlt,h.b4,h.br,hci,hbi,hcj,hbj,hil,hjl,e1,hw1,Ax,go_sem])|fail))
    exact ih (j+1) ⟨by omega,hnx (by rw [c1];rfl)⟩ (by omega)
   |true=>
   rw [c1] at e1
   cases c2:rB g j i with
   |true=>
    rw [c2] at e2
    (repeat' (first|refine Run.ct rfl ?_|((first|refine Run.reg mixed ?_|refine Run.AE ?_)<;>try simp -implicitDefEqProofs only [Ac hlt,h.b4,h.br,hci,hbi,hcj,hbj,hil,hjl,e1,e2,hw1,Ax,go_sem])|fail))
    exact ih (j+1) ⟨by omega,hnx (by rw [c1,c2];rfl)⟩ (by omega)
   |false=>
   rw [c2] at e2
   cases c3:lsB ls j with
   |true=>
    rw [c3] at e3
    (repeat' (first|refine Run.ct rfl ?_|((first|refine Run.reg mixed ?_|refine Run.AE ?_)<;>try simp -implicitDefEqProofs only [Ac hlt,h.b4,h.br,hci,hbi,hcj,hbj,h7,hl,hil,hjl,e1,e2,e3,hw1,Ax,go_sem])|fail))
    exact ih (j+1) ⟨by omega,hnx (by rw [c1,c2,c3];rfl)⟩ (by omega)
   |false=>
    rw [c3] at e3
    have hr:V5 g ls i=false:=by
     rw [V5,CU]
     intro ha
     rw [Ah] at ha
     have:=ha j (Ci.2 hlt)
     rw [c1,c2,c3] at this;cases this
    (repeat' (first|refine Run.ct rfl ?_|((first|refine Run.reg mixed ?_|refine Run.AE ?_|refine Run.Fp GG (AF.le_refl _) ?_)<;>try simp -implicitDefEqProofs only [Ac hlt,h.b4,h.br,hci,hbi,hcj,hbj,h7,hl,hil,hjl,e1,e2,e3,hw1,Ax,go_sem])|fail))
    rw [hr]
 · have hr:V5 g ls i=true:=by
    rw [V5,Ah]
    intro k hk
    rw [Ci] at hk
    rw [hno k (by omega)];rfl
   (repeat' (first|refine Run.ct rfl ?_|((first|refine Run.reg mixed ?_|refine Run.AE ?_|refine Run.Fp GG (AF.le_refl _) ?_)<;>try simp -implicitDefEqProofs only [Bi hlt,go_sem])|fail))
   rw [hr]
theorem RS.tok {σ τ τ':AF} {g:List (List Nat)} {j1 j3 j4 jr i m:Nat} {cells:List AV} (h:RS σ g j1 j3 j4 jr i m cells τ) (hb:∀q,τ'.blk q=τ.blk q) (hle:σ.le τ'):RS σ g j1 j3 j4 jr i m cells τ':=
 ⟨(hb j1).trans h.b1,(hb j3).trans h.b3,(hb j4).trans h.b4,(hb jr).trans h.br,h.cl,fun k hk=>by
   obtain ⟨jk,h1,h2,h3⟩:=h.rows k hk
   exact ⟨jk,h1,(hb jk).trans h2,h3⟩,h.rest,hle,h.nr,h.n1,h.n3,h.n4⟩
theorem G6.set {σ0 τ:AF} {l:List Ow} (h:G6 σ0 l τ) {j:Nat} (hj:σ0.blk j=none) (cs:List AV):G6 σ0 l (τ.AO j cs):=⟨fun x hx=>(h.1 x hx).set hj cs,h.2⟩
structure LS (σ:AF) (g:List (List Nat)) (j1 j3 j4 jr j7 jl:Nat) (cells:List AV) (ls:List Bool) (τ:AF):Prop where
 rs:RS σ g j1 j3 j4 jr g.length g.length cells τ
 b7:τ.blk j7=some [.ms jl g.length 1 4]
 bl:τ.blk jl=some (BZ ls)
 ll:ls.length=g.length
 nl:σ.blk jl=none
 n1:jl≠j1
 n3:jl≠j3
 n4:jl≠j4
 nr:jl≠jr
 n7:jl≠j7
 nk:∀k jk,k < g.length→cells[k]?=some (.ms jk g.length 1 4)→jk≠jl
theorem LS.set {σ:AF} {g:List (List Nat)} {j1 j3 j4 jr j7 jl:Nat} {cells:List AV} {ls:List Bool} {τ:AF} (h:LS σ g j1 j3 j4 jr j7 jl cells ls τ) (ls':List Bool) (hl:ls'.length=g.length):LS σ g j1 j3 j4 jr j7 jl cells ls' (τ.AO jl (BZ ls')):=
 ⟨h.rs.new h.nl h.n1 h.n3 h.n4 h.nr h.nk _,by rw [AM,if_neg (CL h.n7)];exact h.b7,by rw [AM,if_pos rfl],hl,h.nl,h.n1,h.n3,h.n4,h.nr,h.n7,h.nk⟩
theorem LS.tok {σ:AF} {g:List (List Nat)} {j1 j3 j4 jr j7 jl:Nat} {cells:List AV} {ls:List Bool} {τ τ':AF} (h:LS σ g j1 j3 j4 jr j7 jl cells ls τ) (hb:∀q,τ'.blk q=τ.blk q) (hle:σ.le τ'):LS σ g j1 j3 j4 jr j7 jl cells ls τ':=
 ⟨h.rs.tok hb hle,(hb j7).trans h.b7,(hb jl).trans h.bl,h.ll,h.nl,h.n1,h.n3,h.n4,h.nr,h.n7,h.nk⟩
theorem iJ (Q:AV→AF→Prop) (rest:List CI) (g:List (List Nat)) (hgl:g.length≤1000) (j1 j3 j4 jr j7 jl:Nat) (σ τ:AF) (cells:List AV) (ls:List Bool) (h:LS σ g j1 j3 j4 jr j7 jl cells ls τ) (i:Nat) (hi:i < g.length) (fnv outv:AV) (orows:List (List DV)) (ho:G6 σ [⟨35,1,orows,outv⟩] τ) (hfn:∀k,fnv.BO k=false)
 (hfin:∀gv τ',LS σ g j1 j3 j4 jr j7 jl cells (OM g i ls) τ'→G6 σ [⟨3,1,(Oy g i).map HX,gv⟩,⟨35,1,orows,outv⟩] τ'→Run B0 Q rest (put 3 (.gp j3 0) (put 4 (.gp j4 0) (put 7 (.gp j7 0) (put 8 fnv (put 9 outv (put 10 (.d (.int .i64 i)) (put 11 gv (put 50 (.d (.int .i64 g.length)) (put 51 (.d (.int .i64 g.length)) (put 52 (.d (.bool false)) U)))))))))) E τ'):
 Run B0 Q (.code (.loop IH)::.blk 4::rest) (put 3 (.gp j3 0) (put 4 (.gp j4 0) (put 7 (.gp j7 0) (put 8 fnv (put 9 outv (put 10 (.d (.int .i64 i)) (put 11 .AZ (put 50 (.d (.int .i64 g.length)) (put 51 (.d (.int .i64 0)) U))))))))) E τ:=by
 have hol:=fun k=>ho.head.BO k
 simp only at hol
 have hil:=ilT hi
 refine Run.BD ?_
 refine Run.BK ((fun (a3:AV) (a4:AV) (a7:AV) (a8:AV) (a9:AV) (a10:AV) (a50:AV)=>fun (y:Nat×AV×AF)=>put 3 a3 (put 4 a4 (put 7 a7 (put 8 a8 (put 9 a9 (put 10 a10 (put 11 (y.2.1) (put 50 a50 (put 51 (.d (.int .i64 y.1)) U))))))))) _ _ _ _ _ _ _) (fun _=>E) (fun y=>y.2.2)
  (fun y=>y.1≤g.length∧LS σ g j1 j3 j4 jr j7 jl cells (Rl g i ls y.1) y.2.2∧G6 σ [⟨3,1,((An y.1).filter (FI g i)).map HX,y.2.1⟩,⟨35,1,orows,outv⟩] y.2.2) (fun y=>g.length - y.1) ?_ (0,.AZ,τ) ⟨by simp,by rw [cR h.ll];exact h,ho.nil h.rs.le _ _⟩
 rintro ⟨j,gv,τ⟩ ⟨hj,hL,hO⟩ ih
 simp only at hj hL hO
 have hgo:=hO.head
 simp only at hgo
 by_cases hlt:j < g.length
 · obtain ⟨ji,hci,hbi⟩:=hL.rs.at hi
   obtain ⟨jj,hcj,hbj⟩:=hL.rs.at hlt
   have hjl:=ilT hlt
   have hw1:=A5 (show j+1≤9000000000000000000 by omega)
   have e1:=Em (Qz (i:=i) hlt)
   have e2:=Em (Qz (i:=j) hi)
   have hst:=cQ (i:=i) (ls:=ls) hlt
   have hfs:(An (j+1)).filter (FI g i)=if FI g i j then (An j).filter (FI g i)++[j] else (An j).filter (FI g i):=by
    rw [List.range_succ,Ki]
    cases hm:FI g i j<;>simp [hm]
   have hih:=fun gv' τ' h1 h2=>ih (j+1,gv',τ') ⟨by simp only;omega,h1,h2⟩ (by simp only;omega)
   simp only at hih
   rw [hst,hfs] at hih
   cases c1:rB g i j with
   |false=>
    have hm:FI g i j=false:=by simp [FI,c1]
    rw [c1] at e1
    rw [hm] at hih
    (repeat' (first|refine Run.ct rfl ?_|((first|refine Run.reg mixed ?_|refine Run.AE ?_)<;>try simp -implicitDefEqProofs only [Ac hlt,hL.rs.b4,hL.rs.br,hci,hbi,hcj,hbj,hil,hjl,e1,hw1,Ax,hol,hgo.BO,hfn,go_sem])|fail))
    exact hih _ _ hL hO
   |true=>
   rw [c1] at e1
   cases c2:rB g j i with
   |false=>
    have hm:FI g i j=false:=by simp [FI,c2]
    rw [c2] at e2
    rw [hm] at hih
    (repeat' (first|refine Run.ct rfl ?_|((first|refine Run.reg mixed ?_|refine Run.AE ?_)<;>try simp -implicitDefEqProofs only [Ac hlt,hL.rs.b4,hL.rs.br,hci,hbi,hcj,hbj,hil,hjl,e1,e2,hw1,Ax,hol,hgo.BO,hfn,go_sem])|fail))
    exact hih _ _ hL hO
   |true=>
    have hm:FI g i j=true:=by simp [FI,c1,c2]
    rw [c2] at e2
    rw [hm] at hih
    simp only [if_true] at hih
    have hflen:(((An j).filter (FI g i)).map HX).length≤1000:=by
     have:=F6 (FI g i) (An j)
     rw [Lc] at this
     rw [AA];omega
    have hjm:j < (Rl g i ls j).length:=by rw [Hg];exact hlt
    have hb7:=hL.b7
    have hbl:=hL.bl
    have w1:=Vj true hjm
    have d1:=XJ hjm
    (repeat' (first|refine Run.ct rfl ?_|((first|refine Run.reg mixed ?_|refine Run.AE ?_|(refine EY.c4 (cx:=B0) hO rfl (by simp) (by simp only [A9,CN];omega) (by decide) (fun v2 τ2 ho2 hbk=>?_)))<;>try simp -implicitDefEqProofs only [Ac hlt,hL.rs.b4,hL.rs.br,hci,hbi,hcj,hbj,hil,hjl,e1,e2,hw1,Ax,hol,hgo.BO,hfn,go_sem])|fail))
    have hL2:=hL.tok hbk ho2.head.le
    have h2l:=ho2.head.BO
    simp only at h2l
    simp -implicitDefEqProofs only [hL2.b7,hL2.bl,hjl,w1,d1,Ax,go_sem]
    (repeat' (first|refine Run.ct rfl ?_|((first|refine Run.reg mixed ?_|refine Run.AE ?_)<;>try simp -implicitDefEqProofs only [hL2.b7,hL2.bl,hjl,w1,d1,hw1,Ax,hol,h2l,hfn,go_sem])|fail))
    exact hih _ _ (hL2.set _ (by rw [List.length_set,Hg])) (by
     rw [Kg]
     exact ho2.set hL.nl _)
 · have hje:j=g.length:=by omega
   subst hje
   have:=hfin gv τ hL hO
   (repeat' (first|refine Run.ct rfl ?_|((first|refine Run.reg mixed ?_|refine Run.AE ?_)<;>try simp -implicitDefEqProofs only [Bi hlt,hol,hgo.BO,hfn,go_sem])|fail))
   exact this
theorem iK (Q:AV→AF→Prop) (rest:List CI) (g:List (List Nat)) (hgl:g.length≤1000) (j1 j3 j4 jr j7 jl:Nat) (σ τ:AF) (cells:List AV) (h:LS σ g j1 j3 j4 jr j7 jl cells (AH g.length false) τ)
 (hfin:∀outv τ',σ.le τ'→Dh σ 35 1 ((H6 g).map J1) outv τ'→Run B0 Q rest (put 3 (.gp j3 0) (put 4 (.gp j4 0) (put 7 (.gp j7 0) (put 8 (.fn 70 [] [.gp j3 0,.gp j4 0,.gp j7 0]) (put 9 outv (put 10 (.d (.int .i64 g.length)) (put 37 (.d (.bool false)) U))))))) E τ'):
 Run B0 Q (.code (.loop II)::.blk 2::rest) (put 3 (.gp j3 0) (put 4 (.gp j4 0) (put 7 (.gp j7 0) (put 8 (.fn 70 [] [.gp j3 0,.gp j4 0,.gp j7 0]) (put 9 .AZ (put 10 (.d (.int .i64 0)) U)))))) E τ:=by
 refine Run.BD ?_
 refine Run.BK ((fun (a3:AV) (a4:AV) (a7:AV) (a8:AV)=>fun (y:Nat×List Bool×List (List Nat)×Nat×AV×AF)=>put 3 a3 (put 4 a4 (put 7 a7 (put 8 a8 (put 9 (y.2.2.2.2.1) (put 10 (.d (.int .i64 y.1)) U)))))) _ _ _ _) (fun _=>E) (fun y=>y.2.2.2.2.2)
  (fun y=>y.1≤g.length∧LS σ g j1 j3 j4 jr j7 jl cells y.2.1 y.2.2.2.2.2∧Dh σ 35 1 (y.2.2.1.map J1) y.2.2.2.2.1 y.2.2.2.2.2∧H6 g=y.2.2.1++G7 g y.2.2.2.1 y.2.1∧unm y.2.1 < y.2.2.2.1∧y.2.2.1.length+unm y.2.1≤g.length∧∀k,k < y.1→Pq g y.2.1 k=false)
  (fun y=>unm y.2.1 * (g.length+1)+(g.length - y.1)) ?_ (0,AH g.length false,[],g.length+1,.AZ,τ) ⟨by simp,h,⟨⟨τ,rfl,h.rs.le⟩,h.rs.le,rfl,rfl,rfl,rfl,fun _=>rfl,rfl,rfl⟩,rfl,by simp [unm],by simp [unm],fun k hk=>by simp only at hk;omega⟩
 clear h
 rintro ⟨i,ls,out,f,outv,τ⟩ ⟨hi,hL,ho,hcp,hf,hol,hno⟩ ih
 simp only at hi hL ho hcp hf hol hno
 by_cases hlt:i < g.length
 · have hil:=ilT hlt
   have hw1:=A5 (show i+1≤9000000000000000000 by omega)
   obtain ⟨b,hb⟩:=BC (show i < ls.length by rw [hL.ll];exact hlt)
   have eb:=Em hb
   rw [← Mi hb] at eb
   have hskip:Pq g ls i=false→_:=fun hc=>ih (i+1,ls,out,f,outv,τ) ⟨by simp only;omega,hL,ho,hcp,hf,hol,fun k hk=>by
    simp only at hk
    rcases Bt k i with h|h
    · exact hno k h
    · have:k=i:=by omega
      subst this;exact hc⟩ (by simp only;omega)
   simp only at hskip
   cases hb1:lsB ls i with
   |true=>
    rw [hb1] at eb
    (repeat' (first|refine Run.ct rfl ?_|((first|refine Run.reg mixed ?_|refine Run.AE ?_)<;>try simp -implicitDefEqProofs only [Ac hlt,hL.rs.b3,hL.b7,hL.bl,hil,eb,hw1,Ax,ho.BO,go_sem])|fail))
    exact hskip (by simp [Pq,hb1])
   |false=>
   rw [hb1] at eb
   have hrd:=eR g hgl j1 j3 j4 jr j7 jl σ τ cells hL.rs ls hL.ll hL.b7 hL.bl i hlt
   cases hr:V5 g ls i with
   |false=>
    rw [hr] at hrd
    (repeat' (first|refine Run.ct rfl ?_|((first|refine Run.reg mixed ?_|refine Run.AE ?_|(refine ⟨_,[],[.gp j3 0,.gp j4 0,.gp j7 0],rfl,by kernel_rfl,AI.det hrd ?_⟩))<;>try simp -implicitDefEqProofs only [Ac hlt,hL.rs.b3,hL.b7,hL.bl,hil,eb,hw1,Ax,ho.BO,go_sem])|fail))
    exact hskip (by simp [Pq,hr])
   |true=>
    rw [hr] at hrd
    have hcan:Pq g ls i=true:=by simp [Pq,hb1,hr]
    have hnx:Wm g ls=some i:=iV hlt hcan hno
    obtain ⟨f,rfl⟩:∃f',f=f'+1:=⟨f - 1,by omega⟩
    have hcp2:H6 g=(out++[Oy g i])++G7 g f (OM g i ls):=by
     rw [hcp,G7,hnx];simp
    have hum:=aG hL.ll hlt hb1
    have hm1:IntKind.i64.wrap ((-1:Int)+1)=((0:Nat):Int):=by decide
    (repeat' (first|refine Run.ct rfl ?_|((first|refine Run.reg mixed ?_|refine Run.AE ?_|(refine ⟨_,[],[.gp j3 0,.gp j4 0,.gp j7 0],rfl,by kernel_rfl,AI.det hrd ?_⟩))<;>try simp -implicitDefEqProofs only [Ac hlt,hL.rs.b3,hL.b7,hL.bl,hil,eb,hw1,Ax,ho.BO,go_sem])|fail))
    refine iJ Q _ g hgl j1 j3 j4 jr j7 jl σ τ cells ls hL i hlt _ outv (out.map J1) ⟨fun x hx=>by simp only [Bd] at hx;subst hx;exact ho,List.pairwise_singleton _ _⟩ (fun _=>rfl) (fun gv τ2 hL2 hO2=>?_)
    have hg2:=hO2.head
    have ho2:=hO2.tail.head
    simp only at hg2 ho2
    (repeat' (first|refine Run.ct rfl ?_|((first|refine Run.reg mixed ?_|refine Run.AE ?_|(refine EY.own ho2 rfl (by simp) (by simp;omega) (by decide) (fun v4 τ4 ho4 hbk4=>?_)))<;>try simp -implicitDefEqProofs only [hm1,ho2.BO,hg2.BO,hg2.cell,hg2.cells,hg2.dv,hg2.BY,Ax,go_sem])|fail))
    (repeat' (first|refine Run.ct rfl ?_|((first|refine Run.reg mixed ?_|refine Run.AE ?_)<;>try simp -implicitDefEqProofs only [hm1,ho4.BO,go_sem])|fail))
    refine ih (0,OM g i ls,out++[Oy g i],f,v4,τ4) ⟨by simp,hL2.tok hbk4 ho4.le,by simp only [Kg];exact ho4,hcp2,by simp only;omega,by simp only [AS,A9,CN];omega,fun k hk=>by simp only at hk;omega⟩ ?_
    simp only
    have:(unm (OM g i ls)+1) * (g.length+1)≤unm ls * (g.length+1):=BQ _ hum
    rw [JQ] at this
    omega
 · have hie:i=g.length:=by omega
   subst hie
   obtain ⟨f,rfl⟩:∃f',f=f'+1:=⟨f - 1,by omega⟩
   have hnx:Wm g ls=none:=bN hno
   rw [G7,hnx,Ao] at hcp
   have:=hfin outv τ ho.le (by rw [hcp];exact ho)
   (repeat' (first|refine Run.ct rfl ?_|((first|refine Run.reg mixed ?_|refine Run.AE ?_)<;>try simp -implicitDefEqProofs only [Bi hlt,hL.rs.b3,ho.BO,go_sem])|fail))
   exact this
end Go.Ab
