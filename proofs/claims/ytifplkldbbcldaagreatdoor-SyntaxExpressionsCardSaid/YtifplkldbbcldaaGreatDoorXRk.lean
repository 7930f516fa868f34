/- The reference's texts: join, bound, types. The reference's texts: bound, types. The reference's texts of types. The reference's levels. Mutable rows of strings. The compact codes of the functions of this seat, computed out of the translation. The reference's texts of expressions. Conditions: none. -/
import Derived.Test.YtifplkldbbcldaaGreatDoorProg
import Derived.KernelRfl
import Derived.Test.YtifplkldbbcldaaGreatDoorXPm
set_option linter.unusedSimpArgs false
set_option linter.unusedVariables false
set_option maxRecDepth 4000
set_option maxHeartbeats 8000000
open List renaming getElem?_cons_zero→A5,getElem?_cons_succ→Ag,take_succ_cons→Ci,append_assoc→AT,length_append→AA,length_cons→AB,length_nil→AE,length_map→AG,take_zero→GY,nil_append→A3,take_of_length_le→A8,map_cons→AF,map_nil→AI,replicate→Aj,cons_append→A0,mem_of_getElem?→Ae,length_take→B4,take→L9,drop→Ja,append_nil→A1,length_pos_iff→Aq,length→Kd,all_eq_true→A7,mem_map→Im
open Option.some renaming injEq→AR
open Int renaming reduceBEq→AS,reduceLE→BA,reduceToNat→Ap
open Option renaming bind_eq_bind→AU,bind_some→BY
open Nat renaming le_trans→BD,zero_mul→Lb,mul_le_mul_right→Ao
open Bool renaming and_eq_true→AN
open And renaming intro→Cy
namespace Go.Ab
open Go.Proofs
theorem Yj {sep:Str} {l:List Str} {x:Str} (h:l[0]?=some x):Lib.join (l.take (0+1)) sep=x:=by
 cases l with
 |nil=>cases h
 |cons y r=>
  simp only [A5,AR] at h
  subst h
  exact Lib.join_one y sep
theorem Yk {sep:Str} {l:List Str} {k:Nat} {x:Str} (hk:0 < k) (h:l[k]?=some x):Lib.join (l.take (k+1)) sep=Lib.join (l.take k) sep++sep++x:=by
 cases l with
 |nil=>simp at h
 |cons y r=>
  obtain ⟨k,rfl⟩:∃q,k=q+1:=⟨k - 1,by omega⟩
  simp only [Ag] at h
  rw [Ci,Ci,Lib.join_cons,Lib.join_cons,Lib.joinTail_take_succ sep r k x h]
  simp only [AT]
theorem VU (sep:Str) (l:List Str) (k:Nat):(Lib.join (l.take k) sep).length≤(Lib.join l sep).length:=by
 cases l with
 |nil=>simp
 |cons y r=>
  cases k with
  |zero=>simp [Lib.join_nil]
  |succ k=>
   rw [Ci,Lib.join_cons,Lib.join_cons,AA,AA]
   have:=Lib.joinTail_take_le sep r k
   omega
theorem QX (l:List Str) (σ:AM) (hl:(Lib.join l [44,32]).length≤1000000000000):AP Tryz.prog 47 [.d (.sl (l.map B0))] σ (fun v σ'=>v= .d (.str (Lib.join l [44,32]))∧σ'=σ):=by
 refine pR (by simp) ?_
 rw [Av]
 refine Run.slot 0 (fun hb0=>?_)
 have hb0:l.length≤9223372036854775807:=by simpa [IQ,AV.HR] using hb0
 (repeat' (first|refine Run.ct rfl ?_|((first|refine Run.reg mixed ?_|refine Run.AJ ?_|(refine AQ rfl (fun h=>?_) (fun h=>?_)<;>try (cases h;done)))<;>try simp -implicitDefEqProofs only [go_sem])|(refine ⟨fun h=>?_,fun h=>?_⟩<;>first|(cases h;done)|try simp only [h])|fail))
 refine Run.Ba ?_
 refine Run.Bd ((fun (a0:AV)=>fun (i:Nat)=>put 0 a0 (put 3 (.d (.str (Lib.join (l.take i) [44,32]))) (put 4 (.d (.int .i64 i)) U))) _) (fun _=>E) (fun _=>σ) (fun i=>i≤l.length) (fun i=>l.length - i) ?_ 0 (by simp)
 rintro i hi ih
 by_cases hlt:i < l.length
 · obtain ⟨x,hx⟩:=C7 hlt
   have he:=CR (enc:=B0) hx
   simp only [B0] at he
   have hw1:IntKind.i64.wrap ((i:Int)+1)=((i+1:Nat):Int):=by rw [BF (by omega) (by omega)];omega
   have hle:=VU [44,32] l (i+1)
   by_cases hi0:0 < i
   · have hs:=Yk (sep:=[44,32]) hi0 hx
     rw [hs] at hle
     simp only [AA,AB,AE] at hle
     have ha1:=DB (a:=Lib.join (l.take i) [44,32]) (b:=[44,32]) (by simp only [AB,AE];omega)
     have ha2:=DB (a:=Lib.join (l.take i) [44,32]++[44,32]) (b:=x) (by simp only [AA,AB,AE];omega)
     have hih:=ih (i+1) (by omega) (by omega)
     simp only [hs] at hih
     (repeat' (first|refine Run.ct rfl ?_|((first|refine Run.reg mixed ?_|refine Run.AJ ?_|(refine AQ rfl (fun h=>?_) (fun h=>?_)<;>try (cases h;done)))<;>try simp -implicitDefEqProofs only [BZ hlt,AG,gt0,decide_eq_true hi0,he,hw1,ha1,ha2,go_sem])|(refine ⟨fun h=>?_,fun h=>?_⟩<;>first|(cases h;done)|try simp only [h])|fail))
     exact hih
   · obtain rfl:i=0:=by omega
     have hs:=Yj (sep:=[44,32]) hx
     have hih:=ih (0+1) (by omega) (by omega)
     simp only [hs] at hih
     rw [hs] at hle
     have ha2:=DB (a:=[]) (b:=x) (by simp only [AE];omega)
     (repeat' (first|refine Run.ct rfl ?_|((first|refine Run.reg mixed ?_|refine Run.AJ ?_|(refine AQ rfl (fun h=>?_) (fun h=>?_)<;>try (cases h;done)))<;>try simp -implicitDefEqProofs only [BZ hlt,AG,gt0,decide_eq_false hi0,he,hw1,ha2,GY,Lib.join_nil,A3,go_sem])|(refine ⟨fun h=>?_,fun h=>?_⟩<;>first|(cases h;done)|try simp only [h])|fail))
     exact hih
 · have hie:i=l.length:=by omega
   subst hie
   simp only [List.take_length]
   (repeat' (first|refine Run.ct rfl ?_|((first|refine Run.reg mixed ?_|refine Run.AJ ?_|refine Run.Ad bV (AM.le_refl _) ?_|(refine AQ rfl (fun h=>?_) (fun h=>?_)<;>try (cases h;done)))<;>try simp -implicitDefEqProofs only [FD hlt,AG,go_sem])|(refine ⟨fun h=>?_,fun h=>?_⟩<;>first|(cases h;done)|try simp only [h])|fail))
theorem aP {l:List Str} {v:AV} {σ:AM} (hv:v.plain= .d (.sl (l.map B0))) (hl:(Lib.join l [44,32]).length≤1000000000000):
 AP Tryz.prog 47 [v] σ (fun u σ'=>u= .d (.str (Lib.join l [44,32]))∧σ'=σ):=
 AP.plain (by simp only [AV.Dt,hv];exact QX l σ hl)
end Go.Ab
namespace Go.Ab
open Go.Proofs
theorem Wx (l:List Str) (σ:AM) (h6:l.length≤1000) (hl:(Lib.join (l.map shown) [44,32]).length≤1000000000000):AP Tryz.prog 99 [.d (.sl (l.map B0))] σ (fun v σ'=>v= .d (.str (Lib.join (l.map shown) [44,32]))∧σ'=σ):=by
 refine kQ (by simp) ?_
 rw [Av]
 (repeat' (first|refine Run.ct rfl ?_|((first|refine Run.reg mixed ?_|refine Run.AJ ?_|(refine AQ rfl (fun h=>?_) (fun h=>?_)<;>try (cases h;done)))<;>try simp -implicitDefEqProofs only [go_sem])|(refine ⟨fun h=>?_,fun h=>?_⟩<;>first|(cases h;done)|try simp only [h])|fail))
 refine Run.Ba ?_
 refine Run.Bd ((fun (a0:AV)=>fun (y:Nat×AV×AM)=>put 0 a0 (put 3 (y.2.1) (put 4 (.d (.int .i64 y.1)) U))) _) (fun _=>E) (fun y=>y.2.2) (fun y=>y.1≤l.length∧EW σ 9 1 (((l.take y.1).map shown).map B0) y.2.1 y.2.2) (fun y=>l.length - y.1) ?_ (0,.AY,σ) ⟨by simp,EW.nil _ _ _⟩
 rintro ⟨i,v,τ⟩ ⟨hi,ho⟩ ih
 simp only at hi ho
 by_cases hlt:i < l.length
 · obtain ⟨x,hx⟩:=C7 hlt
   have he:=CR (enc:=B0) hx
   simp only [B0] at he
   have hw1:IntKind.i64.wrap ((i:Int)+1)=((i+1:Nat):Int):=by rw [BF (by omega) (by omega)];omega
   have hc:=S9 x τ
   have hnx:((l.take (i+1)).map shown).map B0=((l.take i).map shown).map B0++[[.str (shown x)]]:=by
    rw [Fl hx];simp [B0]
   (repeat' (first|refine Run.ct rfl ?_|((first|refine Run.reg mixed ?_|refine Run.AJ ?_|(refine Kf.own ho rfl (by simp) (by simp;omega) (by decide) (fun v3 σ3 ho3 hbk=>?_))|refine AH.det (hc) ?_|(refine AQ rfl (fun h=>?_) (fun h=>?_)<;>try (cases h;done)))<;>try simp -implicitDefEqProofs only [BZ hlt,he,hw1,AG,ho.cell,ho.cells,ho.Ay,ho.BR,go_sem])|(refine ⟨fun h=>?_,fun h=>?_⟩<;>first|(cases h;done)|try simp only [h])|fail))
   try simp -implicitDefEqProofs only [ho3.cells,ho3.cell,ho3.Ay,ho3.BR,go_sem]
   (repeat' (first|refine Run.ct rfl ?_|((first|refine Run.reg mixed ?_|refine Run.AJ ?_|(refine AQ rfl (fun h=>?_) (fun h=>?_)<;>try (cases h;done)))<;>try simp -implicitDefEqProofs only [hw1,ho3.cell,ho3.cells,ho3.Ay,ho3.BR,go_sem])|(refine ⟨fun h=>?_,fun h=>?_⟩<;>first|(cases h;done)|try simp only [h])|fail))
   exact ih (i+1,v3,σ3) ⟨by simp only;omega,by simp only;rw [hnx];exact ho3⟩ (by simp only;omega)
 · rw [A8 (by omega)] at ho
   have hj:=aP (σ:=τ) ho.plain hl
   (repeat' (first|refine Run.ct rfl ?_|((first|refine Run.reg mixed ?_|refine Run.AJ ?_|(refine AH.det hj ?_ (by simp [ho.Ay]))|(refine Run.Ad Y5 (σ2:=σ) ho.le ?_)|(refine AQ rfl (fun h=>?_) (fun h=>?_)<;>try (cases h;done)))<;>try simp -implicitDefEqProofs only [FD hlt,AG,ho.cell,ho.cells,ho.Ay,ho.BR,go_sem])|(refine ⟨fun h=>?_,fun h=>?_⟩<;>first|(cases h;done)|try simp only [h])|fail))
end Go.Ab
namespace Go.Ab
open Go.Proofs
def WkT (F F':Fm):Prop:=∀s,F' s=F s∨((F s).Ay=true∧F' s=(F s).plain)
theorem Run.ADL {cx:Cx} {KK:AV→AM→Prop} {k:List CI} {F F':Fm} {L:Lm} {σ:AM} (hF:WkT F F') (h:Run cx KK k F' L σ):Run cx KK k F L σ:=by
 intro items base g lam Pr a w0 w b cs0 hi0 hf hb hk
 refine h items base g lam Pr a w0 w b cs0 hi0 ⟨fun s=>?_,hf.sz,hf.df,hf.loc,hf.inj,hf.npr,hf.rel⟩ hb hk
 rcases hF s with e|e
 · rw [e];exact hf.tm s
 · rw [e.2];exact SV.E7 (SV.vr e.1 (hf.tm s)).plain
theorem WkT.refl (F:Fm):WkT F F:=fun _=>.inl rfl
theorem WkT.skip {F F':Fm} (h:WkT F F') (s:Nat) (x:AV):WkT (put s x F) (put s x F'):=fun s'=>by
 by_cases e:s'=s
 · subst e;exact .inl (by simp [put])
 · rcases h s' with h|h
   · exact .inl (by simp [put,e,h])
   · exact .inr (by simp [put,e,h])
theorem WkT.here {F F':Fm} (h:WkT F F') (s:Nat) {v w:AV} (hn:v.Ay=true) (hp:v.plain=w):WkT (put s v F) (put s w F'):=fun s'=>by
 by_cases e:s'=s
 · subst e;exact .inr (by simp [put,hn,hp])
 · rcases h s' with h|h
   · exact .inl (by simp [put,e,h])
   · exact .inr (by simp [put,e,h])
end Go.Ab
namespace Go.Ab
open Go.Proofs
theorem Wy {o:Int} {n:Str} {u:Int} {ns:List Str} {ks:List Ex} {al:List Al} (hu:o=13→1≤u∧u≤8) (σ:AM):AP Tryz.prog 94 [exA (.mk o n u ns ks al)] σ (fun v σ'=>v= .d (.int .i64 ((lvl (.mk o n u ns ks al):Nat):Int))∧σ'=σ):=by
 refine kR (by simp) ?_
 rw [Av]
 simp only [exA,Ex.A2,AF,AI,lvl]
 by_cases h0:o=7∨o=8∨o=9∨o=10∨o=11∨o=17
 · rw [if_pos h0]
   rcases h0 with rfl|rfl|rfl|rfl|rfl|rfl
   all_goals (repeat' (first|refine Run.ct rfl ?_|((first|refine Run.reg mixed ?_|refine Run.AJ ?_|refine Run.Ad NC (AM.le_refl _) ?_|(refine AQ rfl (fun h=>?_) (fun h=>?_)<;>try (cases h;done)))<;>try simp -implicitDefEqProofs only [AS,go_sem])|(refine ⟨fun h=>?_,fun h=>?_⟩<;>first|(cases h;done)|try simp only [h])|fail))
   all_goals rfl
 · rw [if_neg h0]
   simp only [not_or] at h0
   obtain ⟨h1,h2,h3,h4,h5,h6⟩:=h0
   by_cases h13:o=13
   · subst h13
     rw [if_pos rfl]
     have hu8:=hu rfl
     have hk:u=1∨u=2∨u=3∨u=4∨u=5∨u=6∨u=7∨u=8:=by omega
     rcases hk with rfl|rfl|rfl|rfl|rfl|rfl|rfl|rfl
     all_goals (repeat' (first|refine Run.ct rfl ?_|((first|refine Run.reg mixed ?_|refine Run.AJ ?_|refine Run.Ad NC (AM.le_refl _) ?_|(refine AQ rfl (fun h=>?_) (fun h=>?_)<;>try (cases h;done)))<;>try simp -implicitDefEqProofs only [AS,BA,Int.reduceLT,decide_true,decide_false,go_sem])|(refine ⟨fun h=>?_,fun h=>?_⟩<;>first|(cases h;done)|try simp only [h])|fail))
     all_goals rfl
   · rw [if_neg h13]
     by_cases h12:o=12
     · subst h12
       rw [if_pos rfl]
       (repeat' (first|refine Run.ct rfl ?_|((first|refine Run.reg mixed ?_|refine Run.AJ ?_|refine Run.Ad NC (AM.le_refl _) ?_|(refine AQ rfl (fun h=>?_) (fun h=>?_)<;>try (cases h;done)))<;>try simp -implicitDefEqProofs only [AS,go_sem])|(refine ⟨fun h=>?_,fun h=>?_⟩<;>first|(cases h;done)|try simp only [h])|fail))
       all_goals rfl
     · rw [if_neg h12]
       (repeat' (first|refine Run.ct rfl ?_|((first|refine Run.reg mixed ?_|refine Run.AJ ?_|refine Run.Ad NC (AM.le_refl _) ?_|(refine AQ rfl (fun h=>?_) (fun h=>?_)<;>try (cases h;done)))<;>try simp -implicitDefEqProofs only [Bq h1,Bq h2,Bq h3,Bq h4,Bq h5,Bq h6,Bq h12,Bq h13,go_sem])|(refine ⟨fun h=>?_,fun h=>?_⟩<;>first|(cases h;done)|try simp only [h])|fail))
       all_goals rfl
end Go.Ab
namespace Go.Ab
open Go.Proofs
theorem AM.ext' {σ τ:AM} (h1:σ.blk=τ.blk) (h2:σ.tok=τ.tok) (h3:σ.gt=τ.gt) (h4:σ.bt=τ.bt):σ=τ:=by
 cases σ;cases τ;simp_all
theorem w3 {σ:AM} {j:Nat} {cs:List AV} (h:σ.blk j=none):(σ.AL j cs).DI j=σ:=by
 refine AM.ext' ?_ rfl rfl rfl
 funext k
 by_cases e:k=j
 · subst e;simp [AM.DI,h]
 · simp [AM.DI,AM.AL,e]
def W2 (ts:List Str):List AV:=ts.map fun t=>.d (.str t)
abbrev v8:Nat:=9
def SR (σ0:AM) (ts:List Str) (v:AV) (σ:AM):Prop:=(v= .AY∧ts=[]∧σ=σ0)∨∃j,σ0.blk j=none∧v= .ms j ts.length 1 v8∧σ=σ0.AL j (W2 ts)
theorem SR.nil (σ:AM):SR σ [] .AY σ:= .inl ⟨rfl,rfl,rfl⟩
theorem SR.le {σ0 σ:AM} {ts:List Str} {v:AV} (h:SR σ0 ts v σ):σ0.le σ:=by
 rcases h with ⟨_,_,rfl⟩|⟨j,hj,_,rfl⟩
 · exact AM.le_refl _
 · exact VY (AM.le_refl _) hj _
theorem SR.cell {σ0 σ:AM} {ts:List Str} {v:AV} (h:SR σ0 ts v σ):v.CQ=true∧v.Ay=true∧v.cells=[v]∧∀k,v.BR k=false:=by
 rcases h with ⟨rfl,_,_⟩|⟨j,_,rfl,_⟩<;>exact ⟨rfl,rfl,rfl,fun _=>rfl⟩
theorem Ri.sr {K:CV} {F:Fm} {L:Lm} {σ σ0:AM} {d:Option Nat} {ts:List Str} {y:Str} {v x:AV} {bytes:Nat} (hm:SR σ0 ts v σ) (hx:x.rows=some [[.str y]]) (hl:ts.length≤100000) (hb:bytes≤10000)
 (h:∀v' σ',SR σ0 (ts++[y]) v' σ'→K (Au d v' F) L σ'):Ri v8 1 bytes v x d K F L σ:=by
 have happ:∃cs σ1,Qh σ v8 1 v=some (ts.length,cs,σ1)∧cs=W2 ts∧σ1=σ0:=by
  rcases hm with ⟨rfl,rfl,rfl⟩|⟨j,hj,rfl,rfl⟩
  · exact ⟨[],σ,rfl,rfl,rfl⟩
  · exact ⟨W2 ts,(σ0.AL j (W2 ts)).DI j,by simp [Qh,AO,W2],rfl,w3 hj⟩
 obtain ⟨cs,σ1,ha,rfl,rfl⟩:=happ
 refine Ri.mk ha hx (by simp) (by simp) (by simp;omega) hb (fun j hj=>h _ _ (.inr ⟨j,?_,by simp,?_⟩))
 · rcases hm with ⟨rfl,rfl,rfl⟩|⟨j',hj',rfl,rfl⟩
   · exact hj
   · simp only [AO] at hj
     split at hj
     · cases hj
     · exact hj
 · simp [G7,W2]
theorem nB:∀ts:List Str,dvs (W2 ts)=some (ts.map DV.str)
 |[]=>rfl
 |x::l=>by
  have:=nB l
  simp only [W2,AF,dvs,AV.dv,AU,BY] at this ⊢
  rw [this];rfl
theorem bN:∀ts:List Str,chunk 1 ts.length (ts.map DV.str)=ts.map B0
 |[]=>rfl
 |x::l=>by
  have:=bN l
  simp only [AB,chunk,AF,B0,Ci,GY,List.drop_succ_cons,List.drop_zero] at this ⊢
  rw [this]
def FzT (v w:AV) (F F':Fm):Prop:=∀s,F' s=F s∨(F s=v∧F' s=w)
theorem FzT.refl (v w:AV) (F:Fm):FzT v w F F:=fun _=>.inl rfl
theorem FzT.skip {v w:AV} {F F':Fm} (h:FzT v w F F') (s:Nat) (x:AV):FzT v w (put s x F) (put s x F'):=fun s'=>by
 by_cases e:s'=s
 · subst e;exact .inl (by simp [put])
 · rcases h s' with h|h
   · exact .inl (by simp [put,e,h])
   · exact .inr (by simp [put,e,h])
theorem FzT.here {v w:AV} {F F':Fm} (h:FzT v w F F') (s:Nat):FzT v w (put s v F) (put s w F'):=fun s'=>by
 by_cases e:s'=s
 · subst e;exact .inr (by simp [put])
 · rcases h s' with h|h
   · exact .inl (by simp [put,e,h])
   · exact .inr (by simp [put,e,h])
theorem Run.srz {cx:Cx} {KK:AV→AM→Prop} {k:List CI} {F F':Fm} {L:Lm} {σ0 τ:AM} {ts:List Str} {v:AV} (h:SR σ0 ts v τ) (hl:ts.length≤1000000) (hF:FzT v (.d (.sl (ts.map B0))) F F') (hr:Run cx KK k F' L σ0):Run cx KK k F L τ:=by
 rcases h with ⟨rfl,rfl,rfl⟩|⟨j,hj,rfl,rfl⟩
 · refine Run.ADL (F':=F') (fun s=>?_) hr
   rcases hF s with e|⟨e1,e2⟩
   · exact .inl e
   · exact .inr ⟨by rw [e1];rfl,by rw [e1,e2];rfl⟩
 · refine Run.freeze (i:=j) (n:=ts.length) (size:=1) (cs:=W2 ts) (ds:=ts.map DV.str) (σ':=σ0) (L':=L) (F':=F') (by simp only [AO,if_true]) (nB ts) (by simp [W2]) (BD hl (show (1000000:Nat)≤maxLen by decide+kernel)) (fun t=>?_) (fun k cs hk=>⟨cs,hk,.inl rfl⟩) (fun r cs' hr=>?_) (fun t h=>h) hr
   · rcases hF t with e|⟨e1,e2⟩
     · exact .inl e
     · right
       rw [e1,e2,bN]
       simp [frz]
   · have hne:r≠j:=fun e=>by rw [e,hj] at hr;cases hr
     exact ⟨hne,cs',by simp [AO,hne,hr],.inl rfl⟩
def VV (o:Int):List Ex→List Str
 |[]=>[]
 |k::l=>(if o=12 then pl 4 k (Af k) else Af k)::l.map Af
theorem gL (o:Int) (l:List Ex):(VV o l).length=l.length:=by cases l<;>simp [VV]
theorem xI {o:Int} (h:o≠12) (l:List Ex):VV o l=l.map Af:=by
 cases l with
 |nil=>rfl
 |cons k l=>rw [VV,if_neg h];rfl
theorem xH {o:Int} {l:List Ex} {i:Nat} {x:Ex} (h:l[i]?=some x):(VV o l)[i]?=some (pl (if o=12∧i=0 then 4 else 0) x (Af x)):=by
 cases l with
 |nil=>cases h
 |cons k l=>
  cases i with
  |zero=>
   simp only [A5,AR] at h
   subst h
   rw [VV]
   by_cases ho:o=12
   · simp [ho]
   · simp [ho,pl]
  |succ i=>
   simp only [Ag] at h
   simp [VV,h,pl]
end Go.Ab
namespace Go.Ab
open Go.Proofs
variable {args:List AV} {σ:AM} {K:AV→AM→Prop}
def Wc:C:=(.seq (.reg [Qo 2 (.mv (.c (.d (.str []))))] [0])
 (.seq (.reg [Qo 4 (.bsl 1 9 [(.d (.str [])),(.d (.str [])),(.d (.str [])),(.d (.str [])),(.d (.str [])),(.d (.str [])),(.d (.str [])),(.d (.str [])),(.d (.str []))] [(0,1,(.c (.d (.str [])))),(1,1,(.c (.d (.str [43])))),(2,1,(.c (.d (.str [45])))),(3,1,(.c (.d (.str [42])))),(4,1,(.c (.d (.str [47])))),(5,1,(.c (.d (.str [37])))),(6,1,(.c (.d (.str [60])))),(7,1,(.c (.d (.str [60,61])))),(8,1,(.c (.d (.str [61,61]))))]),
 Qm 3 4] [0,3])
 (.seq (.seq (.reg [Qm 5 0,
 Qo 6 (.bin .lss (.t 5) (.c (.d (.int .i64 1)))),
 Qm 7 6,
 ⟨some 8,.mv (.t 0),some (7,false)⟩,
 ⟨some 9,.mv (.t 3),some (7,false)⟩,
 ⟨some 10,.len (.t 9),some (7,false)⟩,
 ⟨some 11,.bin .geq (.t 8) (.t 10),some (7,false)⟩,
 Qo 12 (.pick (.t 7) (.c (.d (.bool true))) (.t 11))] [0,3,12])
 (.cond (.t 12) (.seq (.reg [Qo 2 (.mv (.c (.d (.str []))))] [2])
 .ret)
 .skip))
 (.seq (.reg [Qm 13 3,
 Qm 14 0,
 Qo 15 (.ix (.t 13) (.t 14) 1),
 Qo 16 (.ld (.t 15) none),
 Qm 2 16] [2])
 .ret))))
noncomputable def L5:Cx:=⟨Tryz.prog,96,Tryz.f96,17,[],[],[.t 2]⟩
theorem Wl:Good L5:=⟨Tryz.func96,by kernel_rfl⟩
theorem eQ:L5.rs=[.t 2]:=rfl
theorem gE (hl:args.length≤17) (h:Run L5 K [.code Wc] (At args) E σ):AP Tryz.prog 96 args σ K:=
 AX (cx:=L5) (code:=Tryz.f96.body.getD .skip) Wl (by kernel_rfl) Tryz.ntmps96 hl (AZ L5 _ (Ax Wc) _ [] (by kernel_rfl)) h
def To:C:=(.seq (.reg [Qo 2 (.mv (.c (.d (.str []))))] [0])
 (.seq (.reg [Qo 4 (.bsl 1 8 [(.d (.str [])),(.d (.str [])),(.d (.str [])),(.d (.str [])),(.d (.str [])),(.d (.str [])),(.d (.str [])),(.d (.str []))] [(0,1,(.c (.d (.str [])))),(1,1,(.c (.d (.str [110,101,119])))),(2,1,(.c (.d (.str [103,101,116])))),(3,1,(.c (.d (.str [115,101,116])))),(4,1,(.c (.d (.str [108,101,110])))),(5,1,(.c (.d (.str [114,101,102])))),(6,1,(.c (.d (.str [114,101,97,100])))),(7,1,(.c (.d (.str [119,114,105,116,101]))))]),
 Qm 3 4] [0,3])
 (.seq (.seq (.reg [Qm 5 0,
 Qo 6 (.bin .lss (.t 5) (.c (.d (.int .i64 1)))),
 Qm 7 6,
 ⟨some 8,.mv (.t 0),some (7,false)⟩,
 ⟨some 9,.mv (.t 3),some (7,false)⟩,
 ⟨some 10,.len (.t 9),some (7,false)⟩,
 ⟨some 11,.bin .geq (.t 8) (.t 10),some (7,false)⟩,
 Qo 12 (.pick (.t 7) (.c (.d (.bool true))) (.t 11))] [0,3,12])
 (.cond (.t 12) (.seq (.reg [Qo 2 (.mv (.c (.d (.str []))))] [2])
 .ret)
 .skip))
 (.seq (.reg [Qm 13 3,
 Qm 14 0,
 Qo 15 (.ix (.t 13) (.t 14) 1),
 Qo 16 (.ld (.t 15) none),
 Qm 2 16] [2])
 .ret))))
noncomputable def IH:Cx:=⟨Tryz.prog,100,Tryz.f100,17,[],[],[.t 2]⟩
theorem Tz:Good IH:=⟨Tryz.func100,by kernel_rfl⟩
theorem ZM:IH.rs=[.t 2]:=rfl
theorem aF (hl:args.length≤17) (h:Run IH K [.code To] (At args) E σ):AP Tryz.prog 100 args σ K:=
 AX (cx:=IH) (code:=Tryz.f100.body.getD .skip) Tz (by kernel_rfl) Tryz.ntmps100 hl (AZ IH _ (Ax To) _ [] (by kernel_rfl)) h
attribute [go_sem] eQ ZM
end Go.Ab
namespace Go.Ab
open Go.Proofs
theorem eL (u:Int) (σ:AM) (h:1≤u∧u≤8):AP Tryz.prog 96 [.d (.int .i64 u)] σ (fun v σ'=>v= .d (.str (opT u))∧σ'=σ):=by
 refine gE (by simp) ?_
 rw [Av]
 have hu:u=1∨u=2∨u=3∨u=4∨u=5∨u=6∨u=7∨u=8:=by omega
 rcases hu with rfl|rfl|rfl|rfl|rfl|rfl|rfl|rfl
 all_goals (repeat' (first|refine Run.ct rfl ?_|((first|refine Run.reg mixed ?_|refine Run.AJ ?_|refine Run.Ad Wl (AM.le_refl _) ?_|(refine AQ rfl (fun h=>?_) (fun h=>?_)<;>try (cases h;done)))<;>try simp -implicitDefEqProofs only [Aj,Int.reduceLT,BA,Ap,go_sem])|(refine ⟨fun h=>?_,fun h=>?_⟩<;>first|(cases h;done)|try simp only [h])|fail))
 all_goals rfl
theorem ZJ (u:Int) (σ:AM) (h:1≤u∧u≤7):AP Tryz.prog 100 [.d (.int .i64 u)] σ (fun v σ'=>v= .d (.str (prT u))∧σ'=σ):=by
 refine aF (by simp) ?_
 rw [Av]
 have hu:u=1∨u=2∨u=3∨u=4∨u=5∨u=6∨u=7:=by omega
 rcases hu with rfl|rfl|rfl|rfl|rfl|rfl|rfl
 all_goals (repeat' (first|refine Run.ct rfl ?_|((first|refine Run.reg mixed ?_|refine Run.AJ ?_|refine Run.Ad Tz (AM.le_refl _) ?_|(refine AQ rfl (fun h=>?_) (fun h=>?_)<;>try (cases h;done)))<;>try simp -implicitDefEqProofs only [Aj,Int.reduceLT,BA,Ap,go_sem])|(refine ⟨fun h=>?_,fun h=>?_⟩<;>first|(cases h;done)|try simp only [h])|fail))
 all_goals rfl
theorem AD3 (a b:Nat):decide ((a:Int) < (b:Int))=decide (a < b):=decide_eq_decide.2 (by omega)
theorem lB {o:Int} {n:Str} {u:Int} {ns:List Str} {ks:List Ex} {al:List Al} (h:(Ex.mk o n u ns ks al).nb):o=13→1≤u∧u≤8:=fun e=>by
 have:=(Ys h).2.1
 subst e
 simpa [nuB] using this
theorem iH {e:Ex} (hn:e.nb) (hz:e.size≤100000) (d:Nat) (σ:AM) (hT:AP Tryz.prog 49 [exA e] σ (fun v σ'=>v= .d (.str (Af e))∧σ'=σ)):AP Tryz.prog 95 [exA e,.d (.int .i64 (d:Int))] σ (fun v σ'=>v= .d (.str (pl d e (Af e)))∧σ'=σ):=by
 refine kS (by simp) ?_
 rw [BP]
 have hle:=VW e hn
 obtain ⟨o,n,u,ns,ks,al⟩:=e
 have hlv:=Wy (n:=n) (ns:=ns) (ks:=ks) (al:=al) (lB hn) σ
 unfold pl
 generalize Af (.mk o n u ns ks al)=tx at *
 have hli:=AD3 (lvl (.mk o n u ns ks al)) d
 generalize lvl (.mk o n u ns ks al)=lv at *
 simp only [exA,Ex.A2,AF,AI] at hlv hT ⊢
 by_cases hl:lv < d
 · rw [if_pos hl]
   have ha1:=DB (a:=[40]) (b:=tx) (by simp only [AB,AE];omega)
   have ha2:=DB (a:=[40]++tx) (b:=[41]) (by simp only [AA,AB,AE];omega)
   simp only [A0,A3] at ha1 ha2
   (repeat' (first|refine Run.ct rfl ?_|((first|refine Run.reg mixed ?_|refine Run.AJ ?_|refine Run.Ad U3 (AM.le_refl _) ?_|refine AH.det (hlv) ?_|refine AH.det (hT) ?_|(refine AQ rfl (fun h=>?_) (fun h=>?_)<;>try (cases h;done)))<;>try simp -implicitDefEqProofs only [hli,decide_eq_true hl,ha1,ha2,go_sem])|(refine ⟨fun h=>?_,fun h=>?_⟩<;>first|(cases h;done)|try simp only [h])|fail))
   all_goals rfl
 · rw [if_neg hl]
   (repeat' (first|refine Run.ct rfl ?_|((first|refine Run.reg mixed ?_|refine Run.AJ ?_|refine Run.Ad U3 (AM.le_refl _) ?_|refine AH.det (hlv) ?_|refine AH.det (hT) ?_|(refine AQ rfl (fun h=>?_) (fun h=>?_)<;>try (cases h;done)))<;>try simp -implicitDefEqProofs only [hli,decide_eq_false hl,go_sem])|(refine ⟨fun h=>?_,fun h=>?_⟩<;>first|(cases h;done)|try simp only [h])|fail))
theorem rZ:∀ {l:List Str} {k:Nat} {x:Str},l[k]?=some x→x.length≤JL l
 |[],_,_,h=>by cases h
 |y::l,0,x,h=>by simp at h;subst h;rw [Cu];omega
 |y::l,k+1,x,h=>by
  have:=rZ (l:=l) (by simpa using h)
  rw [Cu];omega
theorem TN (x:Str) (l:List Str):X5 ((x::l).map B0) (some (.d (.int .i64 1))) none none 1=some (.d (.sl (l.map B0))):=by
 simp [X5,Vp,Uc,eU,B0]
 rw [A8 (by simp)]
set_option maxHeartbeats 8000000 in
theorem Ug:∀(s:Nat) (e:Ex),e.size≤s→s≤100000→e.nb→∀σ,AP Tryz.prog 49 [exA e] σ (fun v σ'=>v= .d (.str (Af e))∧σ'=σ)
 |0,e,hs,_,_,_=>by have:=e.size_pos;omega
 |s+1,.mk o n u ns ks al,hs,hz,hb,σ=>by
  have hne:=hb
  rw [Ex.nb,Ex.IP,Al.IP] at hb
  obtain ⟨hn,hk,ha⟩:=hb
  simp only [Ex.size] at hs
  have hpl:∀x∈ks,∀(d:Nat) τ,AP Tryz.prog 95 [exA x,.d (.int .i64 (d:Int))] τ (fun v σ'=>v= .d (.str (pl d x (Af x)))∧σ'=τ):=fun x hx d τ=>by
   have:=Ex.KS hx
   exact iH (hk x hx) (by omega) d τ (Ug s x (by omega) (by omega) (hk x hx) τ)
  have htx:∀c vs b,Al.mk c vs b∈al→∀τ,AP Tryz.prog 49 [exA b] τ (fun v σ'=>v= .d (.str (Af b))∧σ'=τ):=fun c vs b hx τ=>by
   have:=Al.KS hx
   rw [Al.size] at this
   exact Ug s b (by omega) (by omega) (by have:=ha _ hx;rwa [Al.nb] at this) τ
  simp only [Fi,AN] at hn
  obtain ⟨⟨⟨⟨hnm,hnu⟩,hns⟩,has⟩,hnk⟩:=hn
  have hes:=Yn ks ((Ex.IP).2 hk)
  have has':=Ym al ((Al.IP).2 ha) (YB has)
  rw [H3] at hes
  rw [Mj] at has'
  have hnn:=nZ hnm
  have hnsn:=n8 hns
  refine pS (by simp) ?_
  rw [Av]
  rw [Af,H3,Mj]
  by_cases h13:o=13
  · subst h13
    obtain ⟨a,b,rfl⟩:=OZ (by simpa [nkB] using hnk)
    have hu8:=lB hne rfl
    have hlv:=Wy (n:=n) (ns:=ns) (ks:=[a,b]) (al:=al) (lB hne) σ
    have hop:=eL u σ hu8
    have hpa:=hpl a (by simp) (if Cf u=1 then 2 else Cf u) σ
    have hpb:=hpl b (by simp) (if Cf u=1 then 2 else Cf u+1) σ
    have e:G4 13 n u ns [a,b] ([a,b].map Af) (al.map E0)=pl (if Cf u=1 then 2 else Cf u) a (Af a)++[32]++opT u++[32]++pl (if Cf u=1 then 2 else Cf u+1) b (Af b):=by
     show sI u [a,b] [Af a,Af b]=_
     simp [sI,at0]
    have hl1:=TH (if Cf u=1 then 2 else Cf u) a (Af a)
    have hl2:=TH (if Cf u=1 then 2 else Cf u+1) b (Af b)
    have hl3:=gN u
    simp only [AF,AI,Cu] at hes
    have hlu:lvl (.mk 13 n u ns [a,b] al)=Cf u:=rfl
    rw [e]
    rw [hlu] at hlv
    clear e hlu hpl htx
    have h3:Cf u=1∨Cf u=2∨Cf u=3:=by unfold Cf;split;exact .inr (.inl rfl);split;exact .inr (.inr rfl);exact .inl rfl
    generalize Cf u=z at *
    generalize opT u=tu at *
    generalize Af a=ta0 at *
    generalize Af b=tb0 at *
    rcases h3 with rfl|rfl|rfl
    all_goals simp only [Nat.reduceEqDiff,if_true,if_false,Nat.reduceAdd] at hpa hpb hl1 hl2 ⊢
    · replace hlv:AP Tryz.prog 94 [exA (.mk 13 n u ns [a,b] al)] σ (fun v σ'=>v= .d (.int .i64 1)∧σ'=σ):=hlv
      replace hpa:AP Tryz.prog 95 [exA a,.d (.int .i64 2)] σ (fun v σ'=>v= .d (.str (pl 2 a ta0))∧σ'=σ):=hpa
      replace hpb:AP Tryz.prog 95 [exA b,.d (.int .i64 2)] σ (fun v σ'=>v= .d (.str (pl 2 b tb0))∧σ'=σ):=hpb
      generalize pl 2 a ta0=ta at *
      generalize pl 2 b tb0=tb at *
      obtain ⟨o1,n1,u1,ns1,ks1,al1⟩:=a
      obtain ⟨o2,n2,u2,ns2,ks2,al2⟩:=b
      simp only [exA,Ex.A2,AF,AI] at hpa hpb hlv ⊢
      (repeat' (first|refine Run.ct rfl ?_|((first|refine Run.reg mixed ?_|refine Run.AJ ?_|(refine Run.FZ mixed ?_)|(with_reducible refine Cy ?_ ?_)|(refine Run.Ad Bf (σ2:=σ) (AM.le_refl _) ?_)|(refine XPv.cat (by (try simp only [AA,AB,AE]);omega) ?_)|refine AH.det (hlv) ?_|refine AH.det (hpa) ?_|refine AH.det (hpb) ?_|refine AH.det (hop) ?_|(refine AQ rfl (fun h=>?_) (fun h=>?_)<;>try (cases h;done)))<;>try simp -implicitDefEqProofs only [AS,BA,Ap,if_true,A5,Ag,go_sem])|(refine ⟨fun h=>?_,fun h=>?_⟩<;>first|(cases h;done)|try simp only [h])|fail))
    · replace hlv:AP Tryz.prog 94 [exA (.mk 13 n u ns [a,b] al)] σ (fun v σ'=>v= .d (.int .i64 2)∧σ'=σ):=hlv
      replace hpa:AP Tryz.prog 95 [exA a,.d (.int .i64 2)] σ (fun v σ'=>v= .d (.str (pl 2 a ta0))∧σ'=σ):=hpa
      replace hpb:AP Tryz.prog 95 [exA b,.d (.int .i64 3)] σ (fun v σ'=>v= .d (.str (pl 3 b tb0))∧σ'=σ):=hpb
      generalize pl 2 a ta0=ta at *
      generalize pl 3 b tb0=tb at *
      obtain ⟨o1,n1,u1,ns1,ks1,al1⟩:=a
      obtain ⟨o2,n2,u2,ns2,ks2,al2⟩:=b
      simp only [exA,Ex.A2,AF,AI] at hpa hpb hlv ⊢
      (repeat' (first|refine Run.ct rfl ?_|((first|refine Run.reg mixed ?_|refine Run.AJ ?_|(refine Run.FZ mixed ?_)|(with_reducible refine Cy ?_ ?_)|(refine Run.Ad Bf (σ2:=σ) (AM.le_refl _) ?_)|(refine XPv.cat (by (try simp only [AA,AB,AE]);omega) ?_)|refine AH.det (hlv) ?_|refine AH.det (hpa) ?_|refine AH.det (hpb) ?_|refine AH.det (hop) ?_|(refine AQ rfl (fun h=>?_) (fun h=>?_)<;>try (cases h;done)))<;>try simp -implicitDefEqProofs only [AS,BA,Ap,if_true,A5,Ag,go_sem])|(refine ⟨fun h=>?_,fun h=>?_⟩<;>first|(cases h;done)|try simp only [h])|fail))
    · replace hlv:AP Tryz.prog 94 [exA (.mk 13 n u ns [a,b] al)] σ (fun v σ'=>v= .d (.int .i64 3)∧σ'=σ):=hlv
      replace hpa:AP Tryz.prog 95 [exA a,.d (.int .i64 3)] σ (fun v σ'=>v= .d (.str (pl 3 a ta0))∧σ'=σ):=hpa
      replace hpb:AP Tryz.prog 95 [exA b,.d (.int .i64 4)] σ (fun v σ'=>v= .d (.str (pl 4 b tb0))∧σ'=σ):=hpb
      generalize pl 3 a ta0=ta at *
      generalize pl 4 b tb0=tb at *
      obtain ⟨o1,n1,u1,ns1,ks1,al1⟩:=a
      obtain ⟨o2,n2,u2,ns2,ks2,al2⟩:=b
      simp only [exA,Ex.A2,AF,AI] at hpa hpb hlv ⊢
      (repeat' (first|refine Run.ct rfl ?_|((first|refine Run.reg mixed ?_|refine Run.AJ ?_|(refine Run.FZ mixed ?_)|(with_reducible refine Cy ?_ ?_)|(refine Run.Ad Bf (σ2:=σ) (AM.le_refl _) ?_)|(refine XPv.cat (by (try simp only [AA,AB,AE]);omega) ?_)|refine AH.det (hlv) ?_|refine AH.det (hpa) ?_|refine AH.det (hpb) ?_|refine AH.det (hop) ?_|(refine AQ rfl (fun h=>?_) (fun h=>?_)<;>try (cases h;done)))<;>try simp -implicitDefEqProofs only [AS,BA,Ap,if_true,A5,Ag,go_sem])|(refine ⟨fun h=>?_,fun h=>?_⟩<;>first|(cases h;done)|try simp only [h])|fail))
  have hks7:ks.length≤100000:=by have:=Ex.Ds ks;omega
  simp only [exA,Ex.A2,AF,AI]
  (repeat' (first|refine Run.ct rfl ?_|((first|refine Run.reg mixed ?_|refine Run.AJ ?_|(refine AQ rfl (fun h=>?_) (fun h=>?_)<;>try (cases h;done)))<;>try simp -implicitDefEqProofs only [Bq h13,go_sem])|(refine ⟨fun h=>?_,fun h=>?_⟩<;>first|(cases h;done)|try simp only [h])|fail))
  refine Run.Ba ?_
  refine Run.Bd ((fun (a1:AV)=>fun (y:Nat×AV×AM)=>put 1 a1 (put 5 (y.2.1) (put 6 (.d (.int .i64 y.1)) U))) _) (fun _=>B8 1 [.d (.int .i64 o),.d (.str n),.d (.int .i64 u),.d (.sl (ns.map B0)),.d (.sl (ks.map Ex.enc)),.d (.sl (al.map Al.enc))] E) (fun y=>y.2.2) (fun y=>y.1≤ks.length∧SR σ ((VV o ks).take y.1) y.2.1 y.2.2) (fun y=>ks.length - y.1) ?_ (0,.AY,σ) ⟨by simp,SR.nil σ⟩
  rintro ⟨i,v,τ⟩ ⟨hi,hm⟩ ih
  simp only at hi hm
  have hq:=hm.cell
  by_cases hlt:i < ks.length
  · obtain ⟨x,hx⟩:=C7 hlt
    have he:=CR (enc:=Ex.enc) hx
    have hw1:IntKind.i64.wrap ((i:Int)+1)=((i+1:Nat):Int):=by rw [BF (by omega) (by omega)];omega
    have hp:=hpl x (Ae hx) (if o=12∧i=0 then 4 else 0) τ
    have hnx:(VV o ks).take (i+1)=(VV o ks).take i++[pl (if o=12∧i=0 then 4 else 0) x (Af x)]:=Fl (xH hx)
    have hlk:((VV o ks).take i).length≤100000:=by rw [B4,gL];omega
    have hih:=fun v' τ' (h:SR σ ((VV o ks).take i++[pl (if o=12∧i=0 then 4 else 0) x (Af x)]) v' τ')=>ih (i+1,v',τ') ⟨by simp only;omega,by simp only;rw [hnx];exact h⟩ (by simp only;omega)
    clear hnx ih
    generalize pl (if o=12∧i=0 then 4 else 0) x (Af x)=tx at hp hih
    generalize (VV o ks).take i=ts at hm hih hlk
    obtain ⟨k0,n0,u0,ns0,ks0,al0⟩:=x
    simp only [exA,Ex.A2,AF,AI] at he hp
    by_cases h12:o=12
    · by_cases h0:i=0
      · subst h12 h0
        simp only [and_self,if_true] at hp
        (repeat' (first|refine Run.ct rfl ?_|((first|refine Run.reg mixed ?_|refine Run.AJ ?_|(refine Ri.sr hm rfl hlk (by decide) (fun v3 τ3 hm3=>?_);have hq3:=hm3.cell)|refine AH.det (hp) ?_|(refine AQ rfl (fun h=>?_) (fun h=>?_)<;>try (cases h;done)))<;>try simp -implicitDefEqProofs only [BZ hlt,he,hw1,AG,AS,hq.1,hq.2.1,hq.2.2.1,hq.2.2.2,go_sem])|(refine ⟨fun h=>?_,fun h=>?_⟩<;>first|(cases h;done)|try simp only [h])|fail))
        (repeat' (first|refine Run.ct rfl ?_|((first|refine Run.reg mixed ?_|refine Run.AJ ?_|(refine AQ rfl (fun h=>?_) (fun h=>?_)<;>try (cases h;done)))<;>try simp -implicitDefEqProofs only [hw1,hq3.1,hq3.2.1,hq3.2.2.1,hq3.2.2.2,go_sem])|(refine ⟨fun h=>?_,fun h=>?_⟩<;>first|(cases h;done)|try simp only [h])|fail))
        exact hih v3 τ3 hm3
      · have hi0:(((i:Nat):Int)==0)=false:=Bq (by omega)
        subst h12
        simp only [h0,and_false,if_false] at hp
        (repeat' (first|refine Run.ct rfl ?_|((first|refine Run.reg mixed ?_|refine Run.AJ ?_|(refine Ri.sr hm rfl hlk (by decide) (fun v3 τ3 hm3=>?_);have hq3:=hm3.cell)|refine AH.det (hp) ?_|(refine AQ rfl (fun h=>?_) (fun h=>?_)<;>try (cases h;done)))<;>try simp -implicitDefEqProofs only [BZ hlt,he,hw1,AG,AS,hi0,hq.1,hq.2.1,hq.2.2.1,hq.2.2.2,go_sem])|(refine ⟨fun h=>?_,fun h=>?_⟩<;>first|(cases h;done)|try simp only [h])|fail))
        (repeat' (first|refine Run.ct rfl ?_|((first|refine Run.reg mixed ?_|refine Run.AJ ?_|(refine AQ rfl (fun h=>?_) (fun h=>?_)<;>try (cases h;done)))<;>try simp -implicitDefEqProofs only [hw1,hq3.1,hq3.2.1,hq3.2.2.1,hq3.2.2.2,go_sem])|(refine ⟨fun h=>?_,fun h=>?_⟩<;>first|(cases h;done)|try simp only [h])|fail))
        exact hih v3 τ3 hm3
    · simp only [h12,false_and,if_false] at hp
      (repeat' (first|refine Run.ct rfl ?_|((first|refine Run.reg mixed ?_|refine Run.AJ ?_|(refine Ri.sr hm rfl hlk (by decide) (fun v3 τ3 hm3=>?_);have hq3:=hm3.cell)|refine AH.det (hp) ?_|(refine AQ rfl (fun h=>?_) (fun h=>?_)<;>try (cases h;done)))<;>try simp -implicitDefEqProofs only [BZ hlt,he,hw1,AG,Bq h12,hq.1,hq.2.1,hq.2.2.1,hq.2.2.2,go_sem])|(refine ⟨fun h=>?_,fun h=>?_⟩<;>first|(cases h;done)|try simp only [h])|fail))
      (repeat' (first|refine Run.ct rfl ?_|((first|refine Run.reg mixed ?_|refine Run.AJ ?_|(refine AQ rfl (fun h=>?_) (fun h=>?_)<;>try (cases h;done)))<;>try simp -implicitDefEqProofs only [hw1,hq3.1,hq3.2.1,hq3.2.2.1,hq3.2.2.2,go_sem])|(refine ⟨fun h=>?_,fun h=>?_⟩<;>first|(cases h;done)|try simp only [h])|fail))
      exact hih v3 τ3 hm3
  rw [A8 (by rw [gL];omega)] at hm
  clear ih
  by_cases h12:o=12
  · subst h12
    obtain ⟨f,l,rfl⟩:∃f l,ks=f::l:=by
     cases ks with
     |nil=>simp [nkB] at hnk
     |cons f l=>exact ⟨f,l,rfl⟩
    have hl0:=TH 4 f (Af f)
    have hjl:=Gf (sep:=[44,32]) (by decide) (l.map Af)
    simp only [AF,Cu] at hes
    have e:G4 12 n u ns (f::l) ((f::l).map Af) (al.map E0)=(if H6 f then [40]++Af f++[41] else pl 4 f (Af f))++[40]++Lib.join (l.map Af) [44,32]++[41]:=by
     show (if H6 f then Fk (Af f) else pl 4 f (Af f))++FC (l.map Af)=_
     simp [FC,Fk,cms]
    have hji:=QX (l.map Af) σ (by omega)
    have hbl:H6 f=true→pl 4 f (Af f)=Af f:=fun h=>by
     obtain ⟨of,nf,uf,nsf,ksf,alf⟩:=f
     simp only [H6,AN,beq_iff_eq] at h
     obtain ⟨rfl,_⟩:=h
     rfl
    rw [e]
    simp only [VV,if_true] at hm
    have hrow:∀t:Str,X5 ((t::l.map Af).map B0) (some (.d (.int .i64 1))) none none 1=some (.d (.sl ((l.map Af).map B0))):=fun t=>TN t _
    have hr0:∀t:Str,((t::l.map Af).map B0)[0]?=some [.str t]:=fun t=>rfl
    have hlL:∀t:Str,(t::l.map Af).length≤1000000:=fun t=>by simp only [AB,AG] at hks7 ⊢;omega
    have hjv:∃j,σ.blk j=none∧v= .ms j (pl 4 f (Af f)::l.map Af).length 1 v8∧τ=σ.AL j (W2 (pl 4 f (Af f)::l.map Af)):=by
     rcases hm with ⟨_,h,_⟩|h
     · cases h
     · exact h
    obtain ⟨j,hj,rfl,rfl⟩:=hjv
    have hm':∀t:Str,SR σ (t::l.map Af) (.ms j (pl 4 f (Af f)::l.map Af).length 1 v8) (σ.AL j (W2 (t::l.map Af))):=fun t=>.inr ⟨j,hj,by simp,rfl⟩
    have hln:(pl 4 f (Af f)::l.map Af).length=l.length+1:=by simp
    rw [hln] at hm' ⊢
    have hli:decide ((i:Int) < (((l.map Ex.enc).length+1:Nat):Int))=false:=by simp only [AB,AG,decide_eq_false_iff_not] at hlt ⊢;omega
    have hli2:decide ((i:Int) < ((l.length+1:Nat):Int))=false:=by simp only [AB,AG,decide_eq_false_iff_not] at hlt ⊢;omega
    clear e hpl htx hm hln
    generalize Lib.join (l.map Af) [44,32]=J at *
    generalize l.map Af=tl at *
    generalize hP:pl 4 f (Af f)=P at *
    generalize Af f=tf at *
    have hpos:((0:Int) < ((l.length+1:Nat):Int))=True:=eq_true (by omega)
    have hz00:(((0:Nat):Int)==0)=true:=rfl
    obtain ⟨of,nf,uf,nsf,ksf,alf⟩:=f
    cases hbc:H6 (.mk of nf uf nsf ksf alf) with
    |true=>
     have hPf:=hbl hbc
     subst hPf
     simp only [H6,AN,beq_iff_eq,List.isEmpty_iff] at hbc
     obtain ⟨rfl,rfl⟩:=hbc
     rw [if_pos rfl]
     have hc1:=DB (a:=[40]) (b:=P) (by simp only [AB,AE];omega)
     have hc2:=DB (a:=[40]++P) (b:=[41]) (by simp only [AA,AB,AE];omega)
     simp only [A0,A3] at hc1 hc2 ⊢
     (repeat' (first|refine Run.ct rfl ?_|((first|refine Run.reg mixed ?_|refine Run.AJ ?_|(refine AQ rfl (fun h=>?_) (fun h=>?_)<;>try (cases h;done)))<;>try simp -implicitDefEqProofs only [hli,hz00,hpos,Lb,AB,AS,BA,Ap,if_true,A5,AF,Ex.A2,AI,W2,hc1,hc2,AO,A4,L9,Ja,A3,A0,go_sem])|(refine ⟨fun h=>?_,fun h=>?_⟩<;>first|(cases h;done)|try simp only [h])|fail))
     refine Run.srz (F':=put 5 (.d (.sl (((40::(P++[41]))::tl).map B0))) U) (ts:=(40::(P++[41]))::tl) (hm' _) (hlL _) ((FzT.refl _ _ _).here 5) ?_
     have hs1:=TN (40::(P++[41])) tl
     simp only [AF,B0] at hs1
     (repeat' (first|refine Run.ct rfl ?_|((first|refine Run.reg mixed ?_|refine Run.AJ ?_|(refine Run.FZ mixed ?_)|(with_reducible refine Cy ?_ ?_)|(refine Run.Ad Bf (σ2:=σ) (AM.le_refl _) ?_)|(refine XPv.cat (by (try simp only [AA,AB,AE]);omega) ?_)|refine AH.det (hji) ?_|(refine AQ rfl (fun h=>?_) (fun h=>?_)<;>try (cases h;done)))<;>try simp -implicitDefEqProofs only [AS,BA,Ap,if_true,AF,B0,AB,AE,A5,hs1,go_sem])|(refine ⟨fun h=>?_,fun h=>?_⟩<;>first|(cases h;done)|try simp only [h])|fail))
    |false=>
     rw [if_neg (by decide)]
     have hfb:(of==6)=false∨((of==6)=true∧(((ksf.length:Nat):Int)==0)=false):=by
      cases h6:of==6 with
      |false=>exact .inl rfl
      |true=>
       refine .inr ⟨rfl,Bq ?_⟩
       cases ksf with
       |nil=>rw [H6,h6] at hbc;cases hbc
       |cons k r=>simp only [AB];omega
     rcases hfb with hfb|⟨hfb,hf2⟩
     · (repeat' (first|refine Run.ct rfl ?_|((first|refine Run.reg mixed ?_|refine Run.AJ ?_|(refine AQ rfl (fun h=>?_) (fun h=>?_)<;>try (cases h;done)))<;>try simp -implicitDefEqProofs only [hli,hli2,hfb,hz00,hpos,Lb,AG,AB,AS,BA,Ap,if_true,A5,AF,Ex.A2,AI,go_sem])|(refine ⟨fun h=>?_,fun h=>?_⟩<;>first|(cases h;done)|try simp only [h])|fail))
       refine Run.srz (F':=put 5 (.d (.sl ((P::tl).map B0))) (put 232 (.d (.bool false)) U)) (ts:=P::tl) (hm' _) (hlL _) ((FzT.refl _ _ _).here 5) ?_
       have hs1:=TN P tl
       simp only [AF,B0] at hs1
       (repeat' (first|refine Run.ct rfl ?_|((first|refine Run.reg mixed ?_|refine Run.AJ ?_|(refine Run.FZ mixed ?_)|(with_reducible refine Cy ?_ ?_)|(refine Run.Ad Bf (σ2:=σ) (AM.le_refl _) ?_)|(refine XPv.cat (by (try simp only [AA,AB,AE]);omega) ?_)|refine AH.det (hji) ?_|(refine AQ rfl (fun h=>?_) (fun h=>?_)<;>try (cases h;done)))<;>try simp -implicitDefEqProofs only [AS,BA,Ap,if_true,AF,B0,AB,AE,A5,hs1,go_sem])|(refine ⟨fun h=>?_,fun h=>?_⟩<;>first|(cases h;done)|try simp only [h])|fail))
     · (repeat' (first|refine Run.ct rfl ?_|((first|refine Run.reg mixed ?_|refine Run.AJ ?_|(refine AQ rfl (fun h=>?_) (fun h=>?_)<;>try (cases h;done)))<;>try simp -implicitDefEqProofs only [hli,hli2,hfb,hf2,hz00,hpos,Lb,AG,AB,AS,BA,Ap,if_true,A5,AF,Ex.A2,AI,go_sem])|(refine ⟨fun h=>?_,fun h=>?_⟩<;>first|(cases h;done)|try simp only [h])|fail))
       refine Run.srz (F':=put 5 (.d (.sl ((P::tl).map B0))) (put 232 (.d (.bool false)) U)) (ts:=P::tl) (hm' _) (hlL _) ((FzT.refl _ _ _).here 5) ?_
       have hs1:=TN P tl
       simp only [AF,B0] at hs1
       (repeat' (first|refine Run.ct rfl ?_|((first|refine Run.reg mixed ?_|refine Run.AJ ?_|(refine Run.FZ mixed ?_)|(with_reducible refine Cy ?_ ?_)|(refine Run.Ad Bf (σ2:=σ) (AM.le_refl _) ?_)|(refine XPv.cat (by (try simp only [AA,AB,AE]);omega) ?_)|refine AH.det (hji) ?_|(refine AQ rfl (fun h=>?_) (fun h=>?_)<;>try (cases h;done)))<;>try simp -implicitDefEqProofs only [AS,BA,Ap,if_true,AF,B0,AB,AE,A5,hs1,go_sem])|(refine ⟨fun h=>?_,fun h=>?_⟩<;>first|(cases h;done)|try simp only [h])|fail))
  rw [xI h12] at hm
  refine Run.srz (F':=put 1 (.lp 1 0) (put 5 (.d (.sl ((ks.map Af).map B0))) (put 6 (.d (.int .i64 i)) U))) hm (by simp;omega) (((FzT.refl _ _ _).here 5).skip 1 _) ?_
  clear hm hq v τ hpl
  have hjl:=Gf (sep:=[44,32]) (by decide) (ks.map Af)
  have hrl:((ks.map Af).map B0).length=ks.length:=by simp
  have hjo:=QX (ks.map Af) σ (by omega)
  generalize hJ:Lib.join (ks.map Af) [44,32]=J at hjl hjo
  (repeat (first
    |refine Run.seq ?_
    |refine Run.skip ?_
    |refine Run.block ?_
    |refine Run.blk ?_
    |refine Run.scope ?_
    |refine Run.scp ?_
    |(refine Run.exit rfl ?_)
    |(refine Run.reg mixed ?_;simp -implicitDefEqProofs only [FD hlt,AG,go_sem])
    |(refine Run.AJ ?_;simp -implicitDefEqProofs only [FD hlt,AG,go_sem])))
  have hop:o=1∨o=2∨o=3∨o=4∨o=5∨o=6∨o=7∨o=8∨o=9∨o=10∨o=11∨o=14∨o=15∨o=16∨o=17:=by
   have:=cB hnk;omega
  rcases hop with rfl|rfl|rfl|rfl|rfl|rfl|rfl|rfl|rfl|rfl|rfl|rfl|rfl|rfl|rfl
  · have e:G4 1 n u ns ks (ks.map Af) (al.map E0)=[40,41]:=by rfl
    rw [e]
    clear e htx
    (try simp -implicitDefEqProofs only [AS,go_sem])
    (repeat' (first|refine Run.ct rfl ?_|((first|refine Run.reg mixed ?_|refine Run.AJ ?_|(refine Run.FZ mixed ?_)|(with_reducible refine Cy ?_ ?_)|(refine Run.Ad Bf (σ2:=σ) (AM.le_refl _) ?_)|(refine XPv.cat (by (try simp only [AA,AB,AE]);omega) ?_)|(refine AQ rfl (fun h=>?_) (fun h=>?_)<;>try (cases h;done)))<;>try simp -implicitDefEqProofs only [AS,BA,Ap,if_true,A5,Ag,go_sem])|(refine ⟨fun h=>?_,fun h=>?_⟩<;>first|(cases h;done)|try simp only [h])|fail))
  · by_cases hu:u=1
    · subst hu
      have e:G4 2 n 1 ns ks (ks.map Af) (al.map E0)=[116,114,117,101]:=rfl
      rw [e]
      (try simp -implicitDefEqProofs only [AS,go_sem])
      (repeat' (first|refine Run.ct rfl ?_|((first|refine Run.reg mixed ?_|refine Run.AJ ?_|(refine Run.FZ mixed ?_)|(with_reducible refine Cy ?_ ?_)|(refine Run.Ad Bf (σ2:=σ) (AM.le_refl _) ?_)|(refine XPv.cat (by (try simp only [AA,AB,AE]);omega) ?_)|(refine AQ rfl (fun h=>?_) (fun h=>?_)<;>try (cases h;done)))<;>try simp -implicitDefEqProofs only [AS,BA,Ap,if_true,A5,Ag,go_sem])|(refine ⟨fun h=>?_,fun h=>?_⟩<;>first|(cases h;done)|try simp only [h])|fail))
    · have e:G4 2 n u ns ks (ks.map Af) (al.map E0)=[102,97,108,115,101]:=by show (if u=1 then _ else _)=_;rw [if_neg hu]
      rw [e]
      (try simp -implicitDefEqProofs only [AS,go_sem])
      (repeat' (first|refine Run.ct rfl ?_|((first|refine Run.reg mixed ?_|refine Run.AJ ?_|(refine Run.FZ mixed ?_)|(with_reducible refine Cy ?_ ?_)|(refine Run.Ad Bf (σ2:=σ) (AM.le_refl _) ?_)|(refine XPv.cat (by (try simp only [AA,AB,AE]);omega) ?_)|(refine AQ rfl (fun h=>?_) (fun h=>?_)<;>try (cases h;done)))<;>try simp -implicitDefEqProofs only [AS,BA,Ap,if_true,A5,Ag,Bq hu,go_sem])|(refine ⟨fun h=>?_,fun h=>?_⟩<;>first|(cases h;done)|try simp only [h])|fail))
  · have hno:=V9 u σ (by simp [nuB] at hnu;omega) (by simp [nuB] at hnu;omega)
    have e:G4 3 n u ns ks (ks.map Af) (al.map E0)=Lib.itoa u:=by rfl
    rw [e]
    clear e htx
    (try simp -implicitDefEqProofs only [AS,go_sem])
    (repeat' (first|refine Run.ct rfl ?_|((first|refine Run.reg mixed ?_|refine Run.AJ ?_|(refine Run.FZ mixed ?_)|(with_reducible refine Cy ?_ ?_)|(refine Run.Ad Bf (σ2:=σ) (AM.le_refl _) ?_)|(refine XPv.cat (by (try simp only [AA,AB,AE]);omega) ?_)|refine AH.det (hno) ?_|(refine AQ rfl (fun h=>?_) (fun h=>?_)<;>try (cases h;done)))<;>try simp -implicitDefEqProofs only [AS,BA,Ap,if_true,A5,Ag,go_sem])|(refine ⟨fun h=>?_,fun h=>?_⟩<;>first|(cases h;done)|try simp only [h])|fail))
  · have hks:ks=[]:=by simpa [nkB] using hnk
    subst hks
    have e:G4 4 n u ns [] ([].map Af) (al.map E0)=n:=by show n++[]=n;rw [A1]
    rw [e]
    (try simp -implicitDefEqProofs only [AS,go_sem])
    (repeat' (first|refine Run.ct rfl ?_|((first|refine Run.reg mixed ?_|refine Run.AJ ?_|(refine Run.FZ mixed ?_)|(with_reducible refine Cy ?_ ?_)|(refine Run.Ad Bf (σ2:=σ) (AM.le_refl _) ?_)|(refine XPv.cat (by (try simp only [AA,AB,AE]);omega) ?_)|(refine AQ rfl (fun h=>?_) (fun h=>?_)<;>try (cases h;done)))<;>try simp -implicitDefEqProofs only [AS,BA,Ap,if_true,A5,Ag,go_sem])|(refine ⟨fun h=>?_,fun h=>?_⟩<;>first|(cases h;done)|try simp only [h])|fail))
  · have e:G4 5 n u ns ks (ks.map Af) (al.map E0)=[40]++J++[41]:=by show FC _=_;rw [FC,cms,hJ];rfl
    rw [e]
    clear e htx
    (try simp -implicitDefEqProofs only [AS,go_sem])
    (repeat' (first|refine Run.ct rfl ?_|((first|refine Run.reg mixed ?_|refine Run.AJ ?_|(refine Run.FZ mixed ?_)|(with_reducible refine Cy ?_ ?_)|(refine Run.Ad Bf (σ2:=σ) (AM.le_refl _) ?_)|(refine XPv.cat (by (try simp only [AA,AB,AE]);omega) ?_)|refine AH.det (hjo) ?_|(refine AQ rfl (fun h=>?_) (fun h=>?_)<;>try (cases h;done)))<;>try simp -implicitDefEqProofs only [AS,BA,Ap,if_true,A5,Ag,go_sem])|(refine ⟨fun h=>?_,fun h=>?_⟩<;>first|(cases h;done)|try simp only [h])|fail))
  · by_cases hks:ks=[]
    · subst hks
      have e:G4 6 n u ns [] ([].map Af) (al.map E0)=n:=by show n++[]=n;rw [A1]
      rw [e]
      simp only [AI]
      (try simp -implicitDefEqProofs only [AS,go_sem])
      (repeat' (first|refine Run.ct rfl ?_|((first|refine Run.reg mixed ?_|refine Run.AJ ?_|(refine Run.FZ mixed ?_)|(with_reducible refine Cy ?_ ?_)|(refine Run.Ad Bf (σ2:=σ) (AM.le_refl _) ?_)|(refine XPv.cat (by (try simp only [AA,AB,AE]);omega) ?_)|(refine AQ rfl (fun h=>?_) (fun h=>?_)<;>try (cases h;done)))<;>try simp -implicitDefEqProofs only [AS,BA,Ap,if_true,A5,Ag,AE,AI,beq_self_eq_true,Int.natCast_zero,Int.ofNat_zero,go_sem])|(refine ⟨fun h=>?_,fun h=>?_⟩<;>first|(cases h;done)|try simp only [h])|fail))
    · have e:G4 6 n u ns ks (ks.map Af) (al.map E0)=n++[40]++J++[41]:=by
       show n++Fw _=_
       rw [Fw,if_neg (by simpa using hks),Fk,cms,hJ];simp
      have hz0:(((ks.length:Nat):Int)==0)=false:=Bq (by have:=Aq.2 hks;omega)
      rw [e]
      (try simp -implicitDefEqProofs only [AS,go_sem])
      (repeat' (first|refine Run.ct rfl ?_|((first|refine Run.reg mixed ?_|refine Run.AJ ?_|(refine Run.FZ mixed ?_)|(with_reducible refine Cy ?_ ?_)|(refine Run.Ad Bf (σ2:=σ) (AM.le_refl _) ?_)|(refine XPv.cat (by (try simp only [AA,AB,AE]);omega) ?_)|refine AH.det (hjo) ?_|(refine AQ rfl (fun h=>?_) (fun h=>?_)<;>try (cases h;done)))<;>try simp -implicitDefEqProofs only [AS,BA,Ap,if_true,A5,Ag,AG,hz0,go_sem])|(refine ⟨fun h=>?_,fun h=>?_⟩<;>first|(cases h;done)|try simp only [h])|fail))
  · have hsh:=S9 n σ
    obtain ⟨a,b,rfl⟩:=OZ (by simpa [nkB] using hnk)
    have e:G4 7 n u ns [a,b] ([a,b].map Af) (al.map E0)=[108,101,116,32]++shown n++[32,61,32]++Af a++[32,105,110,32]++Af b:=by show [108,101,116,32]++(shown n++([32,61,32]++(Af a++([32,105,110,32]++Af b))))=_;simp only [AT]
    rw [e]
    simp only [AF,AI,Cu,B0] at hes ⊢
    clear e htx hk
    generalize Af a=ta at *
    generalize Af b=tb at *
    (try simp -implicitDefEqProofs only [AS,go_sem])
    (repeat' (first|refine Run.ct rfl ?_|((first|refine Run.reg mixed ?_|refine Run.AJ ?_|(refine Run.FZ mixed ?_)|(with_reducible refine Cy ?_ ?_)|(refine Run.Ad Bf (σ2:=σ) (AM.le_refl _) ?_)|(refine XPv.cat (by (try simp only [AA,AB,AE]);omega) ?_)|refine AH.det (hsh) ?_|(refine AQ rfl (fun h=>?_) (fun h=>?_)<;>try (cases h;done)))<;>try simp -implicitDefEqProofs only [AS,BA,Ap,if_true,A5,Ag,go_sem])|(refine ⟨fun h=>?_,fun h=>?_⟩<;>first|(cases h;done)|try simp only [h])|fail))
  · have hn2:ns≠[]∧ns.length≤6:=by simp [nsB] at hns;exact ⟨fun e=>by simp [e] at hns,hns.1.2⟩
    have hjb:=Gf (sep:=[44,32]) (by decide) (ns.map shown)
    have hbo:=Wx ns σ (by omega) (by omega)
    have hos:Fw (ns.map shown)=[40]++Lib.join (ns.map shown) [44,32]++[41]:=by rw [Fw,if_neg (by simpa using hn2.1),Fk,cms];rfl
    generalize Lib.join (ns.map shown) [44,32]=B at *
    obtain ⟨a,b,rfl⟩:=OZ (by simpa [nkB] using hnk)
    have e:G4 8 n u ns [a,b] ([a,b].map Af) (al.map E0)=[108,101,116,32,40]++B++[41,32,61,32]++Af a++[32,105,110,32]++Af b:=by show [108,101,116,32]++(Fw (ns.map shown)++([32,61,32]++(Af a++([32,105,110,32]++Af b))))=_;rw [hos];simp
    rw [e]
    simp only [AF,AI,Cu,B0] at hes ⊢
    clear e htx hk
    generalize Af a=ta at *
    generalize Af b=tb at *
    (try simp -implicitDefEqProofs only [AS,go_sem])
    (repeat' (first|refine Run.ct rfl ?_|((first|refine Run.reg mixed ?_|refine Run.AJ ?_|(refine Run.FZ mixed ?_)|(with_reducible refine Cy ?_ ?_)|(refine Run.Ad Bf (σ2:=σ) (AM.le_refl _) ?_)|(refine XPv.cat (by (try simp only [AA,AB,AE]);omega) ?_)|refine AH.det (hbo) ?_|(refine AQ rfl (fun h=>?_) (fun h=>?_)<;>try (cases h;done)))<;>try simp -implicitDefEqProofs only [AS,BA,Ap,if_true,A5,Ag,go_sem])|(refine ⟨fun h=>?_,fun h=>?_⟩<;>first|(cases h;done)|try simp only [h])|fail))
  · obtain ⟨a,b,c,rfl⟩:=gT (by simpa [nkB] using hnk)
    have e:G4 9 n u ns [a,b,c] ([a,b,c].map Af) (al.map E0)=[105,102,32]++Af a++[32,116,104,101,110,32]++Af b++[32,101,108,115,101,32]++Af c:=by show [105,102,32]++(Af a++([32,116,104,101,110,32]++(Af b++([32,101,108,115,101,32]++Af c))))=_;simp only [AT]
    rw [e]
    simp only [AF,AI,Cu,B0] at hes ⊢
    clear e htx hk
    generalize Af a=ta at *
    generalize Af b=tb at *
    generalize Af c=tc at *
    (try simp -implicitDefEqProofs only [AS,go_sem])
    (repeat' (first|refine Run.ct rfl ?_|((first|refine Run.reg mixed ?_|refine Run.AJ ?_|(refine Run.FZ mixed ?_)|(with_reducible refine Cy ?_ ?_)|(refine Run.Ad Bf (σ2:=σ) (AM.le_refl _) ?_)|(refine XPv.cat (by (try simp only [AA,AB,AE]);omega) ?_)|(refine AQ rfl (fun h=>?_) (fun h=>?_)<;>try (cases h;done)))<;>try simp -implicitDefEqProofs only [AS,BA,Ap,if_true,A5,Ag,go_sem])|(refine ⟨fun h=>?_,fun h=>?_⟩<;>first|(cases h;done)|try simp only [h])|fail))
  · obtain ⟨a,rfl⟩:=Ub (by simpa [nkB] using hnk)
    have hall:=YB has
    have e:G4 10 n u ns [a] ([a].map Af) (al.map E0)=[109,97,116,99,104,32]++Af a++[32,119,105,116,104,32]++Lib.join (al.map E0) [32,124,32]++[32,101,110,100]:=by show [109,97,116,99,104,32]++(Af a++([32,119,105,116,104,32]++(Lib.join (al.map E0) [32,124,32]++[32,101,110,100])))=_;simp only [AT]
    have hja:=Gf (sep:=[32,124,32]) (by decide) (al.map E0)
    have hal7:al.length≤100000:=by have:=Al.Ds al;omega
    rw [e]
    simp only [AF,AI,Cu,B0] at hes ⊢
    clear e hk
    generalize Af a=ta at *
    (try simp -implicitDefEqProofs only [AS,go_sem])
    (repeat' (first|refine Run.ct rfl ?_|((first|refine Run.reg mixed ?_|refine Run.AJ ?_|(refine XPv.cat (by (try simp only [AA,AB,AE]);omega) ?_)|(refine AQ rfl (fun h=>?_) (fun h=>?_)<;>try (cases h;done)))<;>try simp -implicitDefEqProofs only [AS,BA,Ap,if_true,A5,Ag,go_sem])|(refine ⟨fun h=>?_,fun h=>?_⟩<;>first|(cases h;done)|try simp only [h])|fail))
    refine Run.Ba ?_
    refine Run.Bd ((fun (a1:AV)=>fun (y:Nat×Str)=>put 1 a1 (put 8 (.d (.str y.2)) (put 9 (.d (.int .i64 y.1)) U))) _) (fun _=>B8 1 [.d (.int .i64 10),.d (.str n),.d (.int .i64 u),.d (.sl (ns.map B0)),.d (.sl [a.enc]),.d (.sl (al.map Al.enc))] E) (fun _=>σ) (fun y=>y.1≤al.length∧y.2=[109,97,116,99,104,32]++ta++[32,119,105,116,104,32]++Lib.join ((al.map E0).take y.1) [32,124,32]) (fun y=>al.length - y.1) ?_ (0,_) ⟨by simp,by simp [Lib.join_nil]⟩
    rintro ⟨k,s1⟩ ⟨hk1,hs1⟩ ih
    simp only at hk1 hs1
    have htk:=VU [32,124,32] (al.map E0) k
    have hsl:=congrArg Kd hs1
    simp only [AA,AB,AE] at hsl
    by_cases hlk:k < al.length
    · obtain ⟨x,hx⟩:=C7 hlk
      have he:=CR (enc:=Al.enc) hx
      have hw1:IntKind.i64.wrap ((k:Int)+1)=((k+1:Nat):Int):=by rw [BF (by omega) (by omega)];omega
      have hxm:=Ae hx
      have hab:=hall x hxm
      have hmx:(al.map E0)[k]?=some (E0 x):=by simp [hx]
      have hle2:=rZ hmx
      obtain ⟨c,vs,b⟩:=x
      have htb:=htx c vs b hxm σ
      simp only [MY,AN,decide_eq_true_eq,A7] at hab
      have hcl:=NO hab.1.1
      have hjb:=Gf (sep:=[44,32]) (by decide) (vs.map shown)
      have hjl3:JL (vs.map shown)≤(vs.map shown).length * 27:=Xm (fun x hx=>by obtain ⟨y,hy,rfl⟩:=Im.1 hx;exact S1 (hab.2 y hy))
      have hjl4:(vs.map shown).length * 27≤6 * 27:=Ao _ (by simpa using hab.1.2)
      have hbo:=Wx vs σ (by omega) (by omega)
      have hih:=fun s2 h=>ih (k+1,s2) ⟨by simp only;omega,h⟩ (by simp only;omega)
      simp only at hih
      have hfa:E0 (.mk c vs b)=c++(Fw (vs.map shown)++([32,45,62,32]++Af b)):=rfl
      have hop1:vs≠[]→Fw (vs.map shown)=[40]++Lib.join (vs.map shown) [44,32]++[41]:=fun h=>by rw [Fw,if_neg (by simpa using h),Fk,cms];rfl
      have hop0:vs=[]→Fw (vs.map shown)=[]:=fun h=>by subst h;rfl
      generalize E0 (.mk c vs b)=fa at *
      generalize Lib.join (vs.map shown) [44,32]=B at *
      generalize Fw (vs.map shown)=ov at *
      have htl:(Af b).length≤fa.length:=by rw [hfa];simp only [AA];omega
      generalize Af b=tb at *
      obtain ⟨o1,n1,u1,ns1,ks1,al1⟩:=b
      simp only [Al.A2,exA,Ex.A2,AF,AI] at he htb
      by_cases hk0:0 < k
      · have hjs:=Yk (sep:=[32,124,32]) hk0 hmx
        rw [hjs] at hih
        by_cases hv:vs=[]
        · have h2:=hop0 hv
          subst hv h2
          (repeat' (first|refine Run.ct rfl ?_|((first|refine Run.reg mixed ?_|refine Run.AJ ?_|(refine XPv.cat (by (try simp only [AA,AB,AE]);omega) ?_)|refine AH.det (htb) ?_|(refine AQ rfl (fun h=>?_) (fun h=>?_)<;>try (cases h;done)))<;>try simp -implicitDefEqProofs only [BZ hlk,he,hw1,gt0,AG,AE,AI,decide_eq_true hk0,decide_eq_false (Nat.lt_irrefl 0),go_sem])|(refine ⟨fun h=>?_,fun h=>?_⟩<;>first|(cases h;done)|try simp only [h])|fail))
          exact hih _ (by rw [hs1,hfa];simp)
        · have h2:=hop1 hv
          have hv0:0 < vs.length:=Aq.2 hv
          (repeat' (first|refine Run.ct rfl ?_|((first|refine Run.reg mixed ?_|refine Run.AJ ?_|(refine XPv.cat (by (try simp only [AA,AB,AE]);omega) ?_)|refine AH.det (htb) ?_|refine AH.det (hbo) ?_|(refine AQ rfl (fun h=>?_) (fun h=>?_)<;>try (cases h;done)))<;>try simp -implicitDefEqProofs only [BZ hlk,he,hw1,gt0,AG,decide_eq_true hk0,decide_eq_true hv0,go_sem])|(refine ⟨fun h=>?_,fun h=>?_⟩<;>first|(cases h;done)|try simp only [h])|fail))
          exact hih _ (by rw [hs1,hfa,h2];simp)
      · obtain rfl:k=0:=by omega
        have hjs:=Yj (sep:=[32,124,32]) hmx
        rw [hjs] at hih
        by_cases hv:vs=[]
        · have h2:=hop0 hv
          subst hv h2
          (repeat' (first|refine Run.ct rfl ?_|((first|refine Run.reg mixed ?_|refine Run.AJ ?_|(refine XPv.cat (by (try simp only [AA,AB,AE]);omega) ?_)|refine AH.det (htb) ?_|(refine AQ rfl (fun h=>?_) (fun h=>?_)<;>try (cases h;done)))<;>try simp -implicitDefEqProofs only [BZ hlk,he,hw1,gt0,AG,AE,AI,decide_eq_false hk0,decide_eq_false (Nat.lt_irrefl 0),go_sem])|(refine ⟨fun h=>?_,fun h=>?_⟩<;>first|(cases h;done)|try simp only [h])|fail))
          exact hih _ (by rw [hs1,hfa];simp [Lib.join_nil])
        · have h2:=hop1 hv
          have hv0:0 < vs.length:=Aq.2 hv
          (repeat' (first|refine Run.ct rfl ?_|((first|refine Run.reg mixed ?_|refine Run.AJ ?_|(refine XPv.cat (by (try simp only [AA,AB,AE]);omega) ?_)|refine AH.det (htb) ?_|refine AH.det (hbo) ?_|(refine AQ rfl (fun h=>?_) (fun h=>?_)<;>try (cases h;done)))<;>try simp -implicitDefEqProofs only [BZ hlk,he,hw1,gt0,AG,decide_eq_false hk0,decide_eq_true hv0,go_sem])|(refine ⟨fun h=>?_,fun h=>?_⟩<;>first|(cases h;done)|try simp only [h])|fail))
          exact hih _ (by rw [hs1,hfa,h2];simp [Lib.join_nil])
    · rw [A8 (by simp;omega)] at hs1 htk
      subst hs1
      (repeat' (first|refine Run.ct rfl ?_|((first|refine Run.reg mixed ?_|refine Run.AJ ?_|(refine XPv.cat (by (try simp only [AA,AB,AE]);omega) ?_)|(refine Run.Ad Bf (σ2:=σ) (AM.le_refl _) ?_)|(refine AQ rfl (fun h=>?_) (fun h=>?_)<;>try (cases h;done)))<;>try simp -implicitDefEqProofs only [FD hlk,AG,go_sem])|(refine ⟨fun h=>?_,fun h=>?_⟩<;>first|(cases h;done)|try simp only [h])|fail))
  · have hjb:=Gf (sep:=[44,32]) (by decide) ns
    have hjn:=QX ns σ (by omega)
    have hls:FC ns=[40]++Lib.join ns [44,32]++[41]:=rfl
    generalize Lib.join ns [44,32]=B at *
    obtain ⟨a,rfl⟩:=Ub (by simpa [nkB] using hnk)
    have e:G4 11 n u ns [a] ([a].map Af) (al.map E0)=[102,110,40]++B++[41,32,45,62,32]++Af a:=by show [102,110]++(FC ns++([32,45,62,32]++Af a))=_;rw [hls];simp
    rw [e]
    simp only [AF,AI,Cu,B0] at hes ⊢
    clear e htx hk
    generalize Af a=ta at *
    (try simp -implicitDefEqProofs only [AS,go_sem])
    (repeat' (first|refine Run.ct rfl ?_|((first|refine Run.reg mixed ?_|refine Run.AJ ?_|(refine Run.FZ mixed ?_)|(with_reducible refine Cy ?_ ?_)|(refine Run.Ad Bf (σ2:=σ) (AM.le_refl _) ?_)|(refine XPv.cat (by (try simp only [AA,AB,AE]);omega) ?_)|refine AH.det (hjn) ?_|(refine AQ rfl (fun h=>?_) (fun h=>?_)<;>try (cases h;done)))<;>try simp -implicitDefEqProofs only [AS,BA,Ap,if_true,A5,Ag,go_sem])|(refine ⟨fun h=>?_,fun h=>?_⟩<;>first|(cases h;done)|try simp only [h])|fail))
  · have hu7:1≤u∧u≤7:=by simpa [nuB] using hnu
    have hpn:=ZJ u σ hu7
    have hpl:=nN u
    have e:G4 14 n u ns ks (ks.map Af) (al.map E0)=prT u++[40]++J++[41]:=by show prT u++FC _=_;rw [FC,cms,hJ,Fk];simp
    rw [e]
    clear e htx
    (try simp -implicitDefEqProofs only [AS,go_sem])
    (repeat' (first|refine Run.ct rfl ?_|((first|refine Run.reg mixed ?_|refine Run.AJ ?_|(refine Run.FZ mixed ?_)|(with_reducible refine Cy ?_ ?_)|(refine Run.Ad Bf (σ2:=σ) (AM.le_refl _) ?_)|(refine XPv.cat (by (try simp only [AA,AB,AE]);omega) ?_)|refine AH.det (hpn) ?_|refine AH.det (hjo) ?_|(refine AQ rfl (fun h=>?_) (fun h=>?_)<;>try (cases h;done)))<;>try simp -implicitDefEqProofs only [AS,BA,Ap,if_true,A5,Ag,go_sem])|(refine ⟨fun h=>?_,fun h=>?_⟩<;>first|(cases h;done)|try simp only [h])|fail))
  · have hno:=V9 u σ (by simp [nuB] at hnu;omega) (by simp [nuB] at hnu;omega)
    have hil:=nL hnu
    have e:G4 15 n u ns ks (ks.map Af) (al.map E0)=[116,105,99,107,40]++Lib.itoa u++[41]:=by show [116,105,99,107]++Fk (Lib.itoa u)=_;rw [Fk];simp
    rw [e]
    clear e htx
    (try simp -implicitDefEqProofs only [AS,go_sem])
    (repeat' (first|refine Run.ct rfl ?_|((first|refine Run.reg mixed ?_|refine Run.AJ ?_|(refine Run.FZ mixed ?_)|(with_reducible refine Cy ?_ ?_)|(refine Run.Ad Bf (σ2:=σ) (AM.le_refl _) ?_)|(refine XPv.cat (by (try simp only [AA,AB,AE]);omega) ?_)|refine AH.det (hno) ?_|(refine AQ rfl (fun h=>?_) (fun h=>?_)<;>try (cases h;done)))<;>try simp -implicitDefEqProofs only [AS,BA,Ap,if_true,A5,Ag,go_sem])|(refine ⟨fun h=>?_,fun h=>?_⟩<;>first|(cases h;done)|try simp only [h])|fail))
  · obtain ⟨a,rfl⟩:=Ub (by simpa [nkB] using hnk)
    have e:G4 16 n u ns [a] ([a].map Af) (al.map E0)=[114,97,105,115,101,40]++Af a++[41]:=by show [114,97,105,115,101]++FC [Af a]=_;simp [FC,Fk,cms,Lib.join_one]
    rw [e]
    simp only [AF,AI,Cu,B0] at hes ⊢
    clear e htx hk
    generalize Af a=ta at *
    (try simp -implicitDefEqProofs only [AS,go_sem])
    (repeat' (first|refine Run.ct rfl ?_|((first|refine Run.reg mixed ?_|refine Run.AJ ?_|(refine Run.FZ mixed ?_)|(with_reducible refine Cy ?_ ?_)|(refine Run.Ad Bf (σ2:=σ) (AM.le_refl _) ?_)|(refine XPv.cat (by (try simp only [AA,AB,AE]);omega) ?_)|(refine AQ rfl (fun h=>?_) (fun h=>?_)<;>try (cases h;done)))<;>try simp -implicitDefEqProofs only [AS,BA,Ap,if_true,A5,Ag,go_sem])|(refine ⟨fun h=>?_,fun h=>?_⟩<;>first|(cases h;done)|try simp only [h])|fail))
  · have hsh:=S9 n σ
    obtain ⟨a,b,rfl⟩:=OZ (by simpa [nkB] using hnk)
    have e:G4 17 n u ns [a,b] ([a,b].map Af) (al.map E0)=[116,114,121,32]++Af a++[32,99,97,116,99,104,32]++shown n++[32,45,62,32]++Af b++[32,101,110,100]:=by show [116,114,121,32]++(Af a++([32,99,97,116,99,104,32]++(shown n++([32,45,62,32]++(Af b++[32,101,110,100])))))=_;simp only [AT]
    rw [e]
    simp only [AF,AI,Cu,B0] at hes ⊢
    clear e htx hk
    generalize Af a=ta at *
    generalize Af b=tb at *
    (try simp -implicitDefEqProofs only [AS,go_sem])
    (repeat' (first|refine Run.ct rfl ?_|((first|refine Run.reg mixed ?_|refine Run.AJ ?_|(refine Run.FZ mixed ?_)|(with_reducible refine Cy ?_ ?_)|(refine Run.Ad Bf (σ2:=σ) (AM.le_refl _) ?_)|(refine XPv.cat (by (try simp only [AA,AB,AE]);omega) ?_)|refine AH.det (hsh) ?_|(refine AQ rfl (fun h=>?_) (fun h=>?_)<;>try (cases h;done)))<;>try simp -implicitDefEqProofs only [AS,BA,Ap,if_true,A5,Ag,go_sem])|(refine ⟨fun h=>?_,fun h=>?_⟩<;>first|(cases h;done)|try simp only [h])|fail))
end Go.Ab
