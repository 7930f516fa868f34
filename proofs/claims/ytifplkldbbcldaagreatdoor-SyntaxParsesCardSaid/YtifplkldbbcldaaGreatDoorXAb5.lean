/- The operations that only yield a value: each does in the model what it does at the abstract level. More operations that only yield a value. Fields of values, slice expressions, comparisons with nil and of structs of integers. Conditions: none. -/
import Derived.Laws.Strings
import Derived.Laws.StructEq
import Derived.Test.YtifplkldbbcldaaGreatDoorXAb3
set_option linter.unusedSimpArgs false
set_option linter.unusedVariables false
set_option maxRecDepth 4000
set_option maxHeartbeats 8000000
open ByteArray renaming mk→GJ
open Option.some renaming injEq→AQ
open Option renaming map_eq_some_iff→AM,bind_eq_some_iff→AF,map_some→Cf
open List renaming getElem?_take→CD,getElem?_drop→BM,mem_of_mem_drop→DD,mem_of_mem_take→C2,all_eq_true→A7,range→JD,getElem?_map→BC,getElem?_range→IA,getElem?_eq_some_iff→A3,mem_of_getElem?→Aa,drop_take→Ks,take_zero→Ku,eq_nil_of_length_eq_zero→An,all_cons→CC,drop_drop→DC
open Nat renaming add_assoc→NB,zero_add→Bd,lt_or_ge→Ea,add_mul→CM,zero_le→C3,le_trans→Ay,le_refl→A4
open Bool renaming false_eq_true→AL,or_eq_true→CR,and_eq_true→AR,not_eq_true'→CZ
namespace Go.Ab
open Go.RowKit
variable {P:Program} {base N:Nat} {g:Gh} {Pr:Nat→Prop} {σ:AK} {w0 w w':World} {lam:Nat→Option Nat} {F:Fm} {L:Lm} {a:Act}
def VOp (P:Program) (o:Oper) (F:Fm) (L:Lm) (σ:AK) (v:AV):Prop:=
 ∀(base:Nat) (g:Gh) (lam:Nat→Option Nat) (Pr:Nat→Prop) (N:Nat) (a:Act) (w0 w:World),B2 base g lam Pr N F L σ a w0 w→
  ∃x g' w',(execOp a.eval o).run P w= .ok (.value x) w'∧g.le g'∧KP Pr w w'∧SV g' lam v x∧B2 base g' lam Pr N F L σ a w0 w'
theorem VOp.same {o:Oper} {v:AV}
 (h:∀(base:Nat) (g:Gh) (lam:Nat→Option Nat) (Pr:Nat→Prop) (N:Nat) (a:Act) (w0 w:World),B2 base g lam Pr N F L σ a w0 w→
   ∃x,(execOp a.eval o).run P w= .ok (.value x) w∧SV g lam v x):VOp P o F L σ v:=by
 intro base g lam Pr N a w0 w hf
 obtain ⟨x,hr,hs⟩:=h base g lam Pr N a w0 w hf
 exact ⟨x,g,w,hr,Gh.le_refl g,KP.refl Pr w,hs,hf⟩
theorem iJ {v:Value} {x:AV} (h:cv v=some x) (g:Gh):VR g x v:=by
 unfold cv at h
 split at h
 · cases h;exact .d .bool
 · split at h
   · rename_i hk;cases h;exact .d (.int hk)
   · cases h
 · rename_i s
   split at h
   · rename_i hl;cases h
     have:(GJ s.data.toList.toArray)=s:=by cases s;simp
     have hh:VR g (.d (.str s.data.toList)) (.string ⟨s.data.toList.toArray⟩):= .d (.str hl)
     rwa [this] at hh
   · cases h
 · cases h;exact .AO
 · cases h;exact .FN
 · cases h;exact .PY
 · cases h
theorem yS {v:Value} {x:AV} (h:cv v=some x):x.CB=true:=by
 unfold cv at h
 split at h<;>first|(cases h;rfl)|(split at h<;>first|(cases h;rfl)|cases h)|cases h
theorem SV.mono {g g':Gh} (hg:g.le g') {x:AV} {v:Value} (h:SV g lam x v):SV g' lam x v:=by
 cases x<;>first|exact VR.mono hg h|exact h
theorem Ad {y:Operand} {x:X} (hx:xo y=some x) (h:B2 base g lam Pr N F L σ a w0 w):SV g lam (xv F x) (a.eval y):=by
 cases y with
 |tmp n=>simp only [xo,AQ] at hx;subst hx;exact h.tm n
 |const v=>
  simp only [xo,AQ] at hx
  subst hx
  cases hc:cv v with
  |none=>exact SV.En (x:= .undef) .undef
  |some c=>exact SV.En (iJ hc g)
 |func f=>
  simp only [xo,AQ] at hx;subst hx
  exact VR.fn (fs:=[]) (cs:=[]) rfl rfl (by simp) (by simp)
 |global _=>cases hx
theorem BS {t:TypeId} {d:TypeDesc} (h:P.underlying t=some d):(underlying t).run P w= .ok d w:=by
 simp [underlying,h]
theorem Eb {t:TypeId} {n:Nat} (h:szT P t=some n):(sizeOf t).run P w= .ok n w:=by
 simp only [szT,AM] at h
 obtain ⟨i,hi,rfl⟩:=h
 simp [sizeOf,typeInfo,hi]
theorem aX {t:TypeId} (h:ldN P t=some none):(isAgg t).run P w= .ok false w:=by
 unfold ldN at h
 cases hu:P.underlying t with
 |none=>rw [hu] at h;cases h
 |some d=>
  rw [hu] at h
  cases d<;>first|(simp [isAgg,BS hu];done)|(exfalso;cases hs:szT P t<;>simp [hs] at h)
theorem aY {t:TypeId} {n:Nat} (h:ldN P t=some (some n)):(isAgg t).run P w= .ok true w∧szT P t=some n:=by
 unfold ldN at h
 cases hu:P.underlying t with
 |none=>rw [hu] at h;cases h
 |some d=>
  rw [hu] at h
  cases d<;>simp at h<;>exact ⟨by simp [isAgg,BS hu],h⟩
theorem Q2 {t:TypeId} {n:Option Nat} (ht:ldN P t=some n) {cs:List AV} {vs:List Value} {b off o:Nat} {v:AV} (hr:VRs g cs vs) (hc:Ag cs=true)
 (hcell:∀j u,vs[j]?=some u→w.cell? ⟨b,off+j,none⟩=some u) (hv:rdC cs o n=some v):
 ∃x,(Instr.loadAt t (.pointer (some ⟨b,off+o,none⟩))).run P w= .ok x w∧VR g v x:=by
 cases n with
 |none=>
  simp only [rdC,AF] at hv
  obtain ⟨v0,hv,hcv⟩:=hv
  obtain ⟨rfl,_⟩:=Ur hcv
  obtain ⟨x,hx,hvr⟩:=hr.at o _ hv
  exact ⟨x,by simp [Instr.loadAt,Instr.sureAddr,loadVar,aX ht,hcell o x hx],hvr⟩
 |some n=>
  simp only [rdC] at hv
  split at hv
  · rename_i hle
    cases hv
    obtain ⟨h1,h2⟩:=aY (w:=w) ht
    have hlen:=hr.length
    have hrr:=(hr.drop o).take n
    refine ⟨.agg ((vs.drop o).take n).toArray,?_,.agg (by simp [hlen]) ?_ (fun i c u hc hu=>hrr.idx i c u hc hu)⟩
    · have hl:((vs.drop o).take n).length=n:=by simp;omega
      have hload:=run_loadCells_list (P:=P) w ⟨b,off+o,none⟩ ((vs.drop o).take n) (fun j u hu=>by
       rw [Addr.add_lit]
       rw [CD] at hu
       split at hu
       · rw [BM] at hu
         rw [NB];exact hcell (o+j) u hu
       · cases hu)
      rw [hl] at hload
      simp [Instr.loadAt,Instr.sureAddr,loadVar,h1,Eb h2,hload]
    · intro c hcm
      have:c∈cs:=DD (C2 hcm)
      simp only [Ag,A7] at hc
      exact hc c this
  · cases hv
theorem iG {b:Nat} {vs:Array Value} {ty:TypeId} {fr:Nat×Nat} (h:w.heap[b]?=some (.cells vs ty fr)):∀j u,vs.toList[j]?=some u→w.cell? ⟨b,0+j,none⟩=some u:=by
 intro j u hu
 rw [Bd,cell_of_row w b j vs ty fr h]
 simpa using hu
theorem S6 (r:List DV):Ag (r.map AV.d)=true:=by simp [Ag,AV.CB]
theorem jD {t:TypeId} {n:Option Nat} (ht:ldN P t=some n) (h:B2 base g lam Pr N F L σ a w0 w) {p:AV} {pvl:Value} (hp:SV g lam p pvl) {v:AV} (hv:ldA L σ p n=some v):
 ∃x,(Instr.loadAt t pvl).run P w= .ok x w∧VR g v x:=by
 cases p with
 |lp k o=>
  obtain ⟨b,hb,rfl⟩:=hp
  simp only [ldA,AF] at hv
  obtain ⟨cs,hcs,hv⟩:=hv
  obtain ⟨hok,b',vs,ty,hb',_,hheap,hrs⟩:=h.loc k cs hcs
  rw [hb] at hb';cases hb'
  have:=Q2 (P:=P) (w:=w) (off:=0) ht hrs hok (iG hheap) hv
  simpa using this
 |gp i o=>
  simp only [ldA,AF] at hv
  obtain ⟨cs,hcs,hv⟩:=hv
  obtain ⟨b,hb,ho⟩:=h.rel.shr i cs hcs
  obtain ⟨vs,ty,hheap,_,_,hrs⟩:=ho.row
  cases hp with
  |gp hm=>
   rw [hb] at hm;cases hm
   have:=Q2 (P:=P) (w:=w) (off:=0) ht hrs ho.ok (fun j u hu=>iG hheap j u (by
    rw [CD] at hu
    split at hu
    · exact hu
    · cases hu)) hv
   simpa using this
 |d x=>
  cases x<;>simp only [ldA] at hv<;>try (cases hv;done)
  rename_i r
  cases hp with
  |d hp=>cases hp with
   |@ptr _ b o2 f hi hr=>
    have hrs:VRs g (r.map AV.d) ((JD r.length).map f):=by
     refine VRs.O8 _ _ (by simp) fun i c u hc hu=>?_
     rw [BC,AM] at hc hu
     obtain ⟨x,hx,rfl⟩:=hc
     obtain ⟨j,hj,rfl⟩:=hu
     have hji:i=j:=by
      rw [IA (by have:=(A3.1 hx).1;omega)] at hj;simpa using hj
     subst hji
     exact .d (hr i x hx)
    exact Q2 (P:=P) (w:=w) (off:=o2) (o:=0) ht hrs (S6 r) (fun j u hu=>by
     rw [BC,AM] at hu
     obtain ⟨i,hi',rfl⟩:=hu
     have hlt:j < r.length:=by
      rcases Ea j r.length with h1|h1
      · exact h1
      · simp [h1] at hi'
     rw [IA hlt] at hi';cases hi'
     exact h.rel.im _ _ _ (hi j hlt)) hv
 |ep r o=>
  cases hp with
  |@ep _ _ b o2 f hi hr=>
   have hrs:VRs g (r.map AV.d) ((JD r.length).map f):=by
    refine VRs.O8 _ _ (by simp) fun i c u hc hu=>?_
    rw [BC,AM] at hc hu
    obtain ⟨x,hx,rfl⟩:=hc
    obtain ⟨j,hj,rfl⟩:=hu
    have hji:i=j:=by
     rw [IA (by have:=(A3.1 hx).1;omega)] at hj;simpa using hj
    subst hji
    exact .d (hr i x hx)
   exact Q2 (P:=P) (w:=w) (off:=o2) ht hrs (S6 r) (fun j u hu=>by
    rw [BC,AM] at hu
    obtain ⟨i,hi',rfl⟩:=hu
    have hlt:j < r.length:=by
     rcases Ea j r.length with h1|h1
     · exact h1
     · simp [h1] at hi'
    rw [IA hlt] at hi';cases hi'
    exact h.rel.im _ _ _ (hi j hlt)) hv
 |_=>simp [ldA] at hv
end Go.Ab
namespace Go.Ab
open Go.RowKit
variable {P:Program} {base N:Nat} {g:Gh} {Pr:Nat→Prop} {σ:AK} {w0 w w':World} {lam:Nat→Option Nat} {F:Fm} {L:Lm} {a:Act}
theorem rB {s f off:Nat} (ho:q8 P s f=some off) {p v:AV} {pvl:Value} (hp:SV g lam p pvl) (hv:lR p off=some v):
 ∃x,(Instr.fieldAt s pvl f).run P w= .ok x w∧SV g lam v x:=by
 unfold q8 at ho
 cases hu:P.underlying s with
 |none=>rw [hu] at ho;cases ho
 |some d=>
  rw [hu] at ho
  cases d<;>try (cases ho;done)
  rename_i fs
  simp only [AF] at ho
  obtain ⟨fd,hfd,n,hn,hoff⟩:=ho
  split at hoff
  · cases hoff
  · rename_i hn0
    cases hoff
    have key:∀b o,(Instr.fieldAt s (.pointer (some ⟨b,o,none⟩)) f).run P w= .ok (.pointer (some ⟨b,o+fd.offset,none⟩)) w:=by
     intro b o
     simp [Instr.fieldAt,BS hu,hfd,Instr.sureAddr,fieldPlace,Eb hn,hn0,Addr.add_lit]
    cases p with
    |lp k o=>obtain ⟨b,hb,rfl⟩:=hp;cases hv;exact ⟨_,key b o,b,hb,rfl⟩
    |gp i o=>cases hv;cases hp with|gp hm=>exact ⟨_,key _ o,.gp hm⟩
    |ep r o=>
     cases hv
     cases hp with
     |@ep _ _ b o2 ff hi hr=>
      refine ⟨_,key b (o2+o),?_⟩
      rw [NB]
      exact VR.ep hi hr
    |d x=>
     cases x<;>simp only [lR] at hv<;>try (cases hv;done)
     cases hv
     cases hp with
     |d hp=>cases hp with
      |@ptr _ b o2 ff hi hr=>exact ⟨_,key b o2,VR.ep hi hr⟩
    |_=>simp [lR] at hv
theorem rR {rows:List (List DV)} {m:Int} {size:Nat} {v:AV} (hv:ixR rows m size=some v) {sv:Value} (hs:RD g.im (.sl rows) sv):
 ∃b off cap r,sv= .slice (some ⟨b,off,none⟩) rows.length cap∧0≤m∧m < rows.length∧rows[m.toNat]?=some r∧v= .ep r 0∧VR g v (.pointer (some ⟨b,off+m.toNat * size,none⟩)):=by
 unfold ixR at hv
 split at hv
 · rename_i h0
   simp only [AF] at hv
   obtain ⟨r,hr,hv⟩:=hv
   split at hv
   · rename_i hl
     cases hv
     have hlt:=(A3.1 hr).1
     cases hs with
     |nil=>simp at hr
     |@sl _ b off cap size' f hc hm hsz hi hrr=>
      have hsz':size'=size:=by rw [← hl];exact (hsz r (Aa hr)).symm
      subst hsz'
      refine ⟨b,off,cap,r,rfl,h0,by omega,hr,rfl,?_⟩
      exact VR.ep (o:=off+m.toNat * size') (off:=0) (f:=f m.toNat) (fun j hj=>hi _ _ hlt (by omega)) (fun j x hx=>hrr _ _ _ _ hr hx)
   · cases hv
 · cases hv
theorem uU {t e size:Nat} (he:NO P t=some e) (hsz:szT P e=some size) {p q v:AV} {pvl qvl:Value} (hp:SV g lam p pvl) (hq:SV g lam q qvl)
 (hv:ixA p q size=some v):∃x,(Instr.indexAt t pvl qvl).run P w= .ok x w∧SV g lam v x:=by
 have hu:P.underlying t=some (.slice e):=by
  unfold NO at he
  split at he
  · rename_i e' hh;cases he;exact hh
  · cases he
 have key:∀(rows:List (List DV)) (k:IntKind) (m:Int),RD g.im (.sl rows) pvl→q= .d (.int k m)→ixR rows m size=some v→∃x,(Instr.indexAt t pvl qvl).run P w= .ok x w∧SV g lam v x:=by
  intro rows k m hs hqe hr
  subst hqe
  cases hq with
  |d hd=>
   cases hd
   obtain ⟨b,off,cap,r,rfl,h0,h1,hrr,rfl,hvr⟩:=rR hr hs
   exact ⟨_,by simp [Instr.indexAt,asIntOf,BS hu,Eb hsz,h0,h1,Addr.add_lit],SV.En hvr⟩
 unfold ixA at hv
 split at hv
 · rename_i i n k m
   split at hv
   · rename_i hb
     cases hv
     cases hp with
     |@ms _ _ _ _ b cap hm hrm hn hmx=>
      cases hq with
      |d hd=>
       cases hd
       exact ⟨.pointer (some ⟨b,m.toNat * size,none⟩),by simp [Instr.indexAt,asIntOf,BS hu,Eb hsz,hb.1,hb.2,Addr.add_lit],.gp hm⟩
   · cases hv
 · rename_i i o n s e1 k m
   split at hv
   · rename_i hb
     obtain ⟨hb,rfl⟩:=hb
     cases hv
     cases hp with
     |@mv _ _ _ _ _ b oa cap hm hrm hn hmx ho=>
      cases hq with
      |d hd=>
       cases hd
       have hoo:=ho (by omega)
       subst hoo
       exact ⟨.pointer (some ⟨b,(o+m.toNat) * s,none⟩),by simp [Instr.indexAt,asIntOf,BS hu,Eb hsz,hb.1,hb.2,Addr.add_lit,CM],.gp hm⟩
   · cases hv
 · cases hp with|d hd=>exact key _ _ _ hd rfl hv
 · cases hp with|own hd _ _=>exact key _ _ _ hd rfl hv
 · cases hp with|clip hd=>exact key _ _ _ hd rfl hv
 · cases hv
theorem RD.Kn {im:Nat→Nat→Option Value} {rows:List (List DV)} {v:Value} (h:RD im (.sl rows) v):∃a cap,v= .slice a rows.length cap∧rows.length≤maxLen:=by
 cases h with
 |nil=>exact ⟨_,_,rfl,C3 _⟩
 |sl hc hm _ _ _=>exact ⟨_,_,rfl,Ay hc hm⟩
theorem Vm {n:Nat} (h:n≤maxLen):IntKind.i64.has n:=by
 simp only [maxLen] at h
 unfold IntKind.has IntKind.min IntKind.max IntKind.signed IntKind.bits
 simp;omega
theorem rY {t e:TypeId} (ht:P.underlying t=some (.slice e)) {p v:AV} {pvl:Value} (hty:TypeId) (hp:SV g lam p pvl) (hv:Tz p=some v):
 ∃x,(Builtin.len_ #[t] hty #[pvl]).run P w= .ok x w∧SV g lam v x:=by
 have key:∀rows:List (List DV),RD g.im (.sl rows) pvl→v= .d (.int .i64 rows.length)→∃x,(Builtin.len_ #[t] hty #[pvl]).run P w= .ok x w∧SV g lam v x:=by
  intro rows hr he
  subst he
  obtain ⟨a,cap,rfl,hl⟩:=hr.Kn
  exact ⟨_,by simp [Builtin.len_,BS ht,goInt],.d (.int (Vm hl))⟩
 cases p with
 |d x=>cases x with
  |sl rows=>simp only [Tz,AQ] at hv;cases hp with|d h=>exact key rows h hv.symm
  |_=>cases hv
 |AO=>cases hv;cases hp;exact ⟨_,by simp [Builtin.len_,BS ht,goInt],.d (.int (Vm (C3 _)))⟩
 |own t' e' s' rows=>simp only [Tz,AQ] at hv;cases hp with|own h _ _=>exact key rows h hv.symm
 |clip rows=>simp only [Tz,AQ] at hv;cases hp with|clip h=>exact key rows h hv.symm
 |mv i o n s e=>simp only [Tz,AQ] at hv;subst hv;cases hp with|mv h hr hn hm ho=>exact ⟨_,by simp [Builtin.len_,BS ht,goInt],.d (.int (Vm (show n≤maxLen by omega)))⟩
 |ms i n s e=>simp only [Tz,AQ] at hv;subst hv;cases hp with|ms h hr hn hm=>exact ⟨_,by simp [Builtin.len_,BS ht,goInt],.d (.int (Vm (Ay hn hm)))⟩
 |_=>cases hv
theorem nS {t:TypeId} (ht:P.underlying t=some .string) {p v:AV} {pvl:Value} (hty:TypeId) (hp:SV g lam p pvl) (hv:eY p=some v):
 ∃x,(Builtin.len_ #[t] hty #[pvl]).run P w= .ok x w∧SV g lam v x:=by
 cases p with
 |d x=>cases x with
  |str s=>
   simp only [eY,AQ] at hv;subst hv
   cases hp with
   |d h=>cases h with
    |str hl=>
     have hs:(GJ s.toArray).size=s.length:=by show s.toArray.size=s.length;simp
     exact ⟨_,by simp [Builtin.len_,BS ht,goInt,hs],.d (.int (Vm hl))⟩
  |_=>cases hv
 |_=>cases hv
theorem nQ {t:TypeId} (ht:P.underlying t=some .string) {p q v:AV} {pvl qvl:Value} (hp:SV g lam p pvl) (hq:SV g lam q qvl) (hv:bE p q=some v):
 ∃x,(Instr.index t pvl qvl).run P w= .ok x w∧SV g lam v x:=by
 unfold bE at hv
 split at hv
 · rename_i s k m
   split at hv
   · rename_i h0
     simp only [AM] at hv
     obtain ⟨b,hb,rfl⟩:=hv
     cases hp with
     |d h=>cases h;cases hq with
      |d h=>cases h;exact ⟨.int .u8 b.toNat,by
       have hlt:=(A3.1 hb).1
       have:(GJ s.toArray)[m.toNat]?=some b:=by
        have h1:m.toNat < (GJ s.toArray).size:=by simpa [ByteArray.size] using hlt
        rw [getElem?_pos (GJ s.toArray) m.toNat h1]
        have h2:=(A3.1 hb).2
        show some (s.toArray[m.toNat]'_)=some b
        simp [h2]
       simp [Instr.index,asIntOf,BS ht,h0,this],.d (.int (by
        have:=b.toNat_lt
        unfold IntKind.has IntKind.min IntKind.max IntKind.signed IntKind.bits;simp;omega))⟩
   · cases hv
 · cases hv
theorem PI (k:IntKind) (n:Int):k.has (k.wrap n):=by
 unfold IntKind.has IntKind.wrap IntKind.min IntKind.max
 cases k<;>simp [IntKind.signed,IntKind.bits]<;>(try split)<;>omega
theorem uP {k:IntKind} {a b:Int} (ha:k.has a):k.has (a.tmod b):=by
 unfold IntKind.has IntKind.min IntKind.max at *
 have h1:0≤a→0≤a.tmod b∧a.tmod b≤a:=fun h=>⟨Int.tmod_nonneg b h,by
  have:(a.tmod b).natAbs≤a.natAbs:=by rw [Int.natAbs_tmod];exact Nat.mod_le _ _
  have:=Int.tmod_nonneg b h;omega⟩
 have h2:a≤0→a≤a.tmod b∧a.tmod b≤0:=fun h=>by
  have h3:(a.tmod b).natAbs≤a.natAbs:=by rw [Int.natAbs_tmod];exact Nat.mod_le _ _
  have h4:a.tmod b=-((-a).tmod b):=by rw [Int.neg_tmod,Int.neg_neg]
  have h5:=Int.tmod_nonneg b (show 0≤-a by omega)
  omega
 cases k<;>simp [IntKind.signed,IntKind.bits] at *<;>(rcases Int.le_total 0 a with h|h<;>first|(have:=h1 h;omega)|(have:=h2 h;omega))
theorem Ye {op:BinOp} {t:TypeId} (y z:Operand) (k k':IntKind) (a b:Int):(eqGuard op t y z (.int k a) (.int k' b)).run P w= .ok () w:=by
 unfold eqGuard
 cases op<;>simp
theorem Yf {op:BinOp} {t:TypeId} (y z:Operand) (a b:ByteArray):(eqGuard op t y z (.string a) (.string b)).run P w= .ok () w:=by
 unfold eqGuard
 cases op<;>simp
theorem Ph {op:BinOp} {t:TypeId} (y z:Operand) (a b:Bool):(eqGuard op t y z (.bool a) (.bool b)).run P w= .ok () w:=by
 unfold eqGuard
 cases op<;>simp
theorem rH {op:BinOp} {t:TypeId} {k:IntKind} {a b:Int} {v:AV} (ha:k.has a) (hv:rG op k a b=some v):
 ∃x,(binOp op t (.int k a) (.int k b)).run P w= .ok x w∧VR g v x:=by
 cases op<;>simp only [rG] at hv<;>try (cases hv;done)
 case add=>cases hv;exact ⟨_,by simp [binOp,Op.intArith],.d (.int (PI _ _))⟩
 case sub=>cases hv;exact ⟨_,by simp [binOp,Op.intArith],.d (.int (PI _ _))⟩
 case mul=>cases hv;exact ⟨_,by simp [binOp,Op.intArith],.d (.int (PI _ _))⟩
 case quo=>
  split at hv
  · cases hv
  · rename_i hb;cases hv;exact ⟨_,by simp [binOp,Op.intDiv,hb],.d (.int (PI _ _))⟩
 case rem=>
  split at hv
  · cases hv
  · rename_i hb;cases hv;exact ⟨_,by simp [binOp,Op.intDiv,hb],.d (.int (uP ha))⟩
 all_goals (cases hv;exact ⟨_,by simp [binOp,Op.intCmp],.d .bool⟩)
theorem fO (s:List UInt8):(GJ s.toArray).toList=s:=by
 rw [ByteArray.toList_eq]
theorem Um (s:List UInt8):(GJ s.toArray).size=s.length:=by show s.toArray.size=s.length;simp
theorem fN (s t:List UInt8):GJ s.toArray++GJ t.toArray=GJ (s++t).toArray:=by
 apply ByteArray.ext
 simp [ByteArray.data_append]
theorem sZ {op:BinOp} {t:TypeId} {s u:List UInt8} {v:AV} (hv:gV op s u=some v):
 ∃x,(binOp op t (.string ⟨s.toArray⟩) (.string ⟨u.toArray⟩)).run P w= .ok x w∧VR g v x:=by
 cases op<;>simp only [gV] at hv<;>try (cases hv;done)
 case add=>
  split at hv
  · rename_i hl
    cases hv
    refine ⟨.string ⟨(s++u).toArray⟩,?_,.d (.str (by simpa using hl))⟩
    have h2:(s.length:Int)+(u.length:Int)≤9223372036854775807:=by
     simp only [maxLen] at hl;omega
    simp [binOp,Op.stringOp,Um,fN,h2]
  · cases hv
 all_goals (cases hv;exact ⟨_,by simp only [binOp,Op.stringOp,fO];rfl,.d .bool⟩)
theorem qO {op:BinOp} {t:TypeId} (y z:Operand) {p q v:AV} {pvl qvl:Value} (hp:SV g lam p pvl) (hq:SV g lam q qvl) (hv:qN op p q=some v):
 ∃x,((do eqGuard op t y z pvl qvl;binOp op t pvl qvl:Sem Value)).run P w= .ok x w∧SV g lam v x:=by
 unfold qN at hv
 split at hv
 · rename_i k a k' b
   split at hv
   · rename_i hk
     subst hk
     cases hp with|d hp=>cases hq with|d hq=>cases hp with|int ha=>cases hq with|int hb=>
     obtain ⟨x,hx,hr⟩:=rH (P:=P) (w:=w) (g:=g) (t:=t) ha hv
     exact ⟨x,by simp only [Sem.run_bind,Ye,Result.andThen_ok];exact hx,SV.En hr⟩
   · cases hv
 · cases hp with|d hp=>cases hq with|d hq=>cases hp with|str ha=>cases hq with|str hb=>
   obtain ⟨x,hx,hr⟩:=sZ (P:=P) (w:=w) (g:=g) (t:=t) hv
   exact ⟨x,by simp only [Sem.run_bind,Yf,Result.andThen_ok];exact hx,SV.En hr⟩
 · cases hv
theorem run_equalIn_bool (d:Nat) {t:TypeId} (ht:P.underlying t=some .bool) (a b:Bool):(Op.equalIn (d+1) t (.bool a) (.bool b)).run P w= .ok (a==b) w:=by
 simp [Op.equalIn,BS ht]
theorem run_equal_bool {t:TypeId} (ht:P.underlying t=some .bool) (a b:Bool):(Op.equal t (.bool a) (.bool b)).run P w= .ok (a==b) w:=
 run_equalIn_bool 9999 ht a b
theorem k7 {op:BinOp} {t:TypeId} (ht:P.underlying t=some .bool) (y z:Operand) {p q v:AV} {pvl qvl:Value} (hp:SV g lam p pvl) (hq:SV g lam q qvl) (hv:dR op p q=some v):
 ∃x,((do eqGuard op t y z pvl qvl;binOp op t pvl qvl:Sem Value)).run P w= .ok x w∧SV g lam v x:=by
 unfold dR at hv
 split at hv
 · cases hv;cases hp with|d hp=>cases hq with|d hq=>cases hp;cases hq;exact ⟨_,by simp only [Sem.run_bind,Ph,Result.andThen_ok];simp [binOp,run_equal_bool ht],.d .bool⟩
 · cases hv;cases hp with|d hp=>cases hq with|d hq=>cases hp;cases hq;exact ⟨_,by simp only [Sem.run_bind,Ph,Result.andThen_ok];simp [binOp,run_equal_bool ht],.d .bool⟩
 · cases hv
theorem xZ {op:UnOp} {p v:AV} {pvl:Value} (hp:SV g lam p pvl) (hv:unA op p=some v):∃x,(Op.unary op pvl).run P w= .ok x w∧SV g lam v x:=by
 unfold unA at hv
 split at hv
 · cases hv;cases hp with|d hp=>cases hp;exact ⟨_,by simp [Op.unary],.d .bool⟩
 · cases hv;cases hp with|d hp=>cases hp;exact ⟨_,by simp [Op.unary,Op.intArith],.d (.int (PI _ _))⟩
 · cases hv
theorem lM {s t:TypeId} {k j:IntKind} (hs:P.underlying s=some (.int j)) (ht:P.underlying t=some (.int k)) {p v:AV} {pvl:Value} (hp:SV g lam p pvl) (hv:dW k p=some v):
 ∃x,(convert s t pvl).run P w= .ok x w∧SV g lam v x:=by
 unfold dW at hv
 split at hv
 · cases hv;cases hp with|d hp=>cases hp;exact ⟨_,by simp [convert,BS hs,BS ht,Conv.intToInt],.d (.int (PI _ _))⟩
 · cases hv
theorem q7 {p v:AV} {i:Nat} {pvl:Value} (hp:SV g lam p pvl) (hv:q6 p i=some v):∃x,(Instr.extract pvl i).run P w= .ok x w∧VR g v x:=by
 unfold q6 at hv
 split at hv
 · simp only [AF] at hv
   obtain ⟨v0,hv,hnv⟩:=hv
   obtain ⟨rfl,_⟩:=Zv hnv
   cases hp with
   |@tup cs vs hl h=>
    have hlt:=(A3.1 hv).1
    have hv':vs[i]?=some (vs[i]'(by omega)):=by simp
    exact ⟨_,by simp [Instr.extract,hv'],h i _ _ hv hv'⟩
 · cases hv
theorem Vy {b:Bool} {p q v:AV} {pvl qvl:Value} (ts:Array TypeId) (ty:TypeId) (hp:SV g lam p pvl) (hq:SV g lam q qvl) (hv:mmA b p q=some v):
 ∃x,(if b then Builtin.max_ ts ty #[pvl,qvl] else Builtin.min_ ts ty #[pvl,qvl]).run P w= .ok x w∧SV g lam v x:=by
 unfold mmA at hv
 split at hv
 · split at hv
   · rename_i hk
     subst hk
     cases hv
     cases hp with|d hp=>cases hq with|d hq=>cases hp with|int ha=>cases hq with|int hb=>
     cases b
     · refine ⟨_,by simp [Builtin.min_,Builtin.min2],.d (.int ?_)⟩
       simp only [AL,if_false];split<;>assumption
     · refine ⟨_,by simp [Builtin.max_,Builtin.max2],.d (.int ?_)⟩
       simp only [if_true];split<;>assumption
   · cases hv
 · cases hv
end Go.Ab
namespace Go.Ab
open Go.RowKit
variable {P:Program} {base N:Nat} {g:Gh} {Pr:Nat→Prop} {σ:AK} {w0 w w':World} {lam:Nat→Option Nat} {F:Fm} {L:Lm} {a:Act}
theorem uL {s f off:Nat} {n:Option Nat} (ho:q8 P s f=some off) (hn:ACW P s f=some n) {p v:AV} {pvl:Value}
 (hp:SV g lam p pvl) (hv:fdA p off n=some v):∃x,(Instr.field s pvl f).run P w= .ok x w∧VR g v x:=by
 unfold q8 at ho
 unfold ACW at hn
 cases hu:P.underlying s with
 |none=>rw [hu] at ho;cases ho
 |some d=>
  rw [hu] at ho hn
  cases d<;>try (cases ho;done)
  rename_i fs
  simp only [AF] at ho hn
  obtain ⟨fd,hfd,m,hm,hoff⟩:=ho
  obtain ⟨fd',hfd',hld⟩:=hn
  rw [hfd] at hfd';cases hfd'
  split at hoff
  · cases hoff
  cases hoff
  cases p<;>simp only [fdA] at hv<;>try (cases hv;done)
  rename_i cs
  cases hp with
  |@agg _ vs hl hc hr=>
   have hvs:VRs g cs vs:=VRs.O8 _ _ hl hr
   cases n with
   |none=>
    simp only [rdC,AF] at hv
    obtain ⟨v0,hv,hcv⟩:=hv
    obtain ⟨rfl,_⟩:=Ur hcv
    obtain ⟨x,hx,hvr⟩:=hvs.at fd.offset _ hv
    exact ⟨x,by simp [Instr.field,BS hu,hfd,asAgg,part,aX hld,hx],hvr⟩
   |some n=>
    simp only [rdC] at hv
    split at hv
    · rename_i hle
      cases hv
      obtain ⟨h1,h2⟩:=aY (w:=w) hld
      have hrr:=(hvs.drop fd.offset).take n
      refine ⟨.agg ((vs.drop fd.offset).take n).toArray,?_,.agg (by simp [hl]) (fun c hcm=>hc c (DD (C2 hcm))) (fun i c u hc hu=>hrr.idx i c u hc hu)⟩
      have he:vs.toArray.extract fd.offset (fd.offset+n)=((vs.drop fd.offset).take n).toArray:=by
       apply Array.ext'
       simp [Ks]
      simp [Instr.field,BS hu,hfd,asAgg,part,h1,Eb h2,he]
    · cases hv
inductive SVo (g:Gh) (lam:Nat→Option Nat):Option AV→Option Value→Prop
 |none:SVo g lam none none
 |some {x:AV} {v:Value} (h:SV g lam x v):SVo g lam (some x) (some v)
theorem Pw {y:Option Operand} {x:Option X} (hx:xoo y=some x) (h:B2 base g lam Pr N F L σ a w0 w):SVo g lam (x.map (xv F)) (y.map a.eval):=by
 cases y with
 |none=>simp only [xoo,AQ] at hx;subst hx;exact .none
 |some y=>
  simp only [xoo,AM] at hx
  obtain ⟨z,hz,rfl⟩:=hx
  exact .some (Ad hz h)
theorem H5 {x:AV} {v:Value} {n:Nat} (h:Vz x=some n) (hs:SV g lam x v):∃k,v= .int k n:=by
 unfold Vz at h
 split at h
 · split at h
   · rename_i h0
     cases h
     cases hs with|d hd=>cases hd;exact ⟨_,by rw [Int.toNat_of_nonneg h0]⟩
   · cases h
 · cases h
theorem IC {n y:Nat} {k:IntKind} (h:n≤y) (c:BoundsCode):(Instr.sliceBound (.int k n) y c).run P w= .ok n w:=by
 have h1:(0:Int)≤(n:Int)∧(n:Int)≤(y:Int):=by omega
 simp [Instr.sliceBound,asIntOf,h1]
theorem dS {n cap l h:Nat} {lo hi:Option AV} {lov hiv:Option Value} (isS:Bool) (hlo:SVo g lam lo lov) (hhi:SVo g lam hi hiv) (hn:n≤cap) (hb:YN n lo hi=some (l,h)):
 (l≤h∧h≤n)∧(Instr.sliceBounds isS n cap lov hiv none).run P w= .ok (l,h,cap) w∧(∀k,hiv.isSome=true→(Instr.sliceBounds isS n cap lov hiv (some (.int k (h:Int)))).run P w= .ok (l,h,h) w):=by
 unfold YN at hb
 simp only [AF] at hb
 obtain ⟨l',hl',h',hh',hb⟩:=hb
 split at hb
 case isFalse=>cases hb
 rename_i hle
 cases hb
 refine ⟨hle,?_⟩
 unfold Instr.sliceBounds
 cases hhi with
 |none=>
  simp only [AQ] at hh'
  subst hh'
  cases hlo with
  |none=>simp only [AQ] at hl';subst hl';simp
  |some hs=>
   obtain ⟨k,rfl⟩:=H5 hl' hs
   simp [IC hle.1]
 |some hs2=>
  obtain ⟨k2,rfl⟩:=H5 hh' hs2
  cases hlo with
  |none=>simp only [AQ] at hl';subst hl';simp [IC (Ay hle.2 hn),IC (A4 h)]
  |some hs=>
   obtain ⟨k,rfl⟩:=H5 hl' hs
   simp [IC hle.1,IC (Ay hle.2 hn),IC (A4 h)]
theorem cG (s:List UInt8) (l h:Nat):(GJ s.toArray).extract l h=⟨((s.take h).drop l).toArray⟩:=by
 apply ByteArray.ext
 simp [ByteArray.data_extract]
 rw [Ks]
theorem sX {t:TypeId} (ht:P.underlying t=some .string) {p:AV} {lo hi:Option AV} {pvl:Value} {lov hiv:Option Value} {v:AV} (hp:SV g lam p pvl) (hlo:SVo g lam lo lov) (hhi:SVo g lam hi hiv)
 (hv:TS p lo hi=some v):∃x,(Instr.sliceAt t pvl lov hiv none).run P w= .ok x w∧VR g v x:=by
 unfold TS at hv
 split at hv
 · rename_i s
   simp only [AM] at hv
   obtain ⟨⟨l,h⟩,hb,rfl⟩:=hv
   cases hp with|d hp=>cases hp with|str hl=>
   obtain ⟨hle,hrun,_⟩:=dS (P:=P) (w:=w) (n:=s.length) (cap:=s.length) false hlo hhi (A4 _) hb
   refine ⟨.string ⟨((s.take h).drop l).toArray⟩,?_,.d (.str (by simp;omega))⟩
   simp [Instr.sliceAt,Instr.slice,BS ht,Um,hrun,cG]
 · cases hv
theorem AAW (rows:List (List DV)) (l h:Nat) (hh:h≤rows.length):((rows.take h).drop l).length=h - l:=by simp;omega
theorem RD.sub {im:Nat→Nat→Option Value} {rows:List (List DV)} {size l h m:Nat} {ad:Option Addr} {len cap:Nat} (hs:∀r∈rows,r.length=size) (hrd:RD im (.sl rows) (.slice ad len cap)) (hlh:l≤h) (hh:h≤rows.length)
 (hm1:h≤m) (hm2:m≤cap):RD im (.sl ((rows.take h).drop l)) (.slice (if m=l then ad else ad.map (·.add (l * size))) (h - l) (m - l)):=by
 cases hrd with
 |nil hmx hn=>
  have:h=0:=by simpa using hh
  subst this
  have:l=0:=by omega
  subst this
  simp only [Ku,List.drop_nil,Nat.sub_zero,Nat.zero_mul]
  refine .nil (by omega) (fun e=>?_)
  split at e
  · assumption
  · cases ad with
    |none=>have:=hn rfl;omega
    |some x=>simp at e
 |@sl _ b off _ size' f hc hmx hs' hi hr=>
  by_cases h0:h=l
  · subst h0
    have e:(rows.take h).drop h=[]:=List.drop_eq_nil_of_le (by simp;omega)
    rw [e,Nat.sub_self]
    refine .nil (by omega) (fun e=>?_)
    split at e<;>simp at e
  · have hne:m≠l:=by omega
    have hlen:=AAW rows l h hh
    have hsz:size'=size:=by
     have h1:0 < rows.length:=by omega
     rw [← hs' rows[0] (List.getElem_mem h1),hs rows[0] (List.getElem_mem h1)]
    subst hsz
    rw [if_neg hne]
    simp only [Cf,Addr.add_lit]
    rw [← hlen]
    refine .sl (size:=size') (f:=fun i j=>f (l+i) j) (by omega) (by omega) (fun r hr'=>hs r (C2 (DD hr'))) (fun i j hi' hj=>?_) (fun i r j x hi' hj=>?_)
    · have:=hi (l+i) j (by omega) hj
      rw [CM] at this
      rw [show off+l * size'+i * size'+j=off+(l * size'+i * size')+j by omega];exact this
    · rw [BM,CD] at hi'
      split at hi'
      · exact hr (l+i) r j x hi' hj
      · cases hi'
theorem AV.nJ {p:AV} {v:Value} {rows:List (List DV)} (hp:SV g lam p v) (hr:p.rows=some rows):RD g.im (.sl rows) v:=by
 cases p<;>simp only [AV.rows] at hr<;>try (cases hr;done)
 · rename_i x
   cases x<;>simp only [AQ] at hr<;>try (cases hr;done)
   subst hr
   cases hp with|d h=>exact h
 · cases hr;cases hp;exact .nil (C3 _) (fun _=>rfl)
 · cases hr;cases hp with|own h _ _=>exact h
 · cases hr;cases hp with|clip h=>exact h
theorem RD.uniform {im:Nat→Nat→Option Value} {rows:List (List DV)} {v:Value} (h:RD im (.sl rows) v):∃size,∀r∈rows,r.length=size:=by
 cases h with
 |nil=>exact ⟨0,by simp⟩
 |sl _ _ hs _ _=>exact ⟨_,hs⟩
theorem RD.AFD {im:Nat→Nat→Option Value} {rows:List (List DV)} {l h m size:Nat} {ad:Option Addr} {len cap:Nat} (hs:l=0∨∀r∈rows,r.length=size) (hrd:RD im (.sl rows) (.slice ad len cap)) (hlh:l≤h) (hh:h≤rows.length)
 (hm1:h≤m) (hm2:m≤cap):RD im (.sl ((rows.take h).drop l)) (.slice (if m=l then ad else ad.map (·.add (l * size))) (h - l) (m - l)):=by
 rcases hs with h0|hs
 · subst h0
   obtain ⟨size',hu⟩:=hrd.uniform
   have:=RD.sub (size:=size') hu hrd hlh hh hm1 hm2
   simpa using this
 · exact RD.sub hs hrd hlh hh hm1 hm2
theorem sW {t e:TypeId} (ht:P.underlying t=some (.slice e)) {sz:Nat} (hsz:szT P e=some sz) {p:AV} {lo hi mx:Option AV} {pvl:Value} {lov hiv mxv:Option Value} {v:AV} (hp:SV g lam p pvl)
 (hlo:SVo g lam lo lov) (hhi:SVo g lam hi hiv) (hmx:SVo g lam mx mxv) (hv:sV p lo hi mx sz=some v):
 ∃x,(Instr.sliceAt t pvl lov hiv mxv).run P w= .ok x w∧VR g v x:=by
 unfold sV at hv
 split at hv
 · rename_i h0
   split at hv
   · rename_i hn
     cases hv
     cases hlo;cases hmx
     cases hhi with
     |some hh=>
      obtain ⟨kk,rfl⟩:=H5 hn hh
      cases hp
      refine ⟨.slice none 0 0,?_,.AO⟩
      have hb0:(Instr.sliceBound (.int kk 0) 0 .sliceAcap).run P w= .ok 0 w:=IC (n:=0) (A4 0) _
      have hb1:(Instr.sliceBounds true 0 0 none (some (.int kk 0)) none).run P w= .ok (0,0,0) w:=by
       simp [Instr.sliceBounds,hb0]
      simp [Instr.sliceAt,Instr.slice,BS ht,hb1,Eb hsz]
   · cases hv
 · rename_i i n s e1 l
   simp only [AF] at hv
   obtain ⟨l',hl',hv⟩:=hv
   split at hv
   case isFalse=>cases hv
   rename_i hcond
   obtain ⟨hln,rfl⟩:=hcond
   cases hv
   cases hhi;cases hmx
   cases hlo with
   |some hh=>
    obtain ⟨kk,rfl⟩:=H5 hl' hh
    cases hp with
    |@ms _ _ _ _ b cap hm hr hn hmx=>
     have hb1:(Instr.sliceBounds true n cap (some (.int kk l')) none none).run P w= .ok (l',n,cap) w:=by
      have h1:=IC (P:=P) (w:=w) (k:=kk) hln .sliceB
      simp [Instr.sliceBounds,h1]
     by_cases hc:cap=l'
     · refine ⟨.slice (some ⟨b,0,none⟩) (n - l') (cap - l'),?_,.mv hm hr (by omega) hmx (fun h=>by omega)⟩
       subst hc
       simp [Instr.sliceAt,Instr.slice,BS ht,hb1,Eb hsz]
     · refine ⟨.slice (some ⟨b,l' * s,none⟩) (n - l') (cap - l'),?_,.mv hm hr (by omega) hmx (fun _=>rfl)⟩
       simp [Instr.sliceAt,Instr.slice,BS ht,hb1,Eb hsz,hc,Addr.add_lit]
 · rename_i i n s e1 h
   simp only [AF] at hv
   obtain ⟨h',hh',hv⟩:=hv
   split at hv
   case isFalse=>cases hv
   rename_i hcond
   cases hv
   cases hlo;cases hmx
   cases hhi with
   |some hh=>
    obtain ⟨kk,rfl⟩:=H5 hh' hh
    cases hp with
    |@ms _ _ _ _ b cap hm hr hn hmx=>
     have hb1:(Instr.sliceBounds true n cap none (some (.int kk h')) none).run P w= .ok (0,h',cap) w:=by
      simp [Instr.sliceBounds,IC (Ay hcond hn)]
     exact ⟨.slice (some ⟨b,0,none⟩) h' cap,by simp [Instr.sliceAt,Instr.slice,BS ht,hb1,Eb hsz,Addr.add_lit],.ms hm hr (by omega) hmx⟩
 simp only [AF] at hv
 obtain ⟨rows,hr,hv⟩:=hv
 unfold gS at hv
 split at hv
 case isFalse=>cases hv
 rename_i hchk
 simp only [AF] at hv
 obtain ⟨⟨l,h⟩,hb,hv⟩:=hv
 have hrd:=AV.nJ hp hr
 obtain ⟨ad,cap,rfl,hlm⟩:=hrd.Kn
 have hcap:rows.length≤cap:=by
  cases hrd with
  |nil=>simp
  |sl hc _ _ _ _=>exact hc
 obtain ⟨hle,hrun,hrun3⟩:=dS (P:=P) (w:=w) (n:=rows.length) (cap:=cap) true hlo hhi hcap hb
 have hl0:l=0∨∀r∈rows,r.length=sz:=by
  simp only [CR] at hchk
  rcases hchk with h1|h1
  · left
    cases hlo with
    |none=>
     unfold YN at hb
     simp only [AF,AQ] at hb
     obtain ⟨l',hl',h',_,hb⟩:=hb
     split at hb
     · cases hb;exact hl'.symm
     · cases hb
    |some _=>cases h1
  · right
    intro r hr
    simp only [nR,A7,beq_iff_eq] at h1
    exact h1 r hr
 cases hmx with
 |none=>
  have hv:some (AV.d (.sl ((rows.take h).drop l)))=some v:=by cases hi<;>exact hv
  cases hv
  exact ⟨_,by simp [Instr.sliceAt,Instr.slice,BS ht,hrun,Eb hsz],.d (RD.AFD hl0 hrd hle.1 hle.2 (Ay hle.2 hcap) (A4 _))⟩
 |some hms=>
  cases hhi with
  |none=>cases hv
  |some hhs=>
   simp only at hv
   split at hv
   · rename_i hm
     cases hv
     obtain ⟨k,rfl⟩:=H5 hm hms
     have hb2:=hrun3 k rfl
     exact ⟨_,by simp [Instr.sliceAt,Instr.slice,BS ht,hb2,Eb hsz],.clip (RD.AFD hl0 hrd hle.1 hle.2 (A4 _) (Ay hle.2 hcap))⟩
   · cases hv
theorem dK {t e:TypeId} (ht:P.underlying t=some (.pointer e)) (q:Option Addr):(Op.equal t (.pointer q) (.pointer none)).run P w= .ok q.isNone w:=by
 have:∀d,(Op.equalIn (d+1) t (.pointer q) (.pointer none)).run P w= .ok q.isNone w:=fun d=>by
  cases q<;>simp [Op.equalIn,BS ht]
 exact this 9999
theorem nB {op:BinOp} {ne:Bool} {t e:TypeId} (ht:P.underlying t=some (.pointer e)) (hop:op=if ne then .neq else .eql) (y z:Operand) {p v:AV} {pvl:Value} (hp:SV g lam p pvl) (hv:eN ne p=some v):
 ∃x,((do eqGuard op t y z pvl (.pointer none);binOp op t pvl (.pointer none):Sem Value)).run P w= .ok x w∧SV g lam v x:=by
 have key:∀(q:Option Addr),pvl= .pointer q→((do eqGuard op t y z pvl (.pointer none);binOp op t pvl (.pointer none):Sem Value)).run P w= .ok (.bool (if ne then !q.isNone else q.isNone)) w:=by
  intro q hq
  subst hq hop
  have h1:=dK (P:=P) (w:=w) ht q
  have h2:(eqGuard (if ne then .neq else .eql) t y z (.pointer q) (.pointer none)).run P w= .ok () w:=by cases ne<;>simp [eqGuard]
  simp only [Sem.run_bind,h2,Result.andThen_ok]
  cases ne<;>simp [binOp,h1]
 cases p<;>simp only [eN] at hv<;>try (cases hv;done)
 · rename_i x
   cases x<;>simp only [AQ] at hv<;>try (cases hv;done)
   · subst hv
     cases hp with|d hp=>cases hp;exact ⟨_,key _ rfl,by cases ne<;>exact .d .bool⟩
   · subst hv
     cases hp with|d hp=>cases hp;exact ⟨_,key _ rfl,by cases ne<;>exact .d .bool⟩
 · cases hv;obtain ⟨b,hb,rfl⟩:=hp;exact ⟨_,key _ rfl,by cases ne<;>exact .d .bool⟩
 · cases hv;cases hp;exact ⟨_,key _ rfl,by cases ne<;>exact .d .bool⟩
 · cases hv;cases hp;exact ⟨_,key _ rfl,by cases ne<;>exact .d .bool⟩
 · cases hv;cases hp;exact ⟨_,key _ rfl,by cases ne<;>exact .d .bool⟩
theorem U6 (d:Nat):∀(fs:List Field) (o:Nat) (cs ds:List AV) (xs ys:List Value) (r:Bool),
 (fs.zipIdx o).all (fun (f,i)=>f.offset==i&&f.name != "_"&&mF P f.type)=true→
 cs.length=fs.length→MJ cs ds=some r→VRs g cs (xs.drop o)→VRs g ds (ys.drop o)→(Op.eqFields (d+1) xs.toArray ys.toArray fs).run P w= .ok r w
 |[],o,cs,ds,xs,ys,r,_,hl,hi,_,_=>by
  have:cs=[]:=An (by simpa using hl)
  subst this
  cases ds with
  |nil=>simp only [MJ,AQ] at hi;subst hi;simp [Op.eqFields]
  |cons _ _=>cases hi
 |f::fs,o,cs,ds,xs,ys,r,hf,hl,hi,hx,hy=>by
  simp only [List.zipIdx_cons,CC,AR,beq_iff_eq,bne_iff_ne,ne_eq] at hf
  obtain ⟨⟨⟨ho,hn⟩,hint⟩,hrest⟩:=hf
  cases cs with
  |nil=>simp at hl
  |cons c cs=>
   cases ds with
   |nil=>cases c<;>simp [MJ] at hi
   |cons c' ds=>
    have hc:∃k a b,c= .d (.int k a)∧c'= .d (.int k b)∧∃r',MJ cs ds=some r'∧r=(a==b&&r'):=by
     cases c<;>try (simp [MJ] at hi;done)
     rename_i x
     cases x<;>try (simp [MJ] at hi;done)
     rename_i k a
     cases c'<;>try (simp [MJ] at hi;done)
     rename_i y
     cases y<;>try (simp [MJ] at hi;done)
     rename_i k' b
     simp only [MJ] at hi
     split at hi
     · rename_i hk
       subst hk
       simp only [AM] at hi
       obtain ⟨r',hr',rfl⟩:=hi
       exact ⟨k,a,b,rfl,rfl,r',hr',rfl⟩
     · cases hi
    obtain ⟨k,a,b,rfl,rfl,r',hr',rfl⟩:=hc
    generalize hxd:xs.drop o=xd at hx
    generalize hyd:ys.drop o=yd at hy
    cases hx with
    |@cons _ vx _ vxs hvx hxs=>
     cases hy with
     |@cons _ vy _ vys hvy hys=>
      cases hvx with|d hvx=>cases hvy with|d hvy=>cases hvx with|int ha1=>cases hvy with|int hb1=>
      have ex:xs.toArray[o]?=some (.int k a):=by
       have:(xs.drop o)[0]?=some (.int k a):=by rw [hxd];rfl
       simpa using this
      have ey:ys.toArray[o]?=some (.int k b):=by
       have:(ys.drop o)[0]?=some (.int k b):=by rw [hyd];rfl
       simpa using this
      have hu:∃k',P.underlying f.type=some (.int k'):=by
       unfold mF at hint
       cases hud:P.underlying f.type with
       |none=>rw [hud] at hint;cases hint
       |some dd=>rw [hud] at hint;cases dd<;>first|exact ⟨_,rfl⟩|cases hint
      obtain ⟨k',hu⟩:=hu
      have hagg:(isAgg f.type).run P w= .ok false w:=by simp [isAgg,BS hu]
      have ih:=U6 d fs (o+1) cs ds xs ys r' hrest (by simpa using hl) hr' (by rw [← DC,hxd];simpa using hxs) (by rw [← DC,hyd];simpa using hys)
      simp only [Op.eqFields,hn,ne_eq,not_false_eq_true,if_true,part,Sem.run_bind,hagg,Result.andThen_ok,AL,if_false,ho,ex,ey,Sem.run_pure,run_equalIn_int w d f.type k k' a b hu]
      cases hab:(a==b)
      · simp
      · simpa using ih
theorem nW {op:BinOp} {ne:Bool} {t:TypeId} {fs:Array Field} (hu:P.underlying t=some (.struct fs)) (his:PS P t=true) (hop:op=if ne then .neq else .eql) (y z:Operand) {p q v:AV} {pvl qvl:Value}
 (hp:SV g lam p pvl) (hq:SV g lam q qvl) (hv:fB ne fs.size p q=some v):
 ∃x,((do eqGuard op t y z pvl qvl;binOp op t pvl qvl:Sem Value)).run P w= .ok x w∧SV g lam v x:=by
 unfold fB at hv
 split at hv
 case h_2=>cases hv
 rename_i l m
 split at hv
 case isFalse=>cases hv
 rename_i hlen
 simp only [AM] at hv
 obtain ⟨r,hr,rfl⟩:=hv
 unfold PS at his
 rw [hu] at his
 simp only [AR,beq_iff_eq,CZ] at his
 obtain ⟨⟨⟨hall,hsz⟩,hst⟩,hgd⟩:=his
 cases hp with
 |@agg _ xs hl hc hx=>
  cases hq with
  |@agg _ ys hl' hc' hy=>
   have hxs:VRs g l xs:=VRs.O8 _ _ hl hx
   have hys:VRs g m ys:=VRs.O8 _ _ hl' hy
   have hfo:P.fieldsOf t=fs:=by unfold Program.fieldsOf;rw [hu]
   have hrun:(Op.equalIn 10000 t (.agg xs.toArray) (.agg ys.toArray)).run P w= .ok r w:=by
    have h1:=run_equalIn_struct (P:=P) w 9999 t xs.toArray ys.toArray (by rw [hfo];exact hu) hst
    rw [h1,hfo]
    exact U6 9998 fs.toList 0 l m xs ys r hall (by simpa using hlen) hr (by simpa using hxs) (by simpa using hys)
   have hg:(eqGuard op t y z (.agg xs.toArray) (.agg ys.toArray)).run P w= .ok () w:=run_eqGuard_agg w op t y z _ _ hgd
   refine ⟨.bool (if ne then !r else r),?_,SV.En (.d .bool)⟩
   simp only [Sem.run_bind,hg,Result.andThen_ok]
   subst hop
   have he:(Op.equal t (.agg xs.toArray) (.agg ys.toArray)).run P w= .ok r w:=hrun
   cases ne<;>simp [binOp,he]
end Go.Ab
