/- Parts of shared rows: copy, and append in place. append onto a row without room: the result is a row that nobody writes. Conditions: none. -/
import Derived.Laws.CopyRow
import Derived.Test.YtifplkldbbcldaaGreatDoorXAb9c
set_option linter.unusedSimpArgs false
set_option linter.unusedVariables false
set_option maxRecDepth 4000
set_option maxHeartbeats 8000000
open List renaming drop_take→Ks,all_eq_true→A7,mem_of_mem_drop→DD,mem_of_mem_take→C2,getElem?_take→CD,getElem?_drop→BM,length_append→AA,length_take→Bj,take_of_length_le→A8,length_drop→Ah,mem_append→Bb,length_nil→AI,take_zero→Ku,append_nil→Ap,take_append_drop→Gt,size_toArray→HL,take_left→Kt,replicate→Ai,length_pos_iff→A5,getElem?_eq_some_iff→A3,flatten_append→Ma,getElem?_append_left→BE,getElem?_append_right→BA
open Nat renaming min_eq_left→Tg,mul_le_mul_right→Aj,add_mul→CM,eq_zero_or_pos→G7,add_zero→E9,le_refl→A4,mul_le_mul→Ol,zero_le→C3,zero_add→Bd,lt_or_ge→Ea
open Array renaming length_toList→Co
open Option renaming bind_eq_some_iff→AF
open Option.some renaming injEq→AQ
namespace Go.Ab
open Go.RowKit
variable {P:Program} {base N:Nat} {g g':Gh} {Pr:Nat→Prop} {σ σ':AK} {w0 w w':World} {lam:Nat→Option Nat} {F:Fm} {L:Lm} {a:Act}
theorem B2.row (h:B2 base g lam Pr N F L σ a w0 w) {i b:Nat} {cs cs':List AV} (hi:σ.blk i=some cs) (hm:g.mu i=some b) {cur:Array Value} {ty:TypeId} (hcur:w.heap[b]?=some (.cells cur ty (0,0)))
 {new:Array Value} (hsz:new.size=cur.size) (hl:cs'.length≤new.size) (hv:VRs g cs' (new.toList.take cs'.length)) (hok:Ag cs'=true):
 B2 base g lam Pr N F L (σ.AH i cs') a w0 (w.setRow b new)∧KP Pr w (w.setRow b new):=by
 obtain ⟨b',hb',ho⟩:=h.rel.shr i cs hi
 rw [hm] at hb';cases hb'
 obtain ⟨vs,ty',hv',hl',hrt,hvr⟩:=ho.row
 rw [hcur] at hv';cases hv'
 have hs:(w.setRow b new).heap.size=w.heap.size:=by simp [World.setRow]
 have hne:∀k,k≠b→(w.setRow b new).heap[k]?=w.heap[k]?:=fun k hk=>setRow_other w b k _ hk
 have hrel:=h.rel.write (w':=w.setRow b new) hi hm (by omega) (fun k _ hk=>hne k hk) ⟨rfl,rfl,rfl,by omega,fun k hk=>hne k (by have:=ho.low;omega)⟩ (setRow_heap w b cur new ty _ hcur) hl (fun t ht=>by rw [hsz];exact hrt t ht) hv hok
 exact ⟨h.step (Gh.le_refl g) (fun k b' hb'=>hne b' (fun e=>ho.pr (.inr ⟨k,e ▸ hb'⟩))) hrel,by omega,fun k hk=>hne k (fun e=>ho.pr (.inl (e ▸ hk)))⟩
theorem B2.part (h:B2 base g lam Pr N F L σ a w0 w) {i b:Nat} {cs:List AV} (hi:σ.blk i=some cs) (hm:g.mu i=some b):
 ∃cur ty,w.heap[b]?=some (.cells cur ty (0,0))∧cs.length≤cur.size∧VRs g cs (cur.toList.take cs.length)∧Ag cs=true∧(∀t,g.rm i=some t→cur.size=t.1∧ty=t.2)∧
  ∀o m,o+m≤cs.length→VRs g ((cs.drop o).take m) ((cur.toList.drop o).take m)∧((cur.toList.drop o).take m).length=m∧(∀v∈(cur.toList.drop o).take m,v.oneCell'=true)∧∀j v,((cur.toList.drop o).take m)[j]?=some v→w.cell? ((⟨b,o,none⟩:Addr).add j)=some v:=by
 obtain ⟨b',hb',ho⟩:=h.rel.shr i cs hi
 rw [hm] at hb';cases hb'
 obtain ⟨cur,ty,hv,hl,hrt,hvr⟩:=ho.row
 refine ⟨cur,ty,hv,hl,hvr,ho.ok,hrt,fun o m hom=>?_⟩
 have e:((cur.toList.take cs.length).drop o).take m=(cur.toList.drop o).take m:=by
  rw [Ks,List.take_take,Tg (by omega)]
 have h1:=(hvr.drop o).take m
 rw [e] at h1
 have hlen:((cur.toList.drop o).take m).length=m:=by simp;omega
 refine ⟨h1,hlen,h1.ADC ?_,fun j v hj=>?_⟩
 · have:=ho.ok
   simp only [Ag,A7] at this ⊢
   exact fun x hx=>this x (DD (C2 hx))
 · rw [CD] at hj
   split at hj
   · rw [BM] at hj
     rw [Addr.add_lit]
     simp only [World.cell?,hv]
     simpa using hj
   · cases hj
theorem qY {t ty e:TypeId} {i:TypeInfo} (ht:P.underlying t=some (.slice e)) (hi:P.info? e=some i)
 (h:B2 base g lam Pr N F L σ a w0 w) {p q:AV} {pvl qvl:Value} (hp:VR g p pvl) (hq:VR g q qvl) {R:AV→AK→Prop} (hr:ExR σ R (.cpy i.size) [p,q]):
 M9 P (Builtin.copy_ #[t,t] ty #[pvl,qvl]) base g lam Pr N F L a w0 w R:=by
 cases p<;>try (exact (show False from hr).elim)
 rename_i i1 o n s1 e1
 cases q<;>try (exact (show False from hr).elim)
 rename_i i2 o2 n2 s2 e2
 obtain ⟨⟨rfl,rfl,rfl⟩,cs,hb,hl1,hl2,hk⟩:=hr
 cases hp with
 |@mv _ _ _ _ _ b oa cap hm hrm hn hmx ho=>
 cases hq with
 |@mv _ _ _ _ _ b2 ob cap2 hm2 hrm2 hn2 hmx2 ho2=>
 rw [hm] at hm2;cases hm2
 obtain ⟨cur,ty',hcur,hle,hvr,hok,hrt,hpart⟩:=h.part hb hm
 have hmin:min n2 n * i.size≤n2 * i.size:=Aj _ (Nat.min_le_left ..)
 have hmin':min n2 n * i.size≤n * i.size:=Aj _ (Nat.min_le_right ..)
 rw [CM] at hl1 hl2
 obtain ⟨hv2,hvl,hone,hcell⟩:=hpart (o2 * i.size) (min n2 n * i.size) (by omega)
 have hgi:VR g (.d (.int .i64 (min n2 n:Nat))) (goInt ((min n2 n:Nat):Int)):=VR.d (RD.int (k:= .i64) (n:=((min n2 n:Nat):Int)) (by
  have h1:min n2 n≤9223372036854775807:=by
   have:min n2 n≤maxLen:=by omega
   exact this
  exact ⟨show (-9223372036854775808:Int)≤_ by omega,show _≤(9223372036854775807:Int) by omega⟩))
 have hnew:VRs g (wr cs (o * i.size) ((cs.drop (o2 * i.size)).take (min n2 n * i.size))) ((cur.toList.take (o * i.size)++(cur.toList.drop (o2 * i.size)).take (min n2 n * i.size)++cur.toList.drop (o * i.size+(min n2 n * i.size))).take cs.length):=by
  have hc2:((cs.drop (o2 * i.size)).take (min n2 n * i.size)).length=min n2 n * i.size:=by simp;omega
  have h1:=hvr.take (o * i.size)
  rw [List.take_take,Tg (by omega)] at h1
  have h3:=hvr.drop (o * i.size+min n2 n * i.size)
  have:=(h1.append hv2).append h3
  unfold wr
  rw [hc2]
  have e1:(cur.toList.take (o * i.size)++(cur.toList.drop (o2 * i.size)).take (min n2 n * i.size)++cur.toList.drop (o * i.size+(min n2 n * i.size))).take cs.length=cur.toList.take (o * i.size)++(cur.toList.drop (o2 * i.size)).take (min n2 n * i.size)++(cur.toList.take cs.length).drop (o * i.size+min n2 n * i.size):=by
   have l1:(cur.toList.take (o * i.size)++(cur.toList.drop (o2 * i.size)).take (min n2 n * i.size)).length=o * i.size+min n2 n * i.size:=by
    rw [AA,hvl,Bj,Co];omega
   rw [List.take_append,l1,A8 (by rw [l1];omega),Ks]
  rw [e1];exact this
 have hnl:(wr cs (o * i.size) ((cs.drop (o2 * i.size)).take (min n2 n * i.size))).length=cs.length:=by
  have hc2:((cs.drop (o2 * i.size)).take (min n2 n * i.size)).length=min n2 n * i.size:=by simp;omega
  unfold wr
  rw [AA,AA,hc2,Bj,Ah];omega
 have hnok:Ag (wr cs (o * i.size) ((cs.drop (o2 * i.size)).take (min n2 n * i.size)))=true:=by
  simp only [Ag,A7] at hok ⊢
  intro x hx
  unfold wr at hx
  rcases Bb.1 hx with hx|hx
  · rcases Bb.1 hx with hx|hx
    · exact hok x (C2 hx)
    · exact hok x (DD (C2 hx))
  · exact hok x (DD hx)
 rcases G7 (min n2 n) with h0|h0
 · have hrun:(Builtin.copy_ #[t,t] ty #[.slice (some ⟨b,oa,none⟩) n (cap - o),.slice (some ⟨b,ob,none⟩) n2 (cap2 - o2)]).run P w= .ok (goInt ((min n2 n:Nat):Int)) w:=by
    have hl:=run_loadCells_list (P:=P) w ⟨b,ob,none⟩ [] (by simp)
    have hmm:Nat.min n2 n=0:=h0
    simp only [AI] at hl
    rw [h0]
    simp [Builtin.copy_,run_underlying ht,Builtin.lenOf,Builtin.firstCells,sizeOf,typeInfo,hi,hmm,hl,storeCells]
   have hw:w.setRow b cur=w:=setRow_self w b cur ty' _ hcur
   have hf:=h.row (cs':=wr cs (o * i.size) ((cs.drop (o2 * i.size)).take (min n2 n * i.size))) hb hm hcur (new:=cur) rfl (by rw [hnl];exact hle) (by
    rw [hnl]
    have:=hnew
    simp only [h0,Nat.zero_mul,Ku,Ap,E9,Gt] at this
    simp only [h0,Nat.zero_mul,Ku];exact this) hnok
   rw [hw] at hf
   exact ⟨_,g,w,_,_,hrun,Gh.le_refl g,hf.2,hgi,hf.1,hk⟩
 · have ho':=ho (by omega)
   have ho2':=ho2 (by omega)
   subst ho';subst ho2'
   have hst:=run_storeCells_at P b (o * i.size) ty' ((cur.toList.drop (o2 * i.size)).take (min n2 n * i.size)) 0 cur w hcur (by rw [hvl];omega) hone
   simp only [E9,hvl] at hst
   have hl:=run_loadCells_list (P:=P) w ⟨b,o2 * i.size,none⟩ _ hcell
   rw [hvl] at hl
   have hrun:(Builtin.copy_ #[t,t] ty #[.slice (some ⟨b,o * i.size,none⟩) n (cap - o),.slice (some ⟨b,o2 * i.size,none⟩) n2 (cap2 - o2)]).run P w= .ok (goInt ((min n2 n:Nat):Int)) (w.setRow b (cur.toList.take (o * i.size)++(cur.toList.drop (o2 * i.size)).take (min n2 n * i.size)++cur.toList.drop (o * i.size+min n2 n * i.size)).toArray):=by
    have hmm:Nat.min n2 n=min n2 n:=rfl
    simp [Builtin.copy_,run_underlying ht,Builtin.lenOf,Builtin.firstCells,sizeOf,typeInfo,hi,hmm,hl,hst]
   have hsize:(cur.toList.take (o * i.size)++(cur.toList.drop (o2 * i.size)).take (min n2 n * i.size)++cur.toList.drop (o * i.size+min n2 n * i.size)).toArray.size=cur.size:=by
    rw [HL,AA,AA,hvl,Bj,Ah,Co];omega
   have hf:=h.row hb hm hcur hsize (by rw [hnl,hsize];exact hle) (by rw [hnl];exact hnew) hnok
   exact ⟨_,g,_,_,_,hrun,Gh.le_refl g,hf.2,hgi,hf.1,hk⟩
theorem qH {t ty e:TypeId} {i:TypeInfo} (h:B2 base g lam Pr N F L σ a w0 w) {p:AV} {pvl qvl:Value} (hp:SV g lam p pvl) {m n:Nat} {cs newcs:List AV} {σ1:AK} {news:List Value}
 (hpa:UO σ e i.size p=some (n,cs,σ1)) (hnl:newcs.length=m * i.size) (hvn:VRs g newcs news) (hnok:Ag newcs=true) (hne:0 < m)
 (happ:∀xs,w.ownsRow base e i.size pvl n xs→∃(v':Value) (w':World),(Builtin.append_ #[t,t] ty #[pvl,qvl]).run P w= .ok v' w'∧w'.ownsRow base e i.size v' (n+m) (xs++news)∧w.grownBy w' v'.ownBlock∧(∀k,v'.ownBlock=some k→pvl.ownBlock=some k∨w.heap.size≤k)):
 ∃x g' w' j,(Builtin.append_ #[t,t] ty #[pvl,qvl]).run P w= .ok x w'∧g.le g'∧KP Pr w w'∧σ.blk j=none∧VR g' (.ms j (n+m) i.size e) x∧
  B2 base g' lam Pr N F L (σ1.AH j (cs++newcs)) a w0 w':=by
 obtain ⟨j,hj,htau,hblk,htok⟩:=h.rel.fresh
 have hstart:∃(b0:Nat→Prop) (xs:List Value),w.ownsRow base e i.size pvl n xs∧cs.length=n * i.size∧VRs g cs xs∧Ag cs=true∧(∀b,pvl.ownBlock=some b→b0 b)∧(∀b,b0 b→pvl.ownBlock=some b)∧
  Rel base g (fun x=>(Pr x∨∃k,lam k=some x)∨b0 x) σ1 w0 w∧(∀b,b0 b→(∀o,g.im b o=none)∧¬(Pr b∨∃k,lam k=some b)):=by
  unfold UO at hpa
  split at hpa
  · cases hpa;cases hp
    refine ⟨fun _=>False,[],World.ownsRow_nil w base e i.size,by simp,.nil,rfl,fun b hb=>by simp [Value.ownBlock] at hb,fun b hb=>hb.elim,?_,fun b hb=>hb.elim⟩
    exact h.rel.grow (A4 _) (fun _ _ _=>rfl) (Below.refl _ _) (fun b hb=>by
     rcases hb with hb|hb
     · exact ⟨(h.rel.pr b hb).1,.inl hb⟩
     · exact hb.elim)
  · rename_i i0 n0 s0 e0
    split at hpa
    case isFalse=>cases hpa
    rename_i hcond
    obtain ⟨rfl,rfl⟩:=hcond
    simp only [AF] at hpa
    obtain ⟨cs0,hcs0,hpa⟩:=hpa
    split at hpa
    case isFalse=>cases hpa
    rename_i hlen
    cases hpa
    cases hp with
    |@ms _ _ _ _ b cap hm hr hn hmx=>
     obtain ⟨b',hb',ho⟩:=h.rel.shr i0 cs hcs0
     rw [hm] at hb';cases hb'
     obtain ⟨vs,ty',hv,hl,hrt,hvr⟩:=ho.row
     obtain ⟨hsz,hty⟩:=hrt _ hr
     simp only at hsz hty
     subst hty
     refine ⟨fun x=>x=b,vs.toList.take cs.length,⟨by simp;omega,.inr ⟨b,cap,vs,rfl,ho.low,hv,hn,hmx,hsz,by rw [hlen]⟩⟩,hlen,hvr,ho.ok,fun b2 hb2=>by simp [Value.ownBlock] at hb2;exact hb2.symm,fun b2 hb2=>by simp [Value.ownBlock,hb2],h.rel.AC1 hcs0 hm,fun b2 hb2=>?_⟩
     subst hb2
     exact ⟨ho.im,ho.pr⟩
  · cases hpa
 obtain ⟨b0,xs,hown,hcl,hvr,hcok,hb1,hb2,hrel1,hb3⟩:=hstart
 obtain ⟨v',w',hrun,hown',hgr,hwh⟩:=happ xs hown
 have hsame:∀b,b < w.heap.size→v'.ownBlock≠some b→w'.heap[b]?=w.heap[b]?:=fun b hb hne=>hgr.block b hb (Ne.symm hne)
 have hbel:Below base w w':=⟨hgr.os,hgr.tape,hgr.output,hgr.size,fun k hk=>hsame k (by have:=h.rel.bs;omega) fun e'=>by have:=(hown'.lt k e').1;omega⟩
 have hrel2:Rel base g (fun x=>Pr x∨∃k,lam k=some x) σ1 w0 w':=
  hrel1.grow hgr.size (fun b hb hnp=>hsame b hb (fun e'=>by
   rcases hwh b e' with h1|h1
   · exact hnp (.inr (hb1 b h1))
   · omega)) hbel (fun b hb=>⟨by have:=(h.rel.pr b hb).1;have:=hgr.size;omega,.inl (.inl hb)⟩)
 -- the new row
 have hsome:∃gg cap cur,v'= .slice (some ⟨gg,0,none⟩) (n+m) cap∧base≤gg∧w'.heap[gg]?=some (.cells cur e (0,0))∧n+m≤cap∧cap≤maxLen∧cur.size=cap * i.size∧cur.toList.take ((n+m) * i.size)=xs++news:=by
  rcases hown'.2 with ⟨rfl,h0⟩|hh
  · omega
  · exact hh
 obtain ⟨gg,cap,cur,rfl,hbg,hheap,hnc,hcm,hcur,htake⟩:=hsome
 have hwh':b0 gg∨w.heap.size≤gg:=by
  rcases hwh gg rfl with h1|h1
  · exact .inl (hb1 gg h1)
  · exact .inr h1
 have hpr:¬(Pr gg∨∃k,lam k=some gg):=by
  rcases hwh' with h1|h1
  · exact (hb3 gg h1).2
  · intro hp2;have:=(h.rel.pr gg hp2).1;omega
 have him:∀o,g.im gg o=none:=by
  rcases hwh' with h1|h1
  · exact (hb3 gg h1).1
  · intro o
    cases hi':g.im gg o with
    |none=>rfl
    |some v=>have:=h.rel.Sw hi';omega
 have hxl:xs.length=n * i.size:=hown.1
 have hcl2:(cs++newcs).length=(n+m) * i.size:=by
  rw [AA,hcl,hnl,CM]
 have hvrs:VRs g (cs++newcs) (xs++news):=hvr.append hvn
 have hcok2:Ag (cs++newcs)=true:=by
  simp only [Fo,hcok,hnok,Bool.and_self]
 have hle:=Gh.IU (g:=g) (i:=j) (b:=gg) (rt:=some (cap * i.size,e)) hj
 have hrel3:=hrel2.bD (i:=j) (b:=gg) (rt:=some (cap * i.size,e)) hj hbg (fun q hq' hm=>?_) him (fun t2 v2 e2 s2 ht2 hm2 hvb=>?_) (cs:=cs++newcs) hheap (by rw [hcl2,hcur];exact Aj _ hnc)
  (fun t ht=>by cases ht;exact ⟨hcur,rfl⟩) (by rw [hcl2,htake];exact hvrs) hcok2 hpr
 · refine ⟨_,g.share j gg (some (cap * i.size,e)),w',j,hrun,hle,⟨hgr.size,fun b hb=>hsame b (h.rel.pr b (.inl hb)).1 (fun e'=>by simp only [Value.ownBlock,AQ] at e';exact hpr (e' ▸ .inl hb))⟩,hblk,
    .ms (by simp [Gh.share]) (by simp [Gh.share]) hnc hcm,?_⟩
   exact h.step hle (fun k b hb=>hsame b (h.Ie hb) (fun e'=>by simp only [Value.ownBlock,AQ] at e';exact hpr (.inr ⟨k,e' ▸ hb⟩))) hrel3
 · rcases hwh' with h1|h1
   · cases hc:σ1.blk q with
     |none=>exact hq' hc
     |some c=>
      obtain ⟨b2,hb2',ho2⟩:=hrel1.shr q c hc
      rw [hm] at hb2';cases hb2'
      exact ho2.pr (.inr h1)
   · cases hc:σ1.blk q with
     |none=>exact hq' hc
     |some c=>have:=hrel1.RB hc hm;omega
 · obtain ⟨v3,e3,s3,n3,xs3,hm3,hown3,hrest3⟩:=(hrel1.tok t2 ht2).row
   rw [hm2] at hm3;cases hm3
   rcases hwh' with h1|h1
   · exact (hrest3 gg hvb).2.1 (.inr h1)
   · have:=(hown3.lt gg hvb).2;omega
theorem k5 {t ty e:TypeId} {i:TypeInfo} {z:Value} (ht:P.underlying t=some (.slice e)) (hi:P.info? e=some i) (hz:i.zero=some z) (hzs:z.cells.size=i.size) (hby:i.bytes≤10000) (hpos:0 < i.size)
 (h:B2 base g lam Pr N F L σ a w0 w) {p:AV} {pvl qvl:Value} {i2 n2 s2 e2:Nat} (hp:VR g p pvl) (hq:VR g (.ms i2 n2 s2 e2) qvl) {R:AV→AK→Prop}
 (hr:s2=i.size∧∃cs2 n cs σ1,σ.blk i2=some cs2∧cs2.length=n2 * i.size∧n2≠0∧n+n2≤1000000000∧UO σ e i.size p=some (n,cs,σ1)∧∀j,σ.blk j=none→R (.ms j (n+n2) i.size e) (σ1.AH j (cs++cs2))):
 M9 P (Builtin.append_ #[t,t] ty #[pvl,qvl]) base g lam Pr N F L a w0 w R:=by
 obtain ⟨rfl,cs2,n,cs,σ1,hb2,hl2,hn2,hbd,hpa,hk⟩:=hr
 cases hq with
 |@ms _ _ _ _ b cap hm hrm hn hmx=>
 obtain ⟨cur,ty',hcur,hle,hvr,hok,hrt,hpart⟩:=h.part hb2 hm
 obtain ⟨hv2,hvl,hone,hcell⟩:=hpart 0 (n2 * i.size) (by omega)
 rw [List.drop_zero,A8 (by omega)] at hv2
 have hcore:=qH (P:=P) (t:=t) (ty:=ty) (qvl:= .slice (some ⟨b,0,none⟩) n2 cap) h (SV.En hp) hpa hl2 hv2 hok (by omega) (fun xs hown=>by
  refine E8 (P:=P) w base t ty e i z i.size i.bytes ht hi hz rfl rfl hzs pvl n xs hown ⟨b,0,none⟩ n2 cap _ hvl hcell hone (by simp only [maxLen];omega) ?_ h.rel.bs
  calc (n+n2) * i.bytes≤1000000000 * 10000:=Ol hbd hby
   _≤140737488355328:=by decide)
 obtain ⟨x,g',w',j,h1,h2,h3,h4,h5,h6⟩:=hcore
 exact ⟨x,g',w',_,_,h1,h2,h3,h5,h6,hk j h4⟩
theorem kZ {t ty e:TypeId} {i:TypeInfo} (ht:P.underlying t=some (.slice e)) (hi:P.info? e=some i)
 (h:B2 base g lam Pr N F L σ a w0 w) {p q:AV} {pvl qvl:Value} (hp:VR g p pvl) (hq:VR g q qvl) {R:AV→AK→Prop} (hr:ExR σ R (.tQ e i.size) [p,q]) (hpos:0 < i.size) {z:Value} (hz:i.zero=some z) (hzs:z.cells.size=i.size) (hby:i.bytes≤10000):
 M9 P (Builtin.append_ #[t,t] ty #[pvl,qvl]) base g lam Pr N F L a w0 w R:=by
 by_cases hqm:∃i2 n2 s2 e2,q= .ms i2 n2 s2 e2
 · obtain ⟨i2,n2,s2,e2,rfl⟩:=hqm
   exact k5 ht hi hz hzs hby hpos h hp hq (by cases p<;>exact hr)
 have hqm':∀i2 n2 s2 e2,q≠.ms i2 n2 s2 e2:=fun i2 n2 s2 e2 he=>hqm ⟨i2,n2,s2,e2,he⟩
 cases p<;>cases q<;>try (first|exact absurd rfl (hqm' _ _ _ _)|exact (show False from hr).elim)
 rename_i i1 n s1 e1 i2 o2 n2 s2 e2
 obtain ⟨⟨rfl,rfl,rfl,rfl⟩,cs,hb,hl1,hl2,hk⟩:=hr
 cases hp with
 |@ms _ _ _ _ b cap hm hrm hn hmx=>
 cases hq with
 |@mv _ _ _ _ _ b2 ob cap2 hm2 hrm2 hn2 hmx2 ho2=>
 rw [hm] at hm2;cases hm2
 obtain ⟨cur,ty',hcur,hle,hvr,hok,hrt,hpart⟩:=h.part hb hm
 obtain ⟨hcs,rfl⟩:=hrt _ hrm
 simp only at hcs
 have hroom:n+n2≤cap:=by
  have:(n+n2) * i.size≤cap * i.size:=by rw [← hcs];omega
  exact Nat.le_of_mul_le_mul_right this hpos
 rw [CM] at hl1 hl2
 obtain ⟨hv2,hvl,hone,hcell⟩:=hpart (o2 * i.size) (n2 * i.size) (by omega)
 have h1:=hvr.take (n * i.size)
 rw [List.take_take,Tg (by omega)] at h1
 have hc2:((cs.drop (o2 * i.size)).take (n2 * i.size)).length=n2 * i.size:=by simp;omega
 have hnl:(cs.take (n * i.size)++(cs.drop (o2 * i.size)).take (n2 * i.size)).length=n * i.size+n2 * i.size:=by
  rw [AA,hc2,Bj];omega
 have hnok:Ag (cs.take (n * i.size)++(cs.drop (o2 * i.size)).take (n2 * i.size))=true:=by
  simp only [Ag,A7] at hok ⊢
  intro x hx
  rcases Bb.1 hx with hx|hx
  · exact hok x (C2 hx)
  · exact hok x (DD (C2 hx))
 have hl3:(cur.toList.take (n * i.size)++(cur.toList.drop (o2 * i.size)).take (n2 * i.size)).length=n * i.size+n2 * i.size:=by
  rw [AA,hvl,Bj,Co];omega
 rcases G7 n2 with h0|h0
 · subst h0
   have hrun:(Builtin.append_ #[t,t] ty #[.slice (some ⟨b,0,none⟩) n cap,.slice (some ⟨b,ob,none⟩) 0 (cap2 - o2)]).run P w= .ok (.slice (some ⟨b,0,none⟩) (n+0) cap) w:=by
    have hr:=run_append_room (P:=P) w t ty ty' i ht hi b n cap cur hcur ⟨b,ob,none⟩ 0 (cap2 - o2) [] (by simp) (by simp) (by simp) (by omega) (by simp;omega)
    rw [hr]
    congr 1
    simp only [Ap,AI,E9,Gt,Array.toArray_toList]
    exact setRow_self w b cur ty' _ hcur
   have hw:w.setRow b cur=w:=setRow_self w b cur ty' _ hcur
   have hf:=h.row (cs':=cs.take (n * i.size)++(cs.drop (o2 * i.size)).take (0 * i.size)) hb hm hcur (new:=cur) rfl (by rw [hnl];omega) (by
    rw [hnl,Nat.zero_mul,Ku,Ap,E9];exact h1) hnok
   rw [hw] at hf
   exact ⟨_,g,w,_,_,hrun,Gh.le_refl g,hf.2,.ms hm hrm (by omega) hmx,hf.1,hk⟩
 · have ho2':=ho2 (by omega)
   subst ho2'
   have hrun:=run_append_room (P:=P) w t ty ty' i ht hi b n cap cur hcur ⟨b,o2 * i.size,none⟩ n2 (cap2 - o2) _ hvl hcell hone hroom (by rw [hvl,hcs,← CM];exact Aj _ hroom)
   rw [hvl] at hrun
   have hsize:(cur.toList.take (n * i.size)++(cur.toList.drop (o2 * i.size)).take (n2 * i.size)++cur.toList.drop (n * i.size+n2 * i.size)).toArray.size=cur.size:=by
    rw [HL,AA,hl3,Ah,Co];omega
   have hf:=h.row hb hm hcur hsize (cs':=cs.take (n * i.size)++(cs.drop (o2 * i.size)).take (n2 * i.size)) (by rw [hnl,hsize];omega) (by
    rw [hnl]
    show VRs g _ (List.take _ (_++_++_))
    rw [← hl3,Kt]
    exact h1.append hv2) hnok
   exact ⟨_,g,_,_,_,hrun,Gh.le_refl g,hf.2,.ms hm hrm hroom hmx,hf.1,hk⟩
theorem qX {t ty e:TypeId} {i:TypeInfo} {z:List AV} (ht:P.underlying t=some (.slice e)) (hi:P.info? e=some i) (hz:M7 P e=some z) (hzl:z.length=i.size)
 (h:B2 base g lam Pr N F L σ a w0 w) {p:AV} {pvl:Value} (hp:VR g p pvl) {R:AV→AK→Prop} (hr:ExR σ R (.clr z) [p]):
 M9 P (Builtin.clear_ #[t] ty #[pvl]) base g lam Pr N F L a w0 w R:=by
 cases p<;>try (exact (show False from hr).elim)
 rename_i i1 o n s1 e1
 obtain ⟨rfl,cs,hb,hl1,hk⟩:=hr
 cases hp with
 |@mv _ _ _ _ _ b oa cap hm hrm hn hmx ho=>
 obtain ⟨cur,ty',hcur,hle,hvr,hok,hrt,hpart⟩:=h.part hb hm
 obtain ⟨i',zv,hi',hzv,hzok,hzr⟩:=GU hz
 rw [hi] at hi';cases hi'
 have hzs:zv.cells.size=z.length:=by have:=(hzr g).length;simpa using this
 rw [CM] at hl1
 have hcl:cur.toList.length=cur.size:=by simp
 have htup:VR g (.tup []) (.tuple #[]):= .tup (vs:=[]) rfl (by simp)
 have hfl:((Ai n z).flatten).length=n * z.length:=Bk ..
 have hnl:(wr cs (o * z.length) (Ai n z).flatten).length=cs.length:=by
  unfold wr
  rw [AA,AA,hfl,Bj,Ah];omega
 have hnok:Ag (wr cs (o * z.length) (Ai n z).flatten)=true:=by
  have h2:=E4 hzok n
  simp only [Ag,A7] at hok h2 ⊢
  intro x hx
  unfold wr at hx
  rcases Bb.1 hx with hx|hx
  · rcases Bb.1 hx with hx|hx
    · exact hok x (C2 hx)
    · exact h2 x hx
  · exact hok x (DD hx)
 rcases G7 n with h0|h0
 · subst h0
   have hrun:(Builtin.clear_ #[t] ty #[.slice (some ⟨b,oa,none⟩) 0 (cap - o)]).run P w= .ok (.tuple #[]) w:=by
    simp [Builtin.clear_,run_underlying ht]
   have hw:w.setRow b cur=w:=setRow_self w b cur ty' _ hcur
   have hf:=h.row (cs':=wr cs (o * z.length) (Ai 0 z).flatten) hb hm hcur (new:=cur) rfl (by rw [hnl];exact hle) (by
    rw [hnl]
    have e0:wr cs (o * z.length) (Ai 0 z).flatten=cs:=by
     unfold wr
     simp only [List.replicate_zero,List.flatten_nil,Ap,AI,E9,Gt]
    rw [e0];exact hvr) hnok
   rw [hw] at hf
   exact ⟨_,g,w,_,_,hrun,Gh.le_refl g,hf.2,htup,hf.1,hk⟩
 · have ho':=ho (by omega)
   subst ho'
   have hzl2:(Builtin.zeroCells zv.cells n).toList.length=n * z.length:=by rw [Co,size_zeroCells,hzs]
   have hvv:VRs g (Ai n z).flatten (Builtin.zeroCells zv.cells n).toList:=by
    rw [T2];exact (hzr g).flatten n
   have hone:=hvv.ADC (E4 hzok n)
   have hst:=run_storeCells_at P b (o * z.length) ty' (Builtin.zeroCells zv.cells n).toList 0 cur w hcur (by rw [hzl2];omega) hone
   simp only [E9,hzl2] at hst
   have hrun:(Builtin.clear_ #[t] ty #[.slice (some ⟨b,o * z.length,none⟩) n (cap - o)]).run P w= .ok (.tuple #[]) (w.setRow b (cur.toList.take (o * z.length)++(Builtin.zeroCells zv.cells n).toList++cur.toList.drop (o * z.length+n * z.length)).toArray):=by
    obtain ⟨m,rfl⟩:∃m,n=m+1:=⟨n - 1,by omega⟩
    simp [Builtin.clear_,run_underlying ht,zeroValue,typeInfo,hi,hzv,hst]
   have hsize:(cur.toList.take (o * z.length)++(Builtin.zeroCells zv.cells n).toList++cur.toList.drop (o * z.length+n * z.length)).toArray.size=cur.size:=by
    rw [HL,AA,AA,hzl2,Bj,Ah,hcl];omega
   have hf:=h.row hb hm hcur hsize (cs':=wr cs (o * z.length) (Ai n z).flatten) (by rw [hnl,hsize];exact hle) (by
    rw [hnl]
    have h1:=hvr.take (o * z.length)
    rw [List.take_take,Tg (by omega)] at h1
    have h3:=hvr.drop (o * z.length+n * z.length)
    have:=(h1.append hvv).append h3
    unfold wr
    rw [hfl]
    have l1:(cur.toList.take (o * z.length)++(Builtin.zeroCells zv.cells n).toList).length=o * z.length+n * z.length:=by
     rw [AA,hzl2,Bj,hcl];omega
    have e1:(cur.toList.take (o * z.length)++(Builtin.zeroCells zv.cells n).toList++cur.toList.drop (o * z.length+n * z.length)).take cs.length=cur.toList.take (o * z.length)++(Builtin.zeroCells zv.cells n).toList++(cur.toList.take cs.length).drop (o * z.length+n * z.length):=by
     rw [List.take_append,l1,A8 (by rw [l1];omega),Ks]
    show VRs g _ (List.take _ _)
    rw [e1];exact this) hnok
   exact ⟨_,g,_,_,_,hrun,Gh.le_refl g,hf.2,htup,hf.1,hk⟩
end Go.Ab
namespace Go.Ab
open Go.RowKit
variable {P:Program} {base N:Nat} {g g':Gh} {Pr:Nat→Prop} {σ σ':AK} {w0 w w':World} {lam:Nat→Option Nat} {F:Fm} {L:Lm} {a:Act}
theorem w5 {q:AV} {qvl:Value} {srows:List (List DV)} (hq:SV g lam q qvl) (hqr:q.rows=some srows):RD g.im (.sl srows) qvl:=by
 cases q with
 |d x=>cases x<;>simp only [AV.rows,AQ] at hqr<;>try (cases hqr;done)
       subst hqr;cases hq with|d h=>exact h
 |AO=>simp only [AV.rows,AQ] at hqr;subst hqr;cases hq;exact .nil (C3 _) (fun _=>rfl)
 |own _ _ _ _=>simp only [AV.rows,AQ] at hqr;subst hqr;cases hq with|own h _ _=>exact h
 |clip _=>simp only [AV.rows,AQ] at hqr;subst hqr;cases hq with|clip h=>exact h
 |_=>cases hqr
theorem rD (h:B2 base g lam Pr N F L σ a w0 w) (cells:Array Value) (e:TypeId) (n:Nat):
 g.le (g.settle w.heap.size n cells)∧KP Pr w (w.drew.alloc (.cells cells e))∧B2 base (g.settle w.heap.size n cells) lam Pr N F L σ a w0 (w.drew.alloc (.cells cells e)):=by
 have hold:∀b,b < w.heap.size→(w.drew.alloc (.cells cells e)).heap[b]?=w.heap[b]?:=fun b hb=>heap_alloc_old w.drew _ b hb
 have hbel:Below base w (w.drew.alloc (.cells cells e)):=⟨rfl,rfl,rfl,by simp,fun k hk=>hold k (by have:=h.rel.bs;omega)⟩
 have hrel1:=h.rel.grow (w':=w.drew.alloc (.cells cells e)) (Pr':=fun b=>Pr b∨∃k,lam k=some b) (by simp) (fun b hb _=>hold b hb) hbel (fun b hb=>⟨by have:=(h.rel.pr b hb).1;simp;omega,.inl hb⟩)
 have hrel:=h.rel.settle (n:=n) (vs:=cells) (b:=w.heap.size) (A4 _) hrel1 (fun o=>by
  rw [World.cell?_of_block (w:=w.alloc (.cells cells e)) (show (w.drew.alloc (.cells cells e)).heap[w.heap.size]?=(w.alloc (.cells cells e)).heap[w.heap.size]? from rfl)];simp)
 have hle:=h.rel.Tc w.heap.size n cells (A4 _)
 exact ⟨hle,⟨by simp,fun b hp=>hold b (h.rel.pr b (.inl hp)).1⟩,h.step hle (fun k b hb=>hold b (h.Ie hb)) hrel⟩
theorem lJ {t ty e:TypeId} {i:TypeInfo} {z:Value} (ht:P.underlying t=some (.slice e)) (hi:P.info? e=some i) (hz:i.zero=some z) (hzs:z.cells.size=i.size)
 (h:B2 base g lam Pr N F L σ a w0 w) {q:AV} {pvl qvl:Value} {rows srows:List (List DV)} (hp:SV g lam (.clip rows) pvl) (hq:SV g lam q qvl) (hqr:q.rows=some srows)
 (hrs:∀r∈rows,r.length=i.size) (hss:∀r∈srows,r.length=i.size) (h63:rows.length+srows.length≤maxLen) (hby:(rows.length+srows.length) * i.bytes≤140737488355328):
 ∃x g' w',(Builtin.append_ #[t,t] ty #[pvl,qvl]).run P w= .ok x w'∧g.le g'∧KP Pr w w'∧VR g' (.d (.sl (rows++srows))) x∧B2 base g' lam Pr N F L σ a w0 w':=by
 have hqd:=w5 hq hqr
 have hpc:VR g (.clip rows) pvl:=hp
 generalize hcl:AV.clip rows=cl at hpc
 cases hpc<;>cases hcl
 rename_i ad n hrd
 obtain ⟨ad',cap',hcap',_⟩:=hrd.Kn
 have hn:n=rows.length:=by simp only [Value.slice.injEq] at hcap';exact hcap'.2.1
 subst hn
 by_cases h0:srows=[]
 · subst h0
   obtain ⟨ad2,cap2,rfl,_⟩:=hqd.Kn
   have hrun:(Builtin.append_ #[t,t] ty #[.slice ad rows.length rows.length,.slice ad2 0 cap2]).run P w= .ok (.slice ad rows.length rows.length) w:=by
    have hfc:∀sz,(Builtin.firstCells sz 0 (.slice ad2 0 cap2)).run P w= .ok #[] w:=fun sz=>by
     cases ad2<;>simp [Builtin.firstCells,loadCells,loadCellsFrom]
    cases ad<;>simp [Builtin.append_,run_underlying ht,sizeOf,typeInfo,hi,Builtin.lenOf,hfc,storeCells]
   exact ⟨_,g,w,hrun,Gh.le_refl g,KP.refl Pr w,.d (by simpa using hrd),h⟩
 · have hpos:0 < srows.length:=A5.2 h0
   obtain ⟨ad2,cap2,rfl,_⟩:=hqd.Kn
   obtain ⟨b,off,rfl⟩:∃b off,ad2=some ⟨b,off,none⟩:=by
    generalize hvv:(Value.slice ad2 srows.length cap2)=vv at hqd
    cases hqd with
    |nil=>simp at hpos
    |sl=>cases hvv;exact ⟨_,_,rfl⟩
   obtain ⟨news,hnl,_,hni,hnr⟩:=RD.cellsOf hss hqd hpos
   have hnews:∀j u,news[j]?=some u→w.cell? ((⟨b,off,none⟩:Addr).add j)=some u:=fun j u hu=>by rw [Addr.add_lit];exact h.rel.im _ _ _ (hni j u hu)
   have h63':((rows.length+srows.length:Nat):Int)≤9223372036854775807:=by simp only [maxLen] at h63;omega
   obtain ⟨olds,cap,hol,hor,hrun,hcg,hcm⟩:∃(olds:List Value) (cap:Nat),olds.length=rows.length * i.size∧(∀(j:Nat) (x:DV),rows.flatten[j]?=some x→∃v,olds[j]?=some v∧RD g.im x v)∧
    (Builtin.append_ #[t,t] ty #[.slice ad rows.length rows.length,.slice (some ⟨b,off,none⟩) srows.length cap2]).run P w=
      .ok (.slice (some ⟨w.heap.size,0,none⟩) (rows.length+srows.length) cap) (w.drew.alloc (.cells (olds.toArray++news.toArray++Builtin.zeroCells z.cells (cap - (rows.length+srows.length))) e))∧
    rows.length+srows.length≤cap∧cap≤maxLen:=by
    cases ad with
    |none=>
     have hr0:rows=[]:=by
      generalize hvv:(Value.slice none rows.length rows.length)=vv at hrd
      cases hrd with
      |nil=>rfl
      |sl=>cases hvv
     subst hr0
     have hr:=run_append_nil (P:=P) w t ty e i z ht hi hz ⟨b,off,none⟩ srows.length cap2 news hnl hnews hpos (by simpa using h63') (by simp at hby;omega)
     exact ⟨[],_,by simp,by simp,by simpa using hr,by simpa using grownCap_ge w srows.length 0 e,grownCap_le_maxLen w _ 0 e (by simpa using h63)⟩
    |some ad=>
     have hgr:=fun olds h1 h2=>run_append_grow (P:=P) w t ty e i z ht hi hz ad rows.length rows.length olds h1 h2 ⟨b,off,none⟩ srows.length cap2 news hnl hnews (by omega) h63' (growslice_fits (by omega) hby)
     have hge:=grownCap_ge w (rows.length+srows.length) rows.length e
     have hlm:=grownCap_le_maxLen w (rows.length+srows.length) rows.length e h63
     by_cases hr0:rows=[]
     · subst hr0
       exact ⟨[],_,by simp,by simp,hgr [] (by simp) (by simp),hge,hlm⟩
     · obtain ⟨b2,off2,rfl⟩:∃b off,ad=⟨b,off,none⟩:=by
        generalize hvv:(Value.slice (some ad) rows.length rows.length)=vv at hrd
        cases hrd with
        |nil=>exact absurd rfl hr0
        |sl=>cases hvv;exact ⟨_,_,rfl⟩
       obtain ⟨olds,hol,_,hoi,hor⟩:=RD.cellsOf hrs hrd (A5.2 hr0)
       exact ⟨olds,_,hol,hor,hgr olds hol (fun j u hu=>by rw [Addr.add_lit];exact h.rel.im _ _ _ (hoi j u hu)),hge,hlm⟩
   generalize hcells:olds.toArray++news.toArray++Builtin.zeroCells z.cells (cap - (rows.length+srows.length))=cells at hrun
   obtain ⟨hle,hkp,hf⟩:=rD h cells e (olds.length+news.length)
   refine ⟨_,_,_,hrun,hle,hkp,?_,hf⟩
   have hall:∀r∈rows++srows,r.length=i.size:=fun r hr=>by
    rcases Bb.1 hr with h1|h1
    · exact hrs r h1
    · exact hss r h1
   have hol':(olds++news).length=(rows++srows).length * i.size:=by rw [AA,AA,hol,hnl,CM]
   have:=RD.mQ (im:=(g.settle w.heap.size (olds.length+news.length) cells).im) (rows:=rows++srows) (size:=i.size) (b:=w.heap.size) (off:=0) (cap:=cap) (ys:=olds++news)
    hall (by simpa using hcg) hcm hol' (fun j u hu=>by
     have hlt:=(A3.1 hu).1
     rw [AA] at hlt
     simp only [Gh.settle,if_true,Bd,if_pos hlt]
     rw [← hcells]
     rw [Array.getElem?_append_left (by simp;omega)]
     simpa using hu) (fun j x hx=>by
     rw [Ma] at hx
     have hfl:=Em rows hrs
     rcases Ea j rows.flatten.length with h1|h1
     · rw [BE h1] at hx
       obtain ⟨v,hv,hrd⟩:=hor j x hx
       exact ⟨v,by rw [BE (by omega)];exact hv,hrd.mono hle.im⟩
     · rw [BA h1] at hx
       obtain ⟨v,hv,hrd⟩:=hnr _ x hx
       refine ⟨v,?_,hrd.mono hle.im⟩
       rw [BA (by omega),hol,← hfl];exact hv)
   exact .d (by simpa using this)
end Go.Ab
