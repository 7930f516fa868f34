/- Further operations: nil slices, bytes and strings, append of a string or of zeros. Conditions: none. -/
import Derived.Lib.AppendStr
import Derived.Lib.AppendZeros
import Derived.Lib.UnsafeStr
import Derived.Laws.IdiomStrings
import Derived.Lib.LazyBuf
import Derived.Test.YtifplkldbbcldaaGreatDoorXAb9
set_option linter.unusedSimpArgs false
set_option linter.unusedVariables false
set_option maxRecDepth 4000
set_option maxHeartbeats 8000000
open List renaming length_append→AA,size_toArray→HL,append_assoc→AY,take_left→Kt,eq_nil_of_length_eq_zero→An,nil_append→A6,length_take→Bj,length_drop→Ah,replicate→Ai,mem_map→Lw,getElem?_eq_some_iff→A3,mem_append→Bb,flatten_append→Ma,getElem?_append_left→BE,getElem?_append_right→BA,getElem?_map→BC,map_cons→AB,length_pos_iff→A5
open Nat renaming le_refl→A4,zero_add→Bd,zero_le→C3,lt_or_ge→Ea,eq_zero_or_pos→G7,add_mul→CM,mul_le_mul_right→Aj,le_trans→Ay
open Array renaming length_toList→Co,getElem?_modify→RK
open Option.some renaming injEq→AQ
open Bool renaming false_eq_true→AL
open Option renaming map_eq_some_iff→AM,bind_eq_some_iff→AF
namespace Go.Ab
open Go.RowKit
section
variable {P:Program} (w:World)
theorem RA (base:Nat) (t u ty e:TypeId) (i:TypeInfo) (ht:P.underlying t=some (.slice e)) (hu:P.underlying u=some .string) (hi:P.info? e=some i) (hz:i.zero=some (.int .u8 0))
 (hsize:i.size=1) (hby:i.bytes=1) (v:Value) (n:Nat) (xs:List Value) (hown:w.ownsRow base e 1 v n xs) (s:ByteArray)
 (h63:n+s.size≤maxLen) (hbytes:n+s.size≤140737488355328) (hbase:base≤w.heap.size):
 ∃v' w',(Builtin.append_ #[t,u] ty #[v,.string s]).run P w= .ok v' w'∧w'.ownsRow base e 1 v' (n+s.size) (xs++Lib.strCells s)∧w.grownBy w' v'.ownBlock∧
  (∀k,v'.ownBlock=some k→v.ownBlock=some k∨w.heap.size≤k):=by
 have hsmall:n+s.size≤9223372036854775807:=by simp only [maxLen] at h63;omega
 have hxl:xs.length=n:=by simpa using hown.1
 have hlen:(xs++Lib.strCells s).length=(n+s.size) * 1:=by rw [AA,hxl,Lib.strCells_length,Nat.mul_one]
 have grown:∀(old:Nat),old < n+s.size→∀(row:Option Nat),
  (w.drew.alloc (.cells (xs.toArray++(Lib.strCells s).toArray++Builtin.zeroCells (Value.int .u8 0).cells (grownCap w (n+s.size) old e - (n+s.size))) e)).ownsRow base e 1
    (.slice (some ⟨w.heap.size,0,none⟩) (n+s.size) (grownCap w (n+s.size) old e)) (n+s.size) (xs++Lib.strCells s)∧
  w.grownBy (w.drew.alloc (.cells (xs.toArray++(Lib.strCells s).toArray++Builtin.zeroCells (Value.int .u8 0).cells (grownCap w (n+s.size) old e - (n+s.size))) e)) row:=by
  intro old ho row
  have hge:=grownCap_ge w (n+s.size) old e
  have hcm:grownCap w (n+s.size) old e≤maxLen:=grownCap_le_maxLen w (n+s.size) old e h63
  refine ⟨⟨hlen,.inr ⟨w.heap.size,_,_,rfl,hbase,heap_alloc_new w.drew _,hge,hcm,?_,?_⟩⟩,⟨rfl,rfl,rfl,by simp,fun k hk _=>heap_alloc_old w.drew _ k hk⟩⟩
  · have hz1:(Value.int IntKind.u8 0).cells.size=1:=rfl
    simp only [Array.size_append,HL,size_zeroCells,hz1,hxl,Lib.strCells_length]
    omega
  · simp only [Array.toList_append,AY]
    rw [← AY,← hlen]
    exact Kt
 rcases hown.2 with ⟨rfl,rfl⟩|⟨g,cap,cur,rfl,hbg,hg,hnc,hcm,hcs,htake⟩
 · have hx:xs=[]:=An hxl
   subst hx
   by_cases hm:s.size=0
   · have hn:Lib.strCells s=[]:=An (by rw [Lib.strCells_length];exact hm)
     refine ⟨.slice none 0 0,w,?_,by rw [hm,hn];exact World.ownsRow_nil w base e 1,⟨rfl,rfl,rfl,A4 _,fun _ _ _=>rfl⟩,by simp [Value.ownBlock]⟩
     have hf:=Lib.run_firstCells_string (P:=P) w 1 s
     rw [hm] at hf
     simp [Builtin.append_,run_underlying ht,run_underlying hu,sizeOf,typeInfo,hi,hsize,Builtin.lenOf,hm,hf]
   · have hr:=run_append_nil_string (P:=P) w t u ty e i (.int .u8 0) ht hu hi hz s (by omega) (by omega) (by rw [hby];omega)
     have hgr:=grown 0 (by omega) (some w.heap.size)
     simp only [Bd,A6,Array.empty_append] at hgr ⊢
     have e1:(s.data.map fun b=>Value.int .u8 b.toNat)=(Lib.strCells s).toArray:=by
      apply Array.ext'
      simp [Lib.strCells]
     rw [e1] at hr
     exact ⟨_,_,hr,hgr.1,hgr.2,fun k hk=>.inr (by simp [Value.ownBlock] at hk;omega)⟩
 · by_cases hroom:n+s.size≤cap
   · have hcs':cur.size=cap:=by simpa using hcs
     have hr:=Lib.run_append_room_string (P:=P) w t u ty e i ht hu hi hsize g n cap cur hg s hroom (by omega)
     refine ⟨_,_,hr,⟨hlen,.inr ⟨g,cap,_,rfl,hbg,setRow_heap w g cur _ e _ hg,hroom,hcm,?_,?_⟩⟩,⟨rfl,rfl,rfl,by simp,fun k _ hk=>setRow_other w g k _ (fun e=>hk (by simp [Value.ownBlock,e]))⟩,fun k hk=>.inl hk⟩
     · simp only [HL,AA,Bj,Ah,Co,Lib.strCells_length]
       omega
     · have ht':cur.toList.take n=xs:=by simpa using htake
       rw [ht',← hlen]
       exact Kt
   · have holds:∀j u,xs[j]?=some u→w.cell? ((⟨g,0,none⟩:Addr).add j)=some u:=hown.cells (g:=g) rfl
     have hr:=Lib.run_append_grow_string (P:=P) w t u ty e i (.int .u8 0) ht hu hi hz ⟨g,0,none⟩ n cap xs (by rw [hsize];simpa using hxl) holds s (by omega) (by omega) (by rw [hby];exact growslice_fits (by omega) (by omega))
     have hgr:=grown cap (by omega) (some w.heap.size)
     exact ⟨_,_,hr,hgr.1,hgr.2,fun k hk=>.inr (by simp [Value.ownBlock] at hk;omega)⟩
end
variable {P:Program} {base N:Nat} {g g':Gh} {Pr:Nat→Prop} {σ σ':AK} {w0 w w':World} {lam:Nat→Option Nat} {F:Fm} {L:Lm} {a:Act}
def ExR (σ:AK) (R:AV→AK→Prop):EK→List AV→Prop
 | .kG ne,[v]=>match mN v with
  |some b=>R (.d (.bool (b != ne))) σ
  |none=>v.rows=some []∧∀b,R (.d (.bool b)) σ
 | .apps e,[s,.d (.str x)]=>∃rows σ1,QA σ e 1 s=some (rows,σ1)∧rows.length+x.length≤140737488355328∧∀t,σ.tok t=false→R (.own t e 1 (rows++BI x)) (σ1.CO t)
 | .qI e size bytes z,[.AO,.d (.int _ n)]=>0 < n∧n * bytes≤140737488355328∧n≤140737488355328∧∀j,σ.blk j=none→R (.ms j n.toNat size e) (σ.AH j (Ai n.toNat z).flatten)
 | .alt t z,[]=>Ag z=true∧∀i,(σ.blk i=none∧σ.bt i=none)→R (.gp i 0) ((σ.AH i z).HI i (z.length,t))
 | .iD t n,[x]=>(Ag x.cells=true∧x.cells.length=n)∧∀i,(σ.blk i=none∧σ.bt i=none)→R (.gp i 0) ((σ.AH i x.cells).HI i (n,t))
 | .clr z,[.mv i o n s1 e1]=>s1=z.length∧∃cs,σ.blk i=some cs∧(o+n) * s1≤cs.length∧R (.tup []) (σ.AH i (wr cs (o * s1) (Ai n z).flatten))
 | .cpy s,[.mv i o n s1 e1,.mv i2 o2 n2 s2 e2]=>(i2=i∧s1=s∧s2=s)∧∃cs,σ.blk i=some cs∧(o+n) * s≤cs.length∧(o2+n2) * s≤cs.length∧R (.d (.int .i64 (min n2 n:Nat))) (σ.AH i (wr cs (o * s) ((cs.drop (o2 * s)).take (min n2 n * s))))
 | .tQ e s,[.ms i n s1 e1,.mv i2 o2 n2 s2 e2]=>(i2=i∧s1=s∧s2=s∧e1=e)∧∃cs,σ.blk i=some cs∧(n+n2) * s≤cs.length∧(o2+n2) * s≤cs.length∧R (.ms i (n+n2) s e) (σ.AH i (cs.take (n * s)++(cs.drop (o2 * s)).take (n2 * s)))
 | .tQ e s,[p,.ms i2 n2 s2 e2]=>s2=s∧∃cs2 n cs σ1,σ.blk i2=some cs2∧cs2.length=n2 * s∧n2≠0∧n+n2≤1000000000∧UO σ e s p=some (n,cs,σ1)∧∀j,σ.blk j=none→R (.ms j (n+n2) s e) (σ1.AH j (cs++cs2))
 | .kM e,[.bp t e' s,.d (.int .i64 n)]=>(e'=e∧n=s.length)∧s≠[]∧σ.tok t=true∧R (.d (.str s)) (σ.FL t)
 |_,_=>False
theorem ExR.mono {R R':AV→AK→Prop}:∀ {k:EK} {args:List AV},ExR σ R k args→(∀v σ',(∀q,v.DF q=false)→R v σ'→R' v σ')→ExR σ R' k args:=by
 intro k args h hR
 unfold ExR at h ⊢
 split at h
 · split at h
   · exact hR _ _ (fun _=>rfl) h
   · exact ⟨h.1,fun b=>hR _ _ (fun _=>rfl) (h.2 b)⟩
 · obtain ⟨rows,σ1,h1,h2,h3⟩:=h
   exact ⟨rows,σ1,h1,h2,fun t ht=>hR _ _ (fun _=>rfl) (h3 t ht)⟩
 · exact ⟨h.1,h.2.1,h.2.2.1,fun j hj=>hR _ _ (fun _=>rfl) (h.2.2.2 j hj)⟩
 · exact ⟨h.1,fun i hi=>hR _ _ (fun _=>rfl) (h.2 i hi)⟩
 · exact ⟨h.1,fun i hi=>hR _ _ (fun _=>rfl) (h.2 i hi)⟩
 · obtain ⟨h1,cs,h2,h3,h5⟩:=h
   exact ⟨h1,cs,h2,h3,hR _ _ (fun _=>rfl) h5⟩
 · obtain ⟨h1,cs,h2,h3,h4,h5⟩:=h
   exact ⟨h1,cs,h2,h3,h4,hR _ _ (fun _=>rfl) h5⟩
 · obtain ⟨h1,cs,h2,h3,h4,h5⟩:=h
   exact ⟨h1,cs,h2,h3,h4,hR _ _ (fun _=>rfl) h5⟩
 · obtain ⟨h1,cs2,n,cs,σ1,h2,h3,h4,h5,h6,h7⟩:=h
   exact ⟨h1,cs2,n,cs,σ1,h2,h3,h4,h5,h6,fun j hj=>hR _ _ (fun _=>rfl) (h7 j hj)⟩
 · exact ⟨h.1,h.2.1,h.2.2.1,hR _ _ (fun _=>rfl) h.2.2.2⟩
 · exact h.elim
def M9 (P:Program) (m:Sem Value) (base:Nat) (g:Gh) (lam:Nat→Option Nat) (Pr:Nat→Prop) (N:Nat) (F:Fm) (L:Lm) (a:Act) (w0 w:World) (R:AV→AK→Prop):Prop:=
 ∃x g' w' v σ',m.run P w= .ok x w'∧g.le g'∧KP Pr w w'∧VR g' v x∧B2 base g' lam Pr N F L σ' a w0 w'∧R v σ'
theorem VS {x:AV} {v:Value} (hx:VR g x v) {rows:List (List DV)} (hr:x.rows=some rows):∃ad cap,v= .slice ad rows.length cap:=by
 have h:RD g.im (.sl rows) v:=by
  cases x with
  |d y=>cases y<;>simp only [AV.rows,AQ] at hr<;>try (cases hr;done)
        subst hr;cases hx with|d h=>exact h
  |AO=>simp only [AV.rows,AQ] at hr;subst hr;cases hx;exact .nil (C3 _) (fun _=>rfl)
  |own _ _ _ _=>simp only [AV.rows,AQ] at hr;subst hr;cases hx with|own h _ _=>exact h
  |clip _=>simp only [AV.rows,AQ] at hr;subst hr;cases hx with|clip h=>exact h
  |_=>cases hr
 obtain ⟨ad,cap,h,_⟩:=h.Kn
 exact ⟨ad,cap,h⟩
theorem mO {x:AV} {v:Value} (hx:VR g x v) {b:Bool} (hb:mN x=some b):∃ad n cap,v= .slice ad n cap∧ad.isNone=b:=by
 cases x<;>simp only [mN] at hb<;>try (cases hb;done)
 · rename_i y
   cases y<;>try (cases hb;done)
   rename_i rows
   cases rows with
   |nil=>cases hb
   |cons r rows=>
    cases hb
    cases hx with
    |d h=>cases h with|sl=>exact ⟨_,_,_,rfl,rfl⟩
 · cases hb;cases hx;exact ⟨_,_,_,rfl,rfl⟩
 · rename_i rows
   cases rows with
   |nil=>cases hb
   |cons r rows=>
    cases hb
    cases hx with
    |own h=>cases h with|sl=>exact ⟨_,_,_,rfl,rfl⟩
 · rename_i rows
   cases rows with
   |nil=>cases hb
   |cons r rows=>
    cases hb
    cases hx with
    |clip h=>
     generalize hv:Value.slice _ _ _=vv at h ⊢
     cases h with|sl=>exact ⟨_,_,_,rfl,rfl⟩
 · cases hb;cases hx;exact ⟨_,_,_,rfl,rfl⟩
 · cases hb;cases hx;exact ⟨_,_,_,rfl,rfl⟩
theorem bK {t e:TypeId} (ht:P.underlying t=some (.slice e)) (h:B2 base g lam Pr N F L σ a w0 w) {ne:Bool} {x:AV} {v:Value} (hx:VR g x v) {R:AV→AK→Prop} (hr:ExR σ R (.kG ne) [x]) (y z:Operand):
 M9 P (do eqGuard (if ne then .neq else .eql) t y z v (.slice none 0 0);binOp (if ne then .neq else .eql) t v (.slice none 0 0)) base g lam Pr N F L a w0 w R:=by
 have hrun:∀ad n cap,v= .slice ad n cap→((do eqGuard (if ne then .neq else .eql) t y z v (.slice none 0 0);binOp (if ne then .neq else .eql) t v (.slice none 0 0):Sem Value)).run P w= .ok (.bool (ad.isNone != ne)) w:=by
  rintro ad n cap rfl
  have heq:∀d,(Op.equalIn (d+1) t (.slice ad n cap) (.slice none 0 0)).run P w= .ok ad.isNone w:=fun d=>by
   cases ad<;>simp [Op.equalIn,run_underlying ht]
  have heq2:(Op.equal t (.slice ad n cap) (.slice none 0 0)).run P w= .ok ad.isNone w:=heq 9999
  have hg:(eqGuard (if ne then .neq else .eql) t y z (.slice ad n cap) (.slice none 0 0)).run P w= .ok () w:=by cases ne<;>simp [eqGuard]
  simp only [Sem.run_bind,hg,Result.andThen_ok]
  cases ne
  · simp only [binOp,AL,if_false]
    simp [heq2]
  · simp only [binOp,if_true]
    simp [heq2]
 simp only [ExR] at hr
 cases hn:mN x with
 |some b=>
  rw [hn] at hr
  obtain ⟨ad,n,cap,hv,hb⟩:=mO hx hn
  exact ⟨_,g,w,_,σ,hrun ad n cap hv,Gh.le_refl g,KP.refl Pr w,.d .bool,h,by rw [hb];exact hr⟩
 |none=>
  rw [hn] at hr
  obtain ⟨ad,cap,hv⟩:=VS hx hr.1
  exact ⟨_,g,w,_,σ,hrun ad _ cap hv,Gh.le_refl g,KP.refl Pr w,.d .bool,h,hr.2 _⟩
theorem V4 (s:List UInt8):∀r∈BI s,r.length=1:=by
 intro r hr
 simp only [BI,Lw] at hr
 obtain ⟨b,_,rfl⟩:=hr;rfl
theorem UQ (s:List UInt8):(BI s).flatten=s.map fun b=>DV.int .u8 b.toNat:=by
 induction s with
 |nil=>rfl
 |cons b s ih=>
  have ih':(List.map (fun b:UInt8=>[DV.int .u8 b.toNat]) s).flatten=List.map (fun b=>DV.int .u8 b.toNat) s:=ih
  simp [BI,ih']
theorem kY {t u ty e:TypeId} {i:TypeInfo} (ht:P.underlying t=some (.slice e)) (hu:P.underlying u=some .string) (hi:P.info? e=some i) (hz:i.zero=some (.int .u8 0)) (hsize:i.size=1) (hby:i.bytes=1)
 (h:B2 base g lam Pr N F L σ a w0 w) {p q:AV} {pvl qvl:Value} (hp:VR g p pvl) (hq:VR g q qvl) {R:AV→AK→Prop} (hr:ExR σ R (.apps e) [p,q]):
 M9 P (Builtin.append_ #[t,u] ty #[pvl,qvl]) base g lam Pr N F L a w0 w R:=by
 cases q<;>try (exact (show False from hr).elim)
 rename_i y
 cases y<;>try (exact (show False from hr).elim)
 rename_i s
 obtain ⟨rows,σ1,hpa,hlen,hk⟩:=hr
 cases hq with|d hq=>cases hq with|str hsl=>
 obtain ⟨t',_,htau,_,htok⟩:=h.rel.fresh
 have hmine:∃xs,cE base g (fun b=>Pr b∨∃k,lam k=some b) σ1 w e 1 pvl rows.length xs∧σ1.le σ∧(∀r∈rows,r.length=1)∧
  (∀(j:Nat) (x:DV),rows.flatten[j]?=some x→∃v,xs[j]?=some v∧RD g.im x v):=by
  unfold QA at hpa
  split at hpa
  · cases hpa;cases hp
    exact ⟨[],cE.nil _ _ _ _ _ _ _,AK.le_refl _,by simp,by simp⟩
  · split at hpa
    · rename_i hcond
      obtain ⟨rfl,rfl,htk⟩:=hcond
      cases hpa
      cases hp with
      |own hrd htau2 hsz=>
       obtain ⟨n,xs,hm⟩:=h.rel.ADA htk htau2
       have hn:=pG hm.1 hrd
       subst hn
       refine ⟨xs,hm,AK.Wj _ _,hsz,fun j x hx=>?_⟩
       have hpos:0 < rows.length:=by cases rows with|nil=>simp at hx|cons=>simp
       rcases hm.1.2 with ⟨_,h0⟩|⟨gg,cap,cur,rfl,hbg,hgg,_⟩
       · omega
       obtain ⟨vs,hvl,_,hvi,hvr⟩:=RD.cellsOf hsz hrd hpos
       obtain ⟨v,hv,hrdv⟩:=hvr j x hx
       refine ⟨v,?_,hrdv⟩
       have hlt:j < xs.length:=by rw [hm.1.1,← hvl];exact (A3.1 hv).1
       have h1:=h.rel.im _ _ _ (hvi j v hv)
       have h2:=hm.1.cells (g:=gg) rfl j xs[j] (by simp [hlt])
       rw [Addr.add_lit,Bd] at h2
       rw [Bd] at h1
       rw [h1] at h2;cases h2
       simp [hlt]
    · cases hpa
  · cases hpa
 obtain ⟨xs,hmine,hle1,hsz,hxs⟩:=hmine
 have hssz:ByteArray.size ⟨s.toArray⟩=s.length:=by simp [ByteArray.size]
 have hcell:Lib.strCells ⟨s.toArray⟩=s.map fun b=>Value.int .u8 b.toNat:=by simp [Lib.strCells]
 obtain ⟨v',w',hrun,hown',hgr,hwh⟩:=RA (P:=P) w base t u ty e i ht hu hi hz hsize hby pvl rows.length xs hmine.1 ⟨s.toArray⟩ (by rw [hssz];simp only [maxLen];omega) (by rw [hssz];exact hlen) h.rel.bs
 rw [hssz,hcell] at hown'
 have hrel1:=h.rel.less hle1
 have hle:=hrel1.Yl (news:=s.map fun b=>Value.int .u8 b.toNat) (e:=e) (size:=1) (t':=t') hmine hwh htau
 have hrel':=hrel1.ACY (t':=t') hmine hown' hgr hwh htau
 have hnpr:∀b,v'.ownBlock=some b→¬(Pr b∨∃k,lam k=some b):=fun b hb=>by
  rcases hwh b hb with hvb|hge
  · exact (hmine.2 b hvb).2.1
  · intro hp;have:=(h.rel.pr b hp).1;omega
 refine ⟨v',g.grow v' e 1 t' (xs++s.map fun b=>Value.int .u8 b.toNat),w',.own t' e 1 (rows++BI s),σ1.CO t',hrun,hle,⟨hgr.size,fun b hb=>hgr.block b (h.rel.pr b (.inl hb)).1 (fun e'=>hnpr b e'.symm (.inl hb))⟩,?_,
  h.step hle (fun k b hb=>hgr.block b (h.Ie hb) (fun e'=>hnpr b e'.symm (.inr ⟨k,hb⟩))) hrel',hk t' htok⟩
 have hbl:(BI s).length=s.length:=by simp [BI]
 have hall:∀r∈rows++BI s,r.length=1:=fun r hr=>by
  rcases Bb.1 hr with h1|h1
  · exact hsz r h1
  · exact V4 s r h1
 refine .own ?_ (by simp [Gh.grow]) hall
 have hxl:xs.length=rows.length * 1:=hmine.1.1
 rcases hown'.2 with ⟨rfl,h0⟩|⟨gg,cap,cur,rfl,hbg,hgg,hnc,hcm,_⟩
 · have:rows++BI s=[]:=An (by rw [AA,hbl];exact h0)
   rw [this];exact .nil (C3 _) (fun _=>rfl)
 · have:=RD.mQ (im:=(g.grow (.slice (some ⟨gg,0,none⟩) (rows.length+s.length) cap) e 1 t' (xs++s.map fun b=>Value.int .u8 b.toNat)).im) (rows:=rows++BI s) (size:=1) (b:=gg) (off:=0) (cap:=cap) (ys:=xs++s.map fun b=>Value.int .u8 b.toNat)
    hall (by simpa [hbl] using hnc) hcm (by rw [hown'.1];simp [hbl]) (fun j u hu=>by simp only [Gh.grow,Value.ownBlock,if_true,Bd];exact hu) (fun j x hx=>by
     rw [Ma,UQ] at hx
     have hfl:=Em rows hsz
     rcases Ea j rows.flatten.length with h1|h1
     · rw [BE h1] at hx
       obtain ⟨v,hv,hrd⟩:=hxs j x hx
       exact ⟨v,by rw [BE (by omega)];exact hv,hrd.mono hle.im⟩
     · rw [BA h1,BC,AM] at hx
       obtain ⟨b,hb,rfl⟩:=hx
       refine ⟨.int .u8 b.toNat,?_,.int ?_⟩
       · rw [BA (by omega),hxl,← hfl,BC,hb];rfl
       · have:=b.toNat_lt;simp only [IntKind.has,IntKind.min,IntKind.max,IntKind.signed,IntKind.bits];constructor<;>simp<;>omega)
   simpa [hbl] using this
theorem T2 (z:Array Value) (n:Nat):(Builtin.zeroCells z n).toList=(Ai n z.toList).flatten:=by
 rcases G7 z.size with h0|h0
 · have:z=#[]:=Array.eq_empty_of_size_eq_zero h0
   subst this
   simp [Builtin.zeroCells]
 · exact range_zero z z.size rfl h0 n
theorem k6 {t tn ty e:TypeId} {i:TypeInfo} {kn:IntKind} {z:Value} {zc:List AV} (ht:P.underlying t=some (.slice e)) (htn:P.underlying tn=some (.int kn)) (hi:P.info? e=some i) (hz:i.zero=some z) (hzs:z.cells.size=i.size) (hpos:0 < i.size)
 (hzc:M7 P e=some zc) (hzl:zc.length=i.size)
 (h:B2 base g lam Pr N F L σ a w0 w) {p q:AV} {pvl qvl:Value} (hp:VR g p pvl) (hq:VR g q qvl) {R:AV→AK→Prop} (hr:ExR σ R (.qI e i.size i.bytes zc) [p,q]):
 M9 P (Builtin.append_ #[t,tn] ty #[pvl,qvl]) base g lam Pr N F L a w0 w R:=by
 cases p<;>try (exact (show False from hr).elim)
 cases q<;>try (exact (show False from hr).elim)
 rename_i y
 cases y<;>try (exact (show False from hr).elim)
 rename_i k n0
 obtain ⟨hn0,hb,hm,hk⟩:=hr
 cases hp
 cases hq with|d hq=>cases hq with|int hkn=>
 obtain ⟨n,rfl⟩:∃n:Nat,n0=n:=⟨n0.toNat,by omega⟩
 simp only [Int.toNat_natCast] at hk
 have hn:0 < n:=by omega
 have hb':n * i.bytes≤140737488355328:=Int.ofNat_le.1 (by rw [Int.natCast_mul];exact hb)
 have hm':n≤140737488355328:=by omega
 have hrun:=Lib.run_append_nil_zeros (P:=P) w t tn ty e i z k kn ht htn hi hz n hn hpos (by omega) (by omega)
 obtain ⟨j,hj,htau,hblk,htok⟩:=h.rel.fresh
 obtain ⟨i',zv,hi',hzv,hok,hvr⟩:=GU hzc
 rw [hi] at hi';cases hi'
 rw [hz] at hzv;cases hzv
 have hge:=grownCap_ge w n 0 e
 have hcm:grownCap w n 0 e≤maxLen:=grownCap_le_maxLen w n 0 e (by simp only [maxLen];omega)
 generalize grownCap w n 0 e=cap at *
 generalize hvs:(Builtin.zeroCells z.cells n++Builtin.zeroCells z.cells (cap - n))=vs at hrun
 have hsz:vs.size=cap * i.size:=by
  rw [← hvs,Array.size_append,size_zeroCells,size_zeroCells,hzs,← CM];congr 1;omega
 have htake:vs.toList.take (n * i.size)=(Ai n z.cells.toList).flatten:=by
  rw [← hvs,Array.toList_append,T2]
  have hl:(Ai n z.cells.toList).flatten.length=n * i.size:=by rw [Bk,Co,hzs]
  rw [← hl,Kt]
 have hrel2:Rel base g (fun x=>Pr x∨∃k,lam k=some x) σ w0 (w.drew.alloc (.cells vs e)):=
  h.rel.grow (by simp) (fun b hb _=>heap_alloc_old w.drew _ b hb) ((Below.refl base w).trans (show Below base w (w.drew.alloc (.cells vs e)) from ⟨rfl,rfl,rfl,by simp,fun k hk=>heap_alloc_old w.drew _ k (by have:=h.rel.bs;simp;omega)⟩)) (fun b hb=>⟨by have:=(h.rel.pr b hb).1;simp;omega,.inl hb⟩)
 have hcl:(Ai n zc).flatten.length=n * i.size:=by rw [Bk,hzl]
 have hle:=Gh.IU (g:=g) (i:=j) (b:=w.heap.size) (rt:=some (cap * i.size,e)) hj
 have hpr:¬(Pr w.heap.size∨∃k,lam k=some w.heap.size):=fun hp=>by have:=(h.rel.pr _ hp).1;omega
 have hrel3:=hrel2.bD (i:=j) (b:=w.heap.size) (rt:=some (cap * i.size,e)) hj h.rel.bs (fun q hq' hm2=>?_) (fun o=>?_) (fun t2 v2 e2 s2 ht2 hm2 hvb=>?_) (cs:=(Ai n zc).flatten) (heap_alloc_new w.drew _) (by rw [hcl,hsz];exact Aj _ hge)
  (fun t ht=>by cases ht;exact ⟨hsz,rfl⟩) (by rw [hcl,htake];exact (hvr g).flatten n) (E4 hok n) hpr
 · refine ⟨_,g.share j w.heap.size (some (cap * i.size,e)),_,.ms j n i.size e,_,hrun,hle,⟨by simp,fun b hb=>heap_alloc_old w.drew _ b (h.rel.pr b (.inl hb)).1⟩,.ms (by simp [Gh.share]) (by simp [Gh.share]) hge hcm,h.step hle (fun k b hb=>heap_alloc_old w.drew _ b (h.Ie hb)) hrel3,hk j hblk⟩
 · cases hc:σ.blk q with
   |none=>exact hq' hc
   |some c=>have:=h.rel.RB hc hm2;omega
 · cases hi':g.im w.heap.size o with
   |none=>rfl
   |some v=>have:=h.rel.Sw hi';omega
 · obtain ⟨v3,e3,s3,n3,xs3,hm3,hown3,hrest3⟩:=(h.rel.tok t2 ht2).row
   rw [hm2] at hm3;cases hm3
   have:=(hown3.lt _ hvb).2;omega
theorem Mg (w:World) (p:Addr) (n b:Nat) (h:b≠p.block):(w.freeze p n).heap[b]?=w.heap[b]?:=by
 unfold World.freeze
 split
 · rfl
 · simp only [RK];rw [if_neg (fun e=>h e.symm)]
theorem S7 (w:World) (p:Addr) (n:Nat):(w.freeze p n).heap.size=w.heap.size:=by
 unfold World.freeze
 split
 · rfl
 · simp
theorem iN (w:World) (p:Addr) (n b o:Nat):(w.freeze p n).cell? ⟨b,o,none⟩=w.cell? ⟨b,o,none⟩:=by
 by_cases hb:b=p.block
 · unfold World.freeze
   split
   · rfl
   · simp only [World.cell?,RK,hb,if_true]
     cases w.heap[p.block]? with
     |none=>rfl
     |some o'=>cases o'<;>rfl
 · exact World.cell?_of_block (Mg w p n b hb)
theorem Rel.frozen (h:Rel base g Pr σ w0 w) {b n:Nat} (hb:base≤b) (hpr:¬Pr b) (hsh:∀i,σ.blk i≠none→g.mu i≠some b) (htk:∀t v e s,σ.tok t=true→g.tau t=some (v,e,s)→v.ownBlock≠some b):
 Rel base g Pr σ w0 (w.freeze ⟨b,0,none⟩ n):=by
 have hot:∀k,k≠b→(w.freeze ⟨b,0,none⟩ n).heap[k]?=w.heap[k]?:=fun k hk=>Mg w _ n k hk
 refine ⟨fun b' o v hv=>by rw [iN];exact h.im b' o v hv,fun i cs hi=>?_,h.inj,fun t ht=>?_,fun k hk=>by rw [S7];exact h.pr k hk,h.bel.trans (Lib.below_freeze (Below.refl base w) hb n),by rw [S7];exact h.bs,h.fin,h.st⟩
 · obtain ⟨b',hm,ho⟩:=h.shr i cs hi
   obtain ⟨vs,ty,hv,hl,ht,hr⟩:=ho.row
   have hne:b'≠b:=fun e=>hsh i (by rw [hi];simp) (e ▸ hm)
   exact ⟨b',hm,ho.ok,⟨vs,ty,by rw [hot b' hne];exact hv,hl,ht,hr⟩,ho.low,ho.im,ho.pr⟩
 · obtain ⟨v,e,size,m,xs,hm,hown,hrest⟩:=(h.tok t ht).row
   exact ⟨v,e,size,m,xs,hm,Mn hown fun b' hvb=>hot b' (fun e'=>htk t v e size ht hm (e' ▸ hvb)),hrest⟩
theorem oA {pt it ty e:TypeId} (hp:P.underlying pt=some (.pointer e)) (hc:P.cellsOf e=1) (h:B2 base g lam Pr N F L σ a w0 w) {p q:AV} {pvl qvl:Value} (hpv:VR g p pvl) (hq:VR g q qvl) {R:AV→AK→Prop}
 (hr:ExR σ R (.kM e) [p,q]):M9 P (Builtin.unsafeString_ #[pt,it] ty #[pvl,qvl]) base g lam Pr N F L a w0 w R:=by
 cases p<;>try (exact (show False from hr).elim)
 rename_i t e' s
 cases q<;>try (exact (show False from hr).elim)
 rename_i y
 cases y<;>try (exact (show False from hr).elim)
 rename_i k n0
 cases k<;>try (exact (show False from hr).elim)
 obtain ⟨⟨rfl,rfl⟩,hne,htk,hk⟩:=hr
 cases hq with|d hq=>cases hq with|int hkn=>
 cases hpv with
 |@bp _ _ cap b off _ htau him=>
  obtain ⟨n,xs,hmine⟩:=h.rel.ADA htk htau
  have hlen0:s.length≠0:=by simpa using hne
  rcases hmine.1.2 with ⟨he,_⟩|⟨gg,cap',cur,he,hbg,hgg,hnc,hcm,hcs,htake⟩
  · cases he
  · simp only [Value.slice.injEq,AQ,Addr.mk.injEq] at he
    obtain ⟨⟨rfl,rfl,_⟩,rfl,rfl⟩:=he
    have hob:(Value.slice (some ⟨b,0,none⟩) s.length cap).ownBlock=some b:=rfl
    obtain ⟨_,hpr,hsh,htk2⟩:=hmine.2 b hob
    have hsl:s.length≤maxLen:=Ay hnc hcm
    have hrun:=Lib.run_unsafeString_row (P:=P) w pt it ty e' hp hc b cur.size (by simp [World.shape?,hgg]) s hne (by rw [hcs];omega) (by simp only [maxLen] at hsl;omega)
     (fun j x hx=>by rw [Addr.add_lit];exact h.rel.im _ _ _ (him j x hx))
    have hrel1:=h.rel.less (AK.Wj σ t)
    have hrel2:=hrel1.frozen (n:=s.length) hbg hpr hsh (fun t' v' e' s' ht'=>htk2 t' v' e' s' ht')
    refine ⟨_,g,_,.d (.str s),σ.FL t,hrun,Gh.le_refl g,⟨by rw [S7];exact A4 _,fun b' hb'=>Mg w _ _ b' (fun (e2:b'=b)=>hpr (.inl (e2 ▸ hb')))⟩,.d (.str hsl),?_,hk⟩
    exact h.step (Gh.le_refl g) (fun k b' hb'=>Mg w _ _ b' (fun (e2:b'=b)=>hpr (.inr ⟨k,e2 ▸ hb'⟩))) hrel2
theorem qF {t:TypeId} {z:List AV} (hz:M7 P t=some z) (h:B2 base g lam Pr N F L σ a w0 w) {R:AV→AK→Prop} (hr:ExR σ R (.alt t z) []):
 ∃x w',(∀o:Oper,o.op= .alloc t→(execOp a.eval o).run P w= .ok (.value x) w')∧∃g' v σ',g.le g'∧KP Pr w w'∧VR g' v x∧B2 base g' lam Pr N F L σ' a w0 w'∧R v σ':=by
 obtain ⟨hok,hk⟩:=hr
 obtain ⟨i,zv,hi,hzv,_,hvr⟩:=GU hz
 refine ⟨.pointer (some ⟨w.heap.size,0,none⟩),w.alloc (.cells zv.cells t),fun o hop=>by unfold execOp;simp [hop,Instr.alloc,zeroValue,typeInfo,hi,hzv,newVar,newRow],?_⟩
 have hlen:zv.cells.size=z.length:=by have:=(hvr g).length;simpa using this
 obtain ⟨j,hmu,_,hblk,_⟩:=h.rel.fresh
 have hrel:=h.rel.share (rt:=some (z.length,t)) hmu (A4 _) (h.rel.alloc (.cells zv.cells t)) (heap_alloc_new w _) (fun _ h=>by cases h;exact ⟨hlen,rfl⟩) (hvr g) hok (fun hp=>by have:=(h.rel.pr _ hp).1;omega)
 have hle:=Gh.IU (g:=g) (i:=j) (b:=w.heap.size) (rt:=some (z.length,t)) hmu
 have hf:=h.step hle (fun k b hb=>heap_alloc_old w _ b (h.Ie hb)) (hrel.HI (i:=j) (x:=(z.length,t)) (by simp [Gh.share]))
 exact ⟨_,.gp j 0,_,hle,⟨by simp,fun b hb=>heap_alloc_old w _ b (h.rel.pr b (.inl hb)).1⟩,.gp (by simp [Gh.share]),hf,hk j ⟨hblk,by
  cases hb:σ.bt j with
  |none=>rfl
  |some x=>have:=h.rel.st.2 j x hb;rw [hmu.2] at this;cases this⟩⟩
theorem lA {t n:Nat} {y:Operand} {x:X} (hxo:xo y=some x) (h:B2 base g lam Pr N F L σ a w0 w) {R:AV→AK→Prop} (hr:ExR σ R (.iD t n) [xv F x]):
 ∃z w',(∀o:Oper,o.op= .box t y→(execOp a.eval o).run P w= .ok (.value z) w')∧∃g' v σ',g.le g'∧KP Pr w w'∧VR g' v z∧B2 base g' lam Pr N F L σ' a w0 w'∧R v σ':=by
 obtain ⟨⟨hok,hln⟩,hk⟩:=hr
 have hv:=((Ad hxo h).vr (NM hok)).cells hok
 refine ⟨.pointer (some ⟨w.heap.size,0,none⟩),w.alloc (.cells (a.eval y).cells t),fun o hop=>by unfold execOp;simp [hop,Instr.box,newVar,newRow],?_⟩
 have hlen:(a.eval y).cells.size=n:=by have:=hv.length;rw [hln] at this;simpa using this
 obtain ⟨j,hmu,_,hblk,_⟩:=h.rel.fresh
 have hrel:=h.rel.share (rt:=some (n,t)) hmu (A4 _) (h.rel.alloc (.cells (a.eval y).cells t)) (heap_alloc_new w _) (fun _ h=>by cases h;exact ⟨hlen,rfl⟩) hv hok (fun hp=>by have:=(h.rel.pr _ hp).1;omega)
 have hle:=Gh.IU (g:=g) (i:=j) (b:=w.heap.size) (rt:=some (n,t)) hmu
 have hf:=h.step hle (fun k b hb=>heap_alloc_old w _ b (h.Ie hb)) (hrel.HI (i:=j) (x:=(n,t)) (by simp [Gh.share]))
 exact ⟨_,.gp j 0,_,hle,⟨by simp,fun b hb=>heap_alloc_old w _ b (h.rel.pr b (.inl hb)).1⟩,.gp (by simp [Gh.share]),hf,hk j ⟨hblk,by
  cases hb:σ.bt j with
  |none=>rfl
  |some x=>have:=h.rel.st.2 j x hb;rw [hmu.2] at this;cases this⟩⟩
theorem QD:∀ {rows:List (List DV)} {s:List UInt8},bytesOf rows=some s→rows=BI s
 |[],s,h=>by simp only [bytesOf,AQ] at h;subst h;rfl
 |r::rows,s,h=>by
  simp only [bytesOf,AF,AM] at h
  obtain ⟨b,hb,s',hs,rfl⟩:=h
  have:=QD hs
  subst this
  unfold byteOf at hb
  split at hb
  · split at hb
    · rename_i n hn
      cases hb
      have:((UInt8.ofNat n.toNat).toNat:Int)=n:=by
       have:n.toNat < 256:=by omega
       simp [UInt8.toNat_ofNat,Nat.mod_eq_of_lt this];omega
      simp only [BI,AB,this]
    · cases hb
  · cases hb
theorem AAO {x:AV} {v:Value} (hx:VR g x v) {rows:List (List DV)} (hr:x.rows=some rows):RD g.im (.sl rows) v:=by
 cases x with
 |d y=>cases y<;>simp only [AV.rows,AQ] at hr<;>try (cases hr;done)
       subst hr;cases hx with|d h=>exact h
 |AO=>simp only [AV.rows,AQ] at hr;subst hr;cases hx;exact .nil (C3 _) (fun _=>rfl)
 |own _ _ _ _=>simp only [AV.rows,AQ] at hr;subst hr;cases hx with|own h _ _=>exact h
 |clip _=>simp only [AV.rows,AQ] at hr;subst hr;cases hx with|clip h=>exact h
 |_=>cases hr
theorem iF {s:List UInt8} {v:Value} (h:RD g.im (.sl (BI s)) v) (h0:s≠[]):∃b off cap,v= .slice (some ⟨b,off,none⟩) s.length cap∧s.length≤cap∧∀(j:Nat) (x:UInt8),s[j]?=some x→g.im b (off+j)=some (.int .u8 x.toNat):=by
 have hbl:(BI s).length=s.length:=by simp [BI]
 have hpos:0 < (BI s).length:=by rw [hbl];exact A5.2 h0
 obtain ⟨ad,cap,rfl,_⟩:=h.Kn
 obtain ⟨b,off,hcap,rfl⟩:∃b off,(BI s).length≤cap∧ad=some ⟨b,off,none⟩:=by
  generalize hvv:(Value.slice ad (BI s).length cap)=vv at h
  generalize hrr:BI s=rr at h hvv hpos ⊢
  cases h with
  |nil=>simp at hpos
  |sl hc=>cases hvv;exact ⟨_,_,hc,rfl⟩
 refine ⟨b,off,cap,by rw [hbl],by rw [← hbl];exact hcap,fun j x hx=>?_⟩
 obtain ⟨vs,_,_,h2,h3⟩:=RD.cellsOf (V4 s) h hpos
 obtain ⟨v,hv,hrd⟩:=h3 j (.int .u8 x.toNat) (by rw [UQ,BC,hx];rfl)
 cases hrd
 exact h2 j _ hv
theorem qS {t e ty:TypeId} (ht:P.underlying t=some (.slice e)) {x:AV} {v:Value} (hx:VR g x v) {r:AV} (hr:U7 .cap [x]=some r):∃y,(Builtin.cap_ #[t] ty #[v]).run P w= .ok y w∧VR g r y:=by
 cases x<;>simp only [U7] at hr<;>try (cases hr;done)
 cases hr;cases hx
 exact ⟨_,by simp [Builtin.cap_,run_underlying ht];rfl,.d (.int (by simp [IntKind.has,IntKind.min,IntKind.max,IntKind.signed,IntKind.bits]))⟩
theorem qM {src dst e:TypeId} (hs:P.underlying src=some (.slice e)) (he:P.underlying e=some (.int .u8)) (hd:P.underlying dst=some .string) (hrel:Rel base g Pr σ w0 w) {x:AV} {v:Value} (hx:VR g x v) {r:AV} (hr:U7 .b2s [x]=some r):
 ∃y,(convert src dst v).run P w= .ok y w∧VR g r y:=by
 simp only [U7,AM,AF] at hr
 obtain ⟨s,⟨rows,hrows,hb⟩,rfl⟩:=hr
 have:=QD hb;subst this
 have hrd:=AAO hx hrows
 by_cases h0:s=[]
 · subst h0
   obtain ⟨ad,cap,rfl⟩:=VS hx hrows
   refine ⟨.string ⟨#[]⟩,?_,.d (.str (s:=[]) (C3 _))⟩
   have hbl:(BI []).length=0:=rfl
   rw [hbl,run_convert_bytes_string w src dst e ad 0 cap hs he hd]
   cases ad with
   |none=>simp [Conv.bytesToString];rfl
   |some a=>exact run_bytesToString w a 0 cap [] (by simp [loadCells,loadCellsFrom])
 · obtain ⟨b,off,cap,rfl,hcap,him⟩:=iF hrd h0
   have hm:s.length≤maxLen:=by
    have hbl:(BI s).length=s.length:=by simp [BI]
    rw [← hbl]
    generalize hvv:(Value.slice (some ⟨b,off,none⟩) s.length cap)=vv at hrd
    generalize BI s=rr at hrd hbl ⊢
    cases hrd with
    |nil=>exact C3 _
    |sl hc hm=>exact Ay hc hm
   refine ⟨.string ⟨s.toArray⟩,run_convert_bytes_back w src dst e ⟨b,off,none⟩ cap s hs he hd (fun j hj=>?_),.d (.str hm)⟩
   rw [Addr.add_lit];exact hrel.im _ _ _ (him j s[j] (by simp [hj]))
theorem tF {ts:Array TypeId} {ty:TypeId} {x:AV} {v:Value} (hx:VR g x v) {r:AV} (hr:U7 .usd [x]=some r):∃y,(Builtin.unsafeSliceData_ ts ty #[v]).run P w= .ok y w∧VR g r y:=by
 obtain ⟨t,e,r0,rows,rfl,hr⟩:∃t e r0 rows,x= .own t e 1 (r0::rows)∧(bytesOf (r0::rows)).map (fun s=>AV.bp t e s)=some r:=by
  unfold U7 at hr
  split at hr<;>first|(cases hr;done)|skip
  all_goals first
   |(rename_i h1;cases h1;done)
   |(rename_i h1 h2;cases h1;done)
   |(rename_i heq;simp only [List.cons.injEq,and_true] at heq;exact ⟨_,_,_,_,heq,hr⟩)
   |trace_state
 obtain ⟨s,hs,rfl⟩:=AM.1 hr
 have hsp:=QD hs
 cases hx with
 |own hrd htau hsz=>
  rw [hsp] at hrd
  have h0:s≠[]:=by rintro rfl;cases hsp
  obtain ⟨b,off,cap,rfl,hcap,him⟩:=iF hrd h0
  have:cap≠0:=by have:=A5.2 h0;omega
  exact ⟨_,Lib.run_unsafeSliceData_row (P:=P) w ts ty ⟨b,off,none⟩ s.length cap this,.bp htau him⟩
end Go.Ab
