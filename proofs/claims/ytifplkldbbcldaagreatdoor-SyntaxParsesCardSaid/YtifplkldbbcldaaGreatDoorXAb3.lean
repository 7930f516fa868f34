/- append to a row of the call's own, with a sharper account of what has changed; and its effect on the relation. Compact operations, what they do to abstract states, and how they come out of the model's operations. Conditions: none. -/
import Derived.Test.YtifplkldbbcldaaGreatDoorXAb1
set_option linter.unusedSimpArgs false
set_option linter.unusedVariables false
set_option maxRecDepth 4000
set_option maxHeartbeats 8000000
open List renaming length_append→AA,size_toArray→HL,append_assoc→AY,take_left→Kt,eq_nil_of_length_eq_zero→An,nil_append→A6,length_take→Bj,length_drop→Ah,getElem?_append_left→BE,replicate→Ai
open Nat renaming add_mul→CM,le_refl→A4,zero_add→Bd,mul_le_mul_right→Aj,lt_or_ge→Ea,le_trans→Ay,lt_of_lt_of_le→V0
open Array renaming length_toList→Co
open Option renaming map_eq_some_iff→AM,bind_eq_some_iff→AF
namespace Go.Ab
open Go.RowKit
section
variable {P:Program} (w:World)
theorem E8 (base:Nat) (t ty e:TypeId) (i:TypeInfo) (z:Value) (size bytes:Nat) (ht:P.underlying t=some (.slice e)) (hi:P.info? e=some i) (hz:i.zero=some z)
 (hsize:i.size=size) (hby:i.bytes=bytes) (hzs:z.cells.size=size)
 (v:Value) (n:Nat) (xs:List Value) (hown:w.ownsRow base e size v n xs)
 (a:Addr) (m c:Nat) (news:List Value) (hl:news.length=m * size) (hnews:∀j u,news[j]?=some u→w.cell? (a.add j)=some u) (h1:∀u∈news,u.oneCell'=true)
 (h63:n+m≤maxLen) (hbytes:(n+m) * bytes≤140737488355328) (hbase:base≤w.heap.size):
 ∃v' w',(Builtin.append_ #[t,t] ty #[v,.slice (some a) m c]).run P w= .ok v' w'∧w'.ownsRow base e size v' (n+m) (xs++news)∧w.grownBy w' v'.ownBlock∧
  (∀k,v'.ownBlock=some k→v.ownBlock=some k∨w.heap.size≤k):=by
 subst hsize
 subst hby
 have hsmall:n+m≤9223372036854775807:=by simp only [maxLen] at h63;omega
 have hlen:(xs++news).length=(n+m) * i.size:=by rw [AA,hown.1,hl,CM]
 have grown:∀(old:Nat),old < n+m→∀(row:Option Nat),
  (w.drew.alloc (.cells (xs.toArray++news.toArray++Builtin.zeroCells z.cells (grownCap w (n+m) old e - (n+m))) e)).ownsRow base e i.size
    (.slice (some ⟨w.heap.size,0,none⟩) (n+m) (grownCap w (n+m) old e)) (n+m) (xs++news)∧
  w.grownBy (w.drew.alloc (.cells (xs.toArray++news.toArray++Builtin.zeroCells z.cells (grownCap w (n+m) old e - (n+m))) e)) row:=by
  intro old ho row
  have hge:=grownCap_ge w (n+m) old e
  have hcm:grownCap w (n+m) old e≤maxLen:=grownCap_le_maxLen w (n+m) old e h63
  refine ⟨⟨hlen,.inr ⟨w.heap.size,_,_,rfl,hbase,heap_alloc_new w.drew _,hge,hcm,?_,?_⟩⟩,⟨rfl,rfl,rfl,by simp,fun k hk _=>heap_alloc_old w.drew _ k hk⟩⟩
  · simp only [Array.size_append,HL,size_zeroCells,hzs,hown.1,hl,← CM]
    congr 1
    omega
  · simp only [Array.toList_append,AY]
    rw [← AY,← hlen]
    exact Kt
 rcases hown.2 with ⟨rfl,rfl⟩|⟨g,cap,cur,rfl,hbg,hg,hnc,hcm,hcs,htake⟩
 · have hx:xs=[]:=An (by simpa using hown.1)
   subst hx
   by_cases hm:m=0
   · subst hm
     have hn:news=[]:=An (by simpa using hl)
     subst hn
     refine ⟨.slice none 0 0,w,?_,World.ownsRow_nil w base e i.size,⟨rfl,rfl,rfl,A4 _,fun _ _ _=>rfl⟩,by simp [Value.ownBlock]⟩
     simp [Builtin.append_,run_underlying ht,sizeOf,typeInfo,hi,Builtin.lenOf,Builtin.firstCells,loadCells,loadCellsFrom]
   · have hr:=run_append_nil (P:=P) w t ty e i z ht hi hz a m c news hl hnews (by omega) (by omega) (by have hb:=hbytes;simp only [Bd] at hb;omega)
     have hgr:=grown 0 (by omega) (some w.heap.size)
     simp only [Bd,A6,Array.empty_append] at hgr ⊢
     exact ⟨_,_,hr,hgr.1,hgr.2,fun k hk=>.inr (by simp [Value.ownBlock] at hk;omega)⟩
 · by_cases hroom:n+m≤cap
   · have hfit:n * i.size+news.length≤cur.size:=by rw [hl,hcs,← CM];exact Aj _ hroom
     have hr:=run_append_room (P:=P) w t ty e i ht hi g n cap cur hg a m c news hl hnews h1 hroom hfit
     refine ⟨_,_,hr,⟨hlen,.inr ⟨g,cap,_,rfl,hbg,setRow_heap w g cur _ e _ hg,hroom,hcm,?_,?_⟩⟩,⟨rfl,rfl,rfl,by simp,fun k _ hk=>setRow_other w g k _ (fun e=>hk (by simp [Value.ownBlock,e]))⟩,fun k hk=>.inl hk⟩
     · simp only [HL,AA,Bj,Ah,Co]
       omega
     · rw [htake,← hlen]
       exact Kt
   · have holds:∀j u,xs[j]?=some u→w.cell? ((⟨g,0,none⟩:Addr).add j)=some u:=hown.cells (g:=g) rfl
     have hr:=run_append_grow (P:=P) w t ty e i z ht hi hz ⟨g,0,none⟩ n cap xs hown.1 holds a m c news hl hnews (by omega) (by omega) (growslice_fits (by omega) hbytes)
     have hgr:=grown cap (by omega) (some w.heap.size)
     exact ⟨_,_,hr,hgr.1,hgr.2,fun k hk=>.inr (by simp [Value.ownBlock] at hk;omega)⟩
end
variable {base N:Nat} {g:Gh} {Pr:Nat→Prop} {σ:AK} {w0 w w':World} {lam:Nat→Option Nat} {F:Fm} {L:Lm} {a:Act}
def Gh.grow (g:Gh) (v':Value) (e size t':Nat) (ys:List Value):Gh:=
 { im:=fun b o=>if v'.ownBlock=some b then ys[o]? else g.im b o,mu:=g.mu,tau:=fun t=>if t=t' then some (v',e,size) else g.tau t,rm:=g.rm}
def cE (base:Nat) (g:Gh) (Pr:Nat→Prop) (σ:AK) (w:World) (e size:Nat) (v:Value) (n:Nat) (xs:List Value):Prop:=
 w.ownsRow base e size v n xs∧∀b,v.ownBlock=some b→(∀o,n * size≤o→g.im b o=none)∧¬Pr b∧(∀i,σ.blk i≠none→g.mu i≠some b)∧
  (∀t' v' e' s',σ.tok t'=true→g.tau t'=some (v',e',s')→v'.ownBlock≠some b)
theorem Rel.Yl (h:Rel base g Pr σ w0 w) {e size n t':Nat} {v v':Value} {xs news:List Value} (hmine:cE base g Pr σ w e size v n xs)
 (hwh:∀k,v'.ownBlock=some k→v.ownBlock=some k∨w.heap.size≤k) (ht':g.tau t'=none):g.le (g.grow v' e size t' (xs++news)):=by
 refine ⟨fun b o u hu=>?_,fun _ _ h=>h,fun t x hx=>?_,fun _ _ h=>h⟩
 · simp only [Gh.grow]
   split
   · rename_i hb
     rcases hwh b hb with hvb|hge
     · have hlt:o < n * size:=by
        rcases Ea o (n * size) with h1|h1
        · exact h1
        · rw [(hmine.2 b hvb).1 o h1] at hu;cases hu
       have hxl:o < xs.length:=by rw [hmine.1.1];exact hlt
       have hc:=hmine.1.cells hvb o xs[o] (by simp [hxl])
       rw [Addr.add_lit,Bd,h.im b o u hu] at hc
       cases hc
       simp [BE hxl,hxl]
     · have:=h.Sw hu;omega
   · exact hu
 · have:t≠t':=fun e=>by rw [e,ht'] at hx;cases hx
   simp [Gh.grow,this,hx]
theorem Rel.ACY (h:Rel base g Pr σ w0 w) {e size n m t':Nat} {v v':Value} {xs news:List Value} (hmine:cE base g Pr σ w e size v n xs)
 (hown':w'.ownsRow base e size v' (n+m) (xs++news)) (hg:w.grownBy w' v'.ownBlock) (hwh:∀k,v'.ownBlock=some k→v.ownBlock=some k∨w.heap.size≤k) (ht':g.tau t'=none):
 Rel base (g.grow v' e size t' (xs++news)) Pr (σ.CO t') w0 w':=by
 have hle:=h.Yl (news:=news) hmine hwh ht'
 have hnot:∀b,v'.ownBlock=some b→¬Pr b∧(∀i,σ.blk i≠none→g.mu i≠some b)∧(∀t2 v2 e2 s2,σ.tok t2=true→g.tau t2=some (v2,e2,s2)→v2.ownBlock≠some b):=by
  intro b hb
  rcases hwh b hb with hvb|hge
  · exact (hmine.2 b hvb).2
  · refine ⟨fun hp=>?_,fun i hi hm=>?_,fun t2 v2 e2 s2 ht2 hm2 hb2=>?_⟩
    · have:=(h.pr b hp).1;omega
    · cases hc:σ.blk i with
      |none=>exact hi hc
      |some cs=>have:=h.RB hc hm;omega
    · obtain ⟨v3,e3,s3,n3,xs3,hm3,hown3,_⟩:=(h.tok t2 ht2).row
      rw [hm2] at hm3;cases hm3
      have:=(hown3.lt b hb2).2;omega
 have hsame:∀b,b < w.heap.size→v'.ownBlock≠some b→w'.heap[b]?=w.heap[b]?:=fun b hb hne=>hg.block b hb (Ne.symm hne)
 have hbel:Below base w w':=⟨hg.os,hg.tape,hg.output,hg.size,fun k hk=>hsame k (by have:=h.bs;omega) fun e=>by have:=(hown'.lt k e).1;omega⟩
 refine ⟨fun b o u hu=>?_,fun i cs hi=>?_,h.inj,fun t ht=>?_,fun b hp=>?_,h.bel.trans hbel,Ay h.bs hg.size,?_,h.st.mono hle rfl rfl⟩
 · simp only [Gh.grow] at hu
   split at hu
   · rename_i hb
     have:=hown'.cells hb o u hu
     rwa [Addr.add_lit,Bd] at this
   · rename_i hb
     rw [World.cell?_of_block (w:=w) (hsame b (h.Sw hu) hb)];exact h.im b o u hu
 · have hi:σ.blk i=some cs:=hi
   obtain ⟨b,hm,ho⟩:=h.shr i cs hi
   obtain ⟨vs,ty,hv,hl,ht,hr⟩:=ho.row
   have hb:v'.ownBlock≠some b:=fun e=>(hnot b e).2.1 i (by rw [hi];simp) hm
   refine ⟨b,hm,ho.ok,⟨vs,ty,by rw [hsame b (h.RB hi hm) hb];exact hv,hl,ht,hr.mono hle⟩,ho.low,fun o=>?_,ho.pr⟩
   simp [Gh.grow,hb,ho.im o]
 · by_cases e':t=t'
   · subst e'
     refine ⟨v',e,size,n+m,xs++news,by simp [Gh.grow],hown',fun b hb=>⟨fun o ho=>?_,(hnot b hb).1,(hnot b hb).2.1,fun t2 v2 e2 s2 hne ht2 hm2=>?_⟩⟩
     · simp only [Gh.grow,hb,if_true]
       rw [List.getElem?_eq_none_iff,hown'.1];exact ho
     · simp only [AK.CO,if_neg hne] at ht2
       simp only [Gh.grow,if_neg hne] at hm2
       exact (hnot b hb).2.2 t2 v2 e2 s2 ht2 hm2
   · simp only [AK.CO,if_neg e'] at ht
     obtain ⟨v2,e2,s2,n2,xs2,hm2,hown2,hrest⟩:=(h.tok t ht).row
     have hdiff:∀b,v2.ownBlock=some b→v'.ownBlock≠some b:=fun b hb e=>(hnot b e).2.2 t v2 e2 s2 ht hm2 hb
     refine ⟨v2,e2,s2,n2,xs2,by simp [Gh.grow,e',hm2],Mn hown2 fun b hb=>hsame b (hown2.lt b hb).2 (hdiff b hb),fun b hb=>?_⟩
     obtain ⟨k1,k2,k3,k4⟩:=hrest b hb
     refine ⟨fun o ho=>by simp [Gh.grow,hdiff b hb,k1 o ho],k2,k3,fun t3 v3 e3 s3 hne ht3 hm3=>?_⟩
     by_cases e3':t3=t'
     · subst e3'
       simp only [Gh.grow,if_true] at hm3;cases hm3
       exact hdiff b hb
     · simp only [AK.CO,if_neg e3'] at ht3
       simp only [Gh.grow,if_neg e3'] at hm3
       exact k4 t3 v3 e3 s3 hne ht3 hm3
 · have hb:v'.ownBlock≠some b:=fun e=>(hnot b e).1 hp
   exact ⟨V0 (h.pr b hp).1 hg.size,fun o=>by simp [Gh.grow,hb,(h.pr b hp).2 o]⟩
 · obtain ⟨k,hk⟩:=h.fin
   refine ⟨max k (t'+1),fun i hi=>⟨(hk i (by omega)).1,?_,(hk i (by omega)).2.2⟩⟩
   have:i≠t':=by omega
   simp [Gh.grow,this,(hk i (by omega)).2.1]
theorem Rel.ADA (h:Rel base g Pr σ w0 w) {t e size:Nat} {v:Value} (ht:σ.tok t=true) (hm:g.tau t=some (v,e,size)):
 ∃n xs,cE base g Pr (σ.FL t) w e size v n xs:=by
 obtain ⟨v2,e2,s2,n2,xs2,hm2,hown2,hrest⟩:=(h.tok t ht).row
 rw [hm] at hm2;cases hm2
 refine ⟨n2,xs2,hown2,fun b hb=>?_⟩
 obtain ⟨k1,k2,k3,k4⟩:=hrest b hb
 refine ⟨k1,k2,k3,fun t' v' e' s' ht'=>?_⟩
 have hne:t'≠t:=fun e=>by subst e;simp [AK.FL] at ht'
 simp only [AK.FL,if_neg hne] at ht'
 exact k4 t' v' e' s' hne ht'
theorem AK.Wj (σ:AK) (t:Nat):(σ.FL t).le σ:=⟨fun _ _ h=>h,fun t' h=>by
 by_cases e:t'=t
 · subst e;simp [AK.FL] at h
 · simpa [AK.FL,e] using h,rfl,fun _ _ h=>h⟩
theorem cE.nil (base:Nat) (g:Gh) (Pr:Nat→Prop) (σ:AK) (w:World) (e size:Nat):cE base g Pr σ w e size (.slice none 0 0) 0 []:=
 ⟨World.ownsRow_nil w base e size,fun b hb=>by simp [Value.ownBlock] at hb⟩
end Go.Ab
namespace Go.Ab
open Go.RowKit
inductive X where
 |t (n:Nat)
 |c (v:AV)
inductive EK where
 |cap
 |b2s
 |usd
 |kG (ne:Bool)
 |apps (e:Nat)
 |qI (e size bytes:Nat) (z:List AV)
 |kM (e:Nat)
 |alt (t:Nat) (z:List AV)
 |iD (t n:Nat)
 |cpy (s:Nat)
 |tQ (e s:Nat)
 |clr (z:List AV)
inductive O where
 |mv (x:X)
 |pick (c a b:X)
 |fld (x:X) (off:Nat)
 |ld (x:X) (n:Option Nat)
 |ix (x i:X) (size:Nat)
 |Oj (x i:X)
 |len (x:X)
 |Lp (x:X)
 |bin (op:BinOp) (x y:X)
 |tS (op:BinOp) (x y:X)
 |un (op:UnOp) (x:X)
 |conv (k:IntKind) (x:X)
 |bld (z:List AV) (parts:List (Nat×Nat×X))
 |bsl (size len:Nat) (z:List AV) (parts:List (Nat×Nat×X))
 |mkf (f:FuncId) (first caps:List X)
 |ext (x:X) (i:Nat)
 |nck (x:X)
 |mm (isMax:Bool) (x y:X)
 |box (x:X) (sh:Bool)
 |al (z:List AV) (sh:Bool)
 |st (x v:X) (n:Nat)
 |msl (e size bytes:Nat) (z:List AV) (l c:X)
 |app (e size bytes:Nat) (s x:X)
 |call (f:FuncId) (args:List X)
 |E2 (x:X) (args:List X)
 |Xx (f:FuncId) (args:List X)
 |ldl (x:X) (n:Option Nat)
 |fd (x:X) (off:Nat) (n:Option Nat)
 |ssl (x:X) (lo hi:Option X)
 |sls (x:X) (lo hi mx:Option X) (size:Nat)
 |nA (ne:Bool) (x:X)
 |nV (ne:Bool) (n:Nat) (x y:X)
 |mm3 (isMax:Bool) (x y z:X)
 |tT (x:X)
 |cF (e size bytes:Nat) (s x:X)
 |trn (x hi:X)
 |Jr (e size len:Nat) (z:List AV) (parts:List (Nat×Nat×X))
 |ex (k:EK) (xs:List X)
structure Q where
 dst:Option Nat
 o:O
 grd:Option (Nat×Bool)
def xv (F:Fm):X→AV
 | .t n=>F n
 | .c v=>v
def put (d:Nat) (v:AV) (F:Fm):Fm:=fun s=>if s=d then v else F s
def At (d:Option Nat) (v:AV) (F:Fm):Fm:=match d with|some d=>put d v F|none=>F
def Aq (d:Nat) (cs:List AV) (L:Lm):Lm:=fun s=>if s=d then some cs else L s
def AV.dv:AV→Option DV
 | .d x=>some x
 | .AO=>some (.sl [])
 | .own _ _ _ rows=>some (.sl rows)
 | .clip rows=>some (.sl rows)
 | .FN=>some .FN
 |_=>none
def AV.rows:AV→Option (List (List DV))
 | .d (.sl rows)=>some rows
 | .AO=>some []
 | .own _ _ _ rows=>some rows
 | .clip rows=>some rows
 |_=>none
def lR:AV→Nat→Option AV
 | .lp k o,n=>some (.lp k (o+n))
 | .gp i o,n=>some (.gp i (o+n))
 | .ep r o,n=>some (.ep r (o+n))
 | .d (.ptr r),n=>some (.ep r n)
 |_,_=>none
def oM (v:AV):Option AV:=if v.CB then some v else none
theorem Ur {v u:AV} (h:oM v=some u):u=v∧v.CB=true:=by
 unfold oM at h
 split at h
 · cases h;exact ⟨rfl,by assumption⟩
 · cases h
def rdC (cs:List AV) (o:Nat):Option Nat→Option AV
 |none=>(cs[o]?).bind oM
 |some n=>if o+n≤cs.length then some (.agg ((cs.drop o).take n)) else none
def ldA (L:Lm) (σ:AK):AV→Option Nat→Option AV
 | .lp k o,n=>(L k).bind (rdC · o n)
 | .gp i o,n=>(σ.blk i).bind (rdC · o n)
 | .ep r o,n=>rdC (r.map AV.d) o n
 | .d (.ptr r),n=>rdC (r.map AV.d) 0 n
 |_,_=>none
def gC (L:Lm):AV→Option Nat→Option AV
 | .lp k o,n=>(L k).bind (rdC · o n)
 |_,_=>none
def ixR (rows:List (List DV)) (n:Int) (size:Nat):Option AV:=
 if 0≤n then (rows[n.toNat]?).bind fun r=>if r.length=size then some (.ep r 0) else none else none
def ixA:AV→AV→Nat→Option AV
 | .ms i n _ _,.d (.int _ m),size=>if 0≤m∧m < n then some (.gp i (m.toNat * size)) else none
 | .mv i o n s _,.d (.int _ m),size=>if (0≤m∧m < n)∧s=size then some (.gp i ((o+m.toNat) * size)) else none
 | .d (.sl rows),.d (.int _ m),size=>ixR rows m size
 | .own _ _ _ rows,.d (.int _ m),size=>ixR rows m size
 | .clip rows,.d (.int _ m),size=>ixR rows m size
 |_,_,_=>none
def bE:AV→AV→Option AV
 | .d (.str s),.d (.int _ m)=>if 0≤m then (s[m.toNat]?).map fun b=>.d (.int .u8 b.toNat) else none
 |_,_=>none
def eY:AV→Option AV
 | .d (.str s)=>some (.d (.int .i64 s.length))
 |_=>none
def Tz:AV→Option AV
 | .d (.sl rows)=>some (.d (.int .i64 rows.length))
 | .AO=>some (.d (.int .i64 0))
 | .own _ _ _ rows=>some (.d (.int .i64 rows.length))
 | .clip rows=>some (.d (.int .i64 rows.length))
 | .ms _ n _ _=>some (.d (.int .i64 n))
 | .mv _ _ n _ _=>some (.d (.int .i64 n))
 |_=>none
def rG (op:BinOp) (k:IntKind) (a b:Int):Option AV:=
 match op with
 | .add=>some (.d (.int k (k.wrap (a+b))))
 | .sub=>some (.d (.int k (k.wrap (a - b))))
 | .mul=>some (.d (.int k (k.wrap (a * b))))
 | .quo=>if b=0 then none else some (.d (.int k (k.wrap (a.tdiv b))))
 | .rem=>if b=0 then none else some (.d (.int k (a.tmod b)))
 | .eql=>some (.d (.bool (a==b)))
 | .neq=>some (.d (.bool (a != b)))
 | .lss=>some (.d (.bool (decide (a < b))))
 | .leq=>some (.d (.bool (decide (a≤b))))
 | .gtr=>some (.d (.bool (decide (b < a))))
 | .geq=>some (.d (.bool (decide (b≤a))))
 |_=>none
def gV (op:BinOp) (x y:List UInt8):Option AV:=
 match op with
 | .add=>if x.length+y.length≤maxLen then some (.d (.str (x++y))) else none
 | .eql=>some (.d (.bool (x==y)))
 | .neq=>some (.d (.bool (!(x==y))))
 | .lss=>some (.d (.bool (Op.bytesLess x y)))
 | .leq=>some (.d (.bool (Op.bytesLess x y||x==y)))
 | .gtr=>some (.d (.bool (!(Op.bytesLess x y||x==y))))
 | .geq=>some (.d (.bool (!Op.bytesLess x y)))
 |_=>none
def qN:BinOp→AV→AV→Option AV
 |op,.d (.int k a),.d (.int k' b)=>if k=k' then rG op k a b else none
 |op,.d (.str a),.d (.str b)=>gV op a b
 |_,_,_=>none
def dR:BinOp→AV→AV→Option AV
 | .eql,.d (.bool a),.d (.bool b)=>some (.d (.bool (a==b)))
 | .neq,.d (.bool a),.d (.bool b)=>some (.d (.bool (!(a==b))))
 |_,_,_=>none
def unA:UnOp→AV→Option AV
 | .not,.d (.bool b)=>some (.d (.bool (!b)))
 | .neg,.d (.int k n)=>some (.d (.int k (k.wrap (0 - n))))
 |_,_=>none
def dW:IntKind→AV→Option AV
 |k,.d (.int _ n)=>some (.d (.int k (k.wrap n)))
 |_,_=>none
def pD (v:AV):Option AV:=if v.BL then some v else none
theorem Zv {v u:AV} (h:pD v=some u):u=v∧v.BL=true:=by
 unfold pD at h
 split at h
 · cases h;exact ⟨rfl,by assumption⟩
 · cases h
def q6:AV→Nat→Option AV
 | .tup vs,i=>(vs[i]?).bind pD
 |_,_=>none
def vR:AV→Option AV
 | .gp i o=>some (.gp i o)
 | .lp k o=>some (.lp k o)
 | .ep r o=>some (.ep r o)
 | .d (.ptr r)=>some (.d (.ptr r))
 |_=>none
def Vz:AV→Option Nat
 | .d (.int _ n)=>if 0≤n then some n.toNat else none
 |_=>none
def YN (n:Nat) (lo hi:Option AV):Option (Nat×Nat):=
 (match lo with|none=>some 0|some x=>Vz x).bind fun l=>(match hi with|none=>some n|some x=>Vz x).bind fun h=>if l≤h∧h≤n then some (l,h) else none
def TS (x:AV) (lo hi:Option AV):Option AV:=
 match x with
 | .d (.str s)=>(YN s.length lo hi).map fun b=>.d (.str ((s.take b.2).drop b.1))
 |_=>none
def nR (rows:List (List DV)) (size:Nat):Bool:=rows.all fun r=>r.length==size
def gS (rows:List (List DV)) (lo hi mx:Option AV) (size:Nat):Option AV:=
 if lo.isNone||nR rows size then
  (YN rows.length lo hi).bind fun b=>
    match hi,mx with
    |_,none=>some (.d (.sl ((rows.take b.2).drop b.1)))
    |some _,some m=>if Vz m=some b.2 then some (.clip ((rows.take b.2).drop b.1)) else none
    |_,_=>none
           else none
def sV (x:AV) (lo hi mx:Option AV) (size:Nat):Option AV:=
 match x,lo,hi,mx with
 | .AO,none,some h,none=>if Vz h=some 0 then some .AO else none
 | .ms i n s e,some l,none,none=>(Vz l).bind fun l=>if l≤n∧s=size then some (.mv i l (n - l) s e) else none
 | .ms i n s e,none,some h,none=>(Vz h).bind fun h=>if h≤n then some (.ms i h s e) else none
 |x,lo,hi,mx=>(x.rows).bind fun rows=>gS rows lo hi mx size
def eN (ne:Bool):AV→Option AV
 | .FN=>some (.d (.bool (!ne)))
 | .d .FN=>some (.d (.bool (!ne)))
 | .d (.ptr _)=>some (.d (.bool ne))
 | .gp _ _=>some (.d (.bool ne))
 | .ep _ _=>some (.d (.bool ne))
 | .lp _ _=>some (.d (.bool ne))
 |_=>none
def MJ:List AV→List AV→Option Bool
 |[],[]=>some true
 | .d (.int k a)::l,.d (.int k' b)::m=>if k=k' then (MJ l m).map fun r=>a==b&&r else none
 |_,_=>none
def fB (ne:Bool) (n:Nat):AV→AV→Option AV
 | .agg l,.agg m=>if l.length=n then (MJ l m).map (fun r=>.d (.bool (if ne then !r else r))) else none
 |_,_=>none
def fdA:AV→Nat→Option Nat→Option AV
 | .agg cs,off,n=>rdC cs off n
 |_,_,_=>none
def mmA (isMax:Bool):AV→AV→Option AV
 | .d (.int k a),.d (.int k' b)=>if k=k' then some (.d (.int k (if isMax then (if b>a then b else a) else (if b < a then b else a)))) else none
 |_,_=>none
def Ip (z:List AV) (F:Fm):List (Nat×Nat×X)→Option (List AV)
 |[]=>some z
 |(off,size,x)::rest=>
  let cs:=(xv F x).cells
  if Ag cs&&cs.length==size&&decide (off+size≤z.length) then Ip (z.take off++cs++z.drop (off+size)) F rest else none
def dvs:List AV→Option (List DV)
 |[]=>some []
 |c::cs=>do some ((← c.dv)::(← dvs cs))
def chunk (size:Nat):Nat→List DV→List (List DV)
 |0,_=>[]
 |n+1,l=>l.take size::chunk size n (l.drop size)
def xvs (F:Fm) (l:List X):List AV:=l.map (xv F)
def jM:AV→AV→AV→Option AV
 | .d (.bool c),a,b=>some (if c then a else b)
 |_,_,_=>none
def BI (s:List UInt8):List (List DV):=s.map fun b=>[.int .u8 b.toNat]
def byteOf:List DV→Option UInt8
 |[.int .u8 n]=>if 0≤n∧n < 256 then some (UInt8.ofNat n.toNat) else none
 |_=>none
def bytesOf:List (List DV)→Option (List UInt8)
 |[]=>some []
 |r::l=>(byteOf r).bind fun b=>(bytesOf l).map (b::·)
def EK.pure:EK→Bool
 | .cap| .b2s| .usd=>true
 |_=>false
def U7:EK→List AV→Option AV
 | .cap,[.AO]=>some (.d (.int .i64 0))
 | .b2s,[v]=>(v.rows.bind bytesOf).map fun s=>.d (.str s)
 | .usd,[.own t e 1 (r::rows)]=>(bytesOf (r::rows)).map fun s=>.bp t e s
 |_,_=>none
def exP (k:EK) (args:List AV):Option AV:=if args.all AV.BL then U7 k args else none
def mN:AV→Option Bool
 | .AO=>some true
 | .d (.sl (_::_))| .own _ _ _ (_::_)| .clip (_::_)=>some false
 | .ms _ _ _ _| .mv _ _ _ _ _=>some false
 |_=>none
def pv (F:Fm) (L:Lm) (σ:AK):O→Option AV
 | .mv x=>some (xv F x)
 | .pick c a b=>jM (xv F c) (xv F a) (xv F b)
 | .fld x off=>lR (xv F x) off
 | .ld x n=>ldA L σ (xv F x) n
 | .ix x i size=>ixA (xv F x) (xv F i) size
 | .Oj x i=>bE (xv F x) (xv F i)
 | .len x=>Tz (xv F x)
 | .Lp x=>eY (xv F x)
 | .bin op x y=>qN op (xv F x) (xv F y)
 | .tS op x y=>dR op (xv F x) (xv F y)
 | .un op x=>unA op (xv F x)
 | .conv k x=>dW k (xv F x)
 | .bld z ps=>(Ip z F ps).map .agg
 | .bsl size len z ps=>((Ip z F ps).bind dvs).map fun l=>.d (.sl (chunk size len l))
 | .mkf f first caps=>if (xvs F first++xvs F caps).all AV.BL then some (.fn f (xvs F first) (xvs F caps)) else none
 | .ext x i=>q6 (xv F x) i
 | .nck x=>vR (xv F x)
 | .mm b x y=>mmA b (xv F x) (xv F y)
 | .ldl x n=>gC L (xv F x) n
 | .fd x off n=>fdA (xv F x) off n
 | .ssl x lo hi=>TS (xv F x) (lo.map (xv F)) (hi.map (xv F))
 | .sls x lo hi mx size=>sV (xv F x) (lo.map (xv F)) (hi.map (xv F)) (mx.map (xv F)) size
 | .nA ne x=>eN ne (xv F x)
 | .nV ne n x y=>fB ne n (xv F x) (xv F y)
 | .mm3 b x y z=>(mmA b (xv F x) (xv F y)).bind fun v=>mmA b v (xv F z)
 | .tT x=>(dvs (xv F x).cells).map fun ds=>.d (.ptr ds)
 | .ex k xs=>exP k (xvs F xs)
 |_=>none
def cv:Value→Option AV
 | .bool b=>some (.d (.bool b))
 | .int k n=>if k.min≤n∧n≤k.max then some (.d (.int k n)) else none
 | .string s=>if s.data.toList.length≤maxLen then some (.d (.str s.data.toList)) else none
 | .slice none 0 0=>some .AO
 | .pointer none=>some .FN
 | .nilFunc=>some .PY
 |_=>none
def xo:Operand→Option X
 | .tmp n=>some (.t n)
 | .const v=>some (.c ((cv v).getD .undef))
 | .func f=>some (.c (.fn f [] []))
 | .global _=>none
def xos:List Operand→Option (List X)
 |[]=>some []
 |x::l=>do some ((← xo x)::(← xos l))
def cvs:List Value→Option (List AV)
 |[]=>some []
 |v::l=>do some ((← cv v)::(← cvs l))
def M7 (P:Program) (t:TypeId):Option (List AV):=do
 let i ← P.info? t
 let z ← i.zero
 cvs z.cells.toList
def szT (P:Program) (t:TypeId):Option Nat:=(P.info? t).map (·.size)
def ldN (P:Program) (t:TypeId):Option (Option Nat):=
 match P.underlying t with
 |some (.struct _)|some (.array _ _)=>(szT P t).map some
 |some _=>some none
 |none=>none
def q8 (P:Program) (s:TypeId) (f:Nat):Option Nat:=
 match P.underlying s with
 |some (.struct fs)=>(fs[f]?).bind fun fd=>(szT P fd.type).bind fun n=>if n=0 then none else some fd.offset
 |_=>none
def NO (P:Program) (t:TypeId):Option TypeId:=
 match P.underlying t with
 |some (.slice e)=>some e
 |_=>none
def places (P:Program) (t:TypeId):Option (Nat→Option (Nat×Nat)):=
 match P.underlying t with
 |some (.struct fs)=>(fs.toList.mapM fun f=>(P.info? f.type).map fun i=>(f.offset,i.size)).map fun ps i=>ps.toArray[i]?
 |some (.array _ e)=>(P.info? e).map fun ie i=>some (i * ie.size,ie.size)
 |_=>none
def Q4 (pl:Nat→Option (Nat×Nat)):List (Nat×Operand)→Option (List (Nat×Nat×X))
 |[]=>some []
 |(i,x)::l=>do
  let (off,n) ← pl i
  let x ← xo x
  some ((off,n,x)::(← Q4 pl l))
def xoo:Option Operand→Option (Option X)
 |none=>some none
 |some y=>(xo y).map some
def mF (P:Program) (t:TypeId):Bool:=match P.underlying t with|some (.int _)=>true|_=>false
def wI (op:BinOp) (x y:Operand):Option O:=
 match op,y with
 | .eql,.const (.pointer none)=>(xo x).map (.nA false ·)
 | .neq,.const (.pointer none)=>(xo x).map (.nA true ·)
 |_,_=>none
theorem aC {op:BinOp} {x y:Operand} {c:O} (h:wI op x y=some c):y= .const (.pointer none)∧∃ne x',op=(if ne then .neq else .eql)∧xo x=some x'∧c= .nA ne x':=by
 unfold wI at h
 split at h
 · simp only [AM] at h
   obtain ⟨x',hx,rfl⟩:=h
   exact ⟨rfl,false,x',rfl,hx,rfl⟩
 · simp only [AM] at h
   obtain ⟨x',hx,rfl⟩:=h
   exact ⟨rfl,true,x',rfl,hx,rfl⟩
 · cases h
def ACW (P:Program) (s:TypeId) (f:Nat):Option (Option Nat):=
 match P.underlying s with
 |some (.struct fs)=>(fs[f]?).bind fun fd=>ldN P fd.type
 |_=>none
def kI (op:BinOp) (n:Nat) (x y:Operand):Option O:=
 match op with
 | .eql=>(xo x).bind fun a=>(xo y).map (.nV false n a ·)
 | .neq=>(xo x).bind fun a=>(xo y).map (.nV true n a ·)
 |_=>none
theorem bM {op:BinOp} {n:Nat} {x y:Operand} {c:O} (h:kI op n x y=some c):∃ne x' y',op=(if ne then .neq else .eql)∧xo x=some x'∧xo y=some y'∧c= .nV ne n x' y':=by
 unfold kI at h
 split at h
 · simp only [AF,AM] at h
   obtain ⟨x',hx,y',hy,rfl⟩:=h
   exact ⟨false,x',y',rfl,hx,hy,rfl⟩
 · simp only [AF,AM] at h
   obtain ⟨x',hx,y',hy,rfl⟩:=h
   exact ⟨true,x',y',rfl,hx,hy,rfl⟩
 · cases h
def ADV (P:Program) (e:TypeId) (x:Operand) (lo hi mx:Option Operand):Option O:=
 match lo,hi,mx with
 |none,some h,none=>(xo x).bind fun a=>(xo h).bind fun b=>(szT P e).map fun _=>.trn a b
 |_,_,_=>none
theorem fH {P:Program} {e:TypeId} {x:Operand} {lo hi mx:Option Operand} {c:O} (h:ADV P e x lo hi mx=some c):
 lo=none∧∃z,hi=some z∧mx=none∧∃a b sz,xo x=some a∧xo z=some b∧szT P e=some sz∧c= .trn a b:=by
 unfold ADV at h
 split at h
 · simp only [AF,AM] at h
   obtain ⟨a,ha,b,hb,sz,hsz,rfl⟩:=h
   exact ⟨rfl,_,rfl,rfl,a,b,sz,ha,hb,hsz,rfl⟩
 · cases h
def PS (P:Program) (t:TypeId):Bool:=
 match P.underlying t with
 |some (.struct fs)=>(fs.toList.zipIdx.all fun (f,i)=>f.offset==i&&f.name != "_"&&mF P f.type)&&szT P t==some fs.size&& !P.stoodInHeld t&& !P.eqGuardType P.depth t
 |_=>false
def uD (P:Program) (sh:Bool):Builtin→List Operand→List TypeId→Option O
 | .len,[x],[t]=>match P.underlying t with
  |some .string=>(xo x).map .Lp
  |some (.slice _)=>(xo x).map .len
  |_=>none
 | .max,[x,y],_=>do some (.mm true (← xo x) (← xo y))
 | .max,[x,y,z],_=>do some (.mm3 true (← xo x) (← xo y) (← xo z))
 | .min,[x,y],_=>do some (.mm false (← xo x) (← xo y))
 | .append,[s,x],[t,u]=>do
  let e ← NO P t
  let i ← P.info? e
  let z ← i.zero
  if t=u∧z.cells.size=i.size∧0 < i.size then (do
   let a ← xo s
   let b ← xo x
   some (if sh then .cF e i.size i.bytes a b else .app e i.size i.bytes a b)) else none
 |_,_,_=>none
def Ve (P:Program) (sh:Bool) (c:Call):Option O:=
 match c.callee with
 | .builtin b=>uD P sh b c.args.toList c.argTypes.toList
 | .value (.func f)=>
  if ((P.funcs[f]?).bind (·.body)).isSome&&((P.funcs[f]?).map (·.name)) != some "runtime.NumGoroutine" then (xos c.args.toList).map (.call f ·) else none
 | .value (.tmp n)=>(xos c.args.toList).map (.E2 (.t n) ·)
 |_=>none
def dV (P:Program) (sh im lc:Bool):Op→Option O
 | .move x| .assign x=>(xo x).map .mv
 | .pick c a b=>do some (.pick (← xo c) (← xo a) (← xo b))
 | .alloc t=>(M7 P t).map (.al · sh)
 | .box _ x=>(xo x).map fun x=>if im then .tT x else .box x sh
 | .field s x f=>do some (.fd (← xo x) (← q8 P s f) (← ACW P s f))
 | .slice t x lo hi mx=>match P.underlying t with
  |some .string=>match mx with
   |none=>do some (.ssl (← xo x) (← xoo lo) (← xoo hi))
   |some _=>none
  |some (.slice e)=>if sh then ADV P e x lo hi mx else do some (.sls (← xo x) (← xoo lo) (← xoo hi) (← xoo mx) (← szT P e))
  |_=>none
 | .fieldAddr s x f=>do some (.fld (← xo x) (← q8 P s f))
 | .load t x=>do
  let a ← xo x
  let n ← ldN P t
  some (if lc then .ldl a n else .ld a n)
 | .store t x v=>do some (.st (← xo x) (← xo v) (← szT P t))
 | .indexAddr t x i=>do some (.ix (← xo x) (← xo i) (← szT P (← NO P t)))
 | .index t x i=>match P.underlying t with
  |some .string=>do some (.Oj (← xo x) (← xo i))
  |_=>none
 | .binOp op t x y _=>match P.underlying t with
  |some .bool=>do some (.tS op (← xo x) (← xo y))
  |some (.int _)|some .string=>do some (.bin op (← xo x) (← xo y))
  |some (.pointer _)=>wI op x y
  |some (.struct fs)=>if PS P t then kI op fs.size x y else none
  |_=>none
 | .unOp op _ x=>do some (.un op (← xo x))
 | .convert s t x=>match P.underlying s,P.underlying t with
  |some (.int _),some (.int k)=>do some (.conv k (← xo x))
  |_,_=>none
 | .build t ps=>do
  let z ← M7 P t
  let pl ← places P t
  some (.bld z (← Q4 pl ps.toList))
 | .buildSlice t len ps=>do
  let e ← NO P t
  let z ← M7 P e
  let n ← szT P e
  if z.length=n∧0 < n∧len * n≤4096∧len≤4096 then
   (do
     let cp ← Q4 (fun i=>some (i * n,n)) ps.toList
     some (if sh then .Jr e n len (Ai len z).flatten cp else .bsl n len (Ai len z).flatten cp))
                                                                          else none
 | .makeFunc (.func f) first caps=>do some (.mkf f (← xos first.toList) (← xos caps.toList))
 | .extract x i=>(xo x).map (.ext · i)
 | .nilCheck x=>(xo x).map .nck
 | .makeSlice t l c=>do
  let e ← NO P t
  let i ← P.info? e
  let z ← M7 P e
  if z.length=i.size∧0 < i.size then some (.msl e i.size i.bytes z (← xo l) (← xo c)) else none
 | .call c=>Ve P sh c
 |_=>none
def uT (P:Program) (e:TypeId):Bool:=match P.underlying e with|some (.int .u8)=>true|_=>false
def uF (P:Program) (im:Bool):Builtin→List Operand→List TypeId→Option O
 | .cap,[x],[t]=>match P.underlying t with
  |some (.slice _)=>(xo x).map fun a=>.ex .cap [a]
  |_=>none
 | .clear,[x],[t]=>(NO P t).bind fun e=>(P.info? e).bind fun i=>(M7 P e).bind fun z=>if z.length=i.size∧0 < i.size then (xo x).map fun a=>.ex (.clr z) [a] else none
 | .copy,[x,y],[t,u]=>(NO P t).bind fun e=>(P.info? e).bind fun i=>if t=u∧0 < i.size then (xo x).bind fun a=>(xo y).map fun b=>.ex (.cpy i.size) [a,b] else none
 | .append,[s,x],[t,u]=>(NO P t).bind fun e=>(P.info? e).bind fun i=>if im then (if t=u∧0 < i.size∧i.bytes≤10000∧i.zero.map (·.cells.size)=some i.size then (xo s).bind fun a=>(xo x).map fun b=>.ex (.tQ e i.size) [a,b] else none) else i.zero.bind fun z=>match P.underlying u with
  |some .string=>match z with
   | .int .u8 0=>if i.size=1∧i.bytes=1∧uT P e then (xo s).bind fun a=>(xo x).map fun b=>.ex (.apps e) [a,b] else none
   |_=>none
  |some (.int _)=>(M7 P e).bind fun zc=>if zc.length=i.size∧z.cells.size=i.size∧0 < i.size then (xo s).bind fun a=>(xo x).map fun b=>.ex (.qI e i.size i.bytes zc) [a,b] else none
  |_=>none
 | .unsafeSliceData,[x],[t]=>match P.underlying t with
  |some (.slice _)=>(xo x).map fun a=>.ex .usd [a]
  |_=>none
 | .unsafeString,[x,y],[pt,_]=>match P.underlying pt with
  |some (.pointer e)=>if uT P e∧P.cellsOf e=1 then (xo x).bind fun a=>(xo y).map fun b=>.ex (.kM e) [a,b] else none
  |_=>none
 |_,_,_=>none
def uE (P:Program) (sh im:Bool):Op→Option O
 | .alloc t=>if sh then (M7 P t).map fun z=>.ex (.alt t z) [] else none
 | .box t x=>if sh=true∧im=true then (szT P t).bind fun n=>(xo x).map fun a=>.ex (.iD t n) [a] else none
 | .binOp op t x y _=>match P.underlying t,y with
  |some (.slice _),.const (.slice none 0 0)=>match op with
   | .eql=>(xo x).map fun a=>.ex (.kG false) [a]
   | .neq=>(xo x).map fun a=>.ex (.kG true) [a]
   |_=>none
  |_,_=>none
 | .convert s t x=>match P.underlying s,P.underlying t with
  |some (.slice e),some .string=>if uT P e then (xo x).map fun a=>.ex .b2s [a] else none
  |_,_=>none
 | .call c=>match c.callee with
  | .builtin b=>uF P im b c.args.toList c.argTypes.toList
  |_=>none
 |_=>none
end Go.Ab
