/- Part Ab9c. Conditions: none. -/
import Derived.Laws.Externs
import Derived.Lib.AppendStr
import Derived.Lib.AppendZeros
import Derived.Lib.UnsafeStr
import Derived.Laws.IdiomStrings
import Derived.Lib.LazyBuf
import Derived.Laws.CopyRow
import Derived.MapKept
import Derived.Scope
import Derived.Test.YtfppaadffckcoaaGreatXAb1
set_option linter.unusedSimpArgs false
set_option linter.unusedVariables false
set_option maxRecDepth 100000
set_option maxHeartbeats 40000000
open Option.some renaming injEq→AL
open Nat renaming zero_le→GW,le_refl→AW,min_eq_left→Dd,add_mul→CK,mul_le_mul_right→Bw,eq_zero_or_pos→LM,add_zero→CC,zero_mul→OR,zero_add→BJ,lt_or_ge→C7,lt_of_lt_of_le→CV,le_trans→Ap
open Bool renaming false_eq_true→A3,and_self→Wa,and_eq_true→AO,and_true→B7,or_eq_true→DI,not_eq_true'→Br,not_eq_true→Vo
open List renaming all_eq_true→A8,mem_of_mem_drop→I8,mem_of_mem_take→D5,getElem?_take→B2,getElem?_drop→BT,length_append→AX,drop_zero→TC,take_of_length_le→AM,length_take→B4,mem_append→A0,append_nil→BW,length_nil→CG,take_append_drop→Ad,take_zero→Cn,length_drop→Cm,take→Ek,length_pos_iff→Ji,getElem?_eq_some_iff→AG,flatten_append→PB,getElem?_append_left→BQ,getElem?_append_right→BL,map_cons→AD,replicate→AF,nil_append→As,getElem_of_mem→Bt,getElem?_eq_getElem→BB,all_cons→Bk,all_nil→GM,map_congr_left→DL,flatMap_cons→EE,range→BA,mem_filter→Yq,getElem?_map→Aj,foldl_cons→Ao,getElem?_cons_succ→mM,mem_range→CJ,contains_iff_mem→Ak,mem_zipIdx_iff_getElem?→Yr,mem_singleton→A6,mem_cons→Ar,getD_eq_getElem?_getD→Ac
open Option renaming bind_eq_some_iff→AB,bind_some→El,map_eq_some_iff→AN,bind_eq_bind→AQ,map_some→Ah,getD_some→BC
open Ne renaming symm→A9
open Array renaming length_toList→Oy,range→Wc,getD_eq_getD_getElem?→DR,getElem?_eq_getElem→O9,replicate→F9
open Prod.mk renaming injEq→Bb
open Go renaming undef→Cu
namespace Go.Ab
open Go.RowKit
section
variable {P:Program} (w:World)
end
variable {P:Program} {base N:Nat} {g g':Gh} {Pr:Nat->Prop} {σ σ':AI} {w0 w w':World} {lam:Nat->Option Nat} {F:Fm} {L:Lm} {a:Act}
def ExR (σ:AI) (R:AV->AI->Prop):EK->List AV->Prop
 | .tC ne,[v]=>match xJ v with
  |some b=>R (.d (.bool (b != ne))) σ
  |none=>v.rows=some []/\∀b,R (.d (.bool b)) σ
 | .alt t z,[]=>Aw z=true/\∀i,(σ.blk i=none/\σ.bt i=none)->R (.gp i 0) ((σ.AP i z).CH i (z.length,t))
 | .y6 e s,[.ms i n s1 e1,.mv i2 o2 n2 s2 e2]=>(i2=i/\s1=s/\s2=s/\e1=e)/\∃cs,σ.blk i=some cs/\(n+n2) * s<=cs.length/\(o2+n2) * s<=cs.length/\R (.ms i (n+n2) s e) (σ.AP i (cs.take (n * s)++(cs.drop (o2 * s)).take (n2 * s)))
 | .y6 e s,[p,.ms i2 n2 s2 e2]=>s2=s/\∃cs2 n cs σ1,σ.blk i2=some cs2/\cs2.length=n2 * s/\n2≠0/\n+n2<=1000000000/\Oc σ e s p=some (n,cs,σ1)/\∀j,σ.blk j=none->R (.ms j (n+n2) s e) (σ1.AP j (cs++cs2))
 | .mmk,[]=>∀t,σ.tok t=false->R (.om t []) (σ.Cw t)
 | .AEV,[.om t es]=>(σ.tok t=true/\es.length<=1000000000)/\R (.d (.int .i64 es.length)) σ
 | .AJM,[.om t es,.d (.int .i64 n)]=>σ.tok t=true/\∃x,(0<=x/\x<=1000000000)/\es.lookup n=some x/\R (.tup [.d (.int .i64 x),.d (.bool true)]) σ\/es.lookup n=none/\R (.tup [.d (.int .i64 0),.d (.bool false)]) σ
 |_,_=>False
theorem ExR.mono {R R':AV->AI->Prop}:∀ {k:EK} {args:List AV},ExR σ R k args->(∀v σ',(∀q,v.BV q=false)->R v σ'->R' v σ')->ExR σ R' k args:=by
 intro k args h hR;unfold ExR at h ⊢;split at h
 . split at h
   . exact hR _ _ (fun _=>rfl) h
   . exact ⟨h.1,fun b=>hR _ _ (fun _=>rfl) (h.2 b)⟩
 . exact ⟨h.1,fun i hi=>hR _ _ (fun _=>rfl) (h.2 i hi)⟩
 . obtain ⟨h1,cs,h2,h3,h4,h5⟩:=h;exact ⟨h1,cs,h2,h3,h4,hR _ _ (fun _=>rfl) h5⟩
 . obtain ⟨h1,cs2,n,cs,σ1,h2,h3,h4,h5,h6,h7⟩:=h;exact ⟨h1,cs2,n,cs,σ1,h2,h3,h4,h5,h6,fun j hj=>hR _ _ (fun _=>rfl) (h7 j hj)⟩
 . exact fun t ht=>hR _ _ (fun _=>rfl) (h t ht)
 . exact ⟨h.1,hR _ _ (fun _=>rfl) h.2⟩
 . obtain ⟨h1,x,h2⟩:=h;exact ⟨h1,x,h2.imp (fun h=>⟨h.1,h.2.1,hR _ _ (fun _=>rfl) h.2.2⟩) (fun h=>⟨h.1,hR _ _ (fun _=>rfl) h.2⟩)⟩
 . exact h.elim
def PA (P:Program) (m:Sem Value) (base:Nat) (g:Gh) (lam:Nat->Option Nat) (Pr:Nat->Prop) (N:Nat) (F:Fm) (L:Lm) (a:Act) (w0 w:World) (R:AV->AI->Prop):Prop:=
 ∃x g' w' v σ',m.run P w= .ok x w'/\g.le g'/\KP Pr w w'/\VR g' v x/\Bv base g' lam Pr N F L σ' a w0 w'/\R v σ'
theorem qQ {x:AV} {v:Value} (hx:VR g x v) {rows:List (List DV)} (hr:x.rows=some rows):∃ad cap,v= .slice ad rows.length cap:=by
 have h:RD g.im (.sl rows) v:=by
  cases x with
  |d y=>cases y<;>simp only [AV.rows,AL] at hr<;>try (cases hr;done)
        subst hr;cases hx with|d h=>exact h
  |Ae=>simp only [AV.rows,AL] at hr;subst hr;cases hx;exact .nil (GW _) (fun _=>rfl)
  |own _ _ _ _=>simp only [AV.rows,AL] at hr;subst hr;cases hx with|own h _ _=>exact h
  |clip _=>simp only [AV.rows,AL] at hr;subst hr;cases hx with|clip h=>exact h
  |_=>cases hr
 obtain ⟨ad,cap,h,_⟩:=h.Q8;exact ⟨ad,cap,h⟩
theorem AE0 {x:AV} {v:Value} (hx:VR g x v) {b:Bool} (hb:xJ x=some b):∃ad n cap,v= .slice ad n cap/\ad.isNone=b:=by
 cases x<;>simp only [xJ] at hb<;>try (cases hb;done)
 . rename_i y;cases y<;>try (cases hb;done)
   rename_i rows;cases rows with
   |nil=>cases hb
   |cons r rows=>
    cases hb;cases hx with
    |d h=>cases h with|sl=>exact ⟨_,_,_,rfl,rfl⟩
 . cases hb;cases hx;exact ⟨_,_,_,rfl,rfl⟩
 . rename_i rows;cases rows with
   |nil=>cases hb
   |cons r rows=>
    cases hb;cases hx with
    |own h=>cases h with|sl=>exact ⟨_,_,_,rfl,rfl⟩
 . rename_i rows;cases rows with
   |nil=>cases hb
   |cons r rows=>
    cases hb;cases hx with
    |clip h=>
     generalize hv:Value.slice _ _ _=vv at h ⊢;cases h with|sl=>exact ⟨_,_,_,rfl,rfl⟩
 . cases hb;cases hx;exact ⟨_,_,_,rfl,rfl⟩
 . cases hb;cases hx;exact ⟨_,_,_,rfl,rfl⟩
theorem qS {t e:TypeId} (ht:P.underlying t=some (.slice e)) (h:Bv base g lam Pr N F L σ a w0 w) {ne:Bool} {x:AV} {v:Value} (hx:VR g x v) {R:AV->AI->Prop} (hr:ExR σ R (.tC ne) [x]) (y z:Operand):
 PA P (do eqGuard (if ne then .neq else .eql) t y z v (.slice none 0 0);binOp (if ne then .neq else .eql) t v (.slice none 0 0)) base g lam Pr N F L a w0 w R:=by
 have hrun:∀ad n cap,v= .slice ad n cap->((do eqGuard (if ne then .neq else .eql) t y z v (.slice none 0 0);binOp (if ne then .neq else .eql) t v (.slice none 0 0):Sem Value)).run P w= .ok (.bool (ad.isNone != ne)) w:=by
  rintro ad n cap rfl
  have heq:∀d,(Op.equalIn (d+1) t (.slice ad n cap) (.slice none 0 0)).run P w= .ok ad.isNone w:=fun d=>by
   cases ad<;>simp [Op.equalIn,run_underlying ht]
  have heq2:(Op.equal t (.slice ad n cap) (.slice none 0 0)).run P w= .ok ad.isNone w:=heq 9999;have hg:(eqGuard (if ne then .neq else .eql) t y z (.slice ad n cap) (.slice none 0 0)).run P w= .ok () w:=by cases ne<;>simp [eqGuard]
  simp only [Sem.run_bind,hg,Result.andThen_ok];cases ne
  . simp only [binOp,A3,if_false];simp [heq2]
  . simp only [binOp,if_true];simp [heq2]
 simp only [ExR] at hr;cases hn:xJ x with
 |some b=>
  rw [hn] at hr;obtain ⟨ad,n,cap,hv,hb⟩:=AE0 hx hn;exact ⟨_,g,w,_,σ,hrun ad n cap hv,Gh.le_refl g,KP.refl Pr w,.d .bool,h,by rw [hb];exact hr⟩
 |none=>
  rw [hn] at hr;obtain ⟨ad,cap,hv⟩:=qQ hx hr.1;exact ⟨_,g,w,_,σ,hrun ad _ cap hv,Gh.le_refl g,KP.refl Pr w,.d .bool,h,hr.2 _⟩
theorem AHL {t:TypeId} {z:List AV} (hz:Vn P t=some z) (h:Bv base g lam Pr N F L σ a w0 w) {R:AV->AI->Prop} (hr:ExR σ R (.alt t z) []):
 ∃x w',(∀o:Oper,o.op= .alloc t->(execOp a.eval o).run P w= .ok (.value x) w')/\∃g' v σ',g.le g'/\KP Pr w w'/\VR g' v x/\Bv base g' lam Pr N F L σ' a w0 w'/\R v σ':=by
 obtain ⟨hok,hk⟩:=hr;obtain ⟨i,zv,hi,hzv,_,hvr⟩:=LJ hz;refine ⟨.pointer (some ⟨w.heap.size,0,none⟩),w.alloc (.cells zv.cells t),fun o hop=>by unfold execOp;simp [hop,Instr.alloc,zeroValue,typeInfo,hi,hzv,newVar,newRow],?_⟩;have hlen:zv.cells.size=z.length:=by have:=(hvr g).length;simpa using this
 obtain ⟨j,hmu,_,hblk,_⟩:=h.rel.fresh;have hrel:=h.rel.share (rt:=some (z.length,t)) hmu (AW _) (h.rel.alloc (.cells zv.cells t)) (heap_alloc_new w _) (fun _ h=>by cases h;exact ⟨hlen,rfl⟩) (hvr g) hok (fun hp=>by have:=(h.rel.pr _ hp).1;omega);have hle:=Gh.OI (g:=g) (i:=j) (b:=w.heap.size) (rt:=some (z.length,t)) hmu;have hf:=h.step hle (fun k b hb=>heap_alloc_old w _ b (h.NA hb)) (hrel.CH (i:=j) (x:=(z.length,t)) (by simp [Gh.share]))
 exact ⟨_,.gp j 0,_,hle,⟨by simp,fun b hb=>heap_alloc_old w _ b (h.rel.pr b (.inl hb)).1⟩,.gp (by simp [Gh.share]),hf,hk j ⟨hblk,by
  cases hb:σ.bt j with
  |none=>rfl
  |some x=>have:=h.rel.st.2 j x hb;rw [hmu.2] at this;cases this⟩⟩
end Go.Ab
namespace Go.Ab
open Go.RowKit
variable {P:Program} {base N:Nat} {g g':Gh} {Pr:Nat->Prop} {σ σ':AI} {w0 w w':World} {lam:Nat->Option Nat} {F:Fm} {L:Lm} {a:Act}
theorem Bv.row (h:Bv base g lam Pr N F L σ a w0 w) {i b:Nat} {cs cs':List AV} (hi:σ.blk i=some cs) (hm:g.mu i=some b) {cur:Array Value} {ty:TypeId} (hcur:w.heap[b]?=some (.cells cur ty (0,0)))
 {new:Array Value} (hsz:new.size=cur.size) (hl:cs'.length<=new.size) (hv:VRs g cs' (new.toList.take cs'.length)) (hok:Aw cs'=true):
 Bv base g lam Pr N F L (σ.AP i cs') a w0 (w.setRow b new)/\KP Pr w (w.setRow b new):=by
 obtain ⟨b',hb',ho⟩:=h.rel.shr i cs hi;rw [hm] at hb';cases hb';obtain ⟨vs,ty',hv',hl',hrt,hvr⟩:=ho.row;rw [hcur] at hv';cases hv';have hs:(w.setRow b new).heap.size=w.heap.size:=by simp [World.setRow]
 have hne:∀k,k≠b->(w.setRow b new).heap[k]?=w.heap[k]?:=fun k hk=>setRow_other w b k _ hk;have hrel:=h.rel.write (w':=w.setRow b new) hi hm (by omega) (fun k _ hk=>hne k hk) ⟨rfl,rfl,rfl,by omega,fun k hk=>hne k (by have:=ho.low;omega)⟩ (setRow_heap w b cur new ty _ hcur) hl (fun t ht=>by rw [hsz];exact hrt t ht) hv hok;exact ⟨h.step (Gh.le_refl g) (fun k b' hb'=>hne b' (fun e=>ho.pr (.inr ⟨k,e ▸ hb'⟩))) hrel,by omega,fun k hk=>hne k (fun e=>ho.pr (.inl (e ▸ hk)))⟩
theorem Bv.part (h:Bv base g lam Pr N F L σ a w0 w) {i b:Nat} {cs:List AV} (hi:σ.blk i=some cs) (hm:g.mu i=some b):
 ∃cur ty,w.heap[b]?=some (.cells cur ty (0,0))/\cs.length<=cur.size/\VRs g cs (cur.toList.take cs.length)/\Aw cs=true/\(∀t,g.rm i=some t->cur.size=t.1/\ty=t.2)/\
  ∀o m,o+m<=cs.length->VRs g ((cs.drop o).take m) ((cur.toList.drop o).take m)/\((cur.toList.drop o).take m).length=m/\(∀v∈(cur.toList.drop o).take m,v.oneCell'=true)/\∀j v,((cur.toList.drop o).take m)[j]?=some v->w.cell? ((⟨b,o,none⟩:Addr).add j)=some v:=by
 obtain ⟨b',hb',ho⟩:=h.rel.shr i cs hi;rw [hm] at hb';cases hb';obtain ⟨cur,ty,hv,hl,hrt,hvr⟩:=ho.row;refine ⟨cur,ty,hv,hl,hvr,ho.ok,hrt,fun o m hom=>?_⟩
 have e:((cur.toList.take cs.length).drop o).take m=(cur.toList.drop o).take m:=by
  rw [List.drop_take,List.take_take,Dd (by omega)]
 have h1:=(hvr.drop o).take m;rw [e] at h1;have hlen:((cur.toList.drop o).take m).length=m:=by simp;omega
 refine ⟨h1,hlen,h1.AWK ?_,fun j v hj=>?_⟩
 . have:=ho.ok;simp only [Aw,A8] at this ⊢;exact fun x hx=>this x (I8 (D5 hx))
 . rw [B2] at hj;split at hj
   . rw [BT] at hj;rw [Addr.add_lit];simp only [World.cell?,hv];simpa using hj
   . cases hj
theorem AHP {t ty e:TypeId} {i:TypeInfo} (h:Bv base g lam Pr N F L σ a w0 w) {p:AV} {pvl qvl:Value} (hp:SV g lam p pvl) {m n:Nat} {cs newcs:List AV} {σ1:AI} {news:List Value}
 (hpa:Oc σ e i.size p=some (n,cs,σ1)) (hnl:newcs.length=m * i.size) (hvn:VRs g newcs news) (hnok:Aw newcs=true) (hne:0 < m)
 (happ:∀xs,w.ownsRow base e i.size pvl n xs->∃(v':Value) (w':World),(Builtin.append_ #[t,t] ty #[pvl,qvl]).run P w= .ok v' w'/\w'.ownsRow base e i.size v' (n+m) (xs++news)/\w.grownBy w' v'.ownBlock/\(∀k,v'.ownBlock=some k->pvl.ownBlock=some k\/w.heap.size<=k)):
 ∃x g' w' j,(Builtin.append_ #[t,t] ty #[pvl,qvl]).run P w= .ok x w'/\g.le g'/\KP Pr w w'/\σ.blk j=none/\VR g' (.ms j (n+m) i.size e) x/\
  Bv base g' lam Pr N F L (σ1.AP j (cs++newcs)) a w0 w':=by
 obtain ⟨j,hj,htau,hblk,htok⟩:=h.rel.fresh
 have hstart:∃(b0:Nat->Prop) (xs:List Value),w.ownsRow base e i.size pvl n xs/\cs.length=n * i.size/\VRs g cs xs/\Aw cs=true/\(∀b,pvl.ownBlock=some b->b0 b)/\(∀b,b0 b->pvl.ownBlock=some b)/\
  Rel base g (fun x=>(Pr x\/∃k,lam k=some x)\/b0 x) σ1 w0 w/\(∀b,b0 b->(∀o,g.im b o=none)/\¬(Pr b\/∃k,lam k=some b)):=by
  unfold Oc at hpa;split at hpa
  . cases hpa;cases hp;refine ⟨fun _=>False,[],World.ownsRow_nil w base e i.size,by simp,.nil,rfl,fun b hb=>by simp [Value.ownBlock] at hb,fun b hb=>hb.elim,?_,fun b hb=>hb.elim⟩
    exact h.rel.grow (AW _) (fun _ _ _=>rfl) (Below.refl _ _) (fun b hb=>by
     rcases hb with hb|hb
     . exact ⟨(h.rel.pr b hb).1,.inl hb⟩
     . exact hb.elim)
  . rename_i i0 n0 s0 e0;split at hpa
    case isFalse=>cases hpa
    rename_i hcond;obtain ⟨rfl,rfl⟩:=hcond;simp only [AB] at hpa;obtain ⟨cs0,hcs0,hpa⟩:=hpa;split at hpa
    case isFalse=>cases hpa
    rename_i hlen;cases hpa;cases hp with
    |@ms _ _ _ _ b cap hm hr hn hmx=>
     obtain ⟨b',hb',ho⟩:=h.rel.shr i0 cs hcs0;rw [hm] at hb';cases hb';obtain ⟨vs,ty',hv,hl,hrt,hvr⟩:=ho.row;obtain ⟨hsz,hty⟩:=hrt _ hr;simp only at hsz hty;subst hty;refine ⟨fun x=>x=b,vs.toList.take cs.length,⟨by simp;omega,.inr ⟨b,cap,vs,rfl,ho.low,hv,hn,hmx,hsz,by rw [hlen]⟩⟩,hlen,hvr,ho.ok,fun b2 hb2=>by simp [Value.ownBlock] at hb2;exact hb2.symm,fun b2 hb2=>by simp [Value.ownBlock,hb2],h.rel.AT2 hcs0 hm,fun b2 hb2=>?_⟩;subst hb2;exact ⟨ho.im,ho.pr⟩
  . cases hpa
 obtain ⟨b0,xs,hown,hcl,hvr,hcok,hb1,hb2,hrel1,hb3⟩:=hstart;obtain ⟨v',w',hrun,hown',hgr,hwh⟩:=happ xs hown;have hsame:∀b,b < w.heap.size->v'.ownBlock≠some b->w'.heap[b]?=w.heap[b]?:=fun b hb hne=>hgr.block b hb (A9 hne);have hbel:Below base w w':=⟨hgr.os,hgr.tape,hgr.output,hgr.size,fun k hk=>hsame k (by have:=h.rel.bs;omega) fun e'=>by have:=(hown'.lt k e').1;omega⟩
 have hrel2:Rel base g (fun x=>Pr x\/∃k,lam k=some x) σ1 w0 w':=
  hrel1.grow hgr.size (fun b hb hnp=>hsame b hb (fun e'=>by
   rcases hwh b e' with h1|h1
   . exact hnp (.inr (hb1 b h1))
   . omega)) hbel (fun b hb=>⟨by have:=(h.rel.pr b hb).1;have:=hgr.size;omega,.inl (.inl hb)⟩)
 -- the new row
 have hsome:∃gg cap cur,v'= .slice (some ⟨gg,0,none⟩) (n+m) cap/\base<=gg/\w'.heap[gg]?=some (.cells cur e (0,0))/\n+m<=cap/\cap<=maxLen/\cur.size=cap * i.size/\cur.toList.take ((n+m) * i.size)=xs++news:=by
  rcases hown'.2 with ⟨rfl,h0⟩|hh
  . omega
  . exact hh
 obtain ⟨gg,cap,cur,rfl,hbg,hheap,hnc,hcm,hcur,htake⟩:=hsome
 have hwh':b0 gg\/w.heap.size<=gg:=by
  rcases hwh gg rfl with h1|h1
  . exact .inl (hb1 gg h1)
  . exact .inr h1
 have hpr:¬(Pr gg\/∃k,lam k=some gg):=by
  rcases hwh' with h1|h1
  . exact (hb3 gg h1).2
  . intro hp2;have:=(h.rel.pr gg hp2).1;omega
 have him:∀o,g.im gg o=none:=by
  rcases hwh' with h1|h1
  . exact (hb3 gg h1).1
  . intro o;cases hi':g.im gg o with
    |none=>rfl
    |some v=>have:=h.rel.Xf hi';omega
 have hxl:xs.length=n * i.size:=hown.1
 have hcl2:(cs++newcs).length=(n+m) * i.size:=by
  rw [AX,hcl,hnl,CK]
 have hvrs:VRs g (cs++newcs) (xs++news):=hvr.append hvn
 have hcok2:Aw (cs++newcs)=true:=by
  simp only [HJ,hcok,hnok,Wa]
 have hle:=Gh.OI (g:=g) (i:=j) (b:=gg) (rt:=some (cap * i.size,e)) hj
 have hrel3:=hrel2.yC (i:=j) (b:=gg) (rt:=some (cap * i.size,e)) hj hbg (fun q hq' hm=>?_) him (fun t2 v2 e2 s2 ht2 hm2 hvb=>?_) (cs:=cs++newcs) hheap (by rw [hcl2,hcur];exact Bw _ hnc)
  (fun t ht=>by cases ht;exact ⟨hcur,rfl⟩) (by rw [hcl2,htake];exact hvrs) hcok2 hpr
 . refine ⟨_,g.share j gg (some (cap * i.size,e)),w',j,hrun,hle,⟨hgr.size,fun b hb=>hsame b (h.rel.pr b (.inl hb)).1 (fun e'=>by simp only [Value.ownBlock,AL] at e';exact hpr (e' ▸ .inl hb))⟩,hblk,
    .ms (by simp [Gh.share]) (by simp [Gh.share]) hnc hcm,?_⟩
   exact h.step hle (fun k b hb=>hsame b (h.NA hb) (fun e'=>by simp only [Value.ownBlock,AL] at e';exact hpr (.inr ⟨k,e' ▸ hb⟩))) hrel3
 . rcases hwh' with h1|h1
   . cases hc:σ1.blk q with
     |none=>exact hq' hc
     |some c=>
      obtain ⟨b2,hb2',ho2⟩:=hrel1.shr q c hc;rw [hm] at hb2';cases hb2';exact ho2.pr (.inr h1)
   . cases hc:σ1.blk q with
     |none=>exact hq' hc
     |some c=>have:=hrel1.Sy hc hm;omega
 . obtain ⟨v3,e3,s3,n3,xs3,hm3,hown3,hrest3⟩:=(hrel1.tok t2 ht2).row;rw [hm2] at hm3;cases hm3;rcases hwh' with h1|h1
   . exact (hrest3 gg hvb).2.1 (.inr h1)
   . have:=(hown3.lt gg hvb).2;omega
theorem ACZ {t ty e:TypeId} {i:TypeInfo} {z:Value} (ht:P.underlying t=some (.slice e)) (hi:P.info? e=some i) (hz:i.zero=some z) (hzs:z.cells.size=i.size) (hby:i.bytes<=10000) (hpos:0 < i.size)
 (h:Bv base g lam Pr N F L σ a w0 w) {p:AV} {pvl qvl:Value} {i2 n2 s2 e2:Nat} (hp:VR g p pvl) (hq:VR g (.ms i2 n2 s2 e2) qvl) {R:AV->AI->Prop}
 (hr:s2=i.size/\∃cs2 n cs σ1,σ.blk i2=some cs2/\cs2.length=n2 * i.size/\n2≠0/\n+n2<=1000000000/\Oc σ e i.size p=some (n,cs,σ1)/\∀j,σ.blk j=none->R (.ms j (n+n2) i.size e) (σ1.AP j (cs++cs2))):
 PA P (Builtin.append_ #[t,t] ty #[pvl,qvl]) base g lam Pr N F L a w0 w R:=by
 obtain ⟨rfl,cs2,n,cs,σ1,hb2,hl2,hn2,hbd,hpa,hk⟩:=hr;cases hq with
 |@ms _ _ _ _ b cap hm hrm hn hmx=>
 obtain ⟨cur,ty',hcur,hle,hvr,hok,hrt,hpart⟩:=h.part hb2 hm;obtain ⟨hv2,hvl,hone,hcell⟩:=hpart 0 (n2 * i.size) (by omega);rw [TC,AM (by omega)] at hv2
 have hcore:=AHP (P:=P) (t:=t) (ty:=ty) (qvl:= .slice (some ⟨b,0,none⟩) n2 cap) h (SV.Fk hp) hpa hl2 hv2 hok (by omega) (fun xs hown=>by
  refine FJ (P:=P) w base t ty e i z i.size i.bytes ht hi hz rfl rfl hzs pvl n xs hown ⟨b,0,none⟩ n2 cap _ hvl hcell hone (by simp only [maxLen];omega) ?_ h.rel.bs
  calc (n+n2) * i.bytes<=1000000000 * 10000:=Nat.mul_le_mul hbd hby
   _<=140737488355328:=by decide)
 obtain ⟨x,g',w',j,h1,h2,h3,h4,h5,h6⟩:=hcore;exact ⟨x,g',w',_,_,h1,h2,h3,h5,h6,hk j h4⟩
theorem ACY {t ty e:TypeId} {i:TypeInfo} (ht:P.underlying t=some (.slice e)) (hi:P.info? e=some i)
 (h:Bv base g lam Pr N F L σ a w0 w) {p q:AV} {pvl qvl:Value} (hp:VR g p pvl) (hq:VR g q qvl) {R:AV->AI->Prop} (hr:ExR σ R (.y6 e i.size) [p,q]) (hpos:0 < i.size) {z:Value} (hz:i.zero=some z) (hzs:z.cells.size=i.size) (hby:i.bytes<=10000):
 PA P (Builtin.append_ #[t,t] ty #[pvl,qvl]) base g lam Pr N F L a w0 w R:=by
 by_cases hqm:∃i2 n2 s2 e2,q= .ms i2 n2 s2 e2
 . obtain ⟨i2,n2,s2,e2,rfl⟩:=hqm;exact ACZ ht hi hz hzs hby hpos h hp hq (by cases p<;>exact hr)
 have hqm':∀i2 n2 s2 e2,q≠.ms i2 n2 s2 e2:=fun i2 n2 s2 e2 he=>hqm ⟨i2,n2,s2,e2,he⟩;cases p<;>cases q<;>try (first|exact absurd rfl (hqm' _ _ _ _)|exact (show False from hr).elim)
 rename_i i1 n s1 e1 i2 o2 n2 s2 e2;obtain ⟨⟨rfl,rfl,rfl,rfl⟩,cs,hb,hl1,hl2,hk⟩:=hr;cases hp with
 |@ms _ _ _ _ b cap hm hrm hn hmx=>
 cases hq with
 |@mv _ _ _ _ _ b2 ob cap2 hm2 hrm2 hn2 hmx2 ho2=>
 rw [hm] at hm2;cases hm2;obtain ⟨cur,ty',hcur,hle,hvr,hok,hrt,hpart⟩:=h.part hb hm;obtain ⟨hcs,rfl⟩:=hrt _ hrm;simp only at hcs
 have hroom:n+n2<=cap:=by
  have:(n+n2) * i.size<=cap * i.size:=by rw [<- hcs];omega
  exact Nat.le_of_mul_le_mul_right this hpos
 rw [CK] at hl1 hl2;obtain ⟨hv2,hvl,hone,hcell⟩:=hpart (o2 * i.size) (n2 * i.size) (by omega);have h1:=hvr.take (n * i.size);rw [List.take_take,Dd (by omega)] at h1;have hc2:((cs.drop (o2 * i.size)).take (n2 * i.size)).length=n2 * i.size:=by simp;omega
 have hnl:(cs.take (n * i.size)++(cs.drop (o2 * i.size)).take (n2 * i.size)).length=n * i.size+n2 * i.size:=by
  rw [AX,hc2,B4];omega
 have hnok:Aw (cs.take (n * i.size)++(cs.drop (o2 * i.size)).take (n2 * i.size))=true:=by
  simp only [Aw,A8] at hok ⊢;intro x hx;rcases A0.1 hx with hx|hx
  . exact hok x (D5 hx)
  . exact hok x (I8 (D5 hx))
 have hl3:(cur.toList.take (n * i.size)++(cur.toList.drop (o2 * i.size)).take (n2 * i.size)).length=n * i.size+n2 * i.size:=by
  rw [AX,hvl,B4,Oy];omega
 rcases LM n2 with h0|h0
 . subst h0
   have hrun:(Builtin.append_ #[t,t] ty #[.slice (some ⟨b,0,none⟩) n cap,.slice (some ⟨b,ob,none⟩) 0 (cap2 - o2)]).run P w= .ok (.slice (some ⟨b,0,none⟩) (n+0) cap) w:=by
    have hr:=run_append_room (P:=P) w t ty ty' i ht hi b n cap cur hcur ⟨b,ob,none⟩ 0 (cap2 - o2) [] (by simp) (by simp) (by simp) (by omega) (by simp;omega);rw [hr];congr 1;simp only [BW,CG,CC,Ad,Array.toArray_toList];exact setRow_self w b cur ty' _ hcur
   have hw:w.setRow b cur=w:=setRow_self w b cur ty' _ hcur
   have hf:=h.row (cs':=cs.take (n * i.size)++(cs.drop (o2 * i.size)).take (0 * i.size)) hb hm hcur (new:=cur) rfl (by rw [hnl];omega) (by
    rw [hnl,OR,Cn,BW,CC];exact h1) hnok
   rw [hw] at hf;exact ⟨_,g,w,_,_,hrun,Gh.le_refl g,hf.2,.ms hm hrm (by omega) hmx,hf.1,hk⟩
 . have ho2':=ho2 (by omega);subst ho2';have hrun:=run_append_room (P:=P) w t ty ty' i ht hi b n cap cur hcur ⟨b,o2 * i.size,none⟩ n2 (cap2 - o2) _ hvl hcell hone hroom (by rw [hvl,hcs,<- CK];exact Bw _ hroom);rw [hvl] at hrun
   have hsize:(cur.toList.take (n * i.size)++(cur.toList.drop (o2 * i.size)).take (n2 * i.size)++cur.toList.drop (n * i.size+n2 * i.size)).toArray.size=cur.size:=by
    rw [List.size_toArray,AX,hl3,Cm,Oy];omega
   have hf:=h.row hb hm hcur hsize (cs':=cs.take (n * i.size)++(cs.drop (o2 * i.size)).take (n2 * i.size)) (by rw [hnl,hsize];omega) (by
    rw [hnl];show VRs g _ (Ek _ (_++_++_));rw [<- hl3,List.take_left];exact h1.append hv2) hnok
   exact ⟨_,g,_,_,_,hrun,Gh.le_refl g,hf.2,.ms hm hrm hroom hmx,hf.1,hk⟩
end Go.Ab
namespace Go.Ab
open Go.RowKit
variable {P:Program} {base N:Nat} {g g':Gh} {Pr:Nat->Prop} {σ σ':AI} {w0 w w':World} {lam:Nat->Option Nat} {F:Fm} {L:Lm} {a:Act}
theorem AOG {q:AV} {qvl:Value} {srows:List (List DV)} (hq:SV g lam q qvl) (hqr:q.rows=some srows):RD g.im (.sl srows) qvl:=by
 cases q with
 |d x=>cases x<;>simp only [AV.rows,AL] at hqr<;>try (cases hqr;done)
       subst hqr;cases hq with|d h=>exact h
 |Ae=>simp only [AV.rows,AL] at hqr;subst hqr;cases hq;exact .nil (GW _) (fun _=>rfl)
 |own _ _ _ _=>simp only [AV.rows,AL] at hqr;subst hqr;cases hq with|own h _ _=>exact h
 |clip _=>simp only [AV.rows,AL] at hqr;subst hqr;cases hq with|clip h=>exact h
 |_=>cases hqr
theorem AIO (h:Bv base g lam Pr N F L σ a w0 w) (cells:Array Value) (e:TypeId) (n:Nat):
 g.le (g.settle w.heap.size n cells)/\KP Pr w (w.drew.alloc (.cells cells e))/\Bv base (g.settle w.heap.size n cells) lam Pr N F L σ a w0 (w.drew.alloc (.cells cells e)):=by
 have hold:∀b,b < w.heap.size->(w.drew.alloc (.cells cells e)).heap[b]?=w.heap[b]?:=fun b hb=>heap_alloc_old w.drew _ b hb;have hbel:Below base w (w.drew.alloc (.cells cells e)):=⟨rfl,rfl,rfl,by simp,fun k hk=>hold k (by have:=h.rel.bs;omega)⟩;have hrel1:=h.rel.grow (w':=w.drew.alloc (.cells cells e)) (Pr':=fun b=>Pr b\/∃k,lam k=some b) (by simp) (fun b hb _=>hold b hb) hbel (fun b hb=>⟨by have:=(h.rel.pr b hb).1;simp;omega,.inl hb⟩)
 have hrel:=h.rel.settle (n:=n) (vs:=cells) (b:=w.heap.size) (AW _) hrel1 (fun o=>by
  rw [World.cell?_of_block (w:=w.alloc (.cells cells e)) (show (w.drew.alloc (.cells cells e)).heap[w.heap.size]?=(w.alloc (.cells cells e)).heap[w.heap.size]? from rfl)];simp)
 have hle:=h.rel.Yj w.heap.size n cells (AW _);exact ⟨hle,⟨by simp,fun b hp=>hold b (h.rel.pr b (.inl hp)).1⟩,h.step hle (fun k b hb=>hold b (h.NA hb)) hrel⟩
theorem ADI {t ty e:TypeId} {i:TypeInfo} {z:Value} (ht:P.underlying t=some (.slice e)) (hi:P.info? e=some i) (hz:i.zero=some z) (hzs:z.cells.size=i.size)
 (h:Bv base g lam Pr N F L σ a w0 w) {q:AV} {pvl qvl:Value} {rows srows:List (List DV)} (hp:SV g lam (.clip rows) pvl) (hq:SV g lam q qvl) (hqr:q.rows=some srows)
 (hrs:∀r∈rows,r.length=i.size) (hss:∀r∈srows,r.length=i.size) (h63:rows.length+srows.length<=maxLen) (hby:(rows.length+srows.length) * i.bytes<=140737488355328):
 ∃x g' w',(Builtin.append_ #[t,t] ty #[pvl,qvl]).run P w= .ok x w'/\g.le g'/\KP Pr w w'/\VR g' (.d (.sl (rows++srows))) x/\Bv base g' lam Pr N F L σ a w0 w':=by
 have hqd:=AOG hq hqr;have hpc:VR g (.clip rows) pvl:=hp;generalize hcl:AV.clip rows=cl at hpc;cases hpc<;>cases hcl;rename_i ad n hrd;obtain ⟨ad',cap',hcap',_⟩:=hrd.Q8;have hn:n=rows.length:=by simp only [Value.slice.injEq] at hcap';exact hcap'.2.1
 subst hn;by_cases h0:srows=[]
 . subst h0;obtain ⟨ad2,cap2,rfl,_⟩:=hqd.Q8
   have hrun:(Builtin.append_ #[t,t] ty #[.slice ad rows.length rows.length,.slice ad2 0 cap2]).run P w= .ok (.slice ad rows.length rows.length) w:=by
    have hfc:∀sz,(Builtin.firstCells sz 0 (.slice ad2 0 cap2)).run P w= .ok #[] w:=fun sz=>by
     cases ad2<;>simp [Builtin.firstCells,loadCells,loadCellsFrom]
    cases ad<;>simp [Builtin.append_,run_underlying ht,sizeOf,typeInfo,hi,Builtin.lenOf,hfc,storeCells]
   exact ⟨_,g,w,hrun,Gh.le_refl g,KP.refl Pr w,.d (by simpa using hrd),h⟩
 . have hpos:0 < srows.length:=Ji.2 h0;obtain ⟨ad2,cap2,rfl,_⟩:=hqd.Q8
   obtain ⟨b,off,rfl⟩:∃b off,ad2=some ⟨b,off,none⟩:=by
    generalize hvv:(Value.slice ad2 srows.length cap2)=vv at hqd;cases hqd with
    |nil=>simp at hpos
    |sl=>cases hvv;exact ⟨_,_,rfl⟩
   obtain ⟨news,hnl,_,hni,hnr⟩:=RD.cellsOf hss hqd hpos;have hnews:∀j u,news[j]?=some u->w.cell? ((⟨b,off,none⟩:Addr).add j)=some u:=fun j u hu=>by rw [Addr.add_lit];exact h.rel.im _ _ _ (hni j u hu)
   have h63':((rows.length+srows.length:Nat):Int)<=9223372036854775807:=by simp only [maxLen] at h63;omega
   obtain ⟨olds,cap,hol,hor,hrun,hcg,hcm⟩:∃(olds:List Value) (cap:Nat),olds.length=rows.length * i.size/\(∀(j:Nat) (x:DV),rows.flatten[j]?=some x->∃v,olds[j]?=some v/\RD g.im x v)/\
    (Builtin.append_ #[t,t] ty #[.slice ad rows.length rows.length,.slice (some ⟨b,off,none⟩) srows.length cap2]).run P w=
      .ok (.slice (some ⟨w.heap.size,0,none⟩) (rows.length+srows.length) cap) (w.drew.alloc (.cells (olds.toArray++news.toArray++Builtin.zeroCells z.cells (cap - (rows.length+srows.length))) e))/\
    rows.length+srows.length<=cap/\cap<=maxLen:=by
    cases ad with
    |none=>
     have hr0:rows=[]:=by
      generalize hvv:(Value.slice none rows.length rows.length)=vv at hrd;cases hrd with
      |nil=>rfl
      |sl=>cases hvv
     subst hr0;have hr:=run_append_nil (P:=P) w t ty e i z ht hi hz ⟨b,off,none⟩ srows.length cap2 news hnl hnews hpos (by simpa using h63') (by simp at hby;omega);exact ⟨[],_,by simp,by simp,by simpa using hr,by simpa using grownCap_ge w srows.length 0 e,grownCap_le_maxLen w _ 0 e (by simpa using h63)⟩
    |some ad=>
     have hgr:=fun olds h1 h2=>run_append_grow (P:=P) w t ty e i z ht hi hz ad rows.length rows.length olds h1 h2 ⟨b,off,none⟩ srows.length cap2 news hnl hnews (by omega) h63' (growslice_fits (by omega) hby);have hge:=grownCap_ge w (rows.length+srows.length) rows.length e;have hlm:=grownCap_le_maxLen w (rows.length+srows.length) rows.length e h63;by_cases hr0:rows=[]
     . subst hr0;exact ⟨[],_,by simp,by simp,hgr [] (by simp) (by simp),hge,hlm⟩
     . obtain ⟨b2,off2,rfl⟩:∃b off,ad=⟨b,off,none⟩:=by
        generalize hvv:(Value.slice (some ad) rows.length rows.length)=vv at hrd;cases hrd with
        |nil=>exact absurd rfl hr0
        |sl=>cases hvv;exact ⟨_,_,rfl⟩
       obtain ⟨olds,hol,_,hoi,hor⟩:=RD.cellsOf hrs hrd (Ji.2 hr0);exact ⟨olds,_,hol,hor,hgr olds hol (fun j u hu=>by rw [Addr.add_lit];exact h.rel.im _ _ _ (hoi j u hu)),hge,hlm⟩
   generalize hcells:olds.toArray++news.toArray++Builtin.zeroCells z.cells (cap - (rows.length+srows.length))=cells at hrun;obtain ⟨hle,hkp,hf⟩:=AIO h cells e (olds.length+news.length);refine ⟨_,_,_,hrun,hle,hkp,?_,hf⟩
   have hall:∀r∈rows++srows,r.length=i.size:=fun r hr=>by
    rcases A0.1 hr with h1|h1
    . exact hrs r h1
    . exact hss r h1
   have hol':(olds++news).length=(rows++srows).length * i.size:=by rw [AX,AX,hol,hnl,CK]
   have:=RD.ANR (im:=(g.settle w.heap.size (olds.length+news.length) cells).im) (rows:=rows++srows) (size:=i.size) (b:=w.heap.size) (off:=0) (cap:=cap) (ys:=olds++news)
    hall (by simpa using hcg) hcm hol' (fun j u hu=>by
     have hlt:=(AG.1 hu).1;rw [AX] at hlt;simp only [Gh.settle,if_true,BJ,if_pos hlt];rw [<- hcells];rw [Array.getElem?_append_left (by simp;omega)];simpa using hu) (fun j x hx=>by
     rw [PB] at hx;have hfl:=G1 rows hrs;rcases C7 j rows.flatten.length with h1|h1
     . rw [BQ h1] at hx;obtain ⟨v,hv,hrd⟩:=hor j x hx;exact ⟨v,by rw [BQ (by omega)];exact hv,hrd.mono hle.im⟩
     . rw [BL h1] at hx;obtain ⟨v,hv,hrd⟩:=hnr _ x hx;refine ⟨v,?_,hrd.mono hle.im⟩;rw [BL (by omega),hol,<- hfl];exact hv)
   exact .d (by simpa using this)
end Go.Ab
namespace Go.Ab
open Go.RowKit
variable {P:Program} {base N:Nat} {g g':Gh} {Pr:Nat->Prop} {σ σ':AI} {w0 w w':World} {lam:Nat->Option Nat} {F:Fm} {L:Lm} {a:Act}
def Gh.bQ (g:Gh) (t b:Nat) (es:List (Int×Int)):Gh:= { g with tau:=fun s=>if s=t then some (r8 b es,0,0) else g.tau s}
theorem Gh.xH {t b:Nat} {es:List (Int×Int)} (h:g.tau t=none):g.le (g.bQ t b es):=
 ⟨fun _ _ _ h=>h,fun _ _ h=>h,fun s x hx=>by
   simp only [Gh.bQ];rw [if_neg (fun e=>by rw [e,h] at hx;cases hx)];exact hx,fun _ _ h=>h⟩
theorem iH (b:Nat) (es:List (Int×Int)):Z1 (r8 b es)=some b:=by unfold Z1;rw [XI]
theorem Rel.bQ (h:Rel base g Pr σ w0 w) {t b clock:Nat} {es:List (Int×Int)} {ents:Array MapEntry} (ht:g.tau t=none) (hb:base<=b)
 (him:∀o,g.im b o=none) (hpr:¬Pr b) (hsh:∀i,σ.blk i≠none->g.mu i≠some b) (htk:∀t2 v2 e2 s2,σ.tok t2=true->g.tau t2=some (v2,e2,s2)->Z1 v2≠some b)
 (hsz:w.heap.size<=w'.heap.size) (hsame:∀k,k < w.heap.size->k≠b->w'.heap[k]?=w.heap[k]?) (hbel:Below base w w') (hw:w'.heap[b]?=some (.map ents clock)) (he:eI es ents):
 Rel base (g.bQ t b es) Pr (σ.Cw t) w0 w':=by
 have hle:=Gh.xH (b:=b) (es:=es) ht;refine ⟨fun b2 o u hu=>?_,fun i cs hi=>?_,h.inj,fun t2 ht2=>?_,fun b2 hp=>⟨CV (h.pr b2 hp).1 hsz,(h.pr b2 hp).2⟩,h.bel.trans hbel,Ap h.bs hsz,?_,h.st.mono hle rfl rfl⟩
 . have hu:g.im b2 o=some u:=hu;have hne:b2≠b:=fun e=>by rw [e,him] at hu;cases hu
   rw [World.cell?_of_block (w:=w) (hsame b2 (h.Xf hu) hne)];exact h.im b2 o u hu
 . have hi:σ.blk i=some cs:=hi;obtain ⟨b2,hm,ho⟩:=h.shr i cs hi;obtain ⟨vs,ty,hv,hl,hrt,hr⟩:=ho.row;have hne:b2≠b:=fun e=>hsh i (by rw [hi];simp) (by rw [hm,e]);exact ⟨b2,hm,ho.ok,⟨vs,ty,by rw [hsame b2 (h.Sy hi hm) hne];exact hv,hl,hrt,hr.mono hle⟩,ho.low,ho.im,ho.pr⟩
 . by_cases e:t2=t
   . subst e;refine ⟨r8 b es,0,0,0,[],by simp [Gh.bQ],?_,fun b2 hb2=>?_⟩
     . unfold Rm;rw [XI];exact ⟨hb,ents,clock,hw,he⟩
     . rw [iH] at hb2;cases hb2;refine ⟨fun o _=>him o,hpr,hsh,fun t3 v3 e3 s3 hne ht3 hm3=>?_⟩;simp only [AI.Cw,if_neg hne] at ht3;simp only [Gh.bQ,if_neg hne] at hm3;exact htk t3 v3 e3 s3 ht3 hm3
   . simp only [AI.Cw,if_neg e] at ht2;obtain ⟨v2,e2,s2,n2,xs2,hm2,hown2,hrest⟩:=(h.tok t2 ht2).row;refine ⟨v2,e2,s2,n2,xs2,by simp [Gh.bQ,e,hm2],VF hown2 fun b2 hb2=>hsame b2 (hown2.lt b2 hb2).2 (fun e3=>htk t2 v2 e2 s2 ht2 hm2 (by rw [hb2,e3])),fun b2 hb2=>?_⟩;obtain ⟨k1,k2,k3,k4⟩:=hrest b2 hb2;refine ⟨k1,k2,k3,fun t3 v3 e3 s3 hne ht3 hm3=>?_⟩;by_cases e3':t3=t
     . subst e3';simp only [Gh.bQ,if_true] at hm3;cases hm3;rw [iH];intro e4;exact htk t2 v2 e2 s2 ht2 hm2 (by rw [hb2,e4])
     . simp only [AI.Cw,if_neg e3'] at ht3;simp only [Gh.bQ,if_neg e3'] at hm3;exact k4 t3 v3 e3 s3 hne ht3 hm3
 . obtain ⟨k,hk⟩:=h.fin;refine ⟨max k (t+1),fun i hi=>⟨(hk i (by omega)).1,?_,(hk i (by omega)).2.2⟩⟩;have:i≠t:=by omega
   simp [Gh.bQ,this,(hk i (by omega)).2.1]
theorem AJN {mt:TypeId} (h:Bv base g lam Pr N F L σ a w0 w) {R:AV->AI->Prop} (hr:∀t,σ.tok t=false->R (.om t []) (σ.Cw t)):
 PA P (Instr.makeMap mt none) base g lam Pr N F L a w0 w R:=by
 obtain ⟨t,_,htau,_,htok⟩:=h.rel.fresh;have hle:=Gh.xH (b:=w.heap.size) (es:=[]) htau
 have hrel:=h.rel.bQ (w':=w.alloc (.map #[] 0)) (b:=w.heap.size) (es:=[]) (ents:=#[]) (clock:=0) htau h.rel.bs
  (fun o=>by
    cases hi:g.im w.heap.size o with
    |none=>rfl
    |some v=>have:=h.rel.Xf hi;omega)
  (fun hp=>by have:=(h.rel.pr _ hp).1;omega)
  (fun i hi hm=>by
    cases hc:σ.blk i with
    |none=>exact hi hc
    |some cs=>have:=h.rel.Sy hc hm;omega)
  (fun t2 v2 e2 s2 ht2 hm2 hvb=>by
    obtain ⟨v3,e3,s3,n3,xs3,hm3,hown3,_⟩:=(h.rel.tok t2 ht2).row;rw [hm2] at hm3;cases hm3;have:=(hown3.lt _ hvb).2;omega)
  (by simp) (fun k hk _=>heap_alloc_old w _ k hk) (Wi h.rel.bs) (heap_alloc_new w _) rfl
 exact ⟨.map (some w.heap.size),g.bQ t w.heap.size [],w.alloc (.map #[] 0),.om t [],σ.Cw t,rfl,hle,⟨by simp,fun b hb=>heap_alloc_old w _ b (h.rel.pr b (.inl hb)).1⟩,
  .om (by simp [Gh.bQ]),h.step hle (fun k b hb=>heap_alloc_old w _ b (h.NA hb)) hrel,hr t htok⟩
theorem AE3 (h:Bv base g lam Pr N F L σ a w0 w) {t:Nat} {es:List (Int×Int)} {v:Value} (hv:VR g (.om t es) v) (ht:σ.tok t=true):
 ∃b ents clock,v= .map (some b)/\g.tau t=some (r8 b es,0,0)/\w.heap[b]?=some (.map ents clock)/\eI es ents/\base<=b/\
  (∀o,g.im b o=none)/\¬(Pr b\/∃k,lam k=some b)/\(∀i,σ.blk i≠none->g.mu i≠some b)/\(∀t2 v2 e2 s2,t2≠t->σ.tok t2=true->g.tau t2=some (v2,e2,s2)->Z1 v2≠some b):=by
 cases hv with
 |@om _ b _ htau=>
  obtain ⟨v2,e2,s2,n2,xs2,hm2,hown2,hrest⟩:=(h.rel.tok t ht).row;rw [htau] at hm2;cases hm2;obtain ⟨k1,k2,k3,k4⟩:=hrest b (iH b es);unfold Rm at hown2;rw [XI] at hown2;obtain ⟨hb,ents,clock,hw,he⟩:=hown2;refine ⟨b,ents,clock,rfl,htau,hw,he,hb,fun o=>?_,k2,k3,k4⟩;cases hi:g.im b o with
  |none=>rfl
  |some u=>
   have:=h.rel.im b o u hi;simp [World.cell?,hw] at this
theorem xG {es:List (Int×Int)} {ents:Array MapEntry} (h:eI es ents):ents.size=es.length:=by
 have:=congrArg List.length h;simpa using this
theorem AEW {mt k e ty:TypeId} (hm:P.underlying mt=some (.map k e)) (h:Bv base g lam Pr N F L σ a w0 w) {t:Nat} {es:List (Int×Int)} {v:Value} (hv:VR g (.om t es) v) (ht:σ.tok t=true) (hl:es.length<=1000000000)
 {R:AV->AI->Prop} (hr:R (.d (.int .i64 es.length)) σ):PA P (Builtin.len_ #[mt] ty #[v]) base g lam Pr N F L a w0 w R:=by
 obtain ⟨b,ents,clock,rfl,_,hw,he,_⟩:=AE3 h hv ht;refine ⟨goInt es.length,g,w,_,σ,?_,Gh.le_refl g,KP.refl Pr w,.d (.int ?_),h,hr⟩
 . simp [Builtin.len_,run_underlying hm,MapKept.run_getObj_map hw,xG he]
 . simp only [IntKind.has,IntKind.min,IntKind.max,IntKind.signed,IntKind.bits];constructor<;>simp<;>omega
theorem XM (ki:IntKind) (k:Int):∀(l:List MapEntry) (es:List (Int×Int)) (i:Nat),l.map (fun m=>(m.key,m.val))=es.map (fun p=>(Value.int .i64 p.1,Value.int .i64 p.2))->
 (es.lookup k=none/\Instr.findNow (.int ki) (.int .i64 k) l i=some none)\/∃v j,es.lookup k=some v/\Instr.findNow (.int ki) (.int .i64 k) l i=some (some (j,.int .i64 v))
 |[],[],i,_=>.inl ⟨rfl,rfl⟩
 |[],_::_,i,h=>by simp at h
 |_::_,[],i,h=>by simp at h
 |m::l,p::es,i,h=>by
  simp only [AD,List.cons.injEq,Bb] at h;obtain ⟨⟨h1,h2⟩,h3⟩:=h;by_cases e:k=p.1
  . refine .inr ⟨p.2,i,?_,?_⟩
    . rw [List.lookup];simp [e]
    . simp [Instr.findNow,h1,h2,Instr.sameNow,e]
  . have e':(k==p.1)=false:=by simpa using e
    rcases XM ki k l es (i+1) h3 with ⟨h4,h5⟩|⟨v,j,h4,h5⟩
    . refine .inl ⟨by rw [List.lookup,e'];exact h4,?_⟩;simp only [Instr.findNow,h1,Instr.sameNow,if_true,e',h5]
    . refine .inr ⟨v,j,by rw [List.lookup,e'];exact h4,?_⟩;simp only [Instr.findNow,h1,Instr.sameNow,if_true,e',h5]
theorem AEU {mt k e:TypeId} {i:TypeInfo} (hm:P.underlying mt=some (.map k e)) (hk:P.underlying k=some (.int .i64)) (hi:P.info? e=some i) (hz:i.zero=some (.int .i64 0))
 (h:Bv base g lam Pr N F L σ a w0 w) {t:Nat} {es:List (Int×Int)} {n:Int} {v u:Value} (hv:VR g (.om t es) v) (hu:VR g (.d (.int .i64 n)) u) (ht:σ.tok t=true)
 {R:AV->AI->Prop} (hr:∃x,(0<=x/\x<=1000000000)/\es.lookup n=some x/\R (.tup [.d (.int .i64 x),.d (.bool true)]) σ\/es.lookup n=none/\R (.tup [.d (.int .i64 0),.d (.bool false)]) σ):
 PA P (Instr.lookup mt v u true) base g lam Pr N F L a w0 w R:=by
 obtain ⟨b,ents,clock,rfl,_,hw,he,_⟩:=AE3 h hv ht;cases hu with|d hu=>cases hu with|int hn=>
 have hkey:MapKept.IsKey (.int .i64) (.int .i64 n):=by first|rfl|trivial|exact ⟨_,rfl⟩
 have hvr:∀(x:Int) (c:Bool),(0<=x/\x<=1000000000)->VR g (.tup [.d (.int .i64 x),.d (.bool c)]) (.tuple #[.int .i64 x,.bool c]):=fun x c hx=>
  .tup (vs:=[.int .i64 x,.bool c]) rfl (fun j y z h1 h2=>by
   match j with
   |0=>simp at h1 h2;subst h1;subst h2;exact .d (.int (by simp only [IntKind.has,IntKind.min,IntKind.max,IntKind.signed,IntKind.bits];constructor<;>simp<;>omega))
   |1=>simp at h1 h2;subst h1;subst h2;exact .d .bool
   |j+2=>simp at h1)
 obtain ⟨x,hr⟩:=hr;rcases XM .i64 n ents.toList es 0 he with ⟨h1,h2⟩|⟨y,j,h1,h2⟩
 . rcases hr with ⟨_,h3,_⟩|⟨_,hR⟩
   . rw [h1] at h3;cases h3
   refine ⟨.tuple #[.int .i64 0,.bool false],g,w,_,σ,?_,Gh.le_refl g,KP.refl Pr w,hvr 0 false (by omega),h,hR⟩;simp [Instr.lookup,run_underlying hm,MapKept.run_getObj_map hw,MapKept.run_checkKey hk hkey,MapKept.run_findKey hk h2,zeroValue,typeInfo,hi,hz]
 . rcases hr with ⟨hx,h3,hR⟩|⟨h3,_⟩
   . rw [h1] at h3;cases h3;refine ⟨.tuple #[.int .i64 x,.bool true],g,w,_,σ,?_,Gh.le_refl g,KP.refl Pr w,hvr x true hx,h,hR⟩;simp [Instr.lookup,run_underlying hm,MapKept.run_getObj_map hw,MapKept.run_checkKey hk hkey,MapKept.run_findKey hk h2]
   . rw [h1] at h3;cases h3
theorem oU {e:TypeId} (h:AAY P e=true):P.underlying e=some (.int .i64):=by
 unfold AAY at h;split at h
 . assumption
 . cases h
theorem AK7 {e:TypeId} (h:AST P e=true):∃i,P.info? e=some i/\i.zero=some (.int .i64 0):=by
 unfold AST at h;split at h
 . rename_i i hi;split at h
   . exact ⟨i,hi,by assumption⟩
   . cases h
 . cases h
theorem AA3 {mt k e:TypeId} (hm:P.underlying mt=some (.map k e)) (hk:AAY P k=true) (he:AST P e=true) (h:Bv base g lam Pr N F L σ a w0 w) {p q:AV} {v u:Value} (hv:VR g p v) (hu:VR g q u)
 {R:AV->AI->Prop} (hr:ExR σ R .AJM [p,q]):PA P (Instr.lookup mt v u true) base g lam Pr N F L a w0 w R:=by
 cases p<;>try (exact (show False from hr).elim)
 cases q<;>try (exact (show False from hr).elim)
 rename_i y;cases y<;>try (exact (show False from hr).elim)
 rename_i kk n;cases kk<;>try (exact (show False from hr).elim)
 obtain ⟨i,hi,hz⟩:=AK7 he;exact AEU hm (oU hk) hi hz h hv hu hr.1 hr.2
theorem AA4 {mt k e ty:TypeId} (hm:P.underlying mt=some (.map k e)) (h:Bv base g lam Pr N F L σ a w0 w) {p:AV} {v:Value} (hv:VR g p v)
 {R:AV->AI->Prop} (hr:ExR σ R .AEV [p]):PA P (Builtin.len_ #[mt] ty #[v]) base g lam Pr N F L a w0 w R:=by
 cases p<;>try (exact (show False from hr).elim)
 exact AEW hm h hv hr.1.1 hr.1.2 hr.2
def reA (t:Nat) (x:AV):AV->AV
 | .om s es=>if s=t then x else .om s es
 |v=>v
def reF (t:Nat) (x:AV) (F:Fm):Fm:=fun s=>reA t x (F s)
theorem AEX {mt k e:TypeId} (hm:P.underlying mt=some (.map k e)) (hk:P.underlying k=some (.int .i64))
 (h:Bv base g lam Pr N F L σ a w0 w) {t:Nat} {es:List (Int×Int)} {n x:Int} {v u z:Value} (hv:VR g (.om t es) v) (hu:VR g (.d (.int .i64 n)) u) (hz:VR g (.d (.int .i64 x)) z) (ht:σ.tok t=true) (hno:es.lookup n=none):
 ∃g' w' t',(Instr.mapUpdate mt v u z).run P w= .ok () w'/\g.le g'/\KP Pr w w'/\σ.tok t'=false/\Bv base g' lam Pr N (reF t (.om t' (es++[(n,x)])) F) L ((σ.Eo t).Cw t') a w0 w':=by
 obtain ⟨b,ents,clock,rfl,htau,hw,he,hb,him,hpr,hsh,htk⟩:=AE3 h hv ht;cases hu with|d hu=>cases hu with|int hn=>
 cases hz with|d hz=>cases hz with|int hx=>
 have hkey:MapKept.IsKey (.int .i64) (.int .i64 n):=by first|rfl|trivial|exact ⟨_,rfl⟩
 rcases XM .i64 n ents.toList es 0 he with ⟨_,h2⟩|⟨y,j,h1,_⟩
 case inr=>rw [hno] at h1;cases h1
 obtain ⟨t',_,htau',_,htok'⟩:=h.rel.fresh;obtain ⟨hs1,hs2⟩:=MapKept.heap_set (o':= .map (ents.push ⟨.int .i64 n,.int .i64 x,clock⟩) (clock+1)) hw
 have hrun:(Instr.mapUpdate mt (.map (some b)) (.int .i64 n) (.int .i64 x)).run P w= .ok () { w with heap:=w.heap.setIfInBounds b (.map (ents.push ⟨.int .i64 n,.int .i64 x,clock⟩) (clock+1))}:=by
  simp [Instr.mapUpdate,run_underlying hm,MapKept.run_getObj_map hw,MapKept.run_checkKey hk hkey,MapKept.run_findKey hk h2,MapKept.run_setObj_map _ hw,Result.andThen]
 generalize hw':({ w with heap:=w.heap.setIfInBounds b (.map (ents.push ⟨.int .i64 n,.int .i64 x,clock⟩) (clock+1))}:World)=w' at hrun;have hh:w'.heap=w.heap.setIfInBounds b (.map (ents.push ⟨.int .i64 n,.int .i64 x,clock⟩) (clock+1)):=by rw [<- hw']
 have hle:=Gh.xH (b:=b) (es:=es++[(n,x)]) htau';have hsz:w'.heap.size=w.heap.size:=by rw [hh];simp
 have hold:∀c,c≠b->w'.heap[c]?=w.heap[c]?:=fun c hc=>by rw [hh];exact hs2 c hc
 have hbel:Below base w w':=by
  subst hw';exact ⟨rfl,rfl,rfl,by simp,fun c hc=>by exact hs2 c (by omega)⟩
 have hrel:=(h.rel.less (AI.uB σ t)).bQ (w':=w') (b:=b) (es:=es++[(n,x)]) htau' hb him hpr hsh
  (fun t2 v2 e2 s2 ht2 hm2=>by
    have hne:t2≠t:=fun e=>by subst e;simp [AI.Eo] at ht2
    simp only [AI.Eo,if_neg hne] at ht2;exact htk t2 v2 e2 s2 hne ht2 hm2) (by omega) (fun c _ hc=>hold c hc) hbel (by rw [hh];exact hs1) (by
    unfold eI at he ⊢;simp [he])
 have hf:=h.step hle (fun c b2 hb2=>hold b2 (fun e=>hpr (.inr ⟨c,by rw [hb2,e]⟩))) hrel;refine ⟨_,w',t',hrun,hle,⟨by omega,fun c hc=>hold c (fun e=>hpr (.inl (by rw [<- e];exact hc)))⟩,htok',⟨fun s=>?_,hf.sz,hf.df,hf.loc,hf.inj,hf.npr,hf.rel⟩⟩;have h1:=hf.tm s;generalize a.tmps.getD s Cu=val at h1 ⊢;unfold reF;cases hF:F s with
 |om s2 es2=>
  rw [hF] at h1;simp only [reA];split
  . rename_i e;subst e;have h1:VR _ (.om s2 es2) val:=h1;cases h1 with
    |@om _ b2 _ h3=>
     have h4:=hle.tau _ _ htau;rw [h3] at h4;have h5:r8 b2 es2=r8 b es:=by simpa using h4
     obtain ⟨rfl,_⟩:=AL5 h5;exact .om (by simp [Gh.bQ])
  . exact h1
 |_=>rw [hF] at h1;exact h1
end Go.Ab
namespace Go.Ab
open Go.RowKit
variable {P:Program} {base N:Nat} {g g':Gh} {Pr:Nat->Prop} {σ σ':AI} {w0 w w':World} {lam:Nat->Option Nat} {F:Fm} {L:Lm} {a:Act}
abbrev C6:=Fm->Lm->AI->Prop
def Ca (P:Program) (f:FuncId):Bool:=((P.funcs[f]?).bind (·.body)).isSome&&((P.funcs[f]?).map (·.name)) != some "runtime.NumGoroutine"
def AH (P:Program) (f:FuncId) (args:List AV) (dst:Option Nat) (K:C6) (F:Fm) (L:Lm) (σ:AI):Prop:=
 args.all AV.BE=true/\∃Q,AT P f args σ Q/\∀v σ',Q v σ'->K (BS dst v F) L σ'
def mP (P:Program) (f:FuncId) (args:List AV) (dst:Option Nat) (K:C6) (F:Fm) (L:Lm) (σ:AI):Prop:=
 args.all AV.BE=true/\∃v,(v.BE=true/\AT P f args σ (fun v' σ'=>v'=v/\σ'=σ))/\K (BS dst v F) L σ
def DD (e size bytes:Nat) (s x:AV) (dst:Option Nat) (K:C6) (F:Fm) (L:Lm) (σ:AI):Prop:=
 (∃rows σ1 srows,aF σ e size s=some (rows,σ1)/\x.rows=some srows/\(∀r∈srows,r.length=size)/\rows.length+srows.length<=maxLen/\(rows.length+srows.length) * bytes<=140737488355328/\
   ∀t,σ.tok t=false->K (BS dst (.own t e size (rows++srows)) F) L (σ1.Cw t))\/
 (∃rows srows,s= .clip rows/\x.rows=some srows/\(∀r∈rows,r.length=size)/\(∀r∈srows,r.length=size)/\rows.length+srows.length<=maxLen/\(rows.length+srows.length) * bytes<=140737488355328/\
   K (BS dst (.d (.sl (rows++srows))) F) L σ)
def Ys (cs:List AV) (sh:Bool) (dst:Option Nat) (K:C6) (F:Fm) (L:Lm) (σ:AI):Prop:=
 Aw cs=true/\match dst with
  |none=>False
  |some d=>if sh then ∀i,σ.blk i=none->K (put d (.gp i 0) F) L (σ.AP i cs) else K (put d (.lp d 0) (Du d F)) (Am d cs L) σ
def XSt (x v:AV) (n:Nat) (dst:Option Nat) (K:C6) (F:Fm) (L:Lm) (σ:AI):Prop:=
 dst=none/\Aw v.cells=true/\v.cells.length=n/\match stA L σ v.cells x with
  |some (L',σ')=>K F L' σ'
  |none=>False
def Pm (e size bytes:Nat) (s x:AV) (dst:Option Nat) (K:C6) (F:Fm) (L:Lm) (σ:AI):Prop:=
 ∃n cs σ1 srows,Oc σ e size s=some (n,cs,σ1)/\x.rows=some srows/\(∀r∈srows,r.length=size)/\(srows=[]->K (BS dst s F) L σ)/\n+srows.length<=maxLen/\(n+srows.length) * bytes<=140737488355328/\
  (srows≠[]->∀j,σ.blk j=none->K (BS dst (.ms j (n+srows.length) size e) F) L (σ1.AP j (cs++Es srows)))
def ATF (x h:AV) (dst:Option Nat) (K:C6) (F:Fm) (L:Lm) (σ:AI):Prop:=
 ∃k s e cs σ1,AUR σ x h=some (k,s,e,cs,σ1)/\∀j,σ.blk j=none->K (BS dst (.ms j k s e) F) L (σ1.AP j cs)
def We (e size len:Nat) (cells:Option (List AV)) (dst:Option Nat) (K:C6) (F:Fm) (L:Lm) (σ:AI):Prop:=
 ∃cs,cells=some cs/\((∀j,σ.blk j=none->K (BS dst (.ms j len size e) F) L (σ.AP j cs))\/
  (∃ds,dvs cs=some ds/\∀t,σ.tok t=false->K (BS dst (.own t e size (chunk size len ds)) F) L (σ.Cw t)))
def PC (e size bytes:Nat) (z:List AV) (l c:AV) (dst:Option Nat) (K:C6) (F:Fm) (L:Lm) (σ:AI):Prop:=
 ∃k k' n,l= .d (.int k n)/\c= .d (.int k' n)/\0<=n/\bytes * n<=281474976710656/\n<=9223372036854775807/\
  ∀i,σ.blk i=none->K (BS dst (.ms i n.toNat size e) F) L (σ.AP i (AF n.toNat z).flatten)
def XPv (v:Option AV) (dst:Option Nat) (K:C6) (F:Fm) (L:Lm) (σ:AI):Prop:=
 match v with
 |some v=>K (BS dst v F) L σ
 |none=>False
def XEx (k:EK) (args:List AV) (dst:Option Nat) (K:C6) (F:Fm) (L:Lm) (σ:AI):Prop:=
 if k.pure then XPv (exP k args) dst K F L σ else args.all AV.BE=true/\ExR σ (fun v σ'=>K (BS dst v F) L σ') k args
def tI (m k v:AV) (dst:Option Nat) (K:C6) (F:Fm) (L:Lm) (σ:AI):Prop:=
 dst=none/\∃t es n x,m= .om t es/\k= .d (.int .i64 n)/\v= .d (.int .i64 x)/\σ.tok t=true/\es.lookup n=none/\∀t',σ.tok t'=false->K (reF t (.om t' (es++[(n,x)])) F) L ((σ.Eo t).Cw t')
def XO (P:Program) (dst:Option Nat) (K:C6) (F:Fm) (L:Lm) (σ:AI):O->Prop
 | .box x sh=>Ys (xv F x).cells sh dst K F L σ
 | .al z sh=>Ys z sh dst K F L σ
 | .st x v n=>XSt (xv F x) (xv F v) n dst K F L σ
 | .msl e size bytes z l c=>PC e size bytes z (xv F l) (xv F c) dst K F L σ
 | .rM e size bytes s x=>Pm e size bytes (xv F s) (xv F x) dst K F L σ
 | .trn x h=>ATF (xv F x) (xv F h) dst K F L σ
 | .kJ e size len z ps=>We e size len (Ko z F ps) dst K F L σ
 | .app e size bytes s x=>DD e size bytes (xv F s) (xv F x) dst K F L σ
 | .call f args=>AH P f (xvs F args) dst K F L σ
 | .Zh x args=>∃f first caps,xv F x= .fn f first caps/\Ca P f=true/\AH P f (first++xvs F args++caps) dst K F L σ
 | .jZ f args=>mP P f (xvs F args) dst K F L σ
 | .ex k xs=>XEx k (xvs F xs) dst K F L σ
 | .iC m k v=>tI (xv F m) (xv F k) (xv F v) dst K F L σ
 |o=>XPv (pv F L σ o) dst K F L σ
def GK (base:Nat) (Pr:Nat->Prop) (N:Nat) (w0:World) (g:Gh) (w:World) (K:C6) (a':Act) (w':World):Prop:=
 ∃g' lam' F' L' σ',g.le g'/\KP Pr w w'/\Bv base g' lam' Pr N F' L' σ' a' w0 w'/\K F' L' σ'
theorem GK.trans {K:C6} {a':Act} {g1:Gh} {w1:World} (hg:g.le g1) (hk:KP Pr w w1) (h:GK base Pr N w0 g1 w1 K a' w'):GK base Pr N w0 g w K a' w':=by
 obtain ⟨g',lam',F',L',σ',h1,h2,h3,h4⟩:=h;exact ⟨g',lam',F',L',σ',Gh.le_trans hg h1,hk.trans h2,h3,h4⟩
theorem Ht {o:Oper} {x:Value} {next:Act->World->Prop} {Q:Exit->Act->World->Prop} (hr:(execOp a.eval o).run P w= .ok (.value x) w') (h:next (a.put o.dst x) w'):o.wp P a w next Q:=by
 unfold Oper.wp;rw [hr];exact h
theorem CA {sh im lc:Bool} {o:Oper} {c:O} (hc:tT P sh im lc o.op=some c) (hd:∀k,o.dst=some k->k < N) {K:C6} (hx:XPv (pv F L σ c) o.dst K F L σ)
 (h:Bv base g lam Pr N F L σ a w0 w) {Q:Exit->Act->World->Prop}:o.wp P a w (GK base Pr N w0 g w K) Q:=by
 cases hv:pv F L σ c with
 |none=>rw [hv] at hx;exact hx.elim
 |some v=>
  rw [hv] at hx;obtain ⟨x,g',w',hr,h1,h2,h3,h4⟩:=AN5 hc hv base g lam Pr N a w0 w h;exact Ht hr ⟨g',lam,_,L,σ,h1,h2,h4.BS hd h3,hx⟩
theorem rG {o:Oper} {cs:List AV} {vs:Array Value} {ty:TypeId} {sh:Bool} (hd:∀k,o.dst=some k->k < N) {K:C6} (hx:Ys cs sh o.dst K F L σ)
 (h:Bv base g lam Pr N F L σ a w0 w) (hr:VRs g cs vs.toList) (hrun:(execOp a.eval o).run P w= .ok (.value (.pointer (some ⟨w.heap.size,0,none⟩))) (w.alloc (.cells vs ty)))
 {Q:Exit->Act->World->Prop}:o.wp P a w (GK base Pr N w0 g w K) Q:=by
 obtain ⟨hok,hx⟩:=hx;refine Ht hrun ?_;cases hdst:o.dst with
 |none=>rw [hdst] at hx;exact hx.elim
 |some d=>
  rw [hdst] at hx;have hdn:=hd d hdst;have hkp:KP Pr w (w.alloc (.cells vs ty)):=⟨by simp,fun b hb=>heap_alloc_old w _ b (h.rel.pr b (.inl hb)).1⟩;cases sh with
  |false=>
   simp only [A3,if_false] at hx
   have h':Bv base g lam Pr N (Du d F) L σ a w0 w:=by
    refine ⟨fun s=>?_,h.sz,h.df,h.loc,h.inj,h.npr,h.rel⟩;simp only [Du];split
    . exact VR.undef
    . exact h.tm s
   exact ⟨g,_,_,_,σ,Gh.le_refl g,hkp,h'.ANH hdn (ACS d F) ty hr hok,hx⟩
  |true=>
   simp only [if_true] at hx;obtain ⟨i,hmu,_,hblk,_⟩:=h.rel.fresh;have hrel:=h.rel.share (rt:=none) hmu (AW _) (h.rel.alloc (.cells vs ty)) (heap_alloc_new w _) (fun _ h=>by cases h) hr hok (fun hp=>by have:=(h.rel.pr _ hp).1;omega);have hle:=Gh.OI (g:=g) (i:=i) (b:=w.heap.size) (rt:=none) hmu;have hf:=h.step hle (fun k b hb=>heap_alloc_old w _ b (h.NA hb)) hrel;exact ⟨_,lam,_,L,_,hle,hkp,hf.put hdn (v:= .gp i 0) (SV.Fk (.gp (by simp [Gh.share]))),hx i hblk⟩
theorem AK6 {o:Oper} {t:TypeId} {y z:Operand} {x xv':X} {n:Nat} (ho:o.op= .store t y z) (hy:xo y=some x) (hz:xo z=some xv') (hn:szT P t=some n) {K:C6}
 (hx:XSt (xv F x) (xv F xv') n o.dst K F L σ) (h:Bv base g lam Pr N F L σ a w0 w) {Q:Exit->Act->World->Prop}:o.wp P a w (GK base Pr N w0 g w K) Q:=by
 obtain ⟨hdst,hok,hlen,hx⟩:=hx;cases hst:stA L σ (xv F xv').cells (xv F x) with
 |none=>rw [hst] at hx;exact hx.elim
 |some r=>
  obtain ⟨L',σ'⟩:=r;rw [hst] at hx;have hv:=(Aq hz h).vr (Uh hok);have hc:=hv.cells hok;obtain ⟨ad,w',hp,hrun,hk,hf⟩:=h.store (P:=P) (Aq hy h) hc hok hst;have hsz:(a.eval z).cells.size=n:=by have:=hc.length;simpa [hlen] using this
  have:(execOp a.eval o).run P w= .ok .skip w':=by
   unfold execOp;simp only [ho,hp,Instr.storeAt,Instr.sureAddr,storeVar,Sem.run_bind,Sem.run_pure,Result.andThen_ok,FV hn];simp [hsz,hrun]
  unfold Oper.wp;rw [this];show GK base Pr N w0 g w K (a.put o.dst Cu) w';rw [hdst];exact ⟨g,lam,F,L',σ',Gh.le_refl g,hk,hf,hx⟩
theorem AF8 {o:Oper} {t e:TypeId} {i:TypeInfo} {zv:Value} {y z:Operand} {x xs:X} (ho:o.op= .call { callee:= .builtin .append,args:=#[y,z],argTypes:=#[t,t]})
 (hy:xo y=some xs) (hz:xo z=some x) (ht:P.underlying t=some (.slice e)) (hi:P.info? e=some i) (hzv:i.zero=some zv) (hzs:zv.cells.size=i.size) (hd:∀k,o.dst=some k->k < N) {K:C6}
 (hx:DD e i.size i.bytes (xv F xs) (xv F x) o.dst K F L σ) (h:Bv base g lam Pr N F L σ a w0 w) {Q:Exit->Act->World->Prop}:o.wp P a w (GK base Pr N w0 g w K) Q:=by
 rcases hx with ⟨rows,σ1,srows,hpa,hqr,hss,h63,hby,hk⟩|⟨rows,srows,hs,hqr,hrs,hss,h63,hby,hk⟩
 case inr=>
  obtain ⟨v,g',w',hrun,hle,hkp,hvr,hf⟩:=ADI (ty:=o.type) ht hi hzv hzs h (hs ▸ Aq hy h) (Aq hz h) hqr hrs hss h63 hby
  refine Ht (x:=v) (w':=w') ?_ ⟨g',lam,_,L,_,hle,hkp,hf.BS hd (SV.Fk hvr),hk⟩;unfold execOp;simp [ho,resolve,invoke,builtin,hrun]
 obtain ⟨v,g',w',t',hrun,hle,hkp,htok,hvr,hf⟩:=AHO (ty:=o.type) ht hi hzv hzs h (Aq hy h) (Aq hz h) hpa hqr hss h63 hby
 refine Ht (x:=v) (w':=w') ?_ ⟨g',lam,_,L,_,hle,hkp,hf.BS hd (SV.Fk hvr),hk t' htok⟩;unfold execOp;simp [ho,resolve,invoke,builtin,hrun]
theorem kF {o:Oper} {f:FuncId} {args:List AV} {vs:List Value} (hrun:(execOp a.eval o).run P w= .ok (.enter f vs.toArray) w) (hd:∀k,o.dst=some k->k < N) {K:C6}
 (hv:VRs g args vs) (hx:AH P f args o.dst K F L σ) (h:Bv base g lam Pr N F L σ a w0 w) {Q:Exit->Act->World->Prop}:o.wp P a w (GK base Pr N w0 g w K) Q:=by
 obtain ⟨_,R,hR,hk⟩:=hx;unfold Oper.wp;rw [hrun];refine (hR base g _ w0 w vs h.rel hv).mono fun e w' ⟨v,av,g',σ',he,hvr,hrel,hle,hkp,hq⟩=>?_;subst he;have hf:=h.step hle (fun k b hb=>hkp.2 b (.inr ⟨k,hb⟩)) hrel;exact ⟨g',lam,_,L,σ',hle,⟨hkp.1,fun b hb=>hkp.2 b (.inl hb)⟩,hf.BS hd (SV.Fk hvr),hk av σ' hq⟩
theorem fE {f:FuncId} (hb:Ca P f=true) (args:Array Value):(callFunc f args).run P w= .ok (.enter f args) w:=by
 unfold Ca at hb;simp only [AO] at hb;obtain ⟨h1,h2⟩:=hb;cases hf:P.funcs[f]? with
 |none=>simp [hf] at h1
 |some fn=>
  simp only [hf,El] at h1;have h3:fn.name≠ "runtime.NumGoroutine":=by simpa [hf] using h2
  have h4:fn.body≠none:=by cases hbd:fn.body<;>simp [hbd] at h1 ⊢
  unfold callFunc;simp [hf,h3,h4]
theorem Ax {n:Int} (h0:0<=n) (h1:n<=9223372036854775807):IntKind.i64.wrap n=n:=by
 unfold IntKind.wrap;simp only [IntKind.signed,IntKind.bits];have e:n % (2 ^ 64:Int)=n:=Int.emod_eq_of_lt h0 (by omega);simp only [e];rw [if_neg (by simp;omega)]
theorem AF9 {o:Oper} {t e:TypeId} {i:TypeInfo} {z:List AV} {y y2:Operand} {x x2:X} (ho:o.op= .makeSlice t y y2) (hy:xo y=some x) (hy2:xo y2=some x2)
 (he:T3 P t=some e) (hi:P.info? e=some i) (hz:Vn P e=some z) (hzn:z.length=i.size/\0 < i.size) (hd:∀k,o.dst=some k->k < N) {K:C6}
 (hx:PC e i.size i.bytes z (xv F x) (xv F x2) o.dst K F L σ) (h:Bv base g lam Pr N F L σ a w0 w) {Q:Exit->Act->World->Prop}:o.wp P a w (GK base Pr N w0 g w K) Q:=by
 obtain ⟨k,k',n,h1,h2,h0,hb,hm,hk⟩:=hx;have hs1:=Aq hy h;have hs2:=Aq hy2 h;rw [h1] at hs1;rw [h2] at hs2;have e1:a.eval y= .int k n:=by generalize a.eval y=vy at hs1;cases hs1 with|d hh=>cases hh;rfl
 have e2:a.eval y2= .int k' n:=by generalize a.eval y2=vy at hs2;cases hs2 with|d hh=>cases hh;rfl
 obtain ⟨i',zv,hi',hzv,hok,hvr⟩:=LJ hz;rw [hi] at hi';cases hi';have hzs:zv.cells.size=i.size:=by have:=(hvr g).length;simp at this;omega
 have hu:=QA he;have hw:=Ax h0 hm
 have hno:¬(i.bytes * n>2 ^ 48):=by have:(2:Int) ^ 48=281474976710656:=by decide
                                    omega
 have harr:((if n.toNat * i.size=0 then pure #[] else do pure (<- zeroValue e).cells:Sem (Array Value))).run P w= .ok (if n.toNat * i.size=0 then #[] else zv.cells) w:=by
  split<;>simp [zeroValue,typeInfo,hi,hzv]
 have hcells:∃arr:Array Value,(execOp a.eval o).run P w= .ok (.value (.slice (some ⟨w.heap.size,0,none⟩) n.toNat n.toNat)) (w.alloc (.cells arr e))/\arr.toList=(AF n.toNat zv.cells.toList).flatten:=by
  by_cases h00:n.toNat * i.size=0
  . refine ⟨#[],?_,?_⟩
    . have hr0:Wc 0=#[]:=rfl;unfold execOp;simp only [ho,e1,e2,Instr.makeSlice,Sem.run_bind,Bm hu,Result.andThen_ok,asInt,asIntOf,Sem.run_pure,typeInfo,run_program,hi,hw];have c1:¬((decide (n < 0)||decide (i.bytes * n>2 ^ 48))||decide (n < 0)||decide (n>n))=true:=by simp;omega
      simp only [if_neg c1,Sem.run_bind,run_askRoom,Result.andThen_ok,sizeOf,typeInfo,run_program,hi,Sem.run_pure];simp only [h00,if_true,pure_bind,hr0,Array.map_empty,newRow,Sem.run_bind,run_newObj,Result.andThen_ok,Sem.run_pure,World.alloc_eq]
    . have:n.toNat=0:=by
       rcases Nat.mul_eq_zero.1 h00 with h|h
       . exact h
       . omega
      simp [this]
  . refine ⟨(Wc (n.toNat * i.size)).map (zv.cells[· % zv.cells.size]!),?_,range_zero zv.cells i.size hzs hzn.2 n.toNat⟩;unfold execOp;simp only [ho,e1,e2,Instr.makeSlice,Sem.run_bind,Bm hu,Result.andThen_ok,asInt,asIntOf,Sem.run_pure,typeInfo,run_program,hi,hw];have c1:¬((decide (n < 0)||decide (i.bytes * n>2 ^ 48))||decide (n < 0)||decide (n>n))=true:=by simp;omega
    simp only [if_neg c1,Sem.run_bind,run_askRoom,Result.andThen_ok,sizeOf,typeInfo,run_program,hi,Sem.run_pure];simp only [if_neg h00,Sem.run_bind,zeroValue,typeInfo,run_program,Result.andThen_ok,hi,Sem.run_pure,hzv,newRow,run_newObj,World.alloc_eq]
 obtain ⟨arr,hrun,harrl⟩:=hcells;have hr:VRs g (AF n.toNat z).flatten arr.toList:=by rw [harrl];exact (hvr g).flatten _
 have hkp:KP Pr w (w.alloc (.cells arr e)):=⟨by simp,fun b hb=>heap_alloc_old w _ b (h.rel.pr b (.inl hb)).1⟩;obtain ⟨j,hmu,_,hblk,_⟩:=h.rel.fresh
 have hasz:arr.size=n.toNat * i.size:=by
  have h1:arr.toList.length=n.toNat * zv.cells.toList.length:=by rw [harrl,Ea]
  simpa [hzs] using h1
 have hrel:=h.rel.share (rt:=some (n.toNat * i.size,e)) hmu (AW _) (h.rel.alloc (.cells arr e)) (heap_alloc_new w _) (fun t ht=>by cases ht;exact ⟨hasz,rfl⟩) hr (KR hok _) (fun hp=>by have:=(h.rel.pr _ hp).1;omega);have hle:=Gh.OI (g:=g) (i:=j) (b:=w.heap.size) (rt:=some (n.toNat * i.size,e)) hmu;have hf:=h.step hle (fun k b hb=>heap_alloc_old w _ b (h.NA hb)) hrel;refine Ht hrun ⟨_,lam,_,L,_,hle,hkp,hf.BS hd (v:= .ms j n.toNat i.size e) (SV.Fk (.ms (by simp [Gh.share]) (by simp [Gh.share]) (AW _) (by simp only [maxLen];omega))),hk j hblk⟩
theorem ACL {o:Oper} {t e:TypeId} {i:TypeInfo} {zv:Value} {y z:Operand} {x xs:X} (ho:o.op= .call { callee:= .builtin .append,args:=#[y,z],argTypes:=#[t,t]})
 (hy:xo y=some xs) (hz:xo z=some x) (ht:P.underlying t=some (.slice e)) (hi:P.info? e=some i) (hzv:i.zero=some zv) (hzs:zv.cells.size=i.size) (hd:∀k,o.dst=some k->k < N) {K:C6}
 (hx:Pm e i.size i.bytes (xv F xs) (xv F x) o.dst K F L σ) (h:Bv base g lam Pr N F L σ a w0 w) {Q:Exit->Act->World->Prop}:o.wp P a w (GK base Pr N w0 g w K) Q:=by
 obtain ⟨n,cs,σ1,srows,hpa,hqr,hss,hemp,h63,hby,hk⟩:=hx;by_cases hne:srows=[]
 . subst hne;have hsv:=Aq hy h
   have hform:∃ad cap,a.eval y= .slice ad n cap/\n<=cap:=by
    generalize a.eval y=vy at hsv;unfold Oc at hpa;split at hpa
    . rename_i heq;rw [heq] at hsv;cases hpa;cases hsv;exact ⟨_,_,rfl,AW _⟩
    . rename_i heq;rw [heq] at hsv;split at hpa
      . simp only [AB] at hpa;obtain ⟨cs0,_,hpa⟩:=hpa;split at hpa
        . cases hpa;cases hsv with
          |ms _ _ hn _=>exact ⟨_,_,rfl,hn⟩
        . cases hpa
      . cases hpa
    . cases hpa
   obtain ⟨ad,cap,hev,hnc⟩:=hform
   obtain ⟨ad2,cap2,hev2⟩:∃ad2 cap2,a.eval z= .slice ad2 0 cap2:=by
    have hq:=Aq hz h;generalize a.eval z=vz at hq
    have hn:(xv F x).BE=true:=by
     generalize xv F x=xx at hqr;cases xx<;>first|rfl|(cases hqr;done)
    obtain ⟨ad2,cap2,he⟩:=qQ (hq.vr hn) hqr;exact ⟨ad2,cap2,he⟩
   have hrun:(Builtin.append_ #[t,t] o.type #[.slice ad n cap,.slice ad2 0 cap2]).run P w= .ok (.slice ad n cap) w:=by
    have hfc:∀sz,(Builtin.firstCells sz 0 (.slice ad2 0 cap2)).run P w= .ok #[] w:=fun sz=>by
     cases ad2<;>simp [Builtin.firstCells,loadCells,loadCellsFrom]
    cases ad<;>simp [Builtin.append_,run_underlying ht,sizeOf,typeInfo,hi,Builtin.lenOf,hnc,hfc,storeCells]
   refine Ht (x:= .slice ad n cap) (w':=w) ?_ ⟨g,lam,_,L,σ,Gh.le_refl g,KP.refl Pr w,h.BS hd (hev ▸ hsv),hemp rfl⟩;unfold execOp;simp [ho,resolve,invoke,builtin,hev,hev2,hrun]
 obtain ⟨v,g',w',j,hrun,hle,hkp,hblk,hvr,hf⟩:=ACX (ty:=o.type) ht hi hzv hzs h (Aq hy h) (Aq hz h) hpa hqr hss hne h63 hby
 refine Ht (x:=v) (w':=w') ?_ ⟨g',lam,_,L,_,hle,hkp,hf.BS hd (SV.Fk hvr),hk hne j hblk⟩;unfold execOp;simp [ho,resolve,invoke,builtin,hrun]
theorem AGA {o:Oper} {t e0:TypeId} {sz:Nat} {y z:Operand} {x xh:X} (ho:o.op= .slice t y none (some z) none) (ht:P.underlying t=some (.slice e0)) (hsz:szT P e0=some sz) (hy:xo y=some x) (hz:xo z=some xh)
 (hd:∀k,o.dst=some k->k < N) {K:C6} (hx:ATF (xv F x) (xv F xh) o.dst K F L σ) (h:Bv base g lam Pr N F L σ a w0 w) {Q:Exit->Act->World->Prop}:o.wp P a w (GK base Pr N w0 g w K) Q:=by
 obtain ⟨k,s,e,cs,σ1,hv,hk⟩:=hx;obtain ⟨v,g',j,hrun,hle,hblk,hvr,hf⟩:=AKU (P:=P) ht hsz h (Aq hy h) (Aq hz h) hv;refine Ht (x:=v) (w':=w) ?_ ⟨g',lam,_,L,_,hle,KP.refl Pr w,hf.BS hd (SV.Fk hvr),hk j hblk⟩;unfold execOp;simp [ho,hrun]
theorem ACN {o:Oper} {t e:TypeId} {n len:Nat} {z:List AV} {ps:Array (Nat×Operand)} {cps:List (Nat×Nat×X)} (ho:o.op= .buildSlice t len ps) (he:T3 P t=some e) (hz:Vn P e=some z) (hn:szT P e=some n)
 (hzn:z.length=n/\0 < n/\len * n<=4096/\len<=4096) (hp:VG (fun i=>some (i * n,n)) ps.toList=some cps) (hd:∀k,o.dst=some k->k < N) {K:C6}
 (hx:We e n len (Ko (AF len z).flatten F cps) o.dst K F L σ) (h:Bv base g lam Pr N F L σ a w0 w) {Q:Exit->Act->World->Prop}:o.wp P a w (GK base Pr N w0 g w K) Q:=by
 obtain ⟨cs,hf,hk⟩:=hx;obtain ⟨hzl,h0,hsmall,hlen⟩:=hzn;obtain ⟨i,zv,hi,hzv,hok,hvr⟩:=LJ hz;have hu:=QA he;have hzs:zv.cells.size=n:=by have:=(hvr g).length;simp at this;omega
 have hinit:VRs g (AF len z).flatten ((Wc (len * n)).map (zv.cells[· % zv.cells.size]!)).toList:=by
  rw [range_zero zv.cells n hzs h0 len];exact (hvr g).flatten len
 obtain ⟨cells,hfill,hr,hck⟩:=Ul h _ ps.toList cps _ _ cs hp hinit (KR hok len) hf
 have hcl:cells.size=len * n:=by
  have h1:=hr.length;have h2:=Uk F cps _ cs hf;have h3:=Ea z len;simp at h1;rw [h1,h2,h3,hzl]
 have hrun:(Instr.buildSlice t len (ps.map fun (i,x)=>(i,a.eval x))).run P w= .ok (.slice (some ⟨w.heap.size,0,none⟩) len len) (w.alloc (.cells cells e)):=by
  have hm:(ps.map fun (i,x)=>(i,a.eval x)).toList=ps.toList.map fun p=>(p.1,a.eval p.2):=by simp
  have hno:¬(len * n>2 ^ 24):=Nat.not_lt.2 (Ap hsmall (by decide));unfold Instr.buildSlice;simp only [Sem.run_bind,Bm hu,Result.andThen_ok,FV hn,hm];rw [if_neg hno];by_cases h00:len * n=0
  . have hr0:Wc 0=#[]:=rfl;rw [h00,hr0] at hfill;simp only [h00,if_true,pure_bind,hr0,Array.map_empty] at hfill ⊢;simp only [hfill,Sem.run_bind,newRow,run_newObj,Result.andThen_ok,Sem.run_pure,World.alloc_eq]
  . simp only [if_neg h00,Sem.run_bind,zeroValue,typeInfo,run_program,Result.andThen_ok,hi,Sem.run_pure,hzv,hfill,newRow,run_newObj,World.alloc_eq]
 have hkp:KP Pr w (w.alloc (.cells cells e)):=⟨by simp,fun b hb=>heap_alloc_old w _ b (h.rel.pr b (.inl hb)).1⟩
 have hexec:(execOp a.eval o).run P w= .ok (.value (.slice (some ⟨w.heap.size,0,none⟩) len len)) (w.alloc (.cells cells e)):=by
  unfold execOp;simp [ho,hrun]
 obtain ⟨j,hmu,htau,hblk,htok⟩:=h.rel.fresh;rcases hk with hk|⟨ds,hds,hk⟩;rotate_left
 . have hown:(w.alloc (.cells cells e)).ownsRow base e n (.slice (some ⟨w.heap.size,0,none⟩) len len) (0+len) ([]++cells.toList):=
    ⟨by simp [hcl],.inr ⟨w.heap.size,len,cells,by simp,h.rel.bs,heap_alloc_new w _,by omega,by simp only [maxLen];omega,hcl,by
      rw [As,BJ,AM (by simp [hcl])]⟩⟩
   have hmine:=yU.nil base g (fun b=>Pr b\/∃k,lam k=some b) σ w e n;have hgb:w.grownBy (w.alloc (.cells cells e)) (Value.ownBlock (.slice (some ⟨w.heap.size,0,none⟩) len len)):=⟨rfl,rfl,rfl,by simp,fun k hk _=>heap_alloc_old w _ k hk⟩
   have hwh:∀k,Value.ownBlock (.slice (some ⟨w.heap.size,0,none⟩) len len)=some k->Value.ownBlock (.slice none 0 0)=some k\/w.heap.size<=k:=fun k hk=>by
    simp only [Value.ownBlock,AL] at hk;exact .inr (Nat.le_of_eq hk)
   have hrel:=h.rel.AWE (m:=len) (news:=cells.toList) hmine hown hgb hwh htau;have hle:=h.rel.wP (news:=cells.toList) hmine hwh htau;have hf2:=h.step hle (fun k b hb=>heap_alloc_old w _ b (h.NA hb)) hrel;obtain ⟨hll,hrd⟩:=Y7 cs ds hds _ (hr.mono hle);have h1:=hr.length
   have hrdv:RD (g.grow (.slice (some ⟨w.heap.size,0,none⟩) len len) e n j ([]++cells.toList)).im (.sl (chunk n len ds)) (.slice (some ⟨w.heap.size,0,none⟩) len len):=
    RD.fresh (cells:=cells.toList) (by simp at h1;omega) (by simp only [maxLen];omega) (by simpa using hcl) (fun o v hv=>by
     simp only [Gh.grow,Value.ownBlock,if_true,As];exact hv) hrd
   refine Ht (x:= .slice (some ⟨w.heap.size,0,none⟩) len len) (w':=w.alloc (.cells cells e)) hexec ⟨_,lam,_,L,_,hle,hkp,hf2.BS hd (v:= .own j e n (chunk n len ds)) (SV.Fk (.own hrdv (by simp [Gh.grow]) (fun r hr'=>?_))),hk j htok⟩;obtain ⟨k,hk1,rfl⟩:=Bt hr';have hkl:k < len:=by rw [GZ] at hk1;exact hk1
   have:=Y4 n len ds k hkl;rw [BB hk1] at this;rw [Option.some.inj this,B4,Cm];have hdl:ds.length=len * n:=by simp at h1;omega
   have h2:(k+1) * n<=len * n:=Bw _ hkl;rw [CK] at h2;omega
 have hrel:=h.rel.share (rt:=some (len * n,e)) hmu (AW _) (h.rel.alloc (.cells cells e)) (heap_alloc_new w _) (fun t ht=>by cases ht;exact ⟨hcl,rfl⟩) hr hck (fun hp=>by have:=(h.rel.pr _ hp).1;omega);have hle:=Gh.OI (g:=g) (i:=j) (b:=w.heap.size) (rt:=some (len * n,e)) hmu;have hf2:=h.step hle (fun k b hb=>heap_alloc_old w _ b (h.NA hb)) hrel;refine Ht (x:= .slice (some ⟨w.heap.size,0,none⟩) len len) (w':=w.alloc (.cells cells e)) ?_ ⟨_,lam,_,L,_,hle,hkp,hf2.BS hd (v:= .ms j len n e) (SV.Fk (.ms (by simp [Gh.share]) (by simp [Gh.share]) (AW _) (by simp only [maxLen];omega))),hk j hblk⟩;exact hexec
theorem ACO {sh im lc:Bool} {o:Oper} {c:O} (hc:tT P sh im lc o.op=some c) (hd:∀k,o.dst=some k->k < N) {K:C6} (hx:XO P o.dst K F L σ c)
 (h:Bv base g lam Pr N F L σ a w0 w) {Q:Exit->Act->World->Prop}:o.wp P a w (GK base Pr N w0 g w K) Q:=by
 have hc0:=hc;cases hop:o.op<;>rw [hop] at hc<;>simp only [tT] at hc
 case alloc t=>
  simp only [AN] at hc;obtain ⟨z,hz,rfl⟩:=hc;obtain ⟨i,zv,hi,hzv,hok,hvr⟩:=LJ hz;exact rG (ty:=t) hd hx h (hvr g) (by unfold execOp;simp [hop,Instr.alloc,zeroValue,typeInfo,hi,hzv,newVar,newRow])
 case box t y=>
  simp only [AN] at hc;obtain ⟨x,hxo,rfl⟩:=hc;cases im
  case true=>exact CA hc0 hd hx h
  have hx:Ys (xv F x).cells sh o.dst K F L σ:=hx;have hok:Aw (xv F x).cells=true:=hx.1;have hv:=((Aq hxo h).vr (Uh hok)).cells hok;exact rG (ty:=t) hd hx h hv (by unfold execOp;simp [hop,Instr.box,newVar,newRow])
 case store t y z=>
  simp only [AQ,AB] at hc;obtain ⟨x,hxo,x2,hxo2,n,hn,he⟩:=hc;cases he;exact AK6 hop hxo hxo2 hn hx h
 case makeSlice t l cc=>
  simp only [AQ,AB] at hc;obtain ⟨e,he,i,hi,z,hz,hh⟩:=hc;split at hh
  . rename_i hcond;simp only [AB] at hh;obtain ⟨xl,hxl,xc,hxc,hh⟩:=hh;cases hh;exact AF9 hop hxl hxc he hi hz hcond hd hx h
  . cases hh
 case call cl=>
  obtain ⟨callee,⟨args⟩,⟨argTypes⟩⟩:=cl;unfold dB at hc;cases callee with
  |invoke r m=>cases hc
  |value fo=>
   cases fo<;>simp only at hc
   . rename_i n;simp only [AN] at hc;obtain ⟨xs,hxs,rfl⟩:=hc;obtain ⟨f,first,caps,hfn,hbody,hx⟩:=hx;have hall:=hx.1;simp only [List.all_append,AO] at hall;have hs:SV g lam (.fn f first caps) (a.tmps.getD n Cu):=by have:=h.tm n;simp only [xv] at hfn;rwa [hfn] at this
     have hargs:=UT h args xs hxs hall.1.2;generalize hvn:a.tmps.getD n Cu=vn at hs;cases hs with
     |@fn _ _ _ fs cs hl hl' h1 h2=>
      refine kF (vs:=fs++args.map a.eval++cs) ?_ hd (((VRs.Sm _ _ hl h1).append hargs).append (VRs.Sm _ _ hl' h2)) hx h;unfold execOp;simp only [hop,resolve,Act.eval,hvn,Deferred.ofValue,Sem.run_bind,Sem.run_pure,Result.andThen_ok,invoke];rw [fE hbody];simp
   . cases hc
   . cases hc
   . rename_i f;split at hc
     . rename_i hb;simp only [AN] at hc;obtain ⟨xs,hxs,rfl⟩:=hc;have hall:(xvs F xs).all AV.BE=true:=hx.1;refine kF (vs:=args.map a.eval) ?_ hd (UT h args xs hxs hall) hx h;unfold execOp;simp only [hop,resolve,Act.eval,Deferred.ofValue,Sem.run_bind,Sem.run_pure,Result.andThen_ok,invoke];rw [fE hb];simp
     . cases hc
  |builtin b=>
   simp only at hc;unfold ALV at hc;split at hc
   . rename_i x t
     have:∃x',c= .len x'\/c= .AKK x':=by
      cases hu:P.underlying t with
      |none=>rw [hu] at hc;cases hc
      |some d=>
       rw [hu] at hc;cases d<;>try (cases hc;done)
       . simp only [AN] at hc;obtain ⟨xx,_,rfl⟩:=hc;exact ⟨xx,.inr rfl⟩
       . simp only [AN] at hc;obtain ⟨xx,_,rfl⟩:=hc;exact ⟨xx,.inl rfl⟩
     obtain ⟨x',rfl|rfl⟩:=this
     . exact CA hc0 hd hx h
     . exact CA hc0 hd hx h
   . simp only [AQ,AB] at hc;obtain ⟨x,_,x2,_,hh⟩:=hc;cases hh;exact CA hc0 hd hx h
   . simp only [AQ,AB] at hc;obtain ⟨x,_,x2,_,x3,_,hh⟩:=hc;cases hh;exact CA hc0 hd hx h
   . simp only [AQ,AB] at hc;obtain ⟨x,_,x2,_,hh⟩:=hc;cases hh;exact CA hc0 hd hx h
   . simp only [AQ,AB] at hc;obtain ⟨e,he,i,hi,z,hz,hh⟩:=hc;split at hh
     . rename_i hcond;obtain ⟨rfl,hzs,hpos⟩:=hcond;simp only [AB] at hh;obtain ⟨xs,hxs,x,hx',hh⟩:=hh;cases sh
       . cases hh;exact AF8 hop hxs hx' (QA he) hi hz hzs hd hx h
       . cases hh;exact ACL hop hxs hx' (QA he) hi hz hzs hd hx h
     . cases hh
   . cases hc
 case move y=>
  simp only [AN] at hc;obtain ⟨x,_,rfl⟩:=hc;exact CA hc0 hd hx h
 case assign y=>
  simp only [AN] at hc;obtain ⟨x,_,rfl⟩:=hc;exact CA hc0 hd hx h
 case extract y i=>
  simp only [AN] at hc;obtain ⟨x,_,rfl⟩:=hc;exact CA hc0 hd hx h
 case nilCheck y=>
  simp only [AN] at hc;obtain ⟨x,_,rfl⟩:=hc;exact CA hc0 hd hx h
 case pick y1 y2 y3=>
  simp only [AQ,AB] at hc;obtain ⟨_,_,_,_,_,_,he⟩:=hc;cases he;exact CA hc0 hd hx h
 case fieldAddr s y f=>
  simp only [AQ,AB] at hc;obtain ⟨_,_,_,_,he⟩:=hc;cases he;exact CA hc0 hd hx h
 case load t y=>
  simp only [AQ,AB] at hc;obtain ⟨_,_,_,_,he⟩:=hc;cases lc
  . cases he;exact CA hc0 hd hx h
  . cases he;exact CA hc0 hd hx h
 case indexAddr t y i=>
  simp only [AQ,AB] at hc;obtain ⟨_,_,_,_,_,_,_,_,he⟩:=hc;cases he;exact CA hc0 hd hx h
 case index t y i=>
  split at hc
  . simp only [AQ,AB] at hc;obtain ⟨_,_,_,_,he⟩:=hc;cases he;exact CA hc0 hd hx h
  . cases hc
 case field s y f=>
  simp only [AQ,AB] at hc;obtain ⟨_,_,_,_,_,_,he⟩:=hc;cases he;exact CA hc0 hd hx h
 case slice t y lo hi mx=>
  cases hu:P.underlying t with
  |none=>rw [hu] at hc;cases hc
  |some d=>
   rw [hu] at hc;cases d<;>try (cases hc;done)
   . cases mx with
     |some _=>cases hc
     |none=>
      simp only [AQ,AB] at hc;obtain ⟨x,hx',xl,hxl,xh,hxh,hh⟩:=hc;cases hh;exact CA hc0 hd hx h
   . rename_i e;cases sh
     . simp only [A3,if_false,AQ,AB] at hc;obtain ⟨x,hx',xl,hxl,xh,hxh,xm,hxm,sz,hsz,hh⟩:=hc;cases hh;exact CA hc0 hd hx h
     . simp only [if_true] at hc;obtain ⟨rfl,z,rfl,rfl,x,xh,sz,hx',hxh,hsz,rfl⟩:=vN hc;exact AGA hop hu hsz hx' hxh hd hx h
 case binOp op t y z t2=>
  cases hu:P.underlying t with
  |none=>rw [hu] at hc;cases hc
  |some dd=>
  rw [hu] at hc;cases dd<;>try (cases hc;done)
  case pointer e=>
   obtain ⟨_,ne,x,_,_,rfl⟩:=pT hc;exact CA hc0 hd hx h
  case struct fs=>
   have hc:(if To P t then vK op fs.size y z else none)=some c:=hc;split at hc
   . obtain ⟨ne,x,xi,_,_,_,rfl⟩:=qU hc;exact CA hc0 hd hx h
   . cases hc
  all_goals first
   |(cases hc;done)
   |(simp only [AQ,AB] at hc
     obtain ⟨_,_,_,_,he⟩:=hc;cases he;exact CA hc0 hd hx h)
 case unOp op t y=>
  simp only [AQ,AB] at hc;obtain ⟨_,_,he⟩:=hc;cases he;exact CA hc0 hd hx h
 case convert s t y=>
  split at hc
  . simp only [AQ,AB] at hc;obtain ⟨_,_,he⟩:=hc;cases he;exact CA hc0 hd hx h
  . cases hc
 case build t ps=>
  simp only [AQ,AB] at hc;obtain ⟨_,_,_,_,_,_,he⟩:=hc;cases he;exact CA hc0 hd hx h
 case buildSlice t len ps=>
  simp only [AQ,AB] at hc;obtain ⟨_,_,_,_,_,_,hh⟩:=hc;split at hh
  . rename_i hcond;simp only [AB] at hh;obtain ⟨cps,hcps,hh⟩:=hh;cases sh
    . cases hh;exact CA hc0 hd hx h
    . cases hh;exact ACN hop ‹_› ‹_› ‹_› hcond hcps hd hx h
  . cases hh
 case makeFunc fn first caps=>
  cases fn<;>simp only [AQ,AB] at hc<;>try (cases hc;done)
  obtain ⟨_,_,_,_,hh⟩:=hc;cases hh;exact CA hc0 hd hx h
 all_goals (cases hc;done)
theorem vR {o:Oper} {m:Sem Value} (ho:∀x w',m.run P w= .ok x w'->(execOp a.eval o).run P w= .ok (.value x) w') {K:C6} (hd:∀k,o.dst=some k->k < N)
 (h:PA P m base g lam Pr N F L a w0 w (fun v σ'=>K (BS o.dst v F) L σ')) {Q:Exit->Act->World->Prop}:o.wp P a w (GK base Pr N w0 g w K) Q:=by
 obtain ⟨x,g',w',v,σ',hrun,hle,hkp,hvr,hf,hR⟩:=h;exact Ht (ho x w' hrun) ⟨g',lam,_,L,σ',hle,hkp,hf.BS hd (SV.Fk hvr),hR⟩
theorem AQE {k:EK} {args:List AV} {v:AV} (h:exP k args=some v):args.all AV.BE=true/\AL9 k args=some v:=by
 unfold exP at h;split at h
 . exact ⟨by assumption,h⟩
 . cases h
theorem VV {m:Sem Value} {x:Value} (hr:m.run P w= .ok x w'):((do let v <- m;pure (.value v):Sem Next)).run P w= .ok (.value x) w':=by
 simp only [Sem.run_bind,hr,Result.andThen_ok,Sem.run_pure]
theorem AK4 {sh im:Bool} {o:Oper} {c:O} (hc:ALW P sh im o.op=some c) (hd:∀k,o.dst=some k->k < N) {K:C6} (hx:XO P o.dst K F L σ c)
 (h:Bv base g lam Pr N F L σ a w0 w) {Q:Exit->Act->World->Prop}:o.wp P a w (GK base Pr N w0 g w K) Q:=by
 unfold ALW at hc;split at hc
 . rename_i t hop;split at hc
   . simp only [AN] at hc;obtain ⟨z,hz,rfl⟩:=hc;have hx:([]:List AV).all AV.BE=true/\ExR σ (fun v σ'=>K (BS o.dst v F) L σ') (.alt t z) []:=hx;obtain ⟨x,w',hrun,g',v,σ',h1,h2,h3,h4,h5⟩:=AHL (P:=P) hz h hx.2;exact Ht (hrun o hop) ⟨g',lam,_,L,σ',h1,h2,h4.BS hd (SV.Fk h3),h5⟩
   . cases hc
 . rename_i op t x y t2 hop;split at hc
   . rename_i e hu;split at hc
     . simp only [AN] at hc;obtain ⟨xx,hxx,rfl⟩:=hc;have hx:[xv F xx].all AV.BE=true/\ExR σ (fun v σ'=>K (BS o.dst v F) L σ') (.tC false) [xv F xx]:=hx;have hv:=(Aq hxx h).vr (by simpa using hx.1);exact vR (fun z w' hr=>by unfold execOp;simp only [hop];exact VV hr) hd (qS (ne:=false) hu h hv hx.2 x (.const (.slice none 0 0)))
     . simp only [AN] at hc;obtain ⟨xx,hxx,rfl⟩:=hc;have hx:[xv F xx].all AV.BE=true/\ExR σ (fun v σ'=>K (BS o.dst v F) L σ') (.tC true) [xv F xx]:=hx;have hv:=(Aq hxx h).vr (by simpa using hx.1);exact vR (fun z w' hr=>by unfold execOp;simp only [hop];exact VV hr) hd (qS (ne:=true) hu h hv hx.2 x (.const (.slice none 0 0)))
     . cases hc
   . cases hc
 . rename_i mt hop;cases hc;have hx:([]:List AV).all AV.BE=true/\ExR σ (fun v σ'=>K (BS o.dst v F) L σ') .mmk []:=hx;exact vR (m:=Instr.makeMap mt none) (fun z w' hr=>by unfold execOp;simp only [hop,Option.map_none];exact VV hr) hd (AJN (mt:=mt) h hx.2)
 . rename_i mt x y hop;split at hc
   . rename_i k e hm;split at hc
     . rename_i hcond;simp only [AB,AN] at hc;obtain ⟨xx,hxx,yy,hyy,rfl⟩:=hc;have hx:[xv F xx,xv F yy].all AV.BE=true/\ExR σ (fun v σ'=>K (BS o.dst v F) L σ') .AJM [xv F xx,xv F yy]:=hx;have hn:=hx.1;simp only [Bk,GM,B7,AO] at hn;exact vR (fun z w' hr=>by unfold execOp;simp only [hop];exact VV hr) hd (AA3 hm hcond.1 hcond.2 h ((Aq hxx h).vr hn.1) ((Aq hyy h).vr hn.2) hx.2)
     . cases hc
   . cases hc
 . rename_i mt x y z hop;split at hc
   . rename_i k e hm;split at hc
     . rename_i hcond;simp only [AB,AN] at hc;obtain ⟨xx,hxx,yy,hyy,zz,hzz,rfl⟩:=hc;obtain ⟨hdst,t,es,n,x0,e1,e2,e3,ht,hno,hk⟩:=(show tI (xv F xx) (xv F yy) (xv F zz) o.dst K F L σ from hx);have h1:=(Aq hxx h).vr (by rw [e1];rfl);have h2:=(Aq hyy h).vr (by rw [e2];rfl);have h3:=(Aq hzz h).vr (by rw [e3];rfl);rw [e1] at h1;rw [e2] at h2;rw [e3] at h3;obtain ⟨g',w',t',hrun,hle,hkp,htok,hf⟩:=AEX (P:=P) hm (oU hcond) h h1 h2 h3 ht hno
       have:(execOp a.eval o).run P w= .ok .skip w':=by
        unfold execOp;simp only [hop,Sem.run_bind,hrun,Result.andThen_ok,Sem.run_pure]
       unfold Oper.wp;rw [this];show GK base Pr N w0 g w K (a.put o.dst Cu) w';rw [hdst];exact ⟨g',lam,_,L,_,hle,hkp,hf,hk t' htok⟩
     . cases hc
   . cases hc
 . rename_i cl hop;obtain ⟨callee,⟨args⟩,⟨argTypes⟩⟩:=cl;simp only at hc;split at hc
   . rename_i b;unfold ALX at hc;split at hc
     . rename_i s x t u;simp only [AB] at hc;obtain ⟨e,he,i,hi,hc⟩:=hc;split at hc
       . split at hc
         . rename_i hcond;obtain ⟨rfl,hpos,hby,hzz⟩:=hcond;obtain ⟨z0,hz0,hzs0⟩:=AN.1 hzz;simp only [AB,AN] at hc;obtain ⟨xs,hxs,xx,hxx,rfl⟩:=hc;have hx:[xv F xs,xv F xx].all AV.BE=true/\ExR σ (fun v σ'=>K (BS o.dst v F) L σ') (.y6 e i.size) [xv F xs,xv F xx]:=hx;have hn:=hx.1;simp only [Bk,GM,B7,AO] at hn;exact vR (fun z w' hr=>by unfold execOp;simp [hop,resolve,invoke,builtin,hr]) hd (ACY (ty:=o.type) (QA he) hi h ((Aq hxs h).vr hn.1) ((Aq hxx h).vr hn.2) hx.2 hpos hz0 hzs0 hby)
         . cases hc
       . cases hc
     . rename_i x t;split at hc
       . rename_i k e hm;simp only [AN] at hc;obtain ⟨xx,hxx,rfl⟩:=hc;have hx:[xv F xx].all AV.BE=true/\ExR σ (fun v σ'=>K (BS o.dst v F) L σ') .AEV [xv F xx]:=hx;exact vR (fun z w' hr=>by unfold execOp;simp [hop,resolve,invoke,builtin,hr]) hd (AA4 (ty:=o.type) hm h ((Aq hxx h).vr (by simpa using hx.1)) hx.2)
       . cases hc
     . cases hc
   . cases hc
 . cases hc
def ADL (P:Program) (sh im lc:Bool) (op:Op):Option O:=
 match ALW P sh im op with
 |some c=>some c
 |none=>tT P sh im lc op
theorem rH {sh im lc:Bool} {o:Oper} {c:O} (hc:ADL P sh im lc o.op=some c) (hd:∀k,o.dst=some k->k < N) {K:C6} (hx:XO P o.dst K F L σ c)
 (h:Bv base g lam Pr N F L σ a w0 w) {Q:Exit->Act->World->Prop}:o.wp P a w (GK base Pr N w0 g w K) Q:=by
 unfold ADL at hc;split at hc
 . rename_i he;cases hc;exact AK4 he hd hx h
 . exact ACO hc hd hx h
def tU (P:Program) (N:Nat) (esc:List Nat) (ops:Array Oper) (o:Oper):Option Q:=do
 let c <- ADL P (o.dst.any esc.contains) (o.dst.any fun d=>esc.contains (d+100000)) (o.dst.any fun d=>esc.contains (d+300000)) o.op
 if o.dst.all (· < N) then
  match o.guard with
  |none=>some ⟨o.dst,c,none⟩
  |some (j,want)=>do
   let s <- (ops[j]?).bind (·.dst)
   if s < N then some ⟨o.dst,c,some (s,want)⟩ else none
                                      else none
def Pz (P:Program) (N:Nat) (esc:List Nat) (ops:Array Oper):List Nat->Option (List Q)
 |[]=>some []
 |i::l=>do
  let o <- ops[i]?
  let q <- tU P N esc ops o
  some (q::(<- Pz P N esc ops l))
def gdV (want:Bool):AV->Option Bool
 | .d (.bool b)=>some (b==want)
 | .tup []=>some false
 |_=>none
def gd (F:Fm):Option (Nat×Bool)->Option Bool
 |none=>some true
 |some (s,want)=>gdV want (F s)
def XG (c:Option Bool) (yes no:Prop):Prop:=
 match c with
 |some true=>yes
 |some false=>no
 |none=>False
def XQ (P:Program) (q:Q) (K:C6) (F:Fm) (L:Lm) (σ:AI):Prop:=
 XG (gd F q.grd) (XO P q.dst K F L σ q.o) (K (BS q.dst (.tup []) F) L σ)
def Bc (P:Program) (K:C6):List Q->C6
 |[]=>K
 |q::rest=>XQ P q (Bc P K rest)
theorem ACP {ops:Array Oper} {esc:List Nat} {i:Nat} {o:Oper} {q:Q} (ho:ops[i]?=some o) (hq:tU P N esc ops o=some q) {K:C6} (hx:XQ P q K F L σ)
 (h:Bv base g lam Pr N F L σ a w0 w) {Q:Exit->Act->World->Prop}:wpOp P ops Q i (GK base Pr N w0 g w K) a w:=by
 simp only [tU,AQ,AB] at hq;obtain ⟨c,hco,hq⟩:=hq;split at hq
 case isFalse=>cases hq
 rename_i hdst;have hd:∀k,o.dst=some k->k < N:=fun k hk=>by rw [hk] at hdst;simpa using hdst
 have skip:K (BS o.dst (.tup []) F) L σ->GK base Pr N w0 g w K (a.put o.dst Cu) w:=fun hx=>
  ⟨g,lam,_,L,σ,Gh.le_refl g,KP.refl Pr w,h.BS hd (SV.Fk (x:= .tup []) (v:=Cu) (VR.tup (cs:=[]) (vs:=[]) rfl (by simp))),hx⟩
 simp only [wpOp,ho];cases hgd:o.guard with
 |none=>
  rw [hgd] at hq;simp only [AL] at hq;subst hq;have hx:XO P o.dst K F L σ c:=hx;have hw:Region.wanted o (yielded ops a.tmps)=true:=by simp [Region.wanted,hgd]
  simp only [hw,if_true];exact .inl (rH hco hd hx h)
 |some gw=>
  obtain ⟨j,want⟩:=gw;rw [hgd] at hq;simp only [AB] at hq;obtain ⟨s,hs,hq⟩:=hq;split at hq
  case isFalse=>cases hq
  rename_i hsN;cases hq;simp only [XQ,gd] at hx
  have hts:a.tmps[s]?=some (a.tmps.getD s Cu):=by
   have:s < a.tmps.size:=by rw [h.sz];exact hsN
   simp [this]
  have hsv:=h.tm s
  have hyield:∀v,a.tmps.getD s Cu=v->yielded ops a.tmps j=match v with| .bool b=>some b|_=>none:=by
   intro v hv;unfold yielded;obtain ⟨oj,hoj,hdj⟩:=hs;simp only [hoj,El,hdj,hts,hv];cases v<;>rfl
  generalize hvv:a.tmps.getD s Cu=vv at hsv;have hy:=hyield vv hvv;generalize hFs:F s=fs at hsv hx;unfold gdV at hx;split at hx
  . rename_i b;cases hsv with
    |@d _ _ hh=>
     cases hh with
     |bool=>
      simp only at hy;by_cases hbw:b=want
      . have hw:Region.wanted o (yielded ops a.tmps)=true:=by simp [Region.wanted,hgd,hy,hbw]
        simp only [hw,if_true];simp only [hbw,BEq.rfl,XG] at hx;exact .inl (rH hco hd hx h)
      . have hw:Region.wanted o (yielded ops a.tmps)=false:=by simp [Region.wanted,hgd,hy,hbw]
        have hb2:(b==want)=false:=by simp [hbw]
        simp only [hw,A3,if_false];simp only [hb2,XG] at hx;exact skip hx
  . cases hsv with
    |tup hl _=>
     simp only at hy;have hw:Region.wanted o (yielded ops a.tmps)=false:=by simp [Region.wanted,hgd,hy]
     simp only [hw,A3,if_false];exact skip hx
  . exact hx.elim
theorem rI (P:Program) (ops:Array Oper) (N:Nat) (esc:List Nat) (K:C6) {Q:Exit->Act->World->Prop}:∀(l:List Nat) (qs:List Ab.Q) (base:Nat) (g:Gh) (lam:Nat->Option Nat) (Pr:Nat->Prop) (F:Fm) (L:Lm) (σ:AI) (a:Act) (w0 w:World),
 Pz P N esc ops l=some qs->Bc P K qs F L σ->Bv base g lam Pr N F L σ a w0 w->(∀a' w',GK base Pr N w0 g w K a' w'->Q .normal a' w')->wpOps P ops Q l a w
 |[],qs,base,g,lam,Pr,F,L,σ,a,w0,w,hc,hx,h,hQ=>by
  simp only [Pz,AL] at hc;subst hc;exact hQ _ _ ⟨g,lam,F,L,σ,Gh.le_refl g,KP.refl Pr w,h,hx⟩
 |i::l,qs,base,g,lam,Pr,F,L,σ,a,w0,w,hc,hx,h,hQ=>by
  simp only [Pz,AQ,AB] at hc;obtain ⟨o,ho,q,hq,qs',hqs,he⟩:=hc;cases he;rw [wpOps_cons];refine wpOp_mono ?_ (ACP ho hq hx h);rintro a' w' ⟨g',lam',F',L',σ',h1,h2,h3,h4⟩;exact rI P ops N esc K l qs' base g' lam' Pr F' L' σ' a' w0 w' hqs h4 h3 (fun a2 w2 hA=>hQ _ _ (GK.trans h1 h2 hA))
end Go.Ab
namespace Go.Ab
open Go.RowKit
variable {P:Program} {base N:Nat} {g g':Gh} {Pr:Nat->Prop} {σ σ':AI} {w0 w w':World} {lam:Nat->Option Nat} {F:Fm} {L:Lm} {a:Act}
def isV:O->Bool
 | .box _ _| .al _ _| .st _ _ _| .msl _ _ _ _ _ _| .app _ _ _ _ _| .call _ _| .Zh _ _| .rM _ _ _ _ _| .trn _ _| .kJ _ _ _ _ _| .iC _ _ _=>false
 | .ex k _=>k.pure
 |_=>true
def vC:O->Bool
 | .ld _ _| .jZ _ _| .ldl _ _=>false
 |o=>isV o
def AM4:O->Bool
 | .ldl _ _=>true
 |o=>vC o
def xP:O->Bool
 | .st _ _ _| .iC _ _ _=>false
 | .box _ sh| .al _ sh=>sh
 |_=>true
def kC:O->Bool
 | .box _ sh| .al _ sh=>sh
 | .iC _ _ _=>false
 |_=>true
def Sz:X->List Nat
 | .t n=>[n]
 | .c _=>[]
def ACB (l:List X):List Nat:=l.flatMap Sz
def vM:Option X->List Nat
 |none=>[]
 |some x=>Sz x
def Lt:O->List Nat
 | .mv x| .fld x _| .ld x _| .len x| .AKK x| .un _ x| .conv _ x| .ext x _| .nck x| .box x _| .ldl x _| .fd x _ _| .AE8 _ x| .ALK x=>Sz x
 | .ssl x lo hi=>Sz x++vM lo++vM hi
 | .sls x lo hi mx _=>Sz x++vM lo++vM hi++vM mx
 | .mm3 _ x y z| .iC x y z=>Sz x++Sz y++Sz z
 | .AFV _ _ x y=>Sz x++Sz y
 | .pick x y z=>Sz x++Sz y++Sz z
 | .ix x y _| .AOM x y| .bin _ x y| .ALJ _ x y| .mm _ x y| .st x y _| .msl _ _ _ _ x y| .app _ _ _ x y| .rM _ _ _ x y| .trn x y=>Sz x++Sz y
 | .bld _ ps| .bsl _ _ _ ps| .kJ _ _ _ _ ps=>ps.flatMap fun p=>Sz p.2.2
 | .mkf _ x y=>ACB x++ACB y
 | .al _ _=>[]
 | .call _ args| .jZ _ args| .ex _ args=>ACB args
 | .Zh x args=>Sz x++ACB args
def Q.looks (q:Q):List Nat:=Lt q.o++(match q.grd with|some (s,_)=>[s]|none=>[])
theorem B6 {F F':Fm} {x:X} (h:∀s∈Sz x,F s=F' s):xv F x=xv F' x:=by
 cases x with
 |t n=>exact h n (by simp [Sz])
 |c v=>rfl
theorem UU {F F':Fm} {x:Option X} (h:∀s∈vM x,F s=F' s):x.map (xv F)=x.map (xv F'):=by
 cases x with
 |none=>rfl
 |some x=>simp only [Ah];rw [B6 h]
theorem Hw {F F':Fm} {l:List X} (h:∀s∈ACB l,F s=F' s):xvs F l=xvs F' l:=by
 unfold xvs;refine DL fun x hx=>B6 fun s hs=>h s ?_;exact List.mem_flatMap.2 ⟨x,hx,hs⟩
theorem Rb {F F':Fm}:∀(ps:List (Nat×Nat×X)) (z:List AV),(∀s∈ps.flatMap (fun p=>Sz p.2.2),F s=F' s)->Ko z F ps=Ko z F' ps
 |[],z,_=>rfl
 |(off,n,x)::ps,z,h=>by
  have e:xv F x=xv F' x:=B6 fun s hs=>h s (by simp [hs]);simp only [Ko,e];rw [Rb ps _ (fun s hs=>h s (by simp only [EE,A0];exact .inr hs))]
theorem AN4 {F F':Fm} {o:O} (h:∀s∈Lt o,F s=F' s):pv F L σ o=pv F' L σ o:=by
 cases o<;>simp only [Lt,A0] at h<;>simp only [pv]<;>first
  |rw [B6 h]
  |rw [B6 (fun s hs=>h s (.inl (.inl (.inl hs)))),UU (fun s hs=>h s (.inl (.inl (.inr hs)))),UU (fun s hs=>h s (.inl (.inr hs))),UU (fun s hs=>h s (.inr hs))]
  |rw [B6 (fun s hs=>h s (.inl (.inl hs))),UU (fun s hs=>h s (.inl (.inr hs))),UU (fun s hs=>h s (.inr hs))]
  |rw [B6 (fun s hs=>h s (.inl hs)),B6 (fun s hs=>h s (.inr hs))]
  |rw [B6 (fun s hs=>h s (.inl (.inl hs))),B6 (fun s hs=>h s (.inl (.inr hs))),B6 (fun s hs=>h s (.inr hs))]
  |rw [Rb _ _ h]
  |rw [Hw h]
  |rw [Hw (fun s hs=>h s (.inl hs)),Hw (fun s hs=>h s (.inr hs))]
  |rfl
theorem ARO {o:O} (h:vC o=true) (L':Lm) (σ':AI):pv F L σ o=pv F L' σ' o:=by
 cases o<;>first|rfl|(cases h;done)
theorem AUH {o:O} (h:AM4 o=true) (σ':AI):pv F L σ o=pv F L σ' o:=by
 cases o<;>first|rfl|(cases h;done)
def Yv (P:Program) (F:Fm) (L:Lm) (σ:AI) (v:AV):O->Prop
 | .jZ f args=>(xvs F args).all AV.BE=true/\v.BE=true/\AT P f (xvs F args) σ (fun v' σ'=>v'=v/\σ'=σ)
 |o=>pv F L σ o=some v
theorem mR {F F':Fm} {v:AV} {o:O} (h:∀s∈Lt o,F s=F' s) (hy:Yv P F L σ v o):Yv P F' L σ v o:=by
 cases o<;>first
  |(simp only [Yv] at hy ⊢;rw [<- AN4 h];exact hy)
  |(simp only [Yv,Lt] at *;rw [<- Hw h];exact hy)
theorem APL {v:AV} {o:O} (h:vC o=true) (L':Lm) (σ':AI) (hy:Yv P F L σ v o):Yv P F L' σ' v o:=by
 cases o<;>first|(cases h;done)|(simp only [Yv] at hy ⊢;rw [<- ARO h L' σ'];exact hy)
theorem ATH {v:AV} {o:O} (h:AM4 o=true) (σ':AI) (hy:Yv P F L σ v o):Yv P F L σ' v o:=by
 cases o<;>first|(cases h;done)|(simp only [Yv] at hy ⊢;rw [<- AUH h σ'];exact hy)
theorem AHJ {o:O} (h:isV o=true) (dst:Option Nat) (K:C6):XO P dst K F L σ o↔∃v,Yv P F L σ v o/\K (BS dst v F) L σ:=by
 cases o<;>try (cases h;done)
 case jZ f args=>
  simp only [XO,mP,Yv];constructor
  . rintro ⟨h1,v,h2,h3⟩;exact ⟨v,⟨h1,h2⟩,h3⟩
  . rintro ⟨v,⟨h1,h2⟩,h3⟩;exact ⟨h1,v,h2,h3⟩
 all_goals
  simp only [XO,Yv];constructor
  . intro hx;unfold XPv at hx;split at hx
    . rename_i v hv;exact ⟨v,hv,hx⟩
    . exact hx.elim
  . rintro ⟨v,hv,hk⟩;rw [hv];exact hk
def YQ (P:Program) (q:Q) (F:Fm) (L:Lm) (σ:AI) (v:AV):Prop:=XG (gd F q.grd) (Yv P F L σ v q.o) (v= .tup [])
theorem oH {F F':Fm} {q:Q} (h:∀s∈q.looks,F s=F' s):gd F q.grd=gd F' q.grd:=by
 cases hg:q.grd with
 |none=>rfl
 |some gw=>
  obtain ⟨s,want⟩:=gw;simp only [gd];rw [h s (by simp [Q.looks,hg])]
theorem mQ {F F':Fm} {q:Q} {v:AV} (h:∀s∈q.looks,F s=F' s) (hy:YQ P q F L σ v):YQ P q F' L σ v:=by
 have h1:∀s∈Lt q.o,F s=F' s:=fun s hs=>h s (by simp [Q.looks,hs]);unfold YQ at hy ⊢;rw [<- oH h];cases hc:gd F q.grd with
 |none=>rw [hc] at hy;exact hy.elim
 |some b=>rw [hc] at hy;cases b<;>first|exact hy|exact mR h1 hy
theorem APK {q:Q} {v:AV} (h:vC q.o=true) (L':Lm) (σ':AI) (hy:YQ P q F L σ v):YQ P q F L' σ' v:=by
 unfold YQ at hy ⊢;cases hc:gd F q.grd with
 |none=>rw [hc] at hy;exact hy.elim
 |some b=>rw [hc] at hy;cases b<;>first|exact hy|exact APL h L' σ' hy
theorem ATG {q:Q} {v:AV} (h:AM4 q.o=true) (σ':AI) (hy:YQ P q F L σ v):YQ P q F L σ' v:=by
 unfold YQ at hy ⊢;cases hc:gd F q.grd with
 |none=>rw [hc] at hy;exact hy.elim
 |some b=>rw [hc] at hy;cases b<;>first|exact hy|exact ATH h σ' hy
theorem ALC {q:Q} (h:isV q.o=true) (K:C6):XQ P q K F L σ↔∃v,YQ P q F L σ v/\K (BS q.dst v F) L σ:=by
 unfold XQ YQ;cases hc:gd F q.grd with
 |none=>exact ⟨fun hk=>hk.elim,fun ⟨_,hv,_⟩=>hv.elim⟩
 |some b=>
  cases b
  . exact ⟨fun hk=>⟨_,rfl,hk⟩,fun ⟨v,hv,hk⟩=>by have hv:v= .tup []:=hv;subst hv;exact hk⟩
  . exact AHJ h q.dst K
theorem APJ {o:O} {dst:Option Nat} {K K':C6} (htm:kC o=true) (hk:∀u L' σ',K (BS dst u F) L' σ'->K' (BS dst u F) L' σ') (hx:XO P dst K F L σ o):XO P dst K' F L σ o:=by
 have hF:dst=none->∀L' σ',K F L' σ'->K' F L' σ':=fun hd L' σ' h=>by have:=hk .undef L' σ';rw [hd] at this;exact this h
 by_cases hV:isV o=true
 . rw [AHJ hV] at hx ⊢;obtain ⟨v,h1,h2⟩:=hx;exact ⟨v,h1,hk _ _ _ h2⟩
 . cases o<;>simp only [isV,not_true_eq_false] at hV
   case box x sh=>
    simp only [XO,Ys] at hx ⊢;refine ⟨hx.1,?_⟩;have hx:=hx.2;cases dst with
    |none=>exact hx.elim
    |some d=>
     cases sh with
     |true=>exact fun i hi=>hk (.gp i 0) _ _ (hx i hi)
     |false=>cases htm
   case al z sh=>
    simp only [XO,Ys] at hx ⊢;refine ⟨hx.1,?_⟩;have hx:=hx.2;cases dst with
    |none=>exact hx.elim
    |some d=>
     cases sh with
     |true=>exact fun i hi=>hk (.gp i 0) _ _ (hx i hi)
     |false=>cases htm
   case st x v n=>
    simp only [XO,XSt] at hx ⊢;obtain ⟨h1,h2,h3,h4⟩:=hx;refine ⟨h1,h2,h3,?_⟩;split at h4
    . exact hF h1 _ _ h4
    . exact h4.elim
   case msl e s b z l c=>
    obtain ⟨k,k',n,h1,h2,h3,h4,h5,h6⟩:=hx;exact ⟨k,k',n,h1,h2,h3,h4,h5,fun i hi=>hk _ _ _ (h6 i hi)⟩
   case rM e s b x y=>
    obtain ⟨n,cs,σ1,srows,h1,h2,h3,h4,h5,h6,h7⟩:=hx;exact ⟨n,cs,σ1,srows,h1,h2,h3,fun e=>hk _ _ _ (h4 e),h5,h6,fun e t ht=>hk _ _ _ (h7 e t ht)⟩
   case trn x y=>
    obtain ⟨k,s,e,cs,σ1,h1,h2⟩:=hx;exact ⟨k,s,e,cs,σ1,h1,fun t ht=>hk _ _ _ (h2 t ht)⟩
   case kJ e s l z ps=>
    obtain ⟨cs,h1,h2⟩:=hx;exact ⟨cs,h1,h2.imp (fun h2 t ht=>hk _ _ _ (h2 t ht)) fun ⟨ds,h3,h5⟩=>⟨ds,h3,fun t ht=>hk _ _ _ (h5 t ht)⟩⟩
   case app e s b x y=>
    rcases hx with ⟨rows,σ1,srows,h1,h2,h3,h4,h5,h6⟩|⟨rows,srows,h1,h2,h3,h4,h5,h6,h7⟩
    . exact .inl ⟨rows,σ1,srows,h1,h2,h3,h4,h5,fun t ht=>hk _ _ _ (h6 t ht)⟩
    . exact .inr ⟨rows,srows,h1,h2,h3,h4,h5,h6,hk _ _ _ h7⟩
   case call f args=>
    obtain ⟨h1,R,h2,h3⟩:=hx;exact ⟨h1,R,h2,fun v σ' hv=>hk _ _ _ (h3 v σ' hv)⟩
   case Zh x args=>
    obtain ⟨f,first,caps,h0,hb,h1,R,h2,h3⟩:=hx;exact ⟨f,first,caps,h0,hb,h1,R,h2,fun v σ' hv=>hk _ _ _ (h3 v σ' hv)⟩
   case iC x y z=>cases htm
   case ex k xs=>
    simp only [XO,XEx,hV,A3,if_false] at hx ⊢;exact ⟨hx.1,hx.2.mono fun v σ' _ hv=>hk _ _ _ hv⟩
theorem AGE {q:Q} {K K':C6} (htm:kC q.o=true) (hk:∀u L' σ',K (BS q.dst u F) L' σ'->K' (BS q.dst u F) L' σ') (hx:XQ P q K F L σ):XQ P q K' F L σ:=by
 unfold XQ at hx ⊢;cases hc:gd F q.grd with
 |none=>rw [hc] at hx;exact hx.elim
 |some b=>rw [hc] at hx;cases b<;>first|exact hk _ _ _ hx|exact APJ htm hk hx
theorem ALB {o:O} {dst:Option Nat} {K K':C6} (htm:xP o=true) (hk:∀u σ',K (BS dst u F) L σ'->K' (BS dst u F) L σ') (hx:XO P dst K F L σ o):XO P dst K' F L σ o:=by
 by_cases hV:isV o=true
 . rw [AHJ hV] at hx ⊢;obtain ⟨v,h1,h2⟩:=hx;exact ⟨v,h1,hk _ _ h2⟩
 . cases o<;>simp only [isV,not_true_eq_false] at hV
   case box x sh=>
    simp only [XO,Ys] at hx ⊢;refine ⟨hx.1,?_⟩;have hx:=hx.2;cases dst with
    |none=>exact hx.elim
    |some d=>
     cases sh with
     |true=>exact fun i hi=>hk (.gp i 0) _ (hx i hi)
     |false=>cases htm
   case al z sh=>
    simp only [XO,Ys] at hx ⊢;refine ⟨hx.1,?_⟩;have hx:=hx.2;cases dst with
    |none=>exact hx.elim
    |some d=>
     cases sh with
     |true=>exact fun i hi=>hk (.gp i 0) _ (hx i hi)
     |false=>cases htm
   case st x v n=>cases htm
   case msl e s b z l c=>
    obtain ⟨k,k',n,h1,h2,h3,h4,h5,h6⟩:=hx;exact ⟨k,k',n,h1,h2,h3,h4,h5,fun i hi=>hk _ _ (h6 i hi)⟩
   case rM e s b x y=>
    obtain ⟨n,cs,σ1,srows,h1,h2,h3,h4,h5,h6,h7⟩:=hx;exact ⟨n,cs,σ1,srows,h1,h2,h3,fun e=>hk _ _ (h4 e),h5,h6,fun e t ht=>hk _ _ (h7 e t ht)⟩
   case trn x y=>
    obtain ⟨k,s,e,cs,σ1,h1,h2⟩:=hx;exact ⟨k,s,e,cs,σ1,h1,fun t ht=>hk _ _ (h2 t ht)⟩
   case kJ e s l z ps=>
    obtain ⟨cs,h1,h2⟩:=hx;exact ⟨cs,h1,h2.imp (fun h2 t ht=>hk _ _ (h2 t ht)) fun ⟨ds,h3,h5⟩=>⟨ds,h3,fun t ht=>hk _ _ (h5 t ht)⟩⟩
   case app e s b x y=>
    rcases hx with ⟨rows,σ1,srows,h1,h2,h3,h4,h5,h6⟩|⟨rows,srows,h1,h2,h3,h4,h5,h6,h7⟩
    . exact .inl ⟨rows,σ1,srows,h1,h2,h3,h4,h5,fun t ht=>hk _ _ (h6 t ht)⟩
    . exact .inr ⟨rows,srows,h1,h2,h3,h4,h5,h6,hk _ _ h7⟩
   case call f args=>
    obtain ⟨h1,R,h2,h3⟩:=hx;exact ⟨h1,R,h2,fun v σ' hv=>hk _ _ (h3 v σ' hv)⟩
   case Zh x args=>
    obtain ⟨f,first,caps,h0,hb,h1,R,h2,h3⟩:=hx;exact ⟨f,first,caps,h0,hb,h1,R,h2,fun v σ' hv=>hk _ _ (h3 v σ' hv)⟩
   case iC x y z=>cases htm
   case ex k xs=>
    simp only [XO,XEx,hV,A3,if_false] at hx ⊢;exact ⟨hx.1,hx.2.mono fun v σ' _ hv=>hk _ _ hv⟩
theorem ALD {q:Q} {K K':C6} (htm:xP q.o=true) (hk:∀u σ',K (BS q.dst u F) L σ'->K' (BS q.dst u F) L σ') (hx:XQ P q K F L σ):XQ P q K' F L σ:=by
 unfold XQ at hx ⊢;cases hc:gd F q.grd with
 |none=>rw [hc] at hx;exact hx.elim
 |some b=>rw [hc] at hx;cases b<;>first|exact hk _ _ hx|exact ALB htm hk hx
theorem iM {d e:Option Nat} (h:∀k,d=some k->e≠some k) (u v:AV) (F:Fm):BS d u (BS e v F)=BS e v (BS d u F):=by
 cases d with
 |none=>rfl
 |some d=>
  cases e with
  |none=>rfl
  |some e=>
   have hne:d≠e:=fun he=>h d rfl (he ▸ rfl);funext s;simp only [BS,put];by_cases h1:s=d<;>by_cases h2:s=e<;>simp [h1,h2]
   . omega
   . intro h3;exact absurd h3 hne
   . intro h3;exact absurd h3.symm hne
theorem xO {d:Option Nat} {s:Nat} (h:d≠some s) (v:AV) (F:Fm):BS d v F s=F s:=by
 cases d with
 |none=>rfl
 |some d=>simp only [BS,put];rw [if_neg];intro e;exact h (by rw [e])
theorem ATB {o:O} {dst d:Option Nat} {v:AV} {K:C6} (ht:kC o=true) (hl:∀s∈Lt o,d≠some s) (hd:∀k,dst=some k->d≠some k)
 (hx:XO P dst K (BS d v F) L σ o):XO P dst (fun F L σ=>K (BS d v F) L σ) F L σ o:=by
 have hc:∀u,BS dst u (BS d v F)=BS d v (BS dst u F):=fun u=>iM hd u v F;have hF:∀s∈Lt o,BS d v F s=F s:=fun s hs=>xO (hl s hs) v F;by_cases hV:isV o=true
 . rw [AHJ hV] at hx ⊢;obtain ⟨u,h1,h2⟩:=hx;refine ⟨u,mR hF h1,?_⟩;show K (BS d v (BS dst u F)) L σ;rw [<- hc u];exact h2
 . cases o<;>simp only [isV,not_true_eq_false] at hV<;>simp only [Lt,A0] at hF
   case box x sh=>
    cases sh<;>simp only [kC] at ht
    . cases ht
    simp only [XO,Ys] at hx ⊢;rw [<- B6 hF];refine ⟨hx.1,?_⟩;have hx:=hx.2;cases dst with
    |none=>exact hx.elim
    |some e=>exact fun i hi=>(by show K (BS d v (BS (some e) (.gp i 0) F)) _ _;rw [<- hc (.gp i 0)];exact hx i hi)
   case al z sh=>
    cases sh<;>simp only [kC] at ht
    . cases ht
    simp only [XO,Ys] at hx ⊢;refine ⟨hx.1,?_⟩;have hx:=hx.2;cases dst with
    |none=>exact hx.elim
    |some e=>exact fun i hi=>(by show K (BS d v (BS (some e) (.gp i 0) F)) _ _;rw [<- hc (.gp i 0)];exact hx i hi)
   case st x y n=>
    simp only [XO,XSt] at hx ⊢;rw [<- B6 (fun s hs=>hF s (.inl hs)),<- B6 (fun s hs=>hF s (.inr hs))];obtain ⟨h1,h2,h3,h4⟩:=hx;refine ⟨h1,h2,h3,?_⟩;cases he:stA L σ (xv (BS d v F) y).cells (xv (BS d v F) x) with
    |none=>rw [he] at h4;exact h4.elim
    |some r=>obtain ⟨L',σ'⟩:=r;rw [he] at h4;exact h4
   case rM e s b x y=>
    obtain ⟨n,cs,σ1,srows,h1,h2,h3,h4,h5,h6,h7⟩:=hx;refine ⟨n,cs,σ1,srows,by rw [<- B6 (fun s hs=>hF s (.inl hs))];exact h1,by rw [<- B6 (fun s hs=>hF s (.inr hs))];exact h2,h3,fun e=>?_,h5,h6,fun e t ht=>?_⟩
    . show K (BS d v (BS dst _ F)) _ _;rw [<- hc,<- B6 (fun s hs=>hF s (.inl hs))];exact h4 e
    . show K (BS d v (BS dst _ F)) _ _;rw [<- hc];exact h7 e t ht
   case trn x y=>
    obtain ⟨k,s,e,cs,σ1,h1,h2⟩:=hx;refine ⟨k,s,e,cs,σ1,by rw [<- B6 (fun s hs=>hF s (.inl hs)),<- B6 (fun s hs=>hF s (.inr hs))];exact h1,fun t ht=>?_⟩;show K (BS d v (BS dst _ F)) _ _;rw [<- hc];exact h2 t ht
   case kJ e s l z ps=>
    obtain ⟨cs,h1,h2⟩:=hx;refine ⟨cs,by rw [<- Rb _ _ hF];exact h1,h2.imp (fun h2 t ht=>?_) fun ⟨ds,h3,h5⟩=>⟨ds,h3,fun t ht=>?_⟩⟩
    . show K (BS d v (BS dst _ F)) _ _;rw [<- hc];exact h2 t ht
    . show K (BS d v (BS dst _ F)) _ _;rw [<- hc];exact h5 t ht
   case msl e s b z l c=>
    obtain ⟨k,k',n,h1,h2,h3,h4,h5,h6⟩:=hx;refine ⟨k,k',n,by rw [<- B6 (fun s hs=>hF s (.inl hs))];exact h1,by rw [<- B6 (fun s hs=>hF s (.inr hs))];exact h2,h3,h4,h5,fun i hi=>?_⟩;show K (BS d v (BS dst _ F)) _ _;rw [<- hc];exact h6 i hi
   case app e s b x y=>
    rcases hx with ⟨rows,σ1,srows,h1,h2,h3,h4,h5,h6⟩|⟨rows,srows,h1,h2,h3,h4,h5,h6,h7⟩
    . refine .inl ⟨rows,σ1,srows,by rw [<- B6 (fun s hs=>hF s (.inl hs))];exact h1,by rw [<- B6 (fun s hs=>hF s (.inr hs))];exact h2,h3,h4,h5,fun t ht=>?_⟩;show K (BS d v (BS dst _ F)) _ _;rw [<- hc];exact h6 t ht
    . refine .inr ⟨rows,srows,by rw [<- B6 (fun s hs=>hF s (.inl hs))];exact h1,by rw [<- B6 (fun s hs=>hF s (.inr hs))];exact h2,h3,h4,h5,h6,?_⟩;show K (BS d v (BS dst _ F)) _ _;rw [<- hc];exact h7
   case call f args=>
    obtain ⟨h1,R,h2,h3⟩:=hx;rw [Hw hF] at h1 h2;refine ⟨h1,R,h2,fun u σ' hv=>?_⟩;show K (BS d v (BS dst _ F)) _ _;rw [<- hc];exact h3 u σ' hv
   case Zh x args=>
    obtain ⟨f,first,caps,h0,hb,h1,R,h2,h3⟩:=hx;rw [Hw (fun s hs=>hF s (.inr hs))] at h1 h2;refine ⟨f,first,caps,by rw [<- B6 (fun s hs=>hF s (.inl hs))];exact h0,hb,h1,R,h2,fun u σ' hv=>?_⟩;show K (BS d v (BS dst _ F)) _ _;rw [<- hc];exact h3 u σ' hv
   case iC x y z=>cases ht
   case ex k xs=>
    simp only [XO,XEx,hV,A3,if_false] at hx ⊢;rw [Hw hF] at hx;refine ⟨hx.1,hx.2.mono fun u σ' _ hv=>?_⟩;show K (BS d v (BS dst _ F)) _ _;rw [<- hc];exact hv
theorem ATD {q:Q} {d:Option Nat} {v:AV} {K:C6} (ht:kC q.o=true) (hl:∀s∈q.looks,d≠some s) (hd:∀k,q.dst=some k->d≠some k)
 (hx:XQ P q K (BS d v F) L σ):XQ P q (fun F L σ=>K (BS d v F) L σ) F L σ:=by
 have h1:∀s∈Lt q.o,d≠some s:=fun s hs=>hl s (by simp [Q.looks,hs]);unfold XQ at hx ⊢;rw [oH (F:=BS d v F) (F':=F) (fun s hs=>xO (hl s hs) v F)] at hx;cases hc:gd F q.grd with
 |none=>rw [hc] at hx;exact hx.elim
 |some b=>
  rw [hc] at hx;cases b
  . have hx:K (BS q.dst (.tup []) (BS d v F)) L σ:=hx;show K (BS d v (BS q.dst (.tup []) F)) L σ;rw [<- iM hd];exact hx
  . exact ATB ht h1 hd hx
end Go.Ab
namespace Go.Ab
open Go.RowKit
variable {P:Program} {base N:Nat} {g g':Gh} {Pr:Nat->Prop} {σ σ':AI} {w0 w w':World} {lam:Nat->Option Nat} {F:Fm} {L:Lm} {a:Act}
def fN (P:Program) (ops:Array Oper) (qs:List Q) (K:C6):Nat->Array Bool->C6
 |0,listed,F,L,σ=>Region.ready .any ops listed=[]/\K F L σ
 |fuel+1,listed,F,L,σ=>(Region.ready .any ops listed=[]->K F L σ)/\
  ∀i∈Region.ready .any ops listed,∃q,qs[i]?=some q/\XQ P q (fN P ops qs K fuel (listed.setIfInBounds i true)) F L σ
def toP (pf:List FuncId) (q:Q):Q:=
 match q.o with
 | .call f args=>if pf.contains f then { q with o:= .jZ f args} else q
 |_=>q
theorem AKS {pf:List FuncId} {q:Q} {K:C6} (h:XQ P (toP pf q) K F L σ):XQ P q K F L σ:=by
 obtain ⟨dst,o,grd⟩:=q;cases o<;>try exact h
 rename_i f args;simp only [toP] at h;split at h
 . unfold XQ at h ⊢;simp only at h ⊢;cases hc:gd F grd with
   |none=>rw [hc] at h;exact h.elim
   |some b=>
    rw [hc] at h;cases b
    . exact h
    . obtain ⟨h1,v,⟨_,h2⟩,h3⟩:=h;exact ⟨h1,_,h2,fun v' σ' ⟨e1,e2⟩=>by subst e1;subst e2;exact h3⟩
 . exact h
theorem tS {ops:Array Oper} {esc:List Nat}:∀(l:List Nat) (qs:List Q),Pz P N esc ops l=some qs->∀(k i:Nat),l[k]?=some i->∃o q,ops[i]?=some o/\qs[k]?=some q/\tU P N esc ops o=some q
 |[],_,_,k,i,hk=>by simp at hk
 |j::l,qs,h,k,i,hk=>by
  simp only [Pz,AQ,AB] at h;obtain ⟨o,ho,q,hq,qs',hqs,he⟩:=h;cases he;cases k with
  |zero=>simp at hk;subst hk;exact ⟨o,q,ho,rfl,hq⟩
  |succ k=>simpa using tS l qs' hqs k i (by simpa using hk)
theorem cG {ops:Array Oper} {esc:List Nat} {pf:List FuncId} {qs:List Q} (hc:Pz P N esc ops (BA ops.size)=some qs) (K:C6) {R:Exit->Act->World->Prop}:
 ∀(fuel:Nat) (listed:Array Bool) (base:Nat) (g:Gh) (lam:Nat->Option Nat) (Pr:Nat->Prop) (F:Fm) (L:Lm) (σ:AI) (a:Act) (w0 w:World),
  fN P ops (qs.map (toP pf)) K fuel listed F L σ->Bv base g lam Pr N F L σ a w0 w->(∀a' w',GK base Pr N w0 g w K a' w'->R .normal a' w')->wpAny P .any ops R fuel listed a w
 |0,listed,base,g,lam,Pr,F,L,σ,a,w0,w,hx,h,hR=>⟨hx.1,hR _ _ ⟨g,lam,F,L,σ,Gh.le_refl g,KP.refl Pr w,h,hx.2⟩⟩
 |fuel+1,listed,base,g,lam,Pr,F,L,σ,a,w0,w,hx,h,hR=>by
  refine ⟨fun he=>hR _ _ ⟨g,lam,F,L,σ,Gh.le_refl g,KP.refl Pr w,h,hx.1 he⟩,fun i hi=>?_⟩;obtain ⟨q',hq',hxq⟩:=hx.2 i hi
  have hlt:i < ops.size:=by
   have:=(Yq.1 hi).1;simpa using this
  obtain ⟨o,q,ho,hq,hcq⟩:=tS (BA ops.size) qs hc i i (by simp [hlt]);rw [Aj,hq] at hq';cases hq';refine wpOp_mono ?_ (ACP ho hcq (AKS hxq) h);rintro a' w' ⟨g',lam',F',L',σ',h1,h2,h3,h4⟩;exact cG hc K fuel _ base g' lam' Pr F' L' σ' a' w0 w' h4 h3 (fun a2 w2 hA=>hR _ _ (GK.trans h1 h2 hA))
inductive Anc (ops:Array Oper):Nat->Nat->Prop
 |one {j:Nat} {o:Oper} {e:Edge} (ho:ops[j]?=some o) (he:e∈o.after) (hb:Region.binds .any e=true):Anc ops j e.on
 |step {j i:Nat} {o:Oper} {e:Edge} (ho:ops[j]?=some o) (he:e∈o.after) (hb:Region.binds .any e=true) (h:Anc ops e.on i):Anc ops j i
def xI (acc:Array Nat) (l:List Edge):Nat:=l.foldl (fun s e=>if Region.binds .any e then s|||2 ^ e.on|||acc.getD e.on 0 else s) 0
def fQ:List Oper->Array Nat->Array Nat
 |[],acc=>acc
 |o::l,acc=>fQ l (acc.push (xI acc o.after.toList))
def LU (ops:Array Oper) (listed:Array Bool):Prop:=
 ∀j o,ops[j]?=some o->listed.getD j false=true->∀e∈o.after,Region.binds .any e=true->listed.getD e.on false=true
theorem mX {ops:Array Oper} {listed:Array Bool} (hc:LU ops listed) {j i:Nat} (h:Anc ops j i):(∀o,ops[j]?=some o->∀e∈o.after,Region.binds .any e=true->listed.getD e.on false=true)->listed.getD i false=true:=by
 induction h with
 |one ho he hb=>exact fun hj=>hj _ ho _ he hb
 |step ho he hb _ ih=>exact fun hj=>ih fun o' ho' e' he' hb'=>hc _ o' ho' (hj _ ho _ he hb) e' he' hb'
theorem pC {ops:Array Oper} {acc:Array Nat} (hacc:∀k i,(acc.getD k 0).testBit i=true->Anc ops k i) {j:Nat} {o:Oper} (ho:ops[j]?=some o):
 ∀(l:List Edge) (s:Nat),(∀e∈l,e∈o.after)->(∀i,s.testBit i=true->Anc ops j i)->
  ∀i,(l.foldl (fun s e=>if Region.binds .any e then s|||2 ^ e.on|||acc.getD e.on 0 else s) s).testBit i=true->Anc ops j i
 |[],s,_,hs,i,hi=>hs i hi
 |e::l,s,hl,hs,i,hi=>by
  simp only [Ao] at hi;refine pC hacc ho l _ (fun e he=>hl e (by simp [he])) ?_ i hi;intro i' hi';by_cases hb:Region.binds .any e=true
  . simp only [hb,if_true,Nat.testBit_or,DI] at hi';rcases hi' with (h|h)|h
    . exact hs i' h
    . rw [Nat.testBit_two_pow] at h;have:e.on=i':=by simpa using h
      exact this ▸ .one ho (hl e (by simp)) hb
    . exact .step ho (hl e (by simp)) hb (hacc _ _ h)
  . simp only [hb] at hi';exact hs i' hi'
theorem cP {ops:Array Oper}:∀(l:List Oper) (acc:Array Nat),(∀k,l[k]?=ops[acc.size+k]?)->(∀k i,(acc.getD k 0).testBit i=true->Anc ops k i)->
 ∀k i,((fQ l acc).getD k 0).testBit i=true->Anc ops k i
 |[],acc,_,h=>h
 |o::l,acc,hl,h=>by
  have ho:ops[acc.size]?=some o:=by simpa using (hl 0).symm
  refine cP l _ (fun k=>?_) (fun k i hi=>?_)
  . have:=hl (k+1);simp only [mM] at this;rw [this,Array.size_push];congr 1;omega
  . by_cases e:k=acc.size
    . subst e;have:(acc.push (xI acc o.after.toList)).getD acc.size 0=xI acc o.after.toList:=by simp
      rw [this] at hi;exact pC h ho o.after.toList 0 (fun e he=>by simpa using he) (fun i hi=>by simp at hi) i hi
    . have:(acc.push (xI acc o.after.toList)).getD k 0=acc.getD k 0:=by
       simp only [DR,Array.getElem?_push,e,if_false]
      rw [this] at hi;exact h k i hi
theorem iZ {ops:Array Oper} {j i:Nat} (h:((fQ ops.toList #[]).getD j 0).testBit i=true):Anc ops j i:=
 cP ops.toList #[] (fun k=>by simp) (fun k i hi=>by simp at hi) j i h
theorem NO {ops:Array Oper} {listed:Array Bool} {i:Nat}:i∈Region.ready .any ops listed↔i < ops.size/\listed.getD i true=false/\∃o,ops[i]?=some o/\∀e∈o.after,Region.binds .any e=true->listed.getD e.on false=true:=by
 unfold Region.ready;simp only [Yq,CJ,AO,Br];constructor
 . rintro ⟨h1,h2,h3⟩;refine ⟨h1,h2,?_⟩;cases ho:ops[i]? with
   |none=>simp [ho] at h3
   |some o=>
    refine ⟨o,rfl,fun e he hb=>?_⟩;simp only [ho,Ah,BC,Array.all_eq_true'] at h3;have:=h3 e he;simpa [hb] using this
 . rintro ⟨h1,h2,o,ho,h3⟩;refine ⟨h1,h2,?_⟩;simp only [ho,Ah,BC,Array.all_eq_true'];intro e he;by_cases hb:Region.binds .any e=true
   . simp [h3 e he hb]
   . simp [hb]
theorem Zo {listed:Array Bool} {i:Nat} (h:i < listed.size) (d:Bool):(listed.setIfInBounds i true).getD i d=true:=by simp [h]
theorem Lj {listed:Array Bool} {i j:Nat} (h:i≠j) (d:Bool):(listed.setIfInBounds i true).getD j d=listed.getD j d:=by
 simp [Array.getElem?_setIfInBounds_ne h]
theorem gQ {listed:Array Bool} {i j:Nat} (h:listed.getD j false=true):(listed.setIfInBounds i true).getD j false=true:=by
 by_cases e:i=j
 . subst e
   have:i < listed.size:=by
    rcases C7 i listed.size with h1|h1
    . exact h1
    . simp [h1] at h
   exact Zo this false
 . rw [Lj e];exact h
theorem LU.set {ops:Array Oper} {listed:Array Bool} (hc:LU ops listed) {i:Nat} (hi:i∈Region.ready .any ops listed):LU ops (listed.setIfInBounds i true):=by
 intro j o ho hj e he hb;by_cases e':i=j
 . subst e';obtain ⟨_,_,o',ho',hall⟩:=NO.1 hi;rw [ho] at ho';cases ho';exact gQ (hall e he hb)
 . rw [Lj e'] at hj;exact gQ (hc j o ho hj e he hb)
theorem UA {ops:Array Oper} {listed:Array Bool} {i j:Nat} (hj:j∈Region.ready .any ops listed) (hne:i≠j):j∈Region.ready .any ops (listed.setIfInBounds i true):=by
 obtain ⟨h1,h2,o,ho,h3⟩:=NO.1 hj;exact NO.2 ⟨h1,by rw [Lj hne];exact h2,o,ho,fun e he hb=>gQ (h3 e he hb)⟩
def ACV (x y:Q):Bool:=
 (match x.dst with|some d=>!y.looks.contains d&&y.dst != some d|none=>true)&&(match y.dst with|some d=>!x.looks.contains d|none=>true)
theorem y5 {x y:Q} (h:ACV x y=true):(∀s∈y.looks,x.dst≠some s)/\(∀k,y.dst=some k->x.dst≠some k)/\(∀s∈x.looks,y.dst≠some s):=by
 unfold ACV at h;simp only [AO] at h;refine ⟨fun s hs he=>?_,fun k hk he=>?_,fun s hs he=>?_⟩
 . rw [he] at h;simp [hs] at h
 . rw [he,hk] at h;simp at h
 . rw [he] at h;simp [hs] at h
def before (tab:Array Nat) (i j:Nat) (qi qj:Q):Bool:=(tab.getD j 0).testBit i||(ACV qi qj&&kC qj.o&&(isV qj.o||vC qi.o||(AM4 qi.o&&xP qj.o)))
theorem rF {ops:Array Oper} {tab:Array Nat} (htab:∀j i,(tab.getD j 0).testBit i=true->Anc ops j i) {qs:List Q} {K:C6} {i:Nat} {qi:Q} (hi:qs[i]?=some qi) (hV:isV qi.o=true):
 ∀(fuel:Nat) (listed:Array Bool) (F:Fm) (L:Lm) (σ:AI) (v:AV),LU ops listed->listed.size=ops.size->
  (∀j qj,qs[j]?=some qj->j≠i->listed.getD j true=false->before tab i j qi qj=true)->
  i∈Region.ready .any ops listed->YQ P qi F L σ v->fN P ops qs K fuel (listed.setIfInBounds i true) (BS qi.dst v F) L σ->fN P ops qs K (fuel+1) listed F L σ:=by
 intro fuel
 induction fuel with
 |zero=>
  intro listed F L σ v hcl hsz hb hr hy H;refine ⟨fun h=>(by rw [h] at hr;cases hr),fun j hj=>?_⟩;by_cases hji:i=j
  . subst hji;exact ⟨qi,hi,(ALC hV _).2 ⟨v,hy,H⟩⟩
  . have:=UA hj hji;rw [H.1] at this;cases this
 |succ fuel ih=>
  intro listed F L σ v hcl hsz hb hr hy H;refine ⟨fun h=>(by rw [h] at hr;cases hr),fun j hj=>?_⟩;by_cases hji:i=j
  . subst hji;exact ⟨qi,hi,(ALC hV _).2 ⟨v,hy,H⟩⟩
  . obtain ⟨qj,hqj,hxj⟩:=H.2 j (UA hj hji);obtain ⟨hjlt,hjun,oj,hoj,hjall⟩:=NO.1 hj;have hbj:=hb j qj hqj (A9 hji) hjun;have hiun:=(NO.1 hr).2.1;have hilt:=(NO.1 hr).1;unfold before at hbj;simp only [DI,AO] at hbj;rcases hbj with hanc|⟨⟨hap,htame⟩,hcls⟩
    . have h1:=mX hcl (htab j i hanc) (fun o ho=>by rw [hoj] at ho;cases ho;exact hjall);rw [DR,O9 (by omega)] at h1 hiun;simp at h1 hiun;rw [h1] at hiun;cases hiun
    . obtain ⟨a1,a2,a3⟩:=y5 hap;refine ⟨qj,hqj,?_⟩;have hxj':=ATD htame a1 a2 hxj;have hcl':=hcl.set hj;have hr':i∈Region.ready .any ops (listed.setIfInBounds j true):=UA hr (A9 hji)
      have hb':∀k qk,qs[k]?=some qk->k≠i->(listed.setIfInBounds j true).getD k true=false->before tab i k qi qk=true:=fun k qk hk hki hun=>by
       by_cases e:j=k
       . subst e;rw [Zo (by omega)] at hun;cases hun
       . rw [Lj e] at hun;exact hb k qk hk hki hun
      have hcomm:(listed.setIfInBounds i true).setIfInBounds j true=(listed.setIfInBounds j true).setIfInBounds i true:=Array.setIfInBounds_comm _ _ hji;have hlook:∀u,∀s∈qi.looks,F s=BS qj.dst u F s:=fun u s hs=>(xO (a3 s hs) u F).symm;by_cases hVj:isV qj.o=true
      . rw [ALC hVj] at hxj' ⊢;obtain ⟨u,hu,hk⟩:=hxj';refine ⟨u,hu,ih _ _ _ _ v hcl' (by simpa using hsz) hb' hr' (mQ (hlook u) hy) ?_⟩;rw [<- hcomm];exact hk
      . have hcls':vC qi.o=true\/(AM4 qi.o=true/\xP qj.o=true):=by
         rcases hcls with (h1|h1)|h1
         . exact absurd h1 hVj
         . exact .inl h1
         . exact .inr h1
        rcases hcls' with hp|hp
        case inr=>
         refine ALD hp.2 (fun u σ' hk=>?_) hxj';refine ih _ _ _ _ v hcl' (by simpa using hsz) hb' hr' (ATG hp.1 σ' (mQ (hlook u) hy)) ?_;rw [<- hcomm];exact hk
        refine AGE htame (fun u L' σ' hk=>?_) hxj';refine ih _ _ _ _ v hcl' (by simpa using hsz) hb' hr' (APK hp L' σ' (mQ (hlook u) hy)) ?_;rw [<- hcomm];exact hk
def mF (tab:Array Nat) (qs:List Q) (listed:Array Bool) (i:Nat):Bool:=
 match qs[i]? with
 |some qi=>isV qi.o&&(qs.zipIdx.all fun (qj,j)=>j==i||listed.getD j true||before tab i j qi qj)
 |none=>false
def pS (ops:Array Oper) (tab:Array Nat) (qs:List Q):List Nat->Array Bool->Bool
 |[],listed=>(Region.ready .any ops listed).isEmpty
 |i::rest,listed=>(Region.ready .any ops listed).contains i&&(mF tab qs listed i||(Region.ready .any ops listed==[i]&&((qs[i]?).map fun q=>kC q.o).getD false))&&pS ops tab qs rest (listed.setIfInBounds i true)
def u6 (qs:List Q) (order:List Nat):List Q:=order.filterMap (qs[·]?)
theorem vT {ops:Array Oper} {tab:Array Nat} (htab:∀j i,(tab.getD j 0).testBit i=true->Anc ops j i) {qs:List Q} {K:C6} (hsz:qs.length=ops.size):∀(order:List Nat) (listed:Array Bool) (F:Fm) (L:Lm) (σ:AI),pS ops tab qs order listed=true->LU ops listed->listed.size=ops.size->
 Bc P K (u6 qs order) F L σ->fN P ops qs K order.length listed F L σ
 |[],listed,F,L,σ,hp,_,_,hx=>⟨by simpa [pS] using hp,hx⟩
 |i::rest,listed,F,L,σ,hp,hcl,hls,hx=>by
  simp only [pS,AO,DI,Ak] at hp;obtain ⟨⟨hr,hok⟩,hrest⟩:=hp;have hilt:=(NO.1 hr).1;have hqi:qs[i]?=some qs[i]:=by simp
  have hpk:u6 qs (i::rest)=qs[i]::u6 qs rest:=by unfold u6;rw [List.filterMap_cons,hqi]
  rw [hpk] at hx;have hx:XQ P qs[i] (Bc P K (u6 qs rest)) F L σ:=hx;have ih:=fun F L σ=>vT htab (K:=K) hsz rest (listed.setIfInBounds i true) F L σ hrest (hcl.set hr) (by simpa using hls);rcases hok with hok|hok
  . unfold mF at hok;rw [hqi] at hok;simp only [AO,A8] at hok;obtain ⟨v,hy,hk⟩:=(ALC hok.1 _).1 hx;refine rF htab hqi hok.1 rest.length listed F L σ v hcl hls (fun j qj hj hji hun=>?_) hr hy (ih _ _ _ hk)
    have hmem:(qj,j)∈qs.zipIdx:=by
     rw [Yr];exact hj
    have:=hok.2 (qj,j) hmem;simp only [DI,beq_iff_eq] at this;rcases this with (h|h)|h
    . exact absurd h hji
    . rw [hun] at h;cases h
    . exact h
  . simp only [AO,beq_iff_eq,hqi,Ah,BC] at hok;obtain ⟨hok,htm⟩:=hok;refine ⟨fun h=>(by rw [h] at hr;cases hr),fun j hj=>?_⟩;rw [hok] at hj;simp only [A6] at hj;subst hj;exact ⟨_,hqi,AGE htm (fun u L' σ' hk=>ih _ _ _ hk) hx⟩
def AGG (P:Program) (N:Nat) (esc:List Nat) (pf:List FuncId) (order:List Nat) (ops:Array Oper):Option (List Q):=do
 let qs <- Pz P N esc ops (BA ops.size)
 if pS ops (fQ ops.toList #[]) (qs.map (toP pf)) order (F9 ops.size false)&&order.length==ops.size then some (u6 (qs.map (toP pf)) order) else none
theorem dD {ops:Array Oper} {esc:List Nat}:∀(l:List Nat) (qs:List Q),Pz P N esc ops l=some qs->qs.length=l.length
 |[],qs,h=>by simp only [Pz,AL] at h;subst h;rfl
 |j::l,qs,h=>by
  simp only [Pz,AQ,AB] at h;obtain ⟨o,ho,q,hq,qs',hqs,he⟩:=h;cases he;simp [dD l qs' hqs]
theorem ADT {ops:Array Oper} {esc:List Nat} {pf:List FuncId} {order:List Nat} {qs:List Q} (hm:P.follows .mixedOrders=true) (hc:AGG P N esc pf order ops=some qs) {K:C6} (hx:Bc P K qs F L σ)
 (h:Bv base g lam Pr N F L σ a w0 w) {id:Nat}:(Code.region id ops true).wp P (fun e a' w'=>e= .normal/\GK base Pr N w0 g w K a' w') a w:=by
 simp only [AGG,AQ,AB] at hc;obtain ⟨qs0,hq0,hc⟩:=hc;split at hc
 case isFalse=>cases hc
 rename_i hp;simp only [AO,beq_iff_eq] at hp;cases hc;have hlen:=dD _ _ hq0
 have hcl:LU ops (F9 ops.size false):=by
  intro j o ho hj
  have:(F9 ops.size false).getD j false=false:=by
   simp only [DR,Array.getElem?_replicate];split<;>rfl
  rw [this] at hj;cases hj
 have hany:=vT (P:=P) (fun j i=>iZ) (K:=K) (qs:=qs0.map (toP pf)) (by simpa using hlen) _ _ F L σ hp.1 hcl (by simp) hx;rw [hp.2] at hany;refine wp_region_any hm ?_
 have hdrew:Bv base g lam Pr N F L σ a w0 { w with drawn:=w.drawn+1}:=
  h.step (w':=w.drew) (Gh.le_refl g) (fun k b hb=>rfl) (h.rel.grow (w':=w.drew) (AW _) (fun _ _ _=>rfl) ((Below.refl base w).drew) (fun b hb=>⟨(h.rel.pr b hb).1,.inl hb⟩))
 exact cG hq0 K _ _ base g lam Pr F L σ a w0 _ hany hdrew (fun a' w' hA=>⟨rfl,GK.trans (Gh.le_refl g) ⟨AW _,fun _ _=>rfl⟩ hA⟩)
end Go.Ab
namespace Go.Ab
open Go.RowKit
variable {P:Program} {base N:Nat} {g g':Gh} {Pr:Nat->Prop} {σ σ':AI} {w0 w w':World} {lam:Nat->Option Nat} {F:Fm} {L:Lm} {a:Act} {K:C6}
theorem ACU {o:O} {dst:Option Nat} {K':C6} (hk:∀F L σ,K F L σ->K' F L σ) (hx:XO P dst K F L σ o):XO P dst K' F L σ o:=by
 by_cases hV:isV o=true
 . rw [AHJ hV] at hx ⊢;obtain ⟨v,h1,h2⟩:=hx;exact ⟨v,h1,hk _ _ _ h2⟩
 . cases o<;>simp only [isV,not_true_eq_false] at hV
   case box x sh=>
    simp only [XO,Ys] at hx ⊢;refine ⟨hx.1,?_⟩;have hx:=hx.2;cases dst with
    |none=>exact hx.elim
    |some d=>cases sh with
     |true=>exact fun i hi=>hk _ _ _ (hx i hi)
     |false=>exact hk _ _ _ hx
   case al z sh=>
    simp only [XO,Ys] at hx ⊢;refine ⟨hx.1,?_⟩;have hx:=hx.2;cases dst with
    |none=>exact hx.elim
    |some d=>cases sh with
     |true=>exact fun i hi=>hk _ _ _ (hx i hi)
     |false=>exact hk _ _ _ hx
   case st x v n=>
    simp only [XO,XSt] at hx ⊢;obtain ⟨h1,h2,h3,h4⟩:=hx;refine ⟨h1,h2,h3,?_⟩;split at h4
    . exact hk _ _ _ h4
    . exact h4.elim
   case msl e s b z l c=>
    obtain ⟨k,k',n,h1,h2,h3,h4,h5,h6⟩:=hx;exact ⟨k,k',n,h1,h2,h3,h4,h5,fun i hi=>hk _ _ _ (h6 i hi)⟩
   case rM e s b x y=>
    obtain ⟨n,cs,σ1,srows,h1,h2,h3,h4,h5,h6,h7⟩:=hx;exact ⟨n,cs,σ1,srows,h1,h2,h3,fun e=>hk _ _ _ (h4 e),h5,h6,fun e t ht=>hk _ _ _ (h7 e t ht)⟩
   case trn x y=>
    obtain ⟨k,s,e,cs,σ1,h1,h2⟩:=hx;exact ⟨k,s,e,cs,σ1,h1,fun t ht=>hk _ _ _ (h2 t ht)⟩
   case kJ e s l z ps=>
    obtain ⟨cs,h1,h2⟩:=hx;exact ⟨cs,h1,h2.imp (fun h2 t ht=>hk _ _ _ (h2 t ht)) fun ⟨ds,h3,h5⟩=>⟨ds,h3,fun t ht=>hk _ _ _ (h5 t ht)⟩⟩
   case app e s b x y=>
    rcases hx with ⟨rows,σ1,srows,h1,h2,h3,h4,h5,h6⟩|⟨rows,srows,h1,h2,h3,h4,h5,h6,h7⟩
    . exact .inl ⟨rows,σ1,srows,h1,h2,h3,h4,h5,fun t ht=>hk _ _ _ (h6 t ht)⟩
    . exact .inr ⟨rows,srows,h1,h2,h3,h4,h5,h6,hk _ _ _ h7⟩
   case call f args=>
    obtain ⟨h1,R,h2,h3⟩:=hx;exact ⟨h1,R,h2,fun v σ' hv=>hk _ _ _ (h3 v σ' hv)⟩
   case Zh x args=>
    obtain ⟨f,first,caps,h0,hb,h1,R,h2,h3⟩:=hx;exact ⟨f,first,caps,h0,hb,h1,R,h2,fun v σ' hv=>hk _ _ _ (h3 v σ' hv)⟩
   case iC x y z=>
    obtain ⟨h0,t,es,n,x0,e1,e2,e3,h1,h2,h3⟩:=hx;exact ⟨h0,t,es,n,x0,e1,e2,e3,h1,h2,fun t' ht'=>hk _ _ _ (h3 t' ht')⟩
   case ex k xs=>
    simp only [XO,XEx,hV,A3,if_false] at hx ⊢;exact ⟨hx.1,hx.2.mono fun v σ' _ hv=>hk _ _ _ hv⟩
theorem UZ {q:Q} {K':C6} (hk:∀F L σ,K F L σ->K' F L σ) (hx:XQ P q K F L σ):XQ P q K' F L σ:=by
 unfold XQ at hx ⊢;cases hc:gd F q.grd with
 |none=>rw [hc] at hx;exact hx.elim
 |some b=>
  rw [hc] at hx;cases b
  . exact hk _ _ _ hx
  . exact ACU hk hx
inductive PT where
 |done
 |one (i:Nat) (t:PT)
 |alt (i:Nat) (t r:PT)
 |lay (i:Nat) (t:PT)
inductive QT where
 |done
 |one (q:Q) (t:QT)
 |alt (q:Q) (t r:QT)
def XT (P:Program) (K:C6):Bool->QT->C6
 |false,.done=>K
 |true,.done=>fun _ _ _=>True
 |_,.one q t=>XQ P q (XT P K false t)
 |_,.alt q t r=>fun F L σ=>XQ P q (XT P K false t) F L σ/\XT P K true r F L σ
def PT.depth:PT->Nat
 | .done=>0
 | .one _ t=>t.depth+1
 | .alt _ t r=>max (t.depth+1) r.depth
 | .lay _ t=>t.depth+1
def eR (qs:List Q):PT->Option QT
 | .done=>some .done
 | .one i t=>(qs[i]?).bind fun q=>(eR qs t).map (.one q ·)
 | .alt i t r=>(qs[i]?).bind fun q=>(eR qs t).bind fun t'=>(eR qs r).map (.alt q t' ·)
 | .lay i t=>(qs[i]?).bind fun q=>(eR qs t).map (.one q ·)
def QY (ops:Array Oper) (tab:Array Nat) (qs:List Q):PT->Array Bool->Option (List Nat)->Bool
 | .done,listed,none=>(Region.ready .any ops listed).isEmpty
 | .done,listed,some l=>(Region.ready .any ops listed).all (l.contains ·)
 | .one i t,listed,none=>(Region.ready .any ops listed).contains i&&(Region.ready .any ops listed==[i]||mF tab qs listed i)&&QY ops tab qs t (listed.setIfInBounds i true) none
 | .one i t,listed,some l=>(Region.ready .any ops listed).contains i&&(Region.ready .any ops listed).all (fun j=>j==i||l.contains j)&&QY ops tab qs t (listed.setIfInBounds i true) none
 | .alt i t r,listed,e=>(Region.ready .any ops listed).contains i&&QY ops tab qs t (listed.setIfInBounds i true) none&&QY ops tab qs r listed (some (i::e.getD []))
 | .lay _ _,_,_=>false
theorem mK {ops:Array Oper} {tab:Array Nat} (htab:∀j i,(tab.getD j 0).testBit i=true->Anc ops j i) {qs:List Q}:∀(t:PT) (qt:QT),eR qs t=some qt->
 (∀n listed F L σ,t.depth<=n->QY ops tab qs t listed none=true->LU ops listed->listed.size=ops.size->XT P K false qt F L σ->fN P ops qs K n listed F L σ)/\
 (∀n listed l F L σ,t.depth<=n+1->QY ops tab qs t listed (some l)=true->LU ops listed->listed.size=ops.size->XT P K true qt F L σ->
   ∀j∈Region.ready .any ops listed,j ∉ l->∃q,qs[j]?=some q/\XQ P q (fN P ops qs K n (listed.setIfInBounds j true)) F L σ)
 | .done,qt,hp=>by
  simp only [eR,AL] at hp;subst hp;refine ⟨fun n listed F L σ _ hp _ _ hx=>?_,fun n listed l F L σ _ hp _ _ _ j hj hjl=>?_⟩
  . simp only [QY,List.isEmpty_iff] at hp;cases n with
    |zero=>exact ⟨hp,hx⟩
    |succ n=>exact ⟨fun _=>hx,fun i hi=>by rw [hp] at hi;cases hi⟩
  . simp only [QY,A8,Ak] at hp;exact absurd (hp j hj) hjl
 | .one i t,qt,hp=>by
  simp only [eR,AB,AN] at hp;obtain ⟨q,hq,t',ht',rfl⟩:=hp;obtain ⟨ih,_⟩:=mK htab t t' ht';refine ⟨fun n listed F L σ hd hp hcl hsz hx=>?_,fun n listed l F L σ hd hp hcl hsz hx j hj hjl=>?_⟩
  . simp only [PT.depth] at hd;obtain ⟨m,rfl⟩:∃m,n=m+1:=⟨n - 1,by omega⟩;simp only [QY,AO,DI,Ak,beq_iff_eq] at hp;obtain ⟨⟨hr,hok⟩,hrest⟩:=hp;have hx:XQ P q (XT P K false t') F L σ:=hx;have ih':=fun F L σ=>ih m (listed.setIfInBounds i true) F L σ (by omega) hrest (hcl.set hr) (by simpa using hsz);rcases hok with hok|hok
    . refine ⟨fun h=>(by rw [h] at hr;cases hr),fun j hj=>?_⟩;rw [hok] at hj;simp only [A6] at hj;subst hj;exact ⟨_,hq,UZ (fun F L σ h=>ih' F L σ h) hx⟩
    . unfold mF at hok;rw [hq] at hok;simp only [AO,A8] at hok;obtain ⟨v,hy,hk⟩:=(ALC hok.1 _).1 hx;refine rF htab hq hok.1 m listed F L σ v hcl hsz (fun j qj hj hji hun=>?_) hr hy (ih' _ _ _ hk)
      have hmem:(qj,j)∈qs.zipIdx:=by
       rw [Yr];exact hj
      have:=hok.2 (qj,j) hmem;simp only [DI,beq_iff_eq] at this;rcases this with (h|h)|h
      . exact absurd h hji
      . rw [hun] at h;cases h
      . exact h
  . simp only [PT.depth] at hd;simp only [QY,AO,A8,Ak,DI,beq_iff_eq] at hp;obtain ⟨⟨hr,hall⟩,hrest⟩:=hp;have hx:XQ P q (XT P K false t') F L σ:=hx;rcases hall j hj with rfl|h
    . exact ⟨q,hq,UZ (fun F L σ h=>ih n _ F L σ (by omega) hrest (hcl.set hr) (by simpa using hsz) h) hx⟩
    . exact absurd h hjl
 | .alt i t r,qt,hp=>by
  simp only [eR,AB,AN] at hp;obtain ⟨q,hq,t',ht',r',hr',rfl⟩:=hp;obtain ⟨ih,_⟩:=mK htab t t' ht';obtain ⟨_,ihr⟩:=mK htab r r' hr';refine ⟨fun n listed F L σ hd hp hcl hsz hx=>?_,fun n listed l F L σ hd hp hcl hsz hx j hj hjl=>?_⟩
  . simp only [PT.depth] at hd;obtain ⟨m,rfl⟩:∃m,n=m+1:=⟨n - 1,by omega⟩;simp only [QY,AO,Ak,Option.getD_none] at hp;obtain ⟨⟨hr,hrest⟩,hp2⟩:=hp;obtain ⟨hx1,hx2⟩:=hx;refine ⟨fun h=>(by rw [h] at hr;cases hr),fun j hj=>?_⟩;by_cases hji:j=i
    . subst hji;exact ⟨q,hq,UZ (fun F L σ h=>ih m _ F L σ (by omega) hrest (hcl.set hr) (by simpa using hsz) h) hx1⟩
    . exact ihr m listed [i] F L σ (by omega) hp2 hcl hsz hx2 j hj (by simpa using hji)
  . simp only [PT.depth] at hd;simp only [QY,AO,Ak,BC] at hp;obtain ⟨⟨hr,hrest⟩,hp2⟩:=hp;obtain ⟨hx1,hx2⟩:=hx;by_cases hji:j=i
    . subst hji;exact ⟨q,hq,UZ (fun F L σ h=>ih n _ F L σ (by omega) hrest (hcl.set hr) (by simpa using hsz) h) hx1⟩
    . exact ihr n listed (i::l) F L σ (by omega) hp2 hcl hsz hx2 j hj (by simp [hji,hjl])
 | .lay i t,qt,hp=>⟨fun n listed F L σ _ hp=>by simp [QY] at hp,fun n listed l F L σ _ hp=>by simp [QY] at hp⟩
end Go.Ab
namespace Go.Ab
open Go.RowKit
variable {P:Program} {base N:Nat} {g g':Gh} {Pr:Nat->Prop} {σ σ':AI} {w0 w w':World} {lam:Nat->Option Nat} {F:Fm} {L:Lm} {a:Act} {K:C6} {d:Nat} {z:List AV}
theorem VR.BV {x:AV} {v:Value} (h:VR g x v) (d:Nat):x.BV d=false:=by cases h<;>rfl
theorem iG {x:AV} (h:x.BE=true) (d:Nat):x.BV d=false:=by cases x<;>first|rfl|(cases h;done)
theorem AAU {x:AV} (h:x.B8=true) (d:Nat):x.BV d=false:=by cases x<;>first|rfl|(cases h;done)
theorem AT.BV {f:FuncId} {args:List AV} {Q:AV->AI->Prop} (h:AT P f args σ Q) (d:Nat):AT P f args σ (fun v σ'=>Q v σ'/\v.BV d=false):=
 fun base g Pr w0 w vs hr hv=>(h base g Pr w0 w vs hr hv).mono fun _ _ ⟨v,av,g',σ',a,b,c,d',e,q⟩=>⟨v,av,g',σ',a,b,c,d',e,q,b.BV d⟩
def Off (d:Nat) (F:Fm):Prop:=∀s,(F s).BV d=false
theorem Off.BS (h:Off d F) {dst:Option Nat} {v:AV} (hv:v.BV d=false):Off d (BS dst v F):=by
 intro s;cases dst with
 |none=>exact h s
 |some k=>
  simp only [Ab.BS,Ab.put];split
  . exact hv
  . exact h s
theorem Off.Du (h:Off d F) (k:Nat):Off d (Du k F):=by
 intro s;simp only [Ab.Du];split
 . rfl
 . exact h s
theorem u4 (d:Nat) (F:Fm):Off d (Du d F):=by
 intro s;simp only [Du];split
 . rfl
 . rename_i h;simpa using h
def cOk:X->Bool
 | .t _=>true
 | .c v=>v.BE
theorem Y1 (h:Off d F) {x:X} (hx:cOk x=true):(xv F x).BV d=false:=by
 cases x with
 |t n=>exact h n
 |c v=>exact iG hx d
def Y5:O->Bool
 | .mv x| .fld x _| .ld x _| .ldl x _| .nck x=>cOk x
 | .pick _ x y=>cOk x&&cOk y
 | .st x _ _=>cOk x
 | .iC _ _ _=>false
 |_=>true
theorem xN {k:Nat} (h:k≠d) (z:List AV) (L:Lm):Am d z L k=L k:=by simp [Am,h]
theorem AQT {p:AV} (hp:p.BV d=false) (n:Option Nat):ldA (Am d z L) σ p n=ldA L σ p n:=by
 cases p<;>try rfl
 . rename_i dx;cases dx<;>rfl
 rename_i k o;have:k≠d:=by simpa [AV.BV] using hp
 simp [ldA,xN this]
theorem AM0 {p:AV} (hp:p.BV d=false) (n:Option Nat):xF (Am d z L) p n=xF L p n:=by
 cases p<;>try rfl
 rename_i k o;have:k≠d:=by simpa [AV.BV] using hp
 simp [xF,xN this]
theorem AUI (h:Off d F) {o:O} (hc:Y5 o=true):pv F (Am d z L) σ o=pv F L σ o:=by
 cases o<;>try rfl
 case ld x n=>exact AQT (Y1 h hc) n
 case ldl x n=>exact AM0 (Y1 h hc) n
theorem Yi {cs:List AV} {o:Nat} {n:Option Nat} {v:AV} (h:rdC cs o n=some v):v.BV d=false:=by
 cases n with
 |none=>
  simp only [rdC,AB] at h;obtain ⟨v0,_,h⟩:=h;obtain ⟨rfl,hc⟩:=aS h;exact AAU hc d
 |some n=>
  simp only [rdC] at h;split at h
  . cases h;rfl
  . cases h
theorem AMU {op:BinOp} {k:IntKind} {x y:Int} {v:AV} (h:AIY op k x y=some v):v.BV d=false:=by
 unfold AIY at h;split at h<;>first|(cases h;rfl)|(split at h<;>first|(cases h;done)|(cases h;rfl))|(cases h;done)
theorem AOS {op:BinOp} {x y:List UInt8} {v:AV} (h:AB8 op x y=some v):v.BV d=false:=by
 unfold AB8 at h;split at h<;>first|(cases h;rfl)|(split at h<;>first|(cases h;done)|(cases h;rfl))|(cases h;done)
theorem AGX {b:Bool} {x y v:AV} (h:mmA b x y=some v):v.BV d=false:=by
 unfold mmA at h;split at h
 . split at h
   . cases h;rfl
   . cases h
 . cases h
theorem w6 {rows:List (List DV)} {m:Int} {n:Nat} {v:AV} (h:ixR rows m n=some v):v.BV d=false:=by
 unfold ixR at h;split at h
 . simp only [AB] at h;obtain ⟨r,_,h⟩:=h;split at h
   . cases h;rfl
   . cases h
 . cases h
theorem AP9 {k:EK} {args:List AV} {v:AV} (h:exP k args=some v):v.BV d=false:=by
 obtain ⟨_,h⟩:=AQE h;cases h
theorem ARN (h:Off d F) {o:O} (hc:Y5 o=true) {v:AV} (hv:pv F L σ o=some v):v.BV d=false:=by
 cases o<;>simp only [pv] at hv<;>try (cases hv;done)
 case mv x=>cases hv;exact Y1 h hc
 case ex k xs=>exact AP9 hv
 case pick c x y=>
  simp only [Y5,AO] at hc;unfold ABE at hv;split at hv
  . cases hv;split
    . exact Y1 h hc.1
    . exact Y1 h hc.2
  . cases hv
 case fld x off=>
  have hx:=Y1 h hc;generalize xv F x=p at hv hx;cases p<;>simp only [ADZ] at hv<;>try (cases hv;done)
  . rename_i dx;cases dx<;>simp only at hv<;>first|(cases hv;done)|(cases hv;rfl)
  . cases hv;exact hx
  . cases hv;rfl
  . cases hv;rfl
 case ld x n=>
  generalize xv F x=p at hv;cases p<;>simp only [ldA] at hv<;>try (cases hv;done)
  . rename_i dx;cases dx<;>simp only at hv<;>first|(cases hv;done)|exact Yi hv
  . simp only [AB] at hv;obtain ⟨_,_,hv⟩:=hv;exact Yi hv
  . simp only [AB] at hv;obtain ⟨_,_,hv⟩:=hv;exact Yi hv
  . exact Yi hv
 case ldl x n=>
  generalize xv F x=p at hv;cases p<;>simp only [xF] at hv<;>try (cases hv;done)
  simp only [AB] at hv;obtain ⟨_,_,hv⟩:=hv;exact Yi hv
 case ix x i n=>
  unfold ixA at hv;split at hv
  . split at hv
    . cases hv;rfl
    . cases hv
  . split at hv
    . cases hv;rfl
    . cases hv
  . exact w6 hv
  . exact w6 hv
  . exact w6 hv
  . cases hv
 case AOM x i=>
  unfold qN at hv;split at hv
  . split at hv
    . simp only [AN] at hv;obtain ⟨_,_,rfl⟩:=hv;rfl
    . cases hv
  . cases hv
 case len x=>
  unfold Tx at hv;split at hv<;>first|(cases hv;rfl)|(cases hv;done)
 case AKK x=>
  unfold vI at hv;split at hv<;>first|(cases hv;rfl)|(cases hv;done)
 case bin op x y=>
  unfold AHR at hv;split at hv
  . split at hv
    . exact AMU hv
    . cases hv
  . exact AOS hv
  . cases hv
 case ALJ op x y=>
  unfold tL at hv;split at hv<;>first|(cases hv;rfl)|(cases hv;done)
 case un op x=>
  unfold unA at hv;split at hv<;>first|(cases hv;rfl)|(cases hv;done)
 case conv k x=>
  unfold tW at hv;split at hv<;>first|(cases hv;rfl)|(cases hv;done)
 case bld z ps=>simp only [AN] at hv;obtain ⟨_,_,rfl⟩:=hv;rfl
 case bsl s n z ps=>simp only [AN] at hv;obtain ⟨_,_,rfl⟩:=hv;rfl
 case mkf f x y=>
  split at hv
  . cases hv;rfl
  . cases hv
 case ext x i=>
  unfold AIE at hv;split at hv
  . simp only [AB] at hv;obtain ⟨v0,_,hv⟩:=hv;obtain ⟨rfl,hn⟩:=pM hv;exact iG hn d
  . cases hv
 case nck x=>
  have hx:=Y1 h hc;generalize xv F x=p at hv hx;cases p<;>simp only [ANF] at hv<;>try (cases hv;done)
  . rename_i dx;cases dx<;>simp only at hv<;>first|(cases hv;done)|(cases hv;rfl)
  . cases hv;exact hx
  . cases hv;rfl
  . cases hv;rfl
 case mm b x y=>exact AGX hv
 case fd x off n=>
  generalize xv F x=p at hv;cases p<;>simp only [fdA] at hv<;>try (cases hv;done)
  exact Yi hv
 case ssl x lo hi=>
  unfold YO at hv;split at hv
  . simp only [AN] at hv;obtain ⟨_,_,rfl⟩:=hv;rfl
  . cases hv
 case sls x lo hi mx n=>
  unfold AKL at hv;split at hv
  . split at hv
    . cases hv;rfl
    . cases hv
  . simp only [AB] at hv;obtain ⟨_,_,hv⟩:=hv;split at hv
    . cases hv;rfl
    . cases hv
  . simp only [AB] at hv;obtain ⟨_,_,hv⟩:=hv;split at hv
    . cases hv;rfl
    . cases hv
  simp only [AB] at hv;obtain ⟨rows,_,hv⟩:=hv;unfold yF at hv;split at hv
  . simp only [AB] at hv;obtain ⟨b,_,hv⟩:=hv;split at hv
    . cases hv;rfl
    . split at hv
      . cases hv;rfl
      . cases hv
    . cases hv
  . cases hv
 case AE8 ne x=>
  unfold u7 at hv;split at hv<;>first|(cases hv;rfl)|(cases hv;done)
 case AFV ne n x y=>
  unfold vJ at hv;split at hv
  . split at hv
    . simp only [AN] at hv;obtain ⟨_,_,rfl⟩:=hv;rfl
    . cases hv
  . cases hv
 case mm3 b x y z=>
  simp only [AB] at hv;obtain ⟨_,_,hv⟩:=hv;exact AGX hv
 case ALK x=>simp only [AN] at hv;obtain ⟨_,_,rfl⟩:=hv;rfl
theorem Et {dst:Option Nat} (h:dst≠some d) (v x:AV) (F:Fm):BS dst v (put d x F)=put d x (BS dst v F):=
 iM (d:=dst) (e:=some d) (fun k hk he=>h (by rw [hk,he])) v x F
theorem Xw {k:Nat} (h:d≠k) (F:Fm):Du k (put d (.lp d 0) F)=put d (.lp d 0) (Du k F):=by
 funext s;simp only [Du,put];by_cases e:s=d
 . subst e;simp [AV.BV,h]
 . simp [e]
theorem iL {k:Nat} (h:k≠d) (x y:List AV) (L:Lm):Am k x (Am d y L)=Am d y (Am k x L):=by
 funext s;simp only [Am];by_cases e:s=k
 . subst e;simp [h]
 . simp [e]
theorem ATA {o:O} {dst:Option Nat} (hN:Off d F) (hc:Y5 o=true) (hl:∀s∈Lt o,s≠d) (hd:dst≠some d) (hx:XO P dst K (put d (.lp d 0) F) (Am d z L) σ o):
 XO P dst (fun F' L' σ'=>Off d F'/\K (put d (.lp d 0) F') (Am d z L') σ') F L σ o:=by
 have hF:∀s∈Lt o,put d (.lp d 0) F s=F s:=fun s hs=>by simp [put,hl s hs]
 by_cases hV:isV o=true
 . rw [AHJ hV] at hx ⊢;obtain ⟨u,h1,h2⟩:=hx;have h1:=mR hF h1
   have h3:Yv P F L σ u o/\u.BV d=false:=by
    cases o<;>try (cases hV;done)
    case jZ f args=>exact ⟨h1,iG h1.2.1 d⟩
    all_goals
     simp only [Yv] at h1 ⊢;rw [AUI hN hc] at h1;exact ⟨h1,ARN hN hc h1⟩
   refine ⟨u,h3.1,hN.BS h3.2,?_⟩;rw [<- Et hd];exact h2
 . cases o<;>simp only [isV,not_true_eq_false] at hV<;>simp only [Lt,A0] at hF
   case box x sh=>
    simp only [XO,Ys] at hx ⊢;rw [<- B6 hF];refine ⟨hx.1,?_⟩;have hx:=hx.2;cases dst with
    |none=>exact hx.elim
    |some e=>
     have hne:d≠e:=fun h=>hd (by rw [h]);cases sh with
     |true=>exact fun i hi=>⟨hN.BS (dst:=some e) (v:= .gp i 0) rfl,by have:=hx i hi;rw [show put e (.gp i 0) (put d (.lp d 0) F)=put d (.lp d 0) (put e (.gp i 0) F) from Et (dst:=some e) hd _ _ _] at this;exact this⟩
     |false=>
      refine ⟨(hN.Du e).BS (dst:=some e) (v:= .lp e 0) (by simp [AV.BV];exact A9 hne),?_⟩;have hx:K (put e (.lp e 0) (Du e (put d (.lp d 0) F))) (Am e (xv (put d (.lp d 0) F) x).cells (Am d z L)) σ:=hx;rw [Xw hne,iL (A9 hne),show put e (.lp e 0) (put d (.lp d 0) (Du e F))=put d (.lp d 0) (put e (.lp e 0) (Du e F)) from Et (dst:=some e) hd _ _ _] at hx;exact hx
   case al y sh=>
    simp only [XO,Ys] at hx ⊢;refine ⟨hx.1,?_⟩;have hx:=hx.2;cases dst with
    |none=>exact hx.elim
    |some e=>
     have hne:d≠e:=fun h=>hd (by rw [h]);cases sh with
     |true=>exact fun i hi=>⟨hN.BS (dst:=some e) (v:= .gp i 0) rfl,by have:=hx i hi;rw [show put e (.gp i 0) (put d (.lp d 0) F)=put d (.lp d 0) (put e (.gp i 0) F) from Et (dst:=some e) hd _ _ _] at this;exact this⟩
     |false=>
      refine ⟨(hN.Du e).BS (dst:=some e) (v:= .lp e 0) (by simp [AV.BV];exact A9 hne),?_⟩;have hx:K (put e (.lp e 0) (Du e (put d (.lp d 0) F))) (Am e y (Am d z L)) σ:=hx;rw [Xw hne,iL (A9 hne),show put e (.lp e 0) (put d (.lp d 0) (Du e F))=put d (.lp d 0) (put e (.lp e 0) (Du e F)) from Et (dst:=some e) hd _ _ _] at hx;exact hx
   case st x y n=>
    simp only [XO,XSt] at hx ⊢;rw [B6 (F:=put d (.lp d 0) F) (F':=F) (fun s hs=>hF s (.inl hs)),B6 (F:=put d (.lp d 0) F) (F':=F) (fun s hs=>hF s (.inr hs))] at hx;obtain ⟨h1,h2,h3,h4⟩:=hx;refine ⟨h1,h2,h3,?_⟩;have hp:=Y1 hN hc;generalize xv F x=p at hp h4;cases p<;>simp only [stA] at h4 ⊢<;>try (exact h4.elim)
    . rename_i k o2;have hk:k≠d:=by simpa [AV.BV] using hp
      rw [xN hk] at h4;cases hL:L k with
      |none=>rw [hL] at h4;exact h4.elim
      |some cs=>
       rw [hL] at h4;simp only [El] at h4 ⊢;by_cases hle:o2+(xv F y).cells.length<=cs.length
       . rw [if_pos hle] at h4 ⊢;refine ⟨hN,?_⟩;have h4:K (put d (.lp d 0) F) (Am k (wr cs o2 (xv F y).cells) (Am d z L)) σ:=h4;rw [iL hk] at h4;exact h4
       . rw [if_neg hle] at h4;exact h4.elim
    . rename_i i o2;cases hb:σ.blk i with
      |none=>rw [hb] at h4;exact h4.elim
      |some cs=>
       rw [hb] at h4;simp only [El] at h4 ⊢;by_cases hle:o2+(xv F y).cells.length<=cs.length
       . rw [if_pos hle] at h4 ⊢;exact ⟨hN,h4⟩
       . rw [if_neg hle] at h4;exact h4.elim
   case msl e s b y l c=>
    obtain ⟨k,k',n,h1,h2,h3,h4,h5,h6⟩:=hx;refine ⟨k,k',n,by rw [<- B6 (fun s hs=>hF s (.inl hs))];exact h1,by rw [<- B6 (fun s hs=>hF s (.inr hs))];exact h2,h3,h4,h5,fun i hi=>⟨hN.BS rfl,?_⟩⟩;rw [<- Et hd];exact h6 i hi
   case app e s b x y=>
    rcases hx with ⟨rows,σ1,srows,h1,h2,h3,h4,h5,h6⟩|⟨rows,srows,h1,h2,h3,h4,h5,h6,h7⟩
    . refine .inl ⟨rows,σ1,srows,by rw [<- B6 (fun s hs=>hF s (.inl hs))];exact h1,by rw [<- B6 (fun s hs=>hF s (.inr hs))];exact h2,h3,h4,h5,fun t ht=>⟨hN.BS rfl,?_⟩⟩;rw [<- Et hd];exact h6 t ht
    . refine .inr ⟨rows,srows,by rw [<- B6 (fun s hs=>hF s (.inl hs))];exact h1,by rw [<- B6 (fun s hs=>hF s (.inr hs))];exact h2,h3,h4,h5,h6,⟨hN.BS rfl,?_⟩⟩;rw [<- Et hd];exact h7
   case rM e s b x y=>
    obtain ⟨n,cs,σ1,srows,h1,h2,h3,h4,h5,h6,h7⟩:=hx;refine ⟨n,cs,σ1,srows,by rw [<- B6 (fun s hs=>hF s (.inl hs))];exact h1,by rw [<- B6 (fun s hs=>hF s (.inr hs))];exact h2,h3,fun e=>⟨hN.BS ?_,?_⟩,h5,h6,fun e t ht=>⟨hN.BS rfl,?_⟩⟩
    . unfold Oc at h1;rw [<- B6 (fun s hs=>hF s (.inl hs))];generalize xv _ x=xx at h1;cases xx<;>first|rfl|(cases h1;done)
    . rw [<- Et hd,<- B6 (fun s hs=>hF s (.inl hs))];exact h4 e
    . rw [<- Et hd];exact h7 e t ht
   case trn x y=>
    obtain ⟨k,s,e,cs,σ1,h1,h2⟩:=hx;refine ⟨k,s,e,cs,σ1,by rw [<- B6 (fun s hs=>hF s (.inl hs)),<- B6 (fun s hs=>hF s (.inr hs))];exact h1,fun t ht=>⟨hN.BS rfl,?_⟩⟩;rw [<- Et hd];exact h2 t ht
   case kJ e s l y ps=>
    obtain ⟨cs,h1,h2⟩:=hx;refine ⟨cs,by rw [<- Rb _ _ hF];exact h1,h2.imp (fun h2 t ht=>⟨hN.BS rfl,?_⟩) fun ⟨ds,h3,h5⟩=>⟨ds,h3,fun t ht=>⟨hN.BS rfl,?_⟩⟩⟩
    . rw [<- Et hd];exact h2 t ht
    . rw [<- Et hd];exact h5 t ht
   case call f args=>
    obtain ⟨h1,R,h2,h3⟩:=hx;rw [Hw hF] at h1 h2;refine ⟨h1,_,h2.BV d,fun u σ' hv=>⟨hN.BS hv.2,?_⟩⟩;rw [<- Et hd];exact h3 u σ' hv.1
   case Zh x args=>
    obtain ⟨f,first,caps,h0,hb,h1,R,h2,h3⟩:=hx;rw [Hw (fun s hs=>hF s (.inr hs))] at h1 h2;refine ⟨f,first,caps,by rw [<- B6 (fun s hs=>hF s (.inl hs))];exact h0,hb,h1,_,h2.BV d,fun u σ' hv=>⟨hN.BS hv.2,?_⟩⟩;rw [<- Et hd];exact h3 u σ' hv.1
   case iC x y z=>cases hc
   case ex k xs=>
    simp only [XO,XEx,hV,A3,if_false] at hx ⊢;rw [Hw hF] at hx;refine ⟨hx.1,hx.2.mono fun u σ' hu hv=>⟨hN.BS (hu d),?_⟩⟩;rw [<- Et hd];exact hv
theorem ATC {q:Q} (hN:Off d F) (hc:Y5 q.o=true) (hl:∀s∈q.looks,s≠d) (hd:q.dst≠some d) (hx:XQ P q K (put d (.lp d 0) F) (Am d z L) σ):
 XQ P q (fun F' L' σ'=>Off d F'/\K (put d (.lp d 0) F') (Am d z L') σ') F L σ:=by
 have h1:∀s∈Lt q.o,s≠d:=fun s hs=>hl s (by simp [Q.looks,hs]);unfold XQ at hx ⊢;rw [oH (F:=put d (.lp d 0) F) (F':=F) (fun s hs=>by simp [put,hl s hs])] at hx;cases hc2:gd F q.grd with
 |none=>rw [hc2] at hx;exact hx.elim
 |some b=>
  rw [hc2] at hx;cases b
  . have hx:K (BS q.dst (.tup []) (put d (.lp d 0) F)) (Am d z L) σ:=hx;rw [Et hd] at hx;exact ⟨hN.BS rfl,hx⟩
  . exact ATA hN hc h1 hd hx
theorem AJ9 (h:Off d F):Du d F=F:=by
 funext s;simp [Du,h s]
def ASY (tab:Array Nat) (qs:List Q) (i d:Nat):Bool:=
 qs.zipIdx.all fun (qj,j)=>j==i||(tab.getD j 0).testBit i||(Y5 qj.o&& !qj.looks.contains d&&qj.dst != some d)
theorem AR9 {ops:Array Oper} {tab:Array Nat} (htab:∀j i,(tab.getD j 0).testBit i=true->Anc ops j i) {qs:List Q} {i:Nat} (hi:qs[i]?=some ⟨some d,.al z false,none⟩) (hz:Aw z=true) (hlay:ASY tab qs i d=true):
 ∀(fuel:Nat) (listed:Array Bool) (F:Fm) (L:Lm) (σ:AI),LU ops listed->listed.size=ops.size->i∈Region.ready .any ops listed->Off d F->
  fN P ops qs K fuel (listed.setIfInBounds i true) (put d (.lp d 0) F) (Am d z L) σ->fN P ops qs K (fuel+1) listed F L σ:=by
 have hself:∀(K2:C6) (F:Fm) (L:Lm) (σ:AI),Off d F->K2 (put d (.lp d 0) F) (Am d z L) σ->XQ P ⟨some d,.al z false,none⟩ K2 F L σ:=fun K2 F L σ hN h=>by
  show Ys z false (some d) K2 F L σ;refine ⟨hz,?_⟩;show K2 (put d (.lp d 0) (Du d F)) (Am d z L) σ;rw [AJ9 hN];exact h
 intro fuel
 induction fuel with
 |zero=>
  intro listed F L σ hcl hsz hr hN H;refine ⟨fun h=>(by rw [h] at hr;cases hr),fun j hj=>?_⟩;by_cases hji:i=j
  . subst hji;exact ⟨_,hi,hself _ _ _ _ hN H⟩
  . have:=UA hj hji;rw [H.1] at this;cases this
 |succ fuel ih=>
  intro listed F L σ hcl hsz hr hN H;refine ⟨fun h=>(by rw [h] at hr;cases hr),fun j hj=>?_⟩;by_cases hji:i=j
  . subst hji;exact ⟨_,hi,hself _ _ _ _ hN H⟩
  . obtain ⟨qj,hqj,hxj⟩:=H.2 j (UA hj hji);obtain ⟨hjlt,hjun,oj,hoj,hjall⟩:=NO.1 hj;have hiun:=(NO.1 hr).2.1;have hilt:=(NO.1 hr).1;have hmem:(qj,j)∈qs.zipIdx:=by rw [Yr];exact hqj
    have hb:=A8.1 hlay (qj,j) hmem;simp only [DI,beq_iff_eq,AO,Br,bne_iff_ne] at hb;rcases hb with (hb|hanc)|⟨⟨hc,hlk⟩,hdst⟩
    . exact absurd hb.symm hji
    . have h1:=mX hcl (htab j i hanc) (fun o ho=>by rw [hoj] at ho;cases ho;exact hjall);rw [DR,O9 (by omega)] at h1 hiun;simp at h1 hiun;rw [h1] at hiun;cases hiun
    . refine ⟨qj,hqj,?_⟩;have hlk':∀s∈qj.looks,s≠d:=fun s hs he=>by subst he;rw [<- Vo,Ak] at hlk;exact hlk hs
      have hcomm:(listed.setIfInBounds i true).setIfInBounds j true=(listed.setIfInBounds j true).setIfInBounds i true:=Array.setIfInBounds_comm _ _ hji;refine UZ (fun F' L' σ' h=>?_) (ATC hN hc hlk' hdst hxj);refine ih _ F' L' σ' (hcl.set hj) (by simpa using hsz) (UA hr (A9 hji)) h.1 ?_;rw [<- hcomm];exact h.2
def So:List Nat->Fm->Fm
 |[],F=>F
 |d::ds,F=>So ds (Du d F)
theorem kA:∀(ds:List Nat) (F:Fm) (s:Nat),So ds F s=F s\/So ds F s= .undef
 |[],F,s=>.inl rfl
 |d::ds,F,s=>by
  rcases kA ds (Du d F) s with h|h
  . rw [So,h];simp only [Du];split<;>simp
  . exact .inr h
theorem pV:∀(ds:List Nat) (F:Fm) (d:Nat),(d∈ds\/Off d F)->Off d (So ds F)
 |[],F,d,h=>by
  rcases h with h|h
  . cases h
  . exact h
 |e::ds,F,d,h=>by
  refine pV ds (Du e F) d ?_;rcases h with h|h
  . cases h with
    |head=>exact .inr (u4 _ F)
    |tail _ h=>exact .inl h
  . exact .inr (h.Du e)
theorem pW:∀(ds:List Nat) (F:Fm) (d:Nat),d ∉ ds->So ds (put d (.lp d 0) F)=put d (.lp d 0) (So ds F)
 |[],F,d,_=>rfl
 |e::ds,F,d,h=>by
  simp only [Ar,not_or] at h;simp only [So];rw [Xw h.1,pW ds _ d h.2]
def UL:PT->List Nat×PT
 | .lay i t=>(i::(UL t).1,(UL t).2)
 |t=>([],t)
def AMZ (qs:List Q):List Nat->Option (List (Nat×Nat×List AV))
 |[]=>some []
 |i::l=>match qs[i]? with
  |some ⟨some d,.al z false,none⟩=>if Aw z then (AMZ qs l).map ((i,d,z)::·) else none
  |_=>none
def hZ (ops:Array Oper) (tab:Array Nat) (qs:List Q):List (Nat×Nat×List AV)->Array Bool->Bool
 |[],_=>true
 |(i,d,_)::r,listed=>(Region.ready .any ops listed).contains i&&ASY tab qs i d&& !(r.map (·.2.1)).contains d&&hZ ops tab qs r (listed.setIfInBounds i true)
def qL:List Nat->Array Bool->Array Bool
 |[],a=>a
 |i::l,a=>qL l (a.setIfInBounds i true)
def AT6:List (Nat×Nat×List AV)->Fm->Fm
 |[],F=>F
 |(_,d,_)::r,F=>AT6 r (put d (.lp d 0) (Du d F))
def AT7:List (Nat×Nat×List AV)->Lm->Lm
 |[],L=>L
 |(_,d,z)::r,L=>AT7 r (Am d z L)
theorem vS {ops:Array Oper} {tab:Array Nat} (htab:∀j i,(tab.getD j 0).testBit i=true->Anc ops j i) {qs:List Q} {n:Nat}:∀(ls:List (Nat×Nat×List AV)) (listed:Array Bool) (F:Fm) (L:Lm) (σ:AI),
 (∀x∈ls,qs[x.1]?=some ⟨some x.2.1,.al x.2.2 false,none⟩/\Aw x.2.2=true)->hZ ops tab qs ls listed=true->LU ops listed->listed.size=ops.size->
 fN P ops qs K n (qL (ls.map (·.1)) listed) (AT6 ls F) (AT7 ls L) σ->fN P ops qs K (n+ls.length) listed (So (ls.map (·.2.1)) F) L σ
 |[],listed,F,L,σ,_,_,_,_,h=>h
 |(i,d,z)::r,listed,F,L,σ,hq,hok,hcl,hsz,h=>by
  simp only [hZ,AO,Ak,Br] at hok;obtain ⟨⟨⟨hr,hlay⟩,hnd⟩,hrest⟩:=hok;have hnd':d ∉ r.map (·.2.1):=fun hm=>by rw [<- Vo,Ak] at hnd;exact hnd hm
  obtain ⟨hi,hz⟩:=hq (i,d,z) (by simp);have ih:=vS htab (n:=n) r (listed.setIfInBounds i true) (put d (.lp d 0) (Du d F)) (Am d z L) σ (fun x hx=>hq x (by simp [hx])) hrest (hcl.set hr) (by simpa using hsz) h;rw [pW _ _ _ hnd'] at ih;exact AR9 htab hi hz hlay (n+r.length) listed _ L σ hcl hsz hr (pV (r.map (·.2.1)) (Du d F) d (.inr (u4 d F))) ih
theorem Zw {ops:Array Oper} {tab:Array Nat} {qs:List Q}:∀(ls:List (Nat×Nat×List AV)) (listed:Array Bool),hZ ops tab qs ls listed=true->LU ops listed->listed.size=ops.size->LU ops (qL (ls.map (·.1)) listed)/\(qL (ls.map (·.1)) listed).size=ops.size
 |[],listed,_,hc,hs=>⟨hc,hs⟩
 |(i,d,z)::r,listed,hok,hcl,hsz=>by
  simp only [hZ,AO,Ak] at hok;exact Zw r _ hok.2 (hcl.set hok.1.1.1) (by simpa using hsz)
def AG4 (ls:List (Nat×Nat×List AV)) (t:QT):QT:=ls.foldr (fun x acc=>.one ⟨some x.2.1,.al x.2.2 false,none⟩ acc) t
theorem ABF:∀(ls:List (Nat×Nat×List AV)) (t:QT) (F:Fm) (L:Lm),XT P K false (AG4 ls t) F L σ->XT P K false t (AT6 ls F) (AT7 ls L) σ
 |[],t,F,L,h=>h
 |(i,d,z)::r,t,F,L,h=>by
  have h:XQ P ⟨some d,.al z false,none⟩ (XT P K false (AG4 r t)) F L σ:=h;have h:Ys z false (some d) (XT P K false (AG4 r t)) F L σ:=h;exact ABF r t _ _ h.2
def nR (P:Program) (N:Nat) (esc:List Nat) (pf:List FuncId) (pt:PT) (ops:Array Oper):Option QT:=do
 let qs <- Pz P N esc ops (BA ops.size)
 let qs:=qs.map (toP pf)
 let tab:=fQ ops.toList #[]
 let ls <- AMZ qs (UL pt).1
 let l0:=F9 ops.size false
 if hZ ops tab qs ls l0&&QY ops tab qs (UL pt).2 (qL (ls.map (·.1)) l0) none&&decide ((UL pt).2.depth+ls.length<=ops.size) then (eR qs (UL pt).2).map (AG4 ls) else none
theorem uR {qs:List Q}:∀(l:List Nat) (ls:List (Nat×Nat×List AV)),AMZ qs l=some ls->∀x∈ls,qs[x.1]?=some ⟨some x.2.1,.al x.2.2 false,none⟩/\Aw x.2.2=true
 |[],ls,h,x,hx=>by simp only [AMZ,AL] at h;subst h;cases hx
 |i::l,ls,h,x,hx=>by
  simp only [AMZ] at h;split at h
  . rename_i d z hq;split at h
    . rename_i hz;simp only [AN] at h;obtain ⟨r,hr,rfl⟩:=h;cases hx with
      |head=>exact ⟨hq,hz⟩
      |tail _ hx=>exact uR l r hr x hx
    . cases h
  . cases h
theorem tH {ops:Array Oper} {qs:List Q}:∀(n m:Nat) (listed:Array Bool) (F:Fm) (L:Lm) (σ:AI),n<=m->fN P ops qs K n listed F L σ->fN P ops qs K m listed F L σ
 |0,0,listed,F,L,σ,_,h=>h
 |0,m+1,listed,F,L,σ,_,h=>⟨fun _=>h.2,fun i hi=>by rw [h.1] at hi;cases hi⟩
 |n+1,0,listed,F,L,σ,hle,h=>by omega
 |n+1,m+1,listed,F,L,σ,hle,h=>⟨h.1,fun i hi=>by
  obtain ⟨q,hq,hx⟩:=h.2 i hi;exact ⟨q,hq,UZ (fun F L σ h=>tH n m _ F L σ (by omega) h) hx⟩⟩
theorem Bv.AWV (h:Bv base g lam Pr N F L σ a w0 w) {F':Fm} (hF:∀s,F' s=F s\/F' s= .undef):Bv base g lam Pr N F' L σ a w0 w:=by
 refine ⟨fun s=>?_,h.sz,h.df,h.loc,h.inj,h.npr,h.rel⟩;rcases hF s with e|e
 . rw [e];exact h.tm s
 . rw [e];exact VR.undef
theorem jM {ops:Array Oper} {esc:List Nat} {pf:List FuncId} {pt:PT} {qt:QT} (hm:P.follows .mixedOrders=true) (hc:nR P N esc pf pt ops=some qt) (hx:XT P K false qt F L σ)
 (h:Bv base g lam Pr N F L σ a w0 w) {id:Nat}:(Code.region id ops true).wp P (fun e a' w'=>e= .normal/\GK base Pr N w0 g w K a' w') a w:=by
 simp only [nR,AQ,AB] at hc;obtain ⟨qs0,hq0,ls,hls,hc⟩:=hc;split at hc
 case isFalse=>cases hc
 rename_i hp;simp only [AO,decide_eq_true_eq] at hp;simp only [AN] at hc;obtain ⟨t,ht,rfl⟩:=hc
 have hcl:LU ops (F9 ops.size false):=by
  intro j o ho hj
  have:(F9 ops.size false).getD j false=false:=by
   simp only [DR,Array.getElem?_replicate];split<;>rfl
  rw [this] at hj;cases hj
 obtain ⟨hcl2,hsz2⟩:=Zw ls _ hp.1.1 hcl (by simp);have hx2:=ABF ls t F L hx;have hany1:=(mK (P:=P) (K:=K) (fun j i=>iZ) _ t ht).1 _ _ _ _ σ (AW _) hp.1.2 hcl2 hsz2 hx2;have hany2:=vS (P:=P) (K:=K) (tab:=fQ ops.toList #[]) (fun j i=>iZ) ls _ F L σ (uR _ ls hls) hp.1.1 hcl (by simp) hany1;have hany:=tH _ ops.size _ _ _ _ hp.2 hany2;refine wp_region_any hm ?_;have hF:=h.AWV (kA (ls.map (·.2.1)) F)
 have hdrew:Bv base g lam Pr N (So (ls.map (·.2.1)) F) L σ a w0 { w with drawn:=w.drawn+1}:=
  hF.step (w':=w.drew) (Gh.le_refl g) (fun k b hb=>rfl) (hF.rel.grow (w':=w.drew) (AW _) (fun _ _ _=>rfl) ((Below.refl base w).drew) (fun b hb=>⟨(hF.rel.pr b hb).1,.inl hb⟩))
 exact cG hq0 K _ _ base g lam Pr _ L σ a w0 _ hany hdrew (fun a' w' hA=>⟨rfl,GK.trans (Gh.le_refl g) ⟨AW _,fun _ _=>rfl⟩ hA⟩)
def lin:QT->Option (List Q)
 | .done=>some []
 | .one q t=>(lin t).map (q::·)
 | .alt _ _ _=>none
theorem AM3:∀(t:QT) (ops:List Q) (F:Fm) (L:Lm) (σ:AI),lin t=some ops->Bc P K ops F L σ->XT P K false t F L σ
 | .done,ops,F,L,σ,h,hx=>by simp only [lin,AL] at h;subst h;exact hx
 | .one q t,ops,F,L,σ,h,hx=>by
  simp only [lin,AN] at h;obtain ⟨l,hl,rfl⟩:=h;exact UZ (fun F L σ h=>AM3 t l F L σ hl h) hx
 | .alt _ _ _,ops,F,L,σ,h,_=>by simp [lin] at h
end Go.Ab
namespace Go.Ab
open Go.RowKit
inductive C where
 |skip
 |reg (ops:List Q) (live:List Nat)
 |Jf (t:QT) (live:List Nat)
 |seq (x y:C)
 |cond (x:X) (t e:C)
 |block (id:Nat) (c:C)
 |loop (c:C)
 |exit (id:Nat)
 |ret
 |scope (c:C)
 |bad
inductive CI where
 |code (c:C)
 |blk (id:Nat)
 |scp
 |again (c:C)
def ADJ (P:Program) (N:Nat) (esc:List Nat) (pf:List FuncId) (live:List Nat) (pt:PT) (ops:Array Oper):Option C:=
 match pt with
 | .done=>(AGG P N esc pf (BA ops.size) ops).map fun q=>.reg q live
 |pt=>(nR P N esc pf pt ops).map fun t=>match lin t with
  |some q=>.reg q live
  |none=>.Jf t live
def IS (P:Program) (N:Nat) (esc:List Nat) (pf:List FuncId):Code->List (List Nat×PT)->Option (C×List (List Nat×PT))
 | .skip,ct=>some (.skip,ct)
 | .region _ ops false,(live,_)::ct=>some (((Pz P N esc ops (BA ops.size)).map fun q=>C.reg q live).getD .bad,ct)
 | .region _ ops true,(live,pt)::ct=>some ((ADJ P N esc pf live pt ops).getD .bad,ct)
 | .seq x y,ct=>(IS P N esc pf x ct).bind fun r=>(IS P N esc pf y r.2).map fun r'=>(.seq r.1 r'.1,r'.2)
 | .cond c t e,ct=>(xo c).bind fun c'=>(IS P N esc pf t ct).bind fun r=>(IS P N esc pf e r.2).map fun r'=>(.cond c' r.1 r'.1,r'.2)
 | .block id c,ct=>(IS P N esc pf c ct).map fun r=>(.block id r.1,r.2)
 | .loop c,ct=>(IS P N esc pf c ct).map fun r=>(.loop r.1,r.2)
 | .exit id,ct=>some (.exit id,ct)
 | .ret,ct=>some (.ret,ct)
 | .scope c,ct=>(IS P N esc pf c ct).map fun r=>(.scope r.1,r.2)
 | .label _,ct=>some (.skip,ct)
 |_,_=>none
inductive RV where
 |t (n:Nat)
 |c (n:Nat) (k:Option Nat)
def jK (P:Program):List ResultVar->Option (List RV)
 |[]=>some []
 | .tmp n::l=>do some (.t n::(<- jK P l))
 | .cell n t::l=>do
  let k <- ldN P t
  some (.c n k::(<- jK P l))
def rvA (F:Fm) (L:Lm) (σ:AI):RV->Option AV
 | .t n=>some (F n)
 | .c n k=>ldA L σ (F n) k
def AFO (F:Fm) (L:Lm) (σ:AI):List RV->Option (List AV)
 |[]=>some []
 |r::l=>do some ((<- rvA F L σ r)::(<- AFO F L σ l))
def p5 (F:Fm) (L:Lm) (σ:AI) (rs:List RV):Option AV:=
 (AFO F L σ rs).bind fun vs=>if vs.all AV.BE then (match vs with|[v]=>some v|vs=>some (.tup vs)) else none
def JK (ks:List Nat) (F:Fm):Fm:=fun s=>if s∈ks then F s else .undef
def Hs (ks:List Nat) (L:Lm):Lm:=fun s=>if s∈ks then L s else none
variable {P:Program} {base N:Nat} {g g':Gh} {Pr:Nat->Prop} {σ σ':AI} {w0 w w':World} {lam:Nat->Option Nat} {F F':Fm} {L L':Lm} {a:Act}
theorem Bv.AK3 (h:Bv base g lam Pr N F L σ a w0 w) (hF:∀s,F' s=F s\/F' s= .undef) (hL:∀k cs,L' k=some cs->L k=some cs) (hσ:σ'.le σ):Bv base g lam Pr N F' L' σ' a w0 w:=by
 refine ⟨fun s=>?_,h.sz,h.df,fun k cs hk=>h.loc k cs (hL k cs hk),h.inj,h.npr,h.rel.less hσ⟩;rcases hF s with e|e
 . rw [e];exact h.tm s
 . rw [e];exact VR.undef
theorem Bv.kept (h:Bv base g lam Pr N F L σ a w0 w) (ks:List Nat):Bv base g lam Pr N (JK ks F) (Hs ks L) σ a w0 w:=
 h.AK3 (fun s=>by simp only [JK];split<;>simp) (fun k cs hk=>by simp only [Hs] at hk;split at hk<;>simp_all) (AI.le_refl σ)
structure Cx where
 P:Program
 f:FuncId
 fn:Func
 N:Nat
 esc:List Nat
 pf:List FuncId
 rs:List RV
def RC (cx:Cx):C->Code->Prop
 | .skip,k=>k= .skip\/∃l,k= .label l
 | .scope c,k=>∃p,k= .scope p/\RC cx c p
 | .reg ops _,k=>∃id arr,(k= .region id arr false/\Pz cx.P cx.N cx.esc arr (BA arr.size)=some ops)\/(k= .region id arr true/\∃order,AGG cx.P cx.N cx.esc cx.pf order arr=some ops)\/(k= .region id arr true/\∃pt t,nR cx.P cx.N cx.esc cx.pf pt arr=some t/\lin t=some ops)
 | .Jf t _,k=>∃id arr pt,k= .region id arr true/\nR cx.P cx.N cx.esc cx.pf pt arr=some t
 | .seq x y,k=>∃p q,k= .seq p q/\RC cx x p/\RC cx y q
 | .cond x t e,k=>∃c p q,k= .cond c p q/\xo c=some x/\RC cx t p/\RC cx e q
 | .block id c,k=>∃p,k= .block id p/\RC cx c p
 | .loop c,k=>∃p,k= .loop p/\RC cx c p
 | .exit id,k=>k= .exit id
 | .ret,k=>k= .ret
 | .bad,_=>True
theorem N8 (cx:Cx):∀(k:Code) (ct:List (List Nat×PT)) (c:C) (ct':List (List Nat×PT)),IS cx.P cx.N cx.esc cx.pf k ct=some (c,ct')->RC cx c k
 | .skip,ct,c,ct',h=>by simp only [IS,AL,Bb] at h;rw [<- h.1];exact .inl rfl
 | .region id ops dr,ct,c,ct',h=>by
  cases ct with
  |nil=>cases dr<;>simp only [IS] at h<;>cases h
  |cons lo ct=>
   obtain ⟨live,order⟩:=lo;cases dr
   . simp only [IS,AL,Bb] at h;obtain ⟨rfl,_⟩:=h;cases hq:Pz cx.P cx.N cx.esc ops (BA ops.size) with
     |none=>exact trivial
     |some qs=>exact ⟨id,ops,.inl ⟨rfl,hq⟩⟩
   . simp only [IS,AL,Bb] at h;obtain ⟨rfl,_⟩:=h;cases hq:ADJ cx.P cx.N cx.esc cx.pf live order ops with
     |none=>exact trivial
     |some c'=>
     simp only [BC];unfold ADJ at hq;split at hq
     . simp only [AN] at hq;obtain ⟨qs,hq',rfl⟩:=hq;exact ⟨id,ops,.inr (.inl ⟨rfl,_,hq'⟩)⟩
     . simp only [AN] at hq;obtain ⟨t,ht,rfl⟩:=hq;cases hl:lin t with
       |some q=>exact ⟨id,ops,.inr (.inr ⟨rfl,_,t,ht,hl⟩)⟩
       |none=>exact ⟨id,ops,_,rfl,ht⟩
 | .seq x y,ct,c,ct',h=>by
  simp only [IS,AB,AN,Bb] at h;obtain ⟨⟨x',c1⟩,hx,⟨y',c2⟩,hy,rfl,_⟩:=h;exact ⟨x,y,rfl,N8 cx x _ _ _ hx,N8 cx y _ _ _ hy⟩
 | .cond c t e,ct,c2,ct',h=>by
  simp only [IS,AB,AN,Bb] at h;obtain ⟨x,hx,⟨t',c1⟩,ht,⟨e',c3⟩,he,rfl,_⟩:=h;exact ⟨c,t,e,rfl,hx,N8 cx t _ _ _ ht,N8 cx e _ _ _ he⟩
 | .block id p,ct,c,ct',h=>by
  simp only [IS,AN,Bb] at h;obtain ⟨⟨c',c1⟩,hc,rfl,_⟩:=h;exact ⟨p,rfl,N8 cx p _ _ _ hc⟩
 | .loop p,ct,c,ct',h=>by
  simp only [IS,AN,Bb] at h;obtain ⟨⟨c',c1⟩,hc,rfl,_⟩:=h;exact ⟨p,rfl,N8 cx p _ _ _ hc⟩
 | .exit id,ct,c,ct',h=>by simp only [IS,AL,Bb] at h;rw [<- h.1];rfl
 | .ret,ct,c,ct',h=>by simp only [IS,AL,Bb] at h;rw [<- h.1];rfl
 | .rangeFunc ..,ct,c,ct',h=>by simp only [IS] at h;cases h
 | .scope p,ct,c,ct',h=>by
  simp only [IS,AN,Bb] at h;obtain ⟨⟨c',c1⟩,hc,rfl,_⟩:=h;exact ⟨p,rfl,N8 cx p _ _ _ hc⟩
 | .label l,ct,c,ct',h=>by simp only [IS,AL,Bb] at h;rw [<- h.1];exact .inr ⟨l,rfl⟩
 | .goto _,ct,c,ct',h=>by simp only [IS] at h;cases h
 | .refuse _,ct,c,ct',h=>by simp only [IS] at h;cases h
def RI (cx:Cx):CI->Item->Prop
 | .code c,y=>∃k,y= .code k/\RC cx c k
 | .blk id,y=>y= .inBlock id
 | .scp,y=>∃k,y= .inScope k
 | .again c,y=>∃k,y= .inLoop k/\RC cx c k
inductive RIs (cx:Cx):List CI->List Item->Prop
 |nil:RIs cx [] []
 |cons {x:CI} {y:Item} {xs:List CI} {ys:List Item} (h:RI cx x y) (hs:RIs cx xs ys):RIs cx (x::xs) (y::ys)
def Good (cx:Cx):Prop:=cx.P.funcs[cx.f]?=some cx.fn/\jK cx.P cx.fn.results.toList=some cx.rs
def Run (cx:Cx) (K:AV->AI->Prop) (todo:List CI) (F:Fm) (L:Lm) (σ:AI):Prop:=
 ∀(items:List Item) (base:Nat) (g:Gh) (lam:Nat->Option Nat) (Pr:Nat->Prop) (a:Act) (w0 w:World) (b:Frame) (cs:List Frame),
  RIs cx todo items->Bv base g lam Pr cx.N F L σ a w0 w->b.fn=cx.f->b.kind= .normal->
  ∃v w' fr,Steps cx.P (lone (b.at a items) cs w) (lone fr cs w')/\fr.fn=cx.f/\fr.leaving cx.P w' (.returned v)/\
   ∃av g' σ',VR g' av v/\Rel base g' Pr σ' w0 w'/\g.le g'/\KP Pr w w'/\K av σ'
variable {cx:Cx} {K:AV->AI->Prop} {k:List CI}
theorem Run.AK3 (hF:∀s,F' s=F s\/F' s= .undef) (hL:∀k cs,L' k=some cs->L k=some cs) (hσ:σ'.le σ) (h:Run cx K k F' L' σ'):Run cx K k F L σ:=
 fun items base g lam Pr a w0 w b cs hi hf hb hk=>h items base g lam Pr a w0 w b cs hi (hf.AK3 hF hL hσ) hb hk
theorem Run.PZ {k':List CI}
 (hs:∀items,RIs cx k items->∃items',RIs cx k' items'/\∀(b:Frame) (a:Act) (cs:List Frame) (w:World),step cx.P (lone (b.at a items) cs w)= .next (lone (b.at a items') cs w))
 (h:Run cx K k' F L σ):Run cx K k F L σ:=by
 intro items base g lam Pr a w0 w b cs hi hf hb hk;obtain ⟨items',hi',hst⟩:=hs items hi;obtain ⟨v,w',fr,hss,rest⟩:=h items' base g lam Pr a w0 w b cs hi' hf hb hk;exact ⟨v,w',fr,.head (hst b a cs w) hss,rest⟩
theorem RIs.code {c:C} {items:List Item} (h:RIs cx (.code c::k) items):∃p ys,items= .code p::ys/\RC cx c p/\RIs cx k ys:=by
 cases h with
 |cons hy hys=>obtain ⟨p,rfl,hp⟩:=hy;exact ⟨p,_,rfl,hp,hys⟩
theorem RIs.PY {c:C} {p:Code} {ys:List Item} (hc:RC cx c p) (h:RIs cx k ys):RIs cx (.code c::k) (.code p::ys):= .cons ⟨p,rfl,hc⟩ h
theorem Run.skip (h:Run cx K k F L σ):Run cx K (.code .skip::k) F L σ:=
 h.PZ fun items hi=>by
  obtain ⟨p,ys,rfl,hp,hys⟩:=hi.code;rcases hp with rfl|⟨l,rfl⟩
  . exact ⟨ys,hys,fun b a cs w=>step_skip⟩
  . exact ⟨ys,hys,fun b a cs w=>step_label⟩
theorem Run.scope {c:C} (h:Run cx K (.code c::.scp::k) F L σ):Run cx K (.code (.scope c)::k) F L σ:=
 h.PZ fun items hi=>by
  obtain ⟨p,ys,rfl,⟨p1,rfl,h1⟩,hys⟩:=hi.code;exact ⟨_,.PY h1 (.cons ⟨p1,rfl⟩ hys),fun b a cs w=>step_scope⟩
theorem Run.scp (h:Run cx K k F L σ):Run cx K (.scp::k) F L σ:=
 h.PZ fun items hi=>by
  cases hi with
  |cons hy hys=>obtain ⟨p,rfl⟩:=hy;exact ⟨_,hys,fun b a cs w=>step_inScope⟩
theorem Run.seq {x y:C} (h:Run cx K (.code x::.code y::k) F L σ):Run cx K (.code (.seq x y)::k) F L σ:=
 h.PZ fun items hi=>by
  obtain ⟨p,ys,rfl,⟨p1,p2,rfl,h1,h2⟩,hys⟩:=hi.code;exact ⟨_,.PY h1 (.PY h2 hys),fun b a cs w=>step_seq⟩
theorem Run.block {id:Nat} {c:C} (h:Run cx K (.code c::.blk id::k) F L σ):Run cx K (.code (.block id c)::k) F L σ:=
 h.PZ fun items hi=>by
  obtain ⟨p,ys,rfl,⟨p1,rfl,h1⟩,hys⟩:=hi.code;exact ⟨_,.PY h1 (.cons rfl hys),fun b a cs w=>step_block⟩
theorem Run.blk {id:Nat} (h:Run cx K k F L σ):Run cx K (.blk id::k) F L σ:=
 h.PZ fun items hi=>by
  cases hi with
  |cons hy hys=>cases hy;exact ⟨_,hys,fun b a cs w=>step_inBlock⟩
theorem Run.loop {c:C} (h:Run cx K (.code c::.again c::k) F L σ):Run cx K (.code (.loop c)::k) F L σ:=
 h.PZ fun items hi=>by
  obtain ⟨p,ys,rfl,⟨p1,rfl,h1⟩,hys⟩:=hi.code;exact ⟨_,.PY h1 (.cons ⟨p1,rfl,h1⟩ hys),fun b a cs w=>step_loop⟩
theorem Run.again {c:C} (h:Run cx K (.code c::.again c::k) F L σ):Run cx K (.again c::k) F L σ:=
 h.PZ fun items hi=>by
  cases hi with
  |cons hy hys=>obtain ⟨p1,rfl,h1⟩:=hy;exact ⟨_,.PY h1 (.cons ⟨p1,rfl,h1⟩ hys),fun b a cs w=>step_inLoop⟩
def Ic (id:Nat):List CI->Option (List CI)
 | .blk id'::k=>if id'=id then some k else Ic id k
 |_::k=>Ic id k
 |[]=>none
theorem Nb {id:Nat}:∀(k:List CI) (items:List Item) (k':List CI),RIs cx k items->Ic id k=some k'->∃items',exitTo id items=some items'/\RIs cx k' items'
 |[],_,_,_,h=>by cases h
 |x::k,items,k',hi,h=>by
  cases hi with
  |@cons _ y _ ys hy hys=>
   cases x with
   |code c=>
    obtain ⟨p,rfl,_⟩:=hy;obtain ⟨i',h1,h2⟩:=Nb k ys k' hys (by simpa [Ic] using h);exact ⟨i',by simpa [exitTo] using h1,h2⟩
   |again c=>
    obtain ⟨p,rfl,_⟩:=hy;obtain ⟨i',h1,h2⟩:=Nb k ys k' hys (by simpa [Ic] using h);exact ⟨i',by simpa [exitTo] using h1,h2⟩
   |scp=>
    obtain ⟨p,rfl⟩:=hy;obtain ⟨i',h1,h2⟩:=Nb k ys k' hys (by simpa [Ic] using h);exact ⟨i',by simpa [exitTo] using h1,h2⟩
   |blk id'=>
    cases hy;simp only [Ic] at h;split at h
    . rename_i e;cases h;exact ⟨ys,by simp [exitTo,e],hys⟩
    . rename_i e;obtain ⟨i',h1,h2⟩:=Nb k ys k' hys h;exact ⟨i',by simpa [exitTo,e] using h1,h2⟩
theorem Run.exit {id:Nat} {k':List CI} (he:Ic id k=some k') (h:Run cx K k' F L σ):Run cx K (.code (.exit id)::k) F L σ:=
 h.PZ fun items hi=>by
  obtain ⟨p,ys,rfl,hp,hys⟩:=hi.code;cases hp;obtain ⟨i',h1,h2⟩:=Nb k ys k' hys he;exact ⟨i',h2,fun b a cs w=>step_exit h1⟩
theorem Run.cond {x:X} {t e:C} {b:Bool} (hx:xv F x= .d (.bool b)) (ht:b=true->Run cx K (.code t::k) F L σ) (he:b=false->Run cx K (.code e::k) F L σ):
 Run cx K (.code (.cond x t e)::k) F L σ:=by
 intro items base g lam Pr a w0 w fb cs hi hf hb hk;obtain ⟨p,ys,rfl,⟨c,p1,p2,rfl,hc,h1,h2⟩,hys⟩:=hi.code;have hv:=Aq hc hf;rw [hx] at hv;have hev:a.eval c= .bool b:=by generalize a.eval c=vc at hv;cases hv with|d hh=>cases hh;rfl
 cases b with
 |true=>
  obtain ⟨v,w',fr,hs,rest⟩:=ht rfl _ base g lam Pr a w0 w fb cs (.PY h1 hys) hf hb hk;exact ⟨v,w',fr,.head (step_cond hev) hs,rest⟩
 |false=>
  obtain ⟨v,w',fr,hs,rest⟩:=he rfl _ base g lam Pr a w0 w fb cs (.PY h2 hys) hf hb hk;exact ⟨v,w',fr,.head (step_cond hev) hs,rest⟩
def ACT (cx:Cx) (K:AV->AI->Prop) (k:List CI) (live:List Nat):C6:=fun F L σ=>Run cx K k (JK live F) (Hs live L) σ
theorem Run.reg {ops:List Q} {live:List Nat} (hm:cx.P.follows .mixedOrders=true) (h:Bc cx.P (ACT cx K k live) ops F L σ):Run cx K (.code (.reg ops live)::k) F L σ:=by
 intro items base g lam Pr a w0 w b cs hi hf hb hk;obtain ⟨p,ys,rfl,⟨id,arr,hp⟩,hys⟩:=hi.code
 have hw:p.wp cx.P (fun e a' w'=>e= .normal/\GK base Pr cx.N w0 g w (ACT cx K k live) a' w') a w:=by
  rcases hp with ⟨rfl,hc⟩|⟨rfl,order,hc⟩|⟨rfl,pt,t,hc,hl⟩
  . exact wp_region (rI cx.P arr cx.N cx.esc (ACT cx K k live) _ _ base g lam Pr F L σ a w0 w hc h hf (fun _ _ h=>⟨rfl,h⟩))
  . exact ADT hm hc h hf
  . exact jM hm hc (AM3 t ops F L σ hl h) hf
 obtain ⟨e,a',w',⟨he,g',lam',F',L',σ',hle,hkp,hf',hK⟩,harr⟩:=hw b ys cs;subst he;obtain ⟨v,w2,fr,hs,hfn,hl,av,g2,σ2,hvr,hrel,hle2,hkp2,hk2⟩:=hK ys base g' lam' Pr a' w0 w' b cs hys (hf'.kept live) hb hk;exact ⟨v,w2,fr,Steps.trans harr hs,hfn,hl,av,g2,σ2,hvr,hrel,Gh.le_trans hle hle2,hkp.trans hkp2,hk2⟩
theorem Run.Jf {t:QT} {live:List Nat} (hm:cx.P.follows .mixedOrders=true) (h:XT cx.P (ACT cx K k live) false t F L σ):Run cx K (.code (.Jf t live)::k) F L σ:=by
 intro items base g lam Pr a w0 w b cs hi hf hb hk;obtain ⟨p,ys,rfl,⟨id,arr,pt,rfl,hc⟩,hys⟩:=hi.code;have hw:(Code.region id arr true).wp cx.P (fun e a' w'=>e= .normal/\GK base Pr cx.N w0 g w (ACT cx K k live) a' w') a w:=jM hm hc h hf;obtain ⟨e,a',w',⟨he,g',lam',F',L',σ',hle,hkp,hf',hK⟩,harr⟩:=hw b ys cs;subst he;obtain ⟨v,w2,fr,hs,hfn,hl,av,g2,σ2,hvr,hrel,hle2,hkp2,hk2⟩:=hK ys base g' lam' Pr a' w0 w' b cs hys (hf'.kept live) hb hk;exact ⟨v,w2,fr,Steps.trans harr hs,hfn,hl,av,g2,σ2,hvr,hrel,Gh.le_trans hle hle2,hkp.trans hkp2,hk2⟩
theorem iV (hf:Bv base g lam Pr N F L σ a w0 w):∀(l:List ResultVar) (rs:List RV) (vs:List AV),jK P l=some rs->AFO F L σ rs=some vs->vs.all AV.BE=true->
 ∃xs:List Value,(l.mapM fun| .tmp t=>pure (a.tmps.getD t Cu)| .cell ad t=>do loadVar t (<- asAddr (a.tmps.getD ad Cu)):Sem (List Value)).run P w= .ok xs w/\VRs g vs xs
 |[],rs,vs,hc,hv,_=>by
  simp only [jK,AL] at hc;subst hc;simp only [AFO,AL] at hv;subst hv;exact ⟨[],by simp,.nil⟩
 | .tmp n::l,rs,vs,hc,hv,hn=>by
  simp only [jK,AQ,AB] at hc;obtain ⟨rs',hrs,he⟩:=hc;cases he;simp only [AFO,AQ,AB,rvA] at hv;obtain ⟨v,hv1,vs',hvs,he⟩:=hv;cases he;cases hv1;simp only [Bk,AO] at hn;obtain ⟨xs,hx,hr⟩:=iV hf l rs' vs' hrs hvs hn.2;exact ⟨a.tmps.getD n Cu::xs,by simp only [List.mapM_cons,Sem.run_bind,Sem.run_pure,Result.andThen_ok,hx],.cons ((hf.tm n).vr hn.1) hr⟩
 | .cell n t::l,rs,vs,hc,hv,hn=>by
  simp only [jK,AQ,AB] at hc;obtain ⟨kk,hkk,rs',hrs,he⟩:=hc;cases he;simp only [AFO,AQ,AB,rvA] at hv;obtain ⟨v,hv1,vs',hvs,he⟩:=hv;cases he;simp only [Bk,AO] at hn;obtain ⟨xs,hx,hr⟩:=iV hf l rs' vs' hrs hvs hn.2;obtain ⟨x,hld,hvr⟩:=AA0 (P:=P) hkk hf (hf.tm n) hv1
  have hasaddr:(do loadVar t (<- asAddr (a.tmps.getD n Cu)):Sem Value).run P w= .ok x w:=by
   have hs:=hf.tm n;generalize a.tmps.getD n Cu=pn at hs hld;cases hp:pn<;>simp only [hp,Instr.loadAt,Instr.sureAddr] at hld<;>try (simp at hld;done)
   rename_i ad;cases ad with
   |none=>simp at hld
   |some ad=>simpa [asAddr,Instr.sureAddr] using hld
  exact ⟨x::xs,by simp only [Sem.run_bind] at hasaddr;simp only [List.mapM_cons,Sem.run_bind,hasaddr,hx,Result.andThen_ok,Sem.run_pure],.cons hvr hr⟩
theorem vD {fn:Func} {rs:List RV} (hc:jK P fn.results.toList=some rs) (hf:Bv base g lam Pr N F L σ a w0 w) {v:AV} (hv:p5 F L σ rs=some v):
 ∃x,(results fn a.tmps).run P w= .ok x w/\VR g v x:=by
 simp only [p5,AB] at hv;obtain ⟨vs,hvs,hv⟩:=hv;split at hv
 case isFalse=>cases hv
 rename_i hn;obtain ⟨xs,hx,hr⟩:=iV (P:=P) hf _ rs vs hc hvs hn
 have hrun:(results fn a.tmps).run P w= .ok (if h:xs.toArray.size=1 then xs.toArray[0] else .tuple xs.toArray) w:=by
  unfold results;rw [Array.mapM_eq_mapM_toList];simp only [Sem.run_bind,Sem.run_map,Sem.run_pure];exact congrArg (fun r:Result (List Value)=>(r.andThen fun a w'=>Result.ok a.toArray w').andThen fun (a:Array Value) w'=>Result.ok (if h:a.size=1 then a[0] else Value.tuple a) w') hx
 have hlen:=hr.length;cases vs with
 |nil=>
  cases hv;cases hr;exact ⟨_,hrun,by simpa using VR.tup (g:=g) (cs:=[]) (vs:=[]) rfl (by simp)⟩
 |cons v1 vs=>
  cases vs with
  |nil=>
   cases hv;cases hr with|cons h1 h2=>cases h2;exact ⟨_,hrun,by simpa using h1⟩
  |cons v2 vs=>
   cases hv;refine ⟨_,hrun,?_⟩;have hne:¬xs.toArray.size=1:=by simp at hlen ⊢;omega
   rw [dif_neg hne];exact .tup hr.length hr.idx
theorem Run.fin {σ2:AI} (hg:Good cx) {v v':AV} (hv:p5 F L σ cx.rs=some v) (hw:∀g x,VR g v x->VR g v' x) (hσ:σ2.le σ) (hK:K v' σ2):Run cx K [] F L σ:=by
 intro items base g lam Pr a w0 w b cs hi hf hb hk;cases hi;obtain ⟨x,hx,hvr⟩:=vD hg.2 hf hv;refine ⟨x,w,_,.one step_end,hb,⟨rfl,hf.df,hk,cx.fn,by show cx.P.funcs[b.fn]?=_;rw [hb];exact hg.1,hx⟩,v',g,σ2,hw g x hvr,?_,Gh.le_refl g,KP.refl Pr w,hK⟩;exact (hf.rel.less hσ).grow (AW _) (fun _ _ _=>rfl) (Below.refl _ _) (fun b hp=>⟨(hf.rel.pr b (.inl hp)).1,.inl (.inl hp)⟩)
theorem Run.ret {σ2:AI} (hg:Good cx) {v v':AV} (hv:p5 F L σ cx.rs=some v) (hw:∀g x,VR g v x->VR g v' x) (hσ:σ2.le σ) (hK:K v' σ2):Run cx K (.code .ret::k) F L σ:=by
 intro items base g lam Pr a w0 w b cs hi hf hb hk;obtain ⟨p,ys,rfl,hp,hys⟩:=hi.code;cases hp;obtain ⟨x,hx,hvr⟩:=vD hg.2 hf hv;refine ⟨x,w,_,.one step_ret,hb,⟨rfl,hf.df,hk,cx.fn,by show cx.P.funcs[b.fn]?=_;rw [hb];exact hg.1,hx⟩,v',g,σ2,hw g x hvr,?_,Gh.le_refl g,KP.refl Pr w,hK⟩;exact (hf.rel.less hσ).grow (AW _) (fun _ _ _=>rfl) (Below.refl _ _) (fun b hp=>⟨(hf.rel.pr b (.inl hp)).1,.inl (.inl hp)⟩)
def Wh (args:List AV):Fm:=fun s=>args.getD s .undef
theorem AHK {args:List AV} {c:C} {code:Code} (hg:Good cx) (hb:cx.fn.body=some code) (hN:cx.fn.ntmps=cx.N) (hl:args.length<=cx.N) (hc:RC cx c code)
 (h:Run cx K [.code c] (Wh args) (fun _=>none) σ):AT cx.P cx.f args σ K:=by
 intro base g Pr w0 w vs hrel hvs cs
 let b:Frame:= { (default:Frame) with fn:=cx.f,kind:= .normal}
 have henter:Frame.enter cx.P cx.f vs.toArray .normal=b.at { tmps:=vs.toArray++F9 (cx.fn.ntmps - vs.toArray.size) Cu,defers:=[]} [.code code]:=by
  simp [Frame.enter,Frame.at,hg.1,hb,b]
 have hvl:=hvs.length
 have hf:Bv base g (fun _=>none) Pr cx.N (Wh args) (fun _=>none) σ { tmps:=vs.toArray++F9 (cx.fn.ntmps - vs.toArray.size) Cu,defers:=[]} w0 w:=by
  refine ⟨fun s=>?_,by simp;omega,rfl,fun k cs hk=>(by cases hk),fun k k' b hk=>(by cases hk),fun k b hk=>(by cases hk),?_⟩
  . simp only [Wh,Ac];cases hs:args[s]? with
    |none=>exact VR.undef
    |some av=>
     obtain ⟨v,hv,hr⟩:=hvs.at s av hs;have hlt:=(AG.1 hv).1
     have:(vs.toArray++F9 (cx.fn.ntmps - vs.toArray.size) Cu).getD s Cu=v:=by
      simp only [DR];rw [Array.getElem?_append_left (by simpa using hlt)];simp [hv]
     show SV g _ av ((vs.toArray++F9 (cx.fn.ntmps - vs.toArray.size) Cu).getD s Cu);rw [this];exact SV.Fk hr
  . exact hrel.grow (AW _) (fun _ _ _=>rfl) (Below.refl _ _) (fun b hp=>by
     rcases hp with hp|⟨k,hk⟩
     . exact ⟨(hrel.pr b hp).1,.inl hp⟩
     . cases hk)
 obtain ⟨v,w',fr,hs,hfn,hlv,av,g',σ',h1,h2,h3,h4,h5⟩:=h [.code code] base g _ Pr _ w0 w b cs (.PY hc .nil) hf rfl rfl;rw [<- henter] at hs;exact ⟨.returned v,w',fr,⟨v,av,g',σ',rfl,h1,h2,h3,h4,h5⟩,hs,hfn,hlv⟩
end Go.Ab
