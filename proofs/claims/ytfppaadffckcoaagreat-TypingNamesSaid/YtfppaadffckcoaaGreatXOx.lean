/- Part Ox. Conditions: none. -/
import Derived.Test.YtfppaadffckcoaaGreatXOs
set_option linter.unusedSimpArgs false
set_option linter.unusedVariables false
set_option maxRecDepth 100000
set_option maxHeartbeats 40000000
open Go.Proofs.Tryz renaming prog→Tzp
open List renaming replicate→AF,mem_map→Be,length_pos_iff→Ji,length_replicate→V8,foldl_cons→Ao,getElem?_set_ne→BG,mem_cons_self→AS,mem_cons_of_mem→AR,mem_cons→Ar,getElem?_set_self→BI,length_set→LW,mem_or_eq_of_mem_set→fM,find?_eq_none→Qi,mem_of_getElem?→AE,mem_append→A0,getD_eq_getElem?_getD→Ac,mem_singleton→A6,getElem?_eq_some_iff→AG,getElem?_map→Aj,length_map→AA,flatten_append→PB,take_append_drop→Ad,nodup_append→Gs,take_length→BR,drop_length→Jk,cons_append→AZ,replicate_succ→B1,flatten_cons→BU,nil_append→As,map_cons→AD,length_cons→A1,take_succ_cons→Cj,take_zero→Cn,drop_succ_cons→FX,drop_zero→TC,all_cons→Bk,getElem?_cons_zero→BM,all_eq_true→A8,getElem?_of_mem→N1,getElem?_set→B3,mem_range→CJ,range→BA,mem_filter→Yq,length_filter_le→MW,map_nil→AJ,mem_append_left→Cv,mem_append_right→Hu,take_of_length_le→AM,take→Ek,contains_iff_mem→Ak,getElem?_take→B2,all_nil→GM,map_append→Ay,append_assoc→Az,flatMap_cons→EE,length_append→AX,length_take→B4,mem_of_mem_take→D5,any_cons→MV
open Ne renaming symm→A9
open Int renaming eq_ofNat_of_zero_le→Gr,toNat_natCast→DS,reduceBEq→AY
open Option renaming getD_some→BC,isSome_iff_exists→JI,map_some→Ah,map_eq_some_iff→AN,isSome_some→CX,isSome_none→CW
open Nat renaming le_trans→Ap,le_refl→AW,strongRecOn→Qe,reduceEqDiff→C4,lt_or_ge→C7,succ_mul→OQ,mul_le_mul_right→Bw,min_eq_left→Dd
open Bool renaming and_eq_true→AO,eq_iff_iff→An,not_eq_true'→Br,eq_false_iff→C5,or_false→H2,or_eq_false_iff→GU,false_or→EU,false_and→Bp,and_false→CT,not_false→FL,true_and→BY,and_true→B7,false_eq_true→A3,true_or→ON
open Except renaming map→C3
open Except.ok renaming injEq→Db
open Option.some renaming injEq→AL
namespace Go.Ab
open Go.Proofs
structure PF (fs:List FE) (dt:List Dat):Prop where
 lf:fs.length<=24
 pr:∀f∈fs,f.params.length<=6
 sz:W8 fs<=200
 ok:∀(f:Nat) (fe:FE),fs[f]?=some fe->(∀x∈Bj fe.body fe.params,EY fs dt x.1 x.2=0/\nb1 x.1)/\fe.body.size<=600
 dt1:∀d∈dt,0<=d.vars/\d.vars<=1000/\d.cons.length<=1000000/\∀c∈d.cons,MJ d.vars.toNat c.args=true/\Ty.AU c.args<=100000
 dt2:∀d∈dt,∀c∈d.cons,Ty.shs dt c.args
structure HI (dt:List Dat) (σ0 τ:AI) (n js jn:Nat) (r:JH):Prop where
 mo:Mo σ0 τ
 j1:σ0.blk js=none
 j2:σ0.blk jn=none
 ne:js≠jn
 b1:τ.blk js=some (VW r.1)
 b2:τ.blk jn=some (ntC r.2)
 l1:r.1.length=n
 l2:r.2.length=n
 so:∀s∈r.1,yV dt s
theorem Mo.le {σ τ:AI} (h:Mo σ τ):σ.le τ:=⟨h.blk,h.nb.tok,h.nb.gt,h.nb.bt⟩
def exN (i je j:Nat) (τ:AI) (k:Nat):Option (List AV):=if k=i\/k=je\/k=j then none else τ.blk k
theorem dJ {i je j k:Nat} {τ:AI} {c:List AV} (h:τ.blk k=some c) (h1:k≠i) (h2:k≠je) (h3:k≠j):exN i je j τ k=some c:=by
 unfold exN;rw [if_neg (by rintro (e|e|e)<;>contradiction)];exact h
def gB (fs:List FE) (ds:List DE) (dt:List Dat) (r:JH) (ms:List Nat) (i je jm jp jr js:Nat):GB:=⟨i,je,jm,jp,jr,js,fun _=>none,gcP fs dt r.1 ms,ds,0,AF fs.length .Ae⟩
theorem ANJ {fs:List FE} {ds:List DE} {dt:List Dat} {r:JH} {ms:List Nat} {i jm jp jr je js jn j:Nat} {σ0 τ τ1:AI} (hF:PF fs dt) (hH:HI dt σ0 τ fs.length js jn r) (hm:∀f∈ms,f < fs.length) (hnd:ms.Nodup) (hne:ms≠[])
 (h:NGI τ τ1 fs.length (.sl (ds.map DE.enc)) (.sl (fs.map FE.enc)) (dsA dt) (.ms js fs.length 5 eSs) i jm jp jr je j (ngP fs ms)):
 MS (gB fs ds dt r ms i je jm jp jr js) (exN i je j (τ1.AP jp (psC (pgl (ngP fs ms).ps)))) ms/\MI (gB fs ds dt r ms i je jm jp jr js) (exN i je j (τ1.AP jp (psC (pgl (ngP fs ms).ps)))) σ0 (τ1.AP jp (psC (pgl (ngP fs ms).ps))) [] 0 (AF fs.length .Ae) (exN i je j (τ1.AP jp (psC (pgl (ngP fs ms).ps)))) j (ig0 fs ms)/\
  (∀k c,τ.blk k=some c->exN i je j (τ1.AP jp (psC (pgl (ngP fs ms).ps))) k=some c)/\(ig0 fs ms).s.1≠[]:=by
 have hN:=AUB hF.pr hm
 have hl0:(ngP fs ms).l≠[]:=fun e=>by
  have:=hN.lo;rw [e] at this;cases ms with
  |nil=>exact hne rfl
  |cons _ _=>simp at this
 obtain ⟨f1,f2,f3,f4,f5⟩:=h.fr;obtain ⟨d1,d2,d3,d4,d5,d6,d7,d8,d9,d10⟩:=h.nd;obtain ⟨x1,x2,x3,x4,x5⟩:=h.jx hl0;have hji:=(h.sn.nd hl0).1;obtain ⟨c0,hc0,hbj⟩:=(h.sn.nd hl0).2;have hps:(pgl (ngP fs ms).ps).length=fs.length:=by simp [pgl,hN.len.2.1]
 have hold:∀k c,τ.blk k=some c->exN i je j (τ1.AP jp (psC (pgl (ngP fs ms).ps))) k=some c:=fun k c hk=>by
  have h1:=h.mo.blk k c hk;refine dJ ?_ (fun e=>by rw [e,f1] at hk;cases hk) (fun e=>by rw [e,f5] at hk;cases hk) (fun e=>by rw [e,x1] at hk;cases hk);rw [AK,if_neg (fun e=>by rw [e,f3] at hk;cases hk)];exact h1
 have hpsl:∀q∈pgl (ngP fs ms).ps,q.length<=6/\∀a∈q,a < (ngP fs ms).l.length:=fun q hq=>by
  obtain ⟨o,ho,rfl⟩:=Be.1 hq;cases o with
  |none=>exact ⟨by simp,fun a ha=>by simp at ha⟩
  |some q=>exact hN.ps q ho
 have hpos:0 < (ngP fs ms).l.length:=Ji.2 hl0;have e1:exN i je j (τ1.AP jp (psC (pgl (ngP fs ms).ps))) jm=some (BX (ngP fs ms).mem):=dJ (by rw [AK,if_neg d5];exact h.bm) (A9 d1) d7 x2;have e2:exN i je j (τ1.AP jp (psC (pgl (ngP fs ms).ps))) jp=some (psC (pgl (ngP fs ms).ps)):=dJ B0 (A9 d2) d9 x3;have e3:exN i je j (τ1.AP jp (psC (pgl (ngP fs ms).ps))) jr=some (DF (ngP fs ms).rs):=dJ (by rw [AK,if_neg (A9 d8)];exact h.br) (A9 d3) d10 x4;refine ⟨⟨d4,e1,e2,e3,hold _ _ hH.b1,hN.len.1,hps,hN.len.2.2,hH.l1,by have:=hF.lf;show fs.length<=100;omega,?_,?_,?_,?_,hm,hnd,hF.sz⟩,⟨⟨?_,h.sn.HM,fun _=>⟨hji,c0,hc0,?_⟩⟩,?_,fun k cs hk=>?_,⟨?_,A9 x5⟩,?_,?_,fun k cs hk=>hk,?_,by simp [gB,gcP],fun f hf=>by simp at hf,fun f hf _=>?_,by simp [ig0,gB,gcP],fun f hf=>by simp at hf,fun f hf=>by simp at hf,?_,?_,hN.nv dt⟩,hold,hl0⟩
 . exact ⟨hF.dt1,fun s hs=>(hH.so s hs).1,fun l hl=>by have:=(hpsl l hl).1;omega⟩
 . exact ⟨fun D hD=>(hF.dt1 D hD).1,hF.dt2,fun s hs=>(hH.so s hs).2,fun l hl=>(hpsl l hl).1⟩
 . exact fun f fe hfe=>hF.ok f fe hfe
 . intro f hf;obtain ⟨q,hq,hl⟩:=hN.cell f hf;exact ⟨q,by simp [gB,gcP,pgl,hq],hl⟩
 . have:=h.sn.blk;rw [AK];show (if i=jp then _ else τ1.blk i)=_;rw [if_neg d2,this];simp only [GB.rest,GB.w,gB,gcP,ig0,hN.len.1,hN.len.2.2,hps,hH.l1,V8];rfl
 . rw [AK,if_neg (A9 x3)];exact hbj
 . rw [AK];show (if je=jp then _ else _)=_;rw [if_neg (A9 d9)];exact h.be
 . unfold exN at hk;split at hk
   . cases hk
   . exact hk
 . unfold exN;rw [if_pos (.inr (.inr rfl))]
 . unfold exN;exact if_pos (.inl rfl)
 . unfold exN;exact if_pos (.inr (.inl rfl))
 . exact D8 hH.mo.nb (D8 h.mo.nb ⟨fun _ _ h=>(by cases h),fun _ h=>h,rfl,fun _ _ h=>h⟩)
 . simp only [gB,gcP] at hf;simp [hf]
 . refine ⟨hpos,fun x hx=>by simp at hx,fun l hl a ha=>(hpsl l hl).2 a ha,fun a ha=>?_⟩;rcases hN.rs a ha with e|e
   . rw [e];exact hpos
   . exact e
 . have:=hN.hi;have:=Xt hnd hm;have:=hF.lf;simp only [ig0];omega
def rL (fs:List FE) (dt:List Dat) (r:JH) (f:Nat):Prop:=∃(l:List Nd) (d:Nat->Nat) (G:GC) (en:List En) (pl:List Nat) (rf:Nat),FM l/\FR l d/\NV dt l/\r.1[f]?=some (W6 l (EX (Da l pl rf)) pl rf (Da l pl rf).length)/\r.2[f]?=some (en.map (Tz G l (EX (Da l pl rf))))/\
 (∀a∈pl,a < l.length/\szN l a<=200)/\(rf < l.length/\szN l rf<=200)/\(∀x∈en,(x.t < l.length/\szN l x.t<=200)/\∀a∈AA5 G l x,a < l.length/\(szN l a<=200\/∃y,l[rtN l a]?=some y/\y.k=0))/\
 (∀fe,fs[f]?=some fe->pl.length=fe.params.length/\en.length=fe.body.size)
theorem xR (G:GC) (l:List Nd) (en:List (List En)):∀(ms:List Nat) (r:JH) (f:Nat),ms.Nodup->(f ∉ ms->(ms.foldl (I7 G l en) r).1[f]?=r.1[f]?/\(ms.foldl (I7 G l en) r).2[f]?=r.2[f]?)/\
 (f∈ms->f < r.1.length->f < r.2.length->(ms.foldl (I7 G l en) r).1[f]?=(I7 G l en r f).1[f]?/\(ms.foldl (I7 G l en) r).2[f]?=(I7 G l en r f).2[f]?)
 |[],r,f,_=>⟨fun _=>⟨rfl,rfl⟩,fun h=>by simp at h⟩
 |g::ms,r,f,hnd=>by
  rw [List.nodup_cons] at hnd;obtain ⟨i1,i2⟩:=xR G l en ms (I7 G l en r g) f hnd.2;rw [Ao]
  have hne:f≠g->(I7 G l en r g).1[f]?=r.1[f]?/\(I7 G l en r g).2[f]?=r.2[f]?:=fun e=>by
   simp only [I7,BG (A9 e),and_self]
  refine ⟨fun hf=>?_,fun hf h1 h2=>?_⟩
  . have e:f≠g:=fun e=>hf (by rw [e];exact AS);obtain ⟨a,b⟩:=i1 fun hm=>hf (AR _ hm);rw [a,b];exact hne e
  . by_cases e:f=g
    . subst e;exact i1 hnd.1
    . have hm:f∈ms:=(Ar.1 hf).resolve_left e;obtain ⟨a,b⟩:=i2 hm (by simp [I7];exact h1) (by simp [I7];exact h2);rw [a,b];simp only [I7];refine ⟨?_,?_⟩
      . rw [BI (by simpa using h1),BI h1]
      . rw [BI (by simpa using h2),BI h2]
theorem ABN (G:GC) (l:List Nd) (en:List (List En)):∀(ms:List Nat) (r:JH),(ms.foldl (I7 G l en) r).1.length=r.1.length/\(ms.foldl (I7 G l en) r).2.length=r.2.length
 |[],r=>⟨rfl,rfl⟩
 |f::ms,r=>by rw [Ao];have:=ABN G l en ms (I7 G l en r f);simp only [I7,LW] at this ⊢;exact this
theorem ABO (G:GC) (l:List Nd) (en:List (List En)) (P:Sch->Prop):∀(ms:List Nat) (r:JH),(∀s∈r.1,P s)->(∀f∈ms,P (W6 l (EX (Da l (G.ps.getD f []) (G.rs.getD f 0))) (G.ps.getD f []) (G.rs.getD f 0) (Da l (G.ps.getD f []) (G.rs.getD f 0)).length))->∀s∈(ms.foldl (I7 G l en) r).1,P s
 |[],r,h,_=>h
 |f::ms,r,h,hm=>by
  rw [Ao];refine ABO G l en P ms _ (fun s hs=>?_) fun g hg=>hm g (AR _ hg);simp only [I7] at hs;rcases fM hs with hs|hs
  . exact h s hs
  . rw [hs];exact hm f (AS)
theorem AMO {fs:List FE} {ds:List DE} {dt:List Dat} {r:JH} {ms:List Nat} {i jm jp jr je js c0 j:Nat} {σ0 τ:AI} {ext0 ext:Nat->Option (List AV)} {es:List AV} {st:IG} {d:Nat->Nat} (hF:PF fs dt)
 (hS:MS (gB fs ds dt r ms i je jm jp jr js) ext0 ms) (hI:MI (gB fs ds dt r ms i je jm jp jr js) ext0 σ0 τ ms c0 es ext j st) (hd:FR st.s.1 d)
 (hno:ms.find? (fun f=>aV st.s.1 ((gcP fs dt r.1 ms).ps.getD f []) ((gcP fs dt r.1 ms).rs.getD f 0) (st.en.getD f []))=none) (h1:r.1.length=fs.length) (h2:r.2.length=fs.length) (hso:∀s∈r.1,yV dt s):
 (∀s∈(ms.foldl (I7 (gcP fs dt r.1 ms) st.s.1 st.en) r).1,yV dt s)/\∀f∈ms,rL fs dt (ms.foldl (I7 (gcP fs dt r.1 ms) st.s.1 st.en) r) f:=by
 have hg:=hI.sn.HM
 have hmem:∀f∈ms,∃q w fe,(gcP fs dt r.1 ms).ps[f]?=some q/\(gcP fs dt r.1 ms).rs[f]?=some w/\(gcP fs dt r.1 ms).ps.getD f []=q/\(gcP fs dt r.1 ms).rs.getD f 0=w/\fs[f]?=some fe/\q.length=fe.params.length/\q.length<=6/\(∀a∈q,a < st.s.1.length/\szN st.s.1 a<=200)/\(w < st.s.1.length/\szN st.s.1 w<=200)/\
  (∀x∈st.en.getD f [],szN st.s.1 x.t<=200/\∀a∈x.ar,szN st.s.1 a<=200):=fun f hf=>by
  have hfl:f < fs.length:=hS.lt f hf;obtain ⟨q,hq,hql⟩:=hS.cell f hf;obtain ⟨w,hw⟩:=Ai (show f < (gcP fs dt r.1 ms).rs.length by have:=hS.lr;simp only [gB] at this;rw [this];exact hfl);obtain ⟨fe,hfe⟩:=Ai hfl;have hex:=Qi.1 hno f hf
  have hgq:(gcP fs dt r.1 ms).ps.getD f []=q:=by
   have hq:(gcP fs dt r.1 ms).ps[f]?=some q:=hq;simp [hq]
  have hgw:(gcP fs dt r.1 ms).rs.getD f 0=w:=by simp [hw]
  rw [hgq,hgw] at hex;obtain ⟨z1,z2,z3⟩:=AGL (by simpa using hex);have hgi:=(hI.gi f hf).1;refine ⟨q,w,fe,hq,hw,hgq,hgw,hfe,?_,hS.gv.ps q (AE hq),fun a ha=>⟨hgi.ps q (AE hq) a ha,z1 a ha⟩,⟨hgi.rs w (AE hw),z2⟩,z3⟩;rw [hql];show Xu fs f=_;simp [Xu,hfe]
 refine ⟨ABO _ _ _ _ ms r hso fun f hf=>?_,fun f hf=>?_⟩
 . obtain ⟨q,w,fe,hq,hw,e1,e2,hfe,hl,hl6,hp,hr,hx⟩:=hmem f hf;rw [e1,e2];exact ARX hg hd hI.nv (fun a ha=>(hp a ha).1) hr.1 hl6 ⟨fun a ha=>(hp a ha).2,hr.2⟩
 . obtain ⟨q,w,fe,hq,hw,e1,e2,hfe,hl,hl6,hp,hr,hx⟩:=hmem f hf;have hfl:f < fs.length:=hS.lt f hf;obtain ⟨a,b⟩:=(xR (gcP fs dt r.1 ms) st.s.1 st.en ms r f hS.nd).2 hf (by omega) (by omega);have hgi:=(hI.gi f hf).1;refine ⟨st.s.1,d,gcP fs dt r.1 ms,st.en.getD f [],q,w,hg,hd,hI.nv,?_,?_,hp,hr,fun x hxm=>⟨⟨(hgi.en x hxm).1,(hx x hxm).1⟩,fun a ha=>?_⟩,fun fe' hfe'=>?_⟩
   . rw [a];simp only [I7,e1,e2];exact BI (by omega)
   . rw [b];simp only [I7,e1,e2];exact BI (by omega)
   . unfold AA5 at ha;split at ha
     . rename_i hc;obtain ⟨m,hm⟩:=Gr hc.1;rw [hm] at ha;simp only [DS] at ha
       have hts:∀b∈(gcP fs dt r.1 ms).ps.getD m []++[(gcP fs dt r.1 ms).rs.getD m 0],b < st.s.1.length:=fun b hb=>by
        rcases A0.1 hb with hb|hb
        . cases hp:(gcP fs dt r.1 ms).ps[m]? with
          |none=>simp [hp] at hb
          |some q=>simp only [Ac,hp,BC] at hb;exact hgi.ps q (AE hp) b hb
        . simp only [A6] at hb;subst hb;cases hr:(gcP fs dt r.1 ms).rs[m]? with
          |none=>simp only [Ac,hr,Option.getD_none];exact hgi.pos
          |some q=>simp only [Ac,hr,BC];exact hgi.rs q (AE hr)
       obtain ⟨y,hy,hyp,hyk⟩:=(ACE hg hts).2.2 a ha;exact ⟨(AG.1 hy).1,.inr ⟨y,by rw [MA hy,hyp];exact hy,hyk⟩⟩
     . exact ⟨(hgi.en x hxm).2.2.2 a ha,.inl ((hx x hxm).2 a ha)⟩
   . rw [hfe] at hfe';cases hfe';exact ⟨hl,hI.sz f hf fe hfe⟩
end Go.Ab
namespace Go.Ab
open Go.Proofs
def AVU:C->C
 | .seq _ (.seq _ (.seq (.block _ b) _))=>b
 |c=>c
theorem AKF {gs:List (List Nat)} {p:Nat} {ms:List Nat} (h:gs[p]?=some ms):(gs.map fun r=>[DV.sl (r.map By)])[p]?=some [DV.sl (ms.map By)]:=by rw [Aj,h];rfl
theorem AOY {fs:List FE} {dt:List Dat} {r:JH} {ms:List Nat} (h:(ms.foldl (igF (gcP fs dt r.1 ms)) (ig0 fs ms)).s.2=true\/nZ (ms.foldl (igF (gcP fs dt r.1 ms)) (ig0 fs ms)).s.1=false):UN fs dt r ms= .error (6,ms.headD 0):=by
 unfold UN;simp only;rw [if_pos h]
theorem AOZ {fs:List FE} {dt:List Dat} {r:JH} {ms:List Nat} {f:Nat} (h:¬((ms.foldl (igF (gcP fs dt r.1 ms)) (ig0 fs ms)).s.2=true\/nZ (ms.foldl (igF (gcP fs dt r.1 ms)) (ig0 fs ms)).s.1=false))
 (hf:ms.find? (fun f=>aV (ms.foldl (igF (gcP fs dt r.1 ms)) (ig0 fs ms)).s.1 ((gcP fs dt r.1 ms).ps.getD f []) ((gcP fs dt r.1 ms).rs.getD f 0) ((ms.foldl (igF (gcP fs dt r.1 ms)) (ig0 fs ms)).en.getD f []))=some f):UN fs dt r ms= .error (9,f):=by
 unfold UN;simp only;rw [if_neg h,hf]
theorem AR2 {fs:List FE} {dt:List Dat} {r:JH} {ms:List Nat} (h:¬((ms.foldl (igF (gcP fs dt r.1 ms)) (ig0 fs ms)).s.2=true\/nZ (ms.foldl (igF (gcP fs dt r.1 ms)) (ig0 fs ms)).s.1=false))
 (hf:ms.find? (fun f=>aV (ms.foldl (igF (gcP fs dt r.1 ms)) (ig0 fs ms)).s.1 ((gcP fs dt r.1 ms).ps.getD f []) ((gcP fs dt r.1 ms).rs.getD f 0) ((ms.foldl (igF (gcP fs dt r.1 ms)) (ig0 fs ms)).en.getD f []))=none):UN fs dt r ms= .ok (ms.foldl (I7 (gcP fs dt r.1 ms) (ms.foldl (igF (gcP fs dt r.1 ms)) (ig0 fs ms)).s.1 (ms.foldl (igF (gcP fs dt r.1 ms)) (ig0 fs ms)).en) r):=by
 unfold UN;simp only;rw [if_neg h,hf]
theorem AIW (fs:List FE) (ds:List DE) (dt:List Dat) (hF:PF fs dt) (ms:List Nat) (hne:ms≠[]) (hnd:ms.Nodup) (hm:∀f∈ms,f < fs.length) (σ0:AI) (js jn:Nat) (r:JH) (τ:AI) (hH:HI dt σ0 τ fs.length js jn r) (Q:AV->AI->Prop) (k:List CI) (a40 a41 a42:DV)
 (hbad:∀(e:Int) (m:Nat) τ' k',UN fs dt r ms= .error (e,m)->σ0.le τ'->Run Bi Q (.code .ret::k') (put 2 (.lp 2 0) (put 3 (.lp 3 0) U)) (Am 2 [.Ae,.Ae] (Am 3 [.d (.int .i64 e),.d (.int .i64 (m:Int)),.d (.int .i64 0)] E)) τ')
 (hk:∀r' τ',UN fs dt r ms= .ok r'->HI dt σ0 τ' fs.length js jn r'->(∀f∈ms,rL fs dt r' f)->(∀f,f ∉ ms->r'.1[f]?=r.1[f]?/\r'.2[f]?=r.2[f]?)->
   Run Bi Q k (put 1 (.lp 1 0) (put 2 (.lp 2 0) (put 3 (.lp 3 0) (put 5 (dsA dt) (put 7 (.lp 7 0) (put 40 (.d a40) (put 41 (.d a41) (put 42 (.d a42) U)))))))) (LI (.sl (ds.map DE.enc)) (.sl (fs.map FE.enc)) js jn fs.length) τ'):
 ∀(τ1:AI) (i jm jp jr je j:Nat) (τ0:AI),NGI τ τ0 fs.length (.sl (ds.map DE.enc)) (.sl (fs.map FE.enc)) (dsA dt) (.ms js fs.length 5 eSs) i jm jp jr je j (ngP fs ms)->τ1=τ0.AP jp (psC (pgl (ngP fs ms).ps))->
 Run Bi Q (.code (P5 (P5 (AVU IP)))::k) (put 1 (.lp 1 0) (put 2 (.lp 2 0) (put 3 (.lp 3 0) (put 5 (dsA dt) (put 7 (.lp 7 0) (put 9 (.d (.sl (ms.map By))) (put 10 (.gp i 0) (put 40 (.d a40) (put 41 (.d a41) (put 42 (.d a42) U)))))))))) (LI (.sl (ds.map DE.enc)) (.sl (fs.map FE.enc)) js jn fs.length) τ1:=by
 rintro τ1 i jm jp jr je j τ0 hNG rfl;obtain ⟨hS,hI,hold,hl00⟩:=ANJ hF hH hm hnd hne hNG;generalize hext:exN i je j (τ0.AP jp (psC (pgl (ngP fs ms).ps)))=ext0 at hS hI hold;generalize τ0.AP jp (psC (pgl (ngP fs ms).ps))=τ1 at *;have holdσ:∀k c,σ0.blk k=some c->ext0 k=some c:=fun k c hk=>hold k c (hH.mo.blk k c hk);have hmod:=@AOY fs dt r ms;have hexc:=@AOZ fs dt r ms;have hokk:=@AR2 fs dt r ms;unfold IP;simp only [AVU,P5];rw [dsA] at hk ⊢;(repeat' (refine wQ mxQ rfl ?_<;>try simp only [AA,go_sem]));refine AAR (gB fs ds dt r ms i je jm jp jr js) ext0 ms hS σ0 Q _ (.sl (ds.map DE.enc)) (.sl (fs.map FE.enc)) js jn fs.length (ig0 fs ms) τ1 _ j hI (.sl (dt.map Dat.enc)) a40 a41 a42 (fun τ2 c es ext j2 hI2=>?_);have hG:(gB fs ds dt r ms i je jm jp jr js).G=gcP fs dt r.1 ms:=rfl;have hBi:(gB fs ds dt r ms i je jm jp jr js).i=i:=rfl;rw [hG] at hI2;generalize hst:ms.foldl (igF (gcP fs dt r.1 ms)) (ig0 fs ms)=st at *;have hl0:st.s.1≠[]:=fun e=>by have:=hI2.gi0.pos;simp only [GS.nx,e] at this;cases this
 have hln:st.s.1.length<=900000000:=by
  have h1:st.s.1.length<=1000+1000000 * szM fs ms:=hI2.hi;have h2:szM fs ms<=W8 fs:=AOV fs hnd;have:=hF.sz;omega
 have hbi:=hI2.sn.blk;rw [FH hl0,hBi] at hbi
 obtain ⟨m0,hm0⟩:∃m0,ms[0]?=some m0:=by
  cases ms with
  |nil=>exact absurd rfl hne
  |cons a l=>exact ⟨a,rfl⟩
 have hmh:ms.headD 0=m0:=by
  cases ms with
  |nil=>exact absurd rfl hne
  |cons a l=>simpa using hm0
 have hm0r:=Hf hm0;have hmo:∀τ',(∀k c,ext k=some c->τ'.blk k=some c)->(nbH σ0).le τ'->σ0.le τ':=fun τ' h1 h2=>Mo.le ⟨fun k c hk=>h1 k c (hI2.sub k c (holdσ k c hk)),h2⟩;have htx:TX ((gB fs ds dt r ms i je jm jp jr js).w ext c es) ext st.s.1 st.s.2 j2 τ2:=⟨hI2.sn,hI2.x,hI2.xi,hI2.jj.1⟩;rw [hBi];cases hfl:st.s.2 with
 |true=>
  rw [hfl] at hbi;have he:=hmod (.inl hfl);rw [hmh] at he;(repeat' (first|refine ctQ rfl ?_|((first|refine rgQ mxQ ?_|refine cdQ ?_|(refine A7 rfl (fun h=>?_) (fun h=>?_)<;>try (cases h;done)))<;>try simp only [hbi,go_sem])|(refine ⟨fun h=>?_,fun h=>?_⟩<;>first|(cases h;done)|try simp only [h])|fail));refine Run.Jf mixed ?_;simp only [hm0r,Int.le_refl,Int.toNat_zero,go_sem]
  first
   |exact hbad 6 m0 τ2 _ he (hmo τ2 hI2.x hI2.nb)
   |(refine ⟨?_,?_⟩<;>exact hbad 6 m0 τ2 _ he (hmo τ2 hI2.x hI2.nb))
 |false=>
  rw [hfl] at hbi;(repeat' (refine wQ mxQ rfl ?_<;>try simp only [hbi,go_sem]));have hs2:=hI2.sn;have hfc:=iX i _ st.s.1 st.s.2 j2 τ2 hl0 hln hs2;refine AH.mk rfl hfc ?_;rintro _ τ3 ⟨rfl,j3,sn3,fr3⟩;have htx3:=htx.step hl0 sn3 fr3;have hnb3:=D8 hI2.nb (fr3.nb2 (IZ τ2));cases hfin:nZ st.s.1 with
  |false=>
   have he:=hmod (.inr hfin);rw [hmh] at he;simp only [go_sem];(repeat' (first|refine ctQ rfl ?_|((first|refine rgQ mxQ ?_|refine cdQ ?_|(refine A7 rfl (fun h=>?_) (fun h=>?_)<;>try (cases h;done)))<;>try simp only [go_sem])|(refine ⟨fun h=>?_,fun h=>?_⟩<;>first|(cases h;done)|try simp only [h])|fail));refine Run.Jf mixed ?_;simp only [hm0r,Int.le_refl,Int.toNat_zero,go_sem]
   first
    |exact hbad 6 m0 τ3 _ he (hmo τ3 htx3.x hnb3)
    |(refine ⟨?_,?_⟩<;>exact hbad 6 m0 τ3 _ he (hmo τ3 htx3.x hnb3))
  |true=>
   have hnn:¬(st.s.2=true\/nZ st.s.1=false):=by rw [hfl,hfin];simp
   obtain ⟨d,hd⟩:=AMI sn3.HM hfin;simp only [go_sem];(repeat' (first|refine ctQ rfl ?_|((first|refine rgQ mxQ ?_|refine cdQ ?_|(refine A7 rfl (fun h=>?_) (fun h=>?_)<;>try (cases h;done)))<;>try simp only [go_sem])|(refine ⟨fun h=>?_,fun h=>?_⟩<;>first|(cases h;done)|try simp only [h])|fail));refine AH.mk rfl (l8 i _ st.s.1 st.s.2 j3 τ3 hl0 hln sn3) ?_;rintro _ τ4 ⟨j1,jc3,jc4,jz,rfl,hmo4,hjz,hsx,x1,x3,x4⟩;have hxi:ext i=none:=hI2.xi
   have hext:∀k c,ext k=some c->exT i j3 jz τ4 k=some c:=fun k c hk=>by
    have h1:=htx3.x k c hk;refine Jr (hmo4.blk k c h1) (fun e=>by rw [e,hxi] at hk;cases hk) (fun e=>by rw [e,htx3.xj] at hk;cases hk) (fun e=>by rw [e,hjz] at h1;cases h1)
   have hje2:τ3.blk je=some es:=by rw [fr3.blk je (A9 hS.ie) (fun _=>A9 hI2.jj.2) (by rw [show τ2.blk je=some es from hI2.e];simp)];exact hI2.e
   have hj3:j3≠je:=by
    rcases fr3.nw hl0 with ⟨_,e⟩|e
    . rw [e];exact hI2.jj.2
    . exact fun e2=>by rw [e2,show τ2.blk je=some es from hI2.e] at e;cases e
   have hjz2:je≠jz:=fun e=>by rw [<- e,hje2] at hjz;cases hjz
   have hxe:exT i j3 jz τ4 je=some es:=Jr (hmo4.blk _ _ hje2) (A9 hS.ie) (A9 hj3) hjz2
   have hM:MF (gB fs ds dt r ms i je jm jp jr js) ms es st (exT i j3 jz τ4):=⟨hext _ _ (hI2.sub _ _ hS.m),hext _ _ (hI2.sub _ _ hS.p),hext _ _ (hI2.sub _ _ hS.r),hxe,hI2.el,fun f hf=>by
    obtain ⟨jc,h1,h2,_⟩:=hI2.cell f hf;exact ⟨jc,h1,fun hn=>hext _ _ (h2 hn)⟩,hI2.gi,hI2.gi0⟩
   have hJE:JE (exT i j3 jz τ4) i st.s.1 d jz j1 jc3 jc4:=⟨hln,hd,x1,x3,x4⟩;have hjs2:exT i j3 jz τ4 js=some (VW r.1):=hext _ _ (hI2.sub _ _ (hold _ _ hH.b1));have hjn2:exT i j3 jz τ4 jn=some (ntC r.2):=hext _ _ (hI2.sub _ _ (hold _ _ hH.b2));have hjsx:ext0 js=some (VW r.1):=hold _ _ hH.b1;have hjnx:ext0 jn=some (ntC r.2):=hold _ _ hH.b2;simp only [go_sem];(repeat' (first|refine ctQ rfl ?_|((first|refine rgQ mxQ ?_|refine cdQ ?_|(refine A7 rfl (fun h=>?_) (fun h=>?_)<;>try (cases h;done)))<;>try simp only [AA,go_sem])|(refine ⟨fun h=>?_,fun h=>?_⟩<;>first|(cases h;done)|try simp only [h])|fail));refine AAQ (gB fs ds dt r ms i je jm jp jr js) ext0 ms hS c es st (exT i j3 jz τ4) hM d σ0 jz j1 jc3 jc4 hl0 hJE Q _ (.sl (ds.map DE.enc)) (.sl (fs.map FE.enc)) js jn fs.length (.sl (dt.map Dat.enc)) a40 a41 a42 τ4 ⟨D8 hnb3 hmo4.nb,_,j3,KN.zero st.s.1,hsx⟩ ?_ ?_
   . rintro f τ5 k' hf ⟨hnb5,kn,j5,hkn,hs5⟩;exact hbad 9 f τ5 k' (hexc hnn hf) (hmo τ5 (fun k c hk=>hs5.x k c (hext k c hk)) hnb5)
   . rintro τ5 hno ⟨hnb5,kn,j5,hkn,hs5⟩;have hdone:=AMO hF hS hI2 hd hno hH.l1 hH.l2 hH.so;have htg:=hokk hnn hno;have hlen:=ABN (gcP fs dt r.1 ms) st.s.1 st.en ms r;have hrest:=fun f (hf:f ∉ ms)=>(xR (gcP fs dt r.1 ms) st.s.1 st.en ms r f hnd).1 hf;have hnis:i≠js:=fun e=>by have:=hI2.xi;rw [hBi,e,hI2.sub _ _ hjsx] at this;cases this
     have hnin:i≠jn:=fun e=>by have:=hI2.xi;rw [hBi,e,hI2.sub _ _ hjnx] at this;cases this
     have hx5:=hs5.xj hl0
     have htx5:TX ((gB fs ds dt r ms i je jm jp jr js).w (Hq ext je es) c es) (exR (Hq ext je es) js jn r) st.s.1 st.s.2 j5 τ5:=by
      refine ⟨hs5.sn,fun k5 cs hkk=>?_,wM r hnis hnin ?_,wM r (fun e=>by rw [e,hjs2] at hx5;cases hx5) (fun e=>by rw [e,hjn2] at hx5;cases hx5) ?_⟩
      . unfold exR at hkk;split at hkk
        . rename_i e;subst e;cases hkk;exact hs5.x _ _ hjs2
        . split at hkk
          . rename_i e;subst e;cases hkk;exact hs5.x _ _ hjn2
          . unfold Hq at hkk;split at hkk
            . rename_i e;subst e;cases hkk;exact hs5.x _ _ hxe
            . exact hs5.x _ _ (hext _ _ hkk)
      . show (if i=je then some es else ext i)=none;rw [if_neg (show i≠je from hS.ie)];exact hxi
      . unfold Hq;rw [if_neg (fun e=>by rw [e,hxe] at hx5;cases hx5)];cases he:ext j5 with
        |none=>rfl
        |some cs=>rw [hext _ _ he] at hx5;cases hx5
     have hnejs:je≠js:=fun e=>by have:=hI2.xe;have h1:=hI2.sub _ _ hjsx;rw [<- e] at h1;rw [show (gB fs ds dt r ms i je jm jp jr js).je=je from rfl,h1] at this;cases this
     have hnejn:je≠jn:=fun e=>by have:=hI2.xe;have h1:=hI2.sub _ _ hjnx;rw [<- e] at h1;rw [show (gB fs ds dt r ms i je jm jp jr js).je=je from rfl,h1] at this;cases this
     have hput:∀r',∀k c,ext k=some c->k≠js->k≠jn->exR (Hq ext je es) js jn r' k=some c:=fun r' k c hk h1 h2=>by
      unfold exR;rw [if_neg h1,if_neg h2];unfold Hq;rw [if_neg (fun e=>by rw [e,show ext je=none from hI2.xe] at hk;cases hk)];exact hk
     have hM2:∀r',MF (gB fs ds dt r ms i je jm jp jr js) ms es st (exR (Hq ext je es) js jn r'):=fun r'=>by
      obtain ⟨_,f2,f3,f4,_⟩:=hNG.fr;have hfr:∀k,τ.blk k=none->k≠js/\k≠jn:=fun k h=>⟨fun e=>(by rw [e,hH.b1] at h;cases h),fun e=>(by rw [e,hH.b2] at h;cases h)⟩;refine ⟨hput r' _ _ (hI2.sub _ _ hS.m) (hfr _ f2).1 (hfr _ f2).2,hput r' _ _ (hI2.sub _ _ hS.p) (hfr _ f3).1 (hfr _ f3).2,hput r' _ _ (hI2.sub _ _ hS.r) (hfr _ f4).1 (hfr _ f4).2,?_,hI2.el,fun f hf=>?_,hI2.gi,hI2.gi0⟩
      . show exR (Hq ext je es) js jn r' je=some es;unfold exR;rw [if_neg hnejs,if_neg hnejn];exact nW _ _ _
      . obtain ⟨jc,h1,h2,h3⟩:=hI2.cell f hf;exact ⟨jc,h1,fun hn=>hput r' _ _ (h2 hn) (fun e=>by rw [e,hjsx] at h3;cases h3) (fun e=>by rw [e,hjnx] at h3;cases h3)⟩
     (repeat' (refine wQ mxQ rfl ?_<;>try simp only [AA,go_sem]));refine AAS (gB fs ds dt r ms i je jm jp jr js) ext0 ms hS c es st (Hq ext je es) js jn hH.ne hM2 d hd hl0 hln hno (fun q hq=>hS.gv.ps q hq) Q _ (.sl (ds.map DE.enc)) (.sl (fs.map FE.enc)) (.sl (dt.map Dat.enc)) a40 a41 a42 r hH.l1 hH.l2 σ0 τ5 j5 hnb5 htx5 (fun τ6 j6 hnb6 htx6=>?_);refine hk _ τ6 htg ⟨⟨fun k c hk=>?_,hnb6⟩,hH.j1,hH.j2,hH.ne,htx6.x js _ (by simp [exR,hG]),htx6.x jn _ (by simp [exR,A9 hH.ne,hG]),by rw [hlen.1];exact hH.l1,by rw [hlen.2];exact hH.l2,hdone.1⟩ hdone.2 hrest;exact htx6.x k c (hput _ k c (hI2.sub _ _ (holdσ k c hk)) (fun e=>by rw [e,hH.j1] at hk;cases hk) (fun e=>by rw [e,hH.j2] at hk;cases hk))
end Go.Ab
namespace Go.Ab
open Go.Proofs
theorem rL.JK {fs:List FE} {dt:List Dat} {r r':JH} {f:Nat} (h:rL fs dt r f) (e:r'.1[f]?=r.1[f]?/\r'.2[f]?=r.2[f]?):rL fs dt r' f:=by
 obtain ⟨l,d,G,en,pl,rf,h1,h2,h3,h4,h5,h6⟩:=h;exact ⟨l,d,G,en,pl,rf,h1,h2,h3,by rw [e.1];exact h4,by rw [e.2];exact h5,h6⟩
theorem AEE (fs:List FE) (ds:List DE) (dt:List Dat) (hF:PF fs dt) (gs:List (List Nat)) (hgl:gs.length<=1000) (hne:∀ms∈gs,ms≠[]) (hnd:gs.flatten.Nodup) (hm:∀f∈gs.flatten,f < fs.length) (σ0:AI) (js jn:Nat) (r0:JH) (τ:AI) (hH:HI dt σ0 τ fs.length js jn r0) (Q:AV->AI->Prop) (k:List CI)
 (hbad:∀(e:Int) (m:Nat) τ' k',Hd fs dt gs r0= .error (e,m)->σ0.le τ'->Run Bi Q (.code .ret::k') (put 2 (.lp 2 0) (put 3 (.lp 3 0) U)) (Am 2 [.Ae,.Ae] (Am 3 [.d (.int .i64 e),.d (.int .i64 (m:Int)),.d (.int .i64 0)] E)) τ')
 (hk:∀r τ' a40 a41 a42,Hd fs dt gs r0= .ok r->HI dt σ0 τ' fs.length js jn r->(∀f∈gs.flatten,rL fs dt r f)->
   Run Bi Q k (put 1 (.lp 1 0) (put 2 (.lp 2 0) (put 3 (.lp 3 0) (put 5 (dsA dt) (put 7 (.lp 7 0) (put 40 (.d a40) (put 41 (.d a41) (put 42 (.d a42) U)))))))) (LI (.sl (ds.map DE.enc)) (.sl (fs.map FE.enc)) js jn fs.length) τ'):
 Run Bi Q (.code (.loop IP)::.blk 0::k) (put 1 (.lp 1 0) (put 2 (.lp 2 0) (put 3 (.lp 3 0) (put 5 (dsA dt) (put 7 (.lp 7 0) (put 40 (Py gs) (put 41 (.d (.int .i64 gs.length)) (put 42 (.d (.int .i64 0)) U)))))))) (LI (.sl (ds.map DE.enc)) (.sl (fs.map FE.enc)) js jn fs.length) τ:=by
 rw [Py,dsA] at *;refine Run.At ?_
 refine Run.Au ((fun (a1:AV) (a2:AV) (a3:AV) (a5:AV) (a7:AV) (a40:AV) (a41:AV)=>fun (z:Nat×AI)=>put 1 a1 (put 2 a2 (put 3 a3 (put 5 a5 (put 7 a7 (put 40 a40 (put 41 a41 (put 42 (.d (.int .i64 z.1)) U)))))))) _ _ _ _ _ _ _) (fun _=>LI (.sl (ds.map DE.enc)) (.sl (fs.map FE.enc)) js jn fs.length) (fun z=>z.2)
  (fun z=>z.1<=gs.length/\∃r,Hd fs dt gs r0=Hd fs dt (gs.drop z.1) r/\HI dt σ0 z.2 fs.length js jn r/\∀f∈(gs.take z.1).flatten,rL fs dt r f)
  (fun z=>gs.length - z.1) ?_ (0,τ) ⟨by simp,r0,by simp,hH,by simp⟩
 clear hH;rintro ⟨p,τ1⟩ ⟨hp,r,hgo,hH,hty⟩ ih;simp only at hp hgo hH hty;by_cases hlt:p < gs.length
 . obtain ⟨ms,hms⟩:=Ai hlt;have hmr:=AKF hms;have hmm:=AE hms;have hw1:=A4 (show p+1<=9000000000000000000 by omega);have hdr:=Bu hms;rw [hdr] at hgo;have hfl:∀f∈ms,f∈gs.flatten:=fun f hf=>List.mem_flatten.2 ⟨ms,hmm,hf⟩;have hsp:(gs.take (p+1)).flatten=(gs.take p).flatten++ms:=by rw [Aa hms,PB];simp
   have hnd2:((gs.take p).flatten++ms).Nodup:=by
    rw [<- hsp];have h1:=hnd;rw [<- Ad (p+1) gs,PB] at h1;exact (Gs.1 h1).1
   have hmsn:ms.Nodup:=(Gs.1 hnd2).2.1;have hdis:∀f∈(gs.take p).flatten,f ∉ ms:=fun f h1 h2=>(Gs.1 hnd2).2.2 f h1 f h2 rfl;have hpar:∀f∈fs,f.params.length<=1000:=fun f hf=>by have:=hF.pr f hf;omega
   have hlf:=hF.lf;have hml:=Xt hmsn (fun f hf=>hm f (hfl f hf));have hnew:=AA9 τ1 fs ds dt js fs.length ms (by omega) (fun f hf=>hm f (hfl f hf)) (by omega) hpar;rw [dsA] at hnew;(repeat' (first|refine ctQ rfl ?_|((first|refine rgQ mxQ ?_|refine cdQ ?_|(refine A7 rfl (fun h=>?_) (fun h=>?_)<;>try (cases h;done)))<;>try simp only [Ag hlt,hmr,go_sem])|(refine ⟨fun h=>?_,fun h=>?_⟩<;>first|(cases h;done)|try simp only [h])|fail));refine AH.mk rfl hnew ?_;rintro _ τ2 ⟨i,jm,jp,jr,je,j,τ3,rfl,hNG,rfl⟩;simp only [go_sem];refine AIW fs ds dt hF ms (hne ms hmm) hmsn (fun f hf=>hm f (hfl f hf)) σ0 js jn r τ1 hH Q _ _ _ _ (fun e m τ' k' he hle=>hbad e m τ' k' (by rw [hgo,Hd,he]) hle) (fun r' τ' htg hH' hty' hrest=>?_) _ i jm jp jr je j τ3 hNG rfl;rw [dsA];(repeat' (refine wQ mxQ rfl ?_<;>try simp only [hw1,go_sem]));refine ih ⟨p+1,τ'⟩ ⟨hlt,r',by rw [hgo,Hd,htg],hH',fun f hf=>?_⟩ (by simp only;omega);rw [hsp] at hf;rcases A0.1 hf with hf|hf
   . exact (hty f hf).JK (hrest f (hdis f hf))
   . exact hty' f hf
 . have hpe:p=gs.length:=by omega
   subst hpe;rw [BR] at hty;rw [Jk,Hd] at hgo;(repeat' (refine wQ mxQ rfl ?_<;>try simp only [B5 hlt,go_sem]));refine Run.OF [1,2,3,5,7,40,41,42] ?_;have:=hk r τ1 (.sl (gs.map fun r=>[DV.sl (r.map By)])) (.int .i64 gs.length) (.int .i64 gs.length) hgo hH hty;simp only [go_sem];exact this
theorem bV:∀a b:List AV,AV.CL (a++b)=AV.CL a++AV.CL b
 |[],b=>by simp [AV.CL]
 |x::a,b=>by rw [AZ,AV.CL,AV.CL,bV a b];rfl
theorem vG (s:Sch) (l:List Sch):VW (s::l)=s.row++VW l:=HR _ _ _
theorem AKI (n:Nat):AV.CL (AF n [AV.d (.int .i64 0),.Ae,.d (.int .i64 0),.d (.int .i64 0),.Ae]).flatten=VW (AF n iW):=by
 induction n with
 |zero=>rfl
 |succ n ih=>rw [B1,BU,bV,ih,B1,vG];simp [AV.CL,G6,Kh,Sch.row,iW,Ty.kind,Ty.num,Ty.args]
theorem ANO (n:Nat):AV.CL (AF n [AV.Ae]).flatten=ntC (AF n []):=by
 induction n with
 |zero=>rfl
 |succ n ih=>rw [B1,BU,bV,ih,B1];simp [AV.CL,Kh,ntC,ntR]
def MB (s:Sch):List DV:=[.int .i64 s.vars,.sl (s.params.map Ty.enc),.int .i64 s.res.kind,.int .i64 s.res.num,.sl (s.res.args.map Ty.enc)]
def Z0 (l:List Nt):List DV:=[.sl (l.map OD)]
theorem AGJ:∀l:List Sch,dvs (VW l)=some (l.map MB).flatten
 |[]=>rfl
 |s::l=>by
  have:=AGJ l;rw [vG];simp only [Sch.row,AZ,As,dvs,ATS,this,AD,BU,MB];rfl
theorem AL3:∀l:List (List Nt),dvs (ntC l)=some (l.map fun x=>DV.sl (x.map OD))
 |[]=>rfl
 |s::l=>by
  have:=AL3 l;simp only [ntC,AD] at this ⊢;simp only [ntR,dvs,ATS,this];rfl
theorem tR:∀l:List Sch,chunk 5 l.length (l.map MB).flatten=l.map MB
 |[]=>rfl
 |s::l=>by
  have:=tR l;simp only [A1,chunk,AD,BU];rw [show ((MB s)++(l.map MB).flatten).take 5=MB s from rfl,show ((MB s)++(l.map MB).flatten).drop 5=(l.map MB).flatten from rfl,this]
theorem zQ:∀l:List (List Nt),chunk 1 l.length (l.map fun x=>DV.sl (x.map OD))=l.map Z0
 |[]=>rfl
 |s::l=>by
  have:=zQ l;simp only [A1,chunk,AD,Cj,Cn,FX,TC,this];rfl
def QM:Except Dg JH->AV
 | .error d=>.tup [.agg [.d (.sl []),.d (.sl [])],.agg [.d (.int .i64 d.1),.d (.int .i64 d.2.1),.d (.int .i64 d.2.2)]]
 | .ok r=>.tup [.agg [.d (.sl (r.1.map MB)),.d (.sl (r.2.map Z0))],.agg [.d (.int .i64 0),.d (.int .i64 0),.d (.int .i64 0)]]
theorem AIX {dt:List Dat} {σ τ:AI} {n js jn:Nat} {r:JH} (h:HI dt σ τ n js jn r) (hn:n<=24) (Q:AV->AI->Prop) (k:List CI) (hQ:Q (QM (.ok r)) σ):
 Run Bi Q (.code .ret::k) (put 2 (.lp 2 0) (put 3 (.lp 3 0) U)) (Am 2 [.ms js n 5 eSs,.ms jn n 1 eNn] (Am 3 [.d (.int .i64 0),.d (.int .i64 0),.d (.int .i64 0)] E)) τ:=by
 have hl1:=h.l1;have hl2:=h.l2;refine Run.freeze (i:=js) (n:=n) (size:=5) (cs:=VW r.1) (ds:=(r.1.map MB).flatten) (σ':=τ.E1 js) (L':=Am 2 [.d (.sl (r.1.map MB)),.ms jn n 1 eNn] (Am 3 [.d (.int .i64 0),.d (.int .i64 0),.d (.int .i64 0)] E)) (F':=put 2 (.lp 2 0) (put 3 (.lp 3 0) U)) h.b1 (AGJ r.1) (by rw [P3 Sch.row 5 Sch.Ft,hl1]) (Ap hn (show (24:Nat)<=maxLen by decide+kernel)) (fun s=>.inl rfl) (fun q cs' hq=>?_) (fun j cs' hj=>?_) (fun t ht=>ht) ?_
 . by_cases e:q=2
   . subst e;refine ⟨_,rfl,.inr ?_⟩;have hq:some [AV.d (.sl (r.1.map MB)),.ms jn n 1 eNn]=some cs':=hq;cases hq;have hc:chunk 5 n (r.1.map MB).flatten=r.1.map MB:=by rw [<- hl1];exact tR r.1
     simp only [T7,frz,hc,and_self,if_true,A9 h.ne,false_and,if_false]
   . refine ⟨cs',?_,.inl rfl⟩;simp only [Am,if_neg e] at hq ⊢;exact hq
 . rw [Dp] at hj;split at hj
   . cases hj
   . rename_i e;exact ⟨e,cs',hj,.inl rfl⟩
 refine Run.freeze (i:=jn) (n:=n) (size:=1) (cs:=ntC r.2) (ds:=r.2.map fun x=>DV.sl (x.map OD)) (σ':= { τ with blk:=fun j=>if (σ.blk j).isSome then τ.blk j else none}) (L':=Am 2 [.d (.sl (r.1.map MB)),.d (.sl (r.2.map Z0))] (Am 3 [.d (.int .i64 0),.d (.int .i64 0),.d (.int .i64 0)] E)) (F':=put 2 (.lp 2 0) (put 3 (.lp 3 0) U)) (by rw [Dp,if_neg (A9 h.ne)];exact h.b2) (AL3 r.2) (by simp [ntC,hl2]) (Ap hn (show (24:Nat)<=maxLen by decide+kernel)) (fun s=>.inl rfl) (fun q cs' hq=>?_) (fun j cs' hj=>?_) (fun t ht=>ht) ?_
 . by_cases e:q=2
   . subst e;refine ⟨_,rfl,.inr ?_⟩;have hq:some [AV.d (.sl (r.1.map MB)),.d (.sl (r.2.map Z0))]=some cs':=hq;cases hq;have hc:chunk 1 n (r.2.map fun x=>DV.sl (x.map OD))=r.2.map Z0:=by rw [<- hl2];exact zQ r.2
     simp only [T7,frz,hc,and_self,if_true]
   . refine ⟨cs',?_,.inl rfl⟩;simp only [Am,if_neg e] at hq ⊢;exact hq
 . simp only at hj;cases hs:σ.blk j with
   |none=>rw [hs] at hj;cases hj
   |some c=>
    rw [hs] at hj;refine ⟨fun e=>(by rw [e,h.j2] at hs;cases hs),cs',?_,.inl rfl⟩;rw [Dp,if_neg (fun e=>by rw [e,h.j1] at hs;cases hs)];exact hj
 . refine Run.Bf Li (σ2:=σ) (AEP h.mo.le) ?_;simp only [KU,go_sem];exact hQ
end Go.Ab
namespace Go.Ab
theorem AO7 {p:Pg} (h:Cl p=true):∀f∈p.Ev,∀sc x,x∈Bj f.body sc->nb1 x.1:=by
 simp only [Cl,AO,decide_eq_true_eq] at h;obtain ⟨⟨⟨_,_⟩,_⟩,h2⟩:=h;obtain ⟨r,hr⟩:=JI.1 h2;exact fun f hf sc x hx=>((Um _ _ _ hr f hf).2.2 sc x hx).1
theorem H9 {ε α β:Type} {f:α->β} {x:Except ε α} {y:β} (h:x.map f= .ok y):∃z,x= .ok z/\y=f z:=by
 cases x with
 |error e=>cases h
 |ok z=>simp only [C3,Db] at h;exact ⟨z,rfl,h.symm⟩
def HdD (dt:List Dat) (ds:List (Str×Nat)):Prop:=∀i,i < ds.length->∃D,dt[i]?=some D/\D.vars=((ds.getD i ([],0)).2:Int)
theorem AG6 {dt:List Dat} {ds:List (Str×Nat)} (hh:HdD dt ds) (vars:List Str):∀(d:Nat) (t:TE) (whole:Bool) (u:Ty),Cc d t=true->II ds vars whole t= .ok u->u.sh dt/\VY vars.length u=true/\u.size=t.size
 |0,t,whole,u,h,_=>by simp [Cc] at h
 |d+1,.mk k n l,whole,u,h,hr=>by
  rw [Cc,AO] at h;obtain ⟨hs,hl⟩:=h
  have hls:∀(l:List TE) (us:List Ty),l.all (Cc d)=true->Co ds vars l= .ok us->us.length=l.length/\Ty.shs dt us/\MJ vars.length us=true/\Ty.AU us=TE.AU l:=by
   intro l
   induction l with
   |nil=>
    intro us _ hr;rw [Co] at hr;cases hr;exact ⟨rfl,by rw [Ty.shs];trivial,rfl,rfl⟩
   |cons t l ih=>
    intro us hv hr;rw [Bk,AO] at hv;rw [Co] at hr;cases h1:II ds vars false t with
    |error e=>rw [h1] at hr;cases hr
    |ok u1=>
     rw [h1] at hr;obtain ⟨us',h2,rfl⟩:=H9 hr;obtain ⟨a,b,c,e⟩:=ih us' hv.2 h2;obtain ⟨x,y,z⟩:=AG6 hh vars d t false u1 hv.1 h1;exact ⟨by simp [a],by rw [Ty.shs];exact ⟨x,b⟩,by rw [MJ,y,c];rfl,by rw [Ty.AU,TE.AU,z,e]⟩
  rw [II] at hr;unfold P4 at hs;by_cases h4:k=4
  . subst h4;rw [if_pos rfl] at hr;cases hi:C9 vars n with
    |none=>rw [hi] at hr;cases hr
    |some i=>
     rw [hi] at hr;obtain ⟨us,h1,rfl⟩:=H9 hr;obtain ⟨a,b,c,e⟩:=hls l us hl h1;have:=(fun h=>(AG.1 (Pj h)).1) hi;refine ⟨by rw [Ty.sh];exact ⟨.inl rfl,b⟩,by rw [VY,if_pos rfl];simp;omega,by rw [Ty.size,TE.size,e]⟩
  . rw [if_neg h4] at hr;by_cases h5:k=5
    . subst h5;rw [if_pos rfl] at hr;cases hi:C9 (ds.map (·.1)) n with
      |none=>rw [hi] at hr;cases hr
      |some i=>
       rw [hi] at hr;simp only at hr;split at hr
       . cases hr
       . rename_i hla;split at hr
         . cases hr
         . obtain ⟨us,h1,rfl⟩:=H9 hr;obtain ⟨a,b,c,e⟩:=hls l us hl h1;have hil:=(fun h=>(AG.1 (Pj h)).1) hi;rw [AA] at hil;obtain ⟨D,hD,hv⟩:=hh i hil;have hla:l.length=(ds.getD i ([],0)).2:=by simpa using hla
           have hus:(us.length:Int)=D.vars:=by rw [a,hv,hla]
           exact ⟨by rw [Ty.sh];exact ⟨.inr (.inr (.inl ⟨rfl,D,by omega,by simpa using hD,hus⟩)),b⟩,by rw [VY,if_neg (by decide)];exact c,by rw [Ty.size,TE.size,e]⟩
    . rw [if_neg h5] at hr;obtain ⟨us,h1,rfl⟩:=H9 hr;obtain ⟨a,b,c,e⟩:=hls l us hl h1;refine ⟨?_,by rw [VY,if_neg h4];exact c,by rw [Ty.size,TE.size,e]⟩;rw [Ty.sh];refine ⟨.inr ?_,b⟩;rw [a];by_cases h1:k=1\/k=2\/k=3
      . rw [if_pos h1,AO,decide_eq_true_eq] at hs;exact .inl ⟨by omega,rfl,hs.2⟩
      . rw [if_neg h1,if_neg h4,if_neg h5] at hs;by_cases h6:k=6
        . rw [if_pos h6] at hs;simp only [AO,decide_eq_true_eq] at hs;exact .inr (.inr (.inl ⟨h6,rfl,hs.1.2,hs.2⟩))
        . rw [if_neg h6] at hs;by_cases h7:k=7\/k=8
          . rw [if_pos h7,AO,decide_eq_true_eq] at hs;exact .inr (.inr (.inr (.inl ⟨h7,rfl,hs.2⟩)))
          . rw [if_neg h7] at hs;by_cases h9:k=9
            . rw [if_pos h9] at hs;simp only [AO,decide_eq_true_eq] at hs;exact .inr (.inr (.inr (.inr ⟨h9,rfl,hs.1.2,hs.2⟩)))
            . rw [if_neg h9] at hs;cases hs
def ASU (dt:List Dat) (n:Nat) (c:CE) (x:Con):Prop:=x.name=c.name/\Ty.shs dt x.args/\MJ n x.args=true/\Ty.AU x.args=TE.AU c.args/\x.args.length=c.args.length
theorem y8 {dt:List Dat} {ds:List (Str×Nat)} (hh:HdD dt ds) (vars:List Str):∀(l:List TE) (us:List Ty),l.all (Cc 40)=true->D2 ds vars l= .ok us->Ty.shs dt us/\MJ vars.length us=true/\Ty.AU us=TE.AU l/\us.length=l.length
 |[],us,_,h=>by rw [D2] at h;cases h;exact ⟨by rw [Ty.shs];trivial,rfl,rfl,rfl⟩
 |t::l,us,hv,h=>by
  rw [Bk,AO] at hv;rw [D2] at h;cases h1:II ds vars true t with
  |error e=>rw [h1] at h;cases h
  |ok u=>
   rw [h1] at h;obtain ⟨us',h2,rfl⟩:=H9 h;obtain ⟨a,b,c,e⟩:=y8 hh vars l us' hv.2 h2;obtain ⟨x,y,z⟩:=AG6 hh vars 40 t true u hv.1 h1;exact ⟨by rw [Ty.shs];exact ⟨x,a⟩,by rw [MJ,y,b];rfl,by rw [Ty.AU,TE.AU,z,c],by simp [e]⟩
theorem zT {dt:List Dat} {ds:List (Str×Nat)} (hh:HdD dt ds) (vars:List Str):∀(l:List CE) (used:List Str) (xs:List Con),l.all ZJ=true->Em ds vars used l= .ok xs->xs.length=l.length/\∀(i:Nat) (x:Con),xs[i]?=some x->∃c,l[i]?=some c/\ASU dt vars.length c x
 |[],used,xs,_,h=>by rw [Em] at h;cases h;exact ⟨rfl,fun i x hx=>by simp at hx⟩
 |c::l,used,xs,hv,h=>by
  rw [Bk,AO] at hv;rw [Em] at h;split at h
  . cases h
  . cases h1:D2 ds vars c.args with
    |error e=>rw [h1] at h;cases h
    |ok us=>
     rw [h1] at h;obtain ⟨xs',h2,rfl⟩:=H9 h;obtain ⟨a,b⟩:=zT hh vars l _ xs' hv.2 h2;have hc:=hv.1;simp only [ZJ,AO] at hc;obtain ⟨x1,x2,x3,x4⟩:=y8 hh vars c.args us hc.2 h1;refine ⟨by simp [a],fun i x hx=>?_⟩;cases i with
     |zero=>
      simp only [BM,AL] at hx;subst hx;exact ⟨c,rfl,rfl,x1,x2,x3,x4⟩
     |succ i=>exact b i x (by simpa using hx)
theorem jL:∀(l done:List DE) (xs:List Dat),DJ done l= .ok xs->xs.length=l.length/\∀(i:Nat) (d:DE),l[i]?=some d->∃x,xs[i]?=some x/\x.vars=(d.vars.length:Int)/\Lc (CZ (done++l.take i)) (JA (done++l.take i)) d= .ok x
 |[],done,xs,h=>by rw [DJ] at h;cases h;exact ⟨rfl,fun i d hd=>by simp at hd⟩
 |d::l,done,xs,h=>by
  rw [DJ] at h;cases h1:Lc (CZ done) (JA done) d with
  |error e=>rw [h1] at h;cases h
  |ok x=>
   rw [h1] at h;obtain ⟨xs',h2,rfl⟩:=H9 h;obtain ⟨a,b⟩:=jL l (done++[d]) xs' h2
   have hv:x.vars=(d.vars.length:Int):=by
    unfold Lc at h1;split at h1
    . cases h1
    . obtain ⟨z,_,rfl⟩:=H9 h1;rfl
   refine ⟨by simp [a],fun i e he=>?_⟩;cases i with
   |zero=>
    simp only [BM,AL] at he;subst he;exact ⟨x,rfl,hv,by simpa using h1⟩
   |succ i=>
    obtain ⟨y,g1,g2,g3⟩:=b i e (by simpa using he);exact ⟨y,by simpa using g1,g2,by simpa using g3⟩
theorem ATK {p:Pg} {dt:List Dat} (hd:H4 p= .ok dt):∀(i:Nat) (x:Dat),dt[i]?=some x->∃d,p.data[i]?=some d/\x.vars=(d.vars.length:Int)/\d.vars.length<=6/\x.cons.length=d.cons.length/\d.cons.length<=8/\∀(m:Nat) (c:Con),x.cons[m]?=some c->∃e,d.cons[m]?=some e/\ASU dt d.vars.length e c:=by
 obtain ⟨hv,hg⟩:=Kn hd;obtain ⟨hl,hx⟩:=jL _ _ _ hg
 have hdb:∀d∈p.data,Km d=true:=by
  simp only [Cl,AO] at hv;exact fun d hd=>A8.1 hv.1.2 d hd
 have hheads:∀k,k<=p.data.length->HdD dt (CZ (p.data.take k)):=fun k hk i hi=>by
  have hik:i < k:=by simp [CZ] at hi;omega
  obtain ⟨d,hd⟩:=Ai (show i < p.data.length by omega);obtain ⟨x,h1,h2,_⟩:=hx i d hd;refine ⟨x,h1,?_⟩
  have:(CZ (p.data.take k))[i]?=some (d.name,d.vars.length):=by
   rw [CZ,Aj,List.getElem?_take_of_lt hik,hd];rfl
  simp [h2,Ac,this]
 intro i x hxi;have hil:i < p.data.length:=by rw [<- hl];exact (AG.1 hxi).1
 obtain ⟨d,hd⟩:=Ai hil;obtain ⟨y,h1,h2,h3⟩:=hx i d hd;rw [hxi] at h1;cases h1;have hb:=hdb d (AE hd);simp only [Km,AO,decide_eq_true_eq] at hb;unfold Lc at h3;split at h3
 . cases h3
 . obtain ⟨cs,h4,rfl⟩:=H9 h3
   have hh:CZ ([]++p.data.take i)++[(d.name,d.vars.length)]=CZ (p.data.take (i+1)):=by
    rw [Aa hd];simp [CZ]
   rw [hh] at h4;obtain ⟨a,b⟩:=zT (hheads (i+1) hil) d.vars d.cons _ cs hb.2 h4;exact ⟨d,hd,rfl,hb.1.1.1.1.2,a,hb.1.2,b⟩
def DSm (ds:List DE):Prop:=∀d∈ds,∀c∈d.cons,c.args.length<=10/\∀t∈c.args,t.size<=200
theorem Pg.sm.ds {p:Pg} (h:p.sm):DSm p.data:=fun d hd c hc=>⟨((h.1.2 d hd).2.2.2 c hc).2.1,fun t ht=>(((h.1.2 d hd).2.2.2 c hc).2.2 t ht).2⟩
theorem AWL {p:Pg} {dt:List Dat} (hc:(K9 p).1=0) (hd:H4 p= .ok dt) (hsm:DSm p.data) (hz:W8 p.Ev<=200):PF p.Ev dt:=by
 obtain ⟨hv,_⟩:=Kn hd;obtain ⟨hl,hg⟩:=JB hv
 have hcg:(Gt p.Ev dt 0 p.Ev).1=0:=by
  unfold K9 at hc;rw [hd] at hc;exact hc
 have hdo:=ATK hd;refine ⟨hl,fun f hf=>(hg f hf).2.1,hz,fun f fe hfe=>?_,fun d hdm=>?_,fun d hdm c hcm=>?_⟩
 . have hm:=AE hfe;exact ⟨fun x hx=>⟨gK (aT _ _ hcg fe hm) x hx,AO7 hv fe hm _ x hx⟩,(hg fe hm).1⟩
 . obtain ⟨i,hi⟩:=N1 hdm;obtain ⟨e,h1,h2,h3,h4,h5,h6⟩:=hdo i d hi;refine ⟨by omega,by omega,by omega,fun c hcm=>?_⟩;obtain ⟨m,hm⟩:=N1 hcm;obtain ⟨ce,g1,g2⟩:=h6 m c hm;refine ⟨by rw [h2,DS];exact g2.2.2.1,?_⟩;rw [g2.2.2.2.1];have hsc:=hsm e (AE h1) ce (AE g1)
   have:∀l:List TE,(∀t∈l,t.size<=200)->TE.AU l<=l.length * 200:=by
    intro l
    induction l with
    |nil=>intro _;simp [TE.AU]
    |cons t l ih=>
     intro h;have:=h t (AS);have:=ih fun x hx=>h x (AR _ hx);rw [TE.AU,A1];omega
   have:=this ce.args hsc.2;have:=hsc.1;omega
 . obtain ⟨i,hi⟩:=N1 hdm;obtain ⟨e,h1,h2,h3,h4,h5,h6⟩:=hdo i d hi;obtain ⟨m,hm⟩:=N1 hcm;obtain ⟨ce,g1,g2⟩:=h6 m c hm;exact g2.2.1
end Go.Ab
namespace Go.Ab
theorem eN {g:List (List Nat)} {a b:Nat}:HZ g a b=true↔Reach g a b/\Reach g b a:=by simp [HZ,Xz]
theorem AJR {g:List (List Nat)} {a b:Nat} (h:HZ g a b=true):HZ g b a=true:=by
 rw [eN] at h ⊢;exact ⟨h.2,h.1⟩
theorem pG {g:List (List Nat)} {a b c:Nat} (h:HZ g a b=true) (k:HZ g b c=true):HZ g a c=true:=by
 rw [eN] at h k ⊢;exact ⟨h.1.trans k.1,k.2.trans h.2⟩
def Cls (g:List (List Nat)) (ls:List Bool):Prop:=∀a b,a < g.length->b < g.length->HZ g a b=true->lsB ls a=lsB ls b
theorem Cls.start (g:List (List Nat)):Cls g (AF g.length false):=fun a b ha hb _=>by
 have h:∀k,k < g.length->lsB (AF g.length false) k=false:=fun k hk=>Ri (by simp [hk]);rw [h a ha,h b hb]
theorem Rj {g:List (List Nat)} {i:Nat} {ls:List Bool} {k:Nat} (hk:k < g.length):lsB (ZZ g i ls) k=(lsB ls k||HZ g i k):=by
 have:=Ri (QW g i ls g.length hk);rw [ZZ,this];simp [hk]
theorem Cls.mrk {g:List (List Nat)} {ls:List Bool} (h:Cls g ls) (i:Nat):Cls g (ZZ g i ls):=fun a b ha hb hm=>by
 rw [Rj ha,Rj hb,h a b ha hb hm];congr 1;rw [An];exact ⟨fun k=>pG k hm,fun k=>pG k (AJR hm)⟩
end Go.Ab
namespace Go.Ab
def AB0 (A:List Nat) (vs:List Nat) (n:Nat):List Nat:=vs.foldl (fun l v=>l.set v n) A
theorem AB2:∀(vs A:List Nat) (n:Nat),(AB0 A vs n).length=A.length
 |[],_,_=>rfl
 |v::vs,A,n=>by rw [AB0,Ao];exact (AB2 vs _ n).trans (by simp)
theorem AB1:∀(vs A:List Nat) (n:Nat) {k:Nat},k < A.length->(AB0 A vs n).getD k 0=if k∈vs then n else A.getD k 0
 |[],A,n,k,_=>by simp [AB0]
 |v::vs,A,n,k,hk=>by
  have:=AB1 vs (A.set v n) n (k:=k) (by simpa using hk);rw [AB0,Ao];rw [AB0] at this;rw [this];by_cases h2:k∈vs
  . simp [h2]
  . by_cases h1:k=v
    . subst h1;simp [h2,Ac,hk]
    . have h3:¬v=k:=fun e=>h1 e.symm;simp [h1,h2,h3,Ac,B3]
structure vW (g:List (List Nat)) (ls:List Bool) (A:List Nat) (n:Nat):Prop where
 len:A.length=g.length
 lsl:ls.length=g.length
 nz:∀k,k < g.length->(A.getD k 0=0↔lsB ls k=false)
 le:∀k,k < g.length->A.getD k 0<=n
 cls:Cls g ls
 cl:∀a b,a < g.length->lsB ls a=true->Reach g a b->lsB ls b=true/\A.getD b 0<=A.getD a 0
theorem vW.start (g:List (List Nat)):vW g (AF g.length false) (AF g.length 0) 0:=by
 have h:∀k,k < g.length->lsB (AF g.length false) k=false:=fun k hk=>Ri (by simp [hk]);have h2:∀k,k < g.length->(AF g.length 0).getD k 0=0:=fun k hk=>by simp [Ac,hk]
 exact ⟨by simp,by simp,fun k hk=>by simp only [h k hk,h2 k hk],fun k hk=>by rw [h2 k hk];exact AW _,Cls.start g,fun a b ha h1=>by rw [h a ha] at h1;cases h1⟩
theorem Yb {g:List (List Nat)} {i k:Nat}:k∈dQ g i↔k < g.length/\HZ g i k=true:=by simp [dQ]
theorem AIP (g:List (List Nat)) (i:Nat):(dQ g i).Nodup:=List.Pairwise.filter _ List.nodup_range
theorem vW.new {g:List (List Nat)} {ls:List Bool} {A:List Nat} {n i k:Nat} (h:vW g ls A n) (hi:i < g.length) (hc:dA g ls i=true) (hk:k∈dQ g i):k < g.length/\A.getD k 0=0:=by
 rw [Yb] at hk;refine ⟨hk.1,(h.nz k hk.1).2 ?_⟩;rw [<- h.cls i k hi hk.1 hk.2];simp only [dA,AO,Br] at hc;exact hc.1
theorem vW.next {g:List (List Nat)} (he:cK g) {ls:List Bool} {A:List Nat} {n i:Nat} (h:vW g ls A n) (hi:i < g.length) (hc:dA g ls i=true):vW g (ZZ g i ls) (AB0 A (dQ g i) (n+1)) (n+1):=by
 have hg:∀k,k < g.length->(AB0 A (dQ g i) (n+1)).getD k 0=if k∈dQ g i then n+1 else A.getD k 0:=fun k hk=>AB1 _ _ _ (by rw [h.len];exact hk)
 have hm:∀k,k < g.length->(k∈dQ g i↔HZ g i k=true):=fun k hk=>by rw [Yb];exact ⟨fun x=>x.2,fun x=>⟨hk,x⟩⟩
 simp only [dA,AO,Br] at hc
 have hrd:∀j,j < g.length->rB g i j=true->rB g j i=false->lsB ls j=true:=fun j hj h1 h2=>by
  have:=hc.2;rw [sX,A8] at this;have:=this j (CJ.2 hj);rw [h1,h2] at this;simpa using this
 have hnew:∀k,k < g.length->HZ g i k=true->lsB ls k=false:=fun k hk hmk=>by rw [<- h.cls i k hi hk hmk];exact hc.1
 refine ⟨by rw [AB2,h.len],by rw [ZZ,KE],fun k hk=>?_,fun k hk=>?_,h.cls.mrk i,fun a b ha h1 hr=>?_⟩
 . rw [hg k hk,Rj hk];by_cases hmk:HZ g i k=true
   . rw [if_pos ((hm k hk).2 hmk),hmk];simp
   . rw [if_neg (fun x=>hmk ((hm k hk).1 x)),C5.2 hmk,H2];exact h.nz k hk
 . rw [hg k hk];split
   . exact AW _
   . exact Ap (h.le k hk) (Nat.le_succ n)
 . have hb:=hr.lt he ha;rw [Rj hb,hg a ha,hg b hb];rw [Rj ha] at h1;by_cases hma:HZ g i a=true
   . rw [if_pos ((hm a ha).2 hma)];have hib:rB g i b=true:=Xz.2 ((eN.1 hma).1.trans hr);by_cases hmb:HZ g i b=true
     . rw [if_pos ((hm b hb).2 hmb),hmb];simp
     . rw [if_neg (fun x=>hmb ((hm b hb).1 x))]
       have hbi:rB g b i=false:=by
        rw [C5];intro hx;exact hmb (by rw [HZ,hib,hx];rfl)
       refine ⟨by rw [hrd b hb hib hbi];rfl,Ap (h.le b hb) (Nat.le_succ n)⟩
   . rw [C5.2 hma,H2] at h1;have ⟨c1,c2⟩:=h.cl a b ha h1 hr;have hmb:¬HZ g i b=true:=fun hx=>by have:=hnew b hb hx;rw [c1] at this;cases this
     rw [if_neg (fun x=>hma ((hm a ha).1 x)),if_neg (fun x=>hmb ((hm b hb).1 x)),c1];exact ⟨rfl,c2⟩
theorem ANQ {g:List (List Nat)} {ls:List Bool}:∀(N k:Nat),((BA g.length).filter (rB g k)).length=N->k < g.length->lsB ls k=false->∃i,ABC g ls=some i:=by
 intro N
 induction N using Qe with
 |_ N ih=>
 intro k hN hk hl;by_cases hr:sX g ls k=true
 . cases hn:ABC g ls with
   |some i=>exact ⟨i,rfl⟩
   |none=>
    rw [ABC,Qi] at hn;have:=hn k (CJ.2 hk);rw [dA,hl,hr] at this;simp at this
 . rw [sX,A8] at hr;simp only [CJ,Br,Classical.not_forall] at hr;obtain ⟨j,hj,hj2⟩:=hr;simp only [Bool.not_eq_false,AO,Br] at hj2;obtain ⟨⟨h1,h2⟩,h3⟩:=hj2;refine ih _ ?_ j rfl hj h3;rw [<- hN];have hsub:∀x,rB g j x=true->rB g k x=true:=fun x hx=>Xz.2 ((Xz.1 h1).trans (Xz.1 hx));have h4:k∈(BA g.length).filter (rB g k):=Yq.2 ⟨CJ.2 hk,Xz.2 (Reach.refl k)⟩;have h5:k ∉ (BA g.length).filter (rB g j):=fun hx=>by have:=(Yq.1 hx).2;rw [h2] at this;cases this
   have h6:((BA g.length).filter (rB g j))=((BA g.length).filter (rB g k)).filter (rB g j):=by
    rw [List.filter_filter];apply List.filter_congr;intro x _;by_cases hx:rB g j x=true
    . rw [hx,hsub x hx];rfl
    . rw [C5.2 hx];rfl
   rw [h6];refine Nat.lt_of_le_of_ne (MW _ _) (fun e=>?_);have:=List.length_filter_eq_length_iff.1 e;have:=this k h4;rw [h2] at this;cases this
theorem AJZ {g:List (List Nat)} {ls:List Bool} {i:Nat} (h:ABC g ls=some i):i < g.length/\dA g ls i=true:=
 ⟨CJ.1 (List.mem_of_find?_eq_some h),List.find?_some h⟩
theorem ADK {g:List (List Nat)} {ls:List Bool} {f:Nat} (hf:unm ls < f) (h:La g f ls=[]):∀k,k < g.length->lsB ls k=true:=by
 intro k hk;cases f with
 |zero=>omega
 |succ f=>
  cases hl:lsB ls k with
  |true=>rfl
  |false=>
   obtain ⟨i,hi⟩:=ANQ _ k rfl hk hl;rw [La,hi] at h;cases h
theorem vW.fin {g:List (List Nat)} {ls:List Bool} {A:List Nat} {n:Nat} (h:vW g ls A n) (hall:∀k,k < g.length->lsB ls k=true):(∀a,a < g.length->A.getD a 0≠0)/\∀a b,a < g.length->b∈g.getD a []->A.getD b 0<=A.getD a 0:=
 ⟨fun a ha e=>(by have:=(h.nz a ha).1 e;rw [hall a ha] at this;cases this),fun a b ha hb=>(h.cl a b ha (hall a ha) (Reach.one hb)).2⟩
end Go.Ab
namespace Go.Ab
theorem dC {g:List (List Nat)}:∀(f:Nat) (ls:List Bool),ls.length=g.length->unm ls < f->Cls g ls->
 (∀ms∈La g f ls,ms≠[])/\(La g f ls).flatten.Nodup/\(∀k,k∈(La g f ls).flatten↔k < g.length/\lsB ls k=false)/\(La g f ls).length<=f
 |0,ls,_,h,_=>by omega
 |f+1,ls,hl,hf,hc=>by
  cases hq:La g (f+1) ls with
  |nil=>
   have:=ADK hf hq;refine ⟨fun ms h=>by simp at h,by simp,fun k=>⟨fun h=>by simp at h,fun ⟨h1,h2⟩=>?_⟩,by simp⟩;rw [this k h1] at h2;cases h2
  |cons l r=>
   rw [La] at hq;cases hn:ABC g ls with
   |none=>rw [hn] at hq;cases hq
   |some i=>
    rw [hn] at hq;obtain ⟨hi,hcan⟩:=AJZ hn;simp only [List.cons.injEq] at hq;obtain ⟨rfl,rfl⟩:=hq;have h3:lsB ls i=false:=by simp only [dA,AO,Br] at hcan;exact hcan.1
    have hu:=AHF hl hi h3;obtain ⟨a,b,c,d⟩:=dC f (ZZ g i ls) (by rw [ZZ,KE]) (by omega) (hc.mrk i);have hmi:i∈dQ g i:=Yb.2 ⟨hi,eN.2 ⟨Reach.refl i,Reach.refl i⟩⟩
    have hg:∀k,k∈dQ g i->k < g.length/\lsB ls k=false:=fun k hk=>by
     rw [Yb] at hk;exact ⟨hk.1,by rw [<- hc i k hi hk.1 hk.2];exact h3⟩
    refine ⟨fun ms hm=>?_,?_,fun k=>?_,by simp only [A1];omega⟩
    . rcases Ar.1 hm with rfl|hm
      . exact fun e=>by rw [e] at hmi;cases hmi
      . exact a ms hm
    . rw [BU,Gs];refine ⟨AIP g i,b,fun x hx y hy e=>?_⟩;subst e;have h4:=(c x).1 hy;rw [Rj h4.1,(Yb.1 hx).2] at h4;simp at h4
    . rw [BU,A0,c];constructor
      . rintro (h|⟨h1,h2⟩)
        . exact hg k h
        . rw [Rj h1] at h2;simp only [GU] at h2;exact ⟨h1,h2.1⟩
      . rintro ⟨h1,h2⟩;cases hm:HZ g i k with
        |true=>exact .inl (Yb.2 ⟨h1,hm⟩)
        |false=>exact .inr ⟨h1,by rw [Rj h1,h2,hm];rfl⟩
theorem zR (g:List (List Nat)):(∀ms∈Vb g,ms≠[])/\(Vb g).flatten.Nodup/\(∀k,k∈(Vb g).flatten↔k < g.length)/\(Vb g).length<=g.length+1:=by
 have hu:unm (AF g.length false) < g.length+1:=by
  have:=MW (fun b=>!b) (AF g.length false);simp only [unm,V8] at this ⊢;omega
 obtain ⟨a,b,c,d⟩:=dC (g:=g) (g.length+1) (AF g.length false) (by simp) hu (Cls.start g);refine ⟨a,b,fun k=>?_,d⟩;rw [Vb,c];exact ⟨fun h=>h.1,fun h=>⟨h,Ri (by simp [h])⟩⟩
theorem dP {p:Pg} (h:(K9 p).1=0):(∀ms∈JJ p,ms≠[])/\(JJ p).flatten.Nodup/\(∀k,k∈(JJ p).flatten↔k < p.Ev.length)/\(JJ p).length<=25:=by
 obtain ⟨a,b,c,d⟩:=zR (Hz p);have hl:(Hz p).length=p.Ev.length:=by unfold Hz;rw [if_pos h,AA]
 rw [hl] at c d;have:=(Ui h).1;exact ⟨a,b,c,by rw [JJ];omega⟩
end Go.Ab
namespace Go.Ab
open Go.Proofs
def RIN (σ:AI) (n:Nat) (F0:Fm) (L0:Nat->Nat->Lm) (F:Fm) (L:Lm) (τ:AI):Prop:=
 ∃js jn,JK [1,2,3,5,7] F=F0/\Hs [1,2,3,5,7] L=L0 js jn/\Mo σ τ/\σ.blk js=none/\σ.blk jn=none/\js≠jn/\τ.blk js=some (AF n [AV.d (.int .i64 0),.Ae,.d (.int .i64 0),.d (.int .i64 0),.Ae]).flatten/\τ.blk jn=some (AF n [AV.Ae]).flatten
theorem HI.start {dt:List Dat} {σ τ:AI} {n js jn:Nat} (hm:Mo σ τ) (h1:σ.blk js=none) (h2:σ.blk jn=none) (hne:js≠jn):HI dt σ ((τ.AP js (VW (AF n iW))).AP jn (ntC (AF n []))) n js jn (AF n iW,AF n []):=
 ⟨(hm.AOK h1 _).AOK h2 _,h1,h2,hne,by rw [AK,if_neg hne,AK,if_pos rfl],B0,by simp,by simp,fun s hs=>by
   rw [(List.mem_replicate.1 hs).2];exact ARW dt⟩
theorem O8 (p:Pg) (hsm:DSm p.data) (hz:W8 p.Ev<=200) (σ:AI):AT Tzp 8 [pgA p] σ (fun v σ'=>(v=QM (ID p)/\σ'=σ)/\∀dt r,H4 p= .ok dt->ID p= .ok r->∀f,f < p.Ev.length->rL p.Ev dt r f):=by
 have hsd:∀d∈p.data,KV d:=fun d hd c hc t ht=>by have:=(hsm d hd c hc).2 t ht;omega
 have hck:=fun σ=>YN p σ hsd;have hdat:=fun σ=>Zu p σ hsd;have hgr:=fun σ=>l7 p σ hsd;have hpf:=@AWL p;have hgf:=@dP p
 have hch0:∀e,H4 p= .error e->(K9 p).1≠0:=fun e he h0=>by
  obtain ⟨c,a,b⟩:=e;unfold K9 at h0;rw [he] at h0;exact XH he h0
 refine oS (by simp) ?_;rw [Bq];generalize hQ:(fun (v:AV) (σ':AI)=>(v=QM (ID p)/\σ'=σ)/\∀dt r,H4 p= .ok dt->ID p= .ok r->∀f,f < p.Ev.length->rL p.Ev dt r f)=Q
 have hQe:∀d,ID p= .error d->Q (QM (.error d)) σ:=fun d hd=>by
  rw [<- hQ];exact ⟨⟨by rw [hd],rfl⟩,fun dt r _ h=>by rw [hd] at h;cases h⟩
 have hQo:∀r,ID p= .ok r->(∀dt,H4 p= .ok dt->∀f,f < p.Ev.length->rL p.Ev dt r f)->Q (QM (.ok r)) σ:=fun r hr h=>by
  rw [<- hQ];exact ⟨⟨by rw [hr],rfl⟩,fun dt r' h1 h2=>by rw [hr] at h2;cases h2;exact h dt h1⟩
 clear hQ
 have hP:ID p=if (K9 p).1≠0 then .error (K9 p) else match H4 p with
  | .error d=>.error d
  | .ok dt=>match Hd p.Ev dt (JJ p) (AF p.Ev.length iW,AF p.Ev.length []) with
   | .error e=>.error (e.1,(e.2:Int),0)
   | .ok r=>.ok r:=rfl
 generalize ID p=res at *;generalize JJ p=gs at *;generalize hcp:K9 p=ck at *;generalize hdp:H4 p=dp at *;obtain ⟨ds,fs⟩:=p;simp only [pgA,Pg.enc,AD,AJ] at hck hdat hgr ⊢;obtain ⟨c1,c2,c3⟩:=ck;simp only [dgA] at hck;by_cases hc0:c1=0
 . subst hc0;cases dp with
   |error d=>exact absurd rfl (hch0 d rfl)
   |ok dt=>
    have hF:PF fs dt:=hpf rfl rfl hsm hz;simp only [ne_eq,not_true,if_false] at hP;simp only [dE,dsA,dgA] at hdat;(repeat' (first|refine ctQ rfl ?_|((first|refine rgQ mxQ ?_|refine cdQ ?_|refine AH.det (hck _) ?_|refine AH.det (hdat _) ?_|(refine A7 rfl (fun h=>?_) (fun h=>?_)<;>try (cases h;done)))<;>try simp only [go_sem])|(refine ⟨fun h=>?_,fun h=>?_⟩<;>first|(cases h;done)|try simp only [h])|fail));refine Run.eT mixed (RIN σ fs.length (put 1 (.lp 1 0) (put 2 (.lp 2 0) (put 3 (.lp 3 0) (put 5 (dsA dt) (put 7 (.lp 7 0) U))))) (fun js jn=>LI (.sl (ds.map DE.enc)) (.sl (fs.map FE.enc)) js jn fs.length)) ?_ ?_
    . have hlf:fs.length<=24:=hF.lf;simp only [AA,go_sem];refine ⟨?_,?_⟩<;>
      (refine PC.mo (P:=Tzp) fs.length (by omega) (by omega) (fun a τ1 ha m1 f1=>?_)
       simp only [go_sem];refine PC.mo (P:=Tzp) fs.length (by omega) (by omega) (fun b τ2 hb m2 f2=>?_);simp only [go_sem];have n1:=pJ f1 hb;have a2:=m2.blk _ _ f1;have hb0:=m1.ne hb;unfold RIN
       first
        |exact ⟨a,b,by simp only [dsA,go_sem],by simp only [go_sem],m1.trans m2,ha,hb0,n1,a2,f2⟩
        |exact ⟨b,a,by simp only [dsA,go_sem],by simp only [go_sem],m1.trans m2,hb0,ha,A9 n1,f2,a2⟩)
    . rintro F' L' τ ⟨js,jn,e1,e2,hm,h1,h2,hne,b1,b2⟩;rw [e1,e2];clear e1 e2 F' L';have hH:=HI.start (dt:=dt) (n:=fs.length) hm h1 h2 hne;refine Run.AHI (σ':=(τ.AP js (VW (AF fs.length iW))).AP jn (ntC (AF fs.length []))) (fun m cs' hc=>?_) (fun t ht=>ht) ?_
      . rw [AK] at hc;split at hc
        . rename_i e;subst e;cases hc;exact ⟨_,b2,.inr (ANO _).symm⟩
        . rw [AK] at hc;split at hc
          . rename_i e;subst e;cases hc;exact ⟨_,b1,.inr (AKI _).symm⟩
          . exact ⟨cs',hc,.inl rfl⟩
      generalize (τ.AP js (VW (AF fs.length iW))).AP jn (ntC (AF fs.length []))=τ1 at hH ⊢;obtain ⟨g1,g2,g3,g4⟩:=hgf rfl;simp only [Py] at hgr;(repeat' ((first|refine wQ mxQ rfl ?_|refine AH.det (hgr _) ?_|fail)<;>try simp only [AA,go_sem]));refine AEE fs ds dt hF gs (by omega) g1 g2 (fun f hf=>(g3 f).1 hf) σ js jn _ τ1 hH Q _ (fun e m τ' k' he hle=>?_) (fun r τ' a40 a41 a42 hr hH' hty=>?_)
      . have:=hQe (e,(m:Int),0) (by rw [hP,he]);refine Run.Bf Li (σ2:=σ) hle ?_;simp only [KU,go_sem];exact this
      . have hfin:=hQo r (by rw [hP,hr]) (fun dt' h' f hf=>by cases h';exact hty f ((g3 f).2 hf));rw [dsA];(repeat' (refine wQ mxQ rfl ?_<;>try simp only [go_sem]));exact AIX hH' hF.lf Q _ hfin
 . simp only [ne_eq,hc0,not_false_eq_true,if_true] at hP;have h0:(c1 != 0)=true:=by simpa using hc0
   have:=hQe _ hP;(repeat' (first|refine ctQ rfl ?_|((first|refine rgQ mxQ ?_|refine cdQ ?_|refine AH.det (hck _) ?_|(refine A7 rfl (fun h=>?_) (fun h=>?_)<;>try (cases h;done)))<;>try simp only [h0,go_sem])|(refine ⟨fun h=>?_,fun h=>?_⟩<;>first|(cases h;done)|try simp only [h])|fail));refine Run.Jf mixed ?_;simp only [go_sem];refine Run.Bf Li (σ2:=σ) (AI.le_refl _) ?_;simp only [KU,go_sem];exact this
end Go.Ab
namespace Go.Ab
open Go.Proofs
set_option maxRecDepth 100000
set_option maxHeartbeats 40000000
noncomputable section
noncomputable def I5:Cx:=⟨Tzp,10,Tryz.f10,94,[300008,300011,300016,300019,300024,300030,300036,300044,300050,300060,300066,300076,300082,300087],[],[.t 4]⟩
theorem Rd:Good I5:=⟨Tryz.func10,by kernel_rfl⟩
theorem bZ:I5.rs=[.t 4]:=rfl
noncomputable def Ll:=BO I5 [] fun c a b=>G c [a,b]
def N3:C:=lpC 0 (Ll .skip .skip)
def Wm:C:=lpC 1 (Ll N3 .skip)
def cV:C:=(Ll N3 Wm).1
theorem dS:Inn I5 cV 94:=inn [] Rd Tryz.ntmps10
noncomputable def JQ:Cx:=⟨Tzp,36,Tryz.f36,27,[],[],[.t 4]⟩
theorem T9:Good JQ:=⟨Tryz.func36,by kernel_rfl⟩
theorem eY:JQ.rs=[.t 4]:=rfl
noncomputable def Tq:=BO JQ [] fun c a=>G c [a]
def Yu:C:=lpC 0 (Tq .skip)
def fU:C:=(Tq Yu).1
theorem gS:Inn JQ fU 27:=inn [] T9 Tryz.ntmps36
noncomputable def KW:Cx:=⟨Tzp,37,Tryz.f37,24,[300006,300008,300012,300014,300019,300021],[],[.t 4]⟩
theorem Vc:Good KW:=⟨Tryz.func37,by kernel_rfl⟩
theorem iN:KW.rs=[.t 4]:=rfl
noncomputable def lA:=BO KW [] (G · [])
def kL:C:=(lA).1
theorem kW:Inn KW kL 24:=inn [] Vc Tryz.ntmps37
noncomputable def JP:Cx:=⟨Tzp,38,Tryz.f38,43,[],[],[.t 4]⟩
theorem T8:Good JP:=⟨Tryz.func38,by kernel_rfl⟩
theorem eX:JP.rs=[.t 4]:=rfl
noncomputable def Tp:=BO JP [] fun c a=>G c [a]
def Yt:C:=lpC 0 (Tp .skip)
def fT:C:=(Tp Yt).1
theorem gR:Inn JP fT 43:=inn [] T8 Tryz.ntmps38
attribute [go_sem] bZ eY iN eX
end
end Go.Ab
namespace Go.Ab
open Go.Proofs
def STr (t:Ty):Prop:=∀σ,AT Tzp 37 [tyA t,tyA t] σ (fun v σ'=>v= .d (.bool true)/\σ'=σ)
theorem cM (ts:List Ty) (hT:∀t∈ts,STr t) (σ:AI):AT Tzp 36 [.d (.sl (ts.map Ty.enc)),.d (.sl (ts.map Ty.enc))] σ (fun v σ'=>v= .d (.bool true)/\σ'=σ):=by
 refine gS (by simp) ?_;rw [BK];refine Run.slot 0 (fun hsl=>?_);simp only [CR,reduceIte,AV.DW,AA] at hsl;have hne:((ts.length:Int) != (ts.length:Int))=false:=by simp
 (repeat' (refine wQ mxQ rfl ?_<;>try simp only [AA,hne,go_sem]));refine Run.At ?_;refine Run.Au ((fun (a0:AV) (a1:AV) (a12:AV)=>fun (z:Nat)=>put 0 a0 (put 1 a1 (put 12 a12 (put 13 (.d (.int .i64 z)) U)))) _ _ _) (fun _=>E) (fun _=>σ) (fun z=>z<=ts.length) (fun z=>ts.length - z) ?_ 0 (by simp);intro p hp ih;by_cases hlt:p < ts.length
 . obtain ⟨t,ht⟩:=Ai hlt;have he:=Av (enc:=Ty.enc) ht;have hc:=hT t (AE ht) σ;have hw1:IntKind.i64.wrap ((p:Int)+1)=((p+1:Nat):Int):=by rw [Ax (by omega) (by omega)];omega
   obtain ⟨k,n,us⟩:=t;simp only [Ty.enc,tyA,AD,AJ] at he hc;(repeat' ((first|refine wQ mxQ rfl ?_|refine AH.det (hc) ?_|fail)<;>try simp only [Ag hlt,he,hw1,go_sem]));exact ih (p+1) hlt (by omega)
 . (repeat' ((first|refine wQ mxQ rfl ?_|refine Run.qP T9 ?_|fail)<;>try simp only [B5 hlt,go_sem]))
theorem rK:∀(N:Nat) (t:Ty),t.size<=N->STr t:=by
 intro N
 induction N with
 |zero=>intro t h;have:=AF0 t;omega
 |succ N ih=>
 rintro ⟨k,n,us⟩ hs σ;have hc:=cM us (fun u hu=>ih u (by have:=Ty.Yk hu;simp only [Ty.size] at hs;omega)) σ;refine kW (by simp) ?_;rw [BK];simp only [tyA,Ty.enc,Ty.C1,AD,AJ];have h1:(k==k)=true:=by simp
 have h2:(n==n)=true:=by simp
 (repeat' ((first|refine wQ mxQ rfl ?_|refine Run.qP Vc ?_|refine AH.det (hc) ?_|fail)<;>try simp only [h1,h2,go_sem]))
theorem Mz (t:Ty):STr t:=rK t.size t (AW _)
theorem Rh (ts:List Ty) (σ:AI):AT Tzp 36 [.d (.sl (ts.map Ty.enc)),.d (.sl (ts.map Ty.enc))] σ (fun v σ'=>v= .d (.bool true)/\σ'=σ):=cM ts (fun t _=>Mz t) σ
theorem eG (ns:List Nt) (σ:AI):AT Tzp 38 [.d (.sl (ns.map OD)),.d (.sl (ns.map OD))] σ (fun v σ'=>v= .d (.bool true)/\σ'=σ):=by
 refine gR (by simp) ?_;rw [BK];refine Run.slot 0 (fun hsl=>?_);simp only [CR,reduceIte,AV.DW,AA] at hsl;have hne:((ns.length:Int) != (ns.length:Int))=false:=by simp
 (repeat' (refine wQ mxQ rfl ?_<;>try simp only [AA,hne,go_sem]));refine Run.At ?_;refine Run.Au ((fun (a0:AV) (a1:AV) (a12:AV)=>fun (z:Nat)=>put 0 a0 (put 1 a1 (put 12 a12 (put 13 (.d (.int .i64 z)) U)))) _ _ _) (fun _=>E) (fun _=>σ) (fun z=>z<=ns.length) (fun z=>ns.length - z) ?_ 0 (by simp);intro p hp ih;by_cases hlt:p < ns.length
 . obtain ⟨t,ht⟩:=Ai hlt;have he:=Av (enc:=OD) ht;have hw1:IntKind.i64.wrap ((p:Int)+1)=((p+1:Nat):Int):=by rw [Ax (by omega) (by omega)];omega
   obtain ⟨t,zs⟩:=t;have hc:=Mz t σ;have hc2:=Rh zs σ;obtain ⟨k,n,us⟩:=t;simp only [OD,Ty.enc,tyA,AD,AJ,AZ,As] at he hc;(repeat' ((first|refine wQ mxQ rfl ?_|refine AH.det (hc) ?_|refine AH.det (hc2) ?_|fail)<;>try simp only [Ag hlt,he,hw1,go_sem]));exact ih (p+1) hlt (by omega)
 . (repeat' ((first|refine wQ mxQ rfl ?_|refine Run.qP T8 ?_|fail)<;>try simp only [B5 hlt,go_sem]))
def tyR (r:JH):AV:= .agg [.d (.sl (r.1.map MB)),.d (.sl (r.2.map Z0))]
theorem QV (r:JH) (σ:AI):AT Tzp 10 [tyR r,tyR r] σ (fun v σ'=>v= .d (.bool true)/\σ'=σ):=by
 refine dS (by simp) ?_;rw [BK];obtain ⟨ss,ns⟩:=r;simp only [tyR];refine Run.slot 0 (fun _=>?_);have hne1:((ss.length:Int) != (ss.length:Int))=false:=by simp
 have hne2:((ns.length:Int) != (ns.length:Int))=false:=by simp
 (repeat' (refine wQ mxQ rfl ?_<;>try simp only [AA,hne1,hne2,go_sem]));refine Run.cell 2 0 (cs:=[.d (.sl (ss.map MB)),.d (.sl (ns.map Z0))]) (c:= .d (.sl (ss.map MB))) (by simp only [go_sem]) rfl (fun hs1=>?_);refine Run.cell 2 1 (cs:=[.d (.sl (ss.map MB)),.d (.sl (ns.map Z0))]) (c:= .d (.sl (ns.map Z0))) (by simp only [go_sem]) rfl (fun hs2=>?_);simp only [AV.DW,AA] at hs1 hs2;refine Run.At ?_;refine Run.Au ((fun (a2:AV) (a3:AV) (a25:AV)=>fun (z:Nat)=>put 2 a2 (put 3 a3 (put 25 a25 (put 26 (.d (.int .i64 z)) U)))) _ _ _) (fun _=>Am 2 [.d (.sl (ss.map MB)),.d (.sl (ns.map Z0))] (Am 3 [.d (.sl (ss.map MB)),.d (.sl (ns.map Z0))] E)) (fun _=>σ) (fun z=>z<=ss.length) (fun z=>ss.length - z) ?_ 0 (by simp);intro p hp ih;by_cases hlt:p < ss.length
 . obtain ⟨t,ht⟩:=Ai hlt;have he:=Av (enc:=MB) ht;have hw1:IntKind.i64.wrap ((p:Int)+1)=((p+1:Nat):Int):=by rw [Ax (by omega) (by omega)];omega
   obtain ⟨vs,ps,rs⟩:=t;have hc:=Mz rs σ;have hc2:=Rh ps σ;obtain ⟨k,n,us⟩:=rs;have hv:(vs != vs)=false:=by simp
   simp only [MB,Ty.kind,Ty.num,Ty.args,Ty.enc,Ty.C1,tyA,AD,AJ] at he hc;(repeat' ((first|refine wQ mxQ rfl ?_|refine AH.det (hc) ?_|refine AH.det (hc2) ?_|fail)<;>try simp only [Ag hlt,he,hw1,hv,go_sem]));exact ih (p+1) hlt (by omega)
 . clear ih;(repeat' (refine wQ mxQ rfl ?_<;>try simp only [B5 hlt,AA,go_sem]));refine Run.At ?_;refine Run.Au ((fun (a2:AV) (a3:AV) (a77:AV)=>fun (z:Nat)=>put 2 a2 (put 3 a3 (put 77 a77 (put 78 (.d (.int .i64 z)) U)))) _ _ _) (fun _=>Am 2 [.d (.sl (ss.map MB)),.d (.sl (ns.map Z0))] (Am 3 [.d (.sl (ss.map MB)),.d (.sl (ns.map Z0))] E)) (fun _=>σ) (fun z=>z<=ns.length) (fun z=>ns.length - z) ?_ 0 (by simp);intro q hq ih;by_cases hlt2:q < ns.length
   . obtain ⟨t,ht⟩:=Ai hlt2;have he:=Av (enc:=Z0) ht;have hw1:IntKind.i64.wrap ((q:Int)+1)=((q+1:Nat):Int):=by rw [Ax (by omega) (by omega)];omega
     have hc:=eG t σ;simp only [Z0] at he;(repeat' ((first|refine wQ mxQ rfl ?_|refine AH.det (hc) ?_|fail)<;>try simp only [Ag hlt2,he,hw1,go_sem]));exact ih (q+1) hlt2 (by omega)
   . (repeat' ((first|refine wQ mxQ rfl ?_|refine Run.qP Rd ?_|fail)<;>try simp only [B5 hlt2,go_sem]))
end Go.Ab
namespace Go.Ab
mutual
def Ex.vg:Ex->Prop
 | .mk o n _ _ ks al=>(o=4->n≠[])/\Ex.vgs ks/\Al.vgs al
def Ex.vgs:List Ex->Prop
 |[]=>True
 |k::l=>Ex.vg k/\Ex.vgs l
def Al.vg:Al->Prop
 | .mk _ _ b=>Ex.vg b
def Al.vgs:List Al->Prop
 |[]=>True
 |a::l=>Al.vg a/\Al.vgs l
end
mutual
theorem AF6:∀(e:Ex) (sc:List Str),(∀x∈Bj e sc,Oj x.1)->e.vg
 | .mk o n u ns ks al,sc,h=>by
  rw [Bj] at h;rw [Ex.vg];refine ⟨(h _ (AS)).1,AHH o n ns sc 0 ks (fun x hx=>h x (AR _ (Cv _ hx))),zA sc al (fun x hx=>h x (AR _ (Hu _ hx)))⟩
theorem AHH (o:Int) (n:Str) (ns sc:List Str):∀(i:Nat) (l:List Ex),(∀x∈Bn o n ns sc i l,Oj x.1)->Ex.vgs l
 |i,[],_=>by rw [Ex.vgs];trivial
 |i,k::l,h=>by
  rw [Bn] at h;rw [Ex.vgs];exact ⟨AF6 k _ fun x hx=>h x (Cv _ hx),AHH o n ns sc (i+1) l fun x hx=>h x (Hu _ hx)⟩
theorem APQ:∀(a:Al) (sc:List Str),(∀x∈VI a sc,Oj x.1)->a.vg
 | .mk c vs b,sc,h=>by
  rw [VI] at h;rw [Al.vg];exact AF6 b _ h
theorem zA (sc:List Str):∀l:List Al,(∀x∈CD sc l,Oj x.1)->Al.vgs l
 |[],_=>by rw [Al.vgs];trivial
 |a::l,h=>by
  rw [CD] at h;rw [Al.vgs];exact ⟨APQ a sc fun x hx=>h x (Cv _ hx),zA sc l fun x hx=>h x (Hu _ hx)⟩
end
def dH (env:Env):Env:=env.map fun x=>(DO x.1,x.2)
def GC.ren (G:GC):GC:= { G with fs:=G.fs.map FE.ren}
theorem uW (s:Str):∀env:Env,Lr (dH env) (DO s)=Lr env s
 |[]=>rfl
 |x::env=>by
  have ih:=uW s env;simp only [dH,AD,Lr] at ih ⊢;by_cases h:x.1=s
  . rw [if_pos h,if_pos (by rw [h])]
  . rw [if_neg h,if_neg (fun e=>h (AB9 e)),ih]
theorem Pl:∀(ns:List Str) (ts:List Nat) (env:Env),CN (dH env) (ns.map DO) ts=dH (CN env ns ts)
 |[],ts,env=>by simp [CN]
 |s::ns,[],env=>by simp [CN]
 |s::ns,t::ts,env=>by
  rw [AD,CN,CN,<- Pl ns ts];by_cases h:s=[]
  . rw [if_pos h,if_pos (YP.2 h)]
  . rw [if_neg h,if_neg (fun e=>h (YP.1 e))];rfl
theorem rE (n:Str) (t:Nat) (env:Env):CN (dH env) [DO n] [t]=dH (CN env [n] [t]):=Pl [n] [t] env
theorem AO8 (G:GC) (env:Env) {nm:Str} (h:nm≠[]) (at_:Nat) (g:GS):W9 G.ren (dH env) (DO nm) at_ g=W9 G env nm at_ g:=by
 unfold W9;rw [uW,show G.ren.fs=G.fs.map FE.ren from rfl,dX G.fs h];rfl
theorem APY:∀a:Al,a.ren.con=a.con
 | .mk c vs b=>by rw [Al.ren];rfl
mutual
theorem T5 (G:GC):∀(e:Ex) (env:Env) (g:GS),e.vg->Bg G.ren e.ren (dH env) g=Bg G e env g
 | .mk o nm nu ns ks al,env,g,h=>by
  rw [Ex.vg] at h;obtain ⟨h1,h2,h3⟩:=h;have e0:=fun env g=>uO G ks env g h2;have e1:=fun env g=>uP G ks env g h2;have e2:=fun env g=>AJB G ks env g h2;have es:=fun env g=>nY G ks env g h2;have ek:=fun env i f g=>uQ G ks env i f g h2;have ea:=fun env D ar t g=>tJ G al env D ar t g h3;rw [Ex.ren,nX,nX];refine congrArg (fun r:Nat×GS=>(r.1,r.2.Sx g.en.length fun e=> { e with t:=r.1})) ?_;generalize (⟨g.s,g.en++[⟨0,-1,[]⟩]⟩:GS)=g1;generalize g.en.length=k0;unfold AAC;by_cases h:o=4
  . rw [if_pos h,if_pos h,if_neg (by omega)];exact AO8 G env (h1 h) _ _
  rw [if_neg h,if_neg h];clear h;by_cases h:o=1\/o=2\/o=3\/o=15
  . rw [if_pos h,if_pos h]
  rw [if_neg h,if_neg h];clear h;by_cases h:o=5
  . rw [if_pos h,if_pos h];simp only [es]
  rw [if_neg h,if_neg h];clear h;by_cases h6:o=6
  . rw [if_pos h6,if_pos h6,if_pos h6,show G.ren.dt=G.dt from rfl];cases EV G.dt nm with
    |none=>rfl
    |some x=>
     obtain ⟨d,c⟩:=x;simp only;cases G.dt[d]? with
     |none=>rfl
     |some D=>simp only [ek]
  rw [if_neg h6,if_neg h6,if_neg h6];by_cases h:o=10
  . rw [if_pos h,if_pos h];cases al with
    |nil=>rfl
    |cons a al=>
     rw [show G.ren.dt=G.dt from rfl];rw [Al.Fl] at ea ⊢;simp only [APY];cases EV G.dt a.con with
     |none=>rfl
     |some x=>
      obtain ⟨d,c⟩:=x;simp only;cases G.dt[d]? with
      |none=>rfl
      |some D=>simp only [e0,ea]
  rw [if_neg h,if_neg h];clear h;by_cases h:o=12
  . rw [if_pos h,if_pos h];simp only [es]
  rw [if_neg h,if_neg h];clear h;by_cases h:o=13
  . rw [if_pos h,if_pos h];simp only [ek]
  rw [if_neg h,if_neg h];clear h;by_cases h:o=14
  . rw [if_pos h,if_pos h];simp only [ek]
  rw [if_neg h,if_neg h];clear h;by_cases h:o=16
  . rw [if_pos h,if_pos h];simp only [e0]
  rw [if_neg h,if_neg h];clear h;by_cases h:o=7
  . rw [if_pos h,if_pos h];simp only [e0,rE,e1]
  rw [if_neg h,if_neg h];clear h;by_cases h:o=8
  . rw [if_pos h,if_pos h];simp only [AA,e0,Pl,e1]
  rw [if_neg h,if_neg h];clear h;by_cases h:o=9
  . rw [if_pos h,if_pos h];simp only [e0,e1,e2]
  rw [if_neg h,if_neg h];clear h;by_cases h:o=11
  . rw [if_pos h,if_pos h];simp only [AA,Pl,e0]
  rw [if_neg h,if_neg h];simp only [e0,rE,e1]
theorem nY (G:GC):∀(l:List Ex) (env:Env) (g:GS),Ex.vgs l->CO G.ren (Ex.Fl l) (dH env) g=CO G l env g
 |[],env,g,_=>by rw [Ex.Fl,CO,CO]
 |k::l,env,g,h=>by
  rw [Ex.vgs] at h;rw [Ex.Fl,CO,CO,T5 G k env g h.1];rw [nY G l env _ h.2]
theorem uO (G:GC):∀(l:List Ex) (env:Env) (g:GS),Ex.vgs l->Gw G.ren (Ex.Fl l) (dH env) g=Gw G l env g
 |[],env,g,_=>by rw [Ex.Fl,Gw,Gw]
 |k::l,env,g,h=>by
  rw [Ex.vgs] at h;rw [Ex.Fl,Gw,Gw,T5 G k env g h.1]
theorem uP (G:GC):∀(l:List Ex) (env:Env) (g:GS),Ex.vgs l->Lq G.ren (Ex.Fl l) (dH env) g=Lq G l env g
 |[],env,g,_=>by rw [Ex.Fl,Lq,Lq]
 |k::l,env,g,h=>by
  rw [Ex.vgs] at h;rw [Ex.Fl,Lq,Lq,uO G l env g h.2]
theorem AJB (G:GC):∀(l:List Ex) (env:Env) (g:GS),Ex.vgs l->Vk G.ren (Ex.Fl l) (dH env) g=Vk G l env g
 |[],env,g,_=>by rw [Ex.Fl,Vk,Vk]
 |k::l,env,g,h=>by
  rw [Ex.vgs] at h;rw [Ex.Fl,Vk,Vk,uP G l env g h.2]
theorem uQ (G:GC):∀(l:List Ex) (env:Env) (i:Nat) (f:Nat->Nat->SS->SS) (g:GS),Ex.vgs l->DC G.ren (Ex.Fl l) (dH env) i f g=DC G l env i f g
 |[],env,i,f,g,_=>by rw [Ex.Fl,DC,DC]
 |k::l,env,i,f,g,h=>by
  rw [Ex.vgs] at h;rw [Ex.Fl,DC,DC,T5 G k env g h.1];rw [uQ G l env _ _ _ h.2]
theorem tJ (G:GC):∀(l:List Al) (env:Env) (D:Dat) (ar:List Nat) (t:Nat) (g:GS),Al.vgs l->M3 G.ren (Al.Fl l) (dH env) D ar t g=M3 G l env D ar t g
 |[],env,D,ar,t,g,_=>by rw [Al.Fl,M3,M3]
 | .mk c vs b::l,env,D,ar,t,g,h=>by
  rw [Al.vgs,Al.vg] at h;rw [Al.Fl,Al.ren,M3,M3,show G.ren.dt=G.dt from rfl];rw [Pl,T5 G b _ _ h.1];rw [tJ G l env D ar t _ h.2]
end
end Go.Ab
namespace Go.Ab
theorem ANS (fs:List FE) (f:Nat):Xu (fs.map FE.ren) f=Xu fs f:=by
 unfold Xu;rw [Aj];cases fs[f]? with
 |none=>rfl
 |some x=>simp [FE.ren]
theorem AQ9 (fs:List FE):ngS (fs.map FE.ren)=ngS fs:=by
 funext s f;simp only [ngS,ANS]
theorem AGY (fs:List FE) (ms:List Nat):ngP (fs.map FE.ren) ms=ngP fs ms:=by
 unfold ngP;rw [AQ9,AA]
theorem AQQ (fs:List FE) (dt:List Dat) (sch:List Sch) (ms:List Nat):gcP (fs.map FE.ren) dt sch ms=(gcP fs dt sch ms).ren:=by
 unfold gcP GC.ren;rw [AGY]
theorem AMM (G:GC) (fe:FE) (pl:List Nat) (rf:Nat) (s:SS) (h:fe.body.vg):SZ G.ren fe.ren pl rf s=SZ G fe pl rf s:=by
 unfold SZ;have h1:=T5 G fe.body (CN [] fe.params pl) ⟨s,[]⟩ h;rw [<- Pl] at h1;exact congrArg (fun r:Nat×GS=>r.2.uni r.1 rf) h1
theorem AQS (G:GC) (hv:∀f∈G.fs,f.body.vg) (st:IG) (f:Nat):igF G.ren st f=igF G st f:=by
 unfold igF;rw [show G.ren.fs=G.fs.map FE.ren from rfl,Aj];cases h:G.fs[f]? with
 |none=>rfl
 |some fe=>
  simp only [Ah];rw [show G.ren.ps=G.ps from rfl,show G.ren.rs=G.rs from rfl,AMM G fe _ _ _ (hv fe (AE h))]
theorem uI {α β:Type} {f g:β->α->β} (h:∀b a,f b a=g b a):∀(l:List α) (b:β),l.foldl f b=l.foldl g b
 |[],b=>rfl
 |a::l,b=>by rw [Ao,Ao,h,uI h l]
theorem AKR (fs:List FE) (hv:∀f∈fs,f.body.vg) (dt:List Dat) (r:JH) (ms:List Nat):UN (fs.map FE.ren) dt r ms=UN fs dt r ms:=by
 unfold UN;rw [AQQ];have h0:ig0 (fs.map FE.ren) ms=ig0 fs ms:=by unfold ig0;rw [AGY,AA]
 rw [h0];simp only;rw [uI (AQS (gcP fs dt r.1 ms) hv)];rfl
theorem jR (fs:List FE) (hv:∀f∈fs,f.body.vg) (dt:List Dat):∀(gs:List (List Nat)) (r:JH),Hd (fs.map FE.ren) dt gs r=Hd fs dt gs r
 |[],r=>rfl
 |ms::gs,r=>by
  rw [Hd,Hd,AKR fs hv];cases UN fs dt r ms with
  |error e=>rfl
  |ok r'=>exact jR fs hv dt gs r'
theorem AEF {p:Pg} (h:Cl p=true) (hs:p.sh 23):ID p.ren=ID p:=by
 unfold ID;rw [zP h hs,uA h hs];have hg:JJ p.ren=JJ p:=by unfold JJ;rw [ADD h hs]
 rw [hg,show p.ren.Ev=p.Ev.map FE.ren from rfl];have hv:∀f∈p.Ev,f.body.vg:=fun f hf=>AF6 f.body f.params (((JB h).2 f hf).2.2 _);simp only [AA,jR p.Ev hv]
end Go.Ab
namespace Go.Ab
open Go.Proofs
def lgS (n:Nat) (l:List Str):Nat:=l.foldl (fun n s=>max n s.length) n
mutual
def lgT:TE->Nat
 | .mk _ n l=>pA n.length l
def pA (n:Nat):List TE->Nat
 |[]=>n
 |t::l=>pA (max n (lgT t)) l
end
mutual
def lgE:Ex->Nat
 | .mk _ n _ ns ks al=>o8 (lK (max n.length (lgS 0 ns)) ks) al
def lK (n:Nat):List Ex->Nat
 |[]=>n
 |t::l=>lK (max n (lgE t)) l
def lgA:Al->Nat
 | .mk _ vs b=>max (lgS 0 vs) (lgE b)
def o8 (n:Nat):List Al->Nat
 |[]=>n
 |t::l=>o8 (max n (lgA t)) l
end
theorem AM2 (n:Nat) (l:List Str) (s:Str):lgS n (l++[s])=max (lgS n l) s.length:=by simp [lgS]
theorem uU (t:TE):∀(l:List TE) (n:Nat),pA n (l++[t])=max (pA n l) (lgT t)
 |[],n=>by simp [pA]
 |u::l,n=>by simp [pA,uU t l]
theorem uT (t:Ex):∀(l:List Ex) (n:Nat),lK n (l++[t])=max (lK n l) (lgE t)
 |[],n=>by simp [lK]
 |u::l,n=>by simp [lK,uT t l]
theorem uS (t:Al):∀(l:List Al) (n:Nat),o8 n (l++[t])=max (o8 n l) (lgA t)
 |[],n=>by simp [o8]
 |u::l,n=>by simp [o8,uS t l]
theorem o9 {m:Nat}:∀ {l:List Str} {n:Nat},lgS n l<=m↔n<=m/\tB m l
 |[],n=>by simp [lgS,tB]
 |s::l,n=>by
  rw [show lgS n (s::l)=lgS (max n s.length) l from rfl,o9 (l:=l)];simp [tB,Nat.max_le,and_assoc]
mutual
theorem AER {m:Nat}:∀ {t:TE},lgT t<=m↔t.sh m
 | .mk k n l=>by rw [lgT,TE.sh,AGV]
theorem AGV {m:Nat}:∀ {l:List TE} {n:Nat},pA n l<=m↔n<=m/\TE.shs m l
 |[],n=>by simp [pA,TE.shs]
 |t::l,n=>by rw [pA,AGV (l:=l),TE.shs,<- AER (t:=t),Nat.max_le,and_assoc]
end
mutual
theorem AEQ {m:Nat}:∀ {t:Ex},lgE t<=m↔t.sh m
 | .mk o n u ns ks al=>by
  rw [lgE,Ex.sh,AGT,AGU,Nat.max_le,o9];simp [and_assoc]
theorem AGU {m:Nat}:∀ {l:List Ex} {n:Nat},lK n l<=m↔n<=m/\Ex.shs m l
 |[],n=>by simp [lK,Ex.shs]
 |t::l,n=>by rw [lK,AGU (l:=l),Ex.shs,<- AEQ (t:=t),Nat.max_le,and_assoc]
theorem AT9 {m:Nat}:∀ {t:Al},lgA t<=m↔t.sh m
 | .mk c vs b=>by rw [lgA,Al.sh,Nat.max_le,o9,AEQ (t:=b)];simp
theorem AGT {m:Nat}:∀ {l:List Al} {n:Nat},o8 n l<=m↔n<=m/\Al.shs m l
 |[],n=>by simp [o8,Al.shs]
 |t::l,n=>by rw [o8,AGT (l:=l),Al.shs,<- AT9 (t:=t),Nat.max_le,and_assoc]
end
theorem pF (a b:Nat):mmA true (.d (.int .i64 (a:Int))) (.d (.int .i64 (b:Int)))=some (.d (.int .i64 ((max a b:Nat):Int))):=by
 simp only [mmA];simp [Int.max_def,Nat.max_def];split<;>split<;>first|rfl|omega
theorem Vj (l:List Str) (σ:AI):AT Tzp 21 [.d (.sl (l.map BF))] σ (fun v σ'=>v= .d (.int .i64 (lgS 0 l:Nat))/\σ'=σ):=by
 refine oJ (by simp) ?_;rw [Bq];refine Run.slot 0 (fun hb0=>?_);simp only [CR,if_true,AV.DW,AA] at hb0;(repeat' (refine wQ mxQ rfl ?_<;>try simp only [AA,go_sem]));refine Run.At ?_;refine Run.Au ((fun (a6:AV) (a7:AV)=>fun (i:Nat)=>put 3 (.d (.int .i64 (lgS 0 (l.take i):Nat))) (put 6 a6 (put 7 a7 (put 8 (.d (.int .i64 i)) U)))) _ _) (fun _=>E) (fun _=>σ) (fun i=>i<=l.length) (fun i=>l.length - i) ?_ 0 (by simp)|>(fun h=>by simpa [lgS] using h)
 rintro i hi ih;by_cases hlt:i < l.length
 . obtain ⟨x,hx⟩:=Ai hlt;have he:=Av (enc:=BF) hx;simp only [BF] at he;have hw1:IntKind.i64.wrap ((i:Int)+1)=((i+1:Nat):Int):=by rw [Ax (by omega) (by omega)];omega
   have:=ih (i+1) (by omega) (by omega);simp only at this;rw [Aa hx,AM2] at this;(repeat' (refine wQ mxQ rfl ?_<;>try simp only [Ag hlt,he,hw1,pF,go_sem]));exact this
 . (repeat' ((first|refine wQ mxQ rfl ?_|refine Run.qP XV ?_|fail)<;>try simp only [B5 hlt,go_sem]));rw [AM (by omega)];rfl
theorem hX:∀(N:Nat) (t:TE) (σ:AI),t.size<=N->AT Tzp 22 [teA t] σ (fun v σ'=>v= .d (.int .i64 (lgT t:Nat))/\σ'=σ):=by
 intro N
 induction N with
 |zero=>intro t σ h;have:=TE.size_pos t;omega
 |succ N ihN=>
 rintro ⟨k,n,l⟩ σ hN;simp only [TE.size] at hN;refine kX (by simp) ?_;rw [Bq,teA,TE.A2,lgT];simp only [AD,AJ];(repeat' (refine wQ mxQ rfl ?_<;>try simp only [AA,go_sem]));refine Run.slot 10 (fun hb0=>?_);simp only [CR,C4,if_false,if_true,AV.DW,AA] at hb0;refine Run.At ?_;refine Run.Au ((fun (a10:AV) (a11:AV)=>fun (i:Nat)=>put 3 (.d (.int .i64 (pA n.length (l.take i):Nat))) (put 10 a10 (put 11 a11 (put 12 (.d (.int .i64 i)) U)))) _ _) (fun _=>E) (fun _=>σ) (fun i=>i<=l.length) (fun i=>l.length - i) ?_ 0 (by simp)|>(fun h=>by simpa [pA] using h)
 rintro i hi ih;by_cases hlt:i < l.length
 . obtain ⟨x,hx⟩:=Ai hlt;have he:=Av (enc:=TE.enc) hx;have hw1:IntKind.i64.wrap ((i:Int)+1)=((i+1:Nat):Int):=by rw [Ax (by omega) (by omega)];omega
   have hxs:=TE.Fj (AE hx);have hc:=ihN x σ (by omega);have:=ih (i+1) (by omega) (by omega);simp only at this;rw [Aa hx,uU] at this;obtain ⟨xk,xn,xl⟩:=x;simp only [teA,TE.A2,AD,AJ] at he hc;(repeat' ((first|refine wQ mxQ rfl ?_|refine AH.det (hc) ?_|fail)<;>try simp only [Ag hlt,he,hw1,pF,go_sem]));exact this
 . (repeat' ((first|refine wQ mxQ rfl ?_|refine Run.qP Vd ?_|fail)<;>try simp only [B5 hlt,go_sem]));rw [AM (by omega)]
theorem xC:∀(N:Nat) (e:Ex) (σ:AI),e.size<=N->AT Tzp 23 [exA e] σ (fun v σ'=>v= .d (.int .i64 (lgE e:Nat))/\σ'=σ):=by
 intro N
 induction N with
 |zero=>intro t σ h;have:=Ex.size_pos t;omega
 |succ N ihN=>
 rintro ⟨o,n,u,ns,ks,al⟩ σ hN;simp only [Ex.size] at hN;have hln:=fun l=>Vj l σ;have hns:=hln ns;refine AAN (by simp) ?_;rw [Bq,exA,Ex.A2,lgE];simp only [AD,AJ];(repeat' ((first|refine wQ mxQ rfl ?_|refine AH.det (hns) ?_|fail)<;>try simp only [pF,AA,go_sem]));refine Run.slot 16 (fun hb0=>?_);simp only [CR,C4,if_false,if_true,AV.DW,AA] at hb0;refine Run.At ?_;refine Run.Au ((fun (a1:AV) (a16:AV) (a17:AV)=>fun (i:Nat)=>put 1 a1 (put 3 (.d (.int .i64 (lK (max n.length (lgS 0 ns)) (ks.take i):Nat))) (put 16 a16 (put 17 a17 (put 18 (.d (.int .i64 i)) U))))) _ _ _) (fun _=>Am 1 [.d (.int .i64 o),.d (.str n),.d (.int .i64 u),.d (.sl (ns.map BF)),.d (.sl (ks.map Ex.enc)),.d (.sl (al.map Al.enc))] E) (fun _=>σ) (fun i=>i<=ks.length) (fun i=>ks.length - i) ?_ 0 (by simp)|>(fun h=>by simpa [lK] using h)
 rintro i hi ih;by_cases hlt:i < ks.length
 . obtain ⟨x,hx⟩:=Ai hlt;have he:=Av (enc:=Ex.enc) hx;have hw1:IntKind.i64.wrap ((i:Int)+1)=((i+1:Nat):Int):=by rw [Ax (by omega) (by omega)];omega
   have hxs:=Ex.Fj (AE hx);have hc:=ihN x σ (by omega);have:=ih (i+1) (by omega) (by omega);simp only at this;rw [Aa hx,uT] at this;obtain ⟨xo,xn,xu,xns,xks,xal⟩:=x;simp only [exA,Ex.A2,AD,AJ] at he hc;(repeat' ((first|refine wQ mxQ rfl ?_|refine AH.det (hc) ?_|fail)<;>try simp only [Ag hlt,he,hw1,pF,go_sem]));exact this
 . clear ih;have htk:Ek i ks=ks:=AM (by omega);(repeat' (refine wQ mxQ rfl ?_<;>try simp only [B5 hlt,htk,AA,go_sem]));refine Run.slot 28 (fun hb1=>?_);simp only [CR,C4,if_false,if_true,AV.DW,AA] at hb1;refine Run.At ?_;refine Run.Au ((fun (a28:AV) (a29:AV)=>fun (i:Nat)=>put 3 (.d (.int .i64 (o8 (lK (max n.length (lgS 0 ns)) ks) (al.take i):Nat))) (put 28 a28 (put 29 a29 (put 30 (.d (.int .i64 i)) U)))) _ _) (fun _=>E) (fun _=>σ) (fun i=>i<=al.length) (fun i=>al.length - i) ?_ 0 (by simp)|>(fun h=>by simpa [o8] using h)
   rintro i hi ih;by_cases hlt:i < al.length
   . obtain ⟨x,hx⟩:=Ai hlt;have he:=Av (enc:=Al.enc) hx;have hw1:IntKind.i64.wrap ((i:Int)+1)=((i+1:Nat):Int):=by rw [Ax (by omega) (by omega)];omega
     have hxs:=Al.Fj (AE hx);have:=ih (i+1) (by omega) (by omega);simp only at this;rw [Aa hx,uS] at this;obtain ⟨xc,xvs,xb⟩:=x;rw [Al.size] at hxs;rw [lgA,<- Nat.max_assoc] at this;have hc:=ihN xb σ (by omega);have hvs:=hln xvs;obtain ⟨xo,xn,xu,xns,xks,xal⟩:=xb;simp only [exA,Al.A2,Ex.A2,AD,AJ] at he hc;(repeat' ((first|refine wQ mxQ rfl ?_|refine AH.det (hc) ?_|refine AH.det (hvs) ?_|fail)<;>try simp only [Ag hlt,he,hw1,pF,go_sem]));exact this
   . (repeat' ((first|refine wQ mxQ rfl ?_|refine Run.qP jP ?_|fail)<;>try simp only [B5 hlt,go_sem]));rw [AM (by omega)]
end Go.Ab
namespace Go.Ab
open Go.Proofs
theorem AAJ (m n:Nat):decide ((m:Int) < (n:Int))=decide (m < n):=decide_eq_decide.2 (by omega)
theorem xA (p:Pg) (m:Nat) (σ:AI):AT Tzp 7 [pgA p,.d (.int .i64 m)] σ (fun v σ'=>∃b,(v= .d (.bool b)/\σ'=σ)/\(b=false->p.sh m)):=by
 refine AAK (by simp) ?_;rw [BK];obtain ⟨ds,fs⟩:=p;simp only [pgA,Pg.enc,AD,AJ];generalize hQ:(fun (v:AV) (σ':AI)=>∃b,(v= .d (.bool b)/\σ'=σ)/\(b=false->Pg.sh m ⟨ds,fs⟩))=Q;have hno:Q (.d (.bool true)) σ:=by rw [<- hQ];exact ⟨true,⟨rfl,rfl⟩,fun h=>by cases h⟩
 have hyes:Pg.sh m ⟨ds,fs⟩->Q (.d (.bool false)) σ:=fun h=>by rw [<- hQ];exact ⟨false,⟨rfl,rfl⟩,fun _=>h⟩
 clear hQ;have hls:=fun l=>Vj l σ;have hlt':=fun t=>hX _ t σ (AW _);have hle':=fun t=>xC _ t σ (AW _);(repeat' (refine wQ mxQ rfl ?_<;>try simp only [AA,go_sem]));refine Run.slot 14 (fun hb0=>?_);simp only [CR,C4,if_false,if_true,AV.DW,AA] at hb0;refine Run.At ?_
 refine Run.Au ((fun (a1:AV) (a2:AV) (a14:AV) (a15:AV)=>fun (i:Nat)=>put 1 a1 (put 2 a2 (put 14 a14 (put 15 a15 (put 16 (.d (.int .i64 i)) U))))) _ _ _ _) (fun _=>Am 2 [.d (.sl (ds.map DE.enc)),.d (.sl (fs.map FE.enc))] E) (fun _=>σ)
  (fun i=>i<=ds.length/\∀d∈ds.take i,d.sh m) (fun i=>ds.length - i) ?_ 0 ⟨by simp,by simp⟩
 rintro i ⟨hi,hsm⟩ ih;by_cases hlt:i < ds.length
 . obtain ⟨d,hd⟩:=Ai hlt;have he:=Av (enc:=DE.enc) hd;have hw1:IntKind.i64.wrap ((i:Int)+1)=((i+1:Nat):Int):=by rw [Ax (by omega) (by omega)];omega
   have hms:=fun hp=>DX (p:=DE.sh m) hsm hd hp;obtain ⟨dn,dvs',dcs⟩:=d;simp only [DE.enc] at he;have hnm:=hls dvs';by_cases h40:m < lgS 0 dvs'
   . (repeat' ((first|refine wQ mxQ rfl ?_|refine Run.qR Ie ?_|refine AH.det (hnm) ?_|fail)<;>try simp only [Ag hlt,he,AAJ,decide_eq_true h40,AA,go_sem]));exact hno
   (repeat' ((first|refine wQ mxQ rfl ?_|refine AH.det (hnm) ?_|fail)<;>try simp only [Ag hlt,he,AAJ,decide_eq_false h40,AA,go_sem]));refine Run.slot 26 (fun hb1=>?_);simp only [CR,C4,if_false,if_true,AV.DW,AA] at hb1;refine Run.At ?_
   refine Run.Au ((fun (a1:AV) (a2:AV) (a14:AV) (a15:AV) (a16:AV) (a26:AV) (a27:AV)=>fun (i:Nat)=>put 1 a1 (put 2 a2 (put 14 a14 (put 15 a15 (put 16 a16 (put 26 a26 (put 27 a27 (put 28 (.d (.int .i64 i)) U)))))))) _ _ _ _ _ _ _) (fun _=>Am 2 [.d (.sl (ds.map DE.enc)),.d (.sl (fs.map FE.enc))] E) (fun _=>σ)
    (fun i=>i<=dcs.length/\∀d∈dcs.take i,∀t∈d.args,t.sh m) (fun i=>dcs.length - i) ?_ 0 ⟨by simp,by simp⟩
   rintro i1 ⟨hi1,hsm1⟩ ih1;by_cases hlt1:i1 < dcs.length
   . obtain ⟨c,hc⟩:=Ai hlt1;have he1:=Av (enc:=CE.enc) hc;have hw2:IntKind.i64.wrap ((i1:Int)+1)=((i1+1:Nat):Int):=by rw [Ax (by omega) (by omega)];omega
     have hms1:=fun hp=>DX (p:=fun (c:CE)=>∀t∈c.args,t.sh m) hsm1 hc hp;obtain ⟨cn,ar⟩:=c;simp only [CE.enc] at he1;(repeat' (refine wQ mxQ rfl ?_<;>try simp only [Ag hlt1,he1,AA,go_sem]));refine Run.slot 33 (fun hb2=>?_);simp only [CR,C4,if_false,if_true,AV.DW,AA] at hb2;refine Run.At ?_
     refine Run.Au ((fun (a1:AV) (a2:AV) (a14:AV) (a15:AV) (a16:AV) (a26:AV) (a27:AV) (a28:AV) (a33:AV) (a34:AV)=>fun (i:Nat)=>put 1 a1 (put 2 a2 (put 14 a14 (put 15 a15 (put 16 a16 (put 26 a26 (put 27 a27 (put 28 a28 (put 33 a33 (put 34 a34 (put 35 (.d (.int .i64 i)) U))))))))))) _ _ _ _ _ _ _ _ _ _) (fun _=>Am 2 [.d (.sl (ds.map DE.enc)),.d (.sl (fs.map FE.enc))] E) (fun _=>σ)
      (fun i=>i<=ar.length/\∀t∈ar.take i,t.sh m) (fun i=>ar.length - i) ?_ 0 ⟨by simp,by simp⟩
     rintro i2 ⟨hi2,hsm2⟩ ih2;by_cases hlt2:i2 < ar.length
     . obtain ⟨x,hx⟩:=Ai hlt2;have he2:=Av (enc:=TE.enc) hx;have hw3:IntKind.i64.wrap ((i2:Int)+1)=((i2+1:Nat):Int):=by rw [Ax (by omega) (by omega)];omega
       have hms2:=fun hp=>DX (p:=fun t=>TE.sh m t) hsm2 hx hp;have hcl:=hlt' x
       have hgt:m < lgT x\/x.sh m:=by
        rcases C7 m (lgT x) with h|h
        . exact .inl h
        . exact .inr (AER.1 h)
       rcases hgt with hgt|hgt
       . obtain ⟨xk,xn,xl⟩:=x;simp only [teA,TE.A2,AD,AJ] at he2 hcl;(repeat' ((first|refine wQ mxQ rfl ?_|refine Run.qR Ie ?_|refine AH.det (hcl) ?_|fail)<;>try simp only [Ag hlt2,he2,AAJ,decide_eq_true hgt,AA,go_sem]));exact hno
       . have hgt':¬m < lgT x:=Nat.not_lt.2 (AER.2 hgt);obtain ⟨xk,xn,xl⟩:=x;simp only [teA,TE.A2,AD,AJ] at he2 hcl;(repeat' ((first|refine wQ mxQ rfl ?_|refine AH.det (hcl) ?_|fail)<;>try simp only [Ag hlt2,he2,hw3,AAJ,decide_eq_false hgt',AA,go_sem]));exact ih2 (i2+1) ⟨by omega,hms2 hgt⟩ (by omega)
     . rw [AM (by omega)] at hsm2;(repeat' (refine wQ mxQ rfl ?_<;>try simp only [B5 hlt2,hw2,AA,go_sem]));exact ih1 (i1+1) ⟨by omega,hms1 hsm2⟩ (by omega)
   . rw [AM (by omega)] at hsm1;(repeat' (refine wQ mxQ rfl ?_<;>try simp only [B5 hlt1,hw1,AA,go_sem]));exact ih (i+1) ⟨by omega,hms ⟨(o9.1 (Nat.not_lt.1 h40)).2,hsm1⟩⟩ (by omega)
 . rw [AM (by omega)] at hsm;clear ih;(repeat' (refine wQ mxQ rfl ?_<;>try simp only [B5 hlt,AA,go_sem]));refine Run.slot 47 (fun hb1=>?_);simp only [CR,C4,if_false,if_true,AV.DW,AA] at hb1;refine Run.At ?_
   refine Run.Au ((fun (a1:AV) (a47:AV) (a48:AV)=>fun (i:Nat)=>put 1 a1 (put 47 a47 (put 48 a48 (put 49 (.d (.int .i64 i)) U)))) _ _ _) (fun _=>E) (fun _=>σ)
    (fun i=>i<=fs.length/\∀d∈fs.take i,d.sh m) (fun i=>fs.length - i) ?_ 0 ⟨by simp,by simp⟩
   rintro i1 ⟨hi1,hsm1⟩ ih;by_cases hlt1:i1 < fs.length
   . obtain ⟨f,hf⟩:=Ai hlt1;have he:=Av (enc:=FE.enc) hf;have hw1:IntKind.i64.wrap ((i1:Int)+1)=((i1+1:Nat):Int):=by rw [Ax (by omega) (by omega)];omega
     have hms:=fun hp=>DX (p:=FE.sh m) hsm1 hf hp;obtain ⟨fn,fps,fb⟩:=f;have hnm:=hls fps;have hcl:=hle' fb;have hbd:lgE fb<=m↔fb.sh m:=AEQ;generalize lgE fb=lb at hcl hbd;obtain ⟨xo,xn,xu,xns,xks,xal⟩:=fb;simp only [FE.enc,exA,Ex.A2,AD,AJ] at he hcl;by_cases h1:m < fn.length
     . (repeat' ((first|refine wQ mxQ rfl ?_|refine Run.qR Ie ?_|fail)<;>try simp only [Ag hlt1,he,AAJ,decide_eq_true h1,AA,go_sem]));exact hno
     by_cases h2:m < lgS 0 fps
     . (repeat' ((first|refine wQ mxQ rfl ?_|refine Run.qR Ie ?_|refine AH.det (hnm) ?_|fail)<;>try simp only [Ag hlt1,he,AAJ,decide_eq_false h1,decide_eq_true h2,AA,go_sem]));exact hno
     by_cases h3:m < lb
     . (repeat' ((first|refine wQ mxQ rfl ?_|refine Run.qR Ie ?_|refine AH.det (hnm) ?_|refine AH.det (hcl) ?_|fail)<;>try simp only [Ag hlt1,he,AAJ,decide_eq_false h1,decide_eq_false h2,decide_eq_true h3,AA,go_sem]));exact hno
     (repeat' ((first|refine wQ mxQ rfl ?_|refine AH.det (hnm) ?_|refine AH.det (hcl) ?_|fail)<;>try simp only [Ag hlt1,he,hw1,AAJ,decide_eq_false h1,decide_eq_false h2,decide_eq_false h3,AA,go_sem]));exact ih (i1+1) ⟨by omega,hms ⟨Nat.not_lt.1 h1,(o9.1 (Nat.not_lt.1 h2)).2,hbd.1 (Nat.not_lt.1 h3)⟩⟩ (by omega)
   . rw [AM (by omega)] at hsm1;(repeat' ((first|refine wQ mxQ rfl ?_|refine Run.qR Ie ?_|fail)<;>try simp only [B5 hlt1,AA,go_sem]));exact hyes ⟨hsm,hsm1⟩
end Go.Ab
namespace Go.Ab
open Go.Proofs
theorem iY {a b:List UInt8} (h:a.length+b.length<=1000000000):AB8 .add a b=some (.d (.str (a++b))):=by
 exact if_pos (Ap h (by decide))
def AFX (x s:Str):Str:=if s=[] then [] else s++x
theorem hY (x:Str) (hxl:x.length<=100) (l:List Str) (hl:l.length<=1000) (hs:∀s∈l,s.length<=1000) (σ:AI):AT Tzp 33 [.d (.sl (l.map BF)),.d (.str x)] σ (fun v σ'=>v= .d (.sl ((l.map (AFX x)).map BF))/\σ'=σ):=by
 refine kY (by simp) ?_;rw [BK];(repeat' (refine wQ mxQ rfl ?_<;>try simp only [AA,go_sem]));refine Run.At ?_;refine Run.Au ((fun (a1:AV) (a8:AV) (a9:AV)=>fun (y:Nat×AV×AI)=>put 1 a1 (put 5 (y.2.1) (put 8 a8 (put 9 a9 (put 10 (.d (.int .i64 y.1)) U))))) _ _ _) (fun _=>E) (fun y=>y.2.2) (fun y=>y.1<=l.length/\Bz σ 9 1 (((l.take y.1).map (AFX x)).map BF) y.2.1 y.2.2) (fun y=>l.length - y.1) ?_ (0,.Ae,σ) ⟨by simp,Bz.nil _ _ _⟩;rintro ⟨i,v,τ⟩ ⟨hi,ho⟩ ih;simp only at hi ho;by_cases hlt:i < l.length
 . obtain ⟨s,hx⟩:=Ai hlt;have he:=Av (enc:=BF) hx;simp only [BF] at he;have hw1:=A4 (show i+1<=9000000000000000000 by omega);have hsl:=hs s (AE hx)
   have hnx:((l.take (i+1)).map (AFX x)).map BF=((l.take i).map (AFX x)).map BF++[[DV.str (AFX x s)]]:=by
    rw [Aa hx];simp [BF]
   cases hs0:(s==[]) with
   |true=>
    have hsn:s=[]:=by simpa using hs0
    subst hsn;rw [show AFX x []=[] from rfl] at hnx;(repeat' ((first|refine wQ mxQ rfl ?_|(refine DD.own ho rfl (by simp) (by simp;omega) (by decide) (fun v2 σ2 ho2 hbk=>?_))|fail)<;>try simp only [Ag hlt,he,hw1,DA,hs0,go_sem]));(repeat' (refine wQ mxQ rfl ?_<;>try simp only [hw1,go_sem]));exact ih (i+1,v2,σ2) ⟨by simp only;omega,by simp only;rw [hnx];exact ho2⟩ (by simp only;omega)
   |false=>
    have hsn:s≠[]:=by simpa using hs0
    rw [show AFX x s=s++x from if_neg hsn] at hnx;(repeat' ((first|refine wQ mxQ rfl ?_|(refine DD.own ho rfl (by simp) (by simp;omega) (by decide) (fun v2 σ2 ho2 hbk=>?_))|fail)<;>try simp only [Ag hlt,he,hw1,DA,hs0,iY (a:=s) (b:=x) (by omega),go_sem]));(repeat' (refine wQ mxQ rfl ?_<;>try simp only [hw1,go_sem]));exact ih (i+1,v2,σ2) ⟨by simp only;omega,by simp only;rw [hnx];exact ho2⟩ (by simp only;omega)
 . rw [AM (by omega)] at ho;(repeat' ((first|refine wQ mxQ rfl ?_|(refine Run.Bf Ve (σ2:=σ) ho.le ?_)|fail)<;>try simp only [B5 hlt,ho.BE,go_sem]));simp only [ho.plain,ho.BE,go_sem]
theorem ZY:∀(N:Nat) (t:TE) (σ:AI),t.size<=N->t.size<=100000->t.sm->AT Tzp 34 [teA t,.d (.str [81])] σ (fun v σ'=>v=teA t.ren/\σ'=σ):=by
 intro N
 induction N with
 |zero=>intro t σ h;have:=TE.size_pos t;omega
 |succ N ihN=>
 rintro ⟨k,n,l⟩ σ hN hsz hsm;simp only [TE.size] at hN hsz;rw [TE.sm,TE.MC] at hsm;have hlen:=TE.Bl l;rw [TE.GO];refine bA (by simp) ?_;rw [BK,teA,teA,TE.A2,TE.A2];simp only [AD,AJ]
 have key:∀n':Str,Run Fp (fun v σ'=>v= .agg [.d (.int .i64 k),.d (.str n'),.d (.sl ((l.map TE.ren).map TE.enc))]/\σ'=σ) [.code (.block 0 (.loop M4)),.code (.seq (.reg [⟨some 37,.ldl (.t 5) (some 3),none⟩,⟨none,.st (.t 4) (.t 37) 3,none⟩] [4]) .ret)]
  (put 1 (.d (.str [81])) (put 4 (.lp 4 0) (put 5 (.lp 5 0) (put 22 (.d (.sl (l.map TE.enc))) (put 23 (.d (.int .i64 l.length)) (put 24 (.d (.int .i64 0)) U)))))) (Am 4 [.d (.int .i64 0),.d (.str []),.Ae] (Am 5 [.d (.int .i64 k),.d (.str n'),.Ae] E)) σ:=by
  intro n';(repeat' (refine wQ mxQ rfl ?_<;>try simp only [AA,go_sem]));refine Run.At ?_;refine Run.Au ((fun (a1:AV) (a4:AV) (a5:AV) (a22:AV) (a23:AV)=>fun (y:Nat×AV×AI)=>put 1 a1 (put 4 a4 (put 5 a5 (put 22 a22 (put 23 a23 (put 24 (.d (.int .i64 y.1)) U)))))) _ _ _ _ _) (fun y=>Am 4 [.d (.int .i64 0),.d (.str []),.Ae] (Am 5 [.d (.int .i64 k),.d (.str n'),y.2.1] E)) (fun y=>y.2.2) (fun y=>y.1<=l.length/\Bz σ 64 3 (((l.take y.1).map TE.ren).map TE.enc) y.2.1 y.2.2) (fun y=>l.length - y.1) ?_ (0,.Ae,σ) ⟨by simp,Bz.nil _ _ _⟩;rintro ⟨i,v,τ⟩ ⟨hi,ho⟩ ih;simp only at hi ho;by_cases hlt:i < l.length
  . obtain ⟨x,hx⟩:=Ai hlt;have he:=Av (enc:=TE.enc) hx;have hw1:=A4 (show i+1<=9000000000000000000 by omega);have hxs:=TE.Fj (AE hx);have hc:=ihN x τ (by omega) (by omega) (hsm.2 x (AE hx))
    have hnx:((l.take (i+1)).map TE.ren).map TE.enc=((l.take i).map TE.ren).map TE.enc++[x.ren.enc]:=by
     rw [Aa hx];simp
    obtain ⟨xk,xn,xl⟩:=x;simp only [teA,TE.GO,TE.A2,AD,AJ] at he hc hnx;(repeat' (first|refine ctQ rfl ?_|((first|refine rgQ mxQ ?_|refine cdQ ?_|(refine DD.own ho rfl (by simp) (by simp;omega) (by decide) (fun v2 σ2 ho2 hbk=>?_))|refine AH.det (hc) ?_|(refine A7 rfl (fun h=>?_) (fun h=>?_)<;>try (cases h;done)))<;>try simp only [Ag hlt,he,hw1,ho.w4,go_sem])|(refine ⟨fun h=>?_,fun h=>?_⟩<;>first|(cases h;done)|try simp only [h])|fail));simp only [ho2.cells,ho2.cell,go_sem];(repeat' (first|refine ctQ rfl ?_|((first|refine rgQ mxQ ?_|refine cdQ ?_|(refine A7 rfl (fun h=>?_) (fun h=>?_)<;>try (cases h;done)))<;>try simp only [hw1,ho2.cell,ho2.cells,go_sem])|(refine ⟨fun h=>?_,fun h=>?_⟩<;>first|(cases h;done)|try simp only [h])|fail));exact ih (i+1,v2,σ2) ⟨by simp only;omega,by simp only;rw [hnx];exact ho2⟩ (by simp only;omega)
  . rw [AM (by omega)] at ho;(repeat' ((first|refine wQ mxQ rfl ?_|(refine Run.Bf QB (σ2:=σ) ho.le ?_)|fail)<;>try simp only [B5 hlt,ho.w4,go_sem]));simp only [ho.plain,ho.BE,go_sem]
 by_cases h4:k=4
 . subst h4;rw [if_pos rfl];have hk1:=key (n++[81]);clear key;(repeat' (first|refine Run.cb rfl ?_|((first|refine rgQ mxQ ?_|refine cdQ ?_|(refine A7 rfl (fun h=>?_) (fun h=>?_)<;>try (cases h;done)))<;>try simp only [AY,AA,iY (a:=n) (b:=[81]) (by have:=hsm.1;simp;omega),go_sem])|(refine ⟨fun h=>?_,fun h=>?_⟩<;>first|(cases h;done)|try simp only [h])|fail));exact hk1
 . rw [if_neg h4];have hk1:=key n;clear key;(repeat' (first|refine Run.cb rfl ?_|((first|refine rgQ mxQ ?_|refine cdQ ?_|(refine A7 rfl (fun h=>?_) (fun h=>?_)<;>try (cases h;done)))<;>try simp only [Cp h4,AA,go_sem])|(refine ⟨fun h=>?_,fun h=>?_⟩<;>first|(cases h;done)|try simp only [h])|fail));exact hk1
end Go.Ab
namespace Go.Ab
open Go.Proofs
theorem fG (l:List Str) (hl:AE1 l) (σ:AI):AT Tzp 33 [.d (.sl (l.map BF)),.d (.str [81])] σ (fun v σ'=>v= .d (.sl ((l.map DO).map BF))/\σ'=σ):=
 hY [81] (by simp) l (by have:=hl.1;omega) (fun s hs=>by have:=hl.2 s hs;omega) σ
theorem AR0 (s:Str) (hl:s.length<=40) (σ:AI):AT Tzp 33 [.d (.sl [[.str s]]),.d (.str [81])] σ (fun v σ'=>v= .d (.sl [[.str (DO s)]])/\σ'=σ):=
 fG [s] ⟨by simp,fun t ht=>by simp at ht;subst ht;exact hl⟩ σ
theorem ix0 (s:Str):(if (0:Int)<=0 then ([[DV.str s]]:List (List DV))[Int.toNat 0]?.bind (fun r=>if r.length=1 then some (AV.ep r 0) else none) else none)=some (.ep [.str s] 0):=rfl
theorem lH:∀(N:Nat) (e:Ex) (σ:AI),e.size<=N->e.size<=100000->e.sm->AT Tzp 35 [exA e,.d (.str [81])] σ (fun v σ'=>v=exA e.ren/\σ'=σ):=by
 intro N
 induction N with
 |zero=>intro t σ h;have:=Ex.size_pos t;omega
 |succ N ihN=>
 rintro ⟨o,n,u,ns,ks,al⟩ σ hN hsz hsm;simp only [Ex.size] at hN hsz;rw [Ex.sm,Ex.MC,Al.MC] at hsm;obtain ⟨hn40,hns,hks,hal⟩:=hsm;have hlen:=Ex.Bl ks;have hlen2:=Al.Bl al;rw [Ex.GO];have hsn:=fG ns hns σ;have hsn1:=AR0 n hn40 σ;refine oK (by simp) ?_;rw [BK,exA,exA,Ex.A2,Ex.A2];simp only [AD,AJ]
 have key:∀n':Str,Run JC (fun v σ'=>v= .agg [.d (.int .i64 o),.d (.str n'),.d (.int .i64 u),.d (.sl ((ns.map DO).map BF)),.d (.sl ((ks.map Ex.ren).map Ex.enc)),.d (.sl ((al.map Al.ren).map Al.enc))]/\σ'=σ)
  [.code (.block 0 (.loop L3)),.code (.seq (.seq (.reg [⟨some 48,.fld (.t 2) 5,none⟩,⟨some 49,.ldl (.t 48) none,none⟩,⟨some 50,.len (.t 49),none⟩,⟨some 51,.mv (.c (.d (.int .i64 0))),none⟩] [1,4,5,49,50,51]) (.block 2 (.loop R6))) (.seq (.reg [⟨some 72,.ldl (.t 5) (some 6),none⟩,⟨none,.st (.t 4) (.t 72) 6,none⟩] [4]) .ret))]
  (put 1 (.d (.str [81])) (put 2 (.lp 2 0) (put 4 (.lp 4 0) (put 5 (.lp 5 0) (put 33 (.d (.sl (ks.map Ex.enc))) (put 34 (.d (.int .i64 ks.length)) (put 35 (.d (.int .i64 0)) U)))))))
  (Am 2 [.d (.int .i64 o),.d (.str n),.d (.int .i64 u),.d (.sl (ns.map BF)),.d (.sl (ks.map Ex.enc)),.d (.sl (al.map Al.enc))] (Am 4 [.d (.int .i64 0),.d (.str []),.d (.int .i64 0),.Ae,.Ae,.Ae] (Am 5 [.d (.int .i64 o),.d (.str n'),.d (.int .i64 u),.d (.sl ((ns.map DO).map BF)),.Ae,.Ae] E))) σ:=by
  intro n';(repeat' (refine wQ mxQ rfl ?_<;>try simp only [AA,go_sem]));refine Run.At ?_;refine Run.Au ((fun (a1:AV) (a2:AV) (a4:AV) (a5:AV) (a33:AV) (a34:AV)=>fun (y:Nat×AV×AI)=>put 1 a1 (put 2 a2 (put 4 a4 (put 5 a5 (put 33 a33 (put 34 a34 (put 35 (.d (.int .i64 y.1)) U))))))) _ _ _ _ _ _) (fun y=>Am 2 [.d (.int .i64 o),.d (.str n),.d (.int .i64 u),.d (.sl (ns.map BF)),.d (.sl (ks.map Ex.enc)),.d (.sl (al.map Al.enc))] (Am 4 [.d (.int .i64 0),.d (.str []),.d (.int .i64 0),.Ae,.Ae,.Ae] (Am 5 [.d (.int .i64 o),.d (.str n'),.d (.int .i64 u),.d (.sl ((ns.map DO).map BF)),y.2.1,.Ae] E))) (fun y=>y.2.2) (fun y=>y.1<=ks.length/\Bz σ 69 6 (((ks.take y.1).map Ex.ren).map Ex.enc) y.2.1 y.2.2) (fun y=>ks.length - y.1) ?_ (0,.Ae,σ) ⟨by simp,Bz.nil _ _ _⟩;rintro ⟨i,v,τ⟩ ⟨hi,ho⟩ ih;simp only at hi ho;by_cases hlt:i < ks.length
  . obtain ⟨x,hx⟩:=Ai hlt;have he:=Av (enc:=Ex.enc) hx;have hw1:=A4 (show i+1<=9000000000000000000 by omega);have hxs:=Ex.Fj (AE hx);have hc:=ihN x τ (by omega) (by omega) (hks x (AE hx))
    have hnx:((ks.take (i+1)).map Ex.ren).map Ex.enc=((ks.take i).map Ex.ren).map Ex.enc++[x.ren.enc]:=by
     rw [Aa hx];simp
    obtain ⟨xo,xn,xu,xns,xks,xal⟩:=x;simp only [exA,Ex.GO,Ex.A2,AD,AJ] at he hc hnx;(repeat' (first|refine ctQ rfl ?_|((first|refine rgQ mxQ ?_|refine cdQ ?_|(refine DD.own ho rfl (by simp) (by simp;omega) (by decide) (fun v2 σ2 ho2 hbk=>?_))|refine AH.det (hc) ?_|(refine A7 rfl (fun h=>?_) (fun h=>?_)<;>try (cases h;done)))<;>try simp only [Ag hlt,he,hw1,ho.w4,go_sem])|(refine ⟨fun h=>?_,fun h=>?_⟩<;>first|(cases h;done)|try simp only [h])|fail));simp only [ho2.cells,ho2.cell,go_sem];(repeat' (first|refine ctQ rfl ?_|((first|refine rgQ mxQ ?_|refine cdQ ?_|(refine A7 rfl (fun h=>?_) (fun h=>?_)<;>try (cases h;done)))<;>try simp only [hw1,ho2.cell,ho2.cells,go_sem])|(refine ⟨fun h=>?_,fun h=>?_⟩<;>first|(cases h;done)|try simp only [h])|fail));exact ih (i+1,v2,σ2) ⟨by simp only;omega,by simp only;rw [hnx];exact ho2⟩ (by simp only;omega)
  rw [AM (by omega)] at ho;clear ih;(repeat' (refine wQ mxQ rfl ?_<;>try simp only [B5 hlt,ho.w4,AA,go_sem]));refine Run.At ?_;refine Run.Au ((fun (a1:AV) (a4:AV) (a5:AV) (a49:AV) (a50:AV)=>fun (y:Nat×AV×AI)=>put 1 a1 (put 4 a4 (put 5 a5 (put 49 a49 (put 50 a50 (put 51 (.d (.int .i64 y.1)) U)))))) _ _ _ _ _) (fun y=>Am 4 [.d (.int .i64 0),.d (.str []),.d (.int .i64 0),.Ae,.Ae,.Ae] (Am 5 [.d (.int .i64 o),.d (.str n'),.d (.int .i64 u),.d (.sl ((ns.map DO).map BF)),v,y.2.1] E)) (fun y=>y.2.2) (fun y=>y.1<=al.length/\Bz τ 117 8 (((al.take y.1).map Al.ren).map Al.enc) y.2.1 y.2.2) (fun y=>al.length - y.1) ?_ (0,.Ae,τ) ⟨by simp,Bz.nil _ _ _⟩;rintro ⟨i2,v2,τ2⟩ ⟨hi2,ho2⟩ ih;simp only at hi2 ho2;by_cases hlt2:i2 < al.length
  . obtain ⟨x,hx⟩:=Ai hlt2;have he:=Av (enc:=Al.enc) hx;have hw1:=A4 (show i2+1<=9000000000000000000 by omega);have hxs:=Al.Fj (AE hx);have hxm:=hal x (AE hx)
    have hnx:((al.take (i2+1)).map Al.ren).map Al.enc=((al.take i2).map Al.ren).map Al.enc++[x.ren.enc]:=by
     rw [Aa hx];simp
    obtain ⟨xc,xvs,xb⟩:=x;rw [Al.size] at hxs;rw [Al.sm] at hxm;have hc:=ihN xb τ2 (by omega) (by omega) hxm.2.2;have hsv:=fG xvs hxm.2.1 τ2;obtain ⟨xo,xn,xu,xns,xks,xal⟩:=xb;simp only [exA,Al.GO,Ex.GO,Al.A2,Ex.A2,AD,AJ] at he hc hnx;(repeat' (first|refine ctQ rfl ?_|((first|refine rgQ mxQ ?_|refine cdQ ?_|(refine DD.own ho2 rfl (by simp) (by simp;omega) (by decide) (fun v3 σ3 ho3 hbk=>?_))|refine AH.det (hc) ?_|refine AH.det (hsv) ?_|(refine A7 rfl (fun h=>?_) (fun h=>?_)<;>try (cases h;done)))<;>try simp only [Ag hlt2,he,hw1,ho2.w4,ho.cell,go_sem])|(refine ⟨fun h=>?_,fun h=>?_⟩<;>first|(cases h;done)|try simp only [h])|fail));simp only [ho3.cells,ho3.cell,go_sem];(repeat' (first|refine ctQ rfl ?_|((first|refine rgQ mxQ ?_|refine cdQ ?_|(refine A7 rfl (fun h=>?_) (fun h=>?_)<;>try (cases h;done)))<;>try simp only [hw1,ho3.cell,ho3.cells,go_sem])|(refine ⟨fun h=>?_,fun h=>?_⟩<;>first|(cases h;done)|try simp only [h])|fail));exact ih (i2+1,v3,σ3) ⟨by simp only;omega,by simp only;rw [hnx];exact ho3⟩ (by simp only;omega)
  . rw [AM (by omega)] at ho2;(repeat' ((first|refine wQ mxQ rfl ?_|(refine Run.Bf XW (σ2:=σ) (AI.le_trans ho.le ho2.le) ?_)|fail)<;>try simp only [B5 hlt2,ho.w4,ho2.w4,go_sem]));simp only [ho.plain,ho.BE,ho2.plain,ho2.BE,go_sem]
 by_cases h6:o=6
 . subst h6;rw [if_pos rfl];have hk1:=key n;clear key;have h66:((6:Int) != 6)=false:=by decide
   (repeat' (first|refine Run.cb rfl ?_|((first|refine rgQ mxQ ?_|refine cdQ ?_|refine AH.det (hsn) ?_|(refine A7 rfl (fun h=>?_) (fun h=>?_)<;>try (cases h;done)))<;>try simp only [h66,AA,go_sem])|(refine ⟨fun h=>?_,fun h=>?_⟩<;>first|(cases h;done)|try simp only [h])|fail));exact hk1
 . rw [if_neg h6];have hk1:=key (DO n);clear key;have h66:(o != 6)=true:=by simpa using h6
   (repeat' (first|refine Run.cb rfl ?_|((first|refine rgQ mxQ ?_|refine cdQ ?_|refine AH.det (hsn) ?_|refine AH.det (hsn1) ?_|(refine A7 rfl (fun h=>?_) (fun h=>?_)<;>try (cases h;done)))<;>try simp only [h66,ix0,AA,go_sem])|(refine ⟨fun h=>?_,fun h=>?_⟩<;>first|(cases h;done)|try simp only [h])|fail));exact hk1
end Go.Ab
namespace Go.Ab
open Go.Proofs
theorem lG (p:Pg) (hp:p.sm) (σ:AI):AT Tzp 9 [pgA p,.d (.str [81])] σ (fun v σ'=>v=pgA p.ren/\σ'=σ):=by
 obtain ⟨⟨hdl,hdm⟩,hfl,hfm⟩:=hp;refine oI (by simp) ?_;rw [BK];obtain ⟨ds,fs⟩:=p;simp only [pgA,Pg.enc,Pg.ren,AD,AJ] at hdl hdm hfl hfm ⊢;(repeat' (first|refine ctQ rfl ?_|((first|refine rgQ mxQ ?_|refine cdQ ?_|(refine A7 rfl (fun h=>?_) (fun h=>?_)<;>try (cases h;done)))<;>try simp only [AA,go_sem])|(refine ⟨fun h=>?_,fun h=>?_⟩<;>first|(cases h;done)|try simp only [h])|fail));refine Run.At ?_;refine Run.Au ((fun (a1:AV) (a2:AV) (a4:AV) (a5:AV) (a17:AV) (a18:AV)=>fun (y:Nat×AV×AI)=>put 1 a1 (put 2 a2 (put 4 a4 (put 5 a5 (put 17 a17 (put 18 a18 (put 19 (.d (.int .i64 y.1)) U))))))) _ _ _ _ _ _) (fun y=>Am 2 [.d (.sl (ds.map DE.enc)),.d (.sl (fs.map FE.enc))] (Am 4 [.Ae,.Ae] (Am 5 [y.2.1,.Ae] E))) (fun y=>y.2.2) (fun y=>y.1<=ds.length/\Bz σ 58 3 (((ds.take y.1).map DE.ren).map DE.enc) y.2.1 y.2.2) (fun y=>ds.length - y.1) ?_ (0,.Ae,σ) ⟨by simp,Bz.nil _ _ _⟩;rintro ⟨i,v,τ⟩ ⟨hi,ho⟩ ih;simp only at hi ho;by_cases hlt:i < ds.length
 . obtain ⟨d,hd⟩:=Ai hlt;have he:=Av (enc:=DE.enc) hd;have hw1:=A4 (show i+1<=9000000000000000000 by omega);obtain ⟨hd1,hd2,hd3,hd4⟩:=hdm d (AE hd)
   have hnx:((ds.take (i+1)).map DE.ren).map DE.enc=((ds.take i).map DE.ren).map DE.enc++[d.ren.enc]:=by
    rw [Aa hd];simp
   obtain ⟨dn,dvs',dcs⟩:=d;simp only [DE.enc,DE.ren] at he hnx hd1 hd2 hd3 hd4;have hsv:=fG dvs' hd2 τ;(repeat' (first|refine ctQ rfl ?_|((first|refine rgQ mxQ ?_|refine cdQ ?_|refine AH.det (hsv) ?_|(refine A7 rfl (fun h=>?_) (fun h=>?_)<;>try (cases h;done)))<;>try simp only [Ag hlt,he,ho.cell,AA,go_sem])|(refine ⟨fun h=>?_,fun h=>?_⟩<;>first|(cases h;done)|try simp only [h])|fail));refine Run.At ?_;refine Run.Au ((fun (a1:AV) (a2:AV) (a4:AV) (a5:AV) (a8:AV) (a17:AV) (a18:AV) (a19:AV) (a31:AV) (a32:AV)=>fun (y:Nat×AV×AI)=>put 1 a1 (put 2 a2 (put 4 a4 (put 5 a5 (put 8 a8 (put 17 a17 (put 18 a18 (put 19 a19 (put 31 a31 (put 32 a32 (put 33 (.d (.int .i64 y.1)) U))))))))))) _ _ _ _ _ _ _ _ _ _) (fun y=>Am 2 [.d (.sl (ds.map DE.enc)),.d (.sl (fs.map FE.enc))] (Am 4 [.Ae,.Ae] (Am 5 [v,.Ae] (Am 8 [.d (.str dn),.d (.sl ((dvs'.map DO).map BF)),y.2.1] E)))) (fun y=>y.2.2) (fun y=>y.1<=dcs.length/\Bz τ 62 2 (((dcs.take y.1).map CE.ren).map CE.enc) y.2.1 y.2.2) (fun y=>dcs.length - y.1) ?_ (0,.Ae,τ) ⟨by simp,Bz.nil _ _ _⟩;rintro ⟨i1,v1,τ1⟩ ⟨hi1,ho1⟩ ih1;simp only at hi1 ho1;by_cases hlt1:i1 < dcs.length
   . obtain ⟨c,hc⟩:=Ai hlt1;have he1:=Av (enc:=CE.enc) hc;have hw2:=A4 (show i1+1<=9000000000000000000 by omega);obtain ⟨hc1,hc2,hc3⟩:=hd4 c (AE hc)
     have hnx1:((dcs.take (i1+1)).map CE.ren).map CE.enc=((dcs.take i1).map CE.ren).map CE.enc++[c.ren.enc]:=by
      rw [Aa hc];simp
     obtain ⟨cn,ar⟩:=c;simp only [CE.enc,CE.ren] at he1 hnx1 hc1 hc2 hc3;(repeat' (first|refine ctQ rfl ?_|((first|refine rgQ mxQ ?_|refine cdQ ?_|(refine A7 rfl (fun h=>?_) (fun h=>?_)<;>try (cases h;done)))<;>try simp only [Ag hlt1,he1,ho1.cell,AA,go_sem])|(refine ⟨fun h=>?_,fun h=>?_⟩<;>first|(cases h;done)|try simp only [h])|fail));refine Run.At ?_;refine Run.Au ((fun (a1:AV) (a2:AV) (a4:AV) (a5:AV) (a8:AV) (a11:AV) (a17:AV) (a18:AV) (a19:AV) (a31:AV) (a32:AV) (a33:AV) (a41:AV) (a42:AV)=>fun (y:Nat×AV×AI)=>put 1 a1 (put 2 a2 (put 4 a4 (put 5 a5 (put 8 a8 (put 11 a11 (put 17 a17 (put 18 a18 (put 19 a19 (put 31 a31 (put 32 a32 (put 33 a33 (put 41 a41 (put 42 a42 (put 43 (.d (.int .i64 y.1)) U))))))))))))))) _ _ _ _ _ _ _ _ _ _ _ _ _ _) (fun y=>Am 2 [.d (.sl (ds.map DE.enc)),.d (.sl (fs.map FE.enc))] (Am 4 [.Ae,.Ae] (Am 5 [v,.Ae] (Am 8 [.d (.str dn),.d (.sl ((dvs'.map DO).map BF)),v1] (Am 11 [.d (.str cn),y.2.1] E))))) (fun y=>y.2.2) (fun y=>y.1<=ar.length/\Bz τ1 64 3 (((ar.take y.1).map TE.ren).map TE.enc) y.2.1 y.2.2) (fun y=>ar.length - y.1) ?_ (0,.Ae,τ1) ⟨by simp,Bz.nil _ _ _⟩;rintro ⟨i2,v2,τ2⟩ ⟨hi2,ho2⟩ ih2;simp only at hi2 ho2;by_cases hlt2:i2 < ar.length
     . obtain ⟨x,hx⟩:=Ai hlt2;have he2:=Av (enc:=TE.enc) hx;have hw3:=A4 (show i2+1<=9000000000000000000 by omega);obtain ⟨hx1,hx2⟩:=hc3 x (AE hx);have hcl:=ZY x.size x τ2 (AW _) (by omega) hx1
       have hnx2:((ar.take (i2+1)).map TE.ren).map TE.enc=((ar.take i2).map TE.ren).map TE.enc++[x.ren.enc]:=by
        rw [Aa hx];simp
       obtain ⟨xk,xn,xl⟩:=x;simp only [teA,TE.GO,TE.A2,AD,AJ] at he2 hcl hnx2;(repeat' (first|refine ctQ rfl ?_|((first|refine rgQ mxQ ?_|refine cdQ ?_|(refine DD.own ho2 rfl (by simp) (by simp;omega) (by decide) (fun v3 σ3 ho3 hbk=>?_))|refine AH.det (hcl) ?_|(refine A7 rfl (fun h=>?_) (fun h=>?_)<;>try (cases h;done)))<;>try simp only [Ag hlt2,he2,hw3,ho2.w4,ho1.cell,ho.cell,go_sem])|(refine ⟨fun h=>?_,fun h=>?_⟩<;>first|(cases h;done)|try simp only [h])|fail));simp only [ho3.cells,ho3.cell,go_sem];(repeat' (first|refine ctQ rfl ?_|((first|refine rgQ mxQ ?_|refine cdQ ?_|(refine A7 rfl (fun h=>?_) (fun h=>?_)<;>try (cases h;done)))<;>try simp only [hw3,ho3.cell,ho3.cells,go_sem])|(refine ⟨fun h=>?_,fun h=>?_⟩<;>first|(cases h;done)|try simp only [h])|fail));exact ih2 (i2+1,v3,σ3) ⟨by simp only;omega,by simp only;rw [hnx2];exact ho3⟩ (by simp only;omega)
     . rw [AM (by omega)] at ho2;have ho1':=ho1.up ho2.le;clear ih2;(repeat' (first|refine ctQ rfl ?_|((first|refine rgQ mxQ ?_|refine cdQ ?_|(refine DD.own ho1' rfl (by simp) (by simp;omega) (by decide) (fun v3 σ3 ho3 hbk=>?_))|(refine A7 rfl (fun h=>?_) (fun h=>?_)<;>try (cases h;done)))<;>try simp only [B5 hlt2,hw2,ho2.w4,ho2.dv,ho1.cell,ho1.cells,ho1.BE,ho1.BV,ho.cell,go_sem])|(refine ⟨fun h=>?_,fun h=>?_⟩<;>first|(cases h;done)|try simp only [h])|fail));simp only [ho3.cells,ho3.cell,go_sem];(repeat' (first|refine ctQ rfl ?_|((first|refine rgQ mxQ ?_|refine cdQ ?_|(refine A7 rfl (fun h=>?_) (fun h=>?_)<;>try (cases h;done)))<;>try simp only [hw2,ho3.cell,ho3.cells,go_sem])|(refine ⟨fun h=>?_,fun h=>?_⟩<;>first|(cases h;done)|try simp only [h])|fail));exact ih1 (i1+1,v3,σ3) ⟨by simp only;omega,by simp only;rw [hnx1];exact ho3⟩ (by simp only;omega)
   . rw [AM (by omega)] at ho1;have ho':=ho.up ho1.le;clear ih1;(repeat' (first|refine ctQ rfl ?_|((first|refine rgQ mxQ ?_|refine cdQ ?_|(refine DD.own ho' rfl (by simp) (by simp;omega) (by decide) (fun v3 σ3 ho3 hbk=>?_))|(refine A7 rfl (fun h=>?_) (fun h=>?_)<;>try (cases h;done)))<;>try simp only [B5 hlt1,hw1,ho1.cell,ho1.cells,ho1.BE,ho1.BV,ho1.dv,ho.w4,go_sem])|(refine ⟨fun h=>?_,fun h=>?_⟩<;>first|(cases h;done)|try simp only [h])|fail));simp only [ho3.cells,ho3.cell,go_sem];(repeat' (first|refine ctQ rfl ?_|((first|refine rgQ mxQ ?_|refine cdQ ?_|(refine A7 rfl (fun h=>?_) (fun h=>?_)<;>try (cases h;done)))<;>try simp only [hw1,ho3.cell,ho3.cells,go_sem])|(refine ⟨fun h=>?_,fun h=>?_⟩<;>first|(cases h;done)|try simp only [h])|fail));exact ih (i+1,v3,σ3) ⟨by simp only;omega,by simp only;rw [hnx];exact ho3⟩ (by simp only;omega)
 rw [AM (by omega)] at ho;clear ih;(repeat' (first|refine ctQ rfl ?_|((first|refine rgQ mxQ ?_|refine cdQ ?_|(refine A7 rfl (fun h=>?_) (fun h=>?_)<;>try (cases h;done)))<;>try simp only [B5 hlt,ho.w4,AA,go_sem])|(refine ⟨fun h=>?_,fun h=>?_⟩<;>first|(cases h;done)|try simp only [h])|fail));refine Run.At ?_;refine Run.Au ((fun (a1:AV) (a4:AV) (a5:AV) (a71:AV) (a72:AV)=>fun (y:Nat×AV×AI)=>put 1 a1 (put 4 a4 (put 5 a5 (put 71 a71 (put 72 a72 (put 73 (.d (.int .i64 y.1)) U)))))) _ _ _ _ _) (fun y=>Am 4 [.Ae,.Ae] (Am 5 [v,y.2.1] E)) (fun y=>y.2.2) (fun y=>y.1<=fs.length/\Bz τ 71 8 (((fs.take y.1).map FE.ren).map FE.enc) y.2.1 y.2.2) (fun y=>fs.length - y.1) ?_ (0,.Ae,τ) ⟨by simp,Bz.nil _ _ _⟩;rintro ⟨i2,v2,τ2⟩ ⟨hi2,ho2⟩ ih;simp only at hi2 ho2;by_cases hlt2:i2 < fs.length
 . obtain ⟨f,hf⟩:=Ai hlt2;have he:=Av (enc:=FE.enc) hf;have hw1:=A4 (show i2+1<=9000000000000000000 by omega);obtain ⟨hf1,hf2,hf3,hf4⟩:=hfm f (AE hf)
   have hnx:((fs.take (i2+1)).map FE.ren).map FE.enc=((fs.take i2).map FE.ren).map FE.enc++[f.ren.enc]:=by
    rw [Aa hf];simp
   obtain ⟨fn,fps,fb⟩:=f;simp only at hf1 hf2 hf3 hf4;have hc:=lH fb.size fb τ2 (AW _) (by omega) hf3;have hsv:=fG fps hf2 τ2;obtain ⟨xo,xn,xu,xns,xks,xal⟩:=fb;simp only [FE.enc,FE.ren,exA,Ex.GO,Ex.A2,AD,AJ] at he hc hnx;(repeat' (first|refine ctQ rfl ?_|((first|refine rgQ mxQ ?_|refine cdQ ?_|(refine DD.own ho2 rfl (by simp) (by simp;omega) (by decide) (fun v3 σ3 ho3 hbk=>?_))|refine AH.det (hc) ?_|refine AH.det (hsv) ?_|(refine A7 rfl (fun h=>?_) (fun h=>?_)<;>try (cases h;done)))<;>try simp only [Ag hlt2,he,hw1,ho2.w4,ho.cell,iY (a:=fn) (b:=[81]) (by simp;omega),go_sem])|(refine ⟨fun h=>?_,fun h=>?_⟩<;>first|(cases h;done)|try simp only [h])|fail));simp only [ho3.cells,ho3.cell,go_sem];(repeat' (first|refine ctQ rfl ?_|((first|refine rgQ mxQ ?_|refine cdQ ?_|(refine A7 rfl (fun h=>?_) (fun h=>?_)<;>try (cases h;done)))<;>try simp only [hw1,ho3.cell,ho3.cells,go_sem])|(refine ⟨fun h=>?_,fun h=>?_⟩<;>first|(cases h;done)|try simp only [h])|fail));exact ih (i2+1,v3,σ3) ⟨by simp only;omega,by simp only;rw [hnx];exact ho3⟩ (by simp only;omega)
 . rw [AM (by omega)] at ho2;(repeat' (first|refine ctQ rfl ?_|((first|refine rgQ mxQ ?_|refine cdQ ?_|(refine Run.Bf XU (σ2:=σ) (AI.le_trans ho.le ho2.le) ?_)|(refine A7 rfl (fun h=>?_) (fun h=>?_)<;>try (cases h;done)))<;>try simp only [B5 hlt2,ho.w4,ho2.w4,go_sem])|(refine ⟨fun h=>?_,fun h=>?_⟩<;>first|(cases h;done)|try simp only [h])|fail));simp only [ho.plain,ho.BE,ho2.plain,ho2.BE,go_sem]
end Go.Ab
namespace Go.Ab
open Go.Proofs
set_option maxRecDepth 100000
set_option maxHeartbeats 40000000
noncomputable section
noncomputable def V4:Cx:=⟨Tzp,6,Tryz.f6,64,[34,300011,300016,300018,300021,300027,300031,300037,300043,300051,300053],[],[.c 2 (some 3)]⟩
theorem Mp:Good V4:=⟨Tryz.func6,by kernel_rfl⟩
theorem ABX:V4.rs=[.c 2 (some 3)]:=rfl
noncomputable def oZ:=BO V4 [] fun c a=>G c [a]
def rT:C:=lpC 0 (oZ .skip)
def ADA:C:=(oZ rT).1
theorem AEC:Inn V4 ADA 64:=inn [] Mp Tryz.ntmps6
def vL:List (Nat×PT):=[(20,(pL [17] (pO [0,1,2,3,4,5,6,7,8,9,10,11,12,13,14,15,16,18,19] .done)))]
noncomputable def Fb:Cx:=⟨Tzp,12,Tryz.f12,139,[300015,300021,300027,300033,300038,300045,300049,300051,300056,300063,300074,300082,300090,300100,300103,300105,300122,300123,300128,300129,300134],[],[.t 2,.c 3 (some 3)]⟩
theorem Mr:Good Fb:=⟨Tryz.func12,by kernel_rfl⟩
theorem AFM:Fb.rs=[.t 2,.c 3 (some 3)]:=rfl
noncomputable def Yd:=BO Fb vL fun c a b d=>G c [a,b,d]
def PD:C:=lpC 0 (Yd .skip .skip .skip)
def U3:C:=lpC 1 (Yd PD .skip .skip)
def wC:C:=lpC 2 (Yd PD U3 .skip)
def AHW:C:=(Yd PD U3 wC).1
theorem AIT:Inn Fb AHW 139:=inn vL Mr Tryz.ntmps12
noncomputable def G8:Cx:=⟨Tzp,18,Tryz.f18,28,[],[],[.t 4]⟩
theorem Ii:Good G8:=⟨Tryz.func18,by kernel_rfl⟩
theorem WU:G8.rs=[.t 4]:=rfl
noncomputable def Ns:=BO G8 [] fun c a=>G c [a]
def TH:C:=lpC 0 (Ns .skip)
def Wq:C:=(Ns TH).1
theorem X2:Inn G8 Wq 28:=inn [] Ii Tryz.ntmps18
noncomputable def V5:Cx:=⟨Tzp,19,Tryz.f19,32,[],[],[.t 2]⟩
theorem aZ:Good V5:=⟨Tryz.func19,by kernel_rfl⟩
theorem ABY:V5.rs=[.t 2]:=rfl
noncomputable def bI:=BO V5 [] fun c a b=>G c [a,b]
def Zg:C:=lpC 0 (bI .skip .skip)
def rU:C:=lpC 1 (bI Zg .skip)
def ADB:C:=(bI Zg rU).1
theorem AED:Inn V5 ADB 32:=inn [] aZ Tryz.ntmps19
def Rs:List (Nat×PT):=[(44,(pO [0,1,2,3,4,5,7,8,9,10,11,12,13] (.alt 6 (pO [14,15,16,17,18,19,20] .done) (.alt 14 (pO [6,15,16,17,18,19,20] .done) .done))))]
noncomputable def G7:Cx:=⟨Tzp,20,Tryz.f20,250,[300041,300046,300051,300074,300083,300104,300111,300120,300124,300129,300135,300151,300159,300167,300171,300180,300185,300190,300198,300203,300208,300222,300230,300237],[],[.t 6,.t 7]⟩
theorem BN:Good G7:=⟨Tryz.func20,by kernel_rfl⟩
theorem cA:G7.rs=[.t 6,.t 7]:=rfl
noncomputable def Ln:=BO G7 Rs fun c a b=>G c [a,b]
def Ia:C:=lpC 0 (Ln .skip .skip)
def N4:C:=lpC 1 (Ln Ia .skip)
def cZ:C:=(Ln Ia N4).1
theorem dT:Inn G7 cZ 250:=inn Rs BN Tryz.ntmps20
noncomputable def Yo:Cx:=⟨Tzp,40,Tryz.f40,19,[],[],[.t 4]⟩
theorem gP:Good Yo:=⟨Tryz.func40,by kernel_rfl⟩
theorem AFN:Yo.rs=[.t 4]:=rfl
noncomputable def uN:=BO Yo [] fun c a=>G c [a]
def wD:C:=lpC 0 (uN .skip)
def AHX:C:=(uN wD).1
theorem AIU:Inn Yo AHX 19:=inn [] gP Tryz.ntmps40
def fH:List (Nat×PT):=[(23,(pL [12] (pO [0,1,2,3,4,5,6,7,8,9,10,11,13,14] .done)))]
noncomputable def MO:Cx:=⟨Tzp,41,Tryz.f41,124,[300018,300021,300026,300030,300037,300041,300045,300048,300050,300058,300065,300071,300079,300096,300102,300106,300118,300119,300123],[],[.c 10 (some 3),.t 11]⟩
theorem FY:Good MO:=⟨Tryz.func41,by kernel_rfl⟩
theorem s7:MO.rs=[.c 10 (some 3),.t 11]:=rfl
noncomputable def Uw:=BO MO fH fun c a b=>G c [a,b]
def V9:C:=lpC 0 (Uw .skip .skip)
def Va:C:=lpC 1 (Uw V9 .skip)
def wE:C:=(Uw V9 Va).1
theorem wU:Inn MO wE 124:=inn fH FY Tryz.ntmps41
noncomputable def JR:Cx:=⟨Tzp,44,Tryz.f44,38,[],[],[.t 4,.t 5,.t 6]⟩
theorem Mq:Good JR:=⟨Tryz.func44,by kernel_rfl⟩
theorem eZ:JR.rs=[.t 4,.t 5,.t 6]:=rfl
noncomputable def Mx:=BO JR [] fun c a b=>G c [a,b]
def Od:C:=lpC 0 (Mx .skip .skip)
def Yx:C:=lpC 1 (Mx Od .skip)
def fV:C:=(Mx Od Yx).1
theorem gT:Inn JR fV 38:=inn [] Mq Tryz.ntmps44
noncomputable def Fc:Cx:=⟨Tzp,45,Tryz.f45,111,[],[],[.t 4]⟩
theorem E2:Good Fc:=⟨Tryz.func45,by kernel_rfl⟩
theorem e7:Fc.rs=[.t 4]:=rfl
noncomputable def My:=BO Fc [] fun c a b=>G c [a,b]
def J8:C:=lpC 0 (My .skip .skip)
def Yy:C:=lpC 1 (My J8 .skip)
def fW:C:=(My J8 Yy).1
theorem gU:Inn Fc fW 111:=inn [] E2 Tryz.ntmps45
attribute [go_sem] ABX AFM WU ABY cA AFN s7 eZ e7
end
end Go.Ab
namespace Go.Ab
open Go.Proofs
theorem bY (l:List Str) (s:Str) (σ:AI):AT Tzp 40 [.d (.sl (l.map BF)),.d (.str s)] σ (fun v σ'=>v= .d (.int .i64 (Fi (C9 l s)))/\σ'=σ):=by
 refine AIU (by simp) ?_;rw [BK,<- Ph];refine Run.slot 0 (fun hb0=>?_);simp only [CR,if_true,AV.DW,AA] at hb0;(repeat' (refine wQ mxQ rfl ?_<;>try simp only [AA,go_sem]));refine Run.At ?_;refine Run.Au ((fun (a0:AV) (a1:AV)=>fun (i:Nat)=>put 0 a0 (put 1 a1 (put 5 (.d (.int .i64 i)) U))) _ _) (fun _=>E) (fun _=>σ) (fun i=>i<=l.length/\∀x∈l.take i,(x==s)=false) (fun i=>l.length - i) ?_ 0 ⟨by simp,by simp⟩;rintro i ⟨hi,hno⟩ ih;by_cases hlt:i < l.length
 . obtain ⟨x,hx⟩:=Ai hlt;have he:=Av (enc:=BF) hx;simp only [BF] at he;have hw1:IntKind.i64.wrap ((i:Int)+1)=((i+1:Nat):Int):=by rw [Ax (by omega) (by omega)];omega
   cases hp:(x==s) with
   |true=>
    (repeat' ((first|refine wQ mxQ rfl ?_|refine Run.qP gP ?_|fail)<;>try simp only [Ag hlt,he,hw1,Bd,hp,AA,go_sem]));rw [D3 (p:=fun x=>x==s) hno hx hp];rfl
   |false=>
    (repeat' (refine wQ mxQ rfl ?_<;>try simp only [Ag hlt,he,hw1,Bd,hp,AA,go_sem]));exact ih (i+1) ⟨by omega,F2 (p:=fun x=>x==s) hno hx hp⟩ (by omega)
 . (repeat' ((first|refine wQ mxQ rfl ?_|refine Run.qP gP ?_|fail)<;>try simp only [B5 hlt,AA,go_sem]));rw [AM (by omega)] at hno;rw [D4 (p:=fun x=>x==s) hno];rfl
theorem Ro (l:List Str) (σ:AI):AT Tzp 19 [.d (.sl (l.map BF))] σ (fun v σ'=>v= .d (.bool (CP l))/\σ'=σ):=by
 refine AED (by simp) ?_;rw [Bq];refine Run.slot 0 (fun hb0=>?_);simp only [CR,if_true,AV.DW,AA] at hb0;(repeat' (refine wQ mxQ rfl ?_<;>try simp only [AA,go_sem]));refine Run.At ?_;refine Run.Au ((fun (a0:AV)=>fun (i:Nat)=>put 0 a0 (put 3 (.d (.int .i64 i)) U)) _) (fun _=>E) (fun _=>σ) (fun i=>i<=l.length/\CP (l.take i)=false) (fun i=>l.length - i) ?_ 0 ⟨by simp,by simp [CP]⟩;rintro i ⟨hi,hno⟩ ih;by_cases hlt:i < l.length
 . obtain ⟨x,hx⟩:=Ai hlt;have he:=Av (enc:=BF) hx;simp only [BF] at he;have hw1:IntKind.i64.wrap ((i:Int)+1)=((i+1:Nat):Int):=by rw [Ax (by omega) (by omega)];omega
   have hsn:=YX (l.take i) x;rw [<- Aa hx,hno,EU] at hsn;(repeat' (refine wQ mxQ rfl ?_<;>try simp only [Ag hlt,AA,go_sem]));refine Run.At ?_;refine Run.Au ((fun (a0:AV) (a3:AV)=>fun (j:Nat)=>put 0 a0 (put 3 a3 (put 4 (.d (.int .i64 j)) U))) _ _) (fun _=>E) (fun _=>σ) (fun j=>j<=i/\∀y∈l.take j,((x==y)&& !(x==[]))=false) (fun j=>i - j) ?_ 0 ⟨by simp,by simp⟩;rintro j ⟨hj,hnj⟩ ih2;by_cases hji:j < i
   . obtain ⟨y,hy⟩:=Ai (show j < l.length by omega);have hey:=Av (enc:=BF) hy;simp only [BF] at hey;have hw2:IntKind.i64.wrap ((j:Int)+1)=((j+1:Nat):Int):=by rw [Ax (by omega) (by omega)];omega
     cases h1:(x==y) with
     |false=>
      (repeat' (refine wQ mxQ rfl ?_<;>try simp only [Ag hji,he,hey,hw2,Bd,DA,h1,AA,go_sem]));exact ih2 (j+1) ⟨by omega,F2 (p:=fun y=>(x==y)&& !(x==[])) hnj hy (by simp only [h1,Bp])⟩ (by omega)
     |true=>
      cases h2:(x==[]) with
      |true=>
       (repeat' (refine wQ mxQ rfl ?_<;>try simp only [Ag hji,he,hey,hw2,Bd,DA,h1,h2,AA,go_sem]));exact ih2 (j+1) ⟨by omega,F2 (p:=fun y=>(x==y)&& !(x==[])) hnj hy (by simp only [h2,Bool.not_true,CT])⟩ (by omega)
      |false=>
       have hct:(l.take i).contains x=true:=by
        have:x=y:=by simpa using h1
        subst this;rw [Ak];exact AE (by rw [B2,if_pos hji];exact hy)
       (repeat' ((first|refine wQ mxQ rfl ?_|refine Run.qP aZ ?_|fail)<;>try simp only [Ag hji,he,hey,hw2,Bd,DA,h1,h2,AA,go_sem]));rw [kD (i:=i+1) (by rw [hsn,h2,hct];rfl)]
   . have hje:j=i:=by omega
     subst hje
     have hct:(!(x==[])&&(l.take j).contains x)=false:=by
      cases h2:(x==[]) with
      |true=>rfl
      |false=>
       rw [FL,BY,C5];intro hc;rw [Ak] at hc;have:=hnj x hc;simp [h2] at this
     (repeat' (refine wQ mxQ rfl ?_<;>try simp only [B5 hji,hw1,go_sem]));exact ih (j+1) ⟨by omega,by rw [hsn,hct]⟩ (by omega)
 . (repeat' ((first|refine wQ mxQ rfl ?_|refine Run.qP aZ ?_|fail)<;>try simp only [B5 hlt,AA,go_sem]));rw [AM (by omega)] at hno;rw [hno]
end Go.Ab
namespace Go.Ab
open Go.Proofs
theorem Rn (dt:List Dat) (hdt:cJ dt) (s:Str) (σ:AI):AT Tzp 44 [dsA dt,.d (.str s)] σ (fun v σ'=>v=ZK (EV dt s)/\σ'=σ):=by
 refine gT (by simp) ?_;rw [BK,dsA];refine Run.slot 0 (fun hb0=>?_);simp only [CR,if_true,AV.DW,AA] at hb0;(repeat' (refine wQ mxQ rfl ?_<;>try simp only [AA,go_sem]));refine Run.At ?_;refine Run.Au ((fun (a0:AV) (a1:AV)=>fun (i:Nat)=>put 0 a0 (put 1 a1 (put 7 (.d (.int .i64 i)) U))) _ _) (fun _=>E) (fun _=>σ) (fun i=>i<=dt.length/\∀d∈dt.take i,IT d.cons s=none) (fun i=>dt.length - i) ?_ 0 ⟨by simp,by simp⟩;rintro i ⟨hi,hno⟩ ih;by_cases hlt:i < dt.length
 . obtain ⟨d,hd⟩:=Ai hlt;have he:=PN hd;have hw1:IntKind.i64.wrap ((i:Int)+1)=((i+1:Nat):Int):=by rw [Ax (by omega) (by omega)];omega
   have hdl:=hdt d (AE hd);(repeat' (refine wQ mxQ rfl ?_<;>try simp only [Ag hlt,AA,go_sem]));refine Run.At ?_;refine Run.Au ((fun (a0:AV) (a1:AV) (a7:AV)=>fun (k:Nat)=>put 0 a0 (put 1 a1 (put 7 a7 (put 8 (.d (.int .i64 k)) U)))) _ _ _) (fun _=>E) (fun _=>σ) (fun k=>k<=d.cons.length/\∀c∈d.cons.take k,(c.name==s)=false) (fun k=>d.cons.length - k) ?_ 0 ⟨by simp,by simp⟩;rintro k ⟨hk,hnk⟩ ih2;by_cases hkl:k < d.cons.length
   . obtain ⟨c,hc⟩:=Ai hkl;have hec:=PM hc;have hw2:IntKind.i64.wrap ((k:Int)+1)=((k+1:Nat):Int):=by rw [Ax (by omega) (by omega)];omega
     cases hp:(c.name==s) with
     |true=>
      have hca:IT d.cons s=some k:=by rw [<- Ib];exact D3 (p:=fun c:Con=>c.name==s) hnk hc hp
      (repeat' ((first|refine wQ mxQ rfl ?_|refine Run.qP Mq ?_|fail)<;>try simp only [Ag hkl,he,hec,hw2,Bd,hp,AA,go_sem]));rw [wJ hno hd hca];rfl
     |false=>
      (repeat' (refine wQ mxQ rfl ?_<;>try simp only [Ag hkl,he,hec,hw2,Bd,hp,AA,go_sem]));exact ih2 (k+1) ⟨by omega,F2 (p:=fun c:Con=>c.name==s) hnk hc hp⟩ (by omega)
   . (repeat' (refine wQ mxQ rfl ?_<;>try simp only [B5 hkl,he,hw1,AA,go_sem]));rw [AM (by omega)] at hnk;have hca:IT d.cons s=none:=by rw [<- Ib];exact D4 (p:=fun c:Con=>c.name==s) hnk
     refine ih (i+1) ⟨by omega,fun x hx=>?_⟩ (by omega);rw [Aa hd] at hx;rcases A0.1 hx with h|h
     . exact hno x h
     . rw [A6] at h;subst h;exact hca
 . (repeat' ((first|refine wQ mxQ rfl ?_|refine Run.qP Mq ?_|fail)<;>try simp only [B5 hlt,AA,go_sem]));rw [AM (by omega)] at hno;rw [wK hno];rfl
end Go.Ab
namespace Go.Ab
open Go.Proofs
theorem lO (ps:List DE) (fs:List FE) (ds:List (Str×Nat)) (vars:List Str) (k num:Int) (n:Str) (l:List TE) (τ:AI) (hll:l.length<=1000000)
 (ih:∀x∈l,∀τ',AT Tzp 41 [pgA ⟨ps,fs⟩,.d (.sl ((ds.map (·.1)).map BF)),.d (.sl (vars.map BF)),teA x,.d (.bool false)] τ' (fun v σ'=>v=YA (II ds vars false x)/\σ'=τ')):
 Run MO (fun v σ'=>v=YA ((Co ds vars l).map (Ty.mk k num))/\σ'=τ) [.code (.loop Va),.blk 3,.code (.seq (.reg [⟨some 123,.ldl (.t 12) (some 3),none⟩,⟨none,.st (.t 10) (.t 123) 3,none⟩,⟨some 11,.mv (.c (.d (.int .i64 0))),none⟩] [10,11]) .ret)]
  (put 1 (.d (.sl ((ds.map (·.1)).map BF))) (put 2 (.d (.sl (vars.map BF))) (put 5 (.lp 5 0) (put 8 (.lp 8 0) (put 10 (.lp 10 0) (put 12 (.lp 12 0) (put 14 (.d (.int .i64 0)) U)))))))
  (Am 5 [.d (.sl (ps.map DE.enc)),.d (.sl (fs.map FE.enc))] (Am 8 [.d (.int .i64 k),.d (.str n),.d (.sl (l.map TE.enc))] (Am 10 [.d (.int .i64 0),.d (.int .i64 0),.Ae] (Am 12 [.d (.int .i64 k),.d (.int .i64 num),.Ae] E)))) τ:=by
 refine Run.At ?_
 refine Run.Au ((fun (a1:AV) (a2:AV) (a5:AV) (a8:AV) (a10:AV) (a12:AV)=>fun (y:Nat×List Ty×AV×AI)=>put 1 a1 (put 2 a2 (put 5 a5 (put 8 a8 (put 10 a10 (put 12 a12 (put 14 (.d (.int .i64 y.1)) U))))))) _ _ _ _ _ _) (fun y=>Am 5 [.d (.sl (ps.map DE.enc)),.d (.sl (fs.map FE.enc))] (Am 8 [.d (.int .i64 k),.d (.str n),.d (.sl (l.map TE.enc))] (Am 10 [.d (.int .i64 0),.d (.int .i64 0),.Ae] (Am 12 [.d (.int .i64 k),.d (.int .i64 num),y.2.2.1] E)))) (fun y=>y.2.2.2)
  (fun y=>y.1<=l.length/\y.2.1.length=y.1/\Co ds vars (l.take y.1)= .ok y.2.1/\Bz τ 46 3 (y.2.1.map Ty.enc) y.2.2.1 y.2.2.2) (fun y=>l.length - y.1) ?_ (0,[],.Ae,τ) ⟨by simp,rfl,rfl,Bz.nil _ _ _⟩
 rintro ⟨i,us,uv,τ1⟩ ⟨hi,hlu,hok,ho⟩ ih2;simp only at hi hlu hok ho;by_cases hlt:i < l.length
 . obtain ⟨x,hx⟩:=Ai hlt;have he:=Av (enc:=TE.enc) hx;have hw1:=A4 (show i+1<=9000000000000000000 by omega)
   have hall:Co ds vars l=(Co ds vars (x::l.drop (i+1))).map (us++·):=by
    conv=>lhs;rw [<- Ad i l,Bu hx]
    exact UB _ _ _ hok
   have hsn:Co ds vars (l.take (i+1))=(Co ds vars [x]).map (us++·):=by
    rw [Aa hx];exact UB _ _ _ hok
   rw [Co] at hall;rw [Co,Co] at hsn;have hc:=ih x (AE hx) τ1;simp only [pgA,Pg.enc,AD,AJ] at hc;cases hr:II ds vars false x with
   |error e=>
    rw [hr] at hc hall;have hne:=eV x false e hr;have hne':(e != 0)=true:=by simpa using hne
    obtain ⟨xk,xn,xl⟩:=x;simp only [TE.A2,teA,AD,AJ,YA] at he hc;(repeat' ((first|refine wQ mxQ rfl ?_|(refine Run.Bf FY ho.le ?_)|refine AH.det (hc) ?_|fail)<;>try simp only [Ag hlt,he,hne',ho.cell,AA,go_sem]));rw [hall];rfl
   |ok u=>
    rw [hr] at hc hsn;simp only [C3] at hsn;obtain ⟨uk,un,ul⟩:=u;obtain ⟨xk,xn,xl⟩:=x;simp only [TE.A2,teA,AD,AJ,YA,tyA,Ty.enc] at he hc;have h00:((0:Int) != 0)=false:=by decide
    (repeat' ((first|refine wQ mxQ rfl ?_|(refine DD.own ho rfl (by simp) (by simp;omega) (by decide) (fun v2 σ2 ho2 hbk=>?_))|refine AH.det (hc) ?_|fail)<;>try simp only [Ag hlt,he,hw1,h00,ho.w4,AA,go_sem]));simp only [ho2.cells,ho2.cell,go_sem];(repeat' (refine wQ mxQ rfl ?_<;>try simp only [hw1,ho2.cell,ho2.cells,go_sem]));exact ih2 (i+1,us++[.mk uk un ul],v2,σ2) ⟨by simp only;omega,by simp [hlu],hsn,by simpa [Ty.enc] using ho2⟩ (by simp only;omega)
 . rw [AM (by omega)] at hok;(repeat' ((first|refine wQ mxQ rfl ?_|(refine Run.Bf FY ho.le ?_)|fail)<;>try simp only [B5 hlt,ho.cell,ho.cells,AA,go_sem]));rw [ho.plain,hok];simp [YA,tyA,Ty.enc,Ty.C1,C3]
end Go.Ab
namespace Go.Ab
open Go.Proofs
theorem jW:∀ {l:List TE} {vs:List Str},l.length=vs.length->(∀(j:Nat) (t:TE) (v:Str),l[j]?=some t->vs[j]?=some v->oV t v=true)->Eb l vs=true
 |[],[],_,_=>rfl
 |[],v::vs,h,_=>by simp at h
 |t::l,[],h,_=>by simp at h
 |t::l,v::vs,h,hp=>by
  rw [Lv,hp 0 t v rfl rfl,jW (by simpa using h) (fun j t' v' h1 h2=>hp (j+1) t' v' h1 h2)];rfl
theorem bS:∀ {l:List TE} {vs:List Str} {j:Nat} {t:TE} {v:Str},l[j]?=some t->vs[j]?=some v->oV t v=false->Eb l vs=false
 |[],vs,j,t,v,h,_,_=>by simp at h
 |t::l,[],j,t',v,_,h,_=>by simp at h
 |t::l,v::vs,0,t',v',h1,h2,h=>by
  simp only [BM,AL] at h1 h2;subst h1;subst h2;rw [Lv,h];rfl
 |t::l,v::vs,j+1,t',v',h1,h2,h=>by
  rw [Lv,bS (j:=j) (by simpa using h1) (by simpa using h2) h,CT]
structure ALA (ps:List DE) (ds:List (Str×Nat)) (vars:List Str):Prop where
 at':∀(i:Nat) (x:Str×Nat),ds[i]?=some x->∃d:DE,ps[i]?=some d/\d.vars.length=x.2
 last:∀x:Str×Nat,ds[ds.length - 1]?=some x->x.2=vars.length
 ne:ds.length<=1000000
theorem sW (ps:List DE) (fs:List FE) (ds:List (Str×Nat)) (vars:List Str) (hh:ALA ps ds vars):
 ∀(N:Nat) (t:TE) (whole:Bool) (τ:AI),t.size<=N->t.size<=1000000->AT Tzp 41 [pgA ⟨ps,fs⟩,.d (.sl ((ds.map (·.1)).map BF)),.d (.sl (vars.map BF)),teA t,.d (.bool whole)] τ (fun v σ'=>v=YA (II ds vars whole t)/\σ'=τ):=by
 intro N
 induction N with
 |zero=>intro t whole τ h;have:=TE.size_pos t;omega
 |succ N ihN=>
 rintro ⟨k,n,l⟩ whole τ hN hsz;simp only [TE.size] at hN hsz;have hlen:=TE.Bl l
 have hloop:=fun num=>lO ps fs ds vars k num n l τ (by omega) (fun x hx τ'=>by
  have:=TE.Fj hx;exact ihN x false τ' (by omega) (by omega))
 clear ihN;refine wU (by simp) ?_;rw [AC0,teA,TE.A2];simp only [pgA,Pg.enc,AD,AJ];by_cases h4:k=4
 . subst h4
   have hres:II ds vars whole (.mk 4 n l)=match C9 vars n with|none=>.error 3|some i=>(Co ds vars l).map (Ty.mk 4 i):=by
    rw [II,if_pos rfl];rfl
   have hi:=bY vars n τ;cases hix:C9 vars n with
   |none=>
    rw [hix] at hi hres;simp only [Fi] at hi hres;have hneg:decide ((-1:Int) < 0)=true:=by decide
    (repeat' ((first|refine wQ mxQ rfl ?_|refine Run.qP FY ?_|refine AH.det (hi) ?_|fail)<;>try simp only [AY,hneg,go_sem]));rw [hres];rfl
   |some i=>
    rw [hix] at hi hres;simp only [Fi] at hi hres;have hneg:decide ((i:Int) < 0)=false:=decide_eq_false (by omega);rw [hres];(repeat' ((first|refine wQ mxQ rfl ?_|refine AH.det (hi) ?_|fail)<;>try simp only [AY,hneg,AA,go_sem]));exact hloop i
 by_cases h5:k=5
 . subst h5
   have hres:II ds vars whole (.mk 5 n l)=match C9 (ds.map (·.1)) n with|none=>.error 3|some i=>if l.length≠(ds.getD i ([],0)).2 then .error 5 else if i+1=ds.length/\¬(whole=true/\Eb l vars=true) then .error 7 else (Co ds vars l).map (Ty.mk 5 i):=by
    rw [II,if_neg h4,if_pos rfl];rfl
   have hf:=bY (ds.map (·.1)) n τ;cases hix:C9 (ds.map (·.1)) n with
   |none=>
    rw [hix] at hf hres;simp only [Fi] at hf hres;have hneg:decide ((-1:Int) < 0)=true:=by decide
    (repeat' ((first|refine wQ mxQ rfl ?_|refine Run.qP FY ?_|refine AH.det (hf) ?_|fail)<;>try simp only [AY,hneg,go_sem]));rw [hres];rfl
   |some i=>
    have hsp:=Pj hix;rw [Aj,AN] at hsp;obtain ⟨x,hx,hxn⟩:=hsp;obtain ⟨d,hd,hdv⟩:=hh.at' i x hx;have hil:=(AG.1 hx).1;have hgd:ds.getD i ([],0)=x:=by rw [Ac,hx];rfl
    rw [hix] at hf hres;simp only [Fi,hgd] at hf hres;have hneg:decide ((i:Int) < 0)=false:=decide_eq_false (by omega);have hed:=Av (enc:=DE.enc) hd;obtain ⟨dn,dvs',dc⟩:=d;simp only [DE.enc] at hed hdv
    have hcmp:((l.length:Int) != (dvs'.length:Int))=decide (l.length≠x.2):=by
     rw [An];simp only [bne_iff_ne,ne_eq,decide_eq_true_eq];omega
    by_cases hA:l.length≠x.2
    . rw [decide_eq_true hA] at hcmp;rw [if_pos hA] at hres;(repeat' ((first|refine wQ mxQ rfl ?_|refine Run.qP FY ?_|refine AH.det (hf) ?_|fail)<;>try simp only [AY,hneg,AA,hed,hcmp,go_sem]));rw [hres];rfl
    . rw [decide_eq_false hA] at hcmp;rw [if_neg hA] at hres;have hdl:=hh.ne;have hw1:IntKind.i64.wrap ((ds.length:Int) - 1)=((ds.length - 1:Nat):Int):=by rw [Ax (by omega) (by omega)];omega
      have hlast:((i:Int)==((ds.length - 1:Nat):Int))=decide (i+1=ds.length):=by
       rw [An];simp only [beq_iff_eq,decide_eq_true_eq];omega
      by_cases hB:i+1=ds.length
      . rw [decide_eq_true hB] at hlast
        have hlv:l.length=vars.length:=by
         have:=hh.last x (by rw [show ds.length - 1=i by omega];exact hx);omega
        (repeat' ((first|refine wQ mxQ rfl ?_|refine AH.det (hf) ?_|fail)<;>try simp only [AY,hneg,AA,hed,hcmp,hw1,hlast,go_sem]));refine Run.At ?_
        refine Run.Au ((fun (a1:AV) (a2:AV) (a4:AV) (a5:AV) (a8:AV) (a10:AV) (a12:AV)=>fun (j:Nat)=>put 1 a1 (put 2 a2 (put 4 a4 (put 5 a5 (put 8 a8 (put 10 a10 (put 12 a12 (put 13 (.d (.int .i64 j)) U)))))))) _ _ _ _ _ _ _) (fun _=>Am 5 [.d (.sl (ps.map DE.enc)),.d (.sl (fs.map FE.enc))] (Am 8 [.d (.int .i64 5),.d (.str n),.d (.sl (l.map TE.enc))] (Am 10 [.d (.int .i64 0),.d (.int .i64 0),.Ae] (Am 12 [.d (.int .i64 5),.d (.int .i64 i),.Ae] E)))) (fun _=>τ)
         (fun j=>j<=l.length/\∀(q:Nat) (t:TE) (v:Str),q < j->l[q]?=some t->vars[q]?=some v->oV t v=true) (fun j=>l.length - j) ?_ 0 ⟨by simp,fun q _ _ hq=>by omega⟩
        rintro j ⟨hj,hpj⟩ ih2;by_cases hjl:j < l.length
        . obtain ⟨t,ht⟩:=Ai hjl;obtain ⟨v,hv⟩:=Ai (show j < vars.length by omega);have het:=Av (enc:=TE.enc) ht;have hev:=Av (enc:=BF) hv;have hwj:=A4 (show j+1<=9000000000000000000 by omega);obtain ⟨tk,tn,tl⟩:=t;simp only [TE.A2,BF] at het hev;have hip:oV (.mk tk tn tl) v=(tk==4&&tn==v):=rfl;by_cases hk4:tk=4
          . subst hk4;have hn4:((4:Int) != 4)=false:=by decide
            cases hv2:(tn==v) with
            |true=>
             have hvn:(tn != v)=false:=by simpa [bne] using hv2
             (repeat' (refine wQ mxQ rfl ?_<;>try simp only [Ag hjl,het,hev,hn4,hvn,DA,hv2,hwj,AA,go_sem]));refine ih2 (j+1) ⟨by omega,fun q t' v' hq h1 h2=>?_⟩ (by omega);rcases C7 q j with h|h
             . exact hpj q t' v' h h1 h2
             . have:q=j:=by omega
               subst this;rw [ht] at h1;rw [hv] at h2;cases h1;cases h2;rw [hip,hv2];rfl
            |false=>
             have hpb:Eb l vars=false:=bS ht hv (by rw [hip,hv2];rfl);rw [if_pos ⟨hB,by simp [hpb]⟩] at hres;have hvn:(tn != v)=true:=by simp [bne,hv2]
             (repeat' ((first|refine wQ mxQ rfl ?_|(refine Run.Bf FY (σ2:=τ) (AI.le_refl _) ?_)|fail)<;>try simp only [Ag hjl,het,hev,hn4,hvn,DA,hv2,hwj,AA,go_sem]));rw [hres];rfl
          . have hn4:(tk != 4)=true:=by simpa using hk4
            have hpb:Eb l vars=false:=bS ht hv (by rw [hip,Cp hk4];rfl);rw [if_pos ⟨hB,by simp [hpb]⟩] at hres;(repeat' ((first|refine wQ mxQ rfl ?_|(refine Run.Bf FY (σ2:=τ) (AI.le_refl _) ?_)|fail)<;>try simp only [Ag hjl,het,hev,hn4,hwj,AA,go_sem]));rw [hres];rfl
        . have hpb:Eb l vars=true:=jW hlv (fun q t v h1 h2=>hpj q t v (by have:=(AG.1 h1).1;omega) h1 h2);cases whole with
          |false=>
           rw [if_pos ⟨hB,by simp⟩] at hres;(repeat' ((first|refine wQ mxQ rfl ?_|(refine Run.Bf FY (σ2:=τ) (AI.le_refl _) ?_)|fail)<;>try simp only [B5 hjl,AA,go_sem]));rw [hres];rfl
          |true=>
           rw [if_neg (by simp [hpb])] at hres;rw [hres];(repeat' (refine wQ mxQ rfl ?_<;>try simp only [B5 hjl,AA,go_sem]));exact hloop i
      . rw [decide_eq_false hB] at hlast;rw [if_neg (fun h=>hB h.1)] at hres;rw [hres];(repeat' ((first|refine wQ mxQ rfl ?_|refine AH.det (hf) ?_|fail)<;>try simp only [AY,hneg,AA,hed,hcmp,hw1,hlast,go_sem]));exact hloop i
 . have hres:II ds vars whole (.mk k n l)=(Co ds vars l).map (Ty.mk k 0):=by rw [II,if_neg h4,if_neg h5]
   rw [hres];(repeat' (refine wQ mxQ rfl ?_<;>try simp only [Cp h4,Cp h5,AA,go_sem]));exact hloop 0
end Go.Ab
namespace Go.Ab
open Go.Proofs
theorem p0 (ps:List DE) (fs:List FE) (ds:List (Str×Nat)) (vars:List Str) (hh:ALA ps ds vars) (t:TE) (hsz:t.size<=1000000) (nv:AV) (hnv:nv.plain= .d (.sl ((ds.map (·.1)).map BF))) (whole:Bool) (τ:AI):
 AT Tzp 41 [pgA ⟨ps,fs⟩,nv,.d (.sl (vars.map BF)),teA t,.d (.bool whole)] τ (fun v σ'=>v=YA (II ds vars whole t)/\σ'=τ):=by
 refine AT.plain ?_;have:=sW ps fs ds vars hh t.size t whole τ (AW _) hsz
 have hp:∀l:List DV,AV.CL (l.map AV.d)=l.map AV.d:=fun l=>by
  induction l with
  |nil=>rfl
  |cons x l ih=>rw [AD,AV.CL,G6,ih]
 simp only [AV.CL,hnv,G6,pgA,teA,ND,hp];exact this
theorem AFD (Q:AV->AI->Prop) (rest:List CI) (ps:List DE) (fs:List FE) (ds:List (Str×Nat)) (dn:Str) (dvs':List Str) (dcs:List CE) (hh:ALA ps ds dvs') (cn:Str) (car:List TE) (ci i:Nat) (hc:dcs[ci]?=some ⟨cn,car⟩) (hsm:∀t∈car,t.size<=1000000) (hal:car.length<=1000)
 (σ0 τ:AI) (out nv used a9 b9 consv:AV) (l:List Ow) (hown:J7 σ0 l τ) (hle:σ0.le τ) (hnv:nv.plain= .d (.sl ((ds.map (·.1)).map BF))) (hnl:nv.BE=true) (hlp:∀k,nv.BV k=false/\out.BV k=false/\used.BV k=false)
 (herr:∀e,D2 ds dvs' car= .error e->Q (.tup [.d (.sl []),.agg [.d (.int .i64 e),.d (.int .i64 (-1)),.d (.int .i64 i)]]) σ0)
 (hfin:∀us uv τ',D2 ds dvs' car= .ok us->J7 σ0 (⟨46,3,us.map Ty.enc,uv⟩::l) τ'->σ0.le τ'->Run Fb Q rest
   (put 1 (.lp 1 0) (put 3 (.lp 3 0) (put 4 out (put 5 nv (put 6 used (put 7 (.d (.int .i64 i)) (put 8 (.lp 8 0) (put 9 (.lp 9 0) (put 10 (.d (.int .i64 ci)) (put 11 (.lp 11 0) (put 12 (.d (.int .i64 car.length)) (put 96 (.d (.bool false)) U))))))))))))
   (Am 1 [.d (.sl (ps.map DE.enc)),.d (.sl (fs.map FE.enc))] (Am 3 [.d (.int .i64 0),.d (.int .i64 0),.d (.int .i64 0)] (Am 8 [.d (.str dn),.d (.sl (dvs'.map BF)),.d (.sl (dcs.map CE.enc))] (Am 9 [a9,b9,consv] (Am 11 [.d (.str cn),uv] E))))) τ'):
 Run Fb Q (.code (.loop PD)::.blk 4::rest)
  (put 1 (.lp 1 0) (put 3 (.lp 3 0) (put 4 out (put 5 nv (put 6 used (put 7 (.d (.int .i64 i)) (put 8 (.lp 8 0) (put 9 (.lp 9 0) (put 10 (.d (.int .i64 ci)) (put 11 (.lp 11 0) (put 12 (.d (.int .i64 0)) U)))))))))))
  (Am 1 [.d (.sl (ps.map DE.enc)),.d (.sl (fs.map FE.enc))] (Am 3 [.d (.int .i64 0),.d (.int .i64 0),.d (.int .i64 0)] (Am 8 [.d (.str dn),.d (.sl (dvs'.map BF)),.d (.sl (dcs.map CE.enc))] (Am 9 [a9,b9,consv] (Am 11 [.d (.str cn),.Ae] E))))) τ:=by
 have hlp1:=fun k=>(hlp k).1;have hlp2:=fun k=>(hlp k).2.1;have hlp3:=fun k=>(hlp k).2.2;have hec:=Av (enc:=CE.enc) hc;simp only [CE.enc] at hec;refine Run.At ?_
 refine Run.Au ((fun (a1:AV) (a3:AV) (a4:AV) (a5:AV) (a6:AV) (a7:AV) (a8:AV) (a9:AV) (a10:AV) (a11:AV)=>fun (y:Nat×List Ty×AV×AI)=>put 1 a1 (put 3 a3 (put 4 a4 (put 5 a5 (put 6 a6 (put 7 a7 (put 8 a8 (put 9 a9 (put 10 a10 (put 11 a11 (put 12 (.d (.int .i64 y.1)) U))))))))))) _ _ _ _ _ _ _ _ _ _) (fun y=>Am 1 [.d (.sl (ps.map DE.enc)),.d (.sl (fs.map FE.enc))] (Am 3 [.d (.int .i64 0),.d (.int .i64 0),.d (.int .i64 0)] (Am 8 [.d (.str dn),.d (.sl (dvs'.map BF)),.d (.sl (dcs.map CE.enc))] (Am 9 [a9,b9,consv] (Am 11 [.d (.str cn),y.2.2.1] E))))) (fun y=>y.2.2.2)
  (fun y=>y.1<=car.length/\y.2.1.length=y.1/\D2 ds dvs' (car.take y.1)= .ok y.2.1/\J7 σ0 (⟨46,3,y.2.1.map Ty.enc,y.2.2.1⟩::l) y.2.2.2/\σ0.le y.2.2.2) (fun y=>car.length - y.1) ?_ (0,[],.Ae,τ) ⟨by simp,rfl,rfl,hown.nil hle 46 3,hle⟩
 rintro ⟨k,us,uv,τ1⟩ ⟨hk,hlu,hok,ho,hle1⟩ ih2;simp only at hk hlu hok ho hle1;have hoh:=ho.head;simp only at hoh;by_cases hlt:k < car.length
 . obtain ⟨x,hx⟩:=Ai hlt;have he:=Av (enc:=TE.enc) hx;have hw1:=A4 (show k+1<=9000000000000000000 by omega)
   have hall:D2 ds dvs' car=(D2 ds dvs' (x::car.drop (k+1))).map (us++·):=by
    conv=>lhs;rw [<- Ad k car,Bu hx]
    exact TG _ _ _ hok
   have hsn:D2 ds dvs' (car.take (k+1))=(D2 ds dvs' [x]).map (us++·):=by
    rw [Aa hx];exact TG _ _ _ hok
   rw [D2] at hall;rw [D2,D2] at hsn;have hcl:=p0 ps fs ds dvs' hh x (hsm x (AE hx)) nv hnv true τ1;simp only [pgA,Pg.enc,AD,AJ] at hcl;cases hr:II ds dvs' true x with
   |error e=>
    rw [hr] at hcl hall;simp only [C3] at hall;have hxe:=herr e hall;have hne:=eV x true e hr;have hne':(e != 0)=true:=by simpa using hne
    obtain ⟨xk,xn,xl⟩:=x;simp only [TE.A2,teA,AD,AJ,YA] at he hcl;(repeat' ((first|refine wQ mxQ rfl ?_|(refine AH.mk (by simp only [Bk,GM,hnl,B7,BY];rfl) hcl ?_;rintro _ _ ⟨rfl,rfl⟩)|(refine Run.Bf Mr (σ2:=σ0) hle1 ?_)|fail)<;>try simp only [Ag hlt,hec,he,hne',hoh.cell,AA,hlp1,hlp2,hlp3,go_sem]));exact hxe
   |ok u=>
    rw [hr] at hcl hsn;simp only [C3] at hsn;obtain ⟨uk,un,ul⟩:=u;obtain ⟨xk,xn,xl⟩:=x;simp only [TE.A2,teA,AD,AJ,YA,tyA,Ty.enc] at he hcl;have h00:((0:Int) != 0)=false:=by decide
    (repeat' ((first|refine wQ mxQ rfl ?_|(refine AH.mk (by simp only [Bk,GM,hnl,B7,BY];rfl) hcl ?_;rintro _ τ1 ⟨rfl,rfl⟩)|(refine DD.AJ1 (cx:=Fb) ho rfl (by simp) (by simp;omega) (by decide) (fun v2 σ2 ho2 hbk=>?_))|fail)<;>try simp only [Ag hlt,hec,he,hw1,h00,hoh.cell,hoh.cells,hoh.BE,hoh.BV,AA,hlp1,hlp2,hlp3,go_sem]));have ho2h:=ho2.head;simp only at ho2h;simp only [ho2h.cells,ho2h.cell,go_sem];(repeat' (refine wQ mxQ rfl ?_<;>try simp only [hw1,ho2h.cell,ho2h.cells,go_sem]));exact ih2 (k+1,us++[.mk uk un ul],v2,σ2) ⟨by simp only;omega,by simp [hlu],hsn,by simpa [Ty.enc] using ho2,ho2h.le⟩ (by simp only;omega)
 . rw [AM (by omega)] at hok;have:=hfin us uv τ1 hok ho hle1;(repeat' (refine wQ mxQ rfl ?_<;>try simp only [B5 hlt,hec,AA,go_sem]));have hke:k=car.length:=by omega
   subst hke;exact this
end Go.Ab
namespace Go.Ab
open Go.Proofs
theorem Xx (l:List Str) (s:Str) (v:AV) (hv:v.plain= .d (.sl (l.map BF))) (σ:AI):AT Tzp 40 [v,.d (.str s)] σ (fun v σ'=>v= .d (.int .i64 (Fi (C9 l s)))/\σ'=σ):=by
 refine AT.plain ?_;simp only [AV.CL,hv,G6];exact bY l s σ
theorem AFE (Q:AV->AI->Prop) (rest:List CI) (ps:List DE) (fs:List FE) (ds:List (Str×Nat)) (dn:Str) (dvs':List Str) (dcs:List CE) (hh:ALA ps ds dvs') (i:Nat) (hcl:dcs.length<=1000) (hsm:∀c∈dcs,Yl c/\c.args.length<=1000)
 (σ0 τ:AI) (out nv usedv a9 b9:AV) (h9:a9.B8=true/\b9.B8=true) (ul:List Str) (hul:ul.length<=100000) (lo:List Ow) (hown:J7 σ0 (⟨9,1,ul.map BF,usedv⟩::lo) τ) (hle:σ0.le τ) (hnv:nv.plain= .d (.sl ((ds.map (·.1)).map BF))) (hnl:nv.BE=true) (hlp:∀k,nv.BV k=false/\out.BV k=false)
 (herr:∀e,Em ds dvs' ul dcs= .error e->Q (.tup [.d (.sl []),.agg [.d (.int .i64 e),.d (.int .i64 (-1)),.d (.int .i64 i)]]) σ0)
 (hfin:∀us usedv' consv' τ',Em ds dvs' ul dcs= .ok us->J7 σ0 (⟨9,1,(ul++dcs.map (·.name)).map BF,usedv'⟩::⟨112,2,us.map Con.enc,consv'⟩::lo) τ'->σ0.le τ'->Run Fb Q rest
   (put 1 (.lp 1 0) (put 3 (.lp 3 0) (put 4 out (put 5 nv (put 6 usedv' (put 7 (.d (.int .i64 i)) (put 8 (.lp 8 0) (put 9 (.lp 9 0) (put 10 (.d (.int .i64 dcs.length)) (put 58 (.d (.bool false)) U))))))))))
   (Am 1 [.d (.sl (ps.map DE.enc)),.d (.sl (fs.map FE.enc))] (Am 3 [.d (.int .i64 0),.d (.int .i64 0),.d (.int .i64 0)] (Am 8 [.d (.str dn),.d (.sl (dvs'.map BF)),.d (.sl (dcs.map CE.enc))] (Am 9 [a9,b9,consv'] E)))) τ'):
 Run Fb Q (.code (.loop U3)::.blk 2::rest)
  (put 1 (.lp 1 0) (put 3 (.lp 3 0) (put 4 out (put 5 nv (put 6 usedv (put 7 (.d (.int .i64 i)) (put 8 (.lp 8 0) (put 9 (.lp 9 0) (put 10 (.d (.int .i64 0)) U)))))))))
  (Am 1 [.d (.sl (ps.map DE.enc)),.d (.sl (fs.map FE.enc))] (Am 3 [.d (.int .i64 0),.d (.int .i64 0),.d (.int .i64 0)] (Am 8 [.d (.str dn),.d (.sl (dvs'.map BF)),.d (.sl (dcs.map CE.enc))] (Am 9 [a9,b9,.Ae] E)))) τ:=by
 have hlp1:=fun k=>(hlp k).1;have hlp2:=fun k=>(hlp k).2;refine Run.At ?_
 refine Run.Au ((fun (a1:AV) (a3:AV) (a4:AV) (a5:AV) (a7:AV) (a8:AV) (a9:AV)=>fun (y:Nat×List Con×AV×AV×AI)=>put 1 a1 (put 3 a3 (put 4 a4 (put 5 a5 (put 6 (y.2.2.1) (put 7 a7 (put 8 a8 (put 9 a9 (put 10 (.d (.int .i64 y.1)) U))))))))) _ _ _ _ _ _ _) (fun y=>Am 1 [.d (.sl (ps.map DE.enc)),.d (.sl (fs.map FE.enc))] (Am 3 [.d (.int .i64 0),.d (.int .i64 0),.d (.int .i64 0)] (Am 8 [.d (.str dn),.d (.sl (dvs'.map BF)),.d (.sl (dcs.map CE.enc))] (Am 9 [a9,b9,y.2.2.2.1] E)))) (fun y=>y.2.2.2.2)
  (fun y=>y.1<=dcs.length/\y.2.1.length=y.1/\Em ds dvs' ul (dcs.take y.1)= .ok y.2.1/\J7 σ0 (⟨9,1,(ul++(dcs.take y.1).map (·.name)).map BF,y.2.2.1⟩::⟨112,2,y.2.1.map Con.enc,y.2.2.2.1⟩::lo) y.2.2.2.2/\σ0.le y.2.2.2.2) (fun y=>dcs.length - y.1) ?_ (0,[],usedv,.Ae,τ) ⟨by simp,rfl,rfl,by simpa using (hown.nil hle 112 2).perm (List.Perm.swap _ _ _),hle⟩
 rintro ⟨k,us,uv,cv,τ1⟩ ⟨hk,hlu,hok,ho,hle1⟩ ih;simp only at hk hlu hok ho hle1;have hou:=ho.head;have hoc:=ho.tail.head;simp only at hou hoc;by_cases hlt:k < dcs.length
 . obtain ⟨c,hc⟩:=Ai hlt;have he:=Av (enc:=CE.enc) hc;have hw1:=A4 (show k+1<=9000000000000000000 by omega);obtain ⟨hall,hnames⟩:=Pe ds dvs' (dcs.drop k) hok;rw [Ad,Bu hc] at hall;obtain ⟨hsn,_⟩:=Pe ds dvs' [c] hok;rw [<- Aa hc] at hsn;obtain ⟨hcsm,hcal⟩:=hsm c (AE hc);have hfi:=Xx (ul++(dcs.take k).map (·.name)) c.name uv hou.plain τ1;have hin:(C9 (ul++(dcs.take k).map (·.name)) c.name).isSome=(ul++(dcs.take k).map (·.name)).contains c.name:=Io _ _;rw [Em] at hall hsn;have hcc:=hc;obtain ⟨cn,ar⟩:=c;simp only [CE.enc] at he hin hall hsn hcal hfi;cases hix:C9 (ul++(dcs.take k).map (·.name)) cn with
   |some q=>
    rw [hix] at hfi hin;simp only [CX] at hin;rw [<- hin,if_pos rfl] at hall;have hxe:=herr 4 hall;have hge:decide ((0:Int)<=(q:Int))=true:=by simp
    simp only [Fi] at hfi;(repeat' ((first|refine wQ mxQ rfl ?_|(refine AH.mk (by simp only [Bk,GM,hou.BE,B7,BY];rfl) hfi ?_;rintro _ _ ⟨rfl,rfl⟩)|(refine Run.Bf Mr (σ2:=σ0) hle1 ?_)|fail)<;>try simp only [Ag hlt,he,hge,AA,hlp1,hlp2,hou.BV,go_sem]));exact hxe
   |none=>
    rw [hix] at hfi hin;simp only [CW] at hin;rw [<- hin,if_neg (by simp)] at hall hsn;have hge:decide ((0:Int)<=-1)=false:=by decide
    simp only [Fi] at hfi;(repeat' ((first|refine wQ mxQ rfl ?_|(refine AH.mk (by simp only [Bk,GM,hou.BE,B7,BY];rfl) hfi ?_;rintro _ τ1 ⟨rfl,rfl⟩)|(refine DD.AJ1 (cx:=Fb) ho rfl (by simp) (by simp;omega) (by decide) (fun v2 τ2 ho2 hbk=>?_))|fail)<;>try simp only [Ag hlt,he,hge,AA,hlp1,hlp2,hou.BV,go_sem]));have ho2h:=ho2.head;simp only at ho2h;simp only [ho2h.BV,A3,if_false];refine AFD Q _ ps fs ds dn dvs' dcs hh cn ar k i hcc hcsm hcal σ0 τ2 out nv v2 a9 b9 cv _ ho2 ho2h.le hnv hnl (fun k=>⟨hlp1 k,hlp2 k,ho2h.BV k⟩) (fun e he'=>?_) (fun ts av τ3 hts ho3 hle3=>?_)
    . rw [he'] at hall;exact herr e hall
    . rw [hts] at hsn;simp only [Em,C3] at hsn;have ho3a:=ho3.head;have ho3c:=(ho3.tail.perm (List.Perm.swap _ _ _));simp only at ho3a;have hoc3:=ho3c.head;simp only at hoc3;(repeat' ((first|refine wQ mxQ rfl ?_|(refine DD.AJ1 (cx:=Fb) ho3c rfl (by simp) (by simp;omega) (by decide) (fun v4 τ4 ho4 hbk4=>?_))|fail)<;>try simp only [hw1,hoc3.cell,hoc3.cells,ho3a.cell,ho3a.dv,AA,hlp1,hlp2,ho2h.BV,h9.1,h9.2,go_sem]));have ho5:=ho4.perm (List.Perm.swap _ _ _);have h4h:=ho4.head;have h5h:=ho5.head;simp only at h4h h5h;simp only [h4h.cells,h4h.cell,go_sem];(repeat' (refine wQ mxQ rfl ?_<;>try simp only [hw1,h4h.cells,h4h.cell,hlp1,hlp2,h5h.BV,go_sem]))
      exact ih (k+1,us++[(⟨cn,ts⟩:Con)],v2,v4,τ4) ⟨by simp only;omega,by simp [hlu],hsn,by
       simp only [Aa hcc,Ay,AD,AJ,<- Az] at ho5 ⊢;simpa [Con.enc,Ty.C1,BF] using ho5,h4h.le⟩ (by simp only;omega)
 . rw [AM (by omega)] at hok ho;have:=hfin us uv cv τ1 hok ho hle1;have hke:k=dcs.length:=by omega
   subst hke;(repeat' (refine wQ mxQ rfl ?_<;>try simp only [B5 hlt,AA,hlp1,hlp2,hou.BV,go_sem]));exact this
end Go.Ab
namespace Go.Ab
open Go.Proofs
theorem J7.part {σ0 τ:AI} {l m r:List Ow} (h:J7 σ0 l τ) (hp:l.Perm (m++r)):J7 σ0 m τ:=by
 have:=h.perm hp;exact ⟨fun x hx=>this.1 x (Cv _ hx),(List.pairwise_append.1 this.2).1⟩
theorem vO {n:Nat}:∀ {l:List DE},(∀d∈l,d.cons.length<=n)->(JA l).length<=l.length * n
 |[],_=>by simp [JA]
 |d::l,h=>by
  have h1:=vO (l:=l) (fun x hx=>h x (AR _ hx));have h2:=h d (AS ..);simp only [JA,EE,AX,AA,A1] at h1 ⊢;rw [OQ];omega
theorem AIR (ps:List DE) (d:DE) (i:Nat) (hd:ps[i]?=some d) (hl:ps.length<=1000):ALA ps (CZ (ps.take i)++[(d.name,d.vars.length)]) d.vars:=by
 have hi:=(AG.1 hd).1
 have hh:CZ (ps.take i)++[(d.name,d.vars.length)]=CZ (ps.take (i+1)):=by
  rw [Aa hd,CZ,CZ,Ay];rfl
 rw [hh];have hlen:(CZ (ps.take (i+1))).length=i+1:=by rw [CZ,AA,B4];omega
 refine ⟨fun k x hx=>?_,fun x hx=>?_,by omega⟩
 . rw [CZ,Aj,B2] at hx;split at hx
   . obtain ⟨d',h1,h2⟩:=AN.1 hx;exact ⟨d',h1,by rw [<- h2]⟩
   . cases hx
 . rw [hlen,show i+1 - 1=i by omega,CZ,Aj,B2,if_pos (by omega),hd] at hx;cases hx;rfl
theorem AFF (p:Pg) (σ:AI) (h:∀d∈p.data,KV d):AT Tzp 12 [pgA p] σ (fun v σ'=>v=dE (H4 p)/\σ'=σ):=by
 have hval:=ABK p σ h;refine AIT (by simp) ?_;rw [Bq];unfold H4;cases hvb:Cl p with
 |false=>
  rw [hvb] at hval;obtain ⟨ds,fs⟩:=p;simp only [pgA,Pg.enc,AD,AJ] at hval ⊢;(repeat' ((first|refine wQ mxQ rfl ?_|(refine Run.Bf Mr (σ2:=σ) (AI.le_refl _) ?_)|refine AH.det (hval) ?_|fail)<;>try simp only [go_sem]));rfl
 |true=>
 rw [hvb] at hval;obtain ⟨hpl,hps⟩:=Ym hvb h;obtain ⟨ps,fs⟩:=p;simp only [pgA,Pg.enc,AD,AJ] at hval hpl hps ⊢;(repeat' ((first|refine wQ mxQ rfl ?_|refine AH.det (hval) ?_|fail)<;>try simp only [AA,go_sem]));generalize hQ:(fun (v:AV) (σ':AI)=>v=dE (match DJ [] ps with| .error (e,i)=>.error (e,-1,(i:Int))| .ok l=>.ok l)/\σ'=σ)=Q
 have herr:∀(e:Int) (i:Nat),DJ [] ps= .error (e,i)->Q (.tup [.d (.sl []),.agg [.d (.int .i64 e),.d (.int .i64 (-1)),.d (.int .i64 i)]]) σ:=fun e i hd=>by
  rw [<- hQ,hd];exact ⟨rfl,rfl⟩
 have hok:∀(l:List Dat),DJ [] ps= .ok l->Q (.tup [.d (.sl (l.map Dat.enc)),.agg [.d (.int .i64 0),.d (.int .i64 0),.d (.int .i64 0)]]) σ:=fun l hd=>by
  rw [<- hQ,hd];exact ⟨rfl,rfl⟩
 clear hQ;refine Run.At ?_
 have hown0:J7 σ [⟨9,1,[],.Ae⟩,⟨110,3,[],.Ae⟩,⟨9,1,[],.Ae⟩] σ:=by
  have h0:J7 σ [] σ:=⟨fun x hx=>(by cases hx),List.Pairwise.nil⟩;exact ((h0.nil (AI.le_refl _) _ _).nil (AI.le_refl _) _ _).nil (AI.le_refl _) _ _
 refine Run.Au ((fun (a1:AV) (a3:AV)=>fun (y:Nat×List Dat×AV×AV×AV×AI)=>put 1 a1 (put 3 a3 (put 4 (y.2.2.1) (put 5 (y.2.2.2.1) (put 6 (y.2.2.2.2.1) (put 7 (.d (.int .i64 y.1)) U)))))) _ _) (fun _=>Am 1 [.d (.sl (ps.map DE.enc)),.d (.sl (fs.map FE.enc))] (Am 3 [.d (.int .i64 0),.d (.int .i64 0),.d (.int .i64 0)] E)) (fun y=>y.2.2.2.2.2)
  (fun y=>y.1<=ps.length/\DJ [] (ps.take y.1)= .ok y.2.1/\J7 σ [⟨9,1,(((CZ (ps.take y.1)).map (·.1)).map BF),y.2.2.2.1⟩,⟨110,3,y.2.1.map Dat.enc,y.2.2.1⟩,⟨9,1,(JA (ps.take y.1)).map BF,y.2.2.2.2.1⟩] y.2.2.2.2.2)
  (fun y=>ps.length - y.1) ?_ (0,[],.Ae,.Ae,.Ae,σ) ⟨by simp,rfl,hown0⟩
 rintro ⟨i,dl,outv,nv,usedv,τ⟩ ⟨hi,hgo,hown⟩ ih;simp only at hi hgo hown;have hn:=hown.head;have hout:=hown.tail.head;have hus:=hown.tail.tail.head;simp only at hn hout hus;obtain ⟨f1,f2,f3,f4,f5⟩:=N9 hgo;have hlen:dl.length=i:=by rw [f3,B4];omega
 by_cases hlt:i < ps.length
 . obtain ⟨d,hd⟩:=Ai hlt;have he:=Av (enc:=DE.enc) hd;have hw1:=A4 (show i+1<=9000000000000000000 by omega);obtain ⟨hc1,hc2⟩:=hps d (AE hd);have hhd:=AIR ps d i hd (by omega)
   have hul:(JA (ps.take i)).length<=100000:=by
    have:=vO (n:=1000) (l:=ps.take i) (fun d hd=>(hps d (D5 hd)).1);rw [B4] at this;have:min i ps.length * 1000<=12 * 1000:=Bw _ (by omega);omega
   have hall:DJ [] ps=(DJ (ps.take i) (d::ps.drop (i+1))).map (dl++·):=by
    conv=>lhs;rw [<- Ad i ps,Bu hd]
    exact T2 _ hgo
   have hsn:DJ [] (ps.take (i+1))=(DJ (ps.take i) [d]).map (dl++·):=by
    rw [Aa hd];exact T2 _ hgo
   rw [DJ,Lc] at hall hsn
   have hheads:(CZ (ps.take (i+1))).map (·.1)=(CZ (ps.take i)).map (·.1)++[d.name]:=by
    rw [Aa hd];simp [CZ]
   have huse:JA (ps.take (i+1))=JA (ps.take i)++d.cons.map (·.name):=by
    rw [Aa hd];simp [JA]
   have hfi:=Xx ((CZ (ps.take i)).map (·.1)) d.name nv hn.plain τ;have hin:(C9 ((CZ (ps.take i)).map (·.1)) d.name).isSome=((CZ (ps.take i)).map (·.1)).contains d.name:=Io _ _;have htw:=Ro d.vars τ;have hhl:((CZ (ps.take i)).map (·.1)).length=i:=by simp [CZ];omega
   obtain ⟨dn,dvs',dcs⟩:=d;simp only [DE.enc] at he hall hsn hheads huse hfi hin hhd hc1 hc2 htw;rw [<- hin] at hall hsn;simp only [B4,Dd hi] at hall;cases hix:C9 ((CZ (ps.take i)).map (·.1)) dn with
   |some q=>
    rw [hix] at hfi hall;simp only [CX,ON,if_true,C3] at hall;have hxe:=herr 4 i hall;have hge:decide ((0:Int)<=(q:Int))=true:=by simp
    simp only [Fi] at hfi;(repeat' ((first|refine wQ mxQ rfl ?_|(refine AH.mk (by simp only [Bk,GM,hn.BE,B7,BY];rfl) hfi ?_;rintro _ _ ⟨rfl,rfl⟩)|(refine Run.Bf Mr (σ2:=σ) hn.le ?_)|fail)<;>try simp only [Ag hlt,he,hge,AA,hn.BV,hout.BV,hus.BV,go_sem]));exact hxe
   |none=>
   rw [hix] at hfi hall hsn;simp only [Fi] at hfi;simp only [CW,EU] at hall hsn;have hge:decide ((0:Int)<=-1)=false:=by decide
   cases htb:CP dvs' with
   |true=>
    rw [htb] at htw hall;simp only [if_true,C3] at hall;have hxe:=herr 4 i hall;(repeat' ((first|refine wQ mxQ rfl ?_|(refine AH.mk (by simp only [Bk,GM,hn.BE,B7,BY];rfl) hfi ?_;rintro _ τ ⟨rfl,rfl⟩)|(refine Run.Bf Mr (σ2:=σ) hn.le ?_)|refine AH.det (htw) ?_|fail)<;>try simp only [Ag hlt,he,hge,AA,hn.BV,hout.BV,hus.BV,go_sem]));exact hxe
   |false=>
   rw [htb] at htw hall hsn;simp only [A3,if_false] at hall hsn;(repeat' ((first|refine wQ mxQ rfl ?_|(refine AH.mk (by simp only [Bk,GM,hn.BE,B7,BY];rfl) hfi ?_;rintro _ τ ⟨rfl,rfl⟩)|(refine DD.AJ1 (cx:=Fb) hown rfl (by simp) (by rw [AA,hhl];simp;omega) (by decide) (fun v2 τ2 ho2 hbk=>?_))|refine AH.det (htw) ?_|fail)<;>try simp only [Ag hlt,he,hge,AA,hn.BV,hout.BV,hus.BV,go_sem]));have hn2:=ho2.head;simp only at hn2;simp only [hn2.BV,A3,if_false]
   have hnp:v2.plain= .d (.sl (((CZ (ps.take i)++[(dn,dvs'.length)]).map (·.1)).map BF)):=by
    rw [hn2.plain];simp [BF]
   have hou2:J7 σ [⟨9,1,(JA (ps.take i)).map BF,usedv⟩,⟨9,1,((CZ (ps.take i)).map (·.1)).map BF++[[.str dn]],v2⟩,⟨110,3,dl.map Dat.enc,outv⟩] τ2:=
    ho2.perm (List.perm_append_comm (l₁:=[_,_]) (l₂:=[_]))
   refine AFE Q _ ps fs (CZ (ps.take i)++[(dn,dvs'.length)]) dn dvs' dcs hhd i hc1 hc2 σ τ2 outv v2 usedv (.d (.str dn)) (.d (.int .i64 dvs'.length)) ⟨rfl,rfl⟩ (JA (ps.take i)) hul _ hou2 hn2.le hnp hn2.BE (fun k=>⟨hn2.BV k,hout.BV k⟩) (fun e he'=>?_) (fun us usedv' consv' τ3 hts ho3 hle3=>?_)
   . rw [he'] at hall;exact herr e i hall
   . rw [hts] at hsn;simp only [DJ,C3] at hsn
     have ho4:J7 σ [⟨110,3,dl.map Dat.enc,outv⟩,⟨9,1,(JA (ps.take i)++dcs.map (·.name)).map BF,usedv'⟩,⟨112,2,us.map Con.enc,consv'⟩,⟨9,1,((CZ (ps.take i)).map (·.1)).map BF++[[.str dn]],v2⟩] τ3:=
      ho3.perm (List.perm_append_comm (l₁:=[_,_,_]) (l₂:=[_]))
     have hu3:=ho3.head;have hc3:=ho3.tail.head;simp only at hu3 hc3;(repeat' ((first|refine wQ mxQ rfl ?_|(refine DD.AJ1 (cx:=Fb) ho4 rfl (by simp) (by simp [hlen];omega) (by decide) (fun v5 τ5 ho5 hbk5=>?_))|fail)<;>try simp only [hw1,hc3.cell,hc3.cells,hc3.dv,AA,hn2.BV,hout.BV,hu3.BV,go_sem]));have ho6:=ho5.perm (List.perm_append_comm (l₁:=[_,_]) (l₂:=[_,_]));have h5:=ho5.head;simp only at h5
     exact ih (i+1,dl++[(⟨dn,dvs'.length,us⟩:Dat)],v5,v2,usedv',τ5) ⟨by simp only;omega,hsn,by
      have:=ho6.tail;simp only [hheads,huse];simpa [Dat.enc,BF] using this⟩ (by simp only;omega)
 . rw [AM (by omega)] at hgo;have hfin:=hok dl hgo;(repeat' ((first|refine wQ mxQ rfl ?_|(refine Run.Bf Mr (σ2:=σ) hn.le ?_)|fail)<;>try simp only [B5 hlt,AA,hn.BV,hout.BV,hus.BV,hout.BE,go_sem]));simp only [hout.plain,hout.BE,go_sem];exact hfin
end Go.Ab
namespace Go.Ab
open Go.Proofs
def wkB (ps:List DE) (fs:List FE) (dt:List Dat) (n:Int) (uv:AV):List AV:=[.d (.sl (ps.map DE.enc)),.d (.sl (fs.map FE.enc)),.d (.sl (dt.map Dat.enc)),.d (.int .i64 n),uv]
theorem Xy (ps:List DE) (fs:List FE) (dt:List Dat) (n:Int) (uv:AV) (j:Nat) (s:Str) (σ:AI) (hfl:fs.length<=1000) (hb:σ.blk j=some (wkB ps fs dt n uv)):
 AT Tzp 18 [.gp j 0,.d (.str s)] σ (fun v σ'=>v= .d (.int .i64 (Fi (C9 (Bo fs) s)))/\σ'=σ):=by
 refine X2 (by simp) ?_;rw [BK,<- Ph];unfold wkB at hb;(repeat' (refine wQ mxQ rfl ?_<;>try simp only [AA,hb,go_sem]));refine Run.At ?_;refine Run.Au ((fun (a0:AV) (a1:AV)=>fun (i:Nat)=>put 0 a0 (put 1 a1 (put 5 (.d (.int .i64 i)) U))) _ _) (fun _=>E) (fun _=>σ) (fun i=>i<=fs.length/\∀x∈(Bo fs).take i,(x==s)=false) (fun i=>fs.length - i) ?_ 0 ⟨by simp,by simp⟩;rintro i ⟨hi,hno⟩ ih;by_cases hlt:i < fs.length
 . obtain ⟨f,hf⟩:=Ai hlt;have he:=Av (enc:=FE.enc) hf;have hx:(Bo fs)[i]?=some f.name:=by rw [Bo,Aj,hf];rfl
   obtain ⟨nm,fps,⟨o,n',u,ns,ks,al⟩⟩:=f;simp only [FE.enc,Ex.A2] at he hx;cases hp:(nm==s) with
   |true=>
    (repeat' ((first|refine wQ mxQ rfl ?_|refine Run.qP Ii ?_|fail)<;>try simp only [Ag hlt,he,hb,Bd,hp,AA,go_sem]));rw [D3 (p:=fun x=>x==s) hno hx hp];rfl
   |false=>
    have hw1:=A4 (show i+1<=9000000000000000000 by omega);(repeat' (refine wQ mxQ rfl ?_<;>try simp only [Ag hlt,he,hb,hw1,Bd,hp,AA,go_sem]));exact ih (i+1) ⟨by omega,F2 (p:=fun x=>x==s) hno hx hp⟩ (by omega)
 . (repeat' ((first|refine wQ mxQ rfl ?_|refine Run.qP Ii ?_|fail)<;>try simp only [B5 hlt,hb,AA,go_sem]));rw [AM (by rw [Bo,AA];omega)] at hno;rw [D4 (p:=fun x=>x==s) hno];rfl
theorem Bz.form {σ τ:AI} {e s:Nat} {rows:List (List DV)} {v:AV} (h:Bz σ e s rows v τ):(v= .Ae/\rows=[])\/∃t,v= .own t e s rows:=by
 obtain ⟨σ1,ha,_⟩:=h.app;unfold aF at ha;split at ha
 . cases ha;exact .inl ⟨rfl,rfl⟩
 . split at ha
   . rename_i hc;cases ha;obtain ⟨rfl,rfl,_⟩:=hc;exact .inr ⟨_,rfl⟩
   . cases ha
 . cases ha
theorem AQA {xs:List (Nat×Nat)} (h:exB xs=true) (q:Nat):(xs.map (·.2)).any (fun c=>c==q)=xs.contains (Dk xs,q):=by
 cases xs with
 |nil=>rfl
 |cons x l=>
  simp only [exB,AO,A8,beq_iff_eq] at h;rw [An,Ak];simp only [List.any_map,List.any_eq_true,Function.comp,beq_iff_eq,Dk];constructor
  . rintro ⟨y,hy,rfl⟩;have:=h.1 y hy;rw [<- this];exact hy
  . intro hm;exact ⟨_,hm,rfl⟩
theorem AL6 (xs:List (Nat×Nat)) (hne:xs≠[]) (d k:Nat):(exB xs&&(d==Dk xs)&& !((xs.map (·.2)).any (fun c=>c==k)))=exB (xs++[(d,k)]):=by
 rw [AAA hne];cases he:exB xs with
 |false=>simp
 |true=>
  rw [AQA he];by_cases hd:d=Dk xs
  . simp [hd]
  . have h1:(d==Dk xs)=false:=by simpa using hd
    have h2:(d != Dk xs)=true:=by simpa using hd
    rw [h1,h2];rfl
theorem AIA {dt:List Dat} {xs:List (Nat×Nat)} (hne:xs≠[]):gL dt xs=(exB xs&&decide (xs.length=IY dt (Dk xs))):=by
 cases xs with
 |nil=>exact absurd rfl hne
 |cons x l=>rfl
def AAG (xs:List (Nat×Nat)):Int:=match xs with|[]=>-1|x::_=>x.1
theorem AML {xs:List (Nat×Nat)} (h:xs≠[]) (y:Nat×Nat):AAG (xs++[y])=AAG xs:=by
 cases xs with
 |nil=>exact absurd rfl h
 |cons x l=>rfl
theorem AMK {xs:List (Nat×Nat)} (h:xs≠[]):AAG xs=Dk xs:=by
 cases xs with
 |nil=>exact absurd rfl h
 |cons x l=>rfl
theorem AFG (Q:AV->AI->Prop) (rest:List CI) (j:Nat) (alv:AV) (i:Nat) (ys:List Nat) (sv:AV) (σ τ:AI) (ho:Bz σ 3 1 (ys.map By) sv τ) (f d c:Nat) (s0:Bool) (hlen:ys.length<=1000000) (hs0:s0=true->d=f) (halp:∀k,alv.BV k=false)
 (hfin:Run Fc Q rest (put 0 (.gp j 0) (put 1 alv (put 5 sv (put 6 (.d (.int .i64 f)) (put 7 (.d (.bool (s0&& !(ys.any (fun q=>q==c))))) (put 8 (.d (.int .i64 i)) (put 9 (.d (.int .i64 d)) (put 10 (.d (.int .i64 c)) (put 12 (.d (.int .i64 ys.length)) (put 73 (.d (.bool false)) U)))))))))) E τ):
 Run Fc Q (.code (.loop J8)::.blk 2::rest) (put 0 (.gp j 0) (put 1 alv (put 5 sv (put 6 (.d (.int .i64 f)) (put 7 (.d (.bool s0)) (put 8 (.d (.int .i64 i)) (put 9 (.d (.int .i64 d)) (put 10 (.d (.int .i64 c)) (put 12 (.d (.int .i64 0)) U))))))))) E τ:=by
 refine Run.At ?_;refine Run.Au ((fun (a0:AV) (a1:AV) (a5:AV) (a6:AV) (a8:AV) (a9:AV) (a10:AV)=>fun (q:Nat)=>put 0 a0 (put 1 a1 (put 5 a5 (put 6 a6 (put 7 (.d (.bool (s0&& !((ys.take q).any (fun q=>q==c))))) (put 8 a8 (put 9 a9 (put 10 a10 (put 12 (.d (.int .i64 q)) U))))))))) _ _ _ _ _ _ _) (fun _=>E) (fun _=>τ) (fun q=>q<=ys.length) (fun q=>ys.length - q) ?_ 0 (by simp)|>(fun h=>by simpa using h)
 rintro q hq ih;rcases ho.form with ⟨rfl,hr⟩|⟨tk,rfl⟩
 . have:ys=[]:=by simpa using hr
   subst this;have hq0:q=0:=by simpa using hq
   subst hq0;have h00:decide ((0:Int) < 0)=false:=by decide
   clear ih;(repeat' (first|(refine wQ mxQ rfl ?_<;>try simp only [List.take_nil,List.any_nil,FL,B7,h00,halp,go_sem])|(refine ⟨fun h=>?_,fun h=>?_⟩<;>first|(cases h;done)|try simp only [h])|fail));simpa using hfin
 by_cases hlt:q < ys.length
 . obtain ⟨y,hy⟩:=Ai hlt;have hw1:=A4 (show q+1<=9000000000000000000 by omega);have hi1:=ih (q+1) (by omega) (by omega);simp only at hi1;rw [Aa hy,List.any_append,MV,List.any_nil,H2] at hi1;have hey:=Av (enc:=By) hy;rw [AA6] at hey;clear ih;cases hb:(s0&& !((ys.take q).any (fun q=>q==c))) with
   |false=>
    have hb2:(s0&& !((ys.take q).any (fun q=>q==c)||y==c))=false:=by
     rw [Bool.not_or,<- Bool.and_assoc,hb,Bp]
    rw [hb2] at hi1;(repeat' (refine wQ mxQ rfl ?_<;>try simp only [Ag hlt,AA,hw1,hb,halp,go_sem]));exact hi1
   |true=>
    have hs:s0=true:=by
     cases s0 with
     |true=>rfl
     |false=>simp at hb
    have hdf:=hs0 hs;subst hdf
    have hb2:(s0&& !((ys.take q).any (fun q=>q==c)||y==c))=!(y==c):=by
     rw [Bool.not_or,<- Bool.and_assoc,hb,BY]
    rw [hb2] at hi1;have hdd:((d:Int)==(d:Int))=true:=by simp
    have hyc:((y:Int)==(c:Int))=(y==c):=AVT y c;(repeat' (refine wQ mxQ rfl ?_<;>try simp only [Ag hlt,AA,hw1,hb,halp,hey,hdd,hyc,go_sem]));exact hi1
 . have hqe:q=ys.length:=by omega
   subst hqe;have htk:ys.take ys.length=ys:=BR;(repeat' (refine wQ mxQ rfl ?_<;>try simp only [B5 hlt,AA,htk,halp,go_sem]));exact hfin
theorem AFH (ps:List DE) (fs:List FE) (dt:List Dat) (hdt:cJ dt) (n0:Int) (uv:AV) (j:Nat) (al:List Al) (σ:AI) (hal:al.length<=1000000) (hne0:al≠[]) (hb:σ.blk j=some (wkB ps fs dt n0 uv)):
 AT Tzp 45 [.gp j 0,.d (.sl (al.map Al.enc))] σ (fun v σ'=>v= .d (.int .i64 (Jm dt al))/\σ'=σ):=by
 refine gU (by simp) ?_;rw [BK];unfold wkB at hb;(repeat' (refine wQ mxQ rfl ?_<;>try simp only [AA,go_sem]));refine Run.At ?_
 refine Run.Au ((fun (a0:AV) (a1:AV)=>fun (y:Nat×List (Nat×Nat)×AV×AI)=>put 0 a0 (put 1 a1 (put 5 (y.2.2.1) (put 6 (.d (.int .i64 (AAG y.2.1))) (put 7 (.d (.bool (exB y.2.1))) (put 8 (.d (.int .i64 y.1)) U)))))) _ _) (fun _=>E) (fun y=>y.2.2.2)
  (fun y=>y.1<=al.length/\y.2.1.length=y.1/\CY dt (al.take y.1)= .ok y.2.1/\Bz σ 3 1 ((y.2.1.map (·.2)).map By) y.2.2.1 y.2.2.2) (fun y=>al.length - y.1) ?_ (0,[],.Ae,σ) ⟨by simp,rfl,rfl,Bz.nil _ _ _⟩
 rintro ⟨i,xs,sv,τ⟩ ⟨hi,hlx,hok,ho⟩ ih;simp only at hi hlx hok ho;have hb1:=ho.le.blk j _ hb;by_cases hlt:i < al.length
 . obtain ⟨a,ha⟩:=Ai hlt;have he:=Av (enc:=Al.enc) ha;have hw1:=A4 (show i+1<=9000000000000000000 by omega)
   have hall:CY dt al=(CY dt (a::al.drop (i+1))).map (xs++·):=by
    conv=>lhs;rw [<- Ad i al,Bu ha]
    exact Pn dt _ hok
   have hsn:CY dt (al.take (i+1))=(CY dt [a]).map (xs++·):=by
    rw [Aa ha];exact Pn dt _ hok
   obtain ⟨c,vs,o,n,u,ns,ks,aa⟩:=a;rw [CY] at hall hsn;simp only [Al.A2] at he;have hctr:=Rn dt hdt c τ;rw [dsA] at hctr;have herr:∀e:Int,CY dt al= .error e->Jm dt al=e:=fun e h=>by rw [Jm,h]
   cases hc:EV dt c with
   |none=>
    rw [hc] at hctr hall;simp only [ZK] at hctr;(repeat' ((first|refine wQ mxQ rfl ?_|(refine Run.Bf E2 ho.le ?_)|refine AH.det (hctr) ?_|fail)<;>try simp only [Ag hlt,he,hb1,AA,go_sem]));rw [herr 3 (by rw [hall];rfl)]
   |some x=>
   rw [hc] at hctr hall hsn;simp only [ZK] at hctr hall hsn;obtain ⟨d,cc,h1,h2,_⟩:=Pf hc;have har:=Uj (s:=[]) h1 h2;have hd:=PN h1;have hcc:=PM h2;rw [har] at hall hsn;by_cases hA:vs.length≠cc.args.length
   . rw [if_pos hA] at hall;have hA':((vs.length:Int) != (cc.args.length:Int))=true:=by rw [rN];simpa using hA
     (repeat' ((first|refine wQ mxQ rfl ?_|(refine Run.Bf E2 ho.le ?_)|refine AH.det (hctr) ?_|fail)<;>try simp only [Ag hlt,he,hb1,hd,hcc,AA,FQ,hA',go_sem]));rw [herr 5 (by rw [hall];rfl)]
   rw [if_neg hA] at hall hsn;have hA':((vs.length:Int) != (cc.args.length:Int))=false:=by rw [rN];simpa using hA
   have hrep:=Ro vs τ;cases hB:CP vs with
   |true=>
    rw [hB] at hrep hall;rw [if_pos rfl] at hall;(repeat' ((first|refine wQ mxQ rfl ?_|(refine Run.Bf E2 ho.le ?_)|refine AH.det (hctr) ?_|refine AH.det (hrep) ?_|fail)<;>try simp only [Ag hlt,he,hb1,hd,hcc,AA,FQ,hA',go_sem]));rw [herr 4 (by rw [hall];rfl)]
   |false=>
   rw [hB] at hrep hsn;rw [if_neg (by simp)] at hsn;simp only [CY,C3] at hsn;rw [show xs++[x]=xs++[(x.1,x.2)] from rfl] at hsn;have hgo:∀(sv':AV) (τ':AI),Bz σ 3 1 (((xs++[(x.1,x.2)]).map (·.2)).map By) sv' τ'->_:=fun sv' τ' h=>ih (i+1,xs++[(x.1,x.2)],sv',τ') ⟨by simp only;omega,by simp [hlx],hsn,h⟩ (by simp only;omega);simp only at hgo;clear hall hsn ih herr;have hL0:=fun Q rest f s0 (hs0:s0=true->x.1=f)=>AFG Q rest j (.d (.sl (al.map Al.enc))) i (xs.map (·.2)) sv σ τ ho f x.1 x.2 s0 (by rw [AA];omega) hs0 (fun _=>rfl);by_cases hx0:xs=[]
   . subst hx0;have hm1:decide ((-1:Int) < 0)=true:=by decide
     have hself:((x.1:Int)==(x.1:Int))=true:=by simp
     (repeat' ((first|refine wQ mxQ rfl ?_|refine AH.det (hctr) ?_|refine AH.det (hrep) ?_|fail)<;>try simp only [Ag hlt,he,hb1,hd,hcc,AA,FQ,hA',AAG,exB,hm1,hself,ho.BV,go_sem]));have h1:exB ([]++[(x.1,x.2)])=true:=by simp [exB]
     refine hL0 _ _ x.1 true (fun _=>rfl) ?_;simp only [AJ,List.any_nil,FL,B7];(repeat' ((first|refine wQ mxQ rfl ?_|(refine DD.own ho rfl (by simp) (by simp) (by decide) (fun v2 τ2 ho2 hbk=>?_))|fail)<;>try simp only [hw1,AA,ho.BV,go_sem]));have hg:=hgo v2 τ2 (by simpa [By] using ho2);rw [h1,show AAG ([]++[(x.1,x.2)])=x.1 from rfl] at hg;exact hg
   . have hf0:decide ((Dk xs:Int) < 0)=false:=decide_eq_false (by omega);have hdd:((x.1:Int)==(Dk xs:Int))=(x.1==Dk xs):=AVT _ _;have hsl:=Ji.2 hx0;have hex:=AL6 xs hx0 x.1 x.2;rw [AML hx0] at hgo;have hfi:AAG xs=(Dk xs:Int):=AMK hx0;rw [hfi,<- hex] at hgo;cases hxb:exB xs with
     |true=>
      rw [hxb,BY] at hgo;(repeat' ((first|refine wQ mxQ rfl ?_|refine AH.det (hctr) ?_|refine AH.det (hrep) ?_|fail)<;>try simp only [Ag hlt,he,hb1,hd,hcc,AA,FQ,hA',hfi,hf0,hdd,hxb,ho.BV,go_sem]));refine hL0 _ _ (Dk xs) (x.1==Dk xs) (fun h=>by simpa using h) ?_;(repeat' ((first|refine wQ mxQ rfl ?_|(refine DD.own ho rfl (by simp) (by simp;omega) (by decide) (fun v2 τ2 ho2 hbk=>?_))|fail)<;>try simp only [hw1,AA,ho.BV,go_sem]));exact hgo v2 τ2 (by simpa [By] using ho2)
     |false=>
      rw [hxb,Bp,Bp] at hgo;(repeat' ((first|refine wQ mxQ rfl ?_|refine AH.det (hctr) ?_|refine AH.det (hrep) ?_|fail)<;>try simp only [Ag hlt,he,hb1,hd,hcc,AA,FQ,hA',hfi,hf0,hdd,hxb,ho.BV,go_sem]));refine hL0 _ _ (Dk xs) false (fun h=>by cases h) ?_;rw [Bp];(repeat' ((first|refine wQ mxQ rfl ?_|(refine DD.own ho rfl (by simp) (by simp;omega) (by decide) (fun v2 τ2 ho2 hbk=>?_))|fail)<;>try simp only [hw1,AA,ho.BV,go_sem]));exact hgo v2 τ2 (by simpa [By] using ho2)
 . rw [AM (by omega)] at hok
   have hne:xs≠[]:=by
    intro e;subst e;simp at hlx;have:=Ji.2 hne0;omega
   have hres:Jm dt al=if exB xs&&decide (xs.length=IY dt (Dk xs)) then 0 else 7:=by rw [Jm,hok];simp only;rw [AIA hne]
   have hfi:AAG xs=(Dk xs:Int):=AMK hne;have hial:i=al.length:=by omega
   obtain ⟨hbd,hfd⟩:(∀x∈xs,x.2 < IY dt x.1)/\Dk xs < dt.length:=by
    refine ⟨Y2 hok,?_⟩;cases xs with
    |nil=>exact absurd rfl hne
    |cons x l=>
     have:=Y2 hok x (AS ..);simp only [Dk];unfold IY at this;cases hd:dt[x.1]? with
     |none=>rw [hd] at this;simp at this
     |some d=>exact (AG.1 hd).1
   obtain ⟨d,hd⟩:=Ai hfd;have hed:=PN hd;have hnc:IY dt (Dk xs)=d.cons.length:=pH hd
   have hne2:((al.length:Int) != (d.cons.length:Int))=!decide (xs.length=IY dt (Dk xs)):=by
    rw [rN,hnc,hlx,hial,An];simp
   cases hxb:exB xs with
   |false=>
    rw [hxb,Bp] at hres;(repeat' ((first|refine wQ mxQ rfl ?_|(refine Run.Bf E2 ho.le ?_)|fail)<;>try simp only [B5 hlt,hxb,AA,go_sem]));rw [hres];rfl
   |true=>
    rw [hxb,BY] at hres;cases hde:decide (xs.length=IY dt (Dk xs)) with
    |true=>
     rw [hde] at hne2 hres;(repeat' ((first|refine wQ mxQ rfl ?_|(refine Run.Bf E2 ho.le ?_)|fail)<;>try simp only [B5 hlt,hxb,hb1,hfi,hed,hne2,AA,go_sem]));rw [hres];rfl
    |false=>
     rw [hde] at hne2 hres;(repeat' ((first|refine wQ mxQ rfl ?_|(refine Run.Bf E2 ho.le ?_)|fail)<;>try simp only [B5 hlt,hxb,hb1,hfi,hed,hne2,AA,go_sem]));rw [hres];rfl
end Go.Ab
