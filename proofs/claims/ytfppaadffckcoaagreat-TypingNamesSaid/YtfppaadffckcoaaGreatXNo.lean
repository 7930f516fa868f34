/- Part No. Conditions: none. -/
import Derived.Test.YtfppaadffckcoaaGreatXNc
set_option linter.unusedSimpArgs false
set_option linter.unusedVariables false
set_option maxRecDepth 100000
set_option maxHeartbeats 40000000
open Go.Proofs.Tryz renaming prog→Tzp
open List renaming range'→Af,mem_of_getElem?→AE,map_cons→AD,map_nil→AJ,length_map→AA,mem_range'_1→TD,take_zero→Cn,getD_eq_getElem?_getD→Ac,take_length→BR,mem_cons→Ar,mem_cons_self→AS,mem_cons_of_mem→AR,cons_append→AZ,take_append_drop→Ad,length_cons→A1,foldl_append→Cq,replicate→AF,countP_le_length→V7,replicate_succ→B1,flatten_cons→BU,length_nil→CG,getElem?_eq_some_iff→AG,map_append→Ay,mem_append→A0,mem_singleton→A6,getElem?_cons_zero→BM,all_eq_true→A8,eq_nil_of_length_eq_zero→BP,getElem_of_mem→Bt,mem_map→Be,take_of_length_le→AM,mem_map_of_mem→Zd,ext_getElem?→FO,getElem?_set→B3,take_succ_cons→Cj,drop_succ_cons→FX,set_cons_succ→CU,getElem?_take→B2,getElem?_drop→BT,foldl_cons→Ao,getElem?_set_self→BI,getElem?_set_ne→BG,length_append→AX,length_singleton→EH,nodup_append→Gs,getElem?_eq_getElem→BB,nil_append→As,flatMap_cons→EE,sum_cons→FK,mem_append_left→Cv,getElem?_replicate→R0
open Int renaming eq_ofNat_of_zero_le→Gr,toNat_natCast→DS
open Nat renaming le_trans→Ap,le_refl→AW,lt_of_lt_of_le→CV,reduceEqDiff→C4,mul_one→A5,zero_add→BJ,add_zero→CC,strongRecOn→Qe
open Ne renaming symm→A9
open Option renaming map_some→Ah,getD_some→BC
open Option.some renaming injEq→AL
open Bool renaming and_eq_true→AO
open Prod.mk renaming injEq→Bb
open Except renaming map→C3
namespace Go.Ab
open Go.Proofs
def ADO (ar:List Nat) (ts:List Ty):Nat->Nat->SS->SS:=fun i r s=>Go.Ab.uni ((FU ar s.1 (ts.getD i (.mk 0 0 []))).2,s.2) r (FU ar s.1 (ts.getD i (.mk 0 0 []))).1
def AH4 (G:GC) (D:Dat) (ts:List Ty) (d:Nat) (ks:List Ex) (env:Env) (g:GS):Nat×GS:=
 let h:=DC G ks env 0 (ADO (Af g.nx D.vars.toNat) ts) (g.frs D.vars.toNat)
 (h.nx,h.add 5 d (Af g.nx D.vars.toNat))
theorem AFZ (B:GB) (hB:H7 B) (hD:GD B.G) (nm:Str) (nu:Int) (ns:List Str) (ks:List Ex) (al:List Al) (hk:∀k∈ks,ExC B k) (sc:List Str) (env:Env) (d c:Nat) (D:Dat) (con:Con) (hct:EV B.G.dt nm=some (d,c)) (hdd:B.G.dt[d]?=some D) (hcc:D.cons[c]?=some con) (hln:ks.length=con.args.length)
 (g:GS) (σ:AI) (j jc:Nat) (hok:∀k∈ks,OkE B.G k sc) (hes:ES sc env g) (hnx:g.nx+1000000 * (1+Ex.AU ks)<=900000000) (hen:g.en.length+Ex.AU ks<=900000000) (hg:GX B σ g j jc):
 AT Tzp 95 [.gp B.i 0,exA (.mk 6 nm nu ns ks al),.d (J9 env)] σ (fun v σ'=>v=nA (AH4 B.G D con.args d ks env g).1/\RQ B σ g (AH4 B.G D con.args d ks env g).1 (1000000 * (1+Ex.AU ks)) (Ex.AU ks) (AH4 B.G D con.args d ks env g).2 σ'):=by
 have hkl:=Ex.Bl ks;obtain ⟨v1,v2,v3,v4⟩:=hD.dt D (AE hdd);obtain ⟨c1,c2⟩:=v4 con (AE hcc);have hdr:=PN hdd;have hcr:=PM hcc;obtain ⟨Dn,Dv,Dc⟩:=D;obtain ⟨cn,ts⟩:=con;obtain ⟨n,rfl⟩:=Gr v1;simp only [DS,Ty.C1] at v1 v2 v3 v4 c1 c2 hdr hcr hcc hln ⊢;simp only [AH4,DS];have hnl:n<=1000:=by omega
 have hcs:=LV B.G.dt (fun d hd=>(hD.dt d hd).2.2.1) nm σ;rw [hct] at hcs;simp only [ZK] at hcs;have hbi:=hg.bi;refine ZP (by simp) ?_;rw [Dm];simp only [exA,Ex.A2,AD,AJ];simp only [dsA] at hbi hcs;(repeat' (first|refine ctQ rfl ?_|((first|refine rgQ mxQ ?_|refine cdQ ?_|refine AH.det (hcs) ?_|(refine A7 rfl (fun h=>?_) (fun h=>?_)<;>try (cases h;done)))<;>try simp only [hbi,hdr,go_sem])|(refine ⟨fun h=>?_,fun h=>?_⟩<;>first|(cases h;done)|try simp only [h])|fail));refine AH.mk rfl (EC B.i j g.s.1 g.s.2 B.rest σ n hg.sn (by omega) (by have:g.s.1.length=g.nx:=rfl;omega)) ?_;intro v τ0 q;obtain ⟨rfl,hnb0,j0,hg0⟩:=hg.frs hB q;clear q;have l0:g.s.1.length=g.nx:=rfl;rw [l0];simp only [go_sem];(repeat' (first|refine ctQ rfl ?_|((first|refine rgQ mxQ ?_|refine cdQ ?_|(refine A7 rfl (fun h=>?_) (fun h=>?_)<;>try (cases h;done)))<;>try simp only [AA,go_sem])|(refine ⟨fun h=>?_,fun h=>?_⟩<;>first|(cases h;done)|try simp only [h])|fail));have hn0:=bR g n;have har:∀a∈Af g.nx n,a < g.nx+n:=fun a ha=>by rw [TD] at ha;omega
 have hrl:(Af g.nx n).length=n:=by simp
 generalize Af g.nx n=ar at *;have hg0e:(g.frs n).en.length=g.en.length:=rfl;generalize g.frs n=g0 at *;refine Run.At ?_
 refine Run.Au ((fun (a0:AV) (a2:AV) (a7:AV) (a8:AV) (a10:AV) (a37:AV) (a38:AV)=>fun (z:Nat×AI)=>put 0 a0 (put 2 a2 (put 7 a7 (put 8 a8 (put 10 a10 (put 37 a37 (put 38 a38 (put 39 (.d (.int .i64 z.1)) U)))))))) _ _ _ _ _ _ _) (fun _=>E) (fun z=>z.2)
  (fun z=>z.1<=ks.length/\KS B τ0 g0 (ks.take z.1) (DC B.G (ks.take z.1) env 0 (ADO ar ts) g0) z.2)
  (fun z=>ks.length - z.1) ?_ (0,τ0) ⟨by simp,by simp only [Cn,DC];exact KS.nil hg0⟩
 rintro ⟨p,τ⟩ ⟨hp,hr⟩ ih;simp only at hp hr;by_cases hlt:p < ks.length
 . obtain ⟨k,hke⟩:=Ai hlt;have he:=Av (enc:=Ex.enc) hke;have hw1:=A4 (show p+1<=9000000000000000000 by omega);obtain ⟨hz1,hz2⟩:=Ex.Iz hke;have hsn:=VB B.G k env (ADO ar ts) (ks.take p) 0 g0;rw [<- Aa hke] at hsn;generalize DC B.G (ks.take p) env 0 (ADO ar ts) g0=q at *;obtain ⟨j1,jc1,hg1⟩:=hr.gx;have hhi:=hr.hi;have hle:=hr.le;have hen1:=hr.en;have hmem:=AE hke;have hc:=hk k hmem sc env q τ j1 jc1 (hok k hmem) (hes.le (by omega)) (by omega) (by omega) hg1;generalize Bg B.G k env q=r at *;obtain ⟨t,ht⟩:=Ai (show p < ts.length by omega);have htr:=Av (enc:=Ty.enc) ht;have htm:=AE ht;have htv:=UP c1 t htm;have hts:=Ap (Ty.Yk htm) c2;have hke':=hke;have hbq:=hg1.bi;simp only [dsA] at hbq;obtain ⟨o,n',u',ns',kk,al'⟩:=k;obtain ⟨tk,tn,tl⟩:=t;simp only [Ex.A2,exA,AD,AJ] at he hc;have hte:(Ty.mk tk tn tl).enc=[.int .i64 tk,.int .i64 tn,.sl (tl.map Ty.enc)]:=by simp [Ty.enc,Ty.C1]
   rw [hte] at htr;(repeat' (first|refine ctQ rfl ?_|((first|refine rgQ mxQ ?_|refine cdQ ?_|(refine A7 rfl (fun h=>?_) (fun h=>?_)<;>try (cases h;done)))<;>try simp only [Ag hlt,he,go_sem])|(refine ⟨fun h=>?_,fun h=>?_⟩<;>first|(cases h;done)|try simp only [h])|fail));refine Run.Jf mixed ?_;simp only [hbq,hdr,hcr,htr,go_sem]
   have hcf:∀(s:SS) (m:Nat),ADO ar ts (0+(ks.take p).length) m s=Go.Ab.uni ((FU ar s.1 (.mk tk tn tl)).2,s.2) m (FU ar s.1 (.mk tk tn tl)).1:=fun s m=>by
    rw [ADO,show 0+(ks.take p).length=p from by simp;omega,Ac,ht];rfl
   refine ⟨?_,?_,?_,?_,?_⟩<;>
   . refine AH.mk rfl hc ?_;rintro _ τ1 ⟨rfl,hq⟩;simp only [nA];obtain ⟨j2,jc2,hg2⟩:=hq.gx;have hql':=hq.le;have hqh:=hq.hi;have hb2:=hg2.bi;simp only [dsA] at hb2;simp only [hb2,hdr,hcr,htr,go_sem];have hrn:r.2.s.1.length=r.2.nx:=rfl;have hal:∀a∈ar,a < r.2.s.1.length:=fun a ha=>by have:=har a ha;omega
     have hic:=Hh B.i B.rest ar _ (.mk tk tn tl) (AW _) (by rw [hrl];exact htv) r.2.s.1 r.2.s.2 j2 τ1 hal (by omega) hg2.sn;rw [AO0] at hic;refine AH.mk rfl hic ?_;rintro _ τ2 ⟨rfl,j3,sn3,fr3⟩;simp only [nA];simp only [go_sem];have hli:=dZ ar r.2.s.1 (.mk tk tn tl);have hll:=oT (ar:=ar) (l:=r.2.s.1) (t:= .mk tk tn tl) (by rw [hrl];exact htv) hal;have hlo:=hli.le;have hlh:=hli.hi;have hg3:=hg2.step hB (s:=((FU ar r.2.s.1 (.mk tk tn tl)).2,r.2.s.2)) sn3 fr3 hli.le;have hqt:=hq.lt;refine AH.mk rfl (C0 B.i B.rest _ _ r.2.s.2 j3 r.1 _ τ2 (O7 _) hg3.sn (by simp only [GS.nx] at *;omega) hll (by simp only [GS.nx] at *;omega)) ?_;intro v4 τ3 q4;obtain ⟨hn4,j4,hg4⟩:=hg3.uni hB q4;simp only [go_sem];(repeat' (first|refine ctQ rfl ?_|((first|refine rgQ mxQ ?_|refine cdQ ?_|(refine A7 rfl (fun h=>?_) (fun h=>?_)<;>try (cases h;done)))<;>try simp only [hw1,go_sem])|(refine ⟨fun h=>?_,fun h=>?_⟩<;>first|(cases h;done)|try simp only [h])|fail));refine ih ⟨p+1,τ3⟩ ⟨hlt,?_⟩ (by simp only;omega);simp only [hsn,hcf];have hlu:=yL ((FU ar r.2.s.1 (.mk tk tn tl)).2,r.2.s.2) r.1 (FU ar r.2.s.1 (.mk tk tn tl)).1;refine hr.snoc hke' hq (BD fr3.nb hn4) hg4 ?_ ?_ rfl
     . show _<=(Go.Ab.uni _ _ _).1.length;rw [hlu];simp only [GS.nx] at *;omega
     . show (Go.Ab.uni _ _ _).1.length<=_;rw [hlu];simp only [GS.nx] at *;omega
 . have hpe:p=ks.length:=by omega
   subst hpe;rw [BR] at hr;obtain ⟨j1,jc1,hg1⟩:=hr.gx;have hhi:=hr.hi;have hle:=hr.le;have hen1:=hr.en;generalize DC B.G ks env 0 (ADO ar ts) g0=q at *;have hql:q.s.1.length=q.nx:=rfl;(repeat' (first|refine ctQ rfl ?_|((first|refine rgQ mxQ ?_|refine cdQ ?_|(refine A7 rfl (fun h=>?_) (fun h=>?_)<;>try (cases h;done)))<;>try simp only [B5 hlt,go_sem])|(refine ⟨fun h=>?_,fun h=>?_⟩<;>first|(cases h;done)|try simp only [h])|fail));refine AH.mk rfl (KI B.i j1 q.s.1 q.s.2 B.rest τ 5 d (.d (.sl (ar.map By))) ar hg1.sn (SB.d _) (fun a ha=>by have:=har a ha;omega) (by omega)) ?_;intro v σ' q3;obtain ⟨rfl,hn3,j3,hg3⟩:=hg1.add hB q3;simp only [nA];simp only [go_sem];(repeat' (first|refine ctQ rfl ?_|((first|refine rgQ mxQ ?_|refine cdQ ?_|refine Run.qP Og ?_|(refine A7 rfl (fun h=>?_) (fun h=>?_)<;>try (cases h;done)))<;>try simp only [go_sem])|(refine ⟨fun h=>?_,fun h=>?_⟩<;>first|(cases h;done)|try simp only [h])|fail));exact ⟨rfl,BD (BD hnb0 hr.nb) hn3,⟨j3,jc1,hg3⟩,by rw [Cz];omega,by rw [Cz];omega,by rw [Cz];omega,by rw [wL];omega⟩
end Go.Ab
namespace Go.Ab
open Go.Proofs
def WkT (F F':Fm):Prop:=∀s,F' s=F s\/((F s).BE=true/\F' s=(F s).plain)
theorem Run.AS6 {cx:Cx} {KK:AV->AI->Prop} {k:List CI} {F F':Fm} {L:Lm} {σ:AI} (hF:WkT F F') (h:Run cx KK k F' L σ):Run cx KK k F L σ:=by
 intro items base g lam Pr a w0 w b cs0 hi0 hf hb hk;refine h items base g lam Pr a w0 w b cs0 hi0 ⟨fun s=>?_,hf.sz,hf.df,hf.loc,hf.inj,hf.npr,hf.rel⟩ hb hk;rcases hF s with e|e
 . rw [e];exact hf.tm s
 . rw [e.2];exact SV.Fk (SV.vr e.1 (hf.tm s)).plain
theorem WkT.refl (F:Fm):WkT F F:=fun _=>.inl rfl
theorem WkT.skip {F F':Fm} (h:WkT F F') (s:Nat) (x:AV):WkT (put s x F) (put s x F'):=fun s'=>by
 by_cases e:s'=s
 . subst e;exact .inl (by simp [put])
 . rcases h s' with h|h
   . exact .inl (by simp [put,e,h])
   . exact .inr (by simp [put,e,h])
theorem WkT.here {F F':Fm} (h:WkT F F') (s:Nat) {v w:AV} (hn:v.BE=true) (hp:v.plain=w):WkT (put s v F) (put s w F'):=fun s'=>by
 by_cases e:s'=s
 . subst e;exact .inr (by simp [put,hn,hp])
 . rcases h s' with h|h
   . exact .inl (by simp [put,e,h])
   . exact .inr (by simp [put,e,h])
theorem pB:∀(ns:List Str) (ts:List Nat) (env:Env) (s:Str),ns.length=ts.length->s≠[]->(Lr (CN env ns ts) s).isSome=((Lr env s).isSome||ns.contains s)
 |[],[],env,s,_,_=>by simp [CN]
 |[],_::_,_,_,h,_=>by simp at h
 |_::_,[],_,_,h,_=>by simp at h
 |n::ns,t::ts,env,s,h,hs=>by
  rw [CN,pB ns ts _ s (by simpa using h) hs];by_cases hn:n=[]
  . subst hn;simp [hs]
  . rw [if_neg hn,Lr];by_cases e:n=s
    . subst e;simp
    . simp [e,A9 e]
theorem AA2:∀ {ns:List Str} {ts:List Nat} {env:Env} {x:Str×Nat},x∈CN env ns ts->x∈env\/x.2∈ts
 |[],ts,env,x,h=>by simp only [CN] at h;exact .inl h
 |_::_,[],env,x,h=>by simp only [CN] at h;exact .inl h
 |n::ns,t::ts,env,x,h=>by
  rw [CN] at h;rcases AA2 h with h|h
  . split at h
    . exact .inl h
    . rcases Ar.1 h with rfl|h
      . exact .inr (AS)
      . exact .inl h
  . exact .inr (AR _ h)
theorem ES.with {sc:List Str} {env:Env} {g:GS} (h:ES sc env g) {ns:List Str} {ts:List Nat} (hl:ns.length=ts.length) {g':GS} (hle:g.nx<=g'.nx) (ht:∀t∈ts,t < g'.nx):ES (sc++ns) (CN env ns ts) g':=by
 refine ⟨fun s hs=>?_,fun x hx=>?_⟩
 . rw [pB ns ts env s hl hs,h.sc s hs,List.contains_append]
 . rcases AA2 hx with hx|hx
   . exact CV (h.lt x hx) hle
   . exact ht _ hx
def yZ (G:GC) (D:Dat) (env:Env) (ar:List Nat) (t:Nat) (g:GS):Al->GS
 | .mk c vs b=>
  let q:=Bh ar g.s.1 (((D.cons[((EV G.dt c).map (·.2)).getD 0]?).map Con.args).getD [])
  let r:=Bg G b (CN env vs q.1) { g with s:=(q.2,g.s.2)}
  r.2.uni r.1 t
theorem mW (G:GC) (D:Dat) (env:Env) (ar:List Nat) (t:Nat):∀(al:List Al) (g:GS),M3 G al env D ar t g=al.foldl (yZ G D env ar t) g
 |[],g=>by simp [M3]
 | .mk c vs b::al,g=>by rw [M3,mW G D env ar t al];rfl
theorem Al.LB (a b:List Al):Al.AU (a++b)=Al.AU a+Al.AU b:=by
 induction a with
 |nil=>simp [Al.AU]
 |cons x a ih=>simp only [AZ,Al.AU,ih];omega
theorem Al.Iz {ks:List Al} {p:Nat} {k:Al} (h:ks[p]?=some k):Al.AU (ks.take (p+1))=Al.AU (ks.take p)+k.size/\Al.AU (ks.take p)+k.size<=Al.AU ks:=by
 have h1:Al.AU (ks.take (p+1))=Al.AU (ks.take p)+k.size:=by rw [Aa h,Al.LB];simp [Al.AU]
 refine ⟨h1,?_⟩;rw [<- h1]
 conv=>rhs;rw [<- Ad (p+1) ks,Al.LB]
 omega
theorem Al.o7:∀ks:List Al,ks.length<=Al.AU ks
 |[]=>AW _
 | .mk _ _ b::ks=>by have:=Al.o7 ks;have:=Ex.size_pos b;simp only [A1,Al.AU,Al.size];omega
structure KA (B:GB) (σ:AI) (g:GS) (al:List Al) (g':GS) (σ':AI):Prop where
 nb:(nbH σ).le σ'
 gx:∃j jc,GX B σ' g' j jc
 le:g.nx<=g'.nx
 hi:g'.nx<=g.nx+1000000 * Al.AU al
 en:g'.en.length=g.en.length+Al.AU al
theorem KA.nil {B:GB} {σ:AI} {g:GS} {j jc:Nat} (h:GX B σ g j jc):KA B σ g [] g σ:=⟨IZ σ,⟨j,jc,h⟩,AW _,by simp [Al.AU],by simp [Al.AU]⟩
theorem it0:Int.toNat 0=0:=rfl
theorem it1:Int.toNat 1=1:=rfl
theorem it2:Int.toNat 2=2:=rfl
theorem il0:((0:Int)<=0)=True:=by simp
theorem il1:((0:Int)<=1)=True:=by simp
theorem il2:((0:Int)<=2)=True:=by simp
def AJL (G:GC) (D:Dat) (d:Nat) (ks:List Ex) (al:List Al) (env:Env) (g:GS):Nat×GS:=
 let ar:=Af g.nx D.vars.toNat
 let q:=Gw G ks env (g.frs D.vars.toNat)
 let h:=(q.2.add 5 d ar).uni q.1 q.2.nx
 (h.nx,M3 G al env D ar h.nx (h.add 0 0 []))
theorem ACC (B:GB) (hB:H7 B) (hD:GD B.G) (nm:Str) (nu:Int) (ns:List Str) (k:Ex) (al:List Al) (hk:ExC B k) (hka:∀a∈al,ExC B a.body) (sc:List Str) (env:Env) (d:Nat) (D:Dat) (hdd:B.G.dt[d]?=some D) (hne:al≠[])
 (hal:∀a∈al,∃c con,EV B.G.dt a.con=some (d,c)/\D.cons[c]?=some con/\a.vars.length=con.args.length)
 (g:GS) (σ:AI) (j jc:Nat) (hok:OkE B.G k sc) (hoka:∀a∈al,OkE B.G a.body (sc++a.vars)) (hes:ES sc env g) (hnx:g.nx+1000000 * (1+Ex.AU [k]+Al.AU al)<=900000000) (hen:g.en.length+(Ex.AU [k]+Al.AU al)<=900000000) (hg:GX B σ g j jc):
 AT Tzp 96 [.gp B.i 0,exA (.mk 10 nm nu ns [k] al),.d (J9 env)] σ (fun v σ'=>v=nA (AJL B.G D d [k] al env g).1/\RQ B σ g (AJL B.G D d [k] al env g).1 (1000000 * (1+Ex.AU [k]+Al.AU al)) (Ex.AU [k]+Al.AU al) (AJL B.G D d [k] al env g).2 σ'):=by
 have hkl:=Al.o7 al;obtain ⟨v1,v2,v3,v4⟩:=hD.dt D (AE hdd);have hdr:=PN hdd;have hsk:Ex.AU [k]=k.size:=by simp [Ex.AU]
 rw [hsk] at hnx hen ⊢;obtain ⟨Dn,Dv,Dc⟩:=D;obtain ⟨n,rfl⟩:=Gr v1;simp only [DS] at v1 v2 v3 v4 hdr hal;simp only [AJL,DS,Gw];have hnl:n<=1000:=by omega
 have hcs:=fun (s:Str) (τ:AI)=>LV B.G.dt (fun d hd=>(hD.dt d hd).2.2.1) s τ
 obtain ⟨a0,al',rfl⟩:∃a l,al=a::l:=by
  cases al with
  |nil=>exact absurd rfl hne
  |cons a l=>exact ⟨a,l,rfl⟩
 obtain ⟨c0,con0,ha0,_,_⟩:=hal a0 (AS);have hcs0:=hcs a0.con σ;rw [ha0] at hcs0;simp only [ZK,dsA] at hcs0;have h0r:((a0::al').map Al.enc)[0]?=some a0.enc:=rfl;generalize hall:a0::al'=al at *;have hbi:=hg.bi;obtain ⟨an,av,ab⟩:=a0;obtain ⟨ao,an2,anu,ans,aks,aal⟩:=ab;simp only [Al.A2,Al.con] at h0r hcs0;refine Xb (by simp) ?_;rw [Dm];obtain ⟨o,n',u',ns',kk,al2⟩:=k;simp only [exA,Ex.A2,AD,AJ];simp only [dsA] at hbi;(repeat' (first|refine ctQ rfl ?_|((first|refine rgQ mxQ ?_|refine cdQ ?_|refine AH.det (hcs0) ?_|(refine A7 rfl (fun h=>?_) (fun h=>?_)<;>try (cases h;done)))<;>try simp only [hbi,hdr,h0r,il0,it0,go_sem])|(refine ⟨fun h=>?_,fun h=>?_⟩<;>first|(cases h;done)|try simp only [h])|fail));refine AH.mk rfl (EC B.i j g.s.1 g.s.2 B.rest σ n hg.sn (by omega) (by have:g.s.1.length=g.nx:=rfl;omega)) ?_;intro v τ0 q;obtain ⟨rfl,hnb0,j0,hg0⟩:=hg.frs hB q;clear q;have l0:g.s.1.length=g.nx:=rfl;rw [l0];simp only [go_sem];have hn0:=bR g n;have har:∀a∈Af g.nx n,a < g.nx+n:=fun a ha=>by rw [TD] at ha;omega
 have hrl:(Af g.nx n).length=n:=by simp
 generalize Af g.nx n=ar at *;have hg0e:(g.frs n).en.length=g.en.length:=rfl;generalize g.frs n=g0 at *;have hc:=hk sc env g0 τ0 j0 jc hok (hes.le (by omega)) (by omega) (by omega) hg0;generalize Bg B.G _ env g0=r at *;simp only [Ex.A2,exA,AD,AJ] at hc;have hk0:([Ex.enc (.mk o n' u' ns' kk al2)])[0]?=some [.int .i64 o,.str n',.int .i64 u',.sl (ns'.map BF),.sl (kk.map Ex.enc),.sl (al2.map Al.enc)]:=by rw [Ex.A2];rfl
 (repeat' (first|refine ctQ rfl ?_|((first|refine rgQ mxQ ?_|refine cdQ ?_|(refine A7 rfl (fun h=>?_) (fun h=>?_)<;>try (cases h;done)))<;>try simp only [il0,it0,Ex.A2,go_sem])|(refine ⟨fun h=>?_,fun h=>?_⟩<;>first|(cases h;done)|try simp only [h])|fail));refine AH.mk rfl hc ?_;rintro _ τ1 ⟨rfl,hq⟩;simp only [nA];simp only [go_sem];obtain ⟨j2,jc2,hg2⟩:=hq.gx;have hql':=hq.le;have hqh:=hq.hi;have hqe:=hq.en;have hqt:=hq.lt;have hrn:r.2.s.1.length=r.2.nx:=rfl;refine AH.mk rfl (KI B.i j2 r.2.s.1 r.2.s.2 B.rest τ1 5 d (.d (.sl (ar.map By))) ar hg2.sn (SB.d _) (fun a ha=>by have:=har a ha;omega) (by omega)) ?_;intro v τ2 q;obtain ⟨rfl,hn3,j3,hg3⟩:=hg2.add hB q;clear q;simp only [nA];simp only [go_sem];have hna:=Cz r.2 5 d ar;have hna':(r.2.add 5 d ar).s.1.length=r.2.nx+1:=hna;refine AH.mk rfl (C0 B.i B.rest _ _ (r.2.add 5 d ar).s.2 j3 r.1 r.2.s.1.length τ2 (O7 _) hg3.sn (by omega) (by omega) (by omega)) ?_;intro v40 τ3 q4;obtain ⟨hn4,j4,hg4⟩:=hg3.uni hB q4;clear q4;rw [hrn] at hg4;simp only [go_sem];have hnu:=NC (r.2.add 5 d ar) r.1 r.2.nx;have heu:((r.2.add 5 d ar).uni r.1 r.2.nx).en.length=r.2.en.length:=rfl;generalize (r.2.add 5 d ar).uni r.1 r.2.nx=h at *
 have hhl:h.s.1.length=h.nx:=rfl;(repeat' (first|refine ctQ rfl ?_|((first|refine rgQ mxQ ?_|refine cdQ ?_|(refine A7 rfl (fun h=>?_) (fun h=>?_)<;>try (cases h;done)))<;>try simp only [go_sem])|(refine ⟨fun h=>?_,fun h=>?_⟩<;>first|(cases h;done)|try simp only [h])|fail));refine AH.mk rfl (GR B.i j4 h.s.1 h.s.2 B.rest τ3 hg4.sn (by omega)) ?_;intro v τ4 q;obtain ⟨rfl,hn5,j5,hg5⟩:=hg4.add hB q;clear q;rw [hhl];simp only [nA];simp only [go_sem];have hnh:=Cz h 0 0 [];have heh:(h.add 0 0 []).en.length=h.en.length:=rfl;generalize h.add 0 0 []=g1 at *;have ht:h.nx < g1.nx:=by omega
 generalize h.nx=t at *;rw [mW];(repeat' (first|refine ctQ rfl ?_|((first|refine rgQ mxQ ?_|refine cdQ ?_|(refine A7 rfl (fun h=>?_) (fun h=>?_)<;>try (cases h;done)))<;>try simp only [AA,go_sem])|(refine ⟨fun h=>?_,fun h=>?_⟩<;>first|(cases h;done)|try simp only [h])|fail));refine Run.At ?_
 refine Run.Au ((fun (a0:AV) (a2:AV) (a7:AV) (a10:AV) (a11:AV) (a67:AV) (a68:AV)=>fun (z:Nat×AI)=>put 0 a0 (put 2 a2 (put 7 a7 (put 10 a10 (put 11 a11 (put 67 a67 (put 68 a68 (put 69 (.d (.int .i64 z.1)) U)))))))) _ _ _ _ _ _ _) (fun _=>E) (fun z=>z.2)
  (fun z=>z.1<=al.length/\KA B τ4 g1 (al.take z.1) ((al.take z.1).foldl (yZ B.G ⟨Dn,n,Dc⟩ env ar t) g1) z.2)
  (fun z=>al.length - z.1) ?_ (0,τ4) ⟨by simp,by simp only [Cn,List.foldl_nil];exact KA.nil hg5⟩
 rintro ⟨p,τ⟩ ⟨hp,hr⟩ ih;simp only at hp hr;by_cases hlt:p < al.length
 . obtain ⟨a,hae⟩:=Ai hlt;have he:=Av (enc:=Al.enc) hae;have hw1:=A4 (show p+1<=9000000000000000000 by omega);obtain ⟨hz1,hz2⟩:=Al.Iz hae
   have hsn:(al.take (p+1)).foldl (yZ B.G ⟨Dn,n,Dc⟩ env ar t) g1=yZ B.G ⟨Dn,n,Dc⟩ env ar t ((al.take p).foldl (yZ B.G ⟨Dn,n,Dc⟩ env ar t) g1) a:=by
    rw [Aa hae,Cq];rfl
   generalize (al.take p).foldl (yZ B.G ⟨Dn,n,Dc⟩ env ar t) g1=q at *;obtain ⟨j1,jc1,hq1⟩:=hr.gx;have hhi:=hr.hi;have hle:=hr.le;have hen1:=hr.en;have hmem:=AE hae;obtain ⟨cb,con,hcb,hcon,hvl⟩:=hal a hmem;have hcr:=PM hcon;obtain ⟨c1,c2⟩:=v4 con (AE hcon);have hxb:=hka a hmem;have hob:=hoka a hmem;have hcsa:=hcs a.con τ;rw [hcb] at hcsa;have hbq:=hq1.bi;simp only [ZK,dsA] at hcsa hbq;obtain ⟨cn,ts⟩:=con;obtain ⟨ac,avs,bd⟩:=a;simp only [Al.con,Al.vars,Al.body,Al.size,Ty.C1] at hcb hcr hvl hxb hob hcsa c1 c2 hz1 hz2;have hqn:q.s.1.length=q.nx:=rfl;have hal2:∀a∈ar,a < q.s.1.length:=fun a ha=>by have:=har a ha;omega
   have hinT:∀t∈ts,AGC B.i B.rest ar t:=fun t ht=>Hh B.i B.rest ar t.size t (AW _) (by rw [hrl];exact UP c1 t ht);have hli:=Mv ar q.s.1 ts;have hlo:=hli.le;have hlh:=hli.hi;have hlt1:=Yc (ar:=ar) (l:=q.s.1) (ts:=ts) (by rw [hrl];exact c1) hal2;have hll:=Mw ar q.s.1 ts
   have hst:yZ B.G ⟨Dn,n,Dc⟩ env ar t q (.mk ac avs bd)=((Bg B.G bd (CN env avs (Bh ar q.s.1 ts).1) { q with s:=((Bh ar q.s.1 ts).2,q.s.2)}).2.uni (Bg B.G bd (CN env avs (Bh ar q.s.1 ts).1) { q with s:=((Bh ar q.s.1 ts).2,q.s.2)}).1 t):=by
    rw [yZ,hcb];simp only [Ah,BC,hcon]
   rw [hst] at hsn;have hsp:=Ex.size_pos bd;obtain ⟨bo,bn,bu,bns,bks,bal⟩:=bd;rw [Al.A2] at he;(repeat' (first|refine ctQ rfl ?_|((first|refine rgQ mxQ ?_|refine cdQ ?_|refine AH.det (hcsa) ?_|(refine A7 rfl (fun h=>?_) (fun h=>?_)<;>try (cases h;done)))<;>try simp only [Ag hlt,he,hbq,hdr,hcr,go_sem])|(refine ⟨fun h=>?_,fun h=>?_⟩<;>first|(cases h;done)|try simp only [h])|fail));refine AH.mk rfl (Jh B.i B.rest ar ts hinT q.s.1 q.s.2 j1 τ hal2 (by omega) hq1.sn) ?_;rintro v5 τ5 ⟨ho,j6,sn6,fr6⟩;simp only [ho.w4,go_sem];refine Run.AS6 (WkT.skip (WkT.skip (WkT.skip (WkT.skip (WkT.skip (WkT.skip (WkT.here (WkT.refl _) 17 ho.BE ho.plain) _ _) _ _) _ _) _ _) _ _) _ _) ?_;have hq6:=hq1.step hB (s:=((Bh ar q.s.1 ts).2,q.s.2)) sn6 fr6 hli.le;have hwc:=KD (.d (J9 env)) env (PlV.d _) avs (Bh ar q.s.1 ts).1 (by rw [hll];exact hvl) τ5;have hee:({ q with s:=((Bh ar q.s.1 ts).2,q.s.2)}:GS).en.length=q.en.length:=rfl;have hen6:({ q with s:=((Bh ar q.s.1 ts).2,q.s.2)}:GS).nx=(Bh ar q.s.1 ts).2.length:=rfl;have hes6:=(hes.le (show g.nx<=q.nx by omega)).with (ns:=avs) (ts:=(Bh ar q.s.1 ts).1) (g':= { q with s:=((Bh ar q.s.1 ts).2,q.s.2)}) (by rw [hll];exact hvl) hli.le hlt1
   generalize ({ q with s:=((Bh ar q.s.1 ts).2,q.s.2)}:GS)=q6 at *;have hcx:=hxb (sc++avs) (CN env avs (Bh ar q.s.1 ts).1) q6 τ5 j6 jc1 hob hes6 (by omega) (by omega) hq6;generalize Bg B.G _ (CN env avs (Bh ar q.s.1 ts).1) q6=r7 at *;simp only [exA,Ex.A2,AD,AJ] at hcx;(repeat' (first|refine ctQ rfl ?_|((first|refine rgQ mxQ ?_|refine cdQ ?_|refine AH.det (hwc) ?_|(refine A7 rfl (fun h=>?_) (fun h=>?_)<;>try (cases h;done)))<;>try simp only [go_sem])|(refine ⟨fun h=>?_,fun h=>?_⟩<;>first|(cases h;done)|try simp only [h])|fail));refine AH.mk rfl hcx ?_;rintro _ τ7 ⟨rfl,hq7⟩;simp only [nA];simp only [go_sem];obtain ⟨j8,jc8,hg8⟩:=hq7.gx;have h7l:=hq7.le;have h7h:=hq7.hi;have h7e:=hq7.en;have h7n:r7.2.s.1.length=r7.2.nx:=rfl;refine AH.mk rfl (C0 B.i B.rest _ _ r7.2.s.2 j8 r7.1 t τ7 (O7 _) hg8.sn hq7.lt (by omega) (by omega)) ?_;intro v8 τ8 q8;obtain ⟨hn8,j9,hg9⟩:=hg8.uni hB q8;simp only [go_sem];(repeat' (first|refine ctQ rfl ?_|((first|refine rgQ mxQ ?_|refine cdQ ?_|(refine A7 rfl (fun h=>?_) (fun h=>?_)<;>try (cases h;done)))<;>try simp only [hw1,go_sem])|(refine ⟨fun h=>?_,fun h=>?_⟩<;>first|(cases h;done)|try simp only [h])|fail));have hnu9:=NC r7.2 r7.1 t
   have heu9:=AL4 r7.2 r7.1 t;refine ih ⟨p+1,τ8⟩ ⟨hlt,?_⟩ (by simp only;omega);simp only [hsn];exact ⟨BD (BD (BD hr.nb fr6.nb) hq7.nb) hn8,⟨j9,jc8,hg9⟩,by omega,by omega,by rw [heu9];omega⟩
 . have hpe:p=al.length:=by omega
   subst hpe;rw [BR] at hr;have hhi:=hr.hi;have hle:=hr.le;have hen1:=hr.en;(repeat' (first|refine ctQ rfl ?_|((first|refine rgQ mxQ ?_|refine cdQ ?_|refine Run.qP Nl ?_|(refine A7 rfl (fun h=>?_) (fun h=>?_)<;>try (cases h;done)))<;>try simp only [B5 hlt,go_sem])|(refine ⟨fun h=>?_,fun h=>?_⟩<;>first|(cases h;done)|try simp only [h])|fail));exact ⟨BD (BD (BD (BD (BD (BD hnb0 hq.nb) hn3) hn4) hn5) (IZ _)) hr.nb,hr.gx,by omega,by omega,by omega,by omega⟩
end Go.Ab
namespace Go.Ab
open Go.Proofs
def ACD (l:List Nd) (ts:List Nat):List Nat:=(ts.foldl (fun s a=>JO l (l.length+1) s a) (AF l.length false,[])).2
def exU (i j js j5:Nat) (τ:AI) (k:Nat):Option (List AV):=if k=j5 then none else exT i j js τ k
theorem AD0 (n:Nat):fz (AF n false)<=n:=by
 have:=V7 (p:=fun x:Bool=>x==false) (l:=AF n false);simpa [fz] using this
theorem tN (n:Nat):(AF n [AV.d (.bool false)]).flatten=BX (AF n false):=by
 induction n with
 |zero=>rfl
 |succ n ih=>rw [B1,BU,ih,B1];rfl
theorem dK {i j js j5 k:Nat} {τ:AI} {c:List AV} (h:τ.blk k=some c) (h1:k≠i) (h2:k≠j) (h3:k≠js) (h4:k≠j5):exU i j js j5 τ k=some c:=by
 rw [exU,if_neg h4];exact Jr h h1 h2 h3
theorem SX.AXM {σ τ τ':AI} {i j j' js j5:Nat} {l:List Nd} {fl:Bool} {rest cs:List AV} (hl:l≠[]) (m:Mo σ τ) (hn:σ.blk js=none) (hn5:σ.blk j5=none) (h:SX (exU i j js j5 τ) τ' i l fl rest j' js cs) (hnb:(nbH σ).le τ') (h5:j5≠j'):SN τ' i l fl rest j'/\Fr σ i l j τ' l j':=by
 refine ⟨h.sn,⟨fun k h1 h2 h3=>?_,fun _=>by rw [h.sn.blk];simp,fun _=>?_,hnb.gt.symm,hnb.tok,hnb.bt⟩⟩
 . cases hk:σ.blk k with
   |none=>exact absurd hk h3
   |some c=>exact h.x k c (dK (m.blk k c hk) h1 (h2 hl) (fun e=>by rw [e,hn] at hk;cases hk) (fun e=>by rw [e,hn5] at hk;cases hk))
 . obtain ⟨hji,_⟩:=h.sn.nd hl;have hx:=h.xj hl;have hsj:=h.sj hl;by_cases e:j'=j
   . exact .inl ⟨hl,e⟩
   . right;unfold exU exT at hx;rw [if_neg (A9 h5),if_neg (by simp [hji,e,A9 hsj])] at hx;exact m.ne hx
theorem cD (i:Nat) (rest:List AV) (l:List Nd) (fl:Bool) (j:Nat) (σ:AI) (ts:List Nat) (v:AV) (hv1:v.BE=true) (hv2:v.plain= .d (.sl (ts.map By))) (hts:∀a∈ts,a < l.length) (hl0:l≠[]) (hln:l.length<=900000000) (h:SN σ i l fl rest j):
 AT Tzp 102 [.gp i 0,v] σ (SNQ σ i l rest j (l,fl) (.d (.sl ((ACD l ts).map By)))):=by
 have hbi:=h.blk;rw [FH hl0] at hbi;obtain ⟨hji,c0,hc0,hbj⟩:=h.nd hl0;refine Sc (by simp) ?_;rw [BK];refine Run.AS6 (WkT.skip (WkT.here (WkT.refl _) 1 hv1 hv2) _ _) ?_;clear hv1 hv2 v;(repeat' (first|refine ctQ rfl ?_|((first|refine rgQ mxQ ?_|refine cdQ ?_|(refine A7 rfl (fun h=>?_) (fun h=>?_)<;>try (cases h;done)))<;>try simp only [go_sem])|(refine ⟨fun h=>?_,fun h=>?_⟩<;>first|(cases h;done)|try simp only [h])|fail));intro j2 hj2;have m2:=(Mo.refl σ).new hj2 [AV.gp i 0];have f2:(σ.AP j2 [AV.gp i 0]).blk j2=some [AV.gp i 0]:=B0;generalize σ.AP j2 [AV.gp i 0]=τ2 at *;(repeat' (first|refine ctQ rfl ?_|((first|refine rgQ mxQ ?_|refine cdQ ?_|(refine A7 rfl (fun h=>?_) (fun h=>?_)<;>try (cases h;done)))<;>try simp only [go_sem])|(refine ⟨fun h=>?_,fun h=>?_⟩<;>first|(cases h;done)|try simp only [h])|fail));intro j5 hj5;have m5:=(Mo.refl τ2).ABA hj5 [AV.Ae] [AV.Ae] (1,74);have f5:(((τ2.AP j5 [AV.Ae]).CH j5 (1,74)).AP j5 [AV.Ae]).blk j5=some [AV.Ae]:=B0;have he5:((τ2.AP j5 [AV.Ae]).CH j5 (1,74))=(((τ2.AP j5 [AV.Ae]).CH j5 (1,74)).AP j5 [AV.Ae]):=(Ix (by rw [JL,AK,if_pos rfl])).symm;rw [he5];generalize ((τ2.AP j5 [AV.Ae]).CH j5 (1,74)).AP j5 [AV.Ae]=τ5 at *
 have hbi5:=m5.blk _ _ (m2.blk _ _ hbi);have f25:=m5.blk _ _ f2;(repeat' (first|refine ctQ rfl ?_|((first|refine rgQ mxQ ?_|refine cdQ ?_|(refine A7 rfl (fun h=>?_) (fun h=>?_)<;>try (cases h;done)))<;>try simp only [hbi5,f25,go_sem])|(refine ⟨fun h=>?_,fun h=>?_⟩<;>first|(cases h;done)|try simp only [h])|fail));refine PC.mk l.length (by omega) (by omega) (fun js hjs=>?_);rw [tN];have ms:=(Mo.refl τ5).new hjs (BX (AF l.length false));have fs:(τ5.AP js (BX (AF l.length false))).blk js=some (BX (AF l.length false)):=B0;generalize τ5.AP js (BX (AF l.length false))=τs at *;simp only [go_sem];intro j6 hj6;simp only [JL,go_sem];have m6:=(Mo.refl τs).ABA hj6 [AV.Ae] [AV.ms js l.length 1 eMm] (1,92);have f6:(((τs.AP j6 [AV.Ae]).CH j6 (1,92)).AP j6 [AV.ms js l.length 1 eMm]).blk j6=some [AV.ms js l.length 1 eMm]:=B0;have he6:(((τs.AP j6 [AV.Ae]).CH j6 (1,92)).AP j6 [AV.ms js l.length 1 4])=(((τs.AP j6 [AV.Ae]).CH j6 (1,92)).AP j6 [AV.ms js l.length 1 eMm]):=rfl;rw [he6];generalize ((τs.AP j6 [AV.Ae]).CH j6 (1,92)).AP j6 [AV.ms js l.length 1 eMm]=τ6 at *
 (repeat' (first|refine ctQ rfl ?_|((first|refine rgQ mxQ ?_|refine cdQ ?_|(refine A7 rfl (fun h=>?_) (fun h=>?_)<;>try (cases h;done)))<;>try simp only [go_sem])|(refine ⟨fun h=>?_,fun h=>?_⟩<;>first|(cases h;done)|try simp only [h])|fail));intro j7 hj7;have m7:=(Mo.refl τ6).ABA hj7 [AV.H0] [.fn 125 [] [.gp j2 0,.gp j6 0,.gp j5 0,.gp j7 0]] (1,88);have f7:(((τ6.AP j7 [AV.H0]).CH j7 (1,88)).AP j7 [.fn 125 [] [.gp j2 0,.gp j6 0,.gp j5 0,.gp j7 0]]).blk j7=some [.fn 125 [] [.gp j2 0,.gp j6 0,.gp j5 0,.gp j7 0]]:=B0;(repeat' (refine wQ mxQ rfl ?_<;>try simp only [JL,AA,go_sem]));generalize ((τ6.AP j7 [AV.H0]).CH j7 (1,88)).AP j7 [.fn 125 [] [.gp j2 0,.gp j6 0,.gp j5 0,.gp j7 0]]=τ7 at *;have hmo:Mo σ τ7:=((((m2.trans m5).trans ms).trans m6).trans m7);have c2:=m7.blk _ _ (m6.blk _ _ (ms.blk _ _ f25));have c5:=m7.blk _ _ (m6.blk _ _ (ms.blk _ _ f5));have cs:=m7.blk _ _ (m6.blk _ _ fs);have c6:=m7.blk _ _ f6;have j5n:σ.blk j5=none:=m2.ne hj5.1;have jsn:σ.blk js=none:=(m2.trans m5).ne hjs;have j6n:σ.blk j6=none:=((m2.trans m5).trans ms).ne hj6.1;have j7n:σ.blk j7=none:=(((m2.trans m5).trans ms).trans m6).ne hj7.1
 have hne:∀k,σ.blk k=none->k≠i/\k≠j:=fun k h2=>⟨fun e=>(by rw [e,h.blk] at h2;cases h2),fun e=>(by rw [e,hbj] at h2;cases h2)⟩;have a25:j2≠j5:=fun e=>by rw [e,hj5.1] at f2;cases f2
 have a2s:j2≠js:=fun e=>by rw [e,hjs] at f25;cases f25
 have a5s:j5≠js:=fun e=>by rw [e,hjs] at f5;cases f5
 have a6s:j6≠js:=fun e=>by rw [<- e,hj6.1] at fs;cases fs
 have a65:j6≠j5:=fun e=>by have:=ms.blk _ _ f5;rw [<- e,hj6.1] at this;cases this
 have a7s:j7≠js:=fun e=>by have:=m6.blk _ _ fs;rw [<- e,hj7.1] at this;cases this
 have a75:j7≠j5:=fun e=>by have:=m6.blk _ _ (ms.blk _ _ f5);rw [<- e,hj7.1] at this;cases this
 have x2:=dK (js:=js) (j5:=j5) c2 (hne _ hj2).1 (hne _ hj2).2 a2s a25;have x6:=dK (js:=js) (j5:=j5) c6 (hne _ j6n).1 (hne _ j6n).2 a6s a65;have x7:=dK (js:=js) (j5:=j5) f7 (hne _ j7n).1 (hne _ j7n).2 a7s a75;have hsx:=(SX.mk' h hl0 hmo cs jsn).AK3 (ext:=exU i j js j5 τ7) (fun k c hk=>by unfold exU at hk;split at hk;cases hk;exact hk);have hu:UX (exU i j js j5 τ7) σ τ7 i l fl rest j js j5 (AF l.length false,[]) .Ae:=⟨hsx,c5,by simp [exU],(hne _ j5n).1,fun _=>(hne _ j5n).2,a5s,(AJ0 3 1).JK hmo.nb (fun t h=>by cases h),by simp,by have:=AD0 l.length;simp only [CG];omega⟩;have hvis:=tE _ σ i rest l fl j2 j6 j5 j7 js hln x2 x6 x7 (l.length+1);refine Run.slot 17 (fun hsl=>?_);simp only [CR,reduceIte,C4,AV.DW,AA] at hsl;refine Run.At ?_
 refine Run.Au ((fun (a5:AV) (a7:AV) (a17:AV) (a18:AV)=>fun (z:Nat×AI)=>put 5 a5 (put 7 a7 (put 17 a17 (put 18 a18 (put 19 (.d (.int .i64 z.1)) U))))) _ _ _ _) (fun _=>E) (fun z=>z.2)
  (fun z=>z.1<=ts.length/\fz ((ts.take z.1).foldl (fun s a=>JO l (l.length+1) s a) (AF l.length false,[])).1<=l.length/\∃v' j',UX (exU i j js j5 τ7) σ z.2 i l fl rest j' js j5 ((ts.take z.1).foldl (fun s a=>JO l (l.length+1) s a) (AF l.length false,[])) v')
  (fun z=>ts.length - z.1) ?_ (0,τ7) ⟨by simp,AD0 _,.Ae,j,hu⟩
 rintro ⟨p,τ⟩ ⟨hp,hfz,v5,j10,hu5⟩ ih;simp only at hp hfz hu5;have hb7:=hu5.sx.x _ _ x7;by_cases hlt:p < ts.length
 . obtain ⟨a,ha⟩:=Ai hlt;have har:=Hf ha;have hal:=hts a (AE ha)
   have hst:(ts.take (p+1)).foldl (fun s a=>JO l (l.length+1) s a) (AF l.length false,[])=JO l (l.length+1) ((ts.take p).foldl (fun s a=>JO l (l.length+1) s a) (AF l.length false,[])) a:=by
    rw [Aa ha,Cq];rfl
   have hw1:IntKind.i64.wrap ((p:Int)+1)=((p+1:Nat):Int):=by rw [Ax (by omega) (by omega)];omega
   have hcall:=hvis _ v5 j10 τ a (by omega) hal hu5;simp only [nA] at hcall;(repeat' (first|refine ctQ rfl ?_|((first|refine rgQ mxQ ?_|refine cdQ ?_|(refine A7 rfl (fun h=>?_) (fun h=>?_)<;>try (cases h;done)))<;>try simp only [Ag hlt,har,hb7,go_sem])|(refine ⟨fun h=>?_,fun h=>?_⟩<;>first|(cases h;done)|try simp only [h])|fail));refine ⟨125,[],[.gp j2 0,.gp j6 0,.gp j5 0,.gp j7 0],rfl,by kernel_rfl,AH.mk rfl hcall ?_⟩;rintro v6 τ8 ⟨hz6,v7,j11,hu6⟩;simp only [go_sem];(repeat' (first|refine ctQ rfl ?_|((first|refine rgQ mxQ ?_|refine cdQ ?_|(refine A7 rfl (fun h=>?_) (fun h=>?_)<;>try (cases h;done)))<;>try simp only [hw1,go_sem])|(refine ⟨fun h=>?_,fun h=>?_⟩<;>first|(cases h;done)|try simp only [h])|fail));exact ih ⟨p+1,τ8⟩ ⟨hlt,by simp only [hst];omega,v7,j11,by simp only [hst];exact hu6⟩ (by simp only;omega)
 . have hpe:p=ts.length:=by omega
   subst hpe;rw [BR] at hfz hu5;have hr5:=hu5.row;have ho:=hu5.own;(repeat' ((first|refine wQ mxQ rfl ?_|refine Run.qP Jw ?_|fail)<;>try simp only [B5 hlt,hr5,ho.w4,ho.plain,go_sem]));exact ⟨rfl,j10,hu5.sx.AXM hl0 hmo jsn j5n ho.le (hu5.ej hl0)⟩
theorem Fr.pre {σ τ τ':AI} {i j j':Nat} {l l':List Nd} (h:Fr τ i l j τ' l' j') (hb:∀k,τ.blk k=σ.blk k) (hn:(nbH σ).le τ):Fr σ i l j τ' l' j':=
 ⟨fun k h1 h2 h3=>by rw [h.blk k h1 h2 (by rw [hb];exact h3),hb],fun h1=>h.ii (by rw [hb];exact h1),fun hl=>by have:=h.nw hl;rw [hb] at this;exact this,h.gt.trans hn.gt.symm,fun t ht=>h.tok t (hn.tok t ht),fun k x hx=>h.bt k x (hn.bt k x hx)⟩
def Da (l:List Nd) (pl:List Nat) (rf:Nat):List Nat:=ACD l (pl++[rf])
theorem yQ (B:GB) (l:List Nd) (fl:Bool) (j:Nat) (σ:AI) (f:Nat) (pl:List Nat) (rf:Nat) (hl0:l≠[]) (hln:l.length<=900000000) (h:SN σ B.i l fl B.rest j)
 (xp:σ.blk B.jp=some (psC B.G.ps)) (xr:σ.blk B.jr=some (DF B.G.rs)) (hpl:B.G.ps[f]?=some pl) (hrf:B.G.rs[f]?=some rf) (hpn:pl.length<=1000) (hp:∀a∈pl,a < l.length) (hr:rf < l.length):
 AT Tzp 66 [.gp B.i 0,.d (.int .i64 (f:Int))] σ (SNQ σ B.i l B.rest j (l,fl) (.d (.sl ((Da l pl rf).map By)))):=by
 have hbi:=h.blk;rw [FH hl0] at hbi;rw [GB.rest] at hbi;refine S9 (by simp) ?_;rw [BK];have hpa:=pU hpl;have hra:=Rk hrf;have hfp:=ltT (AG.1 hpl).1;have hfr:=ltT (AG.1 hrf).1;(repeat' (first|refine ctQ rfl ?_|((first|refine rgQ mxQ ?_|refine cdQ ?_|(refine A7 rfl (fun h=>?_) (fun h=>?_)<;>try (cases h;done)))<;>try simp only [go_sem])|(refine ⟨fun h=>?_,fun h=>?_⟩<;>first|(cases h;done)|try simp only [h])|fail));refine Run.Jf mixed ?_;simp only [hbi,xp,xr,hpa,hra,hfp,hfr,A5,go_sem];refine ⟨?_,?_,?_⟩<;>
 . refine AH.mk rfl (UW pl σ (by omega)) ?_;rintro cv τ1 ⟨ho,hb1⟩;simp only [ho.w4,hb1,hbi,xr,hra,hfr,A5,go_sem];refine DD.own ho rfl (by simp) (by simp;omega) (by omega) (fun v2 τ2 ho2 hb2=>?_);simp only [ho2.w4,go_sem];have hb3:∀k,τ2.blk k=σ.blk k:=fun k=>(hb2 k).trans (hb1 k);have ho3:Bz (nbH σ) 3 1 ((pl++[rf]).map By) v2 τ2:=by rw [Ay];exact ho2
   refine AH.mk (by simp [ho2.BE,VE]) (cD B.i B.rest l fl j τ2 (pl++[rf]) v2 ho3.BE ho3.plain (fun a ha=>?_) hl0 hln (h.own hb3)) ?_
   . rcases A0.1 ha with ha|ha
     . exact hp a ha
     . simp only [A6] at ha;subst ha;exact hr
   rintro _ τ3 ⟨rfl,j3,sn3,fr3⟩;simp only [go_sem];(repeat' ((first|refine wQ mxQ rfl ?_|refine Run.qP Jv ?_|fail)<;>try simp only [go_sem]));exact ⟨rfl,j3,sn3,fr3.pre hb3 ho3.le⟩
end Go.Ab
namespace Go.Ab
open Go.Proofs
def sJ (nm:Str) (sc:List Str):List Str:=if nm=[] then sc else sc++[nm]
theorem ES.AS7 {sc:List Str} {env:Env} {g:GS} (h:ES sc env g) (nm:Str) {t:Nat} {g':GS} (hle:g.nx<=g'.nx) (ht:t < g'.nx):ES (sJ nm sc) (CN env [nm] [t]) g':=by
 unfold sJ;split
 . rename_i e;subst e;simp only [CN,if_true];exact h.le hle
 . exact h.with (by simp) hle (by simpa using ht)
theorem ACK (x:AV) (env:Env) (hx:PlV x (J9 env)) (nm:Str) (t:Nat) (σ:AI):
 AT Tzp 57 [x,.d (.sl [[.str nm]]),.d (.sl [[.int .i64 (t:Int)]])] σ (fun v σ'=>v= .d (J9 (CN env [nm] [t]))/\σ'=σ):=KD x env hx [nm] [t] rfl σ
def AJF (G:GC) (nm:Str) (k0 k1:Ex) (env:Env) (g:GS):Nat×GS:=Bg G k1 (CN env [nm] [(Bg G k0 env g).1]) (Bg G k0 env g).2
theorem AKW (B:GB) (nm:Str) (nu:Int) (ns:List Str) (k0 k1:Ex) (al:List Al) (hk0:ExC B k0) (hk1:ExC B k1) (sc:List Str) (env:Env) (g:GS) (σ:AI) (j jc:Nat) (ho0:OkE B.G k0 sc) (ho1:OkE B.G k1 (sJ nm sc)) (hes:ES sc env g) (hnx:g.nx+1000000 * (1+(k0.size+k1.size))<=900000000) (hen:g.en.length+(k0.size+k1.size)<=900000000) (hg:GX B σ g j jc):
 AT Tzp 99 [.gp B.i 0,exA (.mk 7 nm nu ns [k0,k1] al),.d (J9 env)] σ (fun v σ'=>v=nA (AJF B.G nm k0 k1 env g).1/\RQ B σ g (AJF B.G nm k0 k1 env g).1 (1000000 * (1+(k0.size+k1.size))) (k0.size+k1.size) (AJF B.G nm k0 k1 env g).2 σ'):=by
 refine EW (by simp) ?_;rw [Dm];rw [AJF];have hc0:=hk0 sc env g σ j jc ho0 hes (by omega) (by omega) hg;generalize Bg B.G k0 env g=r0 at *;have hsz1:=Ex.size_pos k1;have hk1':=fun τ j1 jc1 (h:r0.1 < r0.2.nx) (h1:g.nx<=r0.2.nx) (h2:r0.2.nx+500000<=g.nx+1000000 * k0.size) (h3:r0.2.en.length=g.en.length+k0.size) (hx:GX B τ r0.2 j1 jc1)=>hk1 (sJ nm sc) (CN env [nm] [r0.1]) r0.2 τ j1 jc1 ho1 (hes.AS7 nm h1 h) (by omega) (by omega) hx;generalize Bg B.G k1 (CN env [nm] [r0.1]) r0.2=r1 at *;obtain ⟨o,n',u',ns',kk,al2⟩:=k0;obtain ⟨o1,n1,u1,ns1,kk1,al1⟩:=k1;simp only [exA,Ex.A2,AD,AJ] at hc0 hk1' ⊢;(repeat' (first|refine ctQ rfl ?_|((first|refine rgQ mxQ ?_|refine cdQ ?_|(refine A7 rfl (fun h=>?_) (fun h=>?_)<;>try (cases h;done)))<;>try simp only [il0,it0,go_sem])|(refine ⟨fun h=>?_,fun h=>?_⟩<;>first|(cases h;done)|try simp only [h])|fail));refine AH.mk rfl hc0 ?_;rintro _ τ1 ⟨rfl,hq⟩;simp only [nA];simp only [go_sem];obtain ⟨j1,jc1,hg1⟩:=hq.gx;have hql:=hq.le;have hqh:=hq.hi;have hqe:=hq.en;have hc1:=hk1' τ1 j1 jc1 hq.lt hql hqh hqe hg1;have hw:=ACK (.d (J9 env)) env (PlV.d _) nm r0.1 τ1
 (repeat' (first|refine ctQ rfl ?_|((first|refine rgQ mxQ ?_|refine cdQ ?_|(refine A7 rfl (fun h=>?_) (fun h=>?_)<;>try (cases h;done)))<;>try simp only [go_sem])|(refine ⟨fun h=>?_,fun h=>?_⟩<;>first|(cases h;done)|try simp only [h])|fail));refine Run.Jf mixed ?_;simp only [il1,it1,go_sem];refine ⟨?_,?_⟩<;>
 . refine AH.det hw ?_;simp only [il1,it1,go_sem];refine AH.mk rfl hc1 ?_;rintro _ τ2 ⟨rfl,hq2⟩;simp only [nA];simp only [go_sem];(repeat' ((first|refine wQ mxQ rfl ?_|refine Run.qP DP ?_|fail)<;>try simp only [go_sem]));have h2l:=hq2.le;have h2h:=hq2.hi;have h2e:=hq2.en;exact ⟨BD hq.nb hq2.nb,hq2.gx,hq2.lt,by omega,by omega,by omega⟩
def AKZ (G:GC) (ns:List Str) (k0 k1:Ex) (env:Env) (g:GS):Nat×GS:=
 let parts:=Af g.nx ns.length
 let q:=Bg G k0 env (g.frs ns.length)
 Bg G k1 (CN env ns parts) ((q.2.add 6 0 parts).uni q.1 q.2.nx)
theorem AKY (B:GB) (hB:H7 B) (nm:Str) (nu:Int) (ns:List Str) (k0 k1:Ex) (al:List Al) (hk0:ExC B k0) (hk1:ExC B k1) (sc:List Str) (env:Env) (g:GS) (σ:AI) (j jc:Nat) (hns:ns.length<=1000) (ho0:OkE B.G k0 sc) (ho1:OkE B.G k1 (sc++ns)) (hes:ES sc env g) (hnx:g.nx+1000000 * (1+(k0.size+k1.size))<=900000000) (hen:g.en.length+(k0.size+k1.size)<=900000000) (hg:GX B σ g j jc):
 AT Tzp 99 [.gp B.i 0,exA (.mk 8 nm nu ns [k0,k1] al),.d (J9 env)] σ (fun v σ'=>v=nA (AKZ B.G ns k0 k1 env g).1/\RQ B σ g (AKZ B.G ns k0 k1 env g).1 (1000000 * (1+(k0.size+k1.size))) (k0.size+k1.size) (AKZ B.G ns k0 k1 env g).2 σ'):=by
 refine EW (by simp) ?_;rw [Dm];rw [AKZ];have hsz1:=Ex.size_pos k1;have hsz0:=Ex.size_pos k0;have hn0:=bR g ns.length;have h0e:(g.frs ns.length).en.length=g.en.length:=rfl;have hfr:=EC B.i j g.s.1 g.s.2 B.rest σ ns.length hg.sn (by omega) (by have:g.s.1.length=g.nx:=rfl;omega);have hfg:=fun v σ' q=>hg.frs hB (σ':=σ') (v0:= .d (.sl ((Af g.s.1.length ns.length).map By))) (v:=v) (n:=ns.length) q;have l0:g.s.1.length=g.nx:=rfl;rw [l0] at hfr hfg;have har:∀a∈Af g.nx ns.length,a < g.nx+ns.length:=fun a ha=>by rw [TD] at ha;omega
 have hrl:(Af g.nx ns.length).length=ns.length:=by simp
 generalize Af g.nx ns.length=ar at *;generalize g.frs ns.length=g0 at *;have hc0:=fun τ j1 hx=>hk0 sc env g0 τ j1 jc ho0 (hes.le (by omega)) (by omega) (by omega) hx;generalize Bg B.G k0 env g0=r0 at *;have hna:=Cz r0.2 6 0 ar;have hnu:=NC (r0.2.add 6 0 ar) r0.1 r0.2.nx;have heu:((r0.2.add 6 0 ar).uni r0.1 r0.2.nx).en.length=r0.2.en.length:=rfl;have hug:=fun (τ τ':AI) j1 jc1 (hx:GX B τ (r0.2.add 6 0 ar) j1 jc1)=>GX.uni (a:=r0.1) (b:=r0.2.nx) (σ':=τ') hB hx;have hk1':=fun τ j1 jc1 (h1:g0.nx<=r0.2.nx) (h2:r0.2.nx+500000<=g0.nx+1000000 * k0.size) (h3:r0.2.en.length=g0.en.length+k0.size) (hx:GX B τ ((r0.2.add 6 0 ar).uni r0.1 r0.2.nx) j1 jc1)=>hk1 (sc++ns) (CN env ns ar) ((r0.2.add 6 0 ar).uni r0.1 r0.2.nx) τ j1 jc1 ho1 (hes.with hrl.symm (by omega) (fun t ht=>by have:=har t ht;omega)) (by omega) (by omega) hx;generalize (r0.2.add 6 0 ar).uni r0.1 r0.2.nx=g1 at *;generalize Bg B.G k1 (CN env ns ar) g1=r1 at *;obtain ⟨o,n',u',ns',kk,al2⟩:=k0;obtain ⟨o1,n1,u1,ns1,kk1,al1⟩:=k1;simp only [exA,Ex.A2,AD,AJ] at hc0 hk1' ⊢
 (repeat' (first|refine ctQ rfl ?_|((first|refine rgQ mxQ ?_|refine cdQ ?_|(refine A7 rfl (fun h=>?_) (fun h=>?_)<;>try (cases h;done)))<;>try simp only [AA,go_sem])|(refine ⟨fun h=>?_,fun h=>?_⟩<;>first|(cases h;done)|try simp only [h])|fail));refine AH.mk rfl hfr ?_;intro v τ0 q;obtain ⟨rfl,hnb0,j0,hg0⟩:=hfg v τ0 q;clear q hfr hfg;simp only [go_sem];(repeat' (first|refine ctQ rfl ?_|((first|refine rgQ mxQ ?_|refine cdQ ?_|(refine A7 rfl (fun h=>?_) (fun h=>?_)<;>try (cases h;done)))<;>try simp only [il0,it0,go_sem])|(refine ⟨fun h=>?_,fun h=>?_⟩<;>first|(cases h;done)|try simp only [h])|fail));refine AH.mk rfl (hc0 τ0 j0 hg0) ?_;rintro _ τ1 ⟨rfl,hq⟩;simp only [nA];simp only [go_sem];obtain ⟨j1,jc1,hg1⟩:=hq.gx;have hql:=hq.le;have hqh:=hq.hi;have hqe:=hq.en;have hqt:=hq.lt;have hrn:r0.2.s.1.length=r0.2.nx:=rfl;refine AH.mk rfl (Bs B.i j1 r0.2.s.1 r0.2.s.2 B.rest τ1 6 _ ar hg1.sn (SB.d _) (fun a ha=>by have:=har a ha;omega) (by omega)) ?_;intro v τ2 q;obtain ⟨rfl,hn3,j3,hg3⟩:=hg1.add hB q;clear q;rw [hrn];simp only [nA];simp only [go_sem];have hna':(r0.2.add 6 0 ar).s.1.length=r0.2.nx+1:=hna
 refine AH.mk rfl (C0 B.i B.rest _ _ (r0.2.add 6 0 ar).s.2 j3 r0.1 r0.2.nx τ2 (O7 _) hg3.sn (by omega) (by omega) (by omega)) ?_;intro v4 τ3 q4;obtain ⟨hn4,j4,hg4⟩:=hug _ _ _ _ hg3 q4;clear q4;simp only [go_sem];have hc1:=hk1' τ3 j4 jc1 hql hqh hqe hg4;have hw:=KD (.d (J9 env)) env (PlV.d _) ns ar hrl.symm τ3;(repeat' (first|refine ctQ rfl ?_|((first|refine rgQ mxQ ?_|refine cdQ ?_|(refine A7 rfl (fun h=>?_) (fun h=>?_)<;>try (cases h;done)))<;>try simp only [go_sem])|(refine ⟨fun h=>?_,fun h=>?_⟩<;>first|(cases h;done)|try simp only [h])|fail));refine Run.Jf mixed ?_;simp only [il1,it1,go_sem];refine ⟨?_,?_⟩<;>
 . refine AH.det hw ?_;simp only [il1,it1,go_sem];refine AH.mk rfl hc1 ?_;rintro _ τ4 ⟨rfl,hq2⟩;simp only [nA];simp only [go_sem];(repeat' ((first|refine wQ mxQ rfl ?_|refine Run.qP DP ?_|fail)<;>try simp only [go_sem]));have h2l:=hq2.le;have h2h:=hq2.hi;have h2e:=hq2.en;exact ⟨BD (BD (BD (BD hnb0 hq.nb) hn3) hn4) hq2.nb,hq2.gx,hq2.lt,by omega,by omega,by omega⟩
end Go.Ab
namespace Go.Ab
open Go.Proofs
def AI7 (G:GC) (k0 k1 k2:Ex) (env:Env) (g:GS):Nat×GS:=
 let q:=Bg G k0 env g
 let q1:=Bg G k1 env ((q.2.add 2 0 []).uni q.1 q.2.nx)
 let q2:=Bg G k2 env q1.2
 (q1.1,q2.2.uni q2.1 q1.1)
theorem AO2 (B:GB) (hB:H7 B) (nm:Str) (nu:Int) (ns:List Str) (k0 k1 k2:Ex) (al:List Al) (hk0:ExC B k0) (hk1:ExC B k1) (hk2:ExC B k2) (sc:List Str) (env:Env) (g:GS) (σ:AI) (j jc:Nat) (ho0:OkE B.G k0 sc) (ho1:OkE B.G k1 sc) (ho2:OkE B.G k2 sc) (hes:ES sc env g) (hnx:g.nx+1000000 * (1+(k0.size+(k1.size+k2.size)))<=900000000) (hen:g.en.length+(k0.size+(k1.size+k2.size))<=900000000) (hg:GX B σ g j jc):
 AT Tzp 99 [.gp B.i 0,exA (.mk 9 nm nu ns [k0,k1,k2] al),.d (J9 env)] σ (fun v σ'=>v=nA (AI7 B.G k0 k1 k2 env g).1/\RQ B σ g (AI7 B.G k0 k1 k2 env g).1 (1000000 * (1+(k0.size+(k1.size+k2.size)))) (k0.size+(k1.size+k2.size)) (AI7 B.G k0 k1 k2 env g).2 σ'):=by
 refine EW (by simp) ?_;rw [Dm];rw [AI7];have hsz0:=Ex.size_pos k0;have hsz1:=Ex.size_pos k1;have hsz2:=Ex.size_pos k2;have hc0:=hk0 sc env g σ j jc ho0 hes (by omega) (by omega) hg;generalize Bg B.G k0 env g=r0 at *;have hna:=Cz r0.2 2 0 [];have hnu:=NC (r0.2.add 2 0 []) r0.1 r0.2.nx;have heu:((r0.2.add 2 0 []).uni r0.1 r0.2.nx).en.length=r0.2.en.length:=rfl;have hug:=fun (τ τ':AI) j1 jc1 (hx:GX B τ (r0.2.add 2 0 []) j1 jc1)=>GX.uni (a:=r0.1) (b:=r0.2.nx) (σ':=τ') hB hx;generalize (r0.2.add 2 0 []).uni r0.1 r0.2.nx=g1 at *;have hk1':=fun τ j1 jc1 (h1:g.nx<=r0.2.nx) (h2:r0.2.nx+500000<=g.nx+1000000 * k0.size) (h3:r0.2.en.length=g.en.length+k0.size) (hx:GX B τ g1 j1 jc1)=>hk1 sc env g1 τ j1 jc1 ho1 (hes.le (by omega)) (by omega) (by omega) hx;generalize Bg B.G k1 env g1=r1 at *;have hk2':=fun τ j1 jc1 (h1:g.nx<=r0.2.nx) (h2:r0.2.nx+500000<=g.nx+1000000 * k0.size) (h3:r0.2.en.length=g.en.length+k0.size) (h1:g1.nx<=r1.2.nx) (h2:r1.2.nx+500000<=g1.nx+1000000 * k1.size) (h3:r1.2.en.length=g1.en.length+k1.size) (hx:GX B τ r1.2 j1 jc1)=>hk2 sc env r1.2 τ j1 jc1 ho2 (hes.le (by omega)) (by omega) (by omega) hx;generalize Bg B.G k2 env r1.2=r2 at *;have hnu2:=NC r2.2 r2.1 r1.1
 have heu2:(r2.2.uni r2.1 r1.1).en.length=r2.2.en.length:=rfl;obtain ⟨o,n',u',ns',kk,al2⟩:=k0;obtain ⟨o1,n1,u1,ns1,kk1,al1⟩:=k1;obtain ⟨o2,n2,u2,ns2,kk2,al3⟩:=k2;simp only [exA,Ex.A2,AD,AJ] at hc0 hk1' hk2' ⊢;(repeat' (first|((first|refine wQ mxQ rfl ?_|(refine A7 rfl (fun h=>?_) (fun h=>?_)<;>try (cases h;done))|fail)<;>try simp only [il0,it0,go_sem])|(refine ⟨fun h=>?_,fun h=>?_⟩<;>first|(cases h;done)|try simp only [h])|fail));refine AH.mk rfl hc0 ?_;rintro _ τ1 ⟨rfl,hq⟩;simp only [nA];simp only [go_sem];obtain ⟨j1,jc1,hg1⟩:=hq.gx;have hql:=hq.le;have hqh:=hq.hi;have hqe:=hq.en;have hqt:=hq.lt;have hrn:r0.2.s.1.length=r0.2.nx:=rfl;refine AH.mk rfl (Bs B.i j1 r0.2.s.1 r0.2.s.2 B.rest τ1 2 .Ae [] hg1.sn SB.Ae (by simp) (by omega)) ?_;intro v τ2 q;obtain ⟨rfl,hn3,j3,hg3⟩:=hg1.add hB q;clear q;rw [hrn];simp only [nA];simp only [go_sem];have hna':(r0.2.add 2 0 []).s.1.length=r0.2.nx+1:=hna;refine AH.mk rfl (C0 B.i B.rest _ _ (r0.2.add 2 0 []).s.2 j3 r0.1 r0.2.nx τ2 (O7 _) hg3.sn (by omega) (by omega) (by omega)) ?_;intro v4 τ3 q4;obtain ⟨hn4,j4,hg4⟩:=hug _ _ _ _ hg3 q4;clear q4;simp only [go_sem];have hc1:=hk1' τ3 j4 jc1 hql hqh hqe hg4
 (repeat' (refine wQ mxQ rfl ?_<;>try simp only [il1,it1,go_sem]));refine AH.mk rfl hc1 ?_;rintro _ τ4 ⟨rfl,hq1⟩;simp only [nA];simp only [go_sem];obtain ⟨j5,jc5,hg5⟩:=hq1.gx;have h1l:=hq1.le;have h1h:=hq1.hi;have h1e:=hq1.en;have hc2:=hk2' τ4 j5 jc5 hql hqh hqe h1l h1h h1e hg5;(repeat' (refine wQ mxQ rfl ?_<;>try simp only [il2,it2,go_sem]));refine AH.mk rfl hc2 ?_;rintro _ τ5 ⟨rfl,hq2⟩;simp only [nA];simp only [go_sem];obtain ⟨j6,jc6,hg6⟩:=hq2.gx;have h2l:=hq2.le;have h2h:=hq2.hi;have h2e:=hq2.en;have h1t:=hq1.lt;have h2n:r2.2.s.1.length=r2.2.nx:=rfl;refine AH.mk rfl (C0 B.i B.rest _ _ r2.2.s.2 j6 r2.1 r1.1 τ5 (O7 _) hg6.sn hq2.lt (by omega) (by omega)) ?_;intro v7 τ6 q7;obtain ⟨hn7,j7,hg7⟩:=hg6.uni hB q7;simp only [go_sem];(repeat' ((first|refine wQ mxQ rfl ?_|refine Run.qP DP ?_|fail)<;>try simp only [go_sem]));exact ⟨BD (BD (BD (BD (BD hq.nb hn3) hn4) hq1.nb) hq2.nb) hn7,⟨j7,jc6,hg7⟩,by omega,by omega,by omega,by omega⟩
def fnQ (G:GC) (ns:List Str) (k0:Ex) (env:Env) (g:GS):Nat×GS:=
 let params:=Af g.nx ns.length
 let q:=Bg G k0 (CN env ns params) (g.frs ns.length)
 (q.2.nx,q.2.add 9 0 (params++[q.1]))
theorem AO1 (B:GB) (hB:H7 B) (nm:Str) (nu:Int) (ns:List Str) (k0:Ex) (al:List Al) (hk0:ExC B k0) (sc:List Str) (env:Env) (g:GS) (σ:AI) (j jc:Nat) (hns:ns.length<=1000) (ho0:OkE B.G k0 (sc++ns)) (hes:ES sc env g) (hnx:g.nx+1000000 * (1+k0.size)<=900000000) (hen:g.en.length+k0.size<=900000000) (hg:GX B σ g j jc):
 AT Tzp 99 [.gp B.i 0,exA (.mk 11 nm nu ns [k0] al),.d (J9 env)] σ (fun v σ'=>v=nA (fnQ B.G ns k0 env g).1/\RQ B σ g (fnQ B.G ns k0 env g).1 (1000000 * (1+k0.size)) k0.size (fnQ B.G ns k0 env g).2 σ'):=by
 refine EW (by simp) ?_;rw [Dm];rw [fnQ];have hsz0:=Ex.size_pos k0;have hn0:=bR g ns.length;have h0e:(g.frs ns.length).en.length=g.en.length:=rfl;have hfr:=EC B.i j g.s.1 g.s.2 B.rest σ ns.length hg.sn (by omega) (by have:g.s.1.length=g.nx:=rfl;omega);have hfg:=fun v σ' q=>hg.frs hB (σ':=σ') (v0:= .d (.sl ((Af g.s.1.length ns.length).map By))) (v:=v) (n:=ns.length) q;have l0:g.s.1.length=g.nx:=rfl;rw [l0] at hfr hfg;have har:∀a∈Af g.nx ns.length,a < g.nx+ns.length:=fun a ha=>by rw [TD] at ha;omega
 have hrl:(Af g.nx ns.length).length=ns.length:=by simp
 generalize Af g.nx ns.length=ar at *;generalize g.frs ns.length=g0 at *;have hc0:=fun τ j1 hx=>hk0 (sc++ns) (CN env ns ar) g0 τ j1 jc ho0 (hes.with hrl.symm (by omega) (fun t ht=>by have:=har t ht;omega)) (by omega) (by omega) hx;generalize Bg B.G k0 (CN env ns ar) g0=r0 at *;have hna:=Cz r0.2 9 0 (ar++[r0.1]);have hea:(r0.2.add 9 0 (ar++[r0.1])).en.length=r0.2.en.length:=rfl;obtain ⟨o,n',u',ns',kk,al2⟩:=k0;simp only [exA,Ex.A2,AD,AJ] at hc0 ⊢;(repeat' (first|refine ctQ rfl ?_|((first|refine rgQ mxQ ?_|refine cdQ ?_|(refine A7 rfl (fun h=>?_) (fun h=>?_)<;>try (cases h;done)))<;>try simp only [AA,go_sem])|(refine ⟨fun h=>?_,fun h=>?_⟩<;>first|(cases h;done)|try simp only [h])|fail));refine AH.mk rfl hfr ?_;intro v τ0 q;obtain ⟨rfl,hnb0,j0,hg0⟩:=hfg v τ0 q;clear q hfr hfg;simp only [go_sem];have hw:=KD (.d (J9 env)) env (PlV.d _) ns ar hrl.symm τ0;(repeat' (first|refine ctQ rfl ?_|((first|refine rgQ mxQ ?_|refine cdQ ?_|(refine A7 rfl (fun h=>?_) (fun h=>?_)<;>try (cases h;done)))<;>try simp only [go_sem])|(refine ⟨fun h=>?_,fun h=>?_⟩<;>first|(cases h;done)|try simp only [h])|fail));refine Run.Jf mixed ?_;simp only [il0,it0,go_sem];refine ⟨?_,?_⟩<;>
 . refine AH.det hw ?_;simp only [il0,it0,go_sem];refine AH.mk rfl (hc0 τ0 j0 hg0) ?_;rintro _ τ1 ⟨rfl,hq⟩;simp only [nA];simp only [go_sem];obtain ⟨j1,jc1,hg1⟩:=hq.gx;have hql:=hq.le;have hqh:=hq.hi;have hqe:=hq.en;have hqt:=hq.lt;have hrn:r0.2.s.1.length=r0.2.nx:=rfl;(repeat' (refine wQ mxQ rfl ?_<;>try simp only [go_sem]));refine AH.mk rfl (UW ar τ1 (by omega)) ?_;rintro cv τ2 ⟨ho,hb2⟩;simp only [ho.w4,go_sem];refine DD.own ho rfl (by simp) (by simp;omega) (by omega) (fun v2 τ3 ho2 hb3=>?_);simp only [ho2.w4,go_sem];have hg3:=(hg1.nbo hb2).nbo hb3;have ho3:Bz (nbH τ1) 3 1 ((ar++[r0.1]).map By) v2 τ3:=by rw [Ay];exact ho2
   refine AH.mk (by simp [ho2.BE,VE,FI]) (Bs B.i j1 r0.2.s.1 r0.2.s.2 B.rest τ3 9 v2 (ar++[r0.1]) hg3.sn ho3.row (fun a ha=>?_) (by omega)) ?_
   . rcases A0.1 ha with ha|ha
     . have:=har a ha;omega
     . simp only [A6] at ha;subst ha;exact hqt
   intro v4 τ4 q;obtain ⟨rfl,hn4,j4,hg4⟩:=hg3.add hB q;clear q;rw [hrn];simp only [nA];simp only [go_sem];(repeat' ((first|refine wQ mxQ rfl ?_|refine Run.qP DP ?_|fail)<;>try simp only [go_sem]));exact ⟨BD (BD (BD hnb0 hq.nb) ho2.le) hn4,⟨j4,jc1,hg4⟩,by omega,by omega,by omega,by omega⟩
def AKV (G:GC) (nm:Str) (k0 k1:Ex) (env:Env) (g:GS):Nat×GS:=
 let q:=Bg G k0 env g
 let r:=Bg G k1 (CN env [nm] [q.2.nx]) (q.2.add 1 0 [])
 (q.1,r.2.uni r.1 q.1)
theorem AKX (B:GB) (hB:H7 B) (nm:Str) (nu:Int) (ns:List Str) (k0 k1:Ex) (al:List Al) (hk0:ExC B k0) (hk1:ExC B k1) (sc:List Str) (env:Env) (g:GS) (σ:AI) (j jc:Nat) (ho0:OkE B.G k0 sc) (ho1:OkE B.G k1 (sJ nm sc)) (hes:ES sc env g) (hnx:g.nx+1000000 * (1+(k0.size+k1.size))<=900000000) (hen:g.en.length+(k0.size+k1.size)<=900000000) (hg:GX B σ g j jc):
 AT Tzp 99 [.gp B.i 0,exA (.mk 17 nm nu ns [k0,k1] al),.d (J9 env)] σ (fun v σ'=>v=nA (AKV B.G nm k0 k1 env g).1/\RQ B σ g (AKV B.G nm k0 k1 env g).1 (1000000 * (1+(k0.size+k1.size))) (k0.size+k1.size) (AKV B.G nm k0 k1 env g).2 σ'):=by
 refine EW (by simp) ?_;rw [Dm];rw [AKV];have hsz0:=Ex.size_pos k0;have hsz1:=Ex.size_pos k1;have hc0:=hk0 sc env g σ j jc ho0 hes (by omega) (by omega) hg;generalize Bg B.G k0 env g=r0 at *;have hna:=Cz r0.2 1 0 [];have hea:(r0.2.add 1 0 []).en.length=r0.2.en.length:=rfl;have hfm:=fun (τ τ':AI) j1 jc1 (v:AV) (hx:GX B τ r0.2 j1 jc1)=>GX.add (k:=1) (n:=0) (ar:=[]) (σ':=τ') (v0:=nA r0.2.s.1.length) (v:=v) hB hx;generalize r0.2.add 1 0 []=g1 at *;have hk1':=fun τ j1 jc1 (h0:r0.1 < r0.2.nx) (h1:g.nx<=r0.2.nx) (h2:r0.2.nx+500000<=g.nx+1000000 * k0.size) (h3:r0.2.en.length=g.en.length+k0.size) (hx:GX B τ g1 j1 jc1)=>hk1 (sJ nm sc) (CN env [nm] [r0.2.nx]) g1 τ j1 jc1 ho1 (hes.AS7 nm (by omega) (by omega)) (by omega) (by omega) hx;generalize Bg B.G k1 (CN env [nm] [r0.2.nx]) g1=r1 at *;have hnu2:=NC r1.2 r1.1 r0.1;have heu2:(r1.2.uni r1.1 r0.1).en.length=r1.2.en.length:=rfl;obtain ⟨o,n',u',ns',kk,al2⟩:=k0;obtain ⟨o1,n1,u1,ns1,kk1,al1⟩:=k1;simp only [exA,Ex.A2,AD,AJ] at hc0 hk1' ⊢
 (repeat' (first|refine ctQ rfl ?_|((first|refine rgQ mxQ ?_|refine cdQ ?_|(refine A7 rfl (fun h=>?_) (fun h=>?_)<;>try (cases h;done)))<;>try simp only [il0,it0,go_sem])|(refine ⟨fun h=>?_,fun h=>?_⟩<;>first|(cases h;done)|try simp only [h])|fail));refine AH.mk rfl hc0 ?_;rintro _ τ1 ⟨rfl,hq⟩;simp only [nA];simp only [go_sem];obtain ⟨j1,jc1,hg1⟩:=hq.gx;have hql:=hq.le;have hqh:=hq.hi;have hqe:=hq.en;have hqt:=hq.lt;have hrn:r0.2.s.1.length=r0.2.nx:=rfl;(repeat' (first|refine ctQ rfl ?_|((first|refine rgQ mxQ ?_|refine cdQ ?_|(refine A7 rfl (fun h=>?_) (fun h=>?_)<;>try (cases h;done)))<;>try simp only [go_sem])|(refine ⟨fun h=>?_,fun h=>?_⟩<;>first|(cases h;done)|try simp only [h])|fail));refine Run.Jf mixed ?_;simp only [il1,it1,go_sem];refine ⟨?_,?_⟩<;>
 (refine AH.mk rfl (Bs B.i j1 r0.2.s.1 r0.2.s.2 B.rest τ1 1 .Ae [] hg1.sn SB.Ae (by simp) (by omega)) ?_
  intro v τ2 q;obtain ⟨rfl,hn3,j3,hg3⟩:=hfm _ _ _ _ _ hg1 q;clear q;rw [hrn];simp only [nA];simp only [il1,it1,go_sem];have hw:=ACK (.d (J9 env)) env (PlV.d _) nm r0.2.nx τ2)
 rotate_left;refine ⟨?_,?_⟩
 all_goals
  refine AH.det hw ?_;simp only [il1,it1,go_sem];refine AH.mk rfl (hk1' τ2 j3 jc1 hqt hql hqh hqe hg3) ?_;rintro _ τ4 ⟨rfl,hq1⟩;simp only [nA];simp only [go_sem];obtain ⟨j5,jc5,hg5⟩:=hq1.gx;have h1l:=hq1.le;have h1h:=hq1.hi;have h1e:=hq1.en;have h1n:r1.2.s.1.length=r1.2.nx:=rfl;refine AH.mk rfl (C0 B.i B.rest _ _ r1.2.s.2 j5 r1.1 r0.1 τ4 (O7 _) hg5.sn hq1.lt (by omega) (by omega)) ?_;intro v7 τ6 q7;obtain ⟨hn7,j7,hg7⟩:=hg5.uni hB q7;simp only [go_sem];(repeat' ((first|refine wQ mxQ rfl ?_|refine Run.qP DP ?_|fail)<;>try simp only [go_sem]));exact ⟨BD (BD (BD hq.nb hn3) hq1.nb) hn7,⟨j7,jc5,hg7⟩,by omega,by omega,by omega,by omega⟩
end Go.Ab
namespace Go.Ab
open Go.Proofs
theorem eK {o:Int} {n:Str} {ns sc:List Str} {x:Ex×List Str}:∀ {l:List Ex} {i m:Nat} {k:Ex},l[m]?=some k->x∈Bj k (Fa o n ns sc (i+m))->x∈Bn o n ns sc i l
 |y::l,i,0,k,h,hx=>by
  simp only [BM,AL] at h;subst h;rw [Bn,A0];exact .inl hx
 |y::l,i,m+1,k,h,hx=>by
  rw [Bn,A0];exact .inr (eK (m:=m) (by simpa using h) (by rw [show i+1+m=i+(m+1) from by omega];exact hx))
theorem eJ {sc:List Str} {x:Ex×List Str} {a:Al}:∀ {l:List Al},a∈l->x∈Bj a.body (sc++a.vars)->x∈CD sc l
 |y::l,h,hx=>by
  rw [CD,A0];rcases Ar.1 h with rfl|h
  . left;obtain ⟨c,vs,b⟩:=a;exact hx
  . exact .inr (eJ h hx)
theorem OkE.kid {G:GC} {o:Int} {n:Str} {u:Int} {ns:List Str} {ks:List Ex} {al:List Al} {sc:List Str} (h:OkE G (.mk o n u ns ks al) sc) {i:Nat} {k:Ex} (hk:ks[i]?=some k):OkE G k (Fa o n ns sc i):=fun x hx=>h x (by
 rw [Bj,Ar,A0];exact .inr (.inl (eK (i:=0) hk (by rw [BJ];exact hx))))
theorem OkE.alt {G:GC} {o:Int} {n:Str} {u:Int} {ns:List Str} {ks:List Ex} {al:List Al} {sc:List Str} (h:OkE G (.mk o n u ns ks al) sc) {a:Al} (ha:a∈al):OkE G a.body (sc++a.vars):=fun x hx=>h x (by
 rw [Bj,Ar,A0];exact .inr (.inr (eJ ha hx)))
theorem OkE.me {G:GC} {e:Ex} {sc:List Str} (h:OkE G e sc):EY G.fs G.dt e sc=0/\nb1 e:=h (e,sc) (by obtain ⟨o,n,u,ns,ks,al⟩:=e;rw [Bj];exact AS)
theorem AID (B:GB) (hB:H7 B) (g:GS) (τ:AI) (j jc at_ t:Nat) (Q:AV->AI->Prop) (hg:GX B τ g j jc) (hat:at_ < g.en.length) (ht:t < g.nx)
 (hQ:∀σ',(nbH τ).le σ'->(∃j jc,GX B σ' (g.Sx at_ fun e=> { e with t:=t}) j jc)->Q (nA t) σ'):
 Run Ci Q [.blk 0,.code (.seq (.reg [⟨some 155,.mv (.t 0),none⟩,⟨some 156,.nck (.t 155),none⟩,⟨some 157,.fld (.t 156) 9,none⟩,⟨some 158,.ld (.t 157) none,none⟩,⟨some 159,.mv (.t 0),none⟩,⟨some 160,.nck (.t 159),none⟩,⟨some 161,.fld (.t 160) 10,none⟩,⟨some 162,.ld (.t 161) none,none⟩,⟨some 163,.ix (.t 158) (.t 162) 1,none⟩,⟨some 164,.ld (.t 163) none,none⟩,⟨some 165,.mv (.t 7),none⟩,⟨some 166,.mv (.t 8),none⟩,⟨some 167,.ix (.t 164) (.t 165) 3,none⟩,⟨some 168,.fld (.t 167) 0,none⟩,⟨none,.st (.t 168) (.t 166) 1,none⟩] [8]) (.seq (.reg [⟨some 169,.mv (.t 8),none⟩,⟨some 6,.mv (.t 169),none⟩] [6]) .ret))] (put 0 (.gp B.i 0) (put 7 (.d (.int .i64 (at_:Int))) (put 8 (.d (.int .i64 (t:Int))) U))) E τ:=by
 have hbi:=hg.bi;have hen:g.en≠[]:=fun e=>by rw [e] at hat;cases hat
 obtain ⟨c1,c2,c3,c4,c5⟩:=hg.c hen;have hje:=hg.e;rw [XJ hen] at hje;have hcu:=ltT hB.cur;have hcg:(B.es.set B.cur (AV.ms jc g.en.length 3 tkE))[B.cur]?=some (AV.ms jc g.en.length 3 tkE):=by simp [hB.cur]
 have hatT:=ltT hat;obtain ⟨x,hx⟩:=Ai hat;have hle:(at_ * 3+1<=(enC g.en).length)=True:=by rw [P3 En.row 3 En.Ft];simp;omega
 have hwr:=x8 En.row 3 En.Ft 0 (.d (.int .i64 (t:Int))) (fun e=> { e with t:=t}) hx (by omega) rfl;simp only [CC] at hwr;obtain ⟨q1,q2,q3,q4⟩:=hg.gi.en x (AE hx);have hg2:=hg.mod hB (at_:=at_) (fun e=> { e with t:=t}) hx ⟨ht,q2,q3,q4⟩;have:=hQ (τ.AP jc (enC (g.en.modify at_ fun e=> { e with t:=t}))) ⟨fun _ _ h=>(by cases h),fun _ h=>h,rfl,fun _ _ h=>h⟩ ⟨j,jc,hg2⟩;(repeat' (first|refine ctQ rfl ?_|((first|refine rgQ mxQ ?_|refine cdQ ?_|refine Run.qP Oh ?_|(refine A7 rfl (fun h=>?_) (fun h=>?_)<;>try (cases h;done)))<;>try simp only [hbi,hje,hcu,hcg,A5,hatT,c1,hle,hwr,go_sem])|(refine ⟨fun h=>?_,fun h=>?_⟩<;>first|(cases h;done)|try simp only [h])|fail));exact this
def P5:C->C
 | .seq _ b=>b
 |c=>c
noncomputable def Oe:C:=P5 (P5 (P5 BZ))
def GS.push (g:GS):GS:= { g with en:=g.en++[⟨0,-1,[]⟩]}
def REn (B:GB) (σ:AI) (g:GS) (j:Nat) (F0:Fm) (L0:Lm) (F:Fm) (L:Lm) (τ:AI):Prop:=JK [0,2,4,7] F=F0/\Hs [0,2,4,7] L=L0/\(nbH σ).le τ/\∃jc,GX B τ g.push j jc
theorem AIC (B:GB) (hB:H7 B) (e:Ex) (env:Env) (g:GS) (σ:AI) (j jc:Nat) (hen:g.en.length<=900000000) (hg:GX B σ g j jc) (Q:AV->AI->Prop)
 (h:∀τ jc',(nbH σ).le τ->GX B τ g.push j jc'->Run Ci Q [.code Oe] (put 0 (.gp B.i 0) (put 2 (.d (J9 env)) (put 4 (.lp 4 0) (put 7 (.d (.int .i64 (g.en.length:Int))) U)))) (Am 4 (e.enc.map AV.d) E) τ):
 AT Tzp 56 [.gp B.i 0,exA e,.d (J9 env)] σ Q:=by
 have hbi:=hg.bi;have hje:=hg.e;have hcu:=ltT hB.cur;obtain ⟨w1,w2,w3,w4,w5⟩:=T4 g.en jc;have hcg:(B.es.set B.cur (enV g.en jc))[B.cur]?=some (enV g.en jc):=by simp [hB.cur]
 obtain ⟨o,n,u,ns,ks,al⟩:=e;refine ZQ (by simp) ?_;rw [Dm];simp only [exA,Ex.A2,AD,AJ] at h ⊢;(repeat' (first|refine ctQ rfl ?_|((first|refine rgQ mxQ ?_|refine cdQ ?_|(refine A7 rfl (fun h=>?_) (fun h=>?_)<;>try (cases h;done)))<;>try simp only [hbi,hje,hcu,hcg,A5,w1,w2,w3,w4,w5,go_sem])|(refine ⟨fun h=>?_,fun h=>?_⟩<;>first|(cases h;done)|try simp only [h])|fail));refine Run.eT mixed (REn B σ g j (put 0 (.gp B.i 0) (put 2 (.d (J9 env)) (put 4 (.lp 4 0) (put 7 (.d (.int .i64 (g.en.length:Int))) U)))) (Am 4 [.d (.int .i64 o),.d (.str n),.d (.int .i64 u),.d (.sl (ns.map BF)),.d (.sl (ks.map Ex.enc)),.d (.sl (al.map Al.enc))] E)) ?_ ?_
 . simp only [hbi,hje,hcu,hcg,A5,w1,w2,w3,w4,w5,go_sem];refine ⟨⟨?_,?_⟩,⟨?_,?_⟩,?_⟩<;>
   . refine Pm.en hB hg (t:=0) (f:=-1) (ar:=[]) rfl hen (by omega) ⟨hg.gi.pos,by omega,by omega,by simp⟩ (fun jc' τ e1 e2 hg1 hnb=>?_);have f1:=e1.trans hbi;have f2:=e2.trans hje;have hle:(B.cur+1<=(B.es.set B.cur (enV g.en jc)).length)=True:=by have:=hB.cur;simp;omega
     have hsw:=AUQ hB.cur (enV g.en jc) (.ms jc' (g.en.length+1) 3 tkE);simp only [f1,f2,hcu,A5,hle,hsw,go_sem];refine ⟨?_,?_,⟨fun _ _ h=>(by cases h),hnb.tok,hnb.gt,hnb.bt⟩,jc',hg1⟩<;>simp only [go_sem]
 . rintro F' L' τ ⟨h1,h2,hnb,jc',hg1⟩;rw [h1,h2];exact h τ jc' hnb hg1
end Go.Ab
namespace Go.Ab
open Go.Proofs
def XL (g:GS) (r:Nat×GS):Nat×GS:=(r.1,r.2.Sx g.en.length fun e=> { e with t:=r.1})
theorem AQG (G:GC) (nm:Str) (u:Int) (ns:List Str) (ks:List Ex) (al:List Al) (env:Env) (g:GS):Bg G (.mk 4 nm u ns ks al) env g=XL g (W9 G env nm g.en.length g.push):=rfl
theorem AQM (G:GC) {o:Int} (ho:o=1\/o=2\/o=3\/o=15) (nm:Str) (u:Int) (ns:List Str) (ks:List Ex) (al:List Al) (env:Env) (g:GS):Bg G (.mk o nm u ns ks al) env g=XL g (g.push.nx,g.push.add (r6 o) 0 []):=by
 rcases ho with rfl|rfl|rfl|rfl<;>rfl
def AWR (G:GC) (ks:List Ex) (env:Env) (g:GS):Nat×GS:=((CO G ks env g).2.nx,(CO G ks env g).2.add 6 0 (CO G ks env g).1)
theorem AQH (G:GC) (nm:Str) (u:Int) (ns:List Str) (ks:List Ex) (al:List Al) (env:Env) (g:GS):Bg G (.mk 5 nm u ns ks al) env g=XL g (AWR G ks env g.push):=rfl
theorem AQI (G:GC) (nm:Str) (u:Int) (ns:List Str) (ks:List Ex) (al:List Al) (env:Env) (g:GS) {d c:Nat} {D:Dat} {con:Con} (h1:EV G.dt nm=some (d,c)) (h2:G.dt[d]?=some D) (h3:D.cons[c]?=some con):Bg G (.mk 6 nm u ns ks al) env g=XL g (AH4 G D con.args d ks env g.push):=by
 have:Bg G (.mk 6 nm u ns ks al) env g=XL g (match EV G.dt nm with
  |none=>(0,g.push)
  |some (d,c)=>match G.dt[d]? with
   |none=>(0,g.push)
   |some D=>
    let ar:=Af g.push.nx D.vars.toNat
    let h:=DC G ks env 0 (fun i r s=>let q:=FU ar s.1 (((D.cons[c]?).map Con.args).getD []|>.getD i (.mk 0 0 []));Go.Ab.uni (q.2,s.2) r q.1) (g.push.frs D.vars.toNat)
    (h.nx,h.add 5 d ar)):=rfl
 rw [this,h1];simp only [h2,h3];rfl
theorem AMA (G:GC) (nm:Str) (u:Int) (ns:List Str) (ks:List Ex) (a:Al) (al:List Al) (env:Env) (g:GS) {d c:Nat} {D:Dat} (h1:EV G.dt a.con=some (d,c)) (h2:G.dt[d]?=some D):Bg G (.mk 10 nm u ns ks (a::al)) env g=XL g (AJL G D d ks (a::al) env g.push):=by
 have:Bg G (.mk 10 nm u ns ks (a::al)) env g=XL g (match EV G.dt a.con with
  |none=>(0,g.push)
  |some (d,_)=>match G.dt[d]? with
   |none=>(0,g.push)
   |some D=>
    let ar:=Af g.push.nx D.vars.toNat
    let h:=Gw G ks env (g.push.frs D.vars.toNat)
    let r:=h.1
    let h:=(h.2.add 5 d ar).uni r h.2.nx
    let t:=h.nx
    (t,M3 G (a::al) env D ar t (h.add 0 0 []))):=rfl
 rw [this,h1];simp only [h2];rfl
def AVQ (G:GC) (ks:List Ex) (env:Env) (g:GS):Nat×GS:=
 let q:=CO G ks env g
 (q.2.nx,((q.2.add 0 0 []).add 9 0 (q.1.tail++[q.2.nx])).uni (q.1.headD 0) (q.2.nx+1))
theorem AMC (G:GC) (nm:Str) (u:Int) (ns:List Str) (ks:List Ex) (al:List Al) (env:Env) (g:GS):Bg G (.mk 12 nm u ns ks al) env g=XL g (AVQ G ks env g.push):=rfl
theorem AMD (G:GC) (nm:Str) (u:Int) (ns:List Str) (ks:List Ex) (al:List Al) (env:Env) (g:GS):Bg G (.mk 13 nm u ns ks al) env g=XL g ((DC G ks env 0 opF g.push).nx,(DC G ks env 0 opF g.push).add (if 6<=u/\u<=8 then 2 else 1) 0 []):=rfl
theorem AME (G:GC) (nm:Str) (u:Int) (ns:List Str) (ks:List Ex) (al:List Al) (env:Env) (g:GS):Bg G (.mk 14 nm u ns ks al) env g=XL g (Xv G u ks env g.push):=rfl
def AWM (G:GC) (k:Ex) (env:Env) (g:GS):Nat×GS:=
 let q:=Bg G k env g
 (((q.2.add 1 0 []).uni q.1 q.2.nx).nx,((q.2.add 1 0 []).uni q.1 q.2.nx).add 0 0 [])
theorem AMF (G:GC) (nm:Str) (u:Int) (ns:List Str) (k:Ex) (al:List Al) (env:Env) (g:GS):Bg G (.mk 16 nm u ns [k] al) env g=XL g (AWM G k env g.push):=rfl
theorem AQJ (G:GC) (nm:Str) (u:Int) (ns:List Str) (k0 k1:Ex) (al:List Al) (env:Env) (g:GS):Bg G (.mk 7 nm u ns [k0,k1] al) env g=XL g (AJF G nm k0 k1 env g.push):=rfl
theorem AQK (G:GC) (nm:Str) (u:Int) (ns:List Str) (k0 k1:Ex) (al:List Al) (env:Env) (g:GS):Bg G (.mk 8 nm u ns [k0,k1] al) env g=XL g (AKZ G ns k0 k1 env g.push):=rfl
theorem AQL (G:GC) (nm:Str) (u:Int) (ns:List Str) (k0 k1 k2:Ex) (al:List Al) (env:Env) (g:GS):Bg G (.mk 9 nm u ns [k0,k1,k2] al) env g=XL g (AI7 G k0 k1 k2 env g.push):=rfl
theorem AMB (G:GC) (nm:Str) (u:Int) (ns:List Str) (k0:Ex) (al:List Al) (env:Env) (g:GS):Bg G (.mk 11 nm u ns [k0] al) env g=XL g (fnQ G ns k0 env g.push):=rfl
theorem AMG (G:GC) (nm:Str) (u:Int) (ns:List Str) (k0 k1:Ex) (al:List Al) (env:Env) (g:GS):Bg G (.mk 17 nm u ns [k0,k1] al) env g=XL g (AKV G nm k0 k1 env g.push):=rfl
theorem RQ.cast {B:GB} {σ σ':AI} {g g':GS} {n c m c' m':Nat} (h:RQ B σ g n c m g' σ') (e1:c=c') (e2:m=m'):RQ B σ g n c' m' g' σ':=by subst e1;subst e2;exact h
theorem AUC {nk:Nat} {o u:Int} (h:nkB o u nk=true):1<=o/\o<=17:=by
 unfold nkB at h
 repeat' split at h
 all_goals first
  |omega
  |(exfalso;simp at h;done)
theorem ANL {nk:Nat} {o u:Int} (h:nkB o u nk=true):o=1\/o=2\/o=3\/o=4\/o=5\/o=6\/o=7\/o=8\/o=9\/o=10\/o=11\/o=12\/o=13\/o=14\/o=15\/o=16\/o=17:=by
 have:=AUC h;omega
theorem G0 (B:GB) (hB:H7 B) (e:Ex) (env:Env) (g:GS) (σ τ0:AI) (hnb:(nbH σ).le τ0) (r:Nat×GS) (hr:Bg B.G e env g=XL g r) (S:Nat) (hs:e.size=1+S) (τ:AI) (q:RQ B τ0 g.push r.1 (1000000 * (1+S)) S r.2 τ):
 Run Ci (fun v σ'=>v=nA (Bg B.G e env g).1/\RQ B σ g (Bg B.G e env g).1 (1000000 * e.size) e.size (Bg B.G e env g).2 σ') [.blk 0,.code (.seq (.reg [⟨some 155,.mv (.t 0),none⟩,⟨some 156,.nck (.t 155),none⟩,⟨some 157,.fld (.t 156) 9,none⟩,⟨some 158,.ld (.t 157) none,none⟩,⟨some 159,.mv (.t 0),none⟩,⟨some 160,.nck (.t 159),none⟩,⟨some 161,.fld (.t 160) 10,none⟩,⟨some 162,.ld (.t 161) none,none⟩,⟨some 163,.ix (.t 158) (.t 162) 1,none⟩,⟨some 164,.ld (.t 163) none,none⟩,⟨some 165,.mv (.t 7),none⟩,⟨some 166,.mv (.t 8),none⟩,⟨some 167,.ix (.t 164) (.t 165) 3,none⟩,⟨some 168,.fld (.t 167) 0,none⟩,⟨none,.st (.t 168) (.t 166) 1,none⟩] [8]) (.seq (.reg [⟨some 169,.mv (.t 8),none⟩,⟨some 6,.mv (.t 169),none⟩] [6]) .ret))] (put 0 (.gp B.i 0) (put 7 (.d (.int .i64 (g.en.length:Int))) (put 8 (.d (.int .i64 (r.1:Int))) U))) E τ:=by
 obtain ⟨j,jc,hg⟩:=q.gx;have h1:=q.en;have h2:=q.le;have h3:=q.hi;have hp:g.push.en.length=g.en.length+1:=by simp [GS.push]
 have hpn:g.push.nx=g.nx:=rfl;refine AID B hB r.2 τ j jc g.en.length r.1 _ hg (by omega) q.lt (fun σ' hn hx=>?_);rw [hr,hs];refine ⟨rfl,BD (BD hnb q.nb) hn,hx,q.lt,?_,?_,?_⟩
 . show g.nx<=r.2.nx;omega
 . show r.2.nx+500000<=_;omega
 . show (r.2.en.modify _ _).length=_;rw [List.length_modify];omega
end Go.Ab
namespace Go.Ab
open Go.Proofs
theorem Ey {o:Int} {n:Str} {u:Int} {ns:List Str} {ks:List Ex} {al:List Al} (h:nb1 (.mk o n u ns ks al)):nmB o n=true/\nuB o u=true/\nsB o ns=true/\asB o al=true/\nkB o u ks.length=true:=by
 unfold nb1 Lu at h;simp only [Ex.op,Ex.name,Ex.num,Ex.names,Ex.kids,Ex.alts,AO] at h;obtain ⟨⟨⟨⟨a,b⟩,c⟩,d⟩,e⟩:=h;exact ⟨a,b,c,d,e⟩
theorem nS:∀ {l:List Con} {s:Str} {k:Nat},IT l s=some k->∃c,l[k]?=some c
 |[],s,k,h=>by cases h
 |c::l,s,k,h=>by
  rw [IT] at h;split at h
  . cases h;exact ⟨c,rfl⟩
  . cases hc:IT l s with
    |none=>rw [hc] at h;cases h
    |some m=>
     rw [hc] at h;simp only [Ah,AL] at h;subst h;obtain ⟨x,hx⟩:=nS hc;exact ⟨x,by simpa using hx⟩
theorem Y6:∀ {dt:List Dat} {s:Str} {d c:Nat},EV dt s=some (d,c)->∃D con,dt[d]?=some D/\D.cons[c]?=some con
 |[],s,d,c,h=>by cases h
 |D::dt,s,d,c,h=>by
  rw [EV] at h;cases hk:IT D.cons s with
  |some k=>
   rw [hk] at h;simp only [AL,Bb] at h;obtain ⟨rfl,rfl⟩:=h;obtain ⟨x,hx⟩:=nS hk;exact ⟨D,x,rfl,hx⟩
  |none=>
   rw [hk] at h;cases hc:EV dt s with
   |none=>rw [hc] at h;cases h
   |some y=>
    obtain ⟨d',c'⟩:=y;rw [hc] at h;simp only [Ah,AL,Bb] at h;obtain ⟨rfl,rfl⟩:=h;obtain ⟨D',con,h1,h2⟩:=Y6 hc;exact ⟨D',con,by simpa using h1,h2⟩
theorem y9 {dt:List Dat} {d c:Nat} {D:Dat} {con:Con} (h1:dt[d]?=some D) (h2:D.cons[c]?=some con):arity dt (d,c)=con.args.length:=by
 simp only [arity,h1,h2]
theorem aE {dt:List Dat}:∀ {l:List Al} {xs:List (Nat×Nat)},CY dt l= .ok xs->∀a∈l,∃x∈xs,EV dt a.con=some x/\a.vars.length=arity dt x
 |[],xs,h,a,ha=>by simp at ha
 | .mk c vs b::l,xs,h,a,ha=>by
  rw [CY] at h;cases hc:EV dt c with
  |none=>rw [hc] at h;cases h
  |some x=>
   rw [hc] at h;simp only at h;split at h
   . cases h
   . rename_i hl;split at h
     . cases h
     . cases hg:CY dt l with
       |error e=>rw [hg] at h;cases h
       |ok ys=>
        rw [hg] at h;cases h;rcases Ar.1 ha with rfl|ha
        . exact ⟨x,AS,hc,by simpa [Al.vars] using hl⟩
        . obtain ⟨y,hy,h1,h2⟩:=aE hg a ha;exact ⟨y,AR _ hy,h1,h2⟩
theorem y0 {dt:List Dat} {a:Al} {l:List Al} (h:Jm dt (a::l)=0):∃d,∀b∈a::l,∃c,EV dt b.con=some (d,c)/\b.vars.length=arity dt (d,c):=by
 unfold Jm at h;cases hg:CY dt (a::l) with
 |error e=>
  rw [hg] at h;simp only at h;subst h;exfalso
  have:∀l:List Al,CY dt l≠.error 0:=by
   intro l
   induction l with
   |nil=>intro h;cases h
   |cons a l ih=>
    intro h;obtain ⟨c,vs,b⟩:=a;rw [CY] at h;split at h
    . simp at h
    . split at h
      . simp at h
      . split at h
        . simp at h
        . cases hl:CY dt l with
          |error e=>
           rw [hl] at h;simp only [C3] at h;cases h;exact ih hl
          |ok ys=>rw [hl] at h;cases h
  exact this _ hg
 |ok xs=>
  rw [hg] at h;simp only at h;cases xs with
  |nil=>
   obtain ⟨x,hx,_⟩:=aE hg a (AS);simp at hx
  |cons x xs=>
   split at h
   . rename_i he;unfold gL at he;simp only [AO,A8] at he;refine ⟨x.1,fun b hb=>?_⟩;obtain ⟨y,hy,h1,h2⟩:=aE hg b hb;have hyx:=he.1.1 y hy;have hyx:y.1=x.1:=by simpa using hyx
     obtain ⟨y1,y2⟩:=y;simp only at hyx;subst hyx;exact ⟨y2,h1,h2⟩
   . cases h
def ExT (B:GB) (e:Ex):Prop:=∀(sc:List Str) (env:Env) (g:GS) (σ τ:AI) (j jc:Nat),OkE B.G e sc->ES sc env g.push->g.nx+1000000 * e.size<=900000000->g.en.length+e.size<=900000000->(nbH σ).le τ->GX B τ g.push j jc->
 Run Ci (fun v σ'=>v=nA (Bg B.G e env g).1/\RQ B σ g (Bg B.G e env g).1 (1000000 * e.size) e.size (Bg B.G e env g).2 σ') [.code Oe] (put 0 (.gp B.i 0) (put 2 (.d (J9 env)) (put 4 (.lp 4 0) (put 7 (.d (.int .i64 (g.en.length:Int))) U)))) (Am 4 (e.enc.map AV.d) E) τ
theorem I1 (g:GS):g.push.nx=g.nx:=rfl
theorem I0 (g:GS):g.push.en.length=g.en.length+1:=by simp [GS.push]
theorem AXC (B:GB) (hB:H7 B) (hD:GD B.G) (nm:Str) (u:Int) (ns:List Str):ExT B (.mk 4 nm u ns [] []):=by
 intro sc env g σ τ j jc hok hes hnx hen hnb hg;obtain ⟨hv,hn⟩:=hok.me;have hp:=I1 g;have hpe:=I0 g;have hsz:(Ex.mk 4 nm u ns [] []).size=1+0:=by simp [Ex.size,Ex.AU,Al.AU]
 have hnm:nm≠[]:=by
  intro e;subst e;have:=(Ey hn).1;revert this;decide
 have hv':EY B.G.fs B.G.dt (.mk 4 nm 0 [] [] []) sc=0:=hv;have hc:=ACI B hB hD sc env nm g.en.length g.push τ j jc hnm hv' hes (by omega) (by omega) hg;have hfin:=fun τ' q=>G0 B hB _ env g σ τ hnb _ (AQG B.G nm u ns [] [] env g) 0 hsz τ' q;generalize W9 B.G env nm g.en.length g.push=r at *;simp only [Ex.A2,AD,AJ];unfold Oe BZ;simp only [P5];(repeat' (refine wQ mxQ rfl ?_<;>try simp only [go_sem]));refine AH.mk rfl hc ?_;rintro _ τ2 ⟨rfl,q⟩;simp only [nA];simp only [go_sem]
 trace_state
 exact hfin τ2 q
end Go.Ab
namespace Go.Ab
open Go.Proofs
theorem AEG (o:Int) (n:Str) (ns sc:List Str) (h:o≠11):Fa o n ns sc 0=sc:=by
 unfold Fa;simp [h]
theorem AT3 {o:Int} (h:o≠7/\o≠8/\o≠11/\o≠17) (n:Str) (ns sc:List Str) (i:Nat):Fa o n ns sc i=sc:=by
 unfold Fa;simp [h.1,h.2.1,h.2.2.1,h.2.2.2]
theorem KQ {o:Int} (h:o≠10) {al:List Al} (hb:asB o al=true):al=[]:=by
 unfold asB at hb;rw [if_neg h] at hb;exact BP (by simpa using hb)
theorem OkE.all {G:GC} {o:Int} {n:Str} {u:Int} {ns:List Str} {ks:List Ex} {al:List Al} {sc:List Str} (h:OkE G (.mk o n u ns ks al) sc) (ho:o≠7/\o≠8/\o≠11/\o≠17):∀k∈ks,OkE G k sc:=fun k hk=>by
 obtain ⟨i,hi,rfl⟩:=Bt hk;have:=h.kid (i:=i) (k:=ks[i]) (by simp [hi])
 rwa [AT3 ho] at this
theorem size_mk (o:Int) (n:Str) (u:Int) (ns:List Str) (ks:List Ex) (al:List Al):(Ex.mk o n u ns ks al).size=1+(Ex.AU ks+Al.AU al):=by simp only [Ex.size];omega
theorem yE (a b:Ex):Ex.AU [a,b]=a.size+b.size:=by simp [Ex.AU]
theorem AG9 (a:Ex):Ex.AU [a]=a.size:=by simp [Ex.AU]
theorem ARY (a b c:Ex):Ex.AU [a,b,c]=a.size+(b.size+c.size):=by simp [Ex.AU]
theorem AXE (B:GB) (hB:H7 B) (hD:GD B.G) (nm:Str) (u:Int) (ns:List Str) (ks:List Ex) (al:List Al) (hk:∀k∈ks,ExC B k):ExT B (.mk 6 nm u ns ks al):=by
 intro sc env g σ τ j jc hok hes hnx hen hnb hg;obtain ⟨hv,hn⟩:=hok.me;obtain ⟨n1,n2,n3,n4,n5⟩:=Ey hn;have hp:=I1 g;have hpe:=I0 g;have ha:=KQ (by decide) n4;subst ha;have hsz:=size_mk 6 nm u ns ks [];simp only [Al.AU,CC] at hsz;rw [hsz] at hnx hen;have hok':=hok.all (by decide)
 obtain ⟨d,c,D,con,h1,h2,h3,h4⟩:∃d c D con,EV B.G.dt nm=some (d,c)/\B.G.dt[d]?=some D/\D.cons[c]?=some con/\ks.length=con.args.length:=by
  have hv2:(match EV B.G.dt nm with
   |none=>(3:Int)
   |some x=>if ks.length≠arity B.G.dt x then 5 else 0)=0:=hv
  cases hct:EV B.G.dt nm with
  |none=>rw [hct] at hv2;simp at hv2
  |some x=>
   obtain ⟨d,c⟩:=x;rw [hct] at hv2;obtain ⟨D,con,h2,h3⟩:=Y6 hct;simp only at hv2;rw [y9 h2 h3] at hv2;refine ⟨d,c,D,con,rfl,h2,h3,?_⟩;split at hv2
   . cases hv2
   . rename_i h;simpa using h
 have hc:=AFZ B hB hD nm u ns ks [] hk sc env d c D con h1 h2 h3 h4 g.push τ j jc hok' hes (by omega) (by omega) hg;have hfin:=fun τ' q=>G0 B hB _ env g σ τ hnb _ (AQI B.G nm u ns ks [] env g h1 h2 h3) (Ex.AU ks) hsz τ' q;generalize AH4 B.G D con.args d ks env g.push=r at *;simp only [exA,Ex.A2,AD,AJ] at hc ⊢;unfold Oe BZ;simp only [P5];(repeat' (first|((first|refine wQ mxQ rfl ?_|(refine A7 rfl (fun h=>?_) (fun h=>?_)<;>try (cases h;done))|fail)<;>try simp only [go_sem])|(refine ⟨fun h=>?_,fun h=>?_⟩<;>first|(cases h;done)|try simp only [h])|fail));refine AH.mk rfl hc ?_;rintro _ τ2 ⟨rfl,q⟩;simp only [nA];simp only [go_sem];exact hfin τ2 (q.cast (by omega) (by omega))
theorem AV7 (B:GB) (hB:H7 B) (hD:GD B.G) (nm:Str) (u:Int) (ns:List Str) (ks:List Ex) (al:List Al) (hk:∀k∈ks,ExC B k):ExT B (.mk 13 nm u ns ks al):=by
 intro sc env g σ τ j jc hok hes hnx hen hnb hg;obtain ⟨hv,hn⟩:=hok.me;obtain ⟨n1,n2,n3,n4,n5⟩:=Ey hn;have hp:=I1 g;have hpe:=I0 g;have ha:=KQ (by decide) n4;subst ha;have hsz:=size_mk 13 nm u ns ks [];simp only [Al.AU,CC] at hsz;rw [hsz] at hnx hen;have hok':=hok.all (by decide);have hc:=ABD B hB nm u ns ks [] hk sc env g.push τ j jc hok' hes (by omega) (by omega) hg;have hfin:=fun τ' q=>G0 B hB _ env g σ τ hnb _ (AMD B.G nm u ns ks [] env g) (Ex.AU ks) hsz τ' q;generalize DC B.G ks env 0 opF g.push=r at *;simp only [exA,Ex.A2,AD,AJ] at hc ⊢;unfold Oe BZ;simp only [P5];(repeat' (first|((first|refine wQ mxQ rfl ?_|(refine A7 rfl (fun h=>?_) (fun h=>?_)<;>try (cases h;done))|fail)<;>try simp only [go_sem])|(refine ⟨fun h=>?_,fun h=>?_⟩<;>first|(cases h;done)|try simp only [h])|fail));refine AH.mk rfl hc ?_;rintro _ τ2 ⟨rfl,q⟩;simp only [nA];simp only [go_sem];exact hfin τ2 (q.cast (by omega) (by omega))
theorem AV8 (B:GB) (hB:H7 B) (hD:GD B.G) (nm:Str) (u:Int) (ns:List Str) (ks:List Ex) (al:List Al) (hk:∀k∈ks,ExC B k):ExT B (.mk 14 nm u ns ks al):=by
 intro sc env g σ τ j jc hok hes hnx hen hnb hg;obtain ⟨hv,hn⟩:=hok.me;obtain ⟨n1,n2,n3,n4,n5⟩:=Ey hn;have hp:=I1 g;have hpe:=I0 g;have ha:=KQ (by decide) n4;subst ha;have hsz:=size_mk 14 nm u ns ks [];simp only [Al.AU,CC] at hsz;rw [hsz] at hnx hen;have hok':=hok.all (by decide);have hu:1<=u/\u<=7:=by simpa [nuB] using n2
 have hl:ks.length=Zr u:=by simpa [nkB] using n5
 have hc:=AF1 B hB nm u ns ks [] hk sc env g.push τ j jc hu hl hok' hes (by omega) (by omega) hg;have hfin:=fun τ' q=>G0 B hB _ env g σ τ hnb _ (AME B.G nm u ns ks [] env g) (Ex.AU ks) hsz τ' q;generalize Xv B.G u ks env g.push=r at *;simp only [exA,Ex.A2,AD,AJ] at hc ⊢;unfold Oe BZ;simp only [P5];(repeat' (first|((first|refine wQ mxQ rfl ?_|(refine A7 rfl (fun h=>?_) (fun h=>?_)<;>try (cases h;done))|fail)<;>try simp only [go_sem])|(refine ⟨fun h=>?_,fun h=>?_⟩<;>first|(cases h;done)|try simp only [h])|fail));refine AH.mk rfl hc ?_;rintro _ τ2 ⟨rfl,q⟩;simp only [nA];simp only [go_sem];exact hfin τ2 (q.cast (by omega) (by omega))
theorem AV4 (B:GB) (hB:H7 B) (hD:GD B.G) (nm:Str) (u:Int) (ns:List Str) (k:Ex) (a:Al) (al:List Al) (hk:ExC B k) (hka:∀b∈a::al,ExC B b.body):ExT B (.mk 10 nm u ns [k] (a::al)):=by
 intro sc env g σ τ j jc hok hes hnx hen hnb hg;obtain ⟨hv,hn⟩:=hok.me;obtain ⟨n1,n2,n3,n4,n5⟩:=Ey hn;have hp:=I1 g;have hpe:=I0 g;have hsz:=size_mk 10 nm u ns [k] (a::al);rw [hsz] at hnx hen;have hok':=hok.all (by decide) k (by simp);have hoka:=fun (b:Al) (hb:b∈a::al)=>hok.alt hb;obtain ⟨d,hd⟩:=y0 (show Jm B.G.dt (a::al)=0 from hv);obtain ⟨c0,h0,_⟩:=hd a (AS);obtain ⟨D,con0,h2,_⟩:=Y6 h0
 have hal:∀b∈a::al,∃c con,EV B.G.dt b.con=some (d,c)/\D.cons[c]?=some con/\b.vars.length=con.args.length:=fun b hb=>by
  obtain ⟨c,h1,h3⟩:=hd b hb;obtain ⟨D',con,h4,h5⟩:=Y6 h1;rw [h2] at h4;cases h4;exact ⟨c,con,h1,h5,by rw [h3,y9 h2 h5]⟩
 have hc:=ACC B hB hD nm u ns k (a::al) hk hka sc env d D h2 (by simp) hal g.push τ j jc hok' hoka hes (by omega) (by omega) hg;have hfin:=fun τ' q=>G0 B hB _ env g σ τ hnb _ (AMA B.G nm u ns [k] a al env g h0 h2) (Ex.AU [k]+Al.AU (a::al)) hsz τ' q;generalize AJL B.G D d [k] (a::al) env g.push=r at *;simp only [exA,Ex.A2,AD,AJ] at hc ⊢;unfold Oe BZ;simp only [P5];(repeat' (first|((first|refine wQ mxQ rfl ?_|(refine A7 rfl (fun h=>?_) (fun h=>?_)<;>try (cases h;done))|fail)<;>try simp only [go_sem])|(refine ⟨fun h=>?_,fun h=>?_⟩<;>first|(cases h;done)|try simp only [h])|fail));refine AH.mk rfl hc ?_;rintro _ τ2 ⟨rfl,q⟩;simp only [nA];simp only [go_sem];exact hfin τ2 (q.cast (by omega) (by omega))
theorem AXF (B:GB) (hB:H7 B) (hD:GD B.G) (nm:Str) (u:Int) (ns:List Str) (k0 k1:Ex) (al:List Al) (hk0:ExC B k0) (hk1:ExC B k1):ExT B (.mk 7 nm u ns [k0,k1] al):=by
 intro sc env g σ τ j jc hok hes hnx hen hnb hg;obtain ⟨hv,hn⟩:=hok.me;obtain ⟨n1,n2,n3,n4,n5⟩:=Ey hn;have hp:=I1 g;have hpe:=I0 g;have ha:=KQ (by decide) n4;subst ha;have hsz:=size_mk 7 nm u ns [k0,k1] [];simp only [Al.AU,CC,yE] at hsz;rw [hsz] at hnx hen;have ho0:OkE B.G k0 sc:=by have:=hok.kid (i:=0) (k:=k0) rfl;rwa [AEG _ _ _ _ (by decide)] at this
 have ho1:OkE B.G k1 (sJ nm sc):=by have:=hok.kid (i:=1) (k:=k1) rfl;simpa [Fa,sJ] using this
 have hc:=AKW B nm u ns k0 k1 [] hk0 hk1 sc env g.push τ j jc ho0 ho1 hes (by omega) (by omega) hg;have hfin:=fun τ' q=>G0 B hB _ env g σ τ hnb _ (AQJ B.G nm u ns k0 k1 [] env g) (k0.size+k1.size) hsz τ' q;generalize AJF B.G nm k0 k1 env g.push=r at *;simp only [exA,Ex.A2,AD,AJ] at hc ⊢;unfold Oe BZ;simp only [P5];(repeat' (first|((first|refine wQ mxQ rfl ?_|(refine A7 rfl (fun h=>?_) (fun h=>?_)<;>try (cases h;done))|fail)<;>try simp only [go_sem])|(refine ⟨fun h=>?_,fun h=>?_⟩<;>first|(cases h;done)|try simp only [h])|fail));refine AH.mk rfl hc ?_;rintro _ τ2 ⟨rfl,q⟩;simp only [nA];simp only [go_sem];exact hfin τ2 (q.cast (by omega) (by omega))
theorem AWA (B:GB) (hB:H7 B) (hD:GD B.G) (nm:Str) (u:Int) (ns:List Str) (k0 k1:Ex) (al:List Al) (hk0:ExC B k0) (hk1:ExC B k1):ExT B (.mk 17 nm u ns [k0,k1] al):=by
 intro sc env g σ τ j jc hok hes hnx hen hnb hg;obtain ⟨hv,hn⟩:=hok.me;obtain ⟨n1,n2,n3,n4,n5⟩:=Ey hn;have hp:=I1 g;have hpe:=I0 g;have ha:=KQ (by decide) n4;subst ha;have hsz:=size_mk 17 nm u ns [k0,k1] [];simp only [Al.AU,CC,yE] at hsz;rw [hsz] at hnx hen;have ho0:OkE B.G k0 sc:=by have:=hok.kid (i:=0) (k:=k0) rfl;rwa [AEG _ _ _ _ (by decide)] at this
 have ho1:OkE B.G k1 (sJ nm sc):=by have:=hok.kid (i:=1) (k:=k1) rfl;simpa [Fa,sJ] using this
 have hc:=AKX B hB nm u ns k0 k1 [] hk0 hk1 sc env g.push τ j jc ho0 ho1 hes (by omega) (by omega) hg;have hfin:=fun τ' q=>G0 B hB _ env g σ τ hnb _ (AMG B.G nm u ns k0 k1 [] env g) (k0.size+k1.size) hsz τ' q;generalize AKV B.G nm k0 k1 env g.push=r at *;simp only [exA,Ex.A2,AD,AJ] at hc ⊢;unfold Oe BZ;simp only [P5];(repeat' (first|((first|refine wQ mxQ rfl ?_|(refine A7 rfl (fun h=>?_) (fun h=>?_)<;>try (cases h;done))|fail)<;>try simp only [go_sem])|(refine ⟨fun h=>?_,fun h=>?_⟩<;>first|(cases h;done)|try simp only [h])|fail));refine AH.mk rfl hc ?_;rintro _ τ2 ⟨rfl,q⟩;simp only [nA];simp only [go_sem];exact hfin τ2 (q.cast (by omega) (by omega))
theorem AXG (B:GB) (hB:H7 B) (hD:GD B.G) (nm:Str) (u:Int) (ns:List Str) (k0 k1:Ex) (al:List Al) (hk0:ExC B k0) (hk1:ExC B k1):ExT B (.mk 8 nm u ns [k0,k1] al):=by
 intro sc env g σ τ j jc hok hes hnx hen hnb hg;obtain ⟨hv,hn⟩:=hok.me;obtain ⟨n1,n2,n3,n4,n5⟩:=Ey hn;have hp:=I1 g;have hpe:=I0 g;have ha:=KQ (by decide) n4;subst ha;have hsz:=size_mk 8 nm u ns [k0,k1] [];simp only [Al.AU,CC,yE] at hsz;rw [hsz] at hnx hen;have ho0:OkE B.G k0 sc:=by have:=hok.kid (i:=0) (k:=k0) rfl;rwa [AEG _ _ _ _ (by decide)] at this
 have ho1:OkE B.G k1 (sc++ns):=by have:=hok.kid (i:=1) (k:=k1) rfl;simpa [Fa] using this
 have hns:ns.length<=1000:=by
  simp [nsB] at n3;omega
 have hc:=AKY B hB nm u ns k0 k1 [] hk0 hk1 sc env g.push τ j jc hns ho0 ho1 hes (by omega) (by omega) hg;have hfin:=fun τ' q=>G0 B hB _ env g σ τ hnb _ (AQK B.G nm u ns k0 k1 [] env g) (k0.size+k1.size) hsz τ' q;generalize AKZ B.G ns k0 k1 env g.push=r at *;simp only [exA,Ex.A2,AD,AJ] at hc ⊢;unfold Oe BZ;simp only [P5];(repeat' (first|((first|refine wQ mxQ rfl ?_|(refine A7 rfl (fun h=>?_) (fun h=>?_)<;>try (cases h;done))|fail)<;>try simp only [go_sem])|(refine ⟨fun h=>?_,fun h=>?_⟩<;>first|(cases h;done)|try simp only [h])|fail));refine AH.mk rfl hc ?_;rintro _ τ2 ⟨rfl,q⟩;simp only [nA];simp only [go_sem];exact hfin τ2 (q.cast (by omega) (by omega))
theorem AV5 (B:GB) (hB:H7 B) (hD:GD B.G) (nm:Str) (u:Int) (ns:List Str) (k0:Ex) (al:List Al) (hk0:ExC B k0):ExT B (.mk 11 nm u ns [k0] al):=by
 intro sc env g σ τ j jc hok hes hnx hen hnb hg;obtain ⟨hv,hn⟩:=hok.me;obtain ⟨n1,n2,n3,n4,n5⟩:=Ey hn;have hp:=I1 g;have hpe:=I0 g;have ha:=KQ (by decide) n4;subst ha;have hsz:=size_mk 11 nm u ns [k0] [];simp only [Al.AU,CC,AG9] at hsz;rw [hsz] at hnx hen;have ho0:OkE B.G k0 (sc++ns):=by have:=hok.kid (i:=0) (k:=k0) rfl;simpa [Fa] using this
 have hns:ns.length<=1000:=by
  simp [nsB] at n3;omega
 have hc:=AO1 B hB nm u ns k0 [] hk0 sc env g.push τ j jc hns ho0 hes (by omega) (by omega) hg;have hfin:=fun τ' q=>G0 B hB _ env g σ τ hnb _ (AMB B.G nm u ns k0 [] env g) (k0.size) hsz τ' q;generalize fnQ B.G ns k0 env g.push=r at *;simp only [exA,Ex.A2,AD,AJ] at hc ⊢;unfold Oe BZ;simp only [P5];(repeat' (first|((first|refine wQ mxQ rfl ?_|(refine A7 rfl (fun h=>?_) (fun h=>?_)<;>try (cases h;done))|fail)<;>try simp only [go_sem])|(refine ⟨fun h=>?_,fun h=>?_⟩<;>first|(cases h;done)|try simp only [h])|fail));refine AH.mk rfl hc ?_;rintro _ τ2 ⟨rfl,q⟩;simp only [nA];simp only [go_sem];exact hfin τ2 (q.cast (by omega) (by omega))
theorem AXH (B:GB) (hB:H7 B) (hD:GD B.G) (nm:Str) (u:Int) (ns:List Str) (k0 k1 k2:Ex) (al:List Al) (hk0:ExC B k0) (hk1:ExC B k1) (hk2:ExC B k2):ExT B (.mk 9 nm u ns [k0,k1,k2] al):=by
 intro sc env g σ τ j jc hok hes hnx hen hnb hg;obtain ⟨hv,hn⟩:=hok.me;obtain ⟨n1,n2,n3,n4,n5⟩:=Ey hn;have hp:=I1 g;have hpe:=I0 g;have ha:=KQ (by decide) n4;subst ha;have hsz:=size_mk 9 nm u ns [k0,k1,k2] [];simp only [Al.AU,CC,ARY] at hsz;rw [hsz] at hnx hen;have hok':=hok.all (by decide);have ho0:=hok' k0 (by simp);have ho1:=hok' k1 (by simp);have ho2:=hok' k2 (by simp);have hc:=AO2 B hB nm u ns k0 k1 k2 [] hk0 hk1 hk2 sc env g.push τ j jc ho0 ho1 ho2 hes (by omega) (by omega) hg;have hfin:=fun τ' q=>G0 B hB _ env g σ τ hnb _ (AQL B.G nm u ns k0 k1 k2 [] env g) (k0.size+(k1.size+k2.size)) hsz τ' q;generalize AI7 B.G k0 k1 k2 env g.push=r at *;simp only [exA,Ex.A2,AD,AJ] at hc ⊢;unfold Oe BZ;simp only [P5];(repeat' (first|((first|refine wQ mxQ rfl ?_|(refine A7 rfl (fun h=>?_) (fun h=>?_)<;>try (cases h;done))|fail)<;>try simp only [go_sem])|(refine ⟨fun h=>?_,fun h=>?_⟩<;>first|(cases h;done)|try simp only [h])|fail));refine AH.mk rfl hc ?_;rintro _ τ2 ⟨rfl,q⟩;simp only [nA];simp only [go_sem];exact hfin τ2 (q.cast (by omega) (by omega))
end Go.Ab
namespace Go.Ab
open Go.Proofs
theorem AQF (B:GB) (hB:H7 B) (o:Int) (ho:o=1\/o=2\/o=3\/o=15) (nm:Str) (u:Int) (ns:List Str):ExT B (.mk o nm u ns [] []):=by
 intro sc env g σ τ j jc hok hes hnx hen hnb hg;have hp:=I1 g;have hpe:=I0 g;have hsz:(Ex.mk o nm u ns [] []).size=1+0:=by simp [Ex.size,Ex.AU,Al.AU]
 rw [hsz] at hnx hen;have hc:=zU B hB o g.push τ j jc (by omega) hg;have hfin:=fun τ' q=>G0 B hB _ env g σ τ hnb _ (AQM B.G ho nm u ns [] [] env g) 0 hsz τ' q
 have hq:∀τ2 j',(nbH τ).le τ2->GX B τ2 (g.push.add (r6 o) 0 []) j' jc->RQ B τ g.push g.push.nx (1000000 * (1+0)) 0 (g.push.add (r6 o) 0 []) τ2:=fun τ2 j' h1 h2=>
  ⟨h1,⟨j',jc,h2⟩,by rw [Cz];omega,by rw [Cz];omega,by rw [Cz];omega,rfl⟩
 simp only [Ex.A2,AD,AJ];unfold Oe BZ;simp only [P5];rcases ho with rfl|rfl|rfl|rfl<;>
 . (repeat' (first|((first|refine wQ mxQ rfl ?_|(refine A7 rfl (fun h=>?_) (fun h=>?_)<;>try (cases h;done))|fail)<;>try simp only [go_sem])|(refine ⟨fun h=>?_,fun h=>?_⟩<;>first|(cases h;done)|try simp only [h])|fail));refine AH.mk rfl hc ?_;rintro _ τ2 ⟨rfl,h1,j',h2⟩;simp only [nA];simp only [go_sem];exact hfin τ2 (hq τ2 j' h1 h2)
theorem AXD (B:GB) (hB:H7 B) (nm:Str) (u:Int) (ns:List Str) (ks:List Ex) (al:List Al) (hk:∀k∈ks,ExC B k):ExT B (.mk 5 nm u ns ks al):=by
 intro sc env g σ τ j jc hok hes hnx hen hnb hg;obtain ⟨hv,hn⟩:=hok.me;obtain ⟨n1,n2,n3,n4,n5⟩:=Ey hn;have hp:=I1 g;have hpe:=I0 g;have ha:=KQ (by decide) n4;subst ha;have hsz:=size_mk 5 nm u ns ks [];simp only [Al.AU,CC] at hsz;rw [hsz] at hnx hen;have hok':=hok.all (by decide);have hc:=AAD B ks hk sc env g.push τ j jc hok' hes (by omega) (by omega) hg;have hfin:=fun τ' q=>G0 B hB _ env g σ τ hnb _ (AQH B.G nm u ns ks [] env g) (Ex.AU ks) hsz τ' q;rw [AWR] at hfin;generalize CO B.G ks env g.push=r at *;simp only [Ex.A2,AD,AJ] at hc ⊢;unfold Oe BZ;simp only [P5];(repeat' (first|((first|refine wQ mxQ rfl ?_|(refine A7 rfl (fun h=>?_) (fun h=>?_)<;>try (cases h;done))|fail)<;>try simp only [go_sem])|(refine ⟨fun h=>?_,fun h=>?_⟩<;>first|(cases h;done)|try simp only [h])|fail));refine AH.mk rfl hc ?_;rintro v τ2 ⟨ho,q⟩;simp only [ho.w4,go_sem];obtain ⟨j2,jc2,hg2⟩:=q.gx;have hle:=q.le;have hhi:=q.hi;have hqe:=q.en;have hrn:r.2.s.1.length=r.2.nx:=rfl;refine AH.mk (by simp [ho.BE,VE,FI]) (Bs B.i j2 r.2.s.1 r.2.s.2 B.rest τ2 6 v r.1 hg2.sn ho.row q.lt (by omega)) ?_;intro v3 τ3 q3;obtain ⟨rfl,hn3,j3,hg3⟩:=hg2.add hB q3;clear q3;rw [hrn];simp only [nA];simp only [go_sem]
 exact hfin τ3 ⟨BD q.nb hn3,⟨j3,jc2,hg3⟩,by rw [Cz];simp only;omega,by rw [Cz];omega,by rw [Cz];omega,by rw [wL];omega⟩
theorem AV9 (B:GB) (hB:H7 B) (nm:Str) (u:Int) (ns:List Str) (k:Ex) (al:List Al) (hk:ExC B k):ExT B (.mk 16 nm u ns [k] al):=by
 intro sc env g σ τ j jc hok hes hnx hen hnb hg;obtain ⟨hv,hn⟩:=hok.me;obtain ⟨n1,n2,n3,n4,n5⟩:=Ey hn;have hp:=I1 g;have hpe:=I0 g;have ha:=KQ (by decide) n4;subst ha;have hsz:=size_mk 16 nm u ns [k] [];simp only [Al.AU,CC,AG9] at hsz;rw [hsz] at hnx hen;have hsk:=Ex.size_pos k;have hok':=hok.all (by decide) k (by simp);have hc:=hk sc env g.push τ j jc hok' hes (by omega) (by omega) hg;have hfin:=fun τ' q=>G0 B hB _ env g σ τ hnb _ (AMF B.G nm u ns k [] env g) k.size hsz τ' q;rw [AWM] at hfin;generalize Bg B.G k env g.push=r at *;obtain ⟨o,n',u',ns',kk,al2⟩:=k;simp only [exA,Ex.A2,AD,AJ] at hc ⊢;unfold Oe BZ;simp only [P5];(repeat' (first|((first|refine wQ mxQ rfl ?_|(refine A7 rfl (fun h=>?_) (fun h=>?_)<;>try (cases h;done))|fail)<;>try simp only [il0,it0,go_sem])|(refine ⟨fun h=>?_,fun h=>?_⟩<;>first|(cases h;done)|try simp only [h])|fail));refine AH.mk rfl hc ?_;rintro _ τ2 ⟨rfl,q⟩;simp only [nA];simp only [go_sem];obtain ⟨j2,jc2,hg2⟩:=q.gx;have hle:=q.le;have hhi:=q.hi;have hqe:=q.en;have hqt:=q.lt;have hrn:r.2.s.1.length=r.2.nx:=rfl;have hna:=Cz r.2 1 0 [];refine AH.mk rfl (Bs B.i j2 r.2.s.1 r.2.s.2 B.rest τ2 1 .Ae [] hg2.sn SB.Ae (by simp) (by omega)) ?_;intro v3 τ3 q3
 obtain ⟨rfl,hn3,j3,hg3⟩:=hg2.add hB q3;clear q3;rw [hrn];simp only [nA];simp only [go_sem];have hna':(r.2.add 1 0 []).s.1.length=r.2.nx+1:=hna;refine AH.mk rfl (C0 B.i B.rest _ _ (r.2.add 1 0 []).s.2 j3 r.1 r.2.nx τ3 (O7 _) hg3.sn (by omega) (by omega) (by omega)) ?_;intro v4 τ4 q4;obtain ⟨hn4,j4,hg4⟩:=hg3.uni hB q4;clear q4;simp only [go_sem];have hnu:=NC (r.2.add 1 0 []) r.1 r.2.nx;have heu:((r.2.add 1 0 []).uni r.1 r.2.nx).en.length=r.2.en.length:=rfl;generalize (r.2.add 1 0 []).uni r.1 r.2.nx=h at *;have hhn:h.s.1.length=h.nx:=rfl;(repeat' (refine wQ mxQ rfl ?_<;>try simp only [go_sem]));refine AH.mk rfl (GR B.i j4 h.s.1 h.s.2 B.rest τ4 hg4.sn (by omega)) ?_;intro v5 τ5 q5;obtain ⟨rfl,hn5,j5,hg5⟩:=hg4.add hB q5;clear q5;rw [hhn];simp only [nA];simp only [go_sem];have hnh:=Cz h 0 0 [];exact hfin τ5 ⟨BD (BD (BD q.nb hn3) hn4) hn5,⟨j5,jc2,hg5⟩,by rw [hnh];simp only;omega,by rw [hnh];omega,by rw [hnh];omega,by rw [wL];omega⟩
end Go.Ab
namespace Go.Ab
open Go.Proofs
theorem AHN (G:GC) (k0:Ex) (ks:List Ex) (env:Env) (g:GS):AVQ G (k0::ks) env g=
 let r:=Bg G k0 env g
 let q:=CO G ks env r.2
 (q.2.nx,((q.2.add 0 0 []).add 9 0 (q.1++[q.2.nx])).uni r.1 (q.2.nx+1)):=rfl
theorem AWP (e:Ex) (l:List Ex):yF (e.enc::l.map Ex.enc) (some (.d (.int .i64 1))) none none 6=some (.d (.sl (l.map Ex.enc))):=by
 have hs:yD (e.enc::l.map Ex.enc) 6=true:=by
  unfold yD;rw [A8];intro r hr
  have:∃x:Ex,x.enc=r:=by
   rcases Ar.1 hr with rfl|hr
   . exact ⟨e,rfl⟩
   . obtain ⟨x,_,rfl⟩:=Be.1 hr;exact ⟨x,rfl⟩
  obtain ⟨⟨o,n,u,ns,ks,al⟩,rfl⟩:=this;simp [Ex.A2]
 simp [yF,hs,fS,Xs];rw [AM (by simp)]
theorem AV6 (B:GB) (hB:H7 B) (nm:Str) (u:Int) (ns:List Str) (k0:Ex) (ks:List Ex) (al:List Al) (hk0:ExC B k0) (hk:∀k∈ks,ExC B k):ExT B (.mk 12 nm u ns (k0::ks) al):=by
 intro sc env g σ τ j jc hok hes hnx hen hnb hg;obtain ⟨hv,hn⟩:=hok.me;obtain ⟨n1,n2,n3,n4,n5⟩:=Ey hn;have hp:=I1 g;have hpe:=I0 g;have ha:=KQ (by decide) n4;subst ha;have hsz:=size_mk 12 nm u ns (k0::ks) [];simp only [Al.AU,CC,Ex.AU] at hsz;rw [hsz] at hnx hen;have hsk:=Ex.size_pos k0;have hkl:=Ex.Bl ks;have hok0:=hok.all (by decide) k0 (by simp);have hok':=fun k (h:k∈ks)=>hok.all (by decide) k (AR _ h);have hc:=hk0 sc env g.push τ j jc hok0 hes (by omega) (by omega) hg;have hfin:=fun τ' q=>G0 B hB _ env g σ τ hnb _ (AMC B.G nm u ns (k0::ks) [] env g) (k0.size+Ex.AU ks) hsz τ' q;rw [AHN] at hfin;simp only at hfin;generalize Bg B.G k0 env g.push=r at *;have hc1:=fun τ' j1 jc1 (h1:g.push.nx<=r.2.nx) (h2:r.2.nx+500000<=g.push.nx+1000000 * k0.size) (h3:r.2.en.length=g.push.en.length+k0.size) (hx:GX B τ' r.2 j1 jc1)=>AAD B ks hk sc env r.2 τ' j1 jc1 hok' (hes.le h1) (by omega) (by omega) hx;have hln:=aW B.G ks env r.2;generalize CO B.G ks env r.2=q0 at *;have hn1:=Cz q0.2 0 0 [];have hn2:=Cz (q0.2.add 0 0 []) 9 0 (q0.1++[q0.2.nx]);have hnu:=NC ((q0.2.add 0 0 []).add 9 0 (q0.1++[q0.2.nx])) r.1 (q0.2.nx+1)
 have heu:(((q0.2.add 0 0 []).add 9 0 (q0.1++[q0.2.nx])).uni r.1 (q0.2.nx+1)).en.length=q0.2.en.length:=rfl;obtain ⟨o,n',u',ns',kk,al2⟩:=k0;simp only [exA,Ex.A2,AD,AJ] at hc ⊢;unfold Oe BZ;simp only [P5];(repeat' (first|refine ctQ rfl ?_|((first|refine rgQ mxQ ?_|refine cdQ ?_|(refine A7 rfl (fun h=>?_) (fun h=>?_)<;>try (cases h;done)))<;>try simp only [il0,it0,go_sem])|(refine ⟨fun h=>?_,fun h=>?_⟩<;>first|(cases h;done)|try simp only [h])|fail));refine AH.mk rfl hc ?_;rintro _ τ2 ⟨rfl,q⟩;simp only [nA];simp only [go_sem];obtain ⟨j2,jc2,hg2⟩:=q.gx;have hle:=q.le;have hhi:=q.hi;have hqe:=q.en;have hqt:=q.lt;have hsl:=AWP (.mk o n' u' ns' kk al2) ks;rw [Ex.A2] at hsl;(repeat' (first|refine ctQ rfl ?_|((first|refine rgQ mxQ ?_|refine cdQ ?_|(refine A7 rfl (fun h=>?_) (fun h=>?_)<;>try (cases h;done)))<;>try simp only [hsl,go_sem])|(refine ⟨fun h=>?_,fun h=>?_⟩<;>first|(cases h;done)|try simp only [h])|fail));refine AH.mk rfl (hc1 τ2 j2 jc2 hle hhi hqe hg2) ?_;rintro v τ3 ⟨ho,q3⟩;simp only [ho.w4,go_sem];obtain ⟨j3,jc3,hg3⟩:=q3.gx;have h3l:=q3.le;have h3h:=q3.hi;have h3e:=q3.en;have h3n:q0.2.s.1.length=q0.2.nx:=rfl;(repeat' (refine wQ mxQ rfl ?_<;>try simp only [ho.w4,go_sem]))
 refine AH.mk rfl (GR B.i j3 q0.2.s.1 q0.2.s.2 B.rest τ3 hg3.sn (by omega)) ?_;intro v4 τ4 q4;obtain ⟨rfl,hn4,j4,hg4⟩:=hg3.add hB q4;clear q4;rw [h3n];simp only [nA];simp only [ho.w4,go_sem];have ho4:=ho.nb hn4;(repeat' (refine wQ mxQ rfl ?_<;>try simp only [ho.w4,go_sem]));refine DD.own ho4 rfl (by simp) (by simp [hln];omega) (by omega) (fun v5 τ5 ho5 hb5=>?_);simp only [ho5.BE,ho5.BV,ho5.cells,ho5.cell,go_sem];have hg5:=hg4.nbo hb5;have ho6:Bz (nbH τ2) 3 1 ((q0.1++[q0.2.nx]).map By) v5 τ5:=by rw [Ay];exact ho5
 have hn1':(q0.2.add 0 0 []).s.1.length=q0.2.nx+1:=hn1;refine AH.mk (by simp [ho5.BE,VE,FI]) (Bs B.i j4 (q0.2.add 0 0 []).s.1 (q0.2.add 0 0 []).s.2 B.rest τ5 9 v5 (q0.1++[q0.2.nx]) hg5.sn ho6.row (fun a ha=>?_) (by omega)) ?_
 . rcases A0.1 ha with ha|ha
   . have:=q3.lt a ha;omega
   . simp only [A6] at ha;subst ha;omega
 intro v7 τ7 q7;obtain ⟨rfl,hn7,j7,hg7⟩:=hg5.add hB q7;clear q7;rw [hn1'];simp only [nA];simp only [go_sem];have hn2':((q0.2.add 0 0 []).add 9 0 (q0.1++[q0.2.nx])).s.1.length=q0.2.nx+2:=by have:=hn2;simp only [GS.nx] at this hn1' ⊢;omega
 refine AH.mk rfl (C0 B.i B.rest _ _ ((q0.2.add 0 0 []).add 9 0 (q0.1++[q0.2.nx])).s.2 j7 r.1 (q0.2.nx+1) τ7 (O7 _) hg7.sn (by omega) (by omega) (by omega)) ?_;intro v8 τ8 q8;obtain ⟨hn8,j8,hg8⟩:=hg7.uni hB q8;clear q8;simp only [go_sem];exact hfin τ8 ⟨BD (BD (BD q.nb ho5.le) hn7) hn8,⟨j8,jc3,hg8⟩,by omega,by omega,by omega,by omega⟩
theorem AXJ {l:List Ex} (h:l.length=2):∃a b,l=[a,b]:=by
 match l,h with
 |[a,b],_=>exact ⟨a,b,rfl⟩
theorem AXK {l:List Ex} (h:l.length=3):∃a b c,l=[a,b,c]:=by
 match l,h with
 |[a,b,c],_=>exact ⟨a,b,c,rfl⟩
theorem AQN (B:GB) (hB:H7 B) (hD:GD B.G):∀(N:Nat) (e:Ex),e.size<=N->ExC B e:=by
 intro N
 induction N with
 |zero=>intro e h;have:=Ex.size_pos e;omega
 |succ N ih=>
 intro e hsz
 have key:∀sc,OkE B.G e sc->ExT B e:=by
  intro sc hok;obtain ⟨o,nm,u,ns,ks,al⟩:=e;obtain ⟨hv,hn⟩:=hok.me;obtain ⟨n1,n2,n3,n4,n5⟩:=Ey hn;have hs:=size_mk o nm u ns ks al
  have hk:∀k∈ks,ExC B k:=fun k hk=>ih k (by
   have:k.size<=Ex.AU ks:=by
    rw [Ex.JN];exact o6 (Zd hk)
   omega)
  have hka:∀a∈al,ExC B a.body:=fun a ha=>ih a.body (by
   have:a.size<=Al.AU al:=by
    rw [Al.JN];exact o6 (Zd ha)
   obtain ⟨c,vs,b⟩:=a;simp only [Al.size,Al.body] at this ⊢;omega)
  have len0:∀ {l:List Ex},l.length=0->l=[]:=fun h=>BP h;have h1:ks.length=1->∃k,ks=[k]:=fun h=>List.length_eq_one_iff.1 h;have h2:ks.length=2->∃a b,ks=[a,b]:=fun h=>AXJ h;have h3:ks.length=3->∃a b c,ks=[a,b,c]:=fun h=>AXK h;have hal:o≠10->al=[]:=fun h=>KQ h n4;rcases ANL n5 with rfl|rfl|rfl|rfl|rfl|rfl|rfl|rfl|rfl|rfl|rfl|rfl|rfl|rfl|rfl|rfl|rfl<;>simp [nkB] at n5
  . subst n5;rw [hal (by decide)];exact AQF B hB 1 (by decide) nm u ns
  . subst n5;rw [hal (by decide)];exact AQF B hB 2 (by decide) nm u ns
  . subst n5;rw [hal (by decide)];exact AQF B hB 3 (by decide) nm u ns
  . subst n5;rw [hal (by decide)];exact AXC B hB hD nm u ns
  . exact AXD B hB nm u ns ks al hk
  . exact AXE B hB hD nm u ns ks al hk
  . obtain ⟨a,b,rfl⟩:=h2 n5;exact AXF B hB hD nm u ns a b al (hk a (by simp)) (hk b (by simp))
  . obtain ⟨a,b,rfl⟩:=h2 n5;exact AXG B hB hD nm u ns a b al (hk a (by simp)) (hk b (by simp))
  . obtain ⟨a,b,c,rfl⟩:=h3 n5;exact AXH B hB hD nm u ns a b c al (hk a (by simp)) (hk b (by simp)) (hk c (by simp))
  . obtain ⟨a,rfl⟩:=h1 n5;cases al with
    |nil=>simp [asB] at n4
    |cons b al=>exact AV4 B hB hD nm u ns a b al (hk a (by simp)) hka
  . obtain ⟨a,rfl⟩:=h1 n5;exact AV5 B hB hD nm u ns a al (hk a (by simp))
  . cases ks with
    |nil=>simp at n5
    |cons a ks=>exact AV6 B hB nm u ns a ks al (hk a (by simp)) (fun k h=>hk k (AR _ h))
  . exact AV7 B hB hD nm u ns ks al hk
  . exact AV8 B hB hD nm u ns ks al hk
  . subst n5;rw [hal (by decide)];exact AQF B hB 15 (by decide) nm u ns
  . obtain ⟨a,rfl⟩:=h1 n5;exact AV9 B hB nm u ns a al (hk a (by simp))
  . obtain ⟨a,b,rfl⟩:=h2 n5;exact AWA B hB hD nm u ns a b al (hk a (by simp)) (hk b (by simp))
 intro sc env g σ j jc hok hes hnx hen hg;exact AIC B hB e env g σ j jc (by omega) hg _ (fun τ jc' hnb hg1=>key sc hok sc env g σ τ j jc' hok (hes.le (AW _)) hnx hen hnb hg1)
end Go.Ab
namespace Go.Ab
open Go.Proofs
structure PG (B:GB) (c0:Nat) (σ:AI) (s:SS) (j:Nat):Prop where
 sn:SN σ B.i s.1 s.2 [.d (.sl (B.ds.map DE.enc)),.d (.sl (B.G.fs.map FE.enc)),dsA B.G.dt,.ms B.js B.G.sch.length 5 eSs,.ms B.jm B.G.mem.length 1 eMm,.ms B.jp B.G.ps.length 1 ePp,.ms B.jr B.G.rs.length 1 3,.ms B.je B.es.length 1 eEe,.d (.int .i64 (c0:Int))] j
 e:σ.blk B.je=some B.es
 nil:B.es[B.cur]?=some .Ae
 x:∀k cs,B.ext k=some cs->σ.blk k=some cs
 jj:B.ext j=none/\j≠B.je
 gi:GI B.G ⟨s,[]⟩
theorem PG.gx {B:GB} (hB:H7 B) {c0:Nat} {σ:AI} {s:SS} {j:Nat} (h:PG B c0 σ s j) (jc:Nat):GX B (σ.AP B.i (ndV s.1 j::.d (.bool s.2)::B.rest)) ⟨s,[]⟩ j jc:=by
 have hs0:s.1≠[]:=fun e=>by have:=h.gi.pos;simp only [GS.nx,e] at this;cases this
 obtain ⟨hji,c0',hc0,hbj⟩:=h.sn.nd hs0;refine ⟨⟨B0,h.sn.HM,fun _=>⟨hji,c0',hc0,by rw [AK,if_neg hji];exact hbj⟩⟩,?_,fun hn=>absurd rfl hn,fun k cs hk=>?_,h.jj,h.gi⟩
 . rw [AK,if_neg (A9 hB.ie),h.e];congr 1;have hl:=hB.cur;refine FO fun m=>?_;rw [B3];split
   . rename_i e;subst e;rw [h.nil];simp [hl,enV]
   . rfl
 . rw [AK,if_neg (fun e=>by rw [e,hB.xi] at hk;cases hk)];exact h.x k cs hk
def SZ (G:GC) (fe:FE) (pl:List Nat) (rf:Nat) (s:SS):GS:=
 let r:=Bg G fe.body (CN [] fe.params pl) ⟨s,[]⟩
 r.2.uni r.1 rf
theorem qZ (B:GB) (hB:H7 B) (hD:GD B.G) (fe:FE) (pl:List Nat) (rf:Nat) (hfe:B.G.fs[B.cur]?=some fe) (hpl:B.G.ps[B.cur]?=some pl) (hrf:B.G.rs[B.cur]?=some rf) (hln:fe.params.length=pl.length) (hok:OkE B.G fe.body fe.params) (c0:Nat) (s:SS) (σ:AI) (j:Nat) (hnx:s.1.length+1000000 * fe.body.size<=900000000) (h:PG B c0 σ s j):
 AT Tzp 28 [.gp B.i 0,.d (.int .i64 (B.cur:Int))] σ (fun _ σ'=>(nbH σ).le σ'/\(∃j jc,GX B σ' (SZ B.G fe pl rf s) j jc)/\s.1.length<=(SZ B.G fe pl rf s).nx/\(SZ B.G fe pl rf s).nx<=s.1.length+1000000 * fe.body.size/\(SZ B.G fe pl rf s).en.length=fe.body.size):=by
 have hg:=h.gx hB 0;have hs0:s.1≠[]:=fun e=>by have:=h.gi.pos;simp only [GS.nx,e] at this;cases this
 have hb0:=h.sn.blk;rw [FH hs0] at hb0;have hnb0:(nbH σ).le (σ.AP B.i (ndV s.1 j::.d (.bool s.2)::B.rest)):=⟨fun _ _ h=>(by cases h),fun _ h=>h,rfl,fun _ _ h=>h⟩;refine Th (by simp) ?_;rw [BK];(repeat' (first|refine ctQ rfl ?_|((first|refine rgQ mxQ ?_|refine cdQ ?_|(refine A7 rfl (fun h=>?_) (fun h=>?_)<;>try (cases h;done)))<;>try simp only [hb0,go_sem])|(refine ⟨fun h=>?_,fun h=>?_⟩<;>first|(cases h;done)|try simp only [h])|fail));have hst:(σ.AP B.i (.ms j s.1.length 4 tkN::.d (.bool s.2)::[.d (.sl (B.ds.map DE.enc)),.d (.sl (B.G.fs.map FE.enc)),dsA B.G.dt,.ms B.js B.G.sch.length 5 eSs,.ms B.jm B.G.mem.length 1 eMm,.ms B.jp B.G.ps.length 1 ePp,.ms B.jr B.G.rs.length 1 3,.ms B.je B.es.length 1 eEe,.d (.int .i64 (B.cur:Int))]))=σ.AP B.i (ndV s.1 j::.d (.bool s.2)::B.rest):=by rw [FH hs0];rfl
 rw [hst];generalize σ.AP B.i (ndV s.1 j::.d (.bool s.2)::B.rest)=τ at *;have hbi:=hg.bi;have hp2:=hg.x _ _ hB.p;have hr2:=hg.x _ _ hB.r;have hpa:=pU hpl;have hra:=Rk hrf;have hcl:=(AG.1 hfe).1;have hcf:=ltT hcl;have hcp:=ltT (show B.cur < B.G.ps.length by rw [hB.lp];exact hcl);have hcr:=ltT (show B.cur < B.G.rs.length by rw [hB.lr];exact hcl);have hfr:=Av (enc:=FE.enc) hfe;have hw:=KD .G4 [] PlV.G4 fe.params pl hln τ
 have hes:ES fe.params (CN [] fe.params pl) ⟨s,[]⟩:=by
  have h0:ES [] [] (⟨s,[]⟩:GS):=⟨fun s _=>by simp [Lr],fun x hx=>by simp at hx⟩;have:=h0.with (ns:=fe.params) (ts:=pl) hln (g':=⟨s,[]⟩) (AW _) (h.gi.ps pl (AE hpl));simpa using this
 have hc:=AQN B hB hD fe.body.size fe.body (AW _) fe.params (CN [] fe.params pl) ⟨s,[]⟩ τ j 0 hok hes hnx (by simp only [CG];have:=Ex.size_pos fe.body;omega) hg;have hrs:=h.gi.rs rf (AE hrf);rw [SZ];generalize hr:Bg B.G fe.body (CN [] fe.params pl) ⟨s,[]⟩=r at *;obtain ⟨fn,fp,o,n,u,ns,ks,al⟩:=fe;simp only [FE.enc,Ex.A2,exA,AD,AJ] at hfr hc hw;have hnx':s.1.length+1000000 * (Ex.mk o n u ns ks al).size<=900000000:=hnx;refine Run.Jf mixed ?_;simp only [hbi,hp2,hpa,hfr,hcf,hcp,A5,go_sem];refine ⟨⟨?_,?_⟩,?_⟩<;>
 . refine AH.det hw ?_;simp only [hbi,hfr,hcf,go_sem];refine AH.mk rfl hc ?_;rintro _ τ1 ⟨rfl,q⟩;simp only [nA];simp only [go_sem];obtain ⟨j1,jc1,hg1⟩:=q.gx;have hbi1:=hg1.bi;have hr1:=hg1.x _ _ hB.r;have hle:=q.le;have hhi:=q.hi;have hqe:=q.en;have hle':s.1.length<=r.2.nx:=hle;have hhi':r.2.nx+500000<=s.1.length+1000000 * (Ex.mk o n u ns ks al).size:=hhi;have hqe':r.2.en.length=(Ex.mk o n u ns ks al).size:=by rw [hqe];simp
   have hrs':rf < s.1.length:=hrs;have hqt:=q.lt;have hrn:r.2.s.1.length=r.2.nx:=rfl;have hnu:=NC r.2 r.1 rf;(repeat' (refine wQ mxQ rfl ?_<;>try simp only [hbi1,hr1,hra,hcr,A5,go_sem]));refine AH.mk rfl (C0 B.i B.rest _ _ r.2.s.2 j1 r.1 rf τ1 (O7 _) hg1.sn hqt (by omega) (by omega)) ?_;intro v2 τ2 q2;obtain ⟨hn2,j2,hg2⟩:=hg1.uni hB q2;simp only [go_sem];refine Run.fin Ks rfl (fun _ _ h=>h) (AI.le_refl _) ⟨BD (BD hnb0 q.nb) hn2,⟨j2,jc1,hg2⟩,by omega,by omega,?_⟩;rw [AL4,hqe']
end Go.Ab
namespace Go.Ab
open Go.Proofs
structure NGH (σ τ:AI) (n:Nat) (ds:DV) (fs:DV) (dt:AV) (sc:AV) (i jm jp jr je:Nat):Prop where
 mo:Mo σ τ
 fr:σ.blk i=none/\σ.blk jm=none/\σ.blk jp=none/\σ.blk jr=none/\σ.blk je=none
 nd:i≠jm/\i≠jp/\i≠jr/\i≠je/\jm≠jp/\jm≠jr/\jm≠je/\jp≠jr/\jp≠je/\jr≠je
 bi:τ.blk i=some [.Ae,.d (.bool false),.d ds,.d fs,dt,sc,.ms jm n 1 eMm,.ms jp n 1 ePp,.ms jr n 1 3,.ms je n 1 eEe,.d (.int .i64 0)]
 bm:τ.blk jm=some (AF n [AV.d (.bool false)]).flatten
 bp:τ.blk jp=some (AF n [AV.Ae]).flatten
 br:τ.blk jr=some (AF n [AV.d (.int .i64 0)]).flatten
 be:τ.blk je=some (AF n [AV.Ae]).flatten
theorem AB3 (σ:AI) (i:Nat) (cs:List AV):(σ.AP i cs).blk i=some cs:=B0
theorem PC.mo {P:Program} {K:C6} {F:Fm} {L:Lm} {σ:AI} {d:Option Nat} {e s b:Nat} {z:List AV} (n:Nat) (hb:b * n<=281474976710656) (hn:n<=9223372036854775807) (h:∀i τ,σ.blk i=none->Mo σ τ->τ.blk i=some (AF n z).flatten->K (BS d (.ms i n s e) F) L τ):
 PC e s b z (.d (.int .i64 n)) (.d (.int .i64 n)) d K F L σ:=PC.mk n hb hn fun i hi=>h i _ hi ((Mo.refl σ).new hi _) (AB3 σ i _)
theorem pJ {τ:AI} {a b:Nat} {c:List AV} (ha:τ.blk a=some c) (hb:τ.blk b=none):a≠b:=fun e=>by rw [e,hb] at ha;cases ha
theorem uX (n:Nat):(AF n [AV.Ae]).flatten=AF n .Ae:=by
 induction n with
 |zero=>rfl
 |succ n ih=>rw [B1,BU,ih,B1];rfl
def RNG (σ:AI) (n:Nat) (ds fs:DV) (dt sc:AV) (F0:Nat->Fm) (L0:Lm) (F:Fm) (L:Lm) (τ:AI):Prop:=
 ∃i jm jp jr je,NGH σ τ n ds fs dt sc i jm jp jr je/\JK [3,4,10] F=F0 i/\Hs [3,4,10] L=L0
noncomputable def ngR:C:=P5 (P5 (P5 L9))
theorem sT (σ:AI) (fs:List FE) (ds:List DE) (dt:List Dat) (js:Nat) (ns:Nat) (mem:List Nat) (Q:AV->AI->Prop) (hn:fs.length<=1000)
 (h:∀τ i jm jp jr je,NGH σ τ fs.length (.sl (ds.map DE.enc)) (.sl (fs.map FE.enc)) (dsA dt) (.ms js ns 5 eSs) i jm jp jr je->
   Run Gj Q [.code ngR] (put 3 (.d (.sl (mem.map By))) (put 4 (.lp 4 0) (put 10 (.gp i 0) U))) (Am 4 [.d (.sl (ds.map DE.enc)),.d (.sl (fs.map FE.enc))] E) τ):
 AT Tzp 27 [.agg [.d (.sl (ds.map DE.enc)),.d (.sl (fs.map FE.enc))],dsA dt,.ms js ns 5 eSs,.d (.sl (mem.map By))] σ Q:=by
 refine dW (by simp) ?_;rw [fR,dsA];(repeat' (first|refine ctQ rfl ?_|((first|refine rgQ mxQ ?_|refine cdQ ?_|(refine A7 rfl (fun h=>?_) (fun h=>?_)<;>try (cases h;done)))<;>try simp only [AA,go_sem])|(refine ⟨fun h=>?_,fun h=>?_⟩<;>first|(cases h;done)|try simp only [h])|fail));refine Run.eT mixed (RNG σ fs.length (.sl (ds.map DE.enc)) (.sl (fs.map FE.enc)) (dsA dt) (.ms js ns 5 eSs) (fun i=>put 3 (.d (.sl (mem.map By))) (put 4 (.lp 4 0) (put 10 (.gp i 0) U))) (Am 4 [.d (.sl (ds.map DE.enc)),.d (.sl (fs.map FE.enc))] E)) ?_ ?_
 . simp only [go_sem];refine ⟨?_,?_,?_,?_⟩<;>
   (refine PC.mo (P:=Tzp) fs.length (by omega) (by omega) (fun a τ1 ha m1 f1=>?_)
    simp only [go_sem];refine ⟨?_,?_,?_⟩<;>
    (refine PC.mo (P:=Tzp) fs.length (by omega) (by omega) (fun b τ2 hb m2 f2=>?_)
     simp only [go_sem];refine ⟨?_,?_⟩<;>
     (refine PC.mo (P:=Tzp) fs.length (by omega) (by omega) (fun c τ3 hc m3 f3=>?_)
      simp only [go_sem];refine PC.mo (P:=Tzp) fs.length (by omega) (by omega) (fun d τ4 hd m4 f4=>?_);simp only [go_sem];intro i hi;have a2:=m2.blk _ _ f1;have a3:=m3.blk _ _ a2;have a4:=m4.blk _ _ a3;have b3:=m3.blk _ _ f2;have b4:=m4.blk _ _ b3;have c4:=m4.blk _ _ f3;have n1:=pJ f1 hb;have n2:=pJ a2 hc;have n3:=pJ a3 hd;have n4:=pJ a4 hi;have n5:=pJ f2 hc;have n6:=pJ b3 hd;have n7:=pJ b4 hi;have n8:=pJ f3 hd;have n9:=pJ c4 hi;have n0:=pJ f4 hi;have sb:=m1.ne hb;have sc:=(m1.trans m2).ne hc;have sd:=((m1.trans m2).trans m3).ne hd;have si:=(((m1.trans m2).trans m3).trans m4).ne hi;unfold RNG;refine ⟨i,_,_,_,_,⟨(((m1.trans m2).trans m3).trans m4).new hi _,⟨si,?_,?_,?_,?_⟩,⟨?_,?_,?_,?_,?_,?_,?_,?_,?_,?_⟩,AB3 τ4 i _,?_,?_,?_,?_⟩,?_,?_⟩
      all_goals first
       |assumption
       |exact A9 (by assumption)
       |(rw [AK,if_neg (by assumption)];assumption)
       |simp only [go_sem])))
 . rintro F' L' τ ⟨i,jm,jp,jr,je,hng,h1,h2⟩;rw [h1,h2];exact h τ i jm jp jr je hng
end Go.Ab
namespace Go.Ab
open Go.Proofs
def pcV:Option (List Nat)->AV
 |none=>.Ae
 |some l=>.d (.sl (l.map By))
structure NGs where
 mem:List Bool
 ps:List (Option (List Nat))
 rs:List Nat
 l:List Nd
def Xu (fs:List FE) (f:Nat):Nat:=((fs[f]?).map fun x=>x.params.length).getD 0
def ngS (fs:List FE) (s:NGs) (f:Nat):NGs:=
 ⟨s.mem.set f true,s.ps.set f (some (Af s.l.length (Xu fs f))),s.rs.set f (s.l.length+Xu fs f),LY (G2 s.l (Xu fs f)) 0 0 []⟩
def ng0 (n:Nat):NGs:=⟨AF n false,AF n none,AF n 0,[]⟩
abbrev ANI (n:Nat) (ds fs:DV) (dt sc:AV) (jm jp jr je:Nat):List AV:=[.d ds,.d fs,dt,sc,.ms jm n 1 eMm,.ms jp n 1 ePp,.ms jr n 1 3,.ms je n 1 eEe,.d (.int .i64 0)]
structure NGI (σ τ:AI) (n:Nat) (ds fs:DV) (dt sc:AV) (i jm jp jr je j:Nat) (s:NGs):Prop where
 mo:Mo σ τ
 fr:σ.blk i=none/\σ.blk jm=none/\σ.blk jp=none/\σ.blk jr=none/\σ.blk je=none
 nd:i≠jm/\i≠jp/\i≠jr/\i≠je/\jm≠jp/\jm≠jr/\jm≠je/\jp≠jr/\jp≠je/\jr≠je
 sn:SN τ i s.l false (ANI n ds fs dt sc jm jp jr je) j
 bm:τ.blk jm=some (BX s.mem)
 bp:τ.blk jp=some (s.ps.map pcV)
 br:τ.blk jr=some (DF s.rs)
 be:τ.blk je=some (AF n .Ae)
 jx:s.l≠[]->σ.blk j=none/\jm≠j/\jp≠j/\jr≠j/\je≠j
 len:s.mem.length=n/\s.ps.length=n/\s.rs.length=n
variable {σ τ:AI} {n:Nat} {ds fs:DV} {dt sc:AV} {i jm jp jr je j:Nat} {s:NGs}
theorem NGH.start (h:NGH σ τ n ds fs dt sc i jm jp jr je) (j:Nat):NGI σ τ n ds fs dt sc i jm jp jr je j (ng0 n):=
 ⟨h.mo,h.fr,h.nd,⟨h.bi,FM.nil,fun hl=>absurd rfl hl⟩,by rw [h.bm,tN];rfl,by rw [h.bp,uX];simp [ng0,pcV],by rw [h.br,eU];rfl,by rw [h.be,uX],fun hl=>absurd rfl hl,by simp [ng0]⟩
theorem NGI.step (h:NGI σ τ n ds fs dt sc i jm jp jr je j s) {τ':AI} {l':List Nd} {j':Nat} (sn:SN τ' i l' false (ANI n ds fs dt sc jm jp jr je) j') (fr:Fr τ i s.l j τ' l' j'):NGI σ τ' n ds fs dt sc i jm jp jr je j' { s with l:=l'}:=by
 obtain ⟨d1,d2,d3,d4,_⟩:=h.nd
 have hk:∀k c,k≠i->(s.l≠[]->k≠j)->τ.blk k=some c->τ'.blk k=some c/\(l'≠[]->k≠j'):=fun k c h1 h2 h3=>
  ⟨by rw [fr.blk k h1 h2 (by rw [h3];simp),h3],fr.apart h2 (by rw [h3];simp)⟩
 have km:=hk jm _ (A9 d1) (fun hl=>(h.jx hl).2.1) h.bm;have kp:=hk jp _ (A9 d2) (fun hl=>(h.jx hl).2.2.1) h.bp;have kr:=hk jr _ (A9 d3) (fun hl=>(h.jx hl).2.2.2.1) h.br;have ke:=hk je _ (A9 d4) (fun hl=>(h.jx hl).2.2.2.2) h.be
 have hold:∀k c,σ.blk k=some c->τ'.blk k=some c:=fun k c hc=>by
  have h1:k≠i:=fun e=>by rw [e,h.fr.1] at hc;cases hc
  have h2:s.l≠[]->k≠j:=fun hl e=>by rw [e,(h.jx hl).1] at hc;cases hc
  exact (hk k c h1 h2 (h.mo.blk k c hc)).1
 refine ⟨⟨hold,D8 h.mo.nb (fr.nb2 (IZ τ))⟩,h.fr,h.nd,sn,km.1,kp.1,kr.1,ke.1,fun hl'=>⟨?_,km.2 hl',kp.2 hl',kr.2 hl',ke.2 hl'⟩,h.len⟩;rcases fr.nw hl' with ⟨hl,e⟩|e
 . rw [e];exact (h.jx hl).1
 . exact h.mo.ne e
theorem NGI.AXS (h:NGI σ τ n ds fs dt sc i jm jp jr je j s) (m:List Bool) (hm:m.length=n):NGI σ (τ.AP jm (BX m)) n ds fs dt sc i jm jp jr je j { s with mem:=m}:=by
 obtain ⟨d1,d2,d3,d4,d5,d6,d7,d8,d9,d10⟩:=h.nd;exact ⟨h.mo.AOK h.fr.2.1 _,h.fr,h.nd,h.sn.set (A9 d1) (fun hl=>(h.jx hl).2.1),B0,by rw [AK,if_neg (A9 d5)];exact h.bp,by rw [AK,if_neg (A9 d6)];exact h.br,by rw [AK,if_neg (A9 d7)];exact h.be,h.jx,⟨hm,h.len.2⟩⟩
theorem NGI.AXT (h:NGI σ τ n ds fs dt sc i jm jp jr je j s) (m:List (Option (List Nat))) (hm:m.length=n):NGI σ (τ.AP jp (m.map pcV)) n ds fs dt sc i jm jp jr je j { s with ps:=m}:=by
 obtain ⟨d1,d2,d3,d4,d5,d6,d7,d8,d9,d10⟩:=h.nd;exact ⟨h.mo.AOK h.fr.2.2.1 _,h.fr,h.nd,h.sn.set (A9 d2) (fun hl=>(h.jx hl).2.2.1),by rw [AK,if_neg d5];exact h.bm,B0,by rw [AK,if_neg (A9 d8)];exact h.br,by rw [AK,if_neg (A9 d9)];exact h.be,h.jx,⟨h.len.1,hm,h.len.2.2⟩⟩
theorem NGI.AXU (h:NGI σ τ n ds fs dt sc i jm jp jr je j s) (m:List Nat) (hm:m.length=n):NGI σ (τ.AP jr (DF m)) n ds fs dt sc i jm jp jr je j { s with rs:=m}:=by
 obtain ⟨d1,d2,d3,d4,d5,d6,d7,d8,d9,d10⟩:=h.nd;exact ⟨h.mo.AOK h.fr.2.2.2.1 _,h.fr,h.nd,h.sn.set (A9 d3) (fun hl=>(h.jx hl).2.2.2.1),by rw [AK,if_neg d6];exact h.bm,by rw [AK,if_neg d8];exact h.bp,B0,by rw [AK,if_neg (A9 d10)];exact h.be,h.jx,⟨h.len.1,h.len.2.1,hm⟩⟩
theorem AUG {l:List (Option (List Nat))} {r:Nat} (v:List Nat) (h:r < l.length):(l.map pcV).take r++[.d (.sl (v.map By))]++(l.map pcV).drop (r+1)=(l.set r (some v)).map pcV:=by
 induction l generalizing r with
 |nil=>cases h
 |cons x l ih=>
  cases r with
  |zero=>simp [pcV]
  |succ r=>
   have:=ih (r:=r) (by simpa using h);simp only [AD,Cj,FX,CU,AZ] at this ⊢;rw [this]
end Go.Ab
namespace Go.Ab
open Go.Proofs
def pgl (ps:List (Option (List Nat))):List (List Nat):=ps.map fun o=>o.getD []
theorem AJ3 (ps:List (Option (List Nat))):AV.CL (ps.map pcV)=psC (pgl ps):=by
 induction ps with
 |nil=>simp [AV.CL,psC,pgl]
 |cons o ps ih=>
  simp only [AD,AV.CL];rw [ih];cases o with
  |none=>simp [pcV,pgl,psC,Kh]
  |some l=>simp [pcV,pgl,psC,G6]
theorem AA9 (σ:AI) (fs:List FE) (ds:List DE) (dt:List Dat) (js:Nat) (ns:Nat) (mem:List Nat) (hn:fs.length<=1000) (hm:∀f∈mem,f < fs.length) (hml:mem.length<=1000) (hpar:∀f∈fs,f.params.length<=1000):
 AT Tzp 27 [.agg [.d (.sl (ds.map DE.enc)),.d (.sl (fs.map FE.enc))],dsA dt,.ms js ns 5 eSs,.d (.sl (mem.map By))] σ (fun v σ'=>∃i jm jp jr je j τ,v= .gp i 0/\
  NGI σ τ fs.length (.sl (ds.map DE.enc)) (.sl (fs.map FE.enc)) (dsA dt) (.ms js ns 5 eSs) i jm jp jr je j (mem.foldl (ngS fs) (ng0 fs.length))/\σ'=τ.AP jp (psC (pgl (mem.foldl (ngS fs) (ng0 fs.length)).ps))):=by
 refine sT σ fs ds dt js ns mem _ hn (fun τ0 i jm jp jr je h0=>?_);unfold ngR L9;simp only [P5];(repeat' (refine wQ mxQ rfl ?_<;>try simp only [AA,go_sem]));refine Run.At ?_
 refine Run.Au ((fun (a4:AV) (a10:AV) (a29:AV) (a30:AV)=>fun (z:Nat×AI)=>put 4 a4 (put 10 a10 (put 29 a29 (put 30 a30 (put 31 (.d (.int .i64 z.1)) U))))) _ _ _ _) (fun _=>Am 4 [.d (.sl (ds.map DE.enc)),.d (.sl (fs.map FE.enc))] E) (fun z=>z.2)
  (fun z=>z.1<=mem.length/\((mem.take z.1).foldl (ngS fs) (ng0 fs.length)).l.length<=2000 * z.1/\∃j,NGI σ z.2 fs.length (.sl (ds.map DE.enc)) (.sl (fs.map FE.enc)) (dsA dt) (.ms js ns 5 eSs) i jm jp jr je j ((mem.take z.1).foldl (ngS fs) (ng0 fs.length)))
  (fun z=>mem.length - z.1) ?_ (0,τ0) ⟨by simp,by simp [ng0],0,h0.start 0⟩
 rintro ⟨p,τ⟩ ⟨hp,hll,j,hg⟩ ih;simp only at hp hll hg;by_cases hlt:p < mem.length
 . obtain ⟨f,hf⟩:=Ai hlt;have hfr:=Hf hf;have hfl:=hm f (AE hf);have hw1:=A4 (show p+1<=9000000000000000000 by omega)
   have hst:(mem.take (p+1)).foldl (ngS fs) (ng0 fs.length)=ngS fs ((mem.take p).foldl (ngS fs) (ng0 fs.length)) f:=by
    rw [Aa hf,Cq];rfl
   generalize (mem.take p).foldl (ngS fs) (ng0 fs.length)=s at *;obtain ⟨fe,hfe⟩:=Ai hfl;have hfe2:=Av (enc:=FE.enc) hfe;have hpn:=hpar fe (AE hfe);have hpk:Xu fs f=fe.params.length:=by simp [Xu,hfe]
   obtain ⟨fn,fp,o,n,u,ns',ks,al⟩:=fe;simp only [FE.enc,Ex.A2] at hfe2 hpn hpk;have hnT:=ltT hfl;have hbi:=hg.sn.blk;have hbm:=hg.bm;obtain ⟨c1,c2,c3,c4,c5⟩:=AA8 s.l j;have hle1:(f+1<=(BX s.mem).length)=True:=by rw [Pd,hg.len.1];simp;omega
   have hset:=mZ true (show f < s.mem.length by rw [hg.len.1];exact hfl);have hg1:=hg.AXS (s.mem.set f true) (by simp [hg.len.1]);(repeat' (first|refine ctQ rfl ?_|((first|refine rgQ mxQ ?_|refine cdQ ?_|(refine A7 rfl (fun h=>?_) (fun h=>?_)<;>try (cases h;done)))<;>try simp only [Ag hlt,hfr,hbi,hbm,hnT,A5,hle1,hset,go_sem])|(refine ⟨fun h=>?_,fun h=>?_⟩<;>first|(cases h;done)|try simp only [h])|fail));generalize τ.AP jm (BX (s.mem.set f true))=τ1 at hg1 ⊢;have hbi1:=hg1.sn.blk;have hbp1:=hg1.bp;simp only at hbi1 hbp1;have hle2:(f+1<=(s.ps.map pcV).length)=True:=by rw [AA,hg.len.2.1];simp;omega
   have hle3:(f+1<=(DF s.rs).length)=True:=by rw [eO,hg.len.2.2];simp;omega
   have hset2:=AUG (Af s.l.length fp.length) (show f < s.ps.length by rw [hg.len.2.1];exact hfl);have hset3:=eP (l:=s.rs) (v:=s.l.length+fp.length) (show f < s.rs.length by rw [hg.len.2.2];exact hfl);have hfn:=Kq s.l fp.length;refine Run.Jf mixed ?_;simp only [hbi1,hbp1,hfe2,hnT,A5,AA,go_sem];refine ⟨?_,?_⟩<;>
   (refine AH.mk rfl (EC i j s.l false _ τ1 fp.length hg1.sn (by omega) (by omega)) ?_
    rintro _ τ2 ⟨rfl,j2,sn2,fr2⟩;have hg2:=hg1.step sn2 fr2;have hbi2:=hg2.sn.blk;have hbp2:=hg2.bp;simp only at hbi2 hbp2;have hg3:=hg2.AXT (s.ps.set f (some (Af s.l.length fp.length))) (by simp [hg.len.2.1]);simp only [hbi2,hbp2,hnT,A5,hle2,hset2,go_sem];generalize τ2.AP jp ((s.ps.set f (some (Af s.l.length fp.length))).map pcV)=τ3 at hg3 ⊢;have hbi3:=hg3.sn.blk;have hbr3:=hg3.br;simp only at hbi3 hbr3;refine Run.Jf mixed ?_;simp only [hbi3,hbr3,hnT,A5,go_sem];refine ⟨?_,?_⟩<;>
    (refine AH.mk rfl (GR i j2 (G2 s.l fp.length) false _ τ3 hg3.sn (by omega)) ?_
     rintro _ τ4 ⟨rfl,j4,sn4,fr4⟩;have hg4:=hg3.step sn4 fr4;have hbi4:=hg4.sn.blk;have hbr4:=hg4.br;simp only at hbi4 hbr4;have hg5:=hg4.AXU (s.rs.set f (s.l.length+fp.length)) (by simp [hg.len.2.2]);rw [hfn];simp only [nA];simp only [hbi4,hbr4,hnT,A5,hle3,hset3,go_sem];(repeat' (refine wQ mxQ rfl ?_<;>try simp only [hw1,go_sem]));refine ih ⟨p+1,_⟩ ⟨hlt,?_,j4,?_⟩ (by simp only;omega)
     . simp only [hst,ngS,Hp,hpk,hfn];omega
     . simp only [hst,ngS,hpk];exact hg5))
 . have hpe:p=mem.length:=by omega
   subst hpe;rw [BR] at hg;(repeat' (refine wQ mxQ rfl ?_<;>try simp only [B5 hlt,go_sem]));refine Run.AHI (σ':=τ.AP jp (psC (pgl (mem.foldl (ngS fs) (ng0 fs.length)).ps))) (fun m cs' hc=>?_) (fun t ht=>ht) ?_
   . rw [AK] at hc;split at hc
     . rename_i e;subst e;cases hc;exact ⟨_,hg.bp,.inr (AJ3 _).symm⟩
     . exact ⟨cs',hc,.inl rfl⟩
   (repeat' ((first|refine wQ mxQ rfl ?_|refine Run.qP Re ?_|fail)<;>try simp only [go_sem]));exact ⟨i,jm,jp,jr,je,j,τ,rfl,hg,rfl⟩
end Go.Ab
namespace Go.Ab
open Go.Proofs
abbrev eTy:Nat:=46
theorem AQ8 {c:List Nd} {r:Nat} {y:Nd} (h:c[r]?=some y):((ndC c).drop (r * 4)).take 3=[.d (.int .i64 y.k),.d (.int .i64 y.n),.d (.sl (y.ar.map By))]:=by
 obtain ⟨y1,y2,y3,_⟩:=Sl h;refine FO fun m=>?_;rw [B2]
 match m with
 |0=>simpa [BT] using y1
 |1=>simpa [BT] using y2
 |2=>simpa [BT] using y3
 |m+3=>rw [if_neg (by omega)];simp
def smE (es:List (Int×Int)):Prop:=∀n x,es.lookup n=some x->0<=x/\x<=1000000000
def RdC (i:Nat) (rest:List AV) (l:List Nd) (es:List (Int×Int)) (n:Nat):Prop:=∀(fl:Bool) (j t:Nat) (σ:AI),SN σ i l fl rest j->σ.tok t=true->
 AT Tzp 68 [.gp i 0,nA n,.om t es] σ (SNQ σ i l rest j (l,fl) (tyA (rdN l es n)))
def RdQ (σ:AI) (i:Nat) (l:List Nd) (fl:Bool) (rest:List AV) (j:Nat) (es:List (Int×Int)) (us:List Nat) (v:AV) (σ':AI):Prop:=
 Bz (nbH σ) eTy 3 ((us.map (rdN l es)).map Ty.enc) v σ'/\∃j',SN σ' i l fl rest j'/\Fr σ i l j σ' l j'
theorem Q0 (i:Nat) (rest:List AV) (l:List Nd) (es:List (Int×Int)) (us:List Nat) (hU:∀u∈us,RdC i rest l es u) (hul:us.length<=900000000) (fl:Bool) (j t:Nat) (σ:AI) (h:SN σ i l fl rest j) (ht:σ.tok t=true):
 AT Tzp 67 [.gp i 0,.d (.sl (us.map By)),.om t es] σ (RdQ σ i l fl rest j es us):=by
 have hbi0:σ.blk i≠none:=by rw [h.blk];simp
 refine Tl (by simp) ?_;rw [Dm];(repeat' (refine wQ mxQ rfl ?_<;>try simp only [AA,go_sem]));refine Run.At ?_
 refine Run.Au ((fun (a0:AV) (a2:AV) (a10:AV) (a11:AV)=>fun (z:Nat×AV×AI)=>put 0 a0 (put 2 a2 (put 7 (z.2.1) (put 10 a10 (put 11 a11 (put 12 (.d (.int .i64 z.1)) U)))))) _ _ _ _) (fun _=>E) (fun z=>z.2.2)
  (fun z=>z.1<=us.length/\Bz (nbH σ) eTy 3 (((us.take z.1).map (rdN l es)).map Ty.enc) z.2.1 z.2.2/\∃j',SN z.2.2 i l fl rest j'/\Fr σ i l j z.2.2 l j')
  (fun z=>us.length - z.1) ?_ (0,.Ae,σ) ⟨by simp,by simpa using AJ0 eTy 3,j,h,Fr.refl σ i l j⟩
 rintro ⟨p,v,τ⟩ ⟨hp,ho,j',hs,hf⟩ ih;simp only at hp ho hs hf;by_cases hlt:p < us.length
 . obtain ⟨u,hu⟩:=Ai hlt;have he:=Hf hu;have hw1:=A4 (show p+1<=9000000000000000000 by omega);have hc:=hU u (AE hu) fl j' t τ hs (hf.tok t ht);have hsn:(us.take (p+1)).map (rdN l es)=(us.take p).map (rdN l es)++[rdN l es u]:=by rw [Aa hu,Ay];rfl
   generalize rdN l es u=T at *;obtain ⟨k,n,ts⟩:=T;simp only [nA,Ty.enc,tyA,AD,AJ] at hc;(repeat' (first|refine ctQ rfl ?_|((first|refine rgQ mxQ ?_|refine cdQ ?_|(refine A7 rfl (fun h=>?_) (fun h=>?_)<;>try (cases h;done)))<;>try simp only [Ag hlt,he,ho.w4,Ye,T0,Pk,go_sem])|(refine ⟨fun h=>?_,fun h=>?_⟩<;>first|(cases h;done)|try simp only [h])|fail));refine AH.mk rfl hc ?_;rintro _ τ1 ⟨rfl,j1,h1,f1⟩;simp only [ho.w4,go_sem];refine DD.own (ho.fr f1) rfl (by simp) (by simp;omega) (by omega) (fun v' τ2 ho' hb'=>?_);(repeat' (first|refine ctQ rfl ?_|((first|refine rgQ mxQ ?_|refine cdQ ?_|(refine A7 rfl (fun h=>?_) (fun h=>?_)<;>try (cases h;done)))<;>try simp only [hw1,ho'.BE,ho'.BV,ho'.cells,ho'.cell,go_sem])|(refine ⟨fun h=>?_,fun h=>?_⟩<;>first|(cases h;done)|try simp only [h])|fail));refine ih ⟨p+1,v',τ2⟩ ⟨hlt,?_,j1,?_,?_⟩ (by simp only;omega)
   . simp only [hsn];rw [Ay];exact ho'
   . exact h1.own hb'
   . exact (hf.trans f1 hbi0).own hb' ho'.le
 . have hpe:p=us.length:=by omega
   subst hpe;rw [BR] at ho;(repeat' ((first|refine wQ mxQ rfl ?_|refine Run.qR Kt ?_|fail)<;>try simp only [B5 hlt,ho.w4,go_sem]));exact ⟨ho,j',hs,hf⟩
theorem ART (i:Nat) (rest:List AV) (l:List Nd) (es:List (Int×Int)) (hes:smE es) (d:Nat->Nat) (hd:FR l d) (hln:l.length<=900000000):∀(N n:Nat),d (rtN l n)<=N->n < l.length->(szN l n<=200\/∃x,l[rtN l n]?=some x/\x.k=0)->RdC i rest l es n:=by
 intro N
 induction N using Qe with
 |ind N ihN=>
 intro n hdn hn hsz fl j t σ h ht;have hl0:l≠[]:=fun e=>by rw [e] at hn;cases hn
 have hbi0:σ.blk i≠none:=by rw [h.blk];simp
 obtain ⟨x,hx,hxp⟩:=h.HM.root hn;have hrl:=(AG.1 hx).1;have heq:=xQ (es:=es) h.HM hd hx hxp
 have hkid:x.k≠0->x.ar.length<=199/\∀a∈x.ar,RdC i rest l es a:=fun hk0=>by
  have hs:szN l n<=200:=hsz.resolve_right fun ⟨y,hy,e⟩=>by rw [hx] at hy;cases hy;exact hk0 e
  have hk:=qW h.HM hd hx hxp hs;refine ⟨hk.1,fun a ha=>?_⟩;have h1:=hd.lt _ x hx hxp a ha;exact ihN (d (rtN l a)) (by omega) a (AW _) (h.HM.ar _ x hx a ha) (.inl (hk.2 a ha))
 refine Xe (by simp) ?_;rw [Dm];simp only [nA];(repeat' (first|refine ctQ rfl ?_|((first|refine rgQ mxQ ?_|refine cdQ ?_|(refine A7 rfl (fun h=>?_) (fun h=>?_)<;>try (cases h;done)))<;>try simp only [Ye,T0,Pk,go_sem])|(refine ⟨fun h=>?_,fun h=>?_⟩<;>first|(cases h;done)|try simp only [h])|fail));refine AH.mk rfl (HS i j l fl rest σ n h hn hln) ?_;rintro _ σ1 ⟨rfl,j1,h1,f1⟩;simp only [nA];generalize hr:rtN l n=r at *;obtain ⟨hji,c,hrep,hbj⟩:=h1.nd hl0;have hbi:=h1.blk;rw [FH hl0] at hbi;obtain ⟨y,hy,yk,yn,ya⟩:=hrep.at hx;obtain ⟨y1,y2,y3,y4⟩:=Sl hy;rw [yk] at y1;rw [yn] at y2;rw [ya] at y3;have hrT:=ltT hrl;have hle4:(r * 4+3<=(ndC c).length)=True:=by rw [VD,hrep.len];simp;omega
 have ht1:=f1.tok t ht;have htk:=AQ8 hy;rw [yk,yn,ya] at htk;by_cases hk0:x.k=0
 . have hb:(x.k==0)=true:=by simpa using hk0
   rw [heq,if_pos hk0];cases hlu:es.lookup (r:Int) with
   |some m=>
    have hm:=hes _ _ hlu;(repeat' (first|refine ctQ rfl ?_|((first|refine rgQ mxQ ?_|refine cdQ ?_|(refine A7 rfl (fun h=>?_) (fun h=>?_)<;>try (cases h;done)))<;>try simp only [hbi,hbj,hrT,hle4,htk,hb,Ye,T0,Pk,go_sem])|(refine ⟨fun h=>?_,fun h=>?_⟩<;>first|(cases h;done)|try simp only [h])|fail));refine XEx.AWI ht1 hm hlu ?_;(repeat' (first|refine ctQ rfl ?_|((first|refine rgQ mxQ ?_|refine cdQ ?_|refine Run.qP G3 ?_|(refine A7 rfl (fun h=>?_) (fun h=>?_)<;>try (cases h;done)))<;>try simp only [go_sem])|(refine ⟨fun h=>?_,fun h=>?_⟩<;>first|(cases h;done)|try simp only [h])|fail));exact ⟨rfl,j1,h1,f1⟩
   |none=>
    (repeat' (first|refine ctQ rfl ?_|((first|refine rgQ mxQ ?_|refine cdQ ?_|(refine A7 rfl (fun h=>?_) (fun h=>?_)<;>try (cases h;done)))<;>try simp only [hbi,hbj,hrT,hle4,htk,hb,Ye,T0,Pk,go_sem])|(refine ⟨fun h=>?_,fun h=>?_⟩<;>first|(cases h;done)|try simp only [h])|fail));refine XEx.AWH ht1 hlu ?_;(repeat' (first|refine ctQ rfl ?_|((first|refine rgQ mxQ ?_|refine cdQ ?_|refine Run.qP G3 ?_|(refine A7 rfl (fun h=>?_) (fun h=>?_)<;>try (cases h;done)))<;>try simp only [go_sem])|(refine ⟨fun h=>?_,fun h=>?_⟩<;>first|(cases h;done)|try simp only [h])|fail));exact ⟨rfl,j1,h1,f1⟩
 . have hb:(x.k==0)=false:=by simpa using hk0
   obtain ⟨hkl,hkid⟩:=hkid hk0;rw [heq,if_neg hk0];(repeat' (first|refine ctQ rfl ?_|((first|refine rgQ mxQ ?_|refine cdQ ?_|(refine A7 rfl (fun h=>?_) (fun h=>?_)<;>try (cases h;done)))<;>try simp only [hbi,hbj,hrT,hle4,htk,hb,Ye,T0,Pk,go_sem])|(refine ⟨fun h=>?_,fun h=>?_⟩<;>first|(cases h;done)|try simp only [h])|fail));refine AH.mk rfl (Q0 i rest l es x.ar hkid (by omega) fl j1 t σ1 h1 ht1) ?_;rintro v σ2 ⟨ho,j2,h2,f2⟩;simp only [ho.w4,go_sem];(repeat' ((first|refine wQ mxQ rfl ?_|refine Run.qP G3 ?_|fail)<;>try simp only [ho.plain,ho.BE,go_sem]));exact ⟨by simp only [tyA,Ty.enc,Ty.C1],j2,h2,f1.trans f2 hbi0⟩
end Go.Ab
namespace Go.Ab
def pN (vs:List Nat) (k:Nat):List (Int×Int):=(vs.zipIdx k).map fun p=>((p.1:Int),(p.2:Int))
def EX (vs:List Nat):List (Int×Int):=pN vs 0
theorem Yh (v:Nat) (vs:List Nat) (k:Nat):pN (v::vs) k=((v:Int),(k:Int))::pN vs (k+1):=by simp [pN,List.zipIdx_cons]
theorem u0 (v:Nat):∀(vs:List Nat) (k:Nat),pN (vs++[v]) k=pN vs k++[((v:Int),((k+vs.length:Nat):Int))]
 |[],k=>by simp [pN]
 |u::vs,k=>by
  rw [AZ,Yh,u0 v vs (k+1),Yh,AZ];simp only [A1];rw [show k+1+vs.length=k+(vs.length+1) from by omega]
theorem AJY (v:Nat) (vs:List Nat):EX (vs++[v])=EX vs++[((v:Int),(vs.length:Int))]:=by
 rw [EX,u0];simp [EX]
theorem ABB (vs:List Nat):(EX vs).length=vs.length:=by simp [EX,pN]
theorem uZ {v:Nat}:∀ {vs:List Nat} (k:Nat),v ∉ vs->(pN vs k).lookup (v:Int)=none
 |[],k,_=>rfl
 |u::vs,k,h=>by
  rw [Yh,List.lookup_cons]
  have h1:((v:Int)==(u:Int))=false:=by
   have:v≠u:=fun e=>h (by rw [e];exact AS);rw [beq_eq_false_iff_ne];omega
  rw [h1];exact uZ (k+1) fun hm=>h (AR _ hm)
theorem u3 {n:Int} {x:Int}:∀ {vs:List Nat} {k:Nat},(pN vs k).lookup n=some x->∃i:Nat,x=((k+i:Nat):Int)/\∃v,vs[i]?=some v/\n=(v:Int)
 |[],k,h=>by simp [pN] at h
 |u::vs,k,h=>by
  rw [Yh,List.lookup_cons] at h;by_cases e:n=(u:Int)
  . subst e;simp only [beq_self_eq_true,AL] at h;exact ⟨0,by omega,u,rfl,rfl⟩
  . have:(n==(u:Int))=false:=by simpa using e
    rw [this] at h;obtain ⟨i,h1,v,h2,h3⟩:=u3 h;exact ⟨i+1,by omega,v,by simpa using h2,h3⟩
theorem uY {n x:Int} {vs:List Nat} (h:(EX vs).lookup n=some x):∃i:Nat,x=(i:Int)/\∃v,vs[i]?=some v/\n=(v:Int):=by
 obtain ⟨i,h1,h2⟩:=u3 h;exact ⟨i,by omega,h2⟩
theorem AJX {v:Nat} {vs:List Nat} (h:v ∉ vs):(EX vs).lookup (v:Int)=none:=uZ 0 h
structure UI (l:List Nd) (N:Nat) (s:List Bool×List Nat):Prop where
 nd:s.2.Nodup
 sn:∀r∈s.2,s.1[r]?=some true
 rt:∀r∈s.2,∃x,l[r]?=some x/\x.p=r/\x.k=0
 bd:s.2.length+fz s.1<=N
theorem ACF {l:List Nd} {N:Nat} (hg:FM l):∀(k:Nat) (s:List Bool×List Nat) (n:Nat),s.1.length=l.length->n < l.length->UI l N s->UI l N (JO l k s n)/\(JO l k s n).1.length=l.length
 |0,s,n,hl,_,h=>⟨h,hl⟩
 |k+1,s,n,hl,hn,h=>by
  rw [JO];obtain ⟨x,hx,hp⟩:=hg.root hn;split
  . rename_i h0;have hz:=AD1 h0;have hrl:rtN l n < s.1.length:=(AG.1 h0).1
    have hf:∀(us:List Nat) (q:List Bool×List Nat),(∀a∈us,a < l.length)->q.1.length=l.length->UI l N q->UI l N (us.foldl (fun s a=>JO l k s a) q)/\(us.foldl (fun s a=>JO l k s a) q).1.length=l.length:=by
     intro us
     induction us with
     |nil=>intro q _ hq h;exact ⟨h,hq⟩
     |cons a us ih=>
      intro q hu hq h;rw [Ao];have:=ACF hg k q a hq (hu a (AS)) h;exact ih _ (fun b hb=>hu b (AR _ hb)) this.2 this.1
    simp only [hx,Ah,BC];refine hf _ _ (hg.ar _ x hx) (by simp [hl]) ?_
    have hset:∀r∈s.2,(s.1.set (rtN l n) true)[r]?=some true:=fun r hr=>by
     by_cases e:rtN l n=r
     . rw [<- e,BI hrl]
     . rw [BG e];exact h.sn r hr
    split
    . rename_i hk;have hk:x.k=0:=by simpa using hk
      refine ⟨?_,fun r hr=>?_,fun r hr=>?_,by simp only [AX,EH];have:=h.bd;omega⟩
      . refine Gs.2 ⟨h.nd,by simp,fun a ha b hb=>?_⟩;simp only [A6] at hb;subst hb;intro e;subst e;have:=h.sn _ ha;rw [h0] at this;cases this
      . rcases A0.1 hr with hr|hr
        . exact hset r hr
        . simp only [A6] at hr;subst hr;exact BI hrl
      . rcases A0.1 hr with hr|hr
        . exact h.rt r hr
        . simp only [A6] at hr;subst hr;exact ⟨x,hx,hp,hk⟩
    . exact ⟨h.nd,hset,h.rt,by simp only;have:=h.bd;omega⟩
  . exact ⟨h,hl⟩
theorem ACE {l:List Nd} (hg:FM l) {ts:List Nat} (ht:∀a∈ts,a < l.length):(ACD l ts).Nodup/\(ACD l ts).length<=l.length/\∀r∈ACD l ts,∃x,l[r]?=some x/\x.p=r/\x.k=0:=by
 have hf:∀(us:List Nat) (q:List Bool×List Nat),(∀a∈us,a < l.length)->q.1.length=l.length->UI l l.length q->UI l l.length (us.foldl (fun s a=>JO l (l.length+1) s a) q):=by
  intro us
  induction us with
  |nil=>intro q _ _ h;exact h
  |cons a us ih=>
   intro q hu hq h;rw [Ao];have:=ACF hg (l.length+1) q a hq (hu a (AS)) h;exact ih _ (fun b hb=>hu b (AR _ hb)) this.2 this.1
 have:=hf ts (AF l.length false,[]) ht (by simp) ⟨by simp,by simp,by simp,by have:=AD0 l.length;simp only [CG];omega⟩;exact ⟨this.nd,by have:=this.bd;unfold ACD;omega,this.rt⟩
end Go.Ab
namespace Go.Ab
open Go.Proofs
theorem Run.AXO {cx:Cx} {KK:AV->AI->Prop} {k:List CI} {F:Fm} {L L':Lm} {σ:AI} (hL:∀q cs',L' q=some cs'->∃cs,L q=some cs/\(cs'=cs\/cs'=AV.CL cs)) (h:Run cx KK k F L' σ):Run cx KK k F L σ:=by
 intro items base g lam Pr a w0 w b cs0 hi0 hf hb hk;refine h items base g lam Pr a w0 w b cs0 hi0 ⟨hf.tm,hf.sz,hf.df,fun q cs' hq=>?_,hf.inj,hf.npr,hf.rel⟩ hb hk;obtain ⟨cs,hc,hp⟩:=hL q cs' hq;obtain ⟨hok,b',vs,ty,h1,h2,h3,h4⟩:=hf.loc q cs hc;refine ⟨?_,b',vs,ty,h1,h2,h3,?_⟩
 . rcases hp with rfl|rfl
   . exact hok
   . simp only [Aw,A8] at hok ⊢;intro v hv;obtain ⟨i,hi,rfl⟩:=Bt hv;have h1:=NF cs i;rw [BB hi] at h1;cases hcs:cs[i]? with
     |none=>rw [hcs] at h1;cases h1
     |some c'=>rw [hcs] at h1;simp only [Ah,AL] at h1;rw [h1];exact bT (hok c' (AE hcs))
 . rcases hp with rfl|rfl
   . exact h4
   . exact h4.plain
structure TX (B:GB) (ext:Nat->Option (List AV)) (l:List Nd) (fl:Bool) (j:Nat) (τ:AI):Prop where
 sn:SN τ B.i l fl B.rest j
 x:∀k cs,ext k=some cs->τ.blk k=some cs
 xi:ext B.i=none
 xj:ext j=none
variable {B:GB} {ext:Nat->Option (List AV)} {l:List Nd} {fl:Bool} {j j':Nat} {τ τ':AI}
theorem TX.step (hl:l≠[]) (h:TX B ext l fl j τ) (sn:SN τ' B.i l fl B.rest j') (fr:Fr τ B.i l j τ' l j'):TX B ext l fl j' τ':=by
 have hx:∀k cs,ext k=some cs->τ'.blk k=some cs:=fun k cs hk=>by
  have h1:=h.x k cs hk;rw [fr.blk k (fun e=>by rw [e,h.xi] at hk;cases hk) (fun _ e=>by rw [e,h.xj] at hk;cases hk) (by rw [h1];simp),h1]
 refine ⟨sn,hx,h.xi,?_⟩;rcases fr.nw hl with ⟨_,e⟩|e
 . rw [e];exact h.xj
 . cases he:ext j' with
   |none=>rfl
   |some cs=>rw [h.x _ _ he] at e;cases e
theorem TX.own (h:TX B ext l fl j τ) (hb:∀k,τ'.blk k=τ.blk k):TX B ext l fl j τ':=⟨h.sn.own hb,fun k cs hk=>by rw [hb];exact h.x k cs hk,h.xi,h.xj⟩
structure RF (B:GB) (ext:Nat->Option (List AV)) (l:List Nd) (f jc:Nat) (es:List AV) (pl:List Nat) (rf:Nat) (en:List En):Prop where
 xm:ext B.jm=some (BX B.G.mem)
 xp:ext B.jp=some (psC B.G.ps)
 xr:ext B.jr=some (DF B.G.rs)
 xe:ext B.je=some es
 hes:es.length=B.es.length
 xc:en≠[]->ext jc=some (enC en)
 hpl:B.G.ps[f]?=some pl
 hrf:B.G.rs[f]?=some rf
 hen:es[f]?=some (enV en jc)
 ln:en.length<=900000000
 ps:∀q∈B.G.ps,q.length<=1000/\∀a∈q,a < l.length
 rs:∀a∈B.G.rs,a < l.length
 lm:B.G.mem.length=B.G.fs.length
 lp:B.G.ps.length=B.G.fs.length
 lr:B.G.rs.length=B.G.fs.length
 ent:∀x∈en,x.t < l.length/\-1<=x.f/\x.f < (B.G.fs.length:Int)/\∀a∈x.ar,a < l.length
 szp:∀a∈pl,szN l a<=200
 szr:szN l rf<=200
 sze:∀x∈en,szN l x.t<=200/\∀a∈x.ar,szN l a<=200
 la:∀x∈en,x.ar.length<=900000000
def AA5 (G:GC) (l:List Nd) (e:En):List Nat:=if 0<=e.f/\G.mem.getD e.f.toNat false=true then Da l (G.ps.getD e.f.toNat []) (G.rs.getD e.f.toNat 0) else e.ar
def Tz (G:GC) (l:List Nd) (es:List (Int×Int)) (e:En):Ty×List Ty:=(rdN l es e.t,(AA5 G l e).map (rdN l es))
def OD (n:Ty×List Ty):List DV:=n.1.enc++[.sl (n.2.map Ty.enc)]
def W6 (l:List Nd) (es:List (Int×Int)) (pl:List Nat) (rf n:Nat):Sch:=⟨(n:Int),pl.map (rdN l es),rdN l es rf⟩
abbrev eNt:Nat:=54
def AOH (B:GB) (l:List Nd) (pl:List Nat) (rf:Nat) (en:List En):AV:=
 .tup [.agg (Sch.row (W6 l (EX (Da l pl rf)) pl rf (Da l pl rf).length)),.d (.sl ((en.map (Tz B.G l (EX (Da l pl rf)))).map OD))]
theorem ANP {l:List Nd} {vs:List Nat} (h:vs.length<=900000000):smE (EX vs):=fun n x hx=>by
 obtain ⟨i,h1,v,h2,_⟩:=uY hx;have:=(AG.1 h2).1;omega
def AFI (l:List Nd) (es:List (Int×Int)) (us:List Nat):List (List DV):=(us.map (rdN l es)).map Ty.enc
def RSG (B:GB) (ext:Nat->Option (List AV)) (l:List Nd) (τ0:AI) (t:Nat) (rows:List (List DV)) (F0:Fm) (L0:AV->Lm) (fl:Bool) (F:Fm) (L:Lm) (τ:AI):Prop:=
 ∃v j,v.plain= .d (.sl rows)/\JK [0,1,4,6,9] F=F0/\Hs [0,1,4,6,9] L=L0 v/\(nbH τ0).le τ/\τ.tok t=true/\TX B ext l fl j τ
theorem xT (B:GB) (ext:Nat->Option (List AV)) (l:List Nd) (fl:Bool) (f jc:Nat) (es:List AV) (pl:List Nat) (rf:Nat) (en:List En) (h:RF B ext l f jc es pl rf en) (hl0:l≠[]) (hln:l.length<=900000000)
 (nm:List (Int×Int)) (hrd:∀n,n < l.length->(szN l n<=200\/∃x,l[rtN l n]?=some x/\x.k=0)->RdC B.i B.rest l nm n)
 (hvar:∀(g:Nat) (q:List Nat) (r:Nat),B.G.ps[g]?=some q->B.G.rs[g]?=some r->∀j' τ',TX B ext l fl j' τ'->AT Tzp 66 [.gp B.i 0,.d (.int .i64 (g:Int))] τ' (SNQ τ' B.i l B.rest j' (l,fl) (.d (.sl ((Da l q r).map By)))))
 (hunk:∀(g:Nat) (q:List Nat) (r:Nat),B.G.ps[g]?=some q->B.G.rs[g]?=some r->(Da l q r).Nodup/\(Da l q r).length<=l.length/\∀u∈Da l q r,∃x,l[u]?=some x/\x.p=u/\x.k=0)
 (c0 c1 c2 c3 c4:DV) (τ0 τ1:AI) (j1 t:Nat) (hnb:(nbH τ0).le τ1) (ht:τ1.tok t=true) (hx1:TX B ext l fl j1 τ1) (Q:AV->AI->Prop)
 (hQ:∀σ' j',(nbH τ0).le σ'->TX B ext l fl j' σ'->Q (.tup [.agg [.d c0,.d c1,.d c2,.d c3,.d c4],.d (.sl ((en.map (Tz B.G l nm)).map OD))]) σ'):
 Run EZ Q [.code (.loop Jq),.blk 2,.code (.seq (.reg [⟨some 104,.ldl (.t 9) (some 5),none⟩,⟨some 105,.mv (.t 10),none⟩,⟨none,.st (.t 4) (.t 104) 5,none⟩,⟨some 5,.mv (.t 105),none⟩] [4,5]) .ret)]
  (put 0 (.gp B.i 0) (put 4 (.lp 4 0) (put 6 (.om t nm) (put 9 (.lp 9 0) (put 10 .Ae (put 61 (enV en jc) (put 62 (.d (.int .i64 en.length)) (put 63 (.d (.int .i64 0)) U))))))))
  (Am 4 [.d (.int .i64 0),.Ae,.d (.int .i64 0),.d (.int .i64 0),.Ae] (Am 9 [.d c0,.d c1,.d c2,.d c3,.d c4] E)) τ1:=by
 have look:∀j' τ',TX B ext l fl j' τ'->(τ'.blk B.i=some (.ms j' l.length 4 tkN::.d (.bool fl)::[.d (.sl (B.ds.map DE.enc)),.d (.sl (B.G.fs.map FE.enc)),dsA B.G.dt,.ms B.js B.G.sch.length 5 eSs,.ms B.jm B.G.mem.length 1 eMm,.ms B.jp B.G.ps.length 1 ePp,.ms B.jr B.G.rs.length 1 3,.ms B.je B.es.length 1 eEe,.d (.int .i64 (B.cur:Int))]))/\
  τ'.blk B.jm=some (BX B.G.mem):=fun j' τ' hx=>
  ⟨by rw [hx.sn.blk,FH hl0];rfl,hx.x _ _ h.xm⟩
 have hbi0:∀j' τ',TX B ext l fl j' τ'->τ'.blk B.i≠none:=fun j' τ' hx=>by rw [hx.sn.blk];simp
 obtain ⟨q1,q2,q3,q4,q5⟩:=T4 en jc;have hlen:=h.ln;obtain ⟨τs,hτs⟩:∃x,x=τ1:=⟨_,rfl⟩;rw [<- hτs] at hnb ht;refine Run.At ?_
 refine Run.Au ((fun (a0:AV) (a4:AV) (a6:AV) (a9:AV) (a61:AV) (a62:AV)=>fun (z:Nat×AV×AI)=>put 0 a0 (put 4 a4 (put 6 a6 (put 9 a9 (put 10 (z.2.1) (put 61 a61 (put 62 a62 (put 63 (.d (.int .i64 z.1)) U)))))))) _ _ _ _ _ _) (fun _=>Am 4 [.d (.int .i64 0),.Ae,.d (.int .i64 0),.d (.int .i64 0),.Ae] (Am 9 [.d c0,.d c1,.d c2,.d c3,.d c4] E)) (fun z=>z.2.2)
  (fun z=>z.1<=en.length/\Bz (nbH τs) eNt 4 (((en.take z.1).map (Tz B.G l nm)).map OD) z.2.1 z.2.2/\∃j',TX B ext l fl j' z.2.2)
  (fun z=>en.length - z.1) ?_ (0,.Ae,τ1) ⟨by simp,by rw [hτs];simpa using AJ0 (σ:=τ1) eNt 4,j1,hx1⟩
 clear hτs hx1 τ1 j1;rintro ⟨p,v,τ1⟩ ⟨hp,ho,j1,hx1⟩ ih;simp only at hp ho hx1;by_cases hlt:p < en.length
 . obtain ⟨e,he⟩:=Ai hlt;have hem:=AE he;have hne:en≠[]:=fun e=>by rw [e] at hlt;cases hlt
   have hv:=XJ hne jc;rw [hv] at ih ⊢;have hbj:=hx1.x _ _ (h.xc hne);have hst:=xZ En.row 3 En.Ft he;have hsl:(p * 3+3<=(enC en).length)=True:=by rw [P3 En.row 3 En.Ft];simp;omega
   have hiT:=ltT hlt;have hw1:=A4 (show p+1<=9000000000000000000 by omega);have hent:=h.ent e hem;have hsze:=h.sze e hem;have hlae:=h.la e hem;have hsn:(en.take (p+1)).map (Tz B.G l nm)=(en.take p).map (Tz B.G l nm)++[Tz B.G l nm e]:=by rw [Aa he,Ay];rfl
   have hnp:Tz B.G l nm e=(rdN l nm e.t,(AA5 B.G l e).map (rdN l nm)):=rfl;have hrt:=hrd e.t hent.1 (.inl hsze.1);unfold RdC at hrt;rw [AA5] at hnp;obtain ⟨et,ef,ear⟩:=e;simp only [En.row] at hst hent hsze hnp hrt hlae;rw [hnp] at hsn;clear hnp;generalize rdN l nm et=T at hsn hrt;obtain ⟨Tk,Tn,Tu⟩:=T;simp only [tyA,Ty.enc,Ty.C1,AD,AJ] at hrt;obtain ⟨k1,k2⟩:=look j1 τ1 hx1;by_cases h0:0<=ef
   . have hb0:decide (ef>=0)=true:=decide_eq_true h0;have hb0':decide (0<=ef)=true:=decide_eq_true h0;obtain ⟨m,rfl⟩:=Gr h0;have hml:m < B.G.mem.length:=by rw [h.lm];omega
     obtain ⟨mb,hmb⟩:=Ai hml;have hma:=mY hmb;have hmT:=ltT hml;have hgd:B.G.mem.getD m false=mb:=by simp [hmb]
     simp only [DS,hgd] at hsn;cases mb with
     |true=>
      obtain ⟨q,hq⟩:=Ai (show m < B.G.ps.length by rw [h.lp,<- h.lm];exact hml);obtain ⟨r,hr⟩:=Ai (show m < B.G.rs.length by rw [h.lr,<- h.lm];exact hml);obtain ⟨un,ul,ur⟩:=hunk m q r hq hr;rw [if_pos ⟨h0,rfl⟩,show B.G.ps.getD m []=q by simp [hq],show B.G.rs.getD m 0=r by simp [hr]] at hsn;(repeat' (refine wQ mxQ rfl ?_<;>try simp only [Ag hlt,hbj,hst,hsl,hiT,q1,q2,q3,q4,q5,ho.w4,hb0,hb0',k1,k2,hma,hmT,A5,go_sem]));refine AH.mk rfl (hvar m q r hq hr j1 τ1 hx1) ?_;rintro _ τ2 ⟨rfl,j2,sn2,fr2⟩;have hx2:=hx1.step hl0 sn2 fr2;have ho2:=ho.fr fr2;simp only [ho.w4,go_sem];(repeat' (refine wQ mxQ rfl ?_<;>try simp only [ho.w4,go_sem]));generalize Da l q r=us at *;have hul:us.length<=900000000:=by omega
      have hur:∀a∈us,RdC B.i B.rest l nm a:=fun a ha=>by
       obtain ⟨x,hx,hxp,hxk⟩:=ur a ha;exact hrd a (AG.1 hx).1 (.inr ⟨x,by rw [MA hx,hxp];exact hx,hxk⟩)
      refine AH.mk rfl (hrt fl j2 t τ2 hx2.sn (ho2.le.tok t ht)) ?_;rintro _ τ3 ⟨rfl,j3,sn3,fr3⟩;have hx3:=hx2.step hl0 sn3 fr3;have ho3:=ho2.fr fr3;simp only [ho.w4,go_sem];refine AH.mk rfl (Q0 B.i B.rest l nm us hur hul fl j3 t τ3 hx3.sn (ho3.le.tok t ht)) ?_;rintro w τ4 ⟨how,j4,sn4,fr4⟩;have hx4:=hx3.step hl0 sn4 fr4;simp only [ho.w4,how.BE,how.BV,how.cells,how.cell,how.dv,go_sem];refine DD.own (ho3.fr fr4) rfl (by simp) (by simp;omega) (by omega) (fun v' τ5 ho' hb'=>?_);(repeat' (refine wQ mxQ rfl ?_<;>try simp only [hw1,ho'.BE,ho'.BV,ho'.cells,ho'.cell,go_sem]));refine ih ⟨p+1,v',τ5⟩ ⟨hlt,?_,j4,hx4.own hb'⟩ (by simp only;omega);simp only [hsn,Ay,AD,AJ,OD,Ty.enc,Ty.C1,AZ,As];exact ho'
     |false=>
      rw [if_neg (by simp)] at hsn;(repeat' (refine wQ mxQ rfl ?_<;>try simp only [Ag hlt,hbj,hst,hsl,hiT,q1,q2,q3,q4,q5,ho.w4,hb0,hb0',k1,k2,hma,hmT,A5,go_sem]));generalize τ1=τ2,j1=j2 at *;have hx2:=hx1;have ho2:=ho;generalize ear=us at *;have hul:us.length<=900000000:=hlae;have hur:∀a∈us,RdC B.i B.rest l nm a:=fun a ha=>hrd a (hent.2.2.2 a ha) (.inl (hsze.2 a ha));refine AH.mk rfl (hrt fl j2 t τ2 hx2.sn (ho2.le.tok t ht)) ?_;rintro _ τ3 ⟨rfl,j3,sn3,fr3⟩;have hx3:=hx2.step hl0 sn3 fr3;have ho3:=ho2.fr fr3;simp only [ho.w4,go_sem];refine AH.mk rfl (Q0 B.i B.rest l nm us hur hul fl j3 t τ3 hx3.sn (ho3.le.tok t ht)) ?_;rintro w τ4 ⟨how,j4,sn4,fr4⟩;have hx4:=hx3.step hl0 sn4 fr4;simp only [ho.w4,how.BE,how.BV,how.cells,how.cell,how.dv,go_sem];refine DD.own (ho3.fr fr4) rfl (by simp) (by simp;omega) (by omega) (fun v' τ5 ho' hb'=>?_);(repeat' (refine wQ mxQ rfl ?_<;>try simp only [hw1,ho'.BE,ho'.BV,ho'.cells,ho'.cell,go_sem]));refine ih ⟨p+1,v',τ5⟩ ⟨hlt,?_,j4,hx4.own hb'⟩ (by simp only;omega);simp only [hsn,Ay,AD,AJ,OD,Ty.enc,Ty.C1,AZ,As];exact ho'
   . have hb0:decide (ef>=0)=false:=decide_eq_false h0;have hb0':decide (0<=ef)=false:=decide_eq_false h0;rw [if_neg (fun e=>h0 e.1)] at hsn;(repeat' (refine wQ mxQ rfl ?_<;>try simp only [Ag hlt,hbj,hst,hsl,hiT,q1,q2,q3,q4,q5,ho.w4,hb0,hb0',go_sem]));generalize τ1=τ2,j1=j2 at *;have hx2:=hx1;have ho2:=ho;generalize ear=us at *;have hul:us.length<=900000000:=hlae;have hur:∀a∈us,RdC B.i B.rest l nm a:=fun a ha=>hrd a (hent.2.2.2 a ha) (.inl (hsze.2 a ha));refine AH.mk rfl (hrt fl j2 t τ2 hx2.sn (ho2.le.tok t ht)) ?_;rintro _ τ3 ⟨rfl,j3,sn3,fr3⟩;have hx3:=hx2.step hl0 sn3 fr3;have ho3:=ho2.fr fr3;simp only [ho.w4,go_sem];refine AH.mk rfl (Q0 B.i B.rest l nm us hur hul fl j3 t τ3 hx3.sn (ho3.le.tok t ht)) ?_;rintro w τ4 ⟨how,j4,sn4,fr4⟩;have hx4:=hx3.step hl0 sn4 fr4;simp only [ho.w4,how.BE,how.BV,how.cells,how.cell,how.dv,go_sem];refine DD.own (ho3.fr fr4) rfl (by simp) (by simp;omega) (by omega) (fun v' τ5 ho' hb'=>?_);(repeat' (refine wQ mxQ rfl ?_<;>try simp only [hw1,ho'.BE,ho'.BV,ho'.cells,ho'.cell,go_sem]));refine ih ⟨p+1,v',τ5⟩ ⟨hlt,?_,j4,hx4.own hb'⟩ (by simp only;omega);simp only [hsn,Ay,AD,AJ,OD,Ty.enc,Ty.C1,AZ,As];exact ho'
 . have hpe:p=en.length:=by omega
   subst hpe;rw [BR] at ho;(repeat' ((first|refine wQ mxQ rfl ?_|refine Run.qP M8 ?_|fail)<;>try simp only [B5 hlt,ho.w4,ho.plain,go_sem]));exact hQ τ1 j1 (D8 hnb ho.le) hx1
theorem AKE (B:GB) (ext:Nat->Option (List AV)) (l:List Nd) (d:Nat->Nat) (hd:FR l d) (fl:Bool) (j:Nat) (τ:AI) (f jc:Nat) (es:List AV) (pl:List Nat) (rf:Nat) (en:List En) (h:RF B ext l f jc es pl rf en) (hx:TX B ext l fl j τ) (hl0:l≠[]) (hln:l.length<=900000000):
 AT Tzp 32 [.gp B.i 0,.d (.int .i64 (f:Int))] τ (fun v σ'=>v=AOH B l pl rf en/\(nbH τ).le σ'/\∃j',TX B ext l fl j' σ'):=by
 have hbi0:∀τ',TX B ext l fl j τ'->τ'.blk B.i≠none:=fun τ' hx=>by rw [hx.sn.blk];simp
 have hpl1:=h.ps pl (AE h.hpl);have hrf1:=h.rs rf (AE h.hrf);have hgood:=hx.sn.HM
 have look:∀j' τ',TX B ext l fl j' τ'->(τ'.blk B.i=some (.ms j' l.length 4 tkN::.d (.bool fl)::[.d (.sl (B.ds.map DE.enc)),.d (.sl (B.G.fs.map FE.enc)),dsA B.G.dt,.ms B.js B.G.sch.length 5 eSs,.ms B.jm B.G.mem.length 1 eMm,.ms B.jp B.G.ps.length 1 ePp,.ms B.jr B.G.rs.length 1 3,.ms B.je B.es.length 1 eEe,.d (.int .i64 (B.cur:Int))]))/\
  τ'.blk B.jm=some (BX B.G.mem)/\τ'.blk B.jp=some (psC B.G.ps)/\τ'.blk B.jr=some (DF B.G.rs)/\τ'.blk B.je=some es:=fun j' τ' hx=>
  ⟨by rw [hx.sn.blk,FH hl0];rfl,hx.x _ _ h.xm,hx.x _ _ h.xp,hx.x _ _ h.xr,hx.x _ _ h.xe⟩
 have hvar:∀(g:Nat) (q:List Nat) (r:Nat),B.G.ps[g]?=some q->B.G.rs[g]?=some r->∀j' τ',TX B ext l fl j' τ'->AT Tzp 66 [.gp B.i 0,.d (.int .i64 (g:Int))] τ' (SNQ τ' B.i l B.rest j' (l,fl) (.d (.sl ((Da l q r).map By)))):=fun g q r hq hr j' τ' hx=>
  yQ B l fl j' τ' g q r hl0 hln hx.sn (hx.x _ _ h.xp) (hx.x _ _ h.xr) hq hr (h.ps q (AE hq)).1 (h.ps q (AE hq)).2 (h.rs r (AE hr))
 have hunk:∀(g:Nat) (q:List Nat) (r:Nat),B.G.ps[g]?=some q->B.G.rs[g]?=some r->(Da l q r).Nodup/\(Da l q r).length<=l.length/\∀u∈Da l q r,∃x,l[u]?=some x/\x.p=u/\x.k=0:=fun g q r hq hr=>ACE hgood fun a ha=>by
  rcases A0.1 ha with ha|ha
  . exact (h.ps q (AE hq)).2 a ha
  . simp only [A6] at ha;subst ha;exact h.rs _ (AE hr)
 obtain ⟨hnd,hvl,hvr⟩:=hunk f pl rf h.hpl h.hrf
 have hrd:∀n,n < l.length->(szN l n<=200\/∃x,l[rtN l n]?=some x/\x.k=0)->RdC B.i B.rest l (EX (Da l pl rf)) n:=fun n hn hs=>
  ART B.i B.rest l _ (ANP (l:=l) (by omega)) d hd hln (d (rtN l n)) n (AW _) hn hs
 have hroot:∀u x,l[u]?=some x->x.p=u->x.k=0->u < l.length/\∃x,l[rtN l u]?=some x/\x.k=0:=fun u x hu hp hk=>⟨(AG.1 hu).1,x,by rw [MA hu,hp];exact hu,hk⟩;have hvc:=fun j' τ' hx=>hvar f pl rf h.hpl h.hrf j' τ' hx;rw [AOH];generalize hvs:Da l pl rf=vs at *;refine WG (by simp) ?_;rw [BK];(repeat' (refine wQ mxQ rfl ?_<;>try simp only [go_sem]));refine XEx.mmk (fun t0 ht0=>?_);simp only [go_sem];have hxt:TX B ext l fl j (τ.Cw t0):=hx.own fun k=>U0 _ _ _;(repeat' (refine wQ mxQ rfl ?_<;>try simp only [go_sem]));refine AH.mk rfl (hvc j _ hxt) ?_;rintro _ τ1 ⟨rfl,j1,sn1,fr1⟩;have hx1:=hxt.step hl0 sn1 fr1;have ht1:τ1.tok t0=true:=fr1.tok t0 (by simp [AI.Cw]);have hnb1:(nbH τ).le τ1:=fr1.nb2 ⟨fun _ _ h=>(by cases h),fun t ht=>by simp only [AI.Cw];split;rfl;exact ht,rfl,fun _ _ h=>h⟩;simp only [AA,go_sem];(repeat' (refine wQ mxQ rfl ?_<;>try simp only [AA,go_sem]));refine Run.At ?_
 refine Run.Au ((fun (a0:AV) (a1:AV) (a4:AV) (a17:AV) (a18:AV)=>fun (z:Nat×Nat×AI)=>put 0 a0 (put 1 a1 (put 4 a4 (put 6 (.om z.2.1 (EX (vs.take z.1))) (put 17 a17 (put 18 a18 (put 19 (.d (.int .i64 z.1)) U))))))) _ _ _ _ _) (fun _=>Am 4 [.d (.int .i64 0),.Ae,.d (.int .i64 0),.d (.int .i64 0),.Ae] E) (fun z=>z.2.2)
  (fun z=>z.1<=vs.length/\z.2.2.tok z.2.1=true/\τ.tok z.2.1=false/\(nbH τ).le z.2.2/\∃j',TX B ext l fl j' z.2.2)
  (fun z=>vs.length - z.1) ?_ (0,t0,τ1) ⟨by simp,ht1,ht0,hnb1,j1,hx1⟩
 clear hx1 ht1 hnb1 sn1 fr1 hxt ht0 t0 j1 τ1;rintro ⟨p,t,τ1⟩ ⟨hp,ht,ht0,hnb,j1,hx1⟩ ih;simp only at hp ht ht0 hnb hx1;by_cases hlt:p < vs.length
 . obtain ⟨v,hv⟩:=Ai hlt;have hvr1:=Hf hv;have hw1:=A4 (show p+1<=9000000000000000000 by omega)
   have hno:v ∉ vs.take p:=fun hm=>by
    have h1:=hnd.sublist (List.take_sublist (p+1) vs);rw [Aa hv] at h1;exact (Gs.1 h1).2.2 v hm v (by simp) rfl
   have hsn:EX (vs.take (p+1))=EX (vs.take p)++[((v:Int),(p:Int))]:=by
    rw [Aa hv,AJY];simp;omega
   (repeat' (first|refine ctQ rfl ?_|((first|refine rgQ mxQ ?_|refine cdQ ?_|(refine A7 rfl (fun h=>?_) (fun h=>?_)<;>try (cases h;done)))<;>try simp only [Ag hlt,hvr1,go_sem])|(refine ⟨fun h=>?_,fun h=>?_⟩<;>first|(cases h;done)|try simp only [h])|fail));refine tI.mk ht (AJX hno) (fun t' ht'=>?_);simp only [go_sem];(repeat' (first|refine ctQ rfl ?_|((first|refine rgQ mxQ ?_|refine cdQ ?_|(refine A7 rfl (fun h=>?_) (fun h=>?_)<;>try (cases h;done)))<;>try simp only [hw1,go_sem])|(refine ⟨fun h=>?_,fun h=>?_⟩<;>first|(cases h;done)|try simp only [h])|fail));have hne:∀s,τ.tok s=true->s≠t:=fun s hs e=>by rw [e,ht0] at hs;cases hs
   have htf:τ.tok t'=false:=by
    cases h:τ.tok t' with
    |false=>rfl
    |true=>have:=hnb.tok t' h;rw [ht'] at this;cases this
   have hnb':(nbH τ).le ((τ1.Eo t).Cw t'):=⟨fun _ _ h=>(by cases h),fun s hs=>by
    have h1:=hnb.tok s hs;simp only [AI.Cw,AI.Eo,if_neg (hne s hs)];split
    . rfl
    . exact h1,hnb.gt,hnb.bt⟩
   have hi:=ih ⟨p+1,t',(τ1.Eo t).Cw t'⟩ ⟨hlt,by simp [AI.Cw],htf,hnb',j1,hx1.own fun k=>rfl⟩ (by simp only;omega);simp only [hsn] at hi;exact hi
 . have hpe:p=vs.length:=by omega
   subst hpe;clear ih;have hel:(EX vs).length<=1000000000:=by rw [ABB];omega
   (repeat' (first|refine ctQ rfl ?_|((first|refine rgQ mxQ ?_|refine cdQ ?_|(refine A7 rfl (fun h=>?_) (fun h=>?_)<;>try (cases h;done)))<;>try simp only [B5 hlt,BR,go_sem])|(refine ⟨fun h=>?_,fun h=>?_⟩<;>first|(cases h;done)|try simp only [h])|fail));refine Run.eT mixed (RSG B ext l τ t (AFI l (EX vs) pl) (put 0 (.gp B.i 0) (put 1 (.d (.int .i64 f)) (put 4 (.lp 4 0) (put 6 (.om t (EX vs)) (put 9 (.lp 9 0) U))))) (fun v=>Am 4 [.d (.int .i64 0),.Ae,.d (.int .i64 0),.d (.int .i64 0),.Ae] (Am 9 [.d (.int .i64 ((EX vs).length:Int)),v,.d (.int .i64 (rdN l (EX vs) rf).kind),.d (.int .i64 (rdN l (EX vs) rf).num),.d (.sl ((rdN l (EX vs) rf).args.map Ty.enc))] E)) fl) ?_ ?_
   . obtain ⟨k1,k2,k3,k4,k5⟩:=look j1 τ1 hx1;have hpa:=pU h.hpl;have hra:=Rk h.hrf;have hfp:=ltT (AG.1 h.hpl).1;have hfr:=ltT (AG.1 h.hrf).1;simp only [k1,k3,k4,hpa,hra,hfp,hfr,A5,go_sem];have hr2:=hrd rf hrf1 (.inl h.szr);unfold RdC at hr2;generalize rdN l (EX vs) rf=T at hr2 ⊢;obtain ⟨Tk,Tn,Tu⟩:=T;simp only [tyA,Ty.enc,Ty.C1,AD,AJ] at hr2;have hc1:=Q0 B.i B.rest l (EX vs) pl (fun a ha=>hrd a (hpl1.2 a ha) (.inl (h.szp a ha))) (by omega) fl j1 t τ1 hx1.sn ht
     (repeat' (first
       |(refine XEx.AEV ht hel ?_
         simp only [k1,k3,k4,hpa,hra,hfp,hfr,A5,go_sem])
       |(refine AH.mk rfl hc1 ?_
         rintro v τ2 ⟨ho,j2,sn2,fr2⟩;have hx2:=hx1.step hl0 sn2 fr2;have ht2:=fr2.tok t ht;have hn2:=fr2.nb2 hnb;obtain ⟨q1,q2,q3,q4,q5⟩:=look j2 τ2 hx2;simp only [q1,q4,hra,hfr,A5,ho.w4,go_sem];refine AH.mk rfl (hr2 fl j2 t τ2 hx2.sn ht2) ?_;rintro _ τ3 ⟨rfl,j3,sn3,fr3⟩;simp only [ho.w4,go_sem];unfold RSG;refine ⟨v,j3,ho.plain,(by simp only [go_sem]),(by simp only [Ty.kind,Ty.num,Ty.args,go_sem]),fr3.nb2 hn2,fr3.tok t ht2,hx2.step hl0 sn3 fr3⟩)
       |refine And.intro ?_ ?_))
   . clear hnb ht ht0 hx1 τ1 j1;rintro F' L' τ1 ⟨v,j1,hv,e1,e2,hnb,ht,hx1⟩;rw [e1,e2];clear e1 e2 F' L';refine Run.AXO (L':=Am 4 [.d (.int .i64 0),.Ae,.d (.int .i64 0),.d (.int .i64 0),.Ae] (Am 9 [.d (.int .i64 ((EX vs).length:Int)),.d (.sl (AFI l (EX vs) pl)),.d (.int .i64 (rdN l (EX vs) rf).kind),.d (.int .i64 (rdN l (EX vs) rf).num),.d (.sl ((rdN l (EX vs) rf).args.map Ty.enc))] E)) (fun q cs' hq=>?_) ?_
     . by_cases q4:q=4
       . subst q4;exact ⟨cs',by simpa [Am] using hq,.inl rfl⟩
       . by_cases q9:q=9
         . subst q9;refine ⟨[.d (.int .i64 ((EX vs).length:Int)),v,.d (.int .i64 (rdN l (EX vs) rf).kind),.d (.int .i64 (rdN l (EX vs) rf).num),.d (.sl ((rdN l (EX vs) rf).args.map Ty.enc))],by simp [Am],.inr ?_⟩;simp only [Am,if_neg q4,if_true,AL] at hq;rw [<- hq];simp [AV.CL,hv,G6]
         . simp [Am,q4,q9,E] at hq
     obtain ⟨k1,k2,k3,k4,k5⟩:=look j1 τ1 hx1;have hen:=h.hen;have hfe:((f:Int) < (B.es.length:Int))=True:=by rw [<- h.hes];exact ltT (AG.1 h.hen).1
     obtain ⟨q1,q2,q3,q4,q5⟩:=T4 en jc;(repeat' (refine wQ mxQ rfl ?_<;>try simp only [k1,k5,hen,hfe,A5,q1,q2,q3,q4,q5,go_sem]));refine xT B ext l fl f jc es pl rf en h hl0 hln (EX vs) hrd hvar hunk _ _ _ _ _ τ τ1 j1 t hnb ht hx1 _ (fun σ' j' h1 h2=>⟨?_,h1,j',h2⟩);simp only [Sch.row,W6,ABB,AFI]
end Go.Ab
namespace Go.Ab
def lvF (l:List Nd):Nat->Nat->List Nat
 |0,_=>[]
 |k+1,r=>(if (l[r]?).map Nd.k=some 0 then [r] else [])++(((l[r]?).map Nd.ar).getD []).flatMap fun a=>lvF l k (rtN l a)
def lvN (l:List Nd) (n:Nat):List Nat:=lvF l (l.length+1) (rtN l n)
theorem NM {α β:Type} {f g:α->List β}:∀ {l:List α},(∀a∈l,f a=g a)->l.flatMap f=l.flatMap g
 |[],_=>rfl
 |a::l,h=>by rw [EE,EE,h a (AS),NM fun x hx=>h x (AR _ hx)]
theorem AM9 {l:List Nd} {d:Nat->Nat} (hg:FM l) (h:FR l d):∀(n r k k':Nat),d r<=n->(∃x,l[r]?=some x/\x.p=r)->d r < k->d r < k'->lvF l k r=lvF l k' r:=by
 intro n
 induction n with
 |zero=>
  intro r k k' hn ⟨x,hx,hp⟩ hk hk';obtain ⟨k,rfl⟩:∃m,k=m+1:=⟨k - 1,by omega⟩;obtain ⟨k',rfl⟩:∃m,k'=m+1:=⟨k' - 1,by omega⟩;rw [lvF,lvF,hx];simp only [Ah,BC];congr 1;refine NM fun a ha=>?_;have:=h.lt r x hx hp a ha;omega
 |succ n ih=>
  intro r k k' hn ⟨x,hx,hp⟩ hk hk';obtain ⟨k,rfl⟩:∃m,k=m+1:=⟨k - 1,by omega⟩;obtain ⟨k',rfl⟩:∃m,k'=m+1:=⟨k' - 1,by omega⟩;rw [lvF,lvF,hx];simp only [Ah,BC];congr 1;refine NM fun a ha=>?_;have h1:=h.lt r x hx hp a ha;exact ih (rtN l a) k k' (by omega) (hg.root (hg.ar r x hx a ha)) (by omega) (by omega)
theorem ANA {l:List Nd} {d:Nat->Nat} (hg:FM l) (h:FR l d) {n:Nat} {x:Nd} (hx:l[rtN l n]?=some x) (hp:x.p=rtN l n):lvN l n=(if x.k=0 then [rtN l n] else [])++x.ar.flatMap (lvN l):=by
 rw [lvN,lvF,hx];simp only [Ah,BC,AL];congr 1;refine NM fun a ha=>?_;have h1:=h.lt _ x hx hp a ha;have h0:=h.le (rtN l n);exact AM9 hg h (d (rtN l a)) (rtN l a) l.length (l.length+1) (AW _) (hg.root (hg.ar _ x hx a ha)) (by omega) (by omega)
theorem XN {f:Nat->List Nat} {g:Nat->Nat}:∀ {us:List Nat},(∀a∈us,(f a).length<=g a)->(us.flatMap f).length<=(us.map g).sum
 |[],_=>AW _
 |a::us,h=>by
  rw [EE,AX,AD,FK];have:=h a (AS);have:=XN (f:=f) (g:=g) (us:=us) fun x hx=>h x (AR _ hx);omega
theorem AQ4 {l:List Nd} {d:Nat->Nat} (hg:FM l) (h:FR l d):∀(N n:Nat),n < l.length->d (rtN l n)<=N->szN l n<=200->(lvN l n).length<=szN l n:=by
 intro N
 induction N using Qe with
 |_ N ih=>
 intro n hn hd hs;obtain ⟨x,hx,hp⟩:=hg.root hn;rw [ANA hg h hx hp,AOW hg h hx hp hs,AX];have h1:(if x.k=0 then [rtN l n] else []).length<=1:=by split<;>simp
 have h2:=XN (f:=lvN l) (g:=szN l) (us:=x.ar) fun a ha=>by
  have h3:=h.lt _ x hx hp a ha;exact ih (d (rtN l a)) (by omega) a (hg.ar _ x hx a ha) (AW _) ((qW hg h hx hp hs).2 a ha)
 omega
def TF (acc us:List Nat):List Nat:=us.foldl (fun acc u=>if u∈acc then acc else acc++[u]) acc
theorem mS (acc us vs:List Nat):TF acc (us++vs)=TF (TF acc us) vs:=by simp [TF,Cq]
theorem fO:∀ {us acc:List Nat} {u:Nat},u∈acc->u∈TF acc us
 |[],acc,u,h=>h
 |v::us,acc,u,h=>by
  rw [TF,Ao];refine fO (us:=us) ?_;split
  . exact h
  . exact Cv _ h
theorem yX:∀ {us acc:List Nat} {u:Nat},u∈us->u∈TF acc us
 |v::us,acc,u,h=>by
  rw [TF,Ao];rcases Ar.1 h with rfl|h
  . refine fO (us:=us) ?_;split
    . assumption
    . simp
  . exact yX (us:=us) h
theorem yY:∀ {us acc:List Nat},(∀u∈us,u∈acc)->TF acc us=acc
 |[],acc,_=>rfl
 |v::us,acc,h=>by
  rw [TF,Ao,if_pos (h v (AS))];exact yY (us:=us) fun u hu=>h u (AR _ hu)
theorem yW:∀(us acc:List Nat),(TF acc us).length<=acc.length+us.length
 |[],acc=>by simp [TF]
 |v::us,acc=>by
  rw [TF,Ao];have:=yW us (if v∈acc then acc else acc++[v]);rw [TF] at this;refine Ap this ?_;simp only [A1];split
  . omega
  . simp only [AX,EH];omega
structure US (l:List Nd) (d:Nat->Nat) (D:Nat) (s:List Bool×List Nat):Prop where
 dn:∀r,s.1[r]?=some true->d r < D->∀u∈lvF l (l.length+1) r,u∈s.2
 sn:∀u∈s.2,s.1[u]?=some true
theorem AHE {l:List Nd} {d:Nat->Nat} (hg:FM l) (h:FR l d):∀(k:Nat) (s:List Bool×List Nat) (n D:Nat),d (rtN l n) < k->d (rtN l n) < D->n < l.length->s.1.length=l.length->US l d D s->
 (JO l k s n).2=TF s.2 (lvN l n)/\US l d D (JO l k s n)/\(∀r,(JO l k s n).1[r]?=some true->s.1[r]?=some true\/d r<=d (rtN l n))/\(JO l k s n).1.length=l.length
 |0,s,n,D,hk,_,_,_,_=>by omega
 |k+1,s,n,D,hk,hD,hn,hl,hu=>by
  obtain ⟨x,hx,hp⟩:=hg.root hn;have hrl:=(AG.1 hx).1;have heq:=ANA hg h hx hp;have hR:lvN l n=lvF l (l.length+1) (rtN l n):=rfl;rw [JO];generalize hr:rtN l n=r at *;by_cases h0:s.1[r]?=some false
  . rw [if_pos h0];simp only [hx,Ah,BC,AL];have hrs:r < s.1.length:=by omega
    -- the arguments
    have hf:∀(us:List Nat) (q:List Bool×List Nat) (E:Nat),(∀a∈us,a < l.length/\d (rtN l a) < E/\d (rtN l a) < k)->q.1.length=l.length->US l d E q->
     (us.foldl (fun s a=>JO l k s a) q).2=TF q.2 (us.flatMap (lvN l))/\US l d E (us.foldl (fun s a=>JO l k s a) q)/\(∀r,(us.foldl (fun s a=>JO l k s a) q).1[r]?=some true->q.1[r]?=some true\/d r < E)/\(us.foldl (fun s a=>JO l k s a) q).1.length=l.length:=by
     intro us
     induction us with
     |nil=>intro q E _ hq hu;exact ⟨rfl,hu,fun r hr=>.inl hr,hq⟩
     |cons a us ih=>
      intro q E ha hq hu;obtain ⟨a1,a2,a3⟩:=ha a (AS);obtain ⟨g1,g2,g3,g4⟩:=AHE hg h k q a E a3 a2 a1 hq hu;rw [Ao,EE,mS,<- g1];obtain ⟨f1,f2,f3,f4⟩:=ih _ E (fun b hb=>ha b (AR _ hb)) g4 g2;refine ⟨f1,f2,fun r hr=>?_,f4⟩;rcases f3 r hr with e|e
      . rcases g3 r e with e|e
        . exact .inl e
        . exact .inr (by omega)
      . exact .inr e
    have hns:r ∉ s.2:=fun hm=>by have:=hu.sn r hm;rw [h0] at this;cases this
    have h00:∀r':Nat,(s.1.set r true)[r']?=some true->r'=r\/s.1[r']?=some true:=fun r' hr'=>by
     by_cases e:r=r'
     . exact .inl e.symm
     . rw [BG e] at hr';exact .inr hr'
    have hout:(if x.k=0 then s.2++[r] else s.2)=TF s.2 (if x.k=0 then [r] else []):=by
     split
     . simp [TF,hns]
     . rfl
    have hsub:∀u∈s.2,u∈(if x.k=0 then s.2++[r] else s.2):=fun u hu=>by
     split
     . exact Cv _ hu
     . exact hu
    have hkeep:∀r':Nat,s.1[r']?=some true->(s.1.set r true)[r']?=some true:=fun r' hr'=>by
     have hne:r≠r':=fun e=>by rw [e,hr'] at h0;cases h0
     rw [BG hne];exact hr'
    have hu1:US l d (d r) (s.1.set r true,if x.k=0 then s.2++[r] else s.2):=by
     refine ⟨fun r' hr' hd' u hu'=>?_,fun u hm=>?_⟩
     . rcases h00 r' hr' with e|e
       . subst e;omega
       . exact hsub u (hu.dn r' e (by omega) u hu')
     . simp only at hm ⊢;split at hm
       . rcases A0.1 hm with hm|hm
         . exact hkeep u (hu.sn u hm)
         . simp only [A6] at hm;subst hm;exact BI hrs
       . exact hkeep u (hu.sn u hm)
    obtain ⟨f1,f2,f3,f4⟩:=hf x.ar (s.1.set r true,if x.k=0 then s.2++[r] else s.2) (d r) (fun a ha=>⟨hg.ar _ x hx a ha,h.lt r x hx hp a ha,by have:=h.lt r x hx hp a ha;omega⟩) (by simp [hl]) hu1;simp only at f1 f3;generalize x.ar.foldl (fun s a=>JO l k s a) (s.1.set r true,if x.k=0 then s.2++[r] else s.2)=s' at *;rw [hout,<- mS,<- heq] at f1;refine ⟨f1,⟨fun r' hr' hd' u hu'=>?_,f2.sn⟩,fun r' hr'=>?_,f4⟩
    . rcases f3 r' hr' with e|e
      . rcases h00 r' e with e|e
        . subst e;rw [f1];exact yX (by rw [hR];exact hu')
        . rw [f1];exact fO (hu.dn r' e hd' u hu')
      . exact f2.dn r' hr' e u hu'
    . rcases f3 r' hr' with e|e
      . rcases h00 r' e with e|e
        . subst e;exact .inr (AW _)
        . exact .inl e
      . exact .inr (by omega)
  . rw [if_neg h0]
    have hs:s.1[r]?=some true:=by
     obtain ⟨b,hb⟩:=Ai (show r < s.1.length by omega);cases b with
     |true=>exact hb
     |false=>exact absurd hb h0
    refine ⟨(yY fun u hu'=>?_).symm,hu,fun r' hr'=>.inl hr',hl⟩;rw [hR] at hu';exact hu.dn r hs hD u hu'
theorem AR5 {l:List Nd} {d:Nat->Nat} (hg:FM l) (h:FR l d) {ts:List Nat} (ht:∀a∈ts,a < l.length):ACD l ts=TF [] (ts.flatMap (lvN l)):=by
 have hf:∀(us:List Nat) (q:List Bool×List Nat),(∀a∈us,a < l.length)->q.1.length=l.length->US l d (l.length+1) q->(us.foldl (fun s a=>JO l (l.length+1) s a) q).2=TF q.2 (us.flatMap (lvN l)):=by
  intro us
  induction us with
  |nil=>intro q _ _ _;rfl
  |cons a us ih=>
   intro q hu hq hs;have h0:=h.le (rtN l a);obtain ⟨g1,g2,_,g4⟩:=AHE hg h (l.length+1) q a (l.length+1) (by omega) (by omega) (hu a (AS)) hq hs;rw [Ao,EE,mS,<- g1];exact ih _ (fun b hb=>hu b (AR _ hb)) g4 g2
 refine hf ts (AF l.length false,[]) ht (by simp) ⟨fun r hr=>?_,by simp⟩;simp only [R0] at hr;split at hr<;>cases hr
theorem AO5 {l:List Nd} {d:Nat->Nat} (hg:FM l) (h:FR l d) {ts:List Nat} (ht:∀a∈ts,a < l.length) (hs:∀a∈ts,szN l a<=200):(ACD l ts).length<=ts.length * 200:=by
 rw [AR5 hg h ht];have h1:=yW (ts.flatMap (lvN l)) [];have h2:=XN (f:=lvN l) (g:=fun _=>200) (us:=ts) fun a ha=>Ap (AQ4 hg h (d (rtN l a)) a (ht a ha) (AW _) (hs a ha)) (hs a ha)
 have h3:∀us:List Nat,(us.map fun _=>200).sum=us.length * 200:=by
  intro us
  induction us with
  |nil=>rfl
  |cons a us ih=>rw [AD,FK,ih,A1];omega
 rw [h3] at h2;simp only [CG] at h1;omega
end Go.Ab
namespace Go.Ab
def AAC (G:GC) (o:Int) (nm:Str) (nu:Int) (ns:List Str) (ks:List Ex) (al:List Al) (env:Env) (k0:Nat) (g:GS):Nat×GS:=
 if o=4 then W9 G env nm k0 g
  else if o=1\/o=2\/o=3\/o=15 then (g.nx,g.add (r6 o) 0 [])
  else if o=5 then (let q:=CO G ks env g;(q.2.nx,q.2.add 6 0 q.1))
  else if o=6 then (match EV G.dt nm with
  |none=>(0,g)
  |some (d,c)=>match G.dt[d]? with
   |none=>(0,g)
   |some D=>
    let ar:=Af g.nx D.vars.toNat
    let g:=DC G ks env 0 (fun i r s=>let q:=FU ar s.1 (((D.cons[c]?).map Con.args).getD []|>.getD i (.mk 0 0 []));Go.Ab.uni (q.2,s.2) r q.1) (g.frs D.vars.toNat)
    (g.nx,g.add 5 d ar))
      else if o=10 then (match al with
  |[]=>(0,g)
  |a::_=>match EV G.dt a.con with
   |none=>(0,g)
   |some (d,_)=>match G.dt[d]? with
    |none=>(0,g)
    |some D=>
     let ar:=Af g.nx D.vars.toNat
     let g:=Gw G ks env (g.frs D.vars.toNat)
     let r:=g.1
     let g:=(g.2.add 5 d ar).uni r g.2.nx
     let t:=g.nx
     (t,M3 G al env D ar t (g.add 0 0 [])))
                             else if o=12 then
  (let q:=CO G ks env g
   let t:=q.2.nx
   let g:=(q.2.add 0 0 []).add 9 0 (q.1.tail++[t])
   (t,g.uni (q.1.headD 0) (t+1)))
                            else if o=13 then
  (let g:=DC G ks env 0 (fun _ r s=>Go.Ab.uni (LY s.1 1 0 [],s.2) r s.1.length) g
   (g.nx,g.add (if 6<=nu/\nu<=8 then 2 else 1) 0 []))
                 else if o=14 then
  (let b:=g.nx
   let g:=((((g.add 1 0 []).add 0 0 []).add 7 0 [b+1]).add 8 0 [b+1]).add 3 0 []
   let g:=DC G ks env 0 (fun i r s=>Go.Ab.uni s r ((Z2 nu b).1.getD i 0)) g
   ((Z2 nu b).2,g))
      else if o=16 then
  (let q:=Gw G ks env g
   let g:=(q.2.add 1 0 []).uni q.1 q.2.nx
   (g.nx,g.add 0 0 []))
     else if o=7 then (let q:=Gw G ks env g;Lq G ks (CN env [nm] [q.1]) q.2)
     else if o=8 then
  (let parts:=Af g.nx ns.length
   let q:=Gw G ks env (g.frs ns.length)
   Lq G ks (CN env ns parts) ((q.2.add 6 0 parts).uni q.1 q.2.nx))
                                else if o=9 then
  (let q:=Gw G ks env g
   let q1:=Lq G ks env ((q.2.add 2 0 []).uni q.1 q.2.nx)
   let q2:=Vk G ks env q1.2
   (q1.1,q2.2.uni q2.1 q1.1))
     else if o=11 then
  (let params:=Af g.nx ns.length
   let q:=Gw G ks (CN env ns params) (g.frs ns.length)
   (q.2.nx,q.2.add 9 0 (params++[q.1])))
                         else
  (let q:=Gw G ks env g
   let r:=Lq G ks (CN env [nm] [q.2.nx]) (q.2.add 1 0 [])
   (q.1,r.2.uni r.1 q.1))
theorem nX (G:GC) (o:Int) (nm:Str) (nu:Int) (ns:List Str) (ks:List Ex) (al:List Al) (env:Env) (g0:GS):Bg G (.mk o nm nu ns ks al) env g0=
 (fun r:Nat×GS=>(r.1,r.2.Sx g0.en.length fun e=> { e with t:=r.1})) (AAC G o nm nu ns ks al env g0.en.length { g0 with en:=g0.en++[⟨0,-1,[]⟩]}):=rfl
end Go.Ab
