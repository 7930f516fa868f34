/- Part Ou0. Conditions: none. -/
import Derived.Test.YtfppaadffckcoaaGreatXNo
set_option linter.unusedSimpArgs false
set_option linter.unusedVariables false
set_option maxRecDepth 100000
set_option maxHeartbeats 40000000
open Go.Proofs.Tryz renaming prog→Tzp
open List renaming range'→A8,mem_append→AY,mem_singleton→A3,mem_map→Ck,foldl_cons→An,mem_cons_of_mem→AU,mem_cons_self→AW,length_cons→A0,mem_of_getElem?→AD,length_append→A1,getElem?_of_mem→II,getD_eq_getElem?_getD→A6,getElem?_set_ne→BC,countP_le_length→UL,getElem?_cons_zero→Av,set_cons_zero→K5,countP_cons→Fk,set_cons_succ→CH,getElem?_eq_some_iff→AF,getElem?_set_self→BE,mem_cons→As,replicate→AE,getElem?_replicate→QE,range→Au,mem_range→Bz,length_map→AA,all_eq_true→Aq,take_of_length_le→AO,map_cons→AG,map_nil→AN,take→Gd,drop→FC,append_nil→BX,nil_append→Aj,length_take→Bi,map_append→B2,getElem?_set→BZ,ext_getElem?→Ev,getElem?_map→Ao,getElem?_range→Dm,getElem?_eq_none→BY,length_nil→By,length_set→Kf,find?_eq_none→P2,pairwise_cons→K4,filter_append→P1,length_filter_le→L3,replicate_succ→BV,flatten_cons→BK,mem_filter→XC,mem_or_eq_of_mem_set→aI,length_singleton→C1,getElem_of_mem→Bn,getElem_mem→HR,sum_cons→Et,nodup_cons→XE,map_congr_left→FF,mem_append_left→VG,foldl_append→Cb,nodup_append→Gc,take_length→BM,take_zero→C7,take_length_add_append→YJ,drop_length_add_append→HF,take_succ_cons→C3,drop_succ_cons→FD,cons_append→AX,length_pos_iff→Xi,length_replicate→UM
open Bool renaming and_eq_true→AQ,eq_false_iff→C9,false_and→DO,and_true→Be,eq_iff_iff→Ax,or_eq_false_iff→IH,or_eq_true→DY
open Option renaming map_some→Ad,getD_some→Az
open Option.some renaming injEq→AK
open Ne renaming symm→A5
open Nat renaming le_trans→Ah,eq_zero_or_pos→K6,min_eq_left→Gg,le_refl→AR,zero_add→BU,strongRecOn→FT,mul_one→A2,lt_or_ge→Cl,mul_le_mul_right→Bp,succ_mul→NN,zero_mul→NO,add_mul→CA
open Int renaming toNat_natCast→Ca,eq_ofNat_of_zero_le→E4
namespace Go.Ab
def AAW (G:GC) (o:Int) (nm:Str) (nu:Int) (ns:List Str) (ks:List Ex) (al:List Al) (env:Env) (k0:Nat) (g:GS):Nat×GS:=
 if o=4 then ZA G env nm k0 g
  else if o=1\/o=2\/o=3\/o=15 then (g.nx,g.add (l9 o) 0 [])
  else if o=5 then (let q:=C5 G ks env g;(q.2.nx,q.2.add 6 0 q.1))
  else if o=6 then (match Em G.dt nm with
  |none=>(0,g)
  |some (d,c)=>match G.dt[d]? with
   |none=>(0,g)
   |some D=>
    let ar:=A8 g.nx D.vars.toNat
    let g:=D7 G ks env 0 (fun i r s=>let q:=Ey ar s.1 (((D.cons[c]?).map Con.args).getD []|>.getD i (.mk 0 0 []));Go.Ab.uni (q.2,s.2) r q.1) (g.frs D.vars.toNat)
    (g.nx,g.add 5 d ar))
      else if o=10 then (match al with
  |[]=>(0,g)
  |a::_=>match Em G.dt a.con with
   |none=>(0,g)
   |some (d,_)=>match G.dt[d]? with
    |none=>(0,g)
    |some D=>
     let ar:=A8 g.nx D.vars.toNat
     let g:=Iv G ks env (g.frs D.vars.toNat)
     let r:=g.1
     let g:=(g.2.add 5 d ar).uni r g.2.nx
     let t:=g.nx
     (t,UN G al env D ar t (g.add 0 0 [])))
                             else if o=12 then
  (let q:=C5 G ks env g
   let t:=q.2.nx
   let g:=(q.2.add 0 0 []).add 9 0 (q.1.tail++[t])
   (t,g.uni (q.1.headD 0) (t+1)))
                            else if o=13 then
  (let g:=D7 G ks env 0 (fun _ r s=>Go.Ab.uni (Kh s.1 1 0 [],s.2) r s.1.length) g
   (g.nx,g.add (if 6<=nu/\nu<=8 then 2 else 1) 0 []))
                 else if o=14 then
  (let b:=g.nx
   let g:=((((g.add 1 0 []).add 0 0 []).add 7 0 [b+1]).add 8 0 [b+1]).add 3 0 []
   let g:=D7 G ks env 0 (fun i r s=>Go.Ab.uni s r ((X8 nu b).1.getD i 0)) g
   ((X8 nu b).2,g))
      else if o=16 then
  (let q:=Iv G ks env g
   let g:=(q.2.add 1 0 []).uni q.1 q.2.nx
   (g.nx,g.add 0 0 []))
     else if o=7 then (let q:=Iv G ks env g;S3 G ks (C8 env [nm] [q.1]) q.2)
     else if o=8 then
  (let parts:=A8 g.nx ns.length
   let q:=Iv G ks env (g.frs ns.length)
   S3 G ks (C8 env ns parts) ((q.2.add 6 0 parts).uni q.1 q.2.nx))
                                else if o=9 then
  (let q:=Iv G ks env g
   let q1:=S3 G ks env ((q.2.add 2 0 []).uni q.1 q.2.nx)
   let q2:=oN G ks env q1.2
   (q1.1,q2.2.uni q2.1 q1.1))
     else if o=11 then
  (let params:=A8 g.nx ns.length
   let q:=Iv G ks (C8 env ns params) (g.frs ns.length)
   (q.2.nx,q.2.add 9 0 (params++[q.1])))
                         else
  (let q:=Iv G ks env g
   let r:=S3 G ks (C8 env [nm] [q.2.nx]) (q.2.add 1 0 [])
   (q.1,r.2.uni r.1 q.1))
theorem AGM (G:GC) (o:Int) (nm:Str) (nu:Int) (ns:List Str) (ks:List Ex) (al:List Al) (env:Env) (g0:GS):Bc G (.mk o nm nu ns ks al) env g0=
 (fun r:Nat×GS=>(r.1,r.2.Si g0.en.length fun e=> { e with t:=r.1})) (AAW G o nm nu ns ks al env g0.en.length { g0 with en:=g0.en++[⟨0,-1,[]⟩]}):=rfl
end Go.Ab
namespace Go.Ab
def shp (dt:List Dat) (k n:Int) (m:Nat):Prop:=
 ((k=0\/k=1\/k=2\/k=3)/\n=0/\m=0)\/(k=5/\∃D,0<=n/\dt[n.toNat]?=some D/\(m:Int)=D.vars)\/(k=6/\n=0/\2<=m/\m<=6)\/((k=7\/k=8)/\n=0/\m=1)\/(k=9/\n=0/\1<=m/\m<=7)
def NV (dt:List Dat) (l:List Nd):Prop:=∀x∈l,shp dt x.k x.n x.ar.length
mutual
def Ty.sh (dt:List Dat):Ty->Prop
 | .mk k n us=>(k=4\/shp dt k n us.length)/\Ty.shs dt us
def Ty.shs (dt:List Dat):List Ty->Prop
 |[]=>True
 |t::ts=>Ty.sh dt t/\Ty.shs dt ts
end
theorem Ty.MU {dt:List Dat}:∀ {l:List Ty},Ty.shs dt l↔∀t∈l,t.sh dt
 |[]=>by simp [Ty.shs]
 |t::l=>by rw [Ty.shs,Ty.MU];simp
variable {dt:List Dat}
theorem NV.nil:NV dt []:=fun x h=>by simp at h
theorem NV.add {l:List Nd} (h:NV dt l) {k n:Int} {ar:List Nat} (hs:shp dt k n ar.length):NV dt (Kh l k n ar):=fun x hx=>by
 rw [Kh] at hx;rcases AY.1 hx with hx|hx
 . exact h x hx
 . simp only [A3] at hx;subst hx;exact hs
theorem aD (dt:List Dat):shp dt 0 0 0:= .inl ⟨.inl rfl,rfl,rfl⟩
theorem NV.Y1 {l:List Nd} (h:NV dt l):∀n,NV dt (GG l n)
 |0=>h
 |n+1=>by rw [GG];exact (NV.Y1 h n).add (aD dt)
theorem NV.OW {l:List Nd} (h:NV dt l) (a b:Nat):NV dt (OW a b l):=fun x hx=>by
 unfold Go.Ab.OW at hx;obtain ⟨y,hy,rfl⟩:=Ck.1 hx;split<;>exact h y hy
theorem NV.K0:∀(k:Nat) {s:SS} (a b:Nat),NV dt s.1->NV dt (K0 k s a b).1
 |0,s,a,b,h=>h
 |k+1,s,a,b,h=>by
  have hf:∀(ps:List (Nat×Nat)) (q:SS),NV dt q.1->NV dt (ps.foldl (fun s x=>Go.Ab.K0 k s x.1 x.2) q).1:=by
   intro ps
   induction ps with
   |nil=>intro q h;exact h
   |cons p ps ih=>intro q h;rw [An];exact ih _ (NV.K0 k p.1 p.2 h)
  rw [Go.Ab.K0]
  repeat' split
  all_goals first
   |exact h
   |exact h.OW _ _
   |exact hf _ _ (h.OW _ _)
theorem NV.uni {s:SS} (h:NV dt s.1) (a b:Nat):NV dt (Go.Ab.uni s a b).1:=NV.K0 _ a b h
mutual
theorem NV.Ey (ar:List Nat):∀(l:List Nd) (t:Ty),NV dt l->t.sh dt->NV dt (Ey ar l t).2
 |l,.mk k n us,h,ht=>by
  rw [Ty.sh] at ht;rw [Go.Ab.Ey];split
  . exact h
  . rename_i hk;exact (NV.Ba ar l us h ht.2).add (by rw [MD];exact ht.1.resolve_left hk)
theorem NV.Ba (ar:List Nat):∀(l:List Nd) (ts:List Ty),NV dt l->Ty.shs dt ts->NV dt (Ba ar l ts).2
 |l,[],h,_=>h
 |l,t::ts,h,ht=>by
  rw [Ty.shs] at ht;exact NV.Ba ar _ ts (NV.Ey ar l t h ht.1) ht.2
end
structure GVv (G:GC):Prop where
 vr:∀D∈G.dt,0<=D.vars
 dt:∀D∈G.dt,∀c∈D.cons,Ty.shs G.dt c.args
 sch:∀s∈G.sch,Ty.shs G.dt s.params/\s.res.sh G.dt/\s.params.length<=6
 ps:∀l∈G.ps,l.length<=6
def PEv (G:GC) (e:Ex):Prop:=∀env g,NV G.dt g.s.1->NV G.dt (Bc G e env g).2.s.1
variable {G:GC}
theorem jS:∀ {ks:List Ex},(∀k∈ks,PEv G k)->∀env g,NV G.dt g.s.1->NV G.dt (C5 G ks env g).2.s.1
 |[],_,env,g,h=>h
 |k::ks,hk,env,g,h=>by
  rw [C5];exact jS (fun x hx=>hk x (AU _ hx)) env _ (hk k (AW) env g h)
theorem Wl:∀(ks:List Ex) (env:Env) (g:GS),(C5 G ks env g).1.length=ks.length
 |[],env,g=>rfl
 |k::ks,env,g=>by rw [C5];simp only [A0,Wl ks]
theorem QY {ks:List Ex} (hk:∀k∈ks,PEv G k) (env:Env) (g:GS) (h:NV G.dt g.s.1):NV G.dt (Iv G ks env g).2.s.1:=by
 cases ks with
 |nil=>exact h
 |cons k ks=>rw [Iv];exact hk k (AW) env g h
theorem Zo {ks:List Ex} (hk:∀k∈ks,PEv G k) (env:Env) (g:GS) (h:NV G.dt g.s.1):NV G.dt (S3 G ks env g).2.s.1:=by
 cases ks with
 |nil=>exact h
 |cons k ks=>rw [S3];exact QY (fun x hx=>hk x (AU _ hx)) env g h
theorem AK7 {ks:List Ex} (hk:∀k∈ks,PEv G k) (env:Env) (g:GS) (h:NV G.dt g.s.1):NV G.dt (oN G ks env g).2.s.1:=by
 cases ks with
 |nil=>exact h
 |cons k ks=>rw [oN];exact Zo (fun x hx=>hk x (AU _ hx)) env g h
theorem gA:∀ {ks:List Ex},(∀k∈ks,PEv G k)->∀(env:Env) (i:Nat) (f:Nat->Nat->SS->SS) (g:GS),(∀i r s,NV G.dt s.1->NV G.dt (f i r s).1)->NV G.dt g.s.1->NV G.dt (D7 G ks env i f g).s.1
 |[],_,env,i,f,g,_,h=>h
 |k::ks,hk,env,i,f,g,hf,h=>by
  rw [D7];exact gA (fun x hx=>hk x (AU _ hx)) env (i+1) f _ hf (hf _ _ _ (hk k (AW) env g h))
theorem ABC (hG:GVv G) {D:Dat} (hD:D∈G.dt):∀ {al:List Al},(∀a∈al,PEv G a.body)->∀(env:Env) (ar:List Nat) (t:Nat) (g:GS),NV G.dt g.s.1->NV G.dt (UN G al env D ar t g).s.1
 |[],_,env,ar,t,g,h=>h
 | .mk c vs b::al,ha,env,ar,t,g,h=>by
  rw [UN];refine ABC hG hD (fun x hx=>ha x (AU _ hx)) env ar t _ ?_;refine NV.uni (ha _ (AW) _ _ ?_) _ _;refine NV.Ba ar _ _ h ?_;cases hc:D.cons[((Em G.dt c).map (·.2)).getD 0]? with
  |none=>simp [Ty.shs]
  |some cc=>exact hG.dt D hD cc (AD hc)
theorem AN0 (hG:GVv G) (env:Env) (nm:Str) (k0:Nat) (g:GS) (h:NV G.dt g.s.1):NV G.dt (ZA G env nm k0 g).2.s.1:=by
 unfold ZA;cases Nq env nm with
 |some t=>exact h
 |none=>
  simp only;generalize (DK (DN G.fs) nm).getD 0=f;unfold AIB;split
  . refine NV.add h (.inr (.inr (.inr (.inr ⟨rfl,rfl,by simp,?_⟩))));cases hp:G.ps[f]? with
    |none=>simp [hp]
    |some l=>have:=hG.ps l (AD hp);simp [hp];omega
  . split
    . exact h
    . rename_i s hs;have hs:=hG.sch s (AD hs);unfold ANT;have h1:NV G.dt (g.frs s.vars.toNat).s.1:=NV.Y1 h _;refine NV.add (NV.Ey _ _ _ (NV.Ba _ _ _ h1 hs.1) hs.2.1) (.inr (.inr (.inr (.inr ⟨rfl,rfl,by simp,?_⟩))));rw [A1,MD];simp;exact hs.2.2
def ANL (k0:Nat) (r:Nat×GS):Nat×GS:=(r.1,r.2.Si k0 fun e=> { e with t:=r.1})
theorem ANM (k0:Nat) (r:Nat×GS):(ANL k0 r).2.s=r.2.s:=rfl
theorem oC (G:GC) (o:Int) (nm:Str) (nu:Int) (ns:List Str) (ks:List Ex) (al:List Al) (env:Env) (g0:GS):Bc G (.mk o nm nu ns ks al) env g0=ANL g0.en.length (AAW G o nm nu ns ks al env g0.en.length { g0 with en:=g0.en++[⟨0,-1,[]⟩]}):=AGM G o nm nu ns ks al env g0
theorem AK6 (hG:GVv G):∀(N:Nat) (e:Ex) (sc:List Str),e.size<=N->OkE G e sc->PEv G e:=by
 intro N
 induction N with
 |zero=>intro e sc h;have:=Ex.size_pos e;omega
 |succ N ih=>
 rintro ⟨o,nm,nu,ns,ks,al⟩ sc hsz hok env g hg
 have hkl:∀k∈ks,PEv G k:=fun k hk=>by
  obtain ⟨i,hi⟩:=II hk;refine ih k _ ?_ (hok.kid hi);have:=Ex.JD hk;simp only [Ex.size] at hsz;omega
 have hal:∀a∈al,PEv G a.body:=fun a ha=>by
  refine ih a.body _ ?_ (hok.alt ha);have:=Al.JD ha;obtain ⟨c,vs,b⟩:=a;simp only [Ex.size,Al.size,Al.body] at hsz this ⊢;omega
 have hnb:=hok.me.2;simp only [nb1,QX,Ex.op,Ex.name,Ex.num,Ex.names,Ex.kids,Ex.alts,AQ] at hnb;obtain ⟨⟨⟨⟨_,_⟩,hns⟩,_⟩,hnk⟩:=hnb;rw [oC,ANM];have hg1:NV G.dt (⟨g.s,g.en++[⟨0,-1,[]⟩]⟩:GS).s.1:=hg;generalize (⟨g.s,g.en++[⟨0,-1,[]⟩]⟩:GS)=g1 at hg1;generalize g.en.length=k0;clear hg g hsz;unfold AAW;have hl:∀(x n:Nat),(A8 x n).length=n:=fun x n=>by simp
 by_cases h:o=4
 . rw [if_pos h];exact AN0 hG env nm k0 g1 hg1
 rw [if_neg h];clear h;by_cases h:o=1\/o=2\/o=3\/o=15
 . rw [if_pos h];refine NV.add hg1 (.inl ⟨?_,rfl,rfl⟩);unfold l9;split;omega;split<;>omega
 rw [if_neg h];clear h;by_cases h:o=5
 . rw [if_pos h];subst h;simp [nkB] at hnk;exact NV.add (jS hkl env g1 hg1) (.inr (.inr (.inl ⟨rfl,rfl,by rw [Wl];omega,by rw [Wl];omega⟩)))
 rw [if_neg h];clear h;by_cases h:o=6
 . rw [if_pos h];cases Em G.dt nm with
   |none=>exact hg1
   |some x=>
    obtain ⟨d,c⟩:=x;simp only;cases hd:G.dt[d]? with
    |none=>exact hg1
    |some D=>
     have hD:=AD hd;have hv:=hG.vr D hD;refine NV.add (gA hkl env 0 _ _ (fun i r s hs=>?_) (NV.Y1 hg1 _)) (.inr (.inl ⟨rfl,D,by omega,by simpa using hd,by rw [hl];omega⟩));refine NV.uni (s:=(_,_)) (NV.Ey _ _ _ hs ?_) _ _;cases hc:D.cons[c]? with
     |none=>simp [Ty.sh,Ty.shs,aD]
     |some cc=>
      have h1:=Ty.MU.1 (hG.dt D hD cc (AD hc));simp only [Ad,Az];cases ht:cc.args[i]? with
      |none=>simp [ht,Ty.sh,Ty.shs,aD]
      |some t=>simp only [A6,ht,Az];exact h1 t (AD ht)
 rw [if_neg h];clear h;by_cases h:o=10
 . rw [if_pos h];cases al with
   |nil=>exact hg1
   |cons a al=>
    simp only;cases Em G.dt a.con with
    |none=>exact hg1
    |some x=>
     obtain ⟨d,c⟩:=x;simp only;cases hd:G.dt[d]? with
     |none=>exact hg1
     |some D=>
      have hD:=AD hd;have hv:=hG.vr D hD;refine ABC hG hD hal env _ _ _ (NV.add (NV.uni (NV.add (QY hkl env _ (NV.Y1 hg1 _)) (.inr (.inl ⟨rfl,D,by omega,by simpa using hd,by rw [hl];omega⟩))) _ _) (aD _))
 rw [if_neg h];clear h;by_cases h:o=12
 . rw [if_pos h];subst h;simp [nkB] at hnk;have h1:=jS hkl env g1 hg1;have h2:=Wl (G:=G) ks env g1;generalize C5 G ks env g1=q at h1 h2 ⊢;refine NV.uni (NV.add (NV.add h1 (aD _)) (.inr (.inr (.inr (.inr ⟨rfl,rfl,by simp,?_⟩))))) _ _;simp;omega
 rw [if_neg h];clear h;by_cases h:o=13
 . rw [if_pos h];refine NV.add (gA hkl env 0 _ _ (fun i r s hs=>NV.uni (s:=(_,_)) (NV.add hs (.inl ⟨.inr (.inl rfl),rfl,rfl⟩)) _ _) hg1) (.inl ⟨?_,rfl,rfl⟩);split<;>omega
 rw [if_neg h];clear h;by_cases h:o=14
 . rw [if_pos h];refine gA hkl env 0 _ _ (fun i r s hs=>NV.uni hs _ _) ?_;refine NV.add (NV.add (NV.add (NV.add (NV.add hg1 (.inl ⟨.inr (.inl rfl),rfl,rfl⟩)) (aD _)) (.inr (.inr (.inr (.inl ⟨.inl rfl,rfl,rfl⟩))))) (.inr (.inr (.inr (.inl ⟨.inr rfl,rfl,rfl⟩))))) (.inl ⟨by omega,rfl,rfl⟩)
 rw [if_neg h];clear h;by_cases h:o=16
 . rw [if_pos h];exact NV.add (NV.uni (NV.add (QY hkl env g1 hg1) (.inl ⟨.inr (.inl rfl),rfl,rfl⟩)) _ _) (aD _)
 rw [if_neg h];clear h;by_cases h:o=7
 . rw [if_pos h];exact Zo hkl _ _ (QY hkl env g1 hg1)
 rw [if_neg h];clear h;by_cases h:o=8
 . rw [if_pos h];subst h;simp [nsB] at hns;exact Zo hkl _ _ (NV.uni (NV.add (QY hkl env _ (NV.Y1 hg1 _)) (.inr (.inr (.inl ⟨rfl,rfl,by rw [hl];omega,by rw [hl];omega⟩)))) _ _)
 rw [if_neg h];clear h;by_cases h:o=9
 . rw [if_pos h];exact NV.uni (AK7 hkl _ _ (Zo hkl _ _ (NV.uni (NV.add (QY hkl env _ hg1) (.inl ⟨by omega,rfl,rfl⟩)) _ _))) _ _
 rw [if_neg h];clear h;by_cases h:o=11
 . rw [if_pos h];subst h;simp [nsB] at hns;refine NV.add (QY hkl _ _ (NV.Y1 hg1 _)) (.inr (.inr (.inr (.inr ⟨rfl,rfl,by simp,?_⟩))));simp;omega
 rw [if_neg h];exact NV.uni (Zo hkl _ _ (NV.add (QY hkl env _ hg1) (.inl ⟨.inr (.inl rfl),rfl,rfl⟩))) _ _
end Go.Ab
namespace Go.Ab
theorem Wm (l:List Nd):∀(k:Nat) (st:List Nat) (n x v:Nat),st[x]?=some v->v≠0->(HH l k st n).2[x]?=some v
 |0,st,n,x,v,h,_=>h
 |k+1,st,n,x,v,h,hv=>by
  rw [HH];simp only;split
  . rename_i h0;have hne:rtN l n≠x:=fun e=>by rw [e,h] at h0;simp at h0;exact hv h0
    have hf:∀(us:List Nat) (q:Bool×List Nat),q.2[x]?=some v->(us.foldl (fun (q:Bool×List Nat) a=>if q.1 then HH l k q.2 a else q) q).2[x]?=some v:=by
     intro us
     induction us with
     |nil=>intro q h;exact h
     |cons a us ih=>
      intro q h;rw [An];refine ih _ ?_;split
      . exact Wm l k q.2 a x v h hv
      . exact h
    have h1:=hf (((l[rtN l n]?).map Nd.ar).getD []) (true,st.set (rtN l n) 1) (by rw [BC hne];exact h);split
    . rw [BC hne];exact h1
    . exact h1
  . exact h
def c2 (st:List Nat):Nat:=st.countP (·==2)
theorem APH (st:List Nat):c2 st<=st.length:=UL
theorem AM7 {st:List Nat} {r v:Nat} (h:st[r]?=some v) (hv:v≠2):c2 (st.set r 2)=c2 st+1:=by
 induction st generalizing r with
 |nil=>simp at h
 |cons x st ih=>
  cases r with
  |zero=>
   simp only [Av,AK] at h;subst h;have:(x==2)=false:=by simpa using hv
   simp only [c2,K5,Fk,this];simp
  |succ r=>
   have:=ih (r:=r) (by simpa using h);simp only [c2,CH,Fk] at this ⊢;omega
theorem AJN {st:List Nat} {r:Nat} (h:st[r]?=some 0):c2 (st.set r 1)=c2 st:=by
 induction st generalizing r with
 |nil=>simp at h
 |cons x st ih=>
  cases r with
  |zero=>
   simp only [Av,AK] at h;subst h;simp [c2,K5]
  |succ r=>
   have:=ih (r:=r) (by simpa using h);simp only [c2,CH,Fk] at this ⊢;omega
structure r5 (l:List Nd) (st:List Nat) (d:Nat->Nat):Prop where
 len:st.length=l.length
 rk:∀r,st[r]?=some 2->d r<=c2 st/\∃x,l[r]?=some x/\x.p=r/\∀a∈x.ar,st[rtN l a]?=some 2/\d (rtN l a) < d r
theorem oE {l:List Nd} (hg:ER l):∀(k:Nat) (st:List Nat) (n:Nat) (d:Nat->Nat),zs st < k->r5 l st d->n < l.length->(HH l k st n).1=true->
 ∃d',r5 l (HH l k st n).2 d'/\(∀x,st[x]?=some 2->d' x=d x)/\(HH l k st n).2[rtN l n]?=some 2
 |0,st,n,d,hz,_,_,_=>by omega
 |k+1,st,n,d,hz,hi,hn,ht=>by
  obtain ⟨x,hx,hxp⟩:=hg.root hn;rw [HH] at ht ⊢;simp only at ht ⊢;generalize hr:rtN l n=r at *;by_cases h0:st[r]?=some 0
  . rw [if_pos h0] at ht ⊢;simp only [hx,Ad,Az] at ht ⊢;have hrl:r < st.length:=(AF.1 h0).1;have hz1:=AAH h0 (show (1:Nat)≠0 by decide)
    have hi1:r5 l (st.set r 1) d:=by
     refine ⟨by simp [hi.len],fun m hm=>?_⟩;have hmr:r≠m:=fun e=>by rw [<- e,BE hrl] at hm;cases hm
     rw [BC hmr] at hm;obtain ⟨h1,y,hy,hyp,h2⟩:=hi.rk m hm;refine ⟨by rw [AJN h0];exact h1,y,hy,hyp,fun a ha=>?_⟩;obtain ⟨h3,h4⟩:=h2 a ha;exact ⟨by rw [BC (fun e=>by rw [<- e,h0] at h3;cases h3)];exact h3,h4⟩
    have h1r:(st.set r 1)[r]?=some 1:=BE hrl
    have hf:∀(us:List Nat) (q:List Nat) (e:Nat->Nat),(∀a∈us,a < l.length)->zs q < k->r5 l q e->q[r]?=some 1->(us.foldl (fun (q:Bool×List Nat) a=>if q.1 then HH l k q.2 a else q) (true,q)).1=true->
     ∃e',r5 l (us.foldl (fun (q:Bool×List Nat) a=>if q.1 then HH l k q.2 a else q) (true,q)).2 e'/\(∀x:Nat,q[x]?=some 2->e' x=e x)/\(∀x:Nat,q[x]?=some 2->(us.foldl (fun (q:Bool×List Nat) a=>if q.1 then HH l k q.2 a else q) (true,q)).2[x]?=some 2)/\
      (∀a∈us,(us.foldl (fun (q:Bool×List Nat) a=>if q.1 then HH l k q.2 a else q) (true,q)).2[rtN l a]?=some 2)/\(us.foldl (fun (q:Bool×List Nat) a=>if q.1 then HH l k q.2 a else q) (true,q)).2[r]?=some 1:=by
     intro us
     induction us with
     |nil=>intro q e _ _ hq h1 _;exact ⟨e,hq,fun _ _=>rfl,fun _ h=>h,fun a ha=>by simp at ha,h1⟩
     |cons a us ih=>
      intro q e hl hzq hq h1 hT;rw [An,if_pos rfl] at hT ⊢;have hle:=Z1 l k q a;have hkp:=fun x hx=>Wm l k q a x 2 hx (by decide);have hk1:=Wm l k q a r 1 h1 (by decide);have hfin:=oE hg k q a e hzq hq (hl a (AW));change (us.foldl _ (HH l k q a)).1=true at hT;generalize hw:HH l k q a=wp at *;obtain ⟨wb,ws⟩:=wp
      . cases wb with
        |false=>rw [bF] at hT;cases hT
        |true=>
         obtain ⟨d1,g1,g2,g3⟩:=hfin rfl;obtain ⟨e',f1,f2,f3,f4,f5⟩:=ih ws d1 (fun b hb=>hl b (AU _ hb)) (Nat.lt_of_le_of_lt hle.2 hzq) g1 hk1 hT;refine ⟨e',f1,fun x hx=>by rw [f2 x (hkp x hx),g2 x hx],fun x hx=>f3 x (hkp x hx),fun b hb=>?_,f5⟩;rcases As.1 hb with rfl|hb
         . exact f3 _ g3
         . exact f4 b hb
    have hall:(x.ar.foldl (fun (q:Bool×List Nat) a=>if q.1 then HH l k q.2 a else q) (true,st.set r 1)).1=true:=ht;obtain ⟨e',f1,f2,f3,f4,f5⟩:=hf x.ar (st.set r 1) d (hg.ar r x hx) (by omega) hi1 h1r hall;generalize x.ar.foldl (fun (q:Bool×List Nat) a=>if q.1 then HH l k q.2 a else q) (true,st.set r 1)=q at *;rw [if_pos hall];have hql:r < q.2.length:=(AF.1 f5).1;have hc:=AM7 f5 (show (1:Nat)≠2 by decide);refine ⟨fun m=>if m=r then c2 q.2+1 else e' m,⟨by simp [f1.len],fun m hm=>?_⟩,fun m hm=>?_,BE hql⟩
    . by_cases e:m=r
      . subst e;refine ⟨by simp only [if_true];omega,x,hx,hxp,fun a ha=>?_⟩;have h4:=f4 a ha;have hne:rtN l a≠m:=fun e=>by rw [e,f5] at h4;cases h4
        refine ⟨by rw [BC (A5 hne)];exact h4,?_⟩;simp only [if_neg hne,if_true];have:=(f1.rk _ h4).1;omega
      . rw [BC (A5 e)] at hm;obtain ⟨h1,y,hy,hyp,h2⟩:=f1.rk m hm;refine ⟨by simp only [if_neg e];omega,y,hy,hyp,fun a ha=>?_⟩;obtain ⟨h3,h4⟩:=h2 a ha;have hne:rtN l a≠r:=fun e=>by rw [e,f5] at h3;cases h3
        exact ⟨by rw [BC (A5 hne)];exact h3,by simp only [if_neg hne,if_neg e];exact h4⟩
    . have hmr:m≠r:=fun e=>by rw [e,h0] at hm;cases hm
      simp only [if_neg hmr];exact f2 m (by rw [BC (A5 hmr)];exact hm)
  . rw [if_neg h0] at ht ⊢;exact ⟨d,hi,fun _ _=>rfl,by simpa using ht⟩
theorem oD {l:List Nd} (hg:ER l):∀(us:List Nat) (st:List Nat) (d:Nat->Nat),(∀a∈us,a < l.length)->zs st<=l.length->r5 l st d->xS l (l.length+1) st us=true->
 ∃st' d',r5 l st' d'/\(∀x:Nat,st[x]?=some 2->st'[x]?=some 2)/\∀a∈us,st'[rtN l a]?=some 2
 |[],st,d,_,_,hi,_=>⟨st,d,hi,fun _ h=>h,fun a ha=>by simp at ha⟩
 |n::us,st,d,hl,hz,hi,h=>by
  rw [xS] at h;split at h
  . rename_i ht;obtain ⟨d1,g1,g2,g3⟩:=oE hg (l.length+1) st n d (by omega) hi (hl n (AW)) ht;have hle:=Z1 l (l.length+1) st n;obtain ⟨st',d',f1,f2,f3⟩:=oD hg us _ d1 (fun a ha=>hl a (AU _ ha)) (Ah hle.2 hz) g1 h;refine ⟨st',d',f1,fun x hx=>f2 x (Wm l _ st n x 2 hx (by decide)),fun a ha=>?_⟩;rcases As.1 ha with rfl|ha
    . exact f2 _ g3
    . exact f3 a ha
  . cases h
theorem AGO {l:List Nd} (hg:ER l) (h:iI l=true):∃d,FR l d:=by
 have hi0:r5 l (AE l.length 0) (fun _=>0):=⟨by simp,fun r hr=>by
  rw [QE] at hr;split at hr<;>cases hr⟩
 obtain ⟨st,d,h1,_,h3⟩:=oD hg (Au l.length) _ _ (fun a ha=>Bz.1 ha) (AJD l.length) hi0 h;refine ⟨fun r=>if st[r]?=some 2 then d r else 0,fun r x hx hp a ha=>?_,fun r=>?_⟩
 . have hr:st[r]?=some 2:=by
    have:=h3 r (Bz.2 (AF.1 hx).1)
    rwa [LJ hx,hp] at this
   obtain ⟨_,y,hy,_,h4⟩:=h1.rk r hr;rw [hx] at hy;cases hy;obtain ⟨h5,h6⟩:=h4 a ha;simp only [if_pos hr,if_pos h5];exact h6
 . by_cases e:st[r]?=some 2
   . simp only [if_pos e];have:=(h1.rk r e).1;have:=APH st;have:=h1.len;omega
   . simp only [if_neg e];omega
end Go.Ab
namespace Go.Ab
open Go.Proofs
set_option maxRecDepth 100000
set_option maxHeartbeats 40000000
noncomputable section
noncomputable def Q6:Cx:=⟨Tzp,5,Tryz.f5,99,[3,300013,300018,300023,300030,300035,300041,300046,300053,300058,300063,300069,300076,300083,300088,300094],[],[.t 2]⟩
theorem DS:Good Q6:=⟨Tryz.func5,by kernel_rfl⟩
theorem rF:Q6.rs=[.t 2]:=rfl
noncomputable def Mp:=BO Q6 [] fun c a b d e=>G c [a,b,d,e]
def Ki:C:=lpC 0 (Mp .skip .skip .skip .skip)
def O9:C:=lpC 1 (Mp Ki .skip .skip .skip)
def VP:C:=lpC 2 (Mp Ki O9 .skip .skip)
def gU:C:=lpC 3 (Mp Ki O9 VP .skip)
def sM:C:=(Mp Ki O9 VP gU).1
theorem tM:Inn Q6 sM 99:=inn [] DS Tryz.ntmps5
noncomputable def OX:Cx:=⟨Tzp,15,Tryz.f15,27,[],[],[.t 4]⟩
theorem OJ:Good OX:=⟨Tryz.func15,by kernel_rfl⟩
theorem m9:OX.rs=[.t 4]:=rfl
noncomputable def Zc:=BO OX [] fun c a=>G c [a]
def eA:C:=lpC 0 (Zc .skip)
def pR:C:=(Zc eA).1
theorem qB:Inn OX pR 27:=inn [] OJ Tryz.ntmps15
noncomputable def LQ:Cx:=⟨Tzp,16,Tryz.f16,36,[300017,300023,300029],[],[.t 4]⟩
theorem IP:Good LQ:=⟨Tryz.func16,by kernel_rfl⟩
theorem fH:LQ.rs=[.t 4]:=rfl
noncomputable def Vy:=BO LQ [] fun c a=>G c [a]
def ZN:C:=lpC 0 (Vy .skip)
def gW:C:=(Vy ZN).1
theorem iQ:Inn LQ gW 36:=inn [] IP Tryz.ntmps16
noncomputable def Q7:Cx:=⟨Tzp,17,Tryz.f17,91,[300018,300024,300030,300036,300042,300048,300057,300063,300072,300082],[],[.t 4]⟩
theorem E9:Good Q7:=⟨Tryz.func17,by kernel_rfl⟩
theorem rG:Q7.rs=[.t 4]:=rfl
noncomputable def Vx:=BO Q7 [] fun c a b=>G c [a,b]
def VQ:C:=lpC 0 (Vx .skip .skip)
def gV:C:=lpC 1 (Vx VQ .skip)
def sN:C:=(Vx VQ gV).1
theorem tN:Inn Q7 sN 91:=inn [] E9 Tryz.ntmps17
attribute [go_sem] rF m9 fH rG
end
end Go.Ab
namespace Go.Ab
open Go.Proofs
def bZ (l:List Str):Bool:=l.all fun s=>decide (s.length<=40)
theorem Pd (n:Nat):decide ((40:Int) < (n:Int))=decide (40 < n):=decide_eq_decide.2 (by omega)
theorem xX (n:Nat):decide ((10:Int) < (n:Int))=decide (10 < n):=decide_eq_decide.2 (by omega)
theorem AKJ (n:Nat):decide ((n:Int)<=(10:Int))=decide (n<=10):=decide_eq_decide.2 (by omega)
theorem MR (l:List Str) (σ:AH):AS Tzp 15 [.d (.sl (l.map Bb)),.d (.int .i64 10)] σ (fun v σ'=>v= .d (.bool (decide (l.length<=10)&&bZ l))/\σ'=σ):=by
 refine qB (by simp) ?_;rw [BS];refine Run.slot 0 (fun hb0=>?_);simp only [D0,if_true,AV.FU,AA] at hb0;(repeat' (refine wQ mxQ rfl ?_<;>try simp only [AA,go_sem]));refine Run.BB ?_;refine Run.BG ((fun (a0:AV) (a1:AV)=>fun (i:Nat)=>put 0 a0 (put 1 a1 (put 5 (.d (.int .i64 i)) U))) _ _) (fun _=>E) (fun _=>σ) (fun i=>i<=l.length/\i<=11/\bZ (l.take i)=true) (fun i=>l.length - i) ?_ 0 ⟨by simp,by simp,by simp [bZ]⟩;rintro i ⟨hi,h11,hno⟩ ih;by_cases hlt:i < l.length
 . obtain ⟨x,hx⟩:=Ak hlt;have he:=BR (enc:=Bb) hx;simp only [Bb] at he;have hw1:IntKind.i64.wrap ((i:Int)+1)=((i+1:Nat):Int):=by rw [BP (by omega) (by omega)];omega
   by_cases h10:i<=10
   . by_cases hs:40 < x.length
     . have hf:(decide (l.length<=10)&&bZ l)=false:=by
        rw [Bool.and_eq_false_iff];right;rw [C9];intro h;rw [bZ,Aq] at h;have:=h x (AD hx);rw [decide_eq_true_eq] at this;omega
       (repeat' ((first|refine wQ mxQ rfl ?_|refine Run.qP OJ ?_|fail)<;>try simp only [Ag hlt,he,hw1,AKJ,decide_eq_true h10,Pd,decide_eq_true hs,AA,go_sem]));rw [hf]
     . (repeat' (refine wQ mxQ rfl ?_<;>try simp only [Ag hlt,he,hw1,AKJ,decide_eq_true h10,Pd,decide_eq_false hs,AA,go_sem]))
       exact ih (i+1) ⟨by omega,by omega,by
        rw [Ae hx,bZ,List.all_append];rw [bZ] at hno;rw [hno];simp;omega⟩ (by omega)
   . have hgt:decide (l.length<=10)=false:=decide_eq_false (by omega);(repeat' ((first|refine wQ mxQ rfl ?_|refine Run.qP OJ ?_|fail)<;>try simp only [Ag hlt,he,hw1,AKJ,decide_eq_false h10,AA,hgt,go_sem]))
     try rw [DO]
 . have hile:i=l.length:=by omega
   subst hile;rw [AO (by omega)] at hno;(repeat' ((first|refine wQ mxQ rfl ?_|refine Run.qP OJ ?_|fail)<;>try simp only [Bk hlt,AKJ,AA,go_sem]));rw [hno,Be]
mutual
def TE.sm:TE->Prop
 | .mk _ n l=>n.length<=40/\TE.sms l
def TE.sms:List TE->Prop
 |[]=>True
 |t::l=>t.sm/\TE.sms l
end
def AD1 (l:List Str):Prop:=l.length<=10/\∀s∈l,s.length<=40
mutual
def Ex.sm:Ex->Prop
 | .mk _ n _ ns ks al=>n.length<=40/\AD1 ns/\Ex.sms ks/\Al.sms al
def Ex.sms:List Ex->Prop
 |[]=>True
 |t::l=>t.sm/\Ex.sms l
def Al.sm:Al->Prop
 | .mk c vs b=>c.length<=40/\AD1 vs/\b.sm
def Al.sms:List Al->Prop
 |[]=>True
 |t::l=>t.sm/\Al.sms l
end
theorem TE.Q1:∀ {l:List TE},TE.sms l↔∀t∈l,t.sm
 |[]=>by simp [TE.sms]
 |t::l=>by simp [TE.sms,TE.Q1 (l:=l)]
theorem Ex.Q1:∀ {l:List Ex},Ex.sms l↔∀t∈l,t.sm
 |[]=>by simp [Ex.sms]
 |t::l=>by simp [Ex.sms,Ex.Q1 (l:=l)]
theorem Al.Q1:∀ {l:List Al},Al.sms l↔∀t∈l,t.sm
 |[]=>by simp [Al.sms]
 |t::l=>by simp [Al.sms,Al.Q1 (l:=l)]
theorem qV {l:List Str} (h:(decide (l.length<=10)&&bZ l)=true):AD1 l:=by
 simp only [bZ,AQ,decide_eq_true_eq,Aq] at h;exact h
theorem Ga {α:Type} {p:α->Prop} {l:List α} {i:Nat} {x:α} (h:∀t∈l.take i,p t) (hx:l[i]?=some x) (hp:p x):∀t∈l.take (i+1),p t:=by
 intro t ht;rw [Ae hx,AY,A3] at ht;rcases ht with ht|rfl
 . exact h t ht
 . exact hp
theorem TE.H2 {l:List TE} {i:Nat} {x:TE} (h:l[i]?=some x):TE.AT (l.take (i+1))=TE.AT (l.take i)+x.size:=by
 rw [Ae h,TE.CT];simp [TE.AT]
theorem Ex.H2 {l:List Ex} {i:Nat} {x:Ex} (h:l[i]?=some x):Ex.AT (l.take (i+1))=Ex.AT (l.take i)+x.size:=by
 rw [Ae h,Ex.CT];simp [Ex.AT]
theorem Al.H2 {l:List Al} {i:Nat} {x:Al} (h:l[i]?=some x):Al.AT (l.take (i+1))=Al.AT (l.take i)+x.size:=by
 rw [Ae h,Al.CT];simp [Al.AT]
def AJE (Gw:Prop) (size q:Nat) (b:Bool) (z:Int):Prop:=b=true->Gw/\∃q':Nat,z=q'/\size+q'=q
theorem jQ {q:Nat}:decide ((q:Int) < 0)=false:=decide_eq_false (by omega)
theorem eX (j:Nat):∀(N:Nat) (t:TE) (q:Nat) (σ:AH),t.size<=N->q<=1000->σ.blk j=some [.d (.int .i64 q)]->
 AS Tzp 16 [teA t,.gp j 0] σ (fun v σ'=>∃b z,(v= .d (.bool b)/\σ'=σ.AM j [.d (.int .i64 z)])/\AJE t.sm t.size q b z):=by
 intro N
 induction N with
 |zero=>intro t q σ h;have:=TE.size_pos t;omega
 |succ N ihN=>
 rintro ⟨k,n,l⟩ q σ hN hq hj;simp only [TE.size] at hN;refine iQ (by simp) ?_;rw [BS,teA,TE.A4];simp only [AG,AN];generalize hQ:(fun (v:AV) (σ':AH)=>∃b z,(v= .d (.bool b)/\σ'=σ.AM j [.d (.int .i64 z)])/\AJE (TE.mk k n l).sm (TE.mk k n l).size q b z)=Q;have hno:∀z,Q (.d (.bool false)) (σ.AM j [.d (.int .i64 z)]):=fun z=>by rw [<- hQ];exact ⟨false,z,⟨rfl,rfl⟩,fun h=>by cases h⟩
 have hyes:∀q':Nat,n.length<=40->(∀t∈l,t.sm)->1+TE.AT l+q'=q->Q (.d (.bool true)) (σ.AM j [.d (.int .i64 q')]):=fun q' h1 h2 h3=>by
  rw [<- hQ];exact ⟨true,q',⟨rfl,rfl⟩,fun _=>⟨by rw [TE.sm,TE.Q1];exact ⟨h1,h2⟩,q',rfl,by rw [TE.size];exact h3⟩⟩
 clear hQ;rcases K6 q with rfl|hq0
 . have hm1:IntKind.i64.wrap (((0:Nat):Int) - 1)=-1:=by decide
   have hn1:decide ((-1:Int) < 0)=true:=by decide
   (repeat' ((first|refine wQ mxQ rfl ?_|(refine Run.CK IP (AH.le_refl _) ?_)|fail)<;>try simp only [hj,hm1,hn1,AI,Gd,FC,BX,Aj,go_sem]));exact hno _
 obtain ⟨q,rfl⟩:∃m,q=m+1:=⟨q - 1,by omega⟩;have hm1:IntKind.i64.wrap (((q+1:Nat):Int) - 1)=(q:Int):=by rw [BP (by omega) (by omega)];omega
 by_cases h40:40 < n.length
 . (repeat' ((first|refine wQ mxQ rfl ?_|(refine Run.CK IP (AH.le_refl _) ?_)|fail)<;>try simp only [hj,hm1,jQ,Pd,decide_eq_true h40,AI,Gd,FC,BX,Aj,go_sem]));exact hno _
 (repeat' (refine wQ mxQ rfl ?_<;>try simp only [hj,hm1,jQ,Pd,decide_eq_false h40,AI,Gd,FC,BX,Aj,go_sem]));refine Run.BB ?_
 refine Run.BG ((fun (a1:AV) (a2:AV)=>fun (y:Nat×Nat)=>put 1 a1 (put 2 a2 (put 5 (.d (.int .i64 y.1)) U))) _ _) (fun _=>Ar 2 [.d (.int .i64 k),.d (.str n),.d (.sl (l.map TE.enc))] E) (fun y=>σ.AM j [.d (.int .i64 y.2)])
  (fun y=>y.1<=l.length/\(∀t∈l.take y.1,t.sm)/\TE.AT (l.take y.1)+y.2=q) (fun y=>l.length - y.1) ?_ (0,q) ⟨by simp,by simp,by simp [TE.AT]⟩
 rintro ⟨i,q'⟩ ⟨hi,hsm,hsz⟩ ih;simp only at hi hsm hsz;have hil:=TE.Bt (l.take i);rw [Bi,Gg hi] at hil;by_cases hlt:i < l.length
 . obtain ⟨x,hx⟩:=Ak hlt;have he:=BR (enc:=TE.enc) hx;have hw1:=A7 (show i+1<=9000000000000000000 by omega);have hxs:=TE.JD (AD hx);have hc:=ihN x q' (σ.AM j [.d (.int .i64 q')]) (by omega) (by omega) BQ;have hst:=TE.H2 hx;have hms:=fun hp=>Ga (p:=TE.sm) hsm hx hp;obtain ⟨xk,xn,xl⟩:=x;simp only [teA,TE.A4,AG,AN] at he hc;(repeat' ((first|refine wQ mxQ rfl ?_|(refine AJ.mk rfl hc ?_;rintro v σ' ⟨b,z,⟨rfl,rfl⟩,hres⟩;cases b<;>rw [F4])|(refine Run.CK IP (AH.le_refl _) ?_)|fail)<;>try simp only [Ag hlt,he,hw1,AA,go_sem]))
   . exact hno z
   . obtain ⟨g1,q2,rfl,g2⟩:=hres rfl;exact ih (i+1,q2) ⟨by simp only;omega,hms g1,by simp only;omega⟩ (by simp only;omega)
 . rw [AO (by omega)] at hsm hsz;(repeat' ((first|refine wQ mxQ rfl ?_|(refine Run.CK IP (AH.le_refl _) ?_)|fail)<;>try simp only [Bk hlt,AA,go_sem]));exact hyes q' (by omega) hsm (by omega)
theorem qL (j:Nat):∀(N:Nat) (e:Ex) (q:Nat) (σ:AH),e.size<=N->q<=1000->σ.blk j=some [.d (.int .i64 q)]->
 AS Tzp 17 [exA e,.gp j 0] σ (fun v σ'=>∃b z,(v= .d (.bool b)/\σ'=σ.AM j [.d (.int .i64 z)])/\AJE e.sm e.size q b z):=by
 intro N
 induction N with
 |zero=>intro t q σ h;have:=Ex.size_pos t;omega
 |succ N ihN=>
 rintro ⟨o,n,u,ns,ks,al⟩ q σ hN hq hj;simp only [Ex.size] at hN;refine tN (by simp) ?_;rw [BS,exA,Ex.A4];simp only [AG,AN];generalize hQ:(fun (v:AV) (σ':AH)=>∃b z,(v= .d (.bool b)/\σ'=σ.AM j [.d (.int .i64 z)])/\AJE (Ex.mk o n u ns ks al).sm (Ex.mk o n u ns ks al).size q b z)=Q;have hno:∀z,Q (.d (.bool false)) (σ.AM j [.d (.int .i64 z)]):=fun z=>by rw [<- hQ];exact ⟨false,z,⟨rfl,rfl⟩,fun h=>by cases h⟩
 have hyes:∀q':Nat,n.length<=40->AD1 ns->(∀t∈ks,t.sm)->(∀t∈al,t.sm)->1+Ex.AT ks+Al.AT al+q'=q->Q (.d (.bool true)) (σ.AM j [.d (.int .i64 q')]):=fun q' h1 h2 h3 h4 h5=>by
  rw [<- hQ];exact ⟨true,q',⟨rfl,rfl⟩,fun _=>⟨by rw [Ex.sm,Ex.Q1,Al.Q1];exact ⟨h1,h2,h3,h4⟩,q',rfl,by rw [Ex.size];exact h5⟩⟩
 clear hQ;have hnm:=fun σ=>MR ns σ;rcases K6 q with rfl|hq0
 . have hm1:IntKind.i64.wrap (((0:Nat):Int) - 1)=-1:=by decide
   have hn1:decide ((-1:Int) < 0)=true:=by decide
   (repeat' ((first|refine wQ mxQ rfl ?_|(refine Run.CK E9 (AH.le_refl _) ?_)|fail)<;>try simp only [hj,hm1,hn1,AI,Gd,FC,BX,Aj,go_sem]));exact hno _
 obtain ⟨q,rfl⟩:∃m,q=m+1:=⟨q - 1,by omega⟩;have hm1:IntKind.i64.wrap (((q+1:Nat):Int) - 1)=(q:Int):=by rw [BP (by omega) (by omega)];omega
 by_cases h40:40 < n.length
 . (repeat' ((first|refine wQ mxQ rfl ?_|(refine Run.CK E9 (AH.le_refl _) ?_)|fail)<;>try simp only [hj,hm1,jQ,Pd,decide_eq_true h40,AI,Gd,FC,BX,Aj,go_sem]));exact hno _
 cases hnk:(decide (ns.length<=10)&&bZ ns) with
 |false=>
  rw [hnk] at hnm;(repeat' ((first|refine wQ mxQ rfl ?_|(refine Run.CK E9 (AH.le_refl _) ?_)|refine AJ.det (hnm _) ?_|fail)<;>try simp only [hj,hm1,jQ,Pd,decide_eq_false h40,AI,Gd,FC,BX,Aj,go_sem]));exact hno _
 |true=>
 rw [hnk] at hnm;by_cases hk10:10 < ks.length
 . (repeat' ((first|refine wQ mxQ rfl ?_|(refine Run.CK E9 (AH.le_refl _) ?_)|refine AJ.det (hnm _) ?_|fail)<;>try simp only [hj,hm1,jQ,Pd,decide_eq_false h40,xX,AA,decide_eq_true hk10,AI,Gd,FC,BX,Aj,go_sem]));exact hno _
 by_cases ha10:10 < al.length
 . (repeat' ((first|refine wQ mxQ rfl ?_|(refine Run.CK E9 (AH.le_refl _) ?_)|refine AJ.det (hnm _) ?_|fail)<;>try simp only [hj,hm1,jQ,Pd,decide_eq_false h40,xX,AA,decide_eq_false hk10,decide_eq_true ha10,AI,Gd,FC,BX,Aj,go_sem]));exact hno _
 (repeat' ((first|refine wQ mxQ rfl ?_|refine AJ.det (hnm _) ?_|fail)<;>try simp only [hj,hm1,jQ,Pd,decide_eq_false h40,xX,AA,decide_eq_false hk10,decide_eq_false ha10,AI,Gd,FC,BX,Aj,go_sem]));refine Run.BB ?_
 refine Run.BG ((fun (a1:AV) (a2:AV)=>fun (y:Nat×Nat)=>put 1 a1 (put 2 a2 (put 5 (.d (.int .i64 y.1)) U))) _ _) (fun _=>Ar 2 [.d (.int .i64 o),.d (.str n),.d (.int .i64 u),.d (.sl (ns.map Bb)),.d (.sl (ks.map Ex.enc)),.d (.sl (al.map Al.enc))] E) (fun y=>σ.AM j [.d (.int .i64 y.2)])
  (fun y=>y.1<=ks.length/\(∀t∈ks.take y.1,t.sm)/\Ex.AT (ks.take y.1)+y.2=q) (fun y=>ks.length - y.1) ?_ (0,q) ⟨by simp,by simp,by simp [Ex.AT]⟩
 rintro ⟨i,q'⟩ ⟨hi,hsm,hsz⟩ ih;simp only at hi hsm hsz;by_cases hlt:i < ks.length
 . obtain ⟨x,hx⟩:=Ak hlt;have he:=BR (enc:=Ex.enc) hx;have hw1:=A7 (show i+1<=9000000000000000000 by omega);have hxs:=Ex.JD (AD hx);have hc:=ihN x q' (σ.AM j [.d (.int .i64 q')]) (by omega) (by omega) BQ;have hst:=Ex.H2 hx;have hms:=fun hp=>Ga (p:=Ex.sm) hsm hx hp;obtain ⟨xo,xn,xu,xns,xks,xal⟩:=x;simp only [exA,Ex.A4,AG,AN] at he hc;(repeat' ((first|refine wQ mxQ rfl ?_|(refine AJ.mk rfl hc ?_;rintro v σ' ⟨b,z,⟨rfl,rfl⟩,hres⟩;cases b<;>rw [F4])|(refine Run.CK E9 (AH.le_refl _) ?_)|fail)<;>try simp only [Ag hlt,he,hw1,AA,go_sem]))
   . exact hno z
   . obtain ⟨g1,q2,rfl,g2⟩:=hres rfl;exact ih (i+1,q2) ⟨by simp only;omega,hms g1,by simp only;omega⟩ (by simp only;omega)
 . rw [AO (by omega)] at hsm hsz;clear ih;(repeat' (refine wQ mxQ rfl ?_<;>try simp only [Bk hlt,AA,go_sem]));refine Run.BB ?_
   refine Run.BG ((fun (a1:AV) (a2:AV)=>fun (y:Nat×Nat)=>put 1 a1 (put 2 a2 (put 6 (.d (.int .i64 y.1)) U))) _ _) (fun _=>Ar 2 [.d (.int .i64 o),.d (.str n),.d (.int .i64 u),.d (.sl (ns.map Bb)),.d (.sl (ks.map Ex.enc)),.d (.sl (al.map Al.enc))] E) (fun y=>σ.AM j [.d (.int .i64 y.2)])
    (fun y=>y.1<=al.length/\(∀t∈al.take y.1,t.sm)/\Al.AT (al.take y.1)+y.2=q') (fun y=>al.length - y.1) ?_ (0,q') ⟨by simp,by simp,by simp [Al.AT]⟩
   rintro ⟨i2,q2⟩ ⟨hi2,hsm2,hsz2⟩ ih;simp only at hi2 hsm2 hsz2;by_cases hlt:i2 < al.length
   . obtain ⟨x,hx⟩:=Ak hlt;have he:=BR (enc:=Al.enc) hx;have hw1:=A7 (show i2+1<=9000000000000000000 by omega);have hxs:=Al.JD (AD hx);have hst:=Al.H2 hx;have hms:=fun hp=>Ga (p:=Al.sm) hsm2 hx hp;obtain ⟨xc,xvs,xb⟩:=x;rw [Al.size] at hxs hst;have hc:=ihN xb q2 (σ.AM j [.d (.int .i64 q2)]) (by omega) (by omega) BQ;have hnv:=fun σ=>MR xvs σ;obtain ⟨xo,xn,xu,xns,xks,xal⟩:=xb;simp only [exA,Al.A4,Ex.A4,AG,AN] at he hc;by_cases hc40:40 < xc.length
     . (repeat' ((first|refine wQ mxQ rfl ?_|(refine Run.CK E9 (AH.le_refl _) ?_)|fail)<;>try simp only [Ag hlt,he,Pd,decide_eq_true hc40,AA,go_sem]));exact hno _
     cases hvk:(decide (xvs.length<=10)&&bZ xvs) with
     |false=>
      rw [hvk] at hnv;(repeat' ((first|refine wQ mxQ rfl ?_|(refine Run.CK E9 (AH.le_refl _) ?_)|refine AJ.det (hnv _) ?_|fail)<;>try simp only [Ag hlt,he,Pd,decide_eq_false hc40,AA,go_sem]));exact hno _
     |true=>
     rw [hvk] at hnv;(repeat' ((first|refine wQ mxQ rfl ?_|(refine AJ.mk rfl hc ?_;rintro v σ' ⟨b,z,⟨rfl,rfl⟩,hres⟩;cases b<;>rw [F4])|(refine Run.CK E9 (AH.le_refl _) ?_)|refine AJ.det (hnv _) ?_|fail)<;>try simp only [Ag hlt,he,hw1,Pd,decide_eq_false hc40,AA,go_sem]))
     . exact hno z
     . obtain ⟨g1,q3,rfl,g2⟩:=hres rfl;exact ih (i2+1,q3) ⟨by simp only;omega,hms (by rw [Al.sm];exact ⟨by omega,qV hvk,g1⟩),by simp only;omega⟩ (by simp only;omega)
   . rw [AO (by omega)] at hsm2 hsz2;(repeat' ((first|refine wQ mxQ rfl ?_|(refine Run.CK E9 (AH.le_refl _) ?_)|fail)<;>try simp only [Bk hlt,AA,go_sem]));exact hyes q2 (by omega) (qV hnk) hsm hsm2 (by omega)
end Go.Ab
namespace Go.Ab
open Go.Proofs
def CE.sm (c:CE):Prop:=c.name.length<=40/\c.args.length<=10/\∀t∈c.args,t.sm/\t.size<=200
def DE.sm (d:DE):Prop:=d.name.length<=40/\AD1 d.vars/\d.cons.length<=10/\∀c∈d.cons,c.sm
def FE.sm (f:FE):Prop:=f.name.length<=40/\AD1 f.params/\f.body.sm/\f.body.size<=200
def Pg.sm (p:Pg):Prop:=(p.data.length<=14/\∀d∈p.data,d.sm)/\p.G7.length<=26/\∀f∈p.G7,f.sm
theorem ANO (n:Nat):decide ((14:Int) < (n:Int))=decide (14 < n):=decide_eq_decide.2 (by omega)
theorem AP3 (n:Nat):decide ((26:Int) < (n:Int))=decide (26 < n):=decide_eq_decide.2 (by omega)
def Yx (fs:List FE):Nat:=(fs.map fun f=>f.body.size).sum
theorem AE0 {fs:List FE} {i:Nat} {f:FE} (h:fs[i]?=some f):Yx (fs.take (i+1))=Yx (fs.take i)+f.body.size:=by
 rw [Ae h,Yx,B2,List.sum_append];simp [Yx]
theorem mR (p:Pg) (σ:AH):AS Tzp 5 [pgA p] σ (fun v σ'=>∃b,(v= .d (.bool b)/\σ'=σ)/\(b=true->p.sm/\Yx p.G7<=200)):=by
 refine tM (by simp) ?_;rw [Bs];obtain ⟨ds,fs⟩:=p;simp only [pgA,Pg.enc,AG,AN];generalize hQ:(fun (v:AV) (σ':AH)=>∃b,(v= .d (.bool b)/\σ'=σ)/\(b=true->Pg.sm ⟨ds,fs⟩/\Yx fs<=200))=Q;have hno:Q (.d (.bool false)) σ:=by rw [<- hQ];exact ⟨false,⟨rfl,rfl⟩,fun h=>by cases h⟩
 have hyes:Pg.sm ⟨ds,fs⟩->Yx fs<=200->Q (.d (.bool true)) σ:=fun h h'=>by rw [<- hQ];exact ⟨true,⟨rfl,rfl⟩,fun _=>⟨h,h'⟩⟩
 clear hQ;by_cases hd14:14 < ds.length
 . (repeat' (first|refine ctQ rfl ?_|((first|refine rgQ mxQ ?_|refine cdQ ?_|refine Run.qR DS ?_)<;>try simp only [AA,ANO,decide_eq_true hd14,go_sem])|fail));exact hno
 by_cases hf26:26 < fs.length
 . (repeat' (first|refine ctQ rfl ?_|((first|refine rgQ mxQ ?_|refine cdQ ?_|refine Run.qR DS ?_)<;>try simp only [AA,ANO,decide_eq_false hd14,AP3,decide_eq_true hf26,go_sem])|fail));exact hno
 (repeat' (first|refine ctQ rfl ?_|((first|refine rgQ mxQ ?_|refine cdQ ?_)<;>try simp only [AA,ANO,decide_eq_false hd14,AP3,decide_eq_false hf26,go_sem])|fail));rintro j ⟨hj,hjb⟩;obtain ⟨hle0,hbj⟩:=wG (z:=[AV.d (.int .i64 0)]) (x:=(1,3)) ⟨hj,hjb⟩;generalize hτ:(σ.AM j [AV.d (.int .i64 0)]).Br j (1,3)=τ0 at hle0 hbj ⊢;have hle:∀q:Nat,σ.le (τ0.AM j [.d (.int .i64 q)]):=fun q=>Db hle0 hj;have hbk:∀q:Nat,(τ0.AM j [.d (.int .i64 q)]).blk j=some [.d (.int .i64 q)]:=fun q=>BQ;clear hτ;simp only [hbj,FC,go_sem];(repeat' (first|refine ctQ rfl ?_|((first|refine rgQ mxQ ?_|refine cdQ ?_)<;>try simp only [AA,hbj,FC,go_sem])|fail));refine Run.BB ?_
 refine Run.BG ((fun (a1:AV) (a3:AV) (a23:AV) (a24:AV)=>fun (y:Nat×Nat)=>put 1 a1 (put 3 a3 (put 23 a23 (put 24 a24 (put 25 (.d (.int .i64 y.1)) U))))) _ _ _ _) (fun _=>Ar 1 [.d (.sl (ds.map DE.enc)),.d (.sl (fs.map FE.enc))] E) (fun y=>τ0.AM j [.d (.int .i64 y.2)])
  (fun y=>y.1<=ds.length/\y.2<=200/\∀d∈ds.take y.1,d.sm) (fun y=>ds.length - y.1) ?_ (0,200) ⟨by simp,by simp,by simp⟩
 rintro ⟨i,q⟩ ⟨hi,hq,hsm⟩ ih;simp only at hi hq hsm;by_cases hlt:i < ds.length
 . obtain ⟨d,hd⟩:=Ak hlt;have he:=BR (enc:=DE.enc) hd;have hw1:=A7 (show i+1<=9000000000000000000 by omega);have hms:=fun hp=>Ga (p:=DE.sm) hsm hd hp;obtain ⟨dn,dvs',dcs⟩:=d;simp only [DE.enc] at he;have hnm:=fun σ=>MR dvs' σ;by_cases h40:40 < dn.length
   . (repeat' (first|refine ctQ rfl ?_|((first|refine rgQ mxQ ?_|refine cdQ ?_|(refine Run.CK DS (σ2:=σ) (hle _) ?_))<;>try simp only [Ag hlt,he,Pd,decide_eq_true h40,AA,go_sem])|fail));exact hno
   cases hnk:(decide (dvs'.length<=10)&&bZ dvs') with
   |false=>
    rw [hnk] at hnm;(repeat' (first|refine ctQ rfl ?_|((first|refine rgQ mxQ ?_|refine cdQ ?_|(refine Run.CK DS (σ2:=σ) (hle _) ?_)|refine AJ.det (hnm _) ?_)<;>try simp only [Ag hlt,he,Pd,decide_eq_false h40,AA,go_sem])|fail));exact hno
   |true=>
   rw [hnk] at hnm;by_cases hc10:10 < dcs.length
   . (repeat' (first|refine ctQ rfl ?_|((first|refine rgQ mxQ ?_|refine cdQ ?_|(refine Run.CK DS (σ2:=σ) (hle _) ?_)|refine AJ.det (hnm _) ?_)<;>try simp only [Ag hlt,he,Pd,decide_eq_false h40,xX,decide_eq_true hc10,AA,go_sem])|fail));exact hno
   (repeat' (first|refine ctQ rfl ?_|((first|refine rgQ mxQ ?_|refine cdQ ?_|refine AJ.det (hnm _) ?_)<;>try simp only [Ag hlt,he,Pd,decide_eq_false h40,xX,decide_eq_false hc10,AA,go_sem])|fail));refine Run.BB ?_
   refine Run.BG ((fun (a1:AV) (a3:AV) (a23:AV) (a24:AV) (a25:AV) (a46:AV) (a47:AV)=>fun (y:Nat×Nat)=>put 1 a1 (put 3 a3 (put 23 a23 (put 24 a24 (put 25 a25 (put 46 a46 (put 47 a47 (put 48 (.d (.int .i64 y.1)) U)))))))) _ _ _ _ _ _ _) (fun _=>Ar 1 [.d (.sl (ds.map DE.enc)),.d (.sl (fs.map FE.enc))] E) (fun y=>τ0.AM j [.d (.int .i64 y.2)])
    (fun y=>y.1<=dcs.length/\y.2<=200/\∀d∈dcs.take y.1,d.sm) (fun y=>dcs.length - y.1) ?_ (0,q) ⟨by simp,hq,by simp⟩
   rintro ⟨i1,q1⟩ ⟨hi1,hq1,hsm1⟩ ih1;simp only at hi1 hq1 hsm1;by_cases hlt1:i1 < dcs.length
   . obtain ⟨c,hc⟩:=Ak hlt1;have he1:=BR (enc:=CE.enc) hc;have hw2:=A7 (show i1+1<=9000000000000000000 by omega);have hms1:=fun hp=>Ga (p:=CE.sm) hsm1 hc hp;obtain ⟨cn,ar⟩:=c;simp only [CE.enc] at he1;by_cases hcn40:40 < cn.length
     . (repeat' (first|refine ctQ rfl ?_|((first|refine rgQ mxQ ?_|refine cdQ ?_|(refine Run.CK DS (σ2:=σ) (hle _) ?_))<;>try simp only [Ag hlt1,he1,Pd,decide_eq_true hcn40,AA,go_sem])|fail));exact hno
     by_cases ha10:10 < ar.length
     . (repeat' (first|refine ctQ rfl ?_|((first|refine rgQ mxQ ?_|refine cdQ ?_|(refine Run.CK DS (σ2:=σ) (hle _) ?_))<;>try simp only [Ag hlt1,he1,Pd,decide_eq_false hcn40,xX,decide_eq_true ha10,AA,go_sem])|fail));exact hno
     (repeat' (first|refine ctQ rfl ?_|((first|refine rgQ mxQ ?_|refine cdQ ?_)<;>try simp only [Ag hlt1,he1,Pd,decide_eq_false hcn40,xX,decide_eq_false ha10,AA,go_sem])|fail));refine Run.BB ?_
     refine Run.BG ((fun (a1:AV) (a3:AV) (a23:AV) (a24:AV) (a25:AV) (a46:AV) (a47:AV) (a48:AV) (a63:AV) (a64:AV)=>fun (y:Nat×Nat)=>put 1 a1 (put 3 a3 (put 23 a23 (put 24 a24 (put 25 a25 (put 46 a46 (put 47 a47 (put 48 a48 (put 63 a63 (put 64 a64 (put 65 (.d (.int .i64 y.1)) U))))))))))) _ _ _ _ _ _ _ _ _ _) (fun _=>Ar 1 [.d (.sl (ds.map DE.enc)),.d (.sl (fs.map FE.enc))] E) (fun y=>τ0.AM j [.d (.int .i64 y.2)])
      (fun y=>y.1<=ar.length/\y.2<=200/\∀t∈ar.take y.1,t.sm/\t.size<=200) (fun y=>ar.length - y.1) ?_ (0,q1) ⟨by simp,hq1,by simp⟩
     rintro ⟨i2,q2⟩ ⟨hi2,hq2,hsm2⟩ ih2;simp only at hi2 hq2 hsm2;by_cases hlt2:i2 < ar.length
     . obtain ⟨x,hx⟩:=Ak hlt2;have he2:=BR (enc:=TE.enc) hx;have hw3:=A7 (show i2+1<=9000000000000000000 by omega);have hms2:=fun hp=>Ga (p:=fun t=>TE.sm t/\t.size<=200) hsm2 hx hp;have hcl:=eX j x.size x q2 (τ0.AM j [.d (.int .i64 q2)]) (AR _) (by omega) (hbk q2);obtain ⟨xk,xn,xl⟩:=x;simp only [teA,TE.A4,AG,AN] at he2 hcl;(repeat' (first|refine ctQ rfl ?_|((first|refine rgQ mxQ ?_|refine cdQ ?_|(refine AJ.mk rfl hcl ?_;rintro v σ' ⟨b,z,⟨rfl,rfl⟩,hres⟩;cases b<;>rw [F4])|(refine Run.CK DS (σ2:=σ) (Db hle0 hj) ?_))<;>try simp only [Ag hlt2,he2,hw3,AA,go_sem])|fail))
       . exact hno
       . obtain ⟨g1,q3,rfl,g2⟩:=hres rfl;exact ih2 (i2+1,q3) ⟨by simp only;omega,by simp only;omega,hms2 ⟨g1,by omega⟩⟩ (by simp only;omega)
     . rw [AO (by omega)] at hsm2;(repeat' (first|refine ctQ rfl ?_|((first|refine rgQ mxQ ?_|refine cdQ ?_)<;>try simp only [Bk hlt2,hw2,AA,go_sem])|fail));exact ih1 (i1+1,q2) ⟨by simp only;omega,hq2,hms1 ⟨by simp only;omega,by simp only;omega,hsm2⟩⟩ (by simp only;omega)
   . rw [AO (by omega)] at hsm1;(repeat' (first|refine ctQ rfl ?_|((first|refine rgQ mxQ ?_|refine cdQ ?_)<;>try simp only [Bk hlt1,hw1,AA,go_sem])|fail));exact ih (i+1,q1) ⟨by simp only;omega,hq1,hms ⟨by simp only;omega,qV hnk,by simp only;omega,hsm1⟩⟩ (by simp only;omega)
 . rw [AO (by omega)] at hsm;clear ih;(repeat' (first|refine ctQ rfl ?_|((first|refine rgQ mxQ ?_|refine cdQ ?_)<;>try simp only [Bk hlt,AA,go_sem])|fail));refine Run.BB ?_
   refine Run.BG ((fun (a3:AV) (a76:AV) (a77:AV)=>fun (y:Nat×Nat)=>put 3 a3 (put 76 a76 (put 77 a77 (put 78 (.d (.int .i64 y.1)) U)))) _ _ _) (fun _=>E) (fun y=>τ0.AM j [.d (.int .i64 y.2)])
    (fun y=>y.1<=fs.length/\y.2+Yx (fs.take y.1)<=200/\∀d∈fs.take y.1,d.sm) (fun y=>fs.length - y.1) ?_ (0,q) ⟨by simp,by simpa [Yx] using hq,by simp⟩
   rintro ⟨i1,q1⟩ ⟨hi1,hq1,hsm1⟩ ih;simp only at hi1 hq1 hsm1;by_cases hlt1:i1 < fs.length
   . obtain ⟨f,hf⟩:=Ak hlt1;have he:=BR (enc:=FE.enc) hf;have hw1:=A7 (show i1+1<=9000000000000000000 by omega);have hms:=fun hp=>Ga (p:=FE.sm) hsm1 hf hp;have hsz:=AE0 hf;obtain ⟨fn,fps,fb⟩:=f;have hnm:=fun σ=>MR fps σ;have hcl:=qL j fb.size fb q1 (τ0.AM j [.d (.int .i64 q1)]) (AR _) (by omega) (hbk q1);obtain ⟨xo,xn,xu,xns,xks,xal⟩:=fb;simp only [FE.enc,exA,Ex.A4,AG,AN] at he hcl;by_cases h40:40 < fn.length
     . (repeat' (first|refine ctQ rfl ?_|((first|refine rgQ mxQ ?_|refine cdQ ?_|(refine Run.CK DS (σ2:=σ) (hle _) ?_))<;>try simp only [Ag hlt1,he,Pd,decide_eq_true h40,AA,go_sem])|fail));exact hno
     cases hnk:(decide (fps.length<=10)&&bZ fps) with
     |false=>
      rw [hnk] at hnm;(repeat' (first|refine ctQ rfl ?_|((first|refine rgQ mxQ ?_|refine cdQ ?_|(refine Run.CK DS (σ2:=σ) (hle _) ?_)|refine AJ.det (hnm _) ?_)<;>try simp only [Ag hlt1,he,Pd,decide_eq_false h40,AA,go_sem])|fail));exact hno
     |true=>
     rw [hnk] at hnm;(repeat' (first|refine ctQ rfl ?_|((first|refine rgQ mxQ ?_|refine cdQ ?_|(refine AJ.mk rfl hcl ?_;rintro v σ' ⟨b,z,⟨rfl,rfl⟩,hres⟩;cases b<;>rw [F4])|(refine Run.CK DS (σ2:=σ) (Db hle0 hj) ?_)|refine AJ.det (hnm _) ?_)<;>try simp only [Ag hlt1,he,hw1,Pd,decide_eq_false h40,AA,go_sem])|fail))
     . exact hno
     . obtain ⟨g1,q3,rfl,g2⟩:=hres rfl;exact ih (i1+1,q3) ⟨by simp only;omega,by simp only at hsz ⊢;omega,hms ⟨by simp only;omega,qV hnk,g1,by simp only;omega⟩⟩ (by simp only;omega)
   . rw [AO (by omega)] at hsm1;(repeat' (first|refine ctQ rfl ?_|((first|refine rgQ mxQ ?_|refine cdQ ?_|(refine Run.CK DS (σ2:=σ) (hle _) ?_))<;>try simp only [Bk hlt1,AA,go_sem])|fail));rw [AO (by omega)] at hq1;exact hyes ⟨⟨by simp only;omega,hsm⟩,by simp only;omega,hsm1⟩ (by omega)
end Go.Ab
namespace Go.Ab
end Go.Ab
namespace Go.Ab
def ALM (m:Nat) (l:List Str):Prop:=∀s∈l,s.length<=m
mutual
def TE.sh (m:Nat):TE->Prop
 | .mk _ n l=>n.length<=m/\TE.shs m l
def TE.shs (m:Nat):List TE->Prop
 |[]=>True
 |t::l=>t.sh m/\TE.shs m l
end
mutual
def Ex.sh (m:Nat):Ex->Prop
 | .mk _ n _ ns ks al=>n.length<=m/\ALM m ns/\Ex.shs m ks/\Al.shs m al
def Ex.shs (m:Nat):List Ex->Prop
 |[]=>True
 |t::l=>t.sh m/\Ex.shs m l
def Al.sh (m:Nat):Al->Prop
 | .mk _ vs b=>ALM m vs/\b.sh m
def Al.shs (m:Nat):List Al->Prop
 |[]=>True
 |t::l=>t.sh m/\Al.shs m l
end
theorem TE.MU {m:Nat}:∀ {l:List TE},TE.shs m l↔∀t∈l,t.sh m
 |[]=>by simp [TE.shs]
 |t::l=>by simp [TE.shs,TE.MU (l:=l)]
theorem Ex.MU {m:Nat}:∀ {l:List Ex},Ex.shs m l↔∀t∈l,t.sh m
 |[]=>by simp [Ex.shs]
 |t::l=>by simp [Ex.shs,Ex.MU (l:=l)]
theorem Al.MU {m:Nat}:∀ {l:List Al},Al.shs m l↔∀t∈l,t.sh m
 |[]=>by simp [Al.shs]
 |t::l=>by simp [Al.shs,Al.MU (l:=l)]
def DE.sh (m:Nat) (d:DE):Prop:=ALM m d.vars/\∀c∈d.cons,∀t∈c.args,t.sh m
def FE.sh (m:Nat) (f:FE):Prop:=f.name.length<=m/\ALM m f.params/\f.body.sh m
def Pg.sh (m:Nat) (p:Pg):Prop:=(∀d∈p.data,d.sh m)/\∀f∈p.G7,f.sh m
mutual
def TE.vn:TE->Prop
 | .mk k n l=>(k=4->n≠[])/\TE.vns l
def TE.vns:List TE->Prop
 |[]=>True
 |t::l=>t.vn/\TE.vns l
end
end Go.Ab
namespace Go.Ab
open Go.Proofs
theorem AHE (n:Nat):CC n=[.int .i64 (n:Int)]:=rfl
def WO (r:List Nat):List DV:=[.sl (r.map CC)]
theorem AIC (r:List Nat):WO r=[.sl (r.map CC)]:=rfl
end Go.Ab
namespace Go.Ab
inductive Reach (g:List (List Nat)):Nat->Nat->Prop
 |refl (v:Nat):Reach g v v
 |step {v w k:Nat} (h:w∈g.getD v []) (hr:Reach g w k):Reach g v k
theorem Reach.trans {g:List (List Nat)} {a b c:Nat} (h:Reach g a b) (k:Reach g b c):Reach g a c:=by
 induction h with
 |refl=>exact k
 |step h _ ih=>exact .step h (ih k)
theorem Reach.one {g:List (List Nat)} {a b:Nat} (h:b∈g.getD a []):Reach g a b:= .step h (.refl b)
def ZE (g:List (List Nat)):Prop:=∀l∈g,∀w∈l,w < g.length
theorem ZE.at {g:List (List Nat)} (h:ZE g) {v w:Nat} (hw:w∈g.getD v []):w < g.length:=by
 rw [A6] at hw;cases hv:g[v]? with
 |none=>rw [hv] at hw;simp at hw
 |some l=>rw [hv] at hw;exact h l (AD hv) w hw
theorem Reach.lt {g:List (List Nat)} (he:ZE g) {a b:Nat} (h:Reach g a b) (ha:a < g.length):b < g.length:=by
 induction h with
 |refl=>exact ha
 |step h _ ih=>exact ih (he.at h)
open Classical in
noncomputable def rB (g:List (List Nat)) (i k:Nat):Bool:=decide (Reach g i k)
theorem WM {g:List (List Nat)} {i k:Nat}:rB g i k=true↔Reach g i k:=by simp [rB]
noncomputable def u0 (g:List (List Nat)) (i:Nat):List Bool:=(Au g.length).map (rB g i)
structure wC (g:List (List Nat)) (v:Nat) (R R':List Bool):Prop where
 len:R'.length=R.length
 mono:∀k:Nat,R[k]?=some true->R'[k]?=some true
 self:R'[v]?=some true
 new:∀k:Nat,R'[k]?=some true->R[k]?=some true\/(Reach g v k/\∀w∈g.getD k [],R'[w]?=some true)
theorem wC.skip {g:List (List Nat)} {v:Nat} {R:List Bool} (h:R[v]?=some true):wC g v R R:=⟨rfl,fun _ h=>h,h,fun _ h=>.inl h⟩
structure pJ (g:List (List Nat)) (v:Nat) (ws:List Nat) (R R':List Bool):Prop where
 len:R'.length=R.length
 mono:∀k:Nat,R[k]?=some true->R'[k]?=some true
 self:R'[v]?=some true
 done:∀w∈ws,R'[w]?=some true
 new:∀k:Nat,R'[k]?=some true->R[k]?=some true\/k=v\/(Reach g v k/\∀w∈g.getD k [],R'[w]?=some true)
theorem pJ.start {g:List (List Nat)} {v:Nat} {R:List Bool} (h:v < R.length):pJ g v [] R (R.set v true):=by
 refine ⟨by simp,fun k hk=>?_,by simp [h],by simp,fun k hk=>?_⟩
 . rw [BZ];split
   . rename_i e;subst e;simp [h]
   . exact hk
 . rw [BZ] at hk;split at hk
   . rename_i e;exact .inr (.inl e.symm)
   . exact .inl hk
theorem pJ.next {g:List (List Nat)} {v w:Nat} {ws:List Nat} {R R1 R2:List Bool} (h:pJ g v ws R R1) (hw:w∈g.getD v []) (k:wC g w R1 R2):pJ g v (ws++[w]) R R2:=by
 refine ⟨k.len.trans h.len,fun q hq=>k.mono q (h.mono q hq),k.mono v h.self,fun x hx=>?_,fun q hq=>?_⟩
 . rcases AY.1 hx with hx|hx
   . exact k.mono x (h.done x hx)
   . simp at hx;subst hx;exact k.self
 . rcases k.new q hq with h1|⟨h1,h2⟩
   . rcases h.new q h1 with h3|h3|⟨h3,h4⟩
     . exact .inl h3
     . exact .inr (.inl h3)
     . exact .inr (.inr ⟨h3,fun x hx=>k.mono x (h4 x hx)⟩)
   . exact .inr (.inr ⟨.step hw h1,h2⟩)
theorem pJ.fin {g:List (List Nat)} {v:Nat} {R R':List Bool} (h:pJ g v (g.getD v []) R R'):wC g v R R':=by
 refine ⟨h.len,h.mono,h.self,fun k hk=>?_⟩;rcases h.new k hk with h1|h1|h1
 . exact .inl h1
 . subst h1;exact .inr ⟨.refl k,h.done⟩
 . exact .inr h1
theorem AJT {g:List (List Nat)} (he:ZE g) {i:Nat} (hi:i < g.length) {R':List Bool} (h:wC g i (AE g.length false) R'):R'=u0 g i:=by
 have hl:R'.length=g.length:=by rw [h.len];simp
 have hf:∀k:Nat,(AE g.length false)[k]?≠some true:=fun k hk=>by
  rw [QE] at hk;split at hk<;>cases hk
 have hc:∀a b,Reach g a b->R'[a]?=some true->R'[b]?=some true:=fun a b hr=>by
  induction hr with
  |refl=>exact id
  |step hw _ ih=>
   intro ha;rcases h.new _ ha with h1|⟨_,h2⟩
   . exact absurd h1 (hf _)
   . exact ih (h2 _ hw)
 apply Ev;intro k;by_cases hk:k < g.length
 . have hR:R'[k]?=some R'[k]:=by simp [hl,hk]
   rw [u0,Ao,Dm hk,Ad,hR];congr 1;rw [Ax,WM];constructor
   . intro ht;rw [ht] at hR;rcases h.new k hR with h1|h1
     . exact absurd h1 (hf k)
     . exact h1.1
   . intro hr;have:=hc i k hr h.self;rw [hR] at this;exact Option.some.inj this
 . rw [BY (by omega),BY (by simp [u0];omega)]
def unm (R:List Bool):Nat:=(R.filter (fun b=>!b)).length
theorem ABS:∀ {R:List Bool} {v:Nat},R[v]?=some false->unm (R.set v true)+1=unm R
 |[],v,h=>by simp at h
 |b::R,0,h=>by simp at h;subst h;simp [unm]
 |b::R,v+1,h=>by
  have:=ABS (R:=R) (v:=v) (by simpa using h);cases b<;>simp [unm] at this ⊢<;>omega
theorem AAC:∀ {R R':List Bool},R'.length=R.length->(∀k:Nat,R[k]?=some true->R'[k]?=some true)->unm R'<=unm R
 |[],[],_,_=>AR _
 |[],_::_,h,_=>by simp at h
 |_::_,[],h,_=>by simp at h
 |b::R,c::R',h,hm=>by
  have:=AAC (R:=R) (R':=R') (by simpa using h) (fun k hk=>by simpa using hm (k+1) (by simpa using hk));have h0:=hm 0;cases b<;>cases c<;>simp [unm] at this h0 ⊢<;>omega
end Go.Ab
namespace Go.Ab
open Go.Proofs
structure CB (g:List (List Nat)) (j1 j4 j5 j6 jr jw i:Nat) (cells:List AV) (R:List Bool) (τ:AH):Prop where
 b1:τ.blk j1=some [.d (.sl (g.map WO))]
 b4:τ.blk j4=some [.ms jr g.length 1 92]
 b5:τ.blk j5=some [.d (.int .i64 i)]
 b6:τ.blk j6=some [.fn 87 [] [.gp j4 0,.gp j5 0,.gp j1 0,.gp j6 0]]
 br:τ.blk jr=some cells
 cl:cells.length=g.length
 ci:cells[i]?=some (.ms jw g.length 1 4)
 il:i < g.length
 bw:τ.blk jw=some (BL R)
 rl:R.length=g.length
 n1:jw≠j1
 n4:jw≠j4
 n5:jw≠j5
 n6:jw≠j6
 nr:jw≠jr
theorem CB.set {g:List (List Nat)} {j1 j4 j5 j6 jr jw i:Nat} {cells:List AV} {R:List Bool} {τ:AH} (h:CB g j1 j4 j5 j6 jr jw i cells R τ) (R':List Bool) (hl:R'.length=R.length):CB g j1 j4 j5 j6 jr jw i cells R' (τ.AM jw (BL R')):=
 ⟨by rw [AI,if_neg (A5 h.n1)];exact h.b1,by rw [AI,if_neg (A5 h.n4)];exact h.b4,by rw [AI,if_neg (A5 h.n5)];exact h.b5,by rw [AI,if_neg (A5 h.n6)];exact h.b6,
   by rw [AI,if_neg (A5 h.nr)];exact h.br,h.cl,h.ci,h.il,BQ,hl.trans h.rl,h.n1,h.n4,h.n5,h.n6,h.nr⟩
theorem nR {l:List Bool} {k:Nat} (x:Bool) (h:k < l.length):Gd k (BL l)++[AV.d (.bool x)]++FC (k+1) (BL l)=BL (l.set k x):=by
 have:=ZM x h;simpa only [wr,A0,By,BU] using this
theorem sL {l:List Bool} {k:Nat} (h:k < l.length):(k+1<=(BL l).length)=True:=by rw [O2];simp;omega
theorem AFZ (g:List (List Nat)) (hg:ZE g) (hgl:g.length<=1000) (hll:∀l∈g,l.length<=1000) (j1 j4 j5 j6 jr jw i:Nat) (cells:List AV):∀(N:Nat) (R:List Bool) (v:Nat) (τ:AH),unm R=N->v < g.length->CB g j1 j4 j5 j6 jr jw i cells R τ->
 AS Tzp 87 [.d (.int .i64 v),.gp j4 0,.gp j5 0,.gp j1 0,.gp j6 0] τ (fun av σ'=>∃R',av= .tup []/\σ'=τ.AM jw (BL R')/\wC g v R R'):=by
 intro N
 induction N using FT with
 |_ N ihN=>
 intro R v τ hN hv hc;obtain ⟨x,hx⟩:=Ak (show v < R.length by rw [hc.rl];exact hv);have hbx:=Gs hx;have hil:((i:Int) < (g.length:Int))=True:=by simp only [eq_iff_iff,iff_true];have:=hc.il;omega
 have hvl:((v:Int) < (g.length:Int))=True:=by simp only [eq_iff_iff,iff_true];omega
 refine Vl (by simp) ?_;rw [wM];cases x with
 |true=>
  (repeat' ((first|refine wQ mxQ rfl ?_|(refine Run.CK IT (AH.le_refl _) ?_)|fail)<;>try simp only [hc.b1,hc.b4,hc.b5,hc.b6,hc.br,hc.bw,hc.ci,hil,hvl,hbx,A2,go_sem]));exact ⟨R,(GN hc.bw).symm,wC.skip hx⟩
 |false=>
  have hvR:v < R.length:=(AF.1 hx).1;have w1:=nR true hvR;have d1:=sL hvR;obtain ⟨l,hl⟩:=Ak hv;have hel:=BR (enc:=WO) hl;rw [AIC] at hel;have hgd:g.getD v []=l:=by rw [A6,hl];rfl
  have hlm:=hll l (AD hl);have hc1:=hc.set (R.set v true) (by simp);(repeat' (refine wQ mxQ rfl ?_<;>try simp only [hc.b1,hc.b4,hc.b5,hc.b6,hc.br,hc.bw,hc.ci,hil,hvl,hbx,A2,d1,w1,hc1.b1,hel,AA,go_sem]));refine Run.BB ?_
  refine Run.BG ((fun (a4:AV) (a24:AV) (a25:AV)=>fun (y:Nat×List Bool)=>put 4 a4 (put 24 a24 (put 25 a25 (put 26 (.d (.int .i64 y.1)) U)))) _ _ _) (fun _=>E) (fun y=>τ.AM jw (BL y.2))
   (fun y=>y.1<=l.length/\pJ g v (l.take y.1) R y.2) (fun y=>l.length - y.1) ?_ (0,R.set v true) ⟨by simp,pJ.start hvR⟩
  rintro ⟨q,Rq⟩ ⟨hq,hd⟩ ih;simp only at hq hd;by_cases hlt:q < l.length
  . obtain ⟨w,hw⟩:=Ak hlt;have hew:=BR (enc:=CC) hw;rw [AHE] at hew;have hw1:=A7 (show q+1<=9000000000000000000 by omega);have hwm:w∈g.getD v []:=by rw [hgd];exact AD hw
    have hcq:=hc.set Rq hd.len
    have hun:unm Rq < N:=by
     have h1:=ABS hx
     have h2:=AAC (R:=R.set v true) (R':=Rq) (by rw [hd.len];simp) (fun k hk=>by
      rw [BZ] at hk;split at hk
      . rename_i e;subst e;exact hd.self
      . exact hd.mono k hk)
     omega
    have hcl:=ihN _ hun Rq w (τ.AM jw (BL Rq)) rfl (hg.at hwm) hcq;(repeat' ((first|refine wQ mxQ rfl ?_|(refine ⟨_,[],[.gp j4 0,.gp j5 0,.gp j1 0,.gp j6 0],rfl,by kernel_rfl,AJ.mk rfl hcl ?_⟩;rintro _ _ ⟨R2,rfl,rfl,hd2⟩;rw [F4])|fail)<;>try simp only [Ag hlt,hew,hcq.b6,hw1,go_sem]));exact ih (q+1,R2) ⟨by simp only;omega,by simp only;rw [Ae hw];exact hd.next hwm hd2⟩ (by simp only;omega)
  . rw [AO (by omega)] at hd;(repeat' (refine wQ mxQ rfl ?_<;>try simp only [Bk hlt,go_sem]));refine Run.fin IT (v:= .tup []) rfl (fun _ _ h=>h) (AH.le_refl _) ?_;exact ⟨Rq,rfl,rfl,by rw [<- hgd] at hd;exact hd.fin⟩
end Go.Ab
namespace Go.Ab
open Go.Proofs
structure RS (σ:AH) (g:List (List Nat)) (j1 j3 j4 jr:Nat) (i m:Nat) (cells:List AV) (τ:AH):Prop where
 b1:τ.blk j1=some [.d (.sl (g.map WO))]
 b3:τ.blk j3=some [.d (.int .i64 g.length)]
 b4:τ.blk j4=some [.ms jr g.length 1 92]
 br:τ.blk jr=some cells
 cl:cells.length=g.length
 rows:∀k,k < i->∃jk,cells[k]?=some (.ms jk g.length 1 4)/\τ.blk jk=some (BL (u0 g k))/\jk≠jr
 rest:∀k,m<=k->k < g.length->cells[k]?=some .Af
 le:σ.le τ
 nr:σ.blk jr=none
 n1:jr≠j1
 n3:jr≠j3
 n4:jr≠j4
theorem AH.le.none {σ τ:AH} (h:σ.le τ) {j:Nat} (hj:τ.blk j=none):σ.blk j=none:=by
 cases hc:σ.blk j with
 |none=>rfl
 |some c=>rw [h.blk j c hc] at hj;cases hj
theorem RS.new {σ τ:AH} {g:List (List Nat)} {j1 j3 j4 jr i m:Nat} {cells:List AV} (h:RS σ g j1 j3 j4 jr i m cells τ) {j:Nat} (hj:σ.blk j=none) (n1:j≠j1) (n3:j≠j3) (n4:j≠j4) (nr:j≠jr) (hk:∀k jk,k < i->cells[k]?=some (.ms jk g.length 1 4)->jk≠j) (cs:List AV):RS σ g j1 j3 j4 jr i m cells (τ.AM j cs):=
 ⟨by rw [AI,if_neg (A5 n1)];exact h.b1,by rw [AI,if_neg (A5 n3)];exact h.b3,by rw [AI,if_neg (A5 n4)];exact h.b4,by rw [AI,if_neg (A5 nr)];exact h.br,h.cl,
   fun k hki=>by
    obtain ⟨jk,h1,h2,h3⟩:=h.rows k hki;exact ⟨jk,h1,by rw [AI,if_neg (hk k jk hki h1)];exact h2,h3⟩,h.rest,Db h.le hj,h.nr,h.n1,h.n3,h.n4⟩
theorem RS.fresh {σ τ:AH} {g:List (List Nat)} {j1 j3 j4 jr i m:Nat} {cells:List AV} (h:RS σ g j1 j3 j4 jr i m cells τ) {j:Nat} (hj:τ.blk j=none):σ.blk j=none/\j≠j1/\j≠j3/\j≠j4/\j≠jr/\∀k jk,k < i->cells[k]?=some (.ms jk g.length 1 4)->jk≠j:=by
 refine ⟨h.le.none hj,fun e=>?_,fun e=>?_,fun e=>?_,fun e=>?_,fun k jk hk hc e=>?_⟩
 . rw [e,h.b1] at hj;cases hj
 . rw [e,h.b3] at hj;cases hj
 . rw [e,h.b4] at hj;cases hj
 . rw [e,h.br] at hj;cases hj
 . obtain ⟨jk',h1,h2,_⟩:=h.rows k hk;rw [hc] at h1;cases h1;rw [e,hj] at h2;cases h2
theorem RS.bt {σ τ:AH} {g:List (List Nat)} {j1 j3 j4 jr i m:Nat} {cells:List AV} (h:RS σ g j1 j3 j4 jr i m cells τ) {j:Nat} {x:Nat×TypeId} (hj:τ.bt j=none):RS σ g j1 j3 j4 jr i m cells (τ.Br j x):=
 ⟨h.b1,h.b3,h.b4,h.br,h.cl,h.rows,h.rest,Zg h.le hj,h.nr,h.n1,h.n3,h.n4⟩
theorem KE {τ:AH} {j k:Nat} {x:List AV} (h:τ.blk j=some x) (hk:τ.blk k=none) (cs:List AV):(τ.AM k cs).blk j=some x:=by
 rw [AI,if_neg (fun e=>by rw [e,hk] at h;cases h)];exact h
def AJF (F0:Fm) (τ:AH) (jr n i:Nat) (cells:List AV) (F:Fm) (L:Lm) (τ':AH):Prop:=
 ∃jw,τ.blk jw=none/\Ia [1,3,4,5,18,19] F=F0/\He [1,3,4,5,18,19] L=E/\τ'=(τ.AM jw (BL (AE n false))).AM jr (cells.set i (.ms jw n 1 4))
theorem AJF.mk {F0:Fm} {τ:AH} {jr n i:Nat} {cells:List AV} {F:Fm} {L:Lm} {τ':AH} (jw:Nat) (h1:τ.blk jw=none) (h2:Ia [1,3,4,5,18,19] F=F0) (h3:He [1,3,4,5,18,19] L=E) (h4:τ'=(τ.AM jw (BL (AE n false))).AM jr (cells.set i (.ms jw n 1 4))):AJF F0 τ jr n i cells F L τ':=⟨jw,h1,h2,h3,h4⟩
theorem AJP (Q:AV->AH->Prop) (rest:List CI) (g:List (List Nat)) (hg:ZE g) (hgl:g.length<=1000) (hll:∀l∈g,l.length<=1000) (j1 j3 j4 jr:Nat) (σ τ:AH) (cells:List AV) (h:RS σ g j1 j3 j4 jr 0 0 cells τ)
 (hfin:∀cells' τ',RS σ g j1 j3 j4 jr g.length g.length cells' τ'->Run Bx Q rest (put 1 (.gp j1 0) (put 3 (.gp j3 0) (put 4 (.gp j4 0) (put 18 (.d (.int .i64 g.length)) (put 19 (.d (.int .i64 g.length)) (put 20 (.d (.bool false)) U)))))) E τ'):
 Run Bx Q (.code (.loop F6)::.blk 0::rest) (put 1 (.gp j1 0) (put 3 (.gp j3 0) (put 4 (.gp j4 0) (put 18 (.d (.int .i64 g.length)) (put 19 (.d (.int .i64 0)) U))))) E τ:=by
 refine Run.BB ?_
 refine Run.BG ((fun (a1:AV) (a3:AV) (a4:AV) (a18:AV)=>fun (y:Nat×List AV×AH)=>put 1 a1 (put 3 a3 (put 4 a4 (put 18 a18 (put 19 (.d (.int .i64 y.1)) U))))) _ _ _ _) (fun _=>E) (fun y=>y.2.2)
  (fun y=>y.1<=g.length/\RS σ g j1 j3 j4 jr y.1 y.1 y.2.1 y.2.2) (fun y=>g.length - y.1) ?_ (0,cells,τ) ⟨by simp,h⟩
 clear h;rintro ⟨i,cells,τ⟩ ⟨hi,h⟩ ih;simp only at hi h;by_cases hlt:i < g.length
 . have hw1:=A7 (show i+1<=9000000000000000000 by omega);have hil:((i:Int) < (g.length:Int))=True:=by simp only [eq_iff_iff,iff_true];omega
   (repeat' (first|refine ctQ rfl ?_|((first|refine rgQ mxQ ?_|refine cdQ ?_)<;>try simp only [Ag hlt,go_sem])|fail));rintro j5 ⟨hj5,hjb5⟩;obtain ⟨f1,f2,f3,f4,f5,f6⟩:=h.fresh hj5;have h1:=((h.new f1 f2 f3 f4 f5 f6 [.d (.int .i64 0)]).bt (x:=(1,3)) hjb5).new f1 f2 f3 f4 f5 f6 [.d (.int .i64 i)];have hb5:((((τ.AM j5 [AV.d (.int .i64 0)]).Br j5 (1,3))).AM j5 [.d (.int .i64 i)]).blk j5=some [.d (.int .i64 i)]:=BQ;have hbt:∀(τ:AH) (x:Nat×TypeId),(τ.Br j5 x).blk=τ.blk:=fun _ _=>rfl;simp only [hbt,AI,go_sem];generalize ((τ.AM j5 [AV.d (.int .i64 0)]).Br j5 (1,3)).AM j5 [AV.d (.int .i64 i)]=τ1 at h1 hb5 ⊢;clear hbt h hj5 hjb5;have hil2:(i+1<=cells.length)=True:=by rw [h1.cl];simp;omega
   have hwr:∀x:AV,Gd i cells++[x]++FC (i+1) cells=cells.set i x:=fun x=>wr1 x (by rw [h1.cl];exact hlt);refine ctQ rfl ?_;refine Run.Zr mixed (AJF (put 1 (.gp j1 0) (put 3 (.gp j3 0) (put 4 (.gp j4 0) (put 5 (.gp j5 0) (put 18 (.d (.int .i64 g.length)) (put 19 (.d (.int .i64 i)) U)))))) τ1 jr g.length i cells) ?_ ?_
   . simp only [h1.b3,h1.b4,hb5,h1.br,hil,A2,and_true,go_sem];(repeat' (first|refine And.intro ?_ ?_|(refine Nz.mk (n:=g.length) (by omega) (by omega) (fun jw hjw=>?_);simp only [Wd,KE h1.b4 hjw,KE hb5 hjw,KE h1.br hjw,hil,hil2,hwr,h1.b4,hb5,h1.br,A2,and_true,go_sem];try (refine AJF.mk jw hjw (by simp only [go_sem]) (by simp only [go_sem]) ?_;rfl))))
   . rintro F L τ2 ⟨jw,hjw,hF,hL,rfl⟩;rw [hF,hL];clear hF hL;have hjwr:jw≠jr:=fun e=>by rw [e,h1.br] at hjw;cases hjw
     have h2:RS σ g j1 j3 j4 jr i (i+1) (cells.set i (.ms jw g.length 1 4)) ((τ1.AM jw (BL (AE g.length false))).AM jr (cells.set i (.ms jw g.length 1 4))):=by
      have hs:∀j x,τ1.blk j=some x->j≠jr->((τ1.AM jw (BL (AE g.length false))).AM jr (cells.set i (.ms jw g.length 1 4))).blk j=some x:=fun j x hx hne=>by
       rw [AI,if_neg hne];exact KE hx hjw _
      refine ⟨hs _ _ h1.b1 (A5 h1.n1),hs _ _ h1.b3 (A5 h1.n3),hs _ _ h1.b4 (A5 h1.n4),BQ,by rw [Kf];exact h1.cl,fun k hk=>?_,fun k hk hkl=>?_,Db (Db h1.le (h1.le.none hjw)) h1.nr,h1.nr,h1.n1,h1.n3,h1.n4⟩
      . obtain ⟨jk,g1,g2,g3⟩:=h1.rows k hk;exact ⟨jk,by rw [BZ,if_neg (by omega)];exact g1,hs _ _ g2 g3,g3⟩
      . rw [BZ,if_neg (by omega)];exact h1.rest k (by omega) hkl
     have hw2:((τ1.AM jw (BL (AE g.length false))).AM jr (cells.set i (.ms jw g.length 1 4))).blk jw=some (BL (AE g.length false)):=by
      rw [AI,if_neg hjwr,AI,if_pos rfl]
     have hb52:((τ1.AM jw (BL (AE g.length false))).AM jr (cells.set i (.ms jw g.length 1 4))).blk j5=some [.d (.int .i64 i)]:=by
      rw [AI,if_neg f5];exact KE hb5 hjw _
     have hci:(cells.set i (AV.ms jw g.length 1 4))[i]?=some (.ms jw g.length 1 4):=by rw [BZ,if_pos rfl,if_pos (by rw [h1.cl];exact hlt)]
     have hw51:jw≠j5:=fun e=>by rw [e,hb5] at hjw;cases hjw
     have hwn:jw≠j1/\jw≠j3/\jw≠j4:=⟨fun e=>(by rw [e,h1.b1] at hjw;cases hjw),fun e=>(by rw [e,h1.b3] at hjw;cases hjw),fun e=>(by rw [e,h1.b4] at hjw;cases hjw)⟩
     have hrw:∀k jk,k < i->(cells.set i (AV.ms jw g.length 1 4))[k]?=some (.ms jk g.length 1 4)->jk≠jw:=fun k jk hk hc e=>by
      rw [BZ,if_neg (by omega)] at hc;obtain ⟨jk',g1,g2,_⟩:=h1.rows k hk;rw [hc] at g1;cases g1;rw [e,hjw] at g2;cases g2
     have hjw0:=h1.le.none hjw;generalize (τ1.AM jw (BL (AE g.length false))).AM jr (cells.set i (.ms jw g.length 1 4))=τ2 at h2 hw2 hb52 ⊢;clear h1 hb5 hil2 hwr hjw;generalize cells.set i (AV.ms jw g.length 1 4)=cells2 at h2 hci hrw;(repeat' (first|refine ctQ rfl ?_|((first|refine rgQ mxQ ?_|refine cdQ ?_)<;>try simp only [hw1,go_sem])|fail));rintro j6 ⟨hj6,hjb6⟩;obtain ⟨e1,e2,e3,e4,e5,e6⟩:=h2.fresh hj6;have h2b:=(h2.new e1 e2 e3 e4 e5 e6 [.HK]).bt (x:=(1,88)) hjb6;have n56:j5≠j6:=fun e=>by rw [<- e,hb52] at hj6;cases hj6
     have nw6:jw≠j6:=fun e=>by rw [<- e,hw2] at hj6;cases hj6
     have hbt:∀(τ:AH) (x:Nat×TypeId),(τ.Br j6 x).blk=τ.blk:=fun _ _=>rfl;have hb6':((τ2.AM j6 [AV.HK]).Br j6 (1,88)).blk j6=some [.HK]:=by rw [hbt,AI,if_pos rfl]
     have hb53:((τ2.AM j6 [AV.HK]).Br j6 (1,88)).blk j5=some [.d (.int .i64 i)]:=by rw [hbt,AI,if_neg n56];exact hb52
     have hw3:((τ2.AM j6 [AV.HK]).Br j6 (1,88)).blk jw=some (BL (AE g.length false)):=by rw [hbt,AI,if_neg nw6];exact hw2
     generalize (τ2.AM j6 [AV.HK]).Br j6 (1,88)=τ3 at h2b hb6' hb53 hw3 ⊢;clear hbt h2 hw2 hb52 hj6 hjb6;have h3:=h2b.new e1 e2 e3 e4 e5 e6 [.fn 87 [] [.gp j4 0,.gp j5 0,.gp j1 0,.gp j6 0]];replace hb53:(τ3.AM j6 [.fn 87 [] [.gp j4 0,.gp j5 0,.gp j1 0,.gp j6 0]]).blk j5=some [.d (.int .i64 i)]:=by rw [AI,if_neg n56];exact hb53
     replace hw3:(τ3.AM j6 [.fn 87 [] [.gp j4 0,.gp j5 0,.gp j1 0,.gp j6 0]]).blk jw=some (BL (AE g.length false)):=by rw [AI,if_neg nw6];exact hw3
     have hb6:(τ3.AM j6 [.fn 87 [] [.gp j4 0,.gp j5 0,.gp j1 0,.gp j6 0]]).blk j6=some [.fn 87 [] [.gp j4 0,.gp j5 0,.gp j1 0,.gp j6 0]]:=BQ;have hcb:CB g j1 j4 j5 j6 jr jw i cells2 (AE g.length false) _:=⟨h3.b1,h3.b4,hb53,hb6,h3.br,h3.cl,hci,hlt,hw3,by simp,hwn.1,hwn.2.2,hw51,nw6,hjwr⟩;have hcl:=AFZ g hg hgl hll j1 j4 j5 j6 jr jw i cells2 _ (AE g.length false) i _ rfl hlt hcb;(repeat' (first|refine ctQ rfl ?_|((first|refine rgQ mxQ ?_|refine cdQ ?_|(refine ⟨_,[],[.gp j4 0,.gp j5 0,.gp j1 0,.gp j6 0],rfl,by kernel_rfl,AJ.mk rfl hcl ?_⟩;rintro _ _ ⟨R2,rfl,rfl,hd⟩))<;>try simp only [hb6',FC,hb6,hb53,hw1,go_sem])|fail));have hR:=AJT hg hlt hd;subst hR;refine ih (i+1,cells2,_) ⟨by simp only;omega,?_⟩ (by simp only;omega);have h4:=h3.new hjw0 hwn.1 hwn.2.1 hwn.2.2 hjwr hrw (BL (u0 g i));refine ⟨h4.b1,h4.b3,h4.b4,h4.br,h4.cl,fun k hk=>?_,h4.rest,h4.le,h4.nr,h4.n1,h4.n3,h4.n4⟩;by_cases hki:k=i
     . subst hki;exact ⟨jw,hci,if_pos rfl,hjwr⟩
     . exact h4.rows k (by omega)
 . have hie:i=g.length:=by omega
   subst hie;have:=hfin cells τ h;(repeat' (refine wQ mxQ rfl ?_<;>try simp only [Bk hlt,go_sem]));exact this
end Go.Ab
namespace Go.Ab
def lsB (ls:List Bool) (k:Nat):Bool:=ls.getD k false
noncomputable def HJ (g:List (List Nat)) (i k:Nat):Bool:=rB g i k&&rB g k i
noncomputable def Z6 (g:List (List Nat)) (i:Nat):List Nat:=(Au g.length).filter (HJ g i)
noncomputable def m8 (g:List (List Nat)) (ls:List Bool) (i:Nat):Bool:=(Au g.length).all fun j=>!((rB g i j&& !rB g j i)&& !lsB ls j)
noncomputable def bY (g:List (List Nat)) (i:Nat) (ls:List Bool) (j:Nat):List Bool:=(Au g.length).map fun k=>lsB ls k||(decide (k < j)&&HJ g i k)
noncomputable def X5 (g:List (List Nat)) (i:Nat) (ls:List Bool):List Bool:=bY g i ls g.length
noncomputable def ZS (g:List (List Nat)) (ls:List Bool) (i:Nat):Bool:=!lsB ls i&&m8 g ls i
noncomputable def uN (g:List (List Nat)) (ls:List Bool):Option Nat:=(Au g.length).find? (ZS g ls)
noncomputable def Kq (g:List (List Nat)):Nat->List Bool->List (List Nat)
 |0,_=>[]
 |f+1,ls=>match uN g ls with
  |none=>[]
  |some i=>Z6 g i::Kq g f (X5 g i ls)
noncomputable def UQ (g:List (List Nat)):List (List Nat):=Kq g (g.length+1) (AE g.length false)
theorem J4 (g:List (List Nat)) (i:Nat) (ls:List Bool) (j:Nat):(bY g i ls j).length=g.length:=by simp [bY]
theorem PD (g:List (List Nat)) (i:Nat) (ls:List Bool) (j:Nat) {k:Nat} (hk:k < g.length):(bY g i ls j)[k]?=some (lsB ls k||(decide (k < j)&&HJ g i k)):=by
 rw [bY,Ao,Dm hk];rfl
theorem ADY {g:List (List Nat)} {i:Nat} {ls:List Bool} (h:ls.length=g.length):bY g i ls 0=ls:=by
 apply Ev;intro k;by_cases hk:k < g.length
 . rw [PD g i ls 0 hk];have:ls[k]?=some ls[k]:=by simp [h,hk]
   rw [this];simp [lsB,A6,this]
 . rw [BY (by rw [J4];omega),BY (by omega)]
theorem ADX {g:List (List Nat)} {i:Nat} {ls:List Bool} {j:Nat} (hj:j < g.length):bY g i ls (j+1)=if HJ g i j then (bY g i ls j).set j true else bY g i ls j:=by
 apply Ev;intro k;by_cases hk:k < g.length
 . rw [PD g i ls _ hk];cases hm:HJ g i j with
   |true=>
    rw [if_pos rfl,BZ];by_cases hjk:j=k
    . subst hjk;rw [if_pos rfl,if_pos (by rw [J4];exact hj)];simp [hm]
    . rw [if_neg hjk,PD g i ls _ hk];have:decide (k < j+1)=decide (k < j):=decide_eq_decide.2 (by omega);rw [this]
   |false=>
    rw [if_neg (by simp),PD g i ls _ hk];by_cases hjk:j=k
    . subst hjk;simp [hm]
    . have:decide (k < j+1)=decide (k < j):=decide_eq_decide.2 (by omega);rw [this]
 . have hl:(if HJ g i j=true then (bY g i ls j).set j true else bY g i ls j).length=g.length:=by
    split
    . rw [Kf,J4]
    . rw [J4]
   rw [BY (by rw [J4];omega),BY (by omega)]
theorem ADZ (g:List (List Nat)) (i:Nat):HJ g i i=true:=by
 simp [HJ,WM.2 (Reach.refl i)]
theorem QU {ls:List Bool} {k:Nat} {b:Bool} (h:ls[k]?=some b):lsB ls k=b:=by simp [lsB,A6,h]
theorem AI4:∀ {R R':List Bool} {v:Nat},R'.length=R.length->(∀k:Nat,R[k]?=some true->R'[k]?=some true)->R[v]?=some false->R'[v]?=some true->unm R' < unm R
 |[],R',v,h,hm,hv,_=>by simp at hv
 |b::R,[],v,h,_,_,_=>by simp at h
 |b::R,c::R',0,h,hm,hv,hv'=>by
  simp at hv hv';subst hv;subst hv';have:=AAC (R:=R) (R':=R') (by simpa using h) (fun k hk=>by simpa using hm (k+1) (by simpa using hk));simp [unm] at this ⊢;omega
 |b::R,c::R',v+1,h,hm,hv,hv'=>by
  have:=AI4 (R:=R) (R':=R') (v:=v) (by simpa using h) (fun k hk=>by simpa using hm (k+1) (by simpa using hk)) (by simpa using hv) (by simpa using hv');have h0:=hm 0;cases b<;>cases c<;>simp [unm] at this h0 ⊢<;>omega
theorem ABR {g:List (List Nat)} {i:Nat} {ls:List Bool} (hl:ls.length=g.length) (hi:i < g.length) (h:lsB ls i=false):unm (X5 g i ls) < unm ls:=by
 have hgi:ls[i]?=some false:=by
  have h1:ls[i]?=some ls[i]:=by simp [hl,hi]
  have:=QU h1;rw [h1,<- this,h]
 refine AI4 (v:=i) (by rw [X5,J4,hl]) (fun k hk=>?_) hgi ?_
 . have hkl:k < g.length:=by have:=(AF.1 hk).1;omega
   rw [X5,PD g i ls _ hkl,QU hk];rfl
 . rw [X5,PD g i ls _ hi,h,ADZ];simp [hi]
theorem AKF {p:Nat->Bool} {n i:Nat} (hi:i < n) (hp:p i=true) (hn:∀k,k < i->p k=false):(Au n).find? p=some i:=by
 rw [List.find?_range_eq_some];exact ⟨hp,by simpa using hi,fun j hj=>by simp [hn j hj]⟩
theorem ACT {p:Nat->Bool} {n:Nat} (hn:∀k,k < n->p k=false):(Au n).find? p=none:=by
 rw [P2];intro x hx;rw [Bz] at hx;simp [hn x hx]
end Go.Ab
namespace Go.Ab
structure Ow where
 e:Nat
 s:Nat
 rows:List (List DV)
 v:AV
def Iw (σ0:AH) (l:List Ow) (τ:AH):Prop:=(∀x∈l,C4 σ0 x.e x.s x.rows x.v τ)/\l.Pairwise fun a b=>gG a.v b.v
theorem Iw.perm {σ0 τ:AH} {l m:List Ow} (h:Iw σ0 l τ) (hp:l.Perm m):Iw σ0 m τ:=
 ⟨fun x hx=>h.1 x (hp.mem_iff.2 hx),(hp.pairwise_iff (fun hab=>hab.symm)).1 h.2⟩
theorem Iw.head {σ0 τ:AH} {l:List Ow} {x:Ow} (h:Iw σ0 (x::l) τ):C4 σ0 x.e x.s x.rows x.v τ:=h.1 x (AW ..)
theorem Iw.tail {σ0 τ:AH} {l:List Ow} {x:Ow} (h:Iw σ0 (x::l) τ):Iw σ0 l τ:=⟨fun y hy=>h.1 y (AU _ hy),(K4.1 h.2).2⟩
theorem Iw.nil {σ0 τ:AH} {l:List Ow} (h:Iw σ0 l τ) (hle:σ0.le τ) (e s:Nat):Iw σ0 (⟨e,s,[],.Af⟩::l) τ:=
 ⟨fun y hy=>by
   rcases As.1 hy with rfl|hy
   . exact ⟨⟨τ,rfl,hle⟩,hle,rfl,rfl,rfl,rfl,fun _=>rfl,rfl,rfl⟩
   . exact h.1 y hy,K4.2 ⟨fun y _=>wI y.v,h.2⟩⟩
theorem E6.AEA {cx:Cx} {K:Fm->Lm->AH->Prop} {F:Fm} {L:Lm} {σ σ0:AH} {d:Option Nat} {e size bytes:Nat} {s x:AV} {rows srows:List (List DV)} {l:List Ow} (ho:Iw σ0 (⟨e,size,rows,s⟩::l) σ) (h2:x.rows=some srows)
 (h3:∀r∈srows,r.length=size) (h4:rows.length+srows.length<=1000000000) (hb:bytes<=10000)
 (h:∀v σ',Iw σ0 (⟨e,size,rows++srows,v⟩::l) σ'->(∀i,σ'.blk i=σ.blk i)->K (BI d v F) L σ'):E6 e size bytes s x d K F L σ:=
 E6.AQ9 (cx:=cx) ho.head h2 h3 h4 hb (fun v σ' h1 hbk hk=>h v σ' ⟨fun y hy=>by
  rcases As.1 hy with rfl|hy
  . exact h1
  . exact (hk _ _ _ _ (ho.tail.1 y hy) ((K4.1 ho.2).1 y hy)).1,
  K4.2 ⟨fun y hy=>(hk _ _ _ _ (ho.tail.1 y hy) ((K4.1 ho.2).1 y hy)).2,(K4.1 ho.2).2⟩⟩ hbk)
end Go.Ab
namespace Go.Ab
open Go.Proofs
theorem Zu {g:List (List Nat)} {i k:Nat} (hk:k < g.length):(u0 g i)[k]?=some (rB g i k):=by
 rw [u0,Ao,Dm hk];rfl
theorem RS.at {σ τ:AH} {g:List (List Nat)} {j1 j3 j4 jr:Nat} {cells:List AV} (h:RS σ g j1 j3 j4 jr g.length g.length cells τ) {i:Nat} (hi:i < g.length):∃ji,cells[i]?=some (.ms ji g.length 1 4)/\τ.blk ji=some (BL (u0 g i)):=by
 obtain ⟨ji,h1,h2,_⟩:=h.rows i hi;exact ⟨ji,h1,h2⟩
theorem ilT {i n:Nat} (h:i < n):((i:Int) < (n:Int))=True:=by simp only [eq_iff_iff,iff_true];omega
theorem AF0 (g:List (List Nat)) (hgl:g.length<=1000) (j1 j3 j4 jr j7 jl:Nat) (σ τ:AH) (cells:List AV) (h:RS σ g j1 j3 j4 jr g.length g.length cells τ) (ls:List Bool) (hls:ls.length=g.length) (h7:τ.blk j7=some [.ms jl g.length 1 4]) (hl:τ.blk jl=some (BL ls)) (i:Nat) (hi:i < g.length):
 AS Tzp 88 [.d (.int .i64 i),.gp j3 0,.gp j4 0,.gp j7 0] τ (fun v σ'=>v= .d (.bool (m8 g ls i))/\σ'=τ):=by
 obtain ⟨ji,hci,hbi⟩:=h.at hi;have hil:=ilT hi;refine Vm (by simp) ?_;rw [aO];(repeat' (refine wQ mxQ rfl ?_<;>try simp only [h.b3,go_sem]));refine Run.BB ?_;refine Run.BG ((fun (a0:AV) (a2:AV) (a3:AV) (a7:AV)=>fun (j:Nat)=>put 0 a0 (put 2 a2 (put 3 a3 (put 7 a7 (put 8 (.d (.int .i64 j)) U))))) _ _ _ _) (fun _=>E) (fun _=>τ) (fun j=>j<=g.length/\∀k,k < j->((rB g i k&& !rB g k i)&& !lsB ls k)=false) (fun j=>g.length - j) ?_ 0 ⟨by simp,fun k hk=>by omega⟩;rintro j ⟨hj,hno⟩ ih;by_cases hlt:j < g.length
 . obtain ⟨jj,hcj,hbj⟩:=h.at hlt;have hjl:=ilT hlt;have hw1:=A7 (show j+1<=9000000000000000000 by omega);have e1:=Gs (Zu (i:=i) hlt);have e2:=Gs (Zu (i:=j) hi);obtain ⟨bl,hbl⟩:=Ak (show j < ls.length by omega);have e3:=Gs hbl;rw [<- QU hbl] at e3
   have hnx:((rB g i j&& !rB g j i)&& !lsB ls j)=false->∀k,k < j+1->((rB g i k&& !rB g k i)&& !lsB ls k)=false:=fun h0 k hk=>by
    rcases Cl k j with h|h
    . exact hno k h
    . have:k=j:=by omega
      subst this;exact h0
   cases c1:rB g i j with
   |false=>
    rw [c1] at e1;(repeat' (refine wQ mxQ rfl ?_<;>try simp only [Ag hlt,h.b4,h.br,hci,hbi,hcj,hbj,hil,hjl,e1,hw1,A2,go_sem]));exact ih (j+1) ⟨by omega,hnx (by rw [c1];rfl)⟩ (by omega)
   |true=>
   rw [c1] at e1;cases c2:rB g j i with
   |true=>
    rw [c2] at e2;(repeat' (refine wQ mxQ rfl ?_<;>try simp only [Ag hlt,h.b4,h.br,hci,hbi,hcj,hbj,hil,hjl,e1,e2,hw1,A2,go_sem]));exact ih (j+1) ⟨by omega,hnx (by rw [c1,c2];rfl)⟩ (by omega)
   |false=>
   rw [c2] at e2;cases c3:lsB ls j with
   |true=>
    rw [c3] at e3;(repeat' (refine wQ mxQ rfl ?_<;>try simp only [Ag hlt,h.b4,h.br,hci,hbi,hcj,hbj,h7,hl,hil,hjl,e1,e2,e3,hw1,A2,go_sem]));exact ih (j+1) ⟨by omega,hnx (by rw [c1,c2,c3];rfl)⟩ (by omega)
   |false=>
    rw [c3] at e3
    have hr:m8 g ls i=false:=by
     rw [m8,C9];intro ha;rw [Aq] at ha;have:=ha j (Bz.2 hlt);rw [c1,c2,c3] at this;cases this
    (repeat' ((first|refine wQ mxQ rfl ?_|refine Run.qR IU ?_|fail)<;>try simp only [Ag hlt,h.b4,h.br,hci,hbi,hcj,hbj,h7,hl,hil,hjl,e1,e2,e3,hw1,A2,go_sem]));rw [hr]
 . have hr:m8 g ls i=true:=by
    rw [m8,Aq];intro k hk;rw [Bz] at hk;rw [hno k (by omega)];rfl
   (repeat' ((first|refine wQ mxQ rfl ?_|refine Run.qR IU ?_|fail)<;>try simp only [Bk hlt,go_sem]));rw [hr]
theorem RS.tok {σ τ τ':AH} {g:List (List Nat)} {j1 j3 j4 jr i m:Nat} {cells:List AV} (h:RS σ g j1 j3 j4 jr i m cells τ) (hb:∀q,τ'.blk q=τ.blk q) (hle:σ.le τ'):RS σ g j1 j3 j4 jr i m cells τ':=
 ⟨(hb j1).trans h.b1,(hb j3).trans h.b3,(hb j4).trans h.b4,(hb jr).trans h.br,h.cl,fun k hk=>by
   obtain ⟨jk,h1,h2,h3⟩:=h.rows k hk;exact ⟨jk,h1,(hb jk).trans h2,h3⟩,h.rest,hle,h.nr,h.n1,h.n3,h.n4⟩
theorem Iw.set {σ0 τ:AH} {l:List Ow} (h:Iw σ0 l τ) {j:Nat} (hj:σ0.blk j=none) (cs:List AV):Iw σ0 l (τ.AM j cs):=⟨fun x hx=>(h.1 x hx).set hj cs,h.2⟩
structure LS (σ:AH) (g:List (List Nat)) (j1 j3 j4 jr j7 jl:Nat) (cells:List AV) (ls:List Bool) (τ:AH):Prop where
 rs:RS σ g j1 j3 j4 jr g.length g.length cells τ
 b7:τ.blk j7=some [.ms jl g.length 1 4]
 bl:τ.blk jl=some (BL ls)
 ll:ls.length=g.length
 nl:σ.blk jl=none
 n1:jl≠j1
 n3:jl≠j3
 n4:jl≠j4
 nr:jl≠jr
 n7:jl≠j7
 nk:∀k jk,k < g.length->cells[k]?=some (.ms jk g.length 1 4)->jk≠jl
theorem LS.set {σ:AH} {g:List (List Nat)} {j1 j3 j4 jr j7 jl:Nat} {cells:List AV} {ls:List Bool} {τ:AH} (h:LS σ g j1 j3 j4 jr j7 jl cells ls τ) (ls':List Bool) (hl:ls'.length=g.length):LS σ g j1 j3 j4 jr j7 jl cells ls' (τ.AM jl (BL ls')):=
 ⟨h.rs.new h.nl h.n1 h.n3 h.n4 h.nr h.nk _,by rw [AI,if_neg (A5 h.n7)];exact h.b7,BQ,hl,h.nl,h.n1,h.n3,h.n4,h.nr,h.n7,h.nk⟩
theorem LS.tok {σ:AH} {g:List (List Nat)} {j1 j3 j4 jr j7 jl:Nat} {cells:List AV} {ls:List Bool} {τ τ':AH} (h:LS σ g j1 j3 j4 jr j7 jl cells ls τ) (hb:∀q,τ'.blk q=τ.blk q) (hle:σ.le τ'):LS σ g j1 j3 j4 jr j7 jl cells ls τ':=
 ⟨h.rs.tok hb hle,(hb j7).trans h.b7,(hb jl).trans h.bl,h.ll,h.nl,h.n1,h.n3,h.n4,h.nr,h.n7,h.nk⟩
theorem AJQ (Q:AV->AH->Prop) (rest:List CI) (g:List (List Nat)) (hgl:g.length<=1000) (j1 j3 j4 jr j7 jl:Nat) (σ τ:AH) (cells:List AV) (ls:List Bool) (h:LS σ g j1 j3 j4 jr j7 jl cells ls τ) (i:Nat) (hi:i < g.length) (fnv outv:AV) (orows:List (List DV)) (ho:Iw σ [⟨74,1,orows,outv⟩] τ) (hfn:∀k,fnv.BT k=false)
 (hfin:∀gv τ',LS σ g j1 j3 j4 jr j7 jl cells (X5 g i ls) τ'->Iw σ [⟨3,1,(Z6 g i).map CC,gv⟩,⟨74,1,orows,outv⟩] τ'->Run Bx Q rest (put 3 (.gp j3 0) (put 4 (.gp j4 0) (put 7 (.gp j7 0) (put 8 fnv (put 9 outv (put 10 (.d (.int .i64 i)) (put 11 gv (put 50 (.d (.int .i64 g.length)) (put 51 (.d (.int .i64 g.length)) (put 52 (.d (.bool false)) U)))))))))) E τ'):
 Run Bx Q (.code (.loop Hi)::.blk 4::rest) (put 3 (.gp j3 0) (put 4 (.gp j4 0) (put 7 (.gp j7 0) (put 8 fnv (put 9 outv (put 10 (.d (.int .i64 i)) (put 11 .Af (put 50 (.d (.int .i64 g.length)) (put 51 (.d (.int .i64 0)) U))))))))) E τ:=by
 have hol:=fun k=>ho.head.BT k;simp only at hol;have hil:=ilT hi;refine Run.BB ?_
 refine Run.BG ((fun (a3:AV) (a4:AV) (a7:AV) (a8:AV) (a9:AV) (a10:AV) (a50:AV)=>fun (y:Nat×AV×AH)=>put 3 a3 (put 4 a4 (put 7 a7 (put 8 a8 (put 9 a9 (put 10 a10 (put 11 (y.2.1) (put 50 a50 (put 51 (.d (.int .i64 y.1)) U))))))))) _ _ _ _ _ _ _) (fun _=>E) (fun y=>y.2.2)
  (fun y=>y.1<=g.length/\LS σ g j1 j3 j4 jr j7 jl cells (bY g i ls y.1) y.2.2/\Iw σ [⟨3,1,((Au y.1).filter (HJ g i)).map CC,y.2.1⟩,⟨74,1,orows,outv⟩] y.2.2) (fun y=>g.length - y.1) ?_ (0,.Af,τ) ⟨by simp,by rw [ADY h.ll];exact h,ho.nil h.rs.le _ _⟩
 rintro ⟨j,gv,τ⟩ ⟨hj,hL,hO⟩ ih;simp only at hj hL hO;have hgo:=hO.head;simp only at hgo;by_cases hlt:j < g.length
 . obtain ⟨ji,hci,hbi⟩:=hL.rs.at hi;obtain ⟨jj,hcj,hbj⟩:=hL.rs.at hlt;have hjl:=ilT hlt;have hw1:=A7 (show j+1<=9000000000000000000 by omega);have e1:=Gs (Zu (i:=i) hlt);have e2:=Gs (Zu (i:=j) hi);have hst:=ADX (i:=i) (ls:=ls) hlt
   have hfs:(Au (j+1)).filter (HJ g i)=if HJ g i j then (Au j).filter (HJ g i)++[j] else (Au j).filter (HJ g i):=by
    rw [List.range_succ,P1];cases hm:HJ g i j<;>simp [hm]
   have hih:=fun gv' τ' h1 h2=>ih (j+1,gv',τ') ⟨by simp only;omega,h1,h2⟩ (by simp only;omega);simp only at hih;rw [hst,hfs] at hih;cases c1:rB g i j with
   |false=>
    have hm:HJ g i j=false:=by simp [HJ,c1]
    rw [c1] at e1;rw [hm] at hih;(repeat' (refine wQ mxQ rfl ?_<;>try simp only [Ag hlt,hL.rs.b4,hL.rs.br,hci,hbi,hcj,hbj,hil,hjl,e1,hw1,A2,hol,hgo.BT,hfn,go_sem]));exact hih _ _ hL hO
   |true=>
   rw [c1] at e1;cases c2:rB g j i with
   |false=>
    have hm:HJ g i j=false:=by simp [HJ,c2]
    rw [c2] at e2;rw [hm] at hih;(repeat' (refine wQ mxQ rfl ?_<;>try simp only [Ag hlt,hL.rs.b4,hL.rs.br,hci,hbi,hcj,hbj,hil,hjl,e1,e2,hw1,A2,hol,hgo.BT,hfn,go_sem]));exact hih _ _ hL hO
   |true=>
    have hm:HJ g i j=true:=by simp [HJ,c1,c2]
    rw [c2] at e2;rw [hm] at hih;simp only [if_true] at hih
    have hflen:(((Au j).filter (HJ g i)).map CC).length<=1000:=by
     have:=L3 (HJ g i) (Au j);rw [List.length_range] at this;rw [AA];omega
    have hjm:j < (bY g i ls j).length:=by rw [J4];exact hlt
    have hb7:=hL.b7;have hbl:=hL.bl;have w1:=nR true hjm;have d1:=sL hjm;(repeat' ((first|refine wQ mxQ rfl ?_|(refine E6.AEA (cx:=Bx) hO rfl (by simp) (by simp only [A0,By];omega) (by decide) (fun v2 τ2 ho2 hbk=>?_))|fail)<;>try simp only [Ag hlt,hL.rs.b4,hL.rs.br,hci,hbi,hcj,hbj,hil,hjl,e1,e2,hw1,A2,hol,hgo.BT,hfn,go_sem]));have hL2:=hL.tok hbk ho2.head.le;have h2l:=ho2.head.BT;simp only at h2l;simp only [hL2.b7,hL2.bl,hjl,w1,d1,A2,go_sem];(repeat' (refine wQ mxQ rfl ?_<;>try simp only [hL2.b7,hL2.bl,hjl,w1,d1,hw1,A2,hol,h2l,hfn,go_sem]))
    exact hih _ _ (hL2.set _ (by rw [Kf,J4])) (by
     rw [B2];exact ho2.set hL.nl _)
 . have hje:j=g.length:=by omega
   subst hje;have:=hfin gv τ hL hO;(repeat' (refine wQ mxQ rfl ?_<;>try simp only [Bk hlt,hol,hgo.BT,hfn,go_sem]));exact this
theorem AJR (Q:AV->AH->Prop) (rest:List CI) (g:List (List Nat)) (hgl:g.length<=1000) (j1 j3 j4 jr j7 jl:Nat) (σ τ:AH) (cells:List AV) (h:LS σ g j1 j3 j4 jr j7 jl cells (AE g.length false) τ)
 (hfin:∀outv τ',σ.le τ'->C4 σ 74 1 ((UQ g).map WO) outv τ'->Run Bx Q rest (put 3 (.gp j3 0) (put 4 (.gp j4 0) (put 7 (.gp j7 0) (put 8 (.fn 88 [] [.gp j3 0,.gp j4 0,.gp j7 0]) (put 9 outv (put 10 (.d (.int .i64 g.length)) (put 37 (.d (.bool false)) U))))))) E τ'):
 Run Bx Q (.code (.loop La)::.blk 2::rest) (put 3 (.gp j3 0) (put 4 (.gp j4 0) (put 7 (.gp j7 0) (put 8 (.fn 88 [] [.gp j3 0,.gp j4 0,.gp j7 0]) (put 9 .Af (put 10 (.d (.int .i64 0)) U)))))) E τ:=by
 refine Run.BB ?_
 refine Run.BG ((fun (a3:AV) (a4:AV) (a7:AV) (a8:AV)=>fun (y:Nat×List Bool×List (List Nat)×Nat×AV×AH)=>put 3 a3 (put 4 a4 (put 7 a7 (put 8 a8 (put 9 (y.2.2.2.2.1) (put 10 (.d (.int .i64 y.1)) U)))))) _ _ _ _) (fun _=>E) (fun y=>y.2.2.2.2.2)
  (fun y=>y.1<=g.length/\LS σ g j1 j3 j4 jr j7 jl cells y.2.1 y.2.2.2.2.2/\C4 σ 74 1 (y.2.2.1.map WO) y.2.2.2.2.1 y.2.2.2.2.2/\UQ g=y.2.2.1++Kq g y.2.2.2.1 y.2.1/\unm y.2.1 < y.2.2.2.1/\y.2.2.1.length+unm y.2.1<=g.length/\∀k,k < y.1->ZS g y.2.1 k=false)
  (fun y=>unm y.2.1 * (g.length+1)+(g.length - y.1)) ?_ (0,AE g.length false,[],g.length+1,.Af,τ) ⟨by simp,h,⟨⟨τ,rfl,h.rs.le⟩,h.rs.le,rfl,rfl,rfl,rfl,fun _=>rfl,rfl,rfl⟩,rfl,by simp [unm],by simp [unm],fun k hk=>by simp only at hk;omega⟩
 clear h;rintro ⟨i,ls,out,f,outv,τ⟩ ⟨hi,hL,ho,hcp,hf,hol,hno⟩ ih;simp only at hi hL ho hcp hf hol hno;by_cases hlt:i < g.length
 . have hil:=ilT hlt;have hw1:=A7 (show i+1<=9000000000000000000 by omega);obtain ⟨b,hb⟩:=Ak (show i < ls.length by rw [hL.ll];exact hlt);have eb:=Gs hb;rw [<- QU hb] at eb
   have hskip:ZS g ls i=false->_:=fun hc=>ih (i+1,ls,out,f,outv,τ) ⟨by simp only;omega,hL,ho,hcp,hf,hol,fun k hk=>by
    simp only at hk;rcases Cl k i with h|h
    . exact hno k h
    . have:k=i:=by omega
      subst this;exact hc⟩ (by simp only;omega)
   simp only at hskip;cases hb1:lsB ls i with
   |true=>
    rw [hb1] at eb;(repeat' (refine wQ mxQ rfl ?_<;>try simp only [Ag hlt,hL.rs.b3,hL.b7,hL.bl,hil,eb,hw1,A2,ho.BT,go_sem]));exact hskip (by simp [ZS,hb1])
   |false=>
   rw [hb1] at eb;have hrd:=AF0 g hgl j1 j3 j4 jr j7 jl σ τ cells hL.rs ls hL.ll hL.b7 hL.bl i hlt;cases hr:m8 g ls i with
   |false=>
    rw [hr] at hrd;(repeat' ((first|refine wQ mxQ rfl ?_|(refine ⟨_,[],[.gp j3 0,.gp j4 0,.gp j7 0],rfl,by kernel_rfl,AJ.det hrd ?_⟩)|fail)<;>try simp only [Ag hlt,hL.rs.b3,hL.b7,hL.bl,hil,eb,hw1,A2,ho.BT,go_sem]));exact hskip (by simp [ZS,hr])
   |true=>
    rw [hr] at hrd;have hcan:ZS g ls i=true:=by simp [ZS,hb1,hr]
    have hnx:uN g ls=some i:=AKF hlt hcan hno;obtain ⟨f,rfl⟩:∃f',f=f'+1:=⟨f - 1,by omega⟩
    have hcp2:UQ g=(out++[Z6 g i])++Kq g f (X5 g i ls):=by
     rw [hcp,Kq,hnx];simp
    have hum:=ABR hL.ll hlt hb1;have hm1:IntKind.i64.wrap ((-1:Int)+1)=((0:Nat):Int):=by decide
    (repeat' ((first|refine wQ mxQ rfl ?_|(refine ⟨_,[],[.gp j3 0,.gp j4 0,.gp j7 0],rfl,by kernel_rfl,AJ.det hrd ?_⟩)|fail)<;>try simp only [Ag hlt,hL.rs.b3,hL.b7,hL.bl,hil,eb,hw1,A2,ho.BT,go_sem]));refine AJQ Q _ g hgl j1 j3 j4 jr j7 jl σ τ cells ls hL i hlt _ outv (out.map WO) ⟨fun x hx=>by simp only [A3] at hx;subst hx;exact ho,List.pairwise_singleton _ _⟩ (fun _=>rfl) (fun gv τ2 hL2 hO2=>?_);have hg2:=hO2.head;have ho2:=hO2.tail.head;simp only at hg2 ho2;(repeat' ((first|refine wQ mxQ rfl ?_|(refine E6.own ho2 rfl (by simp) (by simp;omega) (by decide) (fun v4 τ4 ho4 hbk4=>?_))|fail)<;>try simp only [hm1,ho2.BT,hg2.BT,hg2.cell,hg2.cells,hg2.dv,hg2.BF,A2,go_sem]));(repeat' (refine wQ mxQ rfl ?_<;>try simp only [hm1,ho4.BT,go_sem]));refine ih (0,X5 g i ls,out++[Z6 g i],f,v4,τ4) ⟨by simp,hL2.tok hbk4 ho4.le,by simp only [B2];exact ho4,hcp2,by simp only;omega,by simp only [A1,A0,By];omega,fun k hk=>by simp only at hk;omega⟩ ?_;simp only;have:(unm (X5 g i ls)+1) * (g.length+1)<=unm ls * (g.length+1):=Bp _ hum;rw [NN] at this;omega
 . have hie:i=g.length:=by omega
   subst hie;obtain ⟨f,rfl⟩:∃f',f=f'+1:=⟨f - 1,by omega⟩;have hnx:uN g ls=none:=ACT hno;rw [Kq,hnx,BX] at hcp;have:=hfin outv τ ho.le (by rw [hcp];exact ho);(repeat' (refine wQ mxQ rfl ?_<;>try simp only [Bk hlt,hL.rs.b3,ho.BT,go_sem]));exact this
end Go.Ab
namespace Go.Ab
open Go.Proofs
theorem AHK (n:Nat):(AE n [AV.Af]).flatten=AE n AV.Af:=by
 induction n with
 |zero=>rfl
 |succ n ih=>rw [BV,BK,ih];rfl
theorem Xg (g:List (List Nat)) (hg:ZE g) (hgl:g.length<=1000) (hll:∀l∈g,l.length<=1000) (σ:AH):
 AS Tzp 52 [.d (.sl (g.map WO))] σ (fun v σ'=>v= .d (.sl ((UQ g).map WO))/\σ'=σ):=by
 refine Y5 (by simp) ?_;rw [Bs];generalize hQ:(fun (v:AV) (σ':AH)=>v= .d (.sl ((UQ g).map WO))/\σ'=σ)=Q;have hok:Q (.d (.sl ((UQ g).map WO))) σ:=by rw [<- hQ];exact ⟨rfl,rfl⟩
 clear hQ;have hbt:∀(τ:AH) (j:Nat) (x:Nat×TypeId) (q:Nat),(τ.Br j x).blk q=τ.blk q:=fun _ _ _ _=>rfl;(repeat' (first|refine ctQ rfl ?_|((first|refine rgQ mxQ ?_|refine cdQ ?_)<;>try simp only [go_sem])|fail));intro j1 hj1;have hle1:=CF (cs:=[AV.d (.sl (g.map WO))]) hj1;have hb1:(σ.AM j1 [AV.d (.sl (g.map WO))]).blk j1=some [AV.d (.sl (g.map WO))]:=BQ;generalize σ.AM j1 [AV.d (.sl (g.map WO))]=τ1 at hle1 hb1 ⊢;(repeat' (first|refine ctQ rfl ?_|((first|refine rgQ mxQ ?_|refine cdQ ?_)<;>try simp only [hb1,AA,go_sem])|fail));rintro j3 ⟨hj3,hjb3⟩;have hj30:=hle1.none hj3;have n13:j1≠j3:=fun e=>by rw [<- e,hb1] at hj3;cases hj3
 have hle3:σ.le (((τ1.AM j3 [AV.d (.int .i64 0)]).Br j3 (1,3)).AM j3 [.d (.int .i64 g.length)]):=Db (Zg (Db hle1 hj30) hjb3) hj30;have hb13:(((τ1.AM j3 [AV.d (.int .i64 0)]).Br j3 (1,3)).AM j3 [.d (.int .i64 g.length)]).blk j1=some [AV.d (.sl (g.map WO))]:=by rw [AI,if_neg n13,hbt,AI,if_neg n13];exact hb1
 have hb3:(((τ1.AM j3 [AV.d (.int .i64 0)]).Br j3 (1,3)).AM j3 [.d (.int .i64 g.length)]).blk j3=some [.d (.int .i64 g.length)]:=BQ;simp only [hbt,AI,go_sem];generalize ((τ1.AM j3 [AV.d (.int .i64 0)]).Br j3 (1,3)).AM j3 [AV.d (.int .i64 g.length)]=τ3 at hle3 hb13 hb3 ⊢;clear hb1 hle1;(repeat' ((first|refine wQ mxQ rfl ?_|(refine Nz.mk (n:=g.length) (by omega) (by omega) (fun jr hjr=>?_))|fail)<;>try simp only [hb3,AA,go_sem]));rw [AHK];have hjr0:=hle3.none hjr;have nr1:jr≠j1:=fun e=>by rw [e,hb13] at hjr;cases hjr
 have nr3:jr≠j3:=fun e=>by rw [e,hb3] at hjr;cases hjr
 rintro j4 ⟨hj4,hjb4⟩;replace hj4:(τ3.AM jr (AE g.length AV.Af)).blk j4=none:=by rw [AI];exact hj4
 have hle4:=Db (cs:=AE g.length AV.Af) hle3 hjr0;have hb14:=KE hb13 hjr (AE g.length AV.Af);have hb34:=KE hb3 hjr (AE g.length AV.Af);have hbr:(τ3.AM jr (AE g.length AV.Af)).blk jr=some (AE g.length AV.Af):=BQ;generalize τ3.AM jr (AE g.length AV.Af)=τ4 at hle4 hb14 hb34 hbr hj4 hjb4 ⊢;clear hb13 hb3 hle3 hjr;have hj40:=hle4.none hj4;have n14:j1≠j4:=fun e=>by rw [<- e,hb14] at hj4;cases hj4
 have n34:j3≠j4:=fun e=>by rw [<- e,hb34] at hj4;cases hj4
 have nr4:jr≠j4:=fun e=>by rw [<- e,hbr] at hj4;cases hj4
 have hrs:RS σ g j1 j3 j4 jr 0 0 (AE g.length AV.Af) (((τ4.AM j4 [AV.Af]).Br j4 (1,173)).AM j4 [AV.ms jr g.length 1 92]):=
  ⟨by rw [AI,if_neg n14,hbt,AI,if_neg n14];exact hb14,by rw [AI,if_neg n34,hbt,AI,if_neg n34];exact hb34,BQ,by rw [AI,if_neg nr4,hbt,AI,if_neg nr4];exact hbr,by simp,fun k hk=>by omega,fun k _ hk=>by simp [hk],Db (Zg (Db hle4 hj40) hjb4) hj40,hjr0,nr1,nr3,nr4⟩
 simp only [hbt,AI,go_sem];generalize ((τ4.AM j4 [AV.Af]).Br j4 (1,173)).AM j4 [AV.ms jr g.length 1 92]=τ5 at hrs ⊢;clear hle4 hb14 hb34 hbr hj4 hjb4;(repeat' (refine wQ mxQ rfl ?_<;>try simp only [hrs.b4,hrs.b3,hrs.b1,go_sem]));refine AJP Q _ g hg hgl hll j1 j3 j4 jr σ τ5 _ hrs (fun cells τ6 hrs=>?_);(repeat' ((first|refine wQ mxQ rfl ?_|(refine Nz.mk (n:=g.length) (by omega) (by omega) (fun jl hjl=>?_))|fail)<;>try simp only [hrs.b3,go_sem]));rw [Wd];obtain ⟨f1,f2,f3,f4,f5,f6⟩:=hrs.fresh hjl;have hrs2:=hrs.new f1 f2 f3 f4 f5 f6 (BL (AE g.length false));rintro j7 ⟨hj7,hjb7⟩;replace hj7:(τ6.AM jl (BL (AE g.length false))).blk j7=none:=by rw [AI];exact hj7
 have hbl:(τ6.AM jl (BL (AE g.length false))).blk jl=some (BL (AE g.length false)):=BQ;generalize τ6.AM jl (BL (AE g.length false))=τ7 at hrs2 hbl hj7 hjb7 ⊢;obtain ⟨e1,e2,e3,e4,e5,e6⟩:=hrs2.fresh hj7;have nl7:jl≠j7:=fun e=>by rw [<- e,hbl] at hj7;cases hj7
 have hrs3:=((hrs2.new e1 e2 e3 e4 e5 e6 [.Af]).bt (x:=(1,92)) hjb7).new e1 e2 e3 e4 e5 e6 [AV.ms jl g.length 1 4]
 have hls:LS σ g j1 j3 j4 jr j7 jl cells (AE g.length false) (((τ7.AM j7 [AV.Af]).Br j7 (1,92)).AM j7 [AV.ms jl g.length 1 4]):=
  ⟨hrs3,BQ,by rw [AI,if_neg nl7,hbt,AI,if_neg nl7];exact hbl,by simp,f1,f2,f3,f4,f5,nl7,f6⟩
 simp only [hbt,AI,go_sem];generalize ((τ7.AM j7 [AV.Af]).Br j7 (1,92)).AM j7 [AV.ms jl g.length 1 4]=τ8 at hls ⊢;clear hrs hrs2 hrs3 hbl hjl hj7 hjb7;(repeat' (refine wQ mxQ rfl ?_<;>try simp only [go_sem]));refine AJR Q _ g hgl j1 j3 j4 jr j7 jl σ τ8 cells hls (fun outv τ9 hle ho=>?_);(repeat' ((first|refine wQ mxQ rfl ?_|(refine Run.CK Ol (σ2:=σ) hle ?_)|fail)<;>try simp only [ho.BT,go_sem]));simp only [ho.BF,ho.plain,go_sem];exact hok
theorem sQ {fs:List FE} {f:FE}:(Xo fs f).length<=fs.length/\∀w∈Xo fs f,w < fs.length:=by
 refine ⟨by rw [Xo];exact Ah (L3 _ _) (by simp),fun w hw=>?_⟩;rw [Xo,XC,Bz] at hw;exact hw.1
theorem sR (p:Pg):ZE (Jt p):=by
 intro l hl w hw;unfold Jt at hl ⊢;split at hl
 . rename_i h;rw [if_pos h,AA];obtain ⟨f,_,rfl⟩:=Ck.1 hl;exact sQ.2 w hw
 . cases hl
theorem cZ (l:List (List Nat)):Og l= .d (.sl (l.map WO)):=rfl
end Go.Ab
namespace Go.Ab
open Go.Proofs
theorem sS (p:Pg):(Jt p).length<=24:=by
 by_cases hc0:(Oh p).1=0
 . have:=(TO hc0).1;unfold Jt;rw [if_pos hc0,AA];exact this
 . unfold Jt;rw [if_neg hc0];simp
theorem p0 (p:Pg):∀l∈Jt p,l.length<=24:=by
 intro l hl;by_cases hc0:(Oh p).1=0
 . have:=(TO hc0).1;unfold Jt at hl;rw [if_pos hc0] at hl;obtain ⟨f,_,rfl⟩:=Ck.1 hl;exact Ah sQ.1 this
 . unfold Jt at hl;rw [if_neg hc0] at hl;cases hl
noncomputable def MQ (p:Pg):List (List Nat):=UQ (Jt p)
theorem fS (p:Pg) (σ:AH) (h:∀d∈p.data,LL d):AS Tzp 26 [pgA p] σ (fun v σ'=>v=Og (MQ p)/\σ'=σ):=by
 have hcl:=fun σ=>kS p σ h;have hco:=fun σ=>Xg (Jt p) (sR p) (Ah (sS p) (by decide)) (fun l hl=>Ah (p0 p l hl) (by decide)) σ;refine iS (by simp) ?_;rw [Bs];rw [MQ,cZ];simp only [cZ] at hcl;obtain ⟨ds,fs⟩:=p;simp only [pgA,Pg.enc,AG,AN] at hcl ⊢;(repeat' ((first|refine wQ mxQ rfl ?_|refine Run.qR Ve ?_|refine AJ.det (hcl _) ?_|refine AJ.det (hco _) ?_|fail)<;>try simp only [go_sem]))
end Go.Ab
namespace Go.Ab
abbrev Nt:=Ty×List Ty
abbrev HQ:=List Sch×List (List Nt)
structure IG where
 s:SS
 en:List (List En)
def igF (G:GC) (st:IG) (f:Nat):IG:=match G.fs[f]? with
 |none=>st
 |some fe=>⟨(Uc G fe (G.ps.getD f []) (G.rs.getD f 0) st.s).s,st.en.set f (Uc G fe (G.ps.getD f []) (G.rs.getD f 0) st.s).en⟩
def ngP (fs:List FE) (ms:List Nat):NGs:=ms.foldl (ngS fs) (ng0 fs.length)
def gcP (fs:List FE) (dt:List Dat) (sch:List Sch) (ms:List Nat):GC:=⟨fs,dt,sch,(ngP fs ms).mem,pgl (ngP fs ms).ps,(ngP fs ms).rs⟩
def ig0 (fs:List FE) (ms:List Nat):IG:=⟨((ngP fs ms).l,false),AE fs.length []⟩
def IF (G:GC) (l:List Nd) (en:List (List En)) (r:HQ) (f:Nat):HQ:=
 let vs:=Cw l (G.ps.getD f []) (G.rs.getD f 0)
 (r.1.set f (QC l (Ct vs) (G.ps.getD f []) (G.rs.getD f 0) vs.length),r.2.set f ((en.getD f []).map (S5 G l (Ct vs))))
def Q4 (fs:List FE) (dt:List Dat) (r:HQ) (ms:List Nat):Except (Int×Nat) HQ:=
 let G:=gcP fs dt r.1 ms
 let st:=ms.foldl (igF G) (ig0 fs ms)
 if st.s.2=true\/iI st.s.1=false then .error (6,ms.headD 0)
                                              else match ms.find? (fun f=>YZ st.s.1 (G.ps.getD f []) (G.rs.getD f 0) (st.en.getD f [])) with
  |some f=>.error (9,f)
  |none=>.ok (ms.foldl (IF G st.s.1 st.en) r)
def cO:Sch:=⟨0,[],.mk 0 0 []⟩
def GJ (fs:List FE) (dt:List Dat):List (List Nat)->HQ->Except (Int×Nat) HQ
 |[],r=>.ok r
 |ms::gs,r=>match Q4 fs dt r ms with
  | .error e=>.error e
  | .ok r'=>GJ fs dt gs r'
noncomputable def IX (p:Pg):Except Dg HQ:=
 if (Oh p).1≠0 then .error (Oh p) else
 match IL p with
 | .error d=>.error d
 | .ok dt=>match GJ p.G7 dt (MQ p) (AE p.G7.length cO,AE p.G7.length []) with
  | .error e=>.error (e.1,(e.2:Int),0)
  | .ok r=>.ok r
structure AMW (fs:List FE) (dn:List Nat) (s:NGs):Prop where
 len:s.mem.length=fs.length/\s.ps.length=fs.length/\s.rs.length=fs.length
 ps:∀q,some q∈s.ps->q.length<=6/\∀a∈q,a < s.l.length
 rs:∀a∈s.rs,a=0\/a < s.l.length
 cell:∀f∈dn,∃q,s.ps[f]?=some (some q)/\q.length=Zp fs f
 nv:∀dt,NV dt s.l
 lo:dn.length<=s.l.length
 hi:s.l.length<=10 * dn.length
theorem AMN {fs:List FE} (hp:∀f∈fs,f.params.length<=6):∀(dn:List Nat) (rest:List Nat) (s:NGs),(∀f∈rest,f < fs.length)->AMW fs dn s->AMW fs (dn++rest) (rest.foldl (ngS fs) s)
 |dn,[],s,_,h=>by simpa using h
 |dn,f::rest,s,hr,h=>by
  have hf:=hr f (AW)
  have hpar:Zp fs f<=6:=by
   obtain ⟨fe,hfe⟩:=Ak hf;simp only [Zp,hfe,Ad,Az];exact hp fe (AD hfe)
  have hl:(Kh (GG s.l (Zp fs f)) 0 0 []).length=s.l.length+Zp fs f+1:=by rw [Hb,KH]
  rw [An,show dn++f::rest=(dn++[f])++rest from by simp];refine AMN hp (dn++[f]) rest _ (fun x hx=>hr x (AU _ hx)) ?_;obtain ⟨l1,l2,l3⟩:=h.len;refine ⟨⟨by simp [ngS,l1],by simp [ngS,l2],by simp [ngS,l3]⟩,fun q hq=>?_,fun a ha=>?_,fun g hg=>?_,fun dt=>((h.nv dt).Y1 _).add (aD dt),?_,?_⟩
  . simp only [ngS,hl] at hq ⊢;rcases aI hq with hq|hq
    . obtain ⟨a,b⟩:=h.ps q hq;exact ⟨a,fun x hx=>by have:=b x hx;omega⟩
    . cases hq;refine ⟨by simp;exact hpar,fun x hx=>?_⟩;rw [List.mem_range'] at hx;obtain ⟨i,h1,h2⟩:=hx;omega
  . simp only [ngS,hl] at ha ⊢;rcases aI ha with ha|ha
    . rcases h.rs a ha with e|e
      . exact .inl e
      . right;omega
    . right;omega
  . simp only [ngS];rw [BZ];split
    . rename_i e;subst e;rw [if_pos (by omega)];exact ⟨_,rfl,by simp⟩
    . rename_i e;rcases AY.1 hg with hg|hg
      . exact h.cell g hg
      . simp only [A3] at hg;exact absurd hg.symm e
  . simp only [ngS,hl,A1,C1];have:=h.lo;omega
  . simp only [ngS,hl,A1,C1];have:=h.hi;omega
theorem ANY {fs:List FE} (hp:∀f∈fs,f.params.length<=6) {ms:List Nat} (hm:∀f∈ms,f < fs.length):AMW fs ms (ngP fs ms):=by
 have:=AMN hp [] ms (ng0 fs.length) hm ⟨⟨by simp [ng0],by simp [ng0],by simp [ng0]⟩,fun q hq=>by simp [ng0] at hq,fun a ha=>by simp [ng0] at ha;exact .inl ha.2,fun f hf=>by simp at hf,fun dt=>NV.nil,by simp [ng0],by simp [ng0]⟩;simpa [ngP] using this
theorem AAV {l:List Nd} {pl:List Nat} {rf:Nat} {en:List En} (h:YZ l pl rf en=false):(∀a∈pl,szN l a<=200)/\szN l rf<=200/\∀x∈en,szN l x.t<=200/\∀a∈x.ar,szN l a<=200:=by
 have hla:∀a,eY l a=false->szN l a<=200:=fun a h=>by
  rw [eY,decide_eq_false_iff_not] at h;omega
 simp only [YZ,IH] at h;obtain ⟨⟨h1,h2⟩,h3⟩:=h;refine ⟨fun a ha=>hla a ?_,hla rf h2,fun x hx=>?_⟩
 . exact (List.any_eq_false.1 h1 a ha)|>fun h=>by simpa using h
 . have:=List.any_eq_false.1 h3 x hx;simp only [AG1,DY,not_or,Bool.not_eq_true] at this;refine ⟨hla _ this.1,fun a ha=>hla a ?_⟩;have:=List.any_eq_false.1 this.2 a ha;simpa using this
theorem AN7 {l:List Nd} {d:Nat->Nat} (hg:ER l) (h:FR l d) {dt:List Dat} (hnv:NV dt l) (vs:List Nat):∀(N n:Nat),n < l.length->d (rtN l n)<=N->UA vs.length (rdN l (Ct vs) n)=true/\(rdN l (Ct vs) n).sh dt:=by
 intro N
 induction N using FT with
 |_ N ih=>
 intro n hn hd;obtain ⟨x,hx,hp⟩:=hg.root hn;have hsx:=hnv x (AD hx);rw [cH hg h hx hp];split
 . split
   . rename_i i hi;obtain ⟨k,rfl,v,hv,_⟩:=cB hi;have:=(AF.1 hv).1;refine ⟨?_,?_⟩
     . rw [UA,if_pos rfl];simp;omega
     . rw [Ty.sh];exact ⟨.inl rfl,by rw [Ty.shs];trivial⟩
   . exact ⟨by rw [UA,if_neg (by decide)];rfl,by rw [Ty.sh];exact ⟨.inr (.inl ⟨by omega,rfl,rfl⟩),by rw [Ty.shs];trivial⟩⟩
 . have hk4:x.k≠4:=by
    rcases hsx with h|h|h|h|h<;>omega
   have hkid:∀a∈x.ar,UA vs.length (rdN l (Ct vs) a)=true/\(rdN l (Ct vs) a).sh dt:=fun a ha=>by
    have h1:=h.lt _ x hx hp a ha;exact ih (d (rtN l a)) (by omega) a (hg.ar _ x hx a ha) (AR _)
   have hvs:∀us:List Nat,(∀a∈us,UA vs.length (rdN l (Ct vs) a)=true)->LP vs.length (us.map (rdN l (Ct vs)))=true:=by
    intro us
    induction us with
    |nil=>intro _;rfl
    |cons a us ih2=>intro h;rw [AG,LP,h a (AW),ih2 fun b hb=>h b (AU _ hb)];rfl
   refine ⟨?_,?_⟩
   . rw [UA,if_neg hk4];exact hvs _ fun a ha=>(hkid a ha).1
   . rw [Ty.sh,AA];refine ⟨.inr hsx,Ty.MU.2 fun t ht=>?_⟩;obtain ⟨a,ha,rfl⟩:=Ck.1 ht;exact (hkid a ha).2
def r8 (dt:List Dat) (s:Sch):Prop:=(0<=s.vars/\s.vars<=100000/\LP s.vars.toNat s.params=true/\UA s.vars.toNat s.res=true/\Ty.AT s.params<=100000/\s.res.size<=100000)/\Ty.shs dt s.params/\s.res.sh dt/\s.params.length<=6
theorem ALK (dt:List Dat):r8 dt cO:=⟨⟨by decide,by decide,rfl,rfl,by decide,by decide⟩,by rw [cO,Ty.shs];trivial,by rw [cO,Ty.sh];exact ⟨.inr (aD dt),by rw [Ty.shs];trivial⟩,by simp [cO]⟩
theorem vW {n:Nat} {f:Nat->Ty}:∀ {us:List Nat},(∀a∈us,UA n (f a)=true)->LP n (us.map f)=true
 |[],_=>rfl
 |a::us,h=>by rw [AG,LP,h a (AW),vW fun b hb=>h b (AU _ hb)];rfl
theorem ALL {l:List Nd} {d:Nat->Nat} (hg:ER l) (h:FR l d) {dt:List Dat} (hnv:NV dt l) {pl:List Nat} {rf:Nat} (hp:∀a∈pl,a < l.length) (hr:rf < l.length) (hl:pl.length<=6) (hs:(∀a∈pl,szN l a<=200)/\szN l rf<=200):r8 dt (QC l (Ct (Cw l pl rf)) pl rf (Cw l pl rf).length):=by
 have hvl:(Cw l pl rf).length<=1400:=by
  have:=vR hg h (ts:=pl++[rf]) (fun a ha=>by
   rcases AY.1 ha with ha|ha
   . exact hp a ha
   . simp only [A3] at ha;subst ha;exact hr) (fun a ha=>by
   rcases AY.1 ha with ha|ha
   . exact hs.1 a ha
   . simp only [A3] at ha;subst ha;exact hs.2)
  rw [Cw];simp only [A1,C1] at this;omega
 have hv:=fun n hn=>AN7 hg h hnv (Cw l pl rf) (d (rtN l n)) n hn (AR _);have hz:=fun n (hn:n < l.length) hs=>uY (es:=Ct (Cw l pl rf)) hg h (d (rtN l n)) n hn (AR _) hs;generalize Cw l pl rf=vs at *
 have hsz:∀us:List Nat,(∀a∈us,a < l.length/\szN l a<=200)->Ty.AT (us.map (rdN l (Ct vs)))<=us.length * 200:=by
  intro us
  induction us with
  |nil=>intro _;simp [Ty.AT]
  |cons a us ih=>
   intro h;obtain ⟨h1,h2⟩:=h a (AW);have:=ih fun b hb=>h b (AU _ hb);have:=hz a h1 h2;rw [AG,Ty.AT,A0];omega
 have h1:=hsz pl fun a ha=>⟨hp a ha,hs.1 a ha⟩;have h2:=hz rf hr hs.2;refine ⟨⟨by simp [QC],by simp only [QC];omega,?_,?_,by simp only [QC];omega,by simp only [QC];omega⟩,?_,(hv rf hr).2,by simp [QC];exact hl⟩
 . simp only [QC,Ca];exact vW fun a ha=>(hv a (hp a ha)).1
 . simp only [QC,Ca];exact (hv rf hr).1
 . simp only [QC];refine Ty.MU.2 fun t ht=>?_;obtain ⟨a,ha,rfl⟩:=Ck.1 ht;exact (hv a (hp a ha)).2
end Go.Ab
namespace Go.Ab
def EA (en:List En):Prop:=∀x∈en,x.ar.length<=100000
theorem EA.mod {en:List En} (h:EA en) (i:Nat) {f:En->En} (hf:∀x,x.ar.length<=100000->(f x).ar.length<=100000):EA (en.modify i f):=fun y hy=>by
 obtain ⟨m,hm,rfl⟩:=Bn hy;rw [List.getElem_modify];split
 . exact hf _ (h _ (HR _))
 . exact h _ (HR _)
variable {G:GC}
def PEa (G:GC) (e:Ex):Prop:=∀env g,EA g.en->EA (Bc G e env g).2.en
theorem iE:∀ {ks:List Ex},(∀k∈ks,PEa G k)->∀env g,EA g.en->EA (C5 G ks env g).2.en
 |[],_,env,g,h=>h
 |k::ks,hk,env,g,h=>by
  rw [C5];exact iE (fun x hx=>hk x (AU _ hx)) env _ (hk k (AW) env g h)
theorem QM {ks:List Ex} (hk:∀k∈ks,PEa G k) (env:Env) (g:GS) (h:EA g.en):EA (Iv G ks env g).2.en:=by
 cases ks with
 |nil=>exact h
 |cons k ks=>rw [Iv];exact hk k (AW) env g h
theorem ZY {ks:List Ex} (hk:∀k∈ks,PEa G k) (env:Env) (g:GS) (h:EA g.en):EA (S3 G ks env g).2.en:=by
 cases ks with
 |nil=>exact h
 |cons k ks=>rw [S3];exact QM (fun x hx=>hk x (AU _ hx)) env g h
theorem AJ0 {ks:List Ex} (hk:∀k∈ks,PEa G k) (env:Env) (g:GS) (h:EA g.en):EA (oN G ks env g).2.en:=by
 cases ks with
 |nil=>exact h
 |cons k ks=>rw [oN];exact ZY (fun x hx=>hk x (AU _ hx)) env g h
theorem fX:∀ {ks:List Ex},(∀k∈ks,PEa G k)->∀(env:Env) (i:Nat) (f:Nat->Nat->SS->SS) (g:GS),EA g.en->EA (D7 G ks env i f g).en
 |[],_,env,i,f,g,h=>h
 |k::ks,hk,env,i,f,g,h=>by
  rw [D7];exact fX (fun x hx=>hk x (AU _ hx)) env (i+1) f _ (hk k (AW) env g h)
theorem AAS {D:Dat}:∀ {al:List Al},(∀a∈al,PEa G a.body)->∀(env:Env) (ar:List Nat) (t:Nat) (g:GS),EA g.en->EA (UN G al env D ar t g).en
 |[],_,env,ar,t,g,h=>h
 | .mk c vs b::al,ha,env,ar,t,g,h=>by
  rw [UN];exact AAS (fun x hx=>ha x (AU _ hx)) env ar t _ (ha _ (AW) _ _ h)
theorem ANJ (hG:∀s∈G.sch,s.vars<=100000) (env:Env) (nm:Str) (k0:Nat) (g:GS) (h:EA g.en):EA (ZA G env nm k0 g).2.en:=by
 unfold ZA;cases Nq env nm with
 |some t=>exact h
 |none=>
  simp only;generalize (DK (DN G.fs) nm).getD 0=f;have h1:EA (g.Si k0 fun e=> { e with f:=(f:Int)}).en:=h.mod _ fun x hx=>hx;generalize g.Si k0 (fun e=> { e with f:=(f:Int)})=g1 at h1 ⊢;unfold AIB;split
  . exact h1
  . split
    . exact h1
    . rename_i s hs;have hs:=hG s (AD hs);exact EA.mod (en:=(g1.frs s.vars.toNat).en) h1 _ fun x hx=>by simp;omega
theorem AJZ (hG:∀s∈G.sch,s.vars<=100000):∀(N:Nat) (e:Ex),e.size<=N->PEa G e:=by
 intro N
 induction N with
 |zero=>intro e h;have:=Ex.size_pos e;omega
 |succ N ih=>
 rintro ⟨o,nm,nu,ns,ks,al⟩ hsz env g hg
 have hkl:∀k∈ks,PEa G k:=fun k hk=>by
  refine ih k ?_;have:=Ex.JD hk;simp only [Ex.size] at hsz;omega
 have hal:∀a∈al,PEa G a.body:=fun a ha=>by
  refine ih a.body ?_;have:=Al.JD ha;obtain ⟨c,vs,b⟩:=a;simp only [Ex.size,Al.size,Al.body] at hsz this ⊢;omega
 rw [oC]
 have hg1:EA (⟨g.s,g.en++[⟨0,-1,[]⟩]⟩:GS).en:=fun x hx=>by
  rcases AY.1 hx with hx|hx
  . exact hg x hx
  . simp only [A3] at hx;subst hx;simp
 generalize (⟨g.s,g.en++[⟨0,-1,[]⟩]⟩:GS)=g1 at hg1;generalize g.en.length=k0;have hfin:∀r:Nat×GS,EA r.2.en->EA (ANL k0 r).2.en:=fun r hr=>EA.mod hr _ fun x hx=>hx;refine hfin _ ?_;clear hg g hsz hfin;unfold AAW;by_cases h:o=4
 . rw [if_pos h];exact ANJ hG env nm k0 g1 hg1
 rw [if_neg h];clear h;by_cases h:o=1\/o=2\/o=3\/o=15
 . rw [if_pos h];exact hg1
 rw [if_neg h];clear h;by_cases h:o=5
 . rw [if_pos h];exact iE hkl env g1 hg1
 rw [if_neg h];clear h;by_cases h:o=6
 . rw [if_pos h];cases Em G.dt nm with
   |none=>exact hg1
   |some x=>
    obtain ⟨d,c⟩:=x;simp only;cases hd:G.dt[d]? with
    |none=>exact hg1
    |some D=>exact fX hkl env 0 _ _ hg1
 rw [if_neg h];clear h;by_cases h:o=10
 . rw [if_pos h];cases al with
   |nil=>exact hg1
   |cons a al=>
    simp only;cases Em G.dt a.con with
    |none=>exact hg1
    |some x=>
     obtain ⟨d,c⟩:=x;simp only;cases hd:G.dt[d]? with
     |none=>exact hg1
     |some D=>exact AAS hal env _ _ _ (QM hkl env _ hg1)
 rw [if_neg h];clear h;by_cases h:o=12
 . rw [if_pos h];exact iE hkl env g1 hg1
 rw [if_neg h];clear h;by_cases h:o=13
 . rw [if_pos h];exact fX hkl env 0 _ _ hg1
 rw [if_neg h];clear h;by_cases h:o=14
 . rw [if_pos h];exact fX hkl env 0 _ _ hg1
 rw [if_neg h];clear h;by_cases h:o=16
 . rw [if_pos h];exact QM hkl env g1 hg1
 rw [if_neg h];clear h;by_cases h:o=7
 . rw [if_pos h];exact ZY hkl _ _ (QM hkl env g1 hg1)
 rw [if_neg h];clear h;by_cases h:o=8
 . rw [if_pos h];exact ZY hkl _ _ (QM hkl env _ hg1)
 rw [if_neg h];clear h;by_cases h:o=9
 . rw [if_pos h];exact AJ0 hkl _ _ (ZY hkl _ _ (QM hkl env _ hg1))
 rw [if_neg h];clear h;by_cases h:o=11
 . rw [if_pos h];exact QM hkl _ _ hg1
 rw [if_neg h];exact ZY hkl _ _ (QM hkl env _ hg1)
end Go.Ab
namespace Go.Ab
open Go.Proofs
theorem ABO:∀(W:List Nat) (f:Nat),(W.set f 0).sum+W.getD f 0=W.sum
 |[],f=>by simp
 |w::W,0=>by simp [Nat.add_comm]
 |w::W,f+1=>by
  have:=ABO W f;simp only [CH,Et,List.getD_cons_succ];omega
theorem z8:∀(dn:List Nat) (W:List Nat),dn.Nodup->(dn.map fun f=>W.getD f 0).sum<=W.sum
 |[],W,_=>by simp
 |f::dn,W,h=>by
  rw [XE] at h;have h1:=z8 dn (W.set f 0) h.2;have h2:=ABO W f
  have h3:dn.map (fun g=>(W.set f 0).getD g 0)=dn.map fun g=>W.getD g 0:=FF fun g hg=>by
   have hne:f≠g:=fun e=>h.1 (by rw [e];exact hg);simp only [A6,BC hne]
  rw [h3] at h1;rw [AG,Et];omega
theorem WI {ms:List Nat} {n:Nat} (h:ms.Nodup) (hl:∀f∈ms,f < n):ms.length<=n:=by
 have h1:=z8 ms (AE n 1) h;have h2:ms.map (fun f=>(AE n 1).getD f 0)=ms.map fun _=>1:=FF fun f hf=>by simp [A6,hl f hf]
 have h3:∀l:List Nat,(l.map fun _=>1).sum=l.length:=by
  intro l
  induction l with
  |nil=>rfl
  |cons a l ih=>rw [AG,Et,ih,A0];omega
 rw [h2,h3] at h1;simpa using h1
def szM (fs:List FE) (dn:List Nat):Nat:=(dn.map fun f=>((fs.map fun f=>f.body.size).getD f 0)).sum
theorem AIU (fs:List FE) {dn:List Nat} (h:dn.Nodup):szM fs dn<=Yx fs:=z8 dn _ h
theorem vN (fs:List FE) (dn:List Nat) {f:Nat} {fe:FE} (h:fs[f]?=some fe):szM fs (dn++[f])=szM fs dn+fe.body.size:=by
 simp [szM,h]
def GB.w (B:GB) (ext:Nat->Option (List AV)) (c:Nat) (es:List AV):GB:= { B with ext:=ext,cur:=c,es:=es}
structure MS (B:GB) (ext0:Nat->Option (List AV)) (ms:List Nat):Prop where
 ie:B.i≠B.je
 m:ext0 B.jm=some (BL B.G.mem)
 p:ext0 B.jp=some (psC B.G.ps)
 r:ext0 B.jr=some (Co B.G.rs)
 s:ext0 B.js=some (Tw B.G.sch)
 lm:B.G.mem.length=B.G.fs.length
 lp:B.G.ps.length=B.G.fs.length
 lr:B.G.rs.length=B.G.fs.length
 ls:B.G.sch.length=B.G.fs.length
 lf:B.G.fs.length<=100
 gd:GD B.G
 gv:GVv B.G
 ok:∀(f:Nat) (fe:FE),B.G.fs[f]?=some fe->OkE B.G fe.body fe.params/\fe.body.size<=600
 cell:∀f∈ms,∃q,B.G.ps[f]?=some q/\q.length=Zp B.G.fs f
 lt:∀f∈ms,f < B.G.fs.length
 nd:ms.Nodup
 sz:Yx B.G.fs<=200
structure MI (B:GB) (ext0:Nat->Option (List AV)) (σ0 τ:AH) (dn:List Nat) (c0:Nat) (es:List AV) (ext:Nat->Option (List AV)) (j:Nat) (st:IG):Prop where
 sn:SN τ B.i st.s.1 st.s.2 (B.w ext c0 es).rest j
 e:τ.blk B.je=some es
 x:∀k cs,ext k=some cs->τ.blk k=some cs
 jj:ext j=none/\j≠B.je
 xi:ext B.i=none
 xe:ext B.je=none
 sub:∀k cs,ext0 k=some cs->ext k=some cs
 nb:(nbH σ0).le τ
 el:es.length=B.G.fs.length
 cell:∀f∈dn,∃jc,es[f]?=some (enV (st.en.getD f []) jc)/\(st.en.getD f []≠[]->ext jc=some (enC (st.en.getD f [])))/\ext0 jc=none
 un:∀f,f < B.G.fs.length->f ∉ dn->es[f]?=some .Af
 enl:st.en.length=B.G.fs.length
 gi:∀f∈dn,GI B.G ⟨st.s,st.en.getD f []⟩/\(st.en.getD f []).length<=600/\EA (st.en.getD f [])
 sz:∀f∈dn,∀fe,B.G.fs[f]?=some fe->(st.en.getD f []).length=fe.body.size
 gi0:GI B.G ⟨st.s,[]⟩
 hi:st.s.1.length<=1000+1000000 * szM B.G.fs dn
 nv:NV B.G.dt st.s.1
variable {B:GB} {ext0 ext:Nat->Option (List AV)} {σ0 τ τ':AH} {ms dn:List Nat} {c0 j j' jc f:Nat} {es:List AV} {st:IG}
theorem MI.pg (hS:MS B ext0 ms) (h:MI B ext0 σ0 τ dn c0 es ext j st) (hf:f < B.G.fs.length) (hn:f ∉ dn):HP (B.w ext f es)/\PG (B.w ext f es) c0 τ st.s j:=
 ⟨⟨hS.ie,h.xi,h.xe,h.sub _ _ hS.m,h.sub _ _ hS.p,h.sub _ _ hS.r,h.sub _ _ hS.s,by show f < es.length;rw [h.el];exact hf,hS.lm,hS.lp,hS.lr,hS.ls,hS.lf⟩,⟨h.sn,h.e,h.un f hf hn,h.x,h.jj,h.gi0⟩⟩
theorem GI.le {G:GC} {s s':SS} {en:List En} (h:GI G ⟨s,en⟩) (hl:s.1.length<=s'.1.length):GI G ⟨s',en⟩:=GI.step h hl
theorem rK {α:Type} {l:List α} {f:Nat} (h:f < l.length) (x d:α):(l.set f x).getD f d=x:=by simp [h]
theorem rL {α:Type} {l:List α} {f g:Nat} (h:f≠g) (x d:α):(l.set f x).getD g d=l.getD g d:=by simp [A6,BC h]
theorem MI.next (hS:MS B ext0 ms) (h:MI B ext0 σ0 τ dn c0 es ext j st) (hf:f < B.G.fs.length) (hfm:f∈ms) (hn:f ∉ dn) {fe:FE} (hfe:B.G.fs[f]?=some fe) (hnb:(nbH τ).le τ')
 (hg:GX (B.w ext f es) τ' (Uc B.G fe (B.G.ps.getD f []) (B.G.rs.getD f 0) st.s) j' jc) (hle:st.s.1.length<=(Uc B.G fe (B.G.ps.getD f []) (B.G.rs.getD f 0) st.s).nx)
 (hhi:(Uc B.G fe (B.G.ps.getD f []) (B.G.rs.getD f 0) st.s).nx<=st.s.1.length+1000000 * fe.body.size) (hen:(Uc B.G fe (B.G.ps.getD f []) (B.G.rs.getD f 0) st.s).en.length=fe.body.size):
 ∃es' ext',MI B ext0 σ0 τ' (dn++[f]) f es' ext' j' (igF B.G st f):=by
 have hig:igF B.G st f=⟨(Uc B.G fe (B.G.ps.getD f []) (B.G.rs.getD f 0) st.s).s,st.en.set f (Uc B.G fe (B.G.ps.getD f []) (B.G.rs.getD f 0) st.s).en⟩:=by
  unfold igF;rw [hfe]
 have hnv:NV B.G.dt (Uc B.G fe (B.G.ps.getD f []) (B.G.rs.getD f 0) st.s).s.1:=by
  unfold Uc;exact NV.uni (AK6 hS.gv fe.body.size fe.body fe.params (AR _) (hS.ok f fe hfe).1 _ _ h.nv) _ _
 have hea:EA (Uc B.G fe (B.G.ps.getD f []) (B.G.rs.getD f 0) st.s).en:=by
  unfold Uc;exact AJZ (fun s hs=>(hS.gd.sch s hs).2.1) fe.body.size fe.body (AR _) _ _ (fun x hx=>by simp at hx)
 rw [hig];generalize Uc B.G fe (B.G.ps.getD f []) (B.G.rs.getD f 0) st.s=g at *;have hgn:g.en≠[]:=fun e=>by rw [e] at hen;have:=Ex.size_pos fe.body;simp only [By] at hen;omega
 have hc:τ'.blk jc=some (enC g.en)/\jc≠B.i/\jc≠B.je/\ext jc=none/\jc≠j':=hg.c hgn;obtain ⟨c1,c2,c3,c4,c5⟩:=hc;have hsl:(es.set f (enV g.en jc)).length=B.G.fs.length:=by simp [h.el]
 refine ⟨es.set f (enV g.en jc),fun k=>if k=jc then some (enC g.en) else ext k,⟨?_,hg.e,fun k cs hk=>?_,⟨?_,hg.jj.2⟩,?_,?_,fun k cs hk=>?_,DW h.nb hnb,hsl,fun f' hf'=>?_,fun f' hf' hn'=>?_,by simp [h.enl],fun f' hf'=>?_,fun f' hf' fe' hfe'=>?_,?_,?_,hnv⟩⟩
 . have:=hg.sn
   have hr:(B.w ext f es).rest=(B.w (fun k=>if k=jc then some (enC g.en) else ext k) f (es.set f (enV g.en jc))).rest:=by
    simp only [GB.rest,GB.w,Kf]
   rw [hr] at this;exact this
 . split at hk
   . rename_i e;subst e;cases hk;exact c1
   . exact hg.x k cs hk
 . rw [if_neg (A5 c5)];exact hg.jj.1
 . rw [if_neg (A5 c2)];exact h.xi
 . rw [if_neg (A5 c3)];exact h.xe
 . have:=h.sub k cs hk;rw [if_neg (fun e=>by rw [e,c4] at this;cases this)];exact this
 . by_cases e:f=f'
   . subst e;refine ⟨jc,?_,fun _=>?_,?_⟩
     . rw [rK (by rw [h.enl];exact hf)];exact BE (by rw [h.el];exact hf)
     . rw [if_pos rfl,rK (by rw [h.enl];exact hf)]
     . cases hx:ext0 jc with
       |none=>rfl
       |some cs=>rw [h.sub _ _ hx] at c4;cases c4
   . rcases AY.1 hf' with hf'|hf'
     . obtain ⟨jc',h1,h2,h3⟩:=h.cell f' hf';refine ⟨jc',?_,fun hne=>?_,h3⟩
       . rw [rL e,BC e];exact h1
       . simp only at hne ⊢;rw [rL e] at hne ⊢;have:=h2 hne;rw [if_neg (fun e=>by rw [e,c4] at this;cases this)];exact this
     . simp only [A3] at hf';exact absurd hf'.symm e
 . have e:f≠f':=fun e=>hn' (by simp [e]);rw [BC e];exact h.un f' hf' fun hm=>hn' (VG _ hm)
 . by_cases e:f=f'
   . subst e;simp only;rw [rK (by rw [h.enl];exact hf)];exact ⟨hg.gi,by have:=(hS.ok f fe hfe).2;omega,hea⟩
   . rcases AY.1 hf' with hf'|hf'
     . simp only;rw [rL e];exact ⟨GI.le (h.gi f' hf').1 hle,(h.gi f' hf').2⟩
     . simp only [A3] at hf';exact absurd hf'.symm e
 . by_cases e:f=f'
   . subst e;simp only;rw [rK (by rw [h.enl];exact hf)];rw [hfe] at hfe';cases hfe';exact hen
   . rcases AY.1 hf' with hf'|hf'
     . simp only;rw [rL e];exact h.sz f' hf' fe' hfe'
     . simp only [A3] at hf';exact absurd hf'.symm e
 . exact GI.le h.gi0 hle
 . simp only;rw [vN _ _ hfe];have:=h.hi;have e:g.nx=g.s.1.length:=rfl;omega
abbrev eNn:Nat:=52
abbrev LI (ds fs:DV) (js jn n:Nat):Lm:=Ar 1 [.d ds,.d fs] (Ar 2 [.Af,.Af] (Ar 3 [.d (.int .i64 0),.d (.int .i64 0),.d (.int .i64 0)] (Ar 7 [.ms js n 5 eSs,.ms jn n 1 eNn] E)))
theorem tR (B:GB) (ext0:Nat->Option (List AV)) (ms:List Nat) (hS:MS B ext0 ms) (σ0:AH) (Q:AV->AH->Prop) (k:List CI) (ds fs:DV) (jj jn n:Nat) (st0:IG) (τ:AH) (es:List AV) (j:Nat) (h0:MI B ext0 σ0 τ [] 0 es ext0 j st0)
 (a5 a40 a41 a42:DV)
 (hk:∀τ' c es' ext' j',MI B ext0 σ0 τ' ms c es' ext' j' (ms.foldl (igF B.G) st0)->Run Bd Q k (put 1 (.lp 1 0) (put 2 (.lp 2 0) (put 3 (.lp 3 0) (put 5 (.d a5) (put 7 (.lp 7 0) (put 9 (.d (.sl (ms.map CC))) (put 10 (.gp B.i 0) (put 40 (.d a40) (put 41 (.d a41) (put 42 (.d a42) U)))))))))) (LI ds fs jj jn n) τ'):
 Run Bd Q (.code (.loop Fy)::.blk 2::k) (put 1 (.lp 1 0) (put 2 (.lp 2 0) (put 3 (.lp 3 0) (put 5 (.d a5) (put 7 (.lp 7 0) (put 9 (.d (.sl (ms.map CC))) (put 10 (.gp B.i 0) (put 40 (.d a40) (put 41 (.d a41) (put 42 (.d a42) (put 52 (.d (.sl (ms.map CC))) (put 53 (.d (.int .i64 ms.length)) (put 54 (.d (.int .i64 0)) U))))))))))))) (LI ds fs jj jn n) τ:=by
 have hml:ms.length<=100:=Ah (WI hS.nd hS.lt) hS.lf;refine Run.BB ?_
 refine Run.BG ((fun (a1:AV) (a2:AV) (a3:AV) (a5:AV) (a7:AV) (a9:AV) (a10:AV) (a40:AV) (a41:AV) (a42:AV) (a52:AV) (a53:AV)=>fun (z:Nat×AH)=>put 1 a1 (put 2 a2 (put 3 a3 (put 5 a5 (put 7 a7 (put 9 a9 (put 10 a10 (put 40 a40 (put 41 a41 (put 42 a42 (put 52 a52 (put 53 a53 (put 54 (.d (.int .i64 z.1)) U))))))))))))) _ _ _ _ _ _ _ _ _ _ _ _) (fun _=>LI ds fs jj jn n) (fun z=>z.2)
  (fun z=>z.1<=ms.length/\∃c es' ext' j',MI B ext0 σ0 z.2 (ms.take z.1) c es' ext' j' ((ms.take z.1).foldl (igF B.G) st0))
  (fun z=>ms.length - z.1) ?_ (0,τ) ⟨by simp,0,es,ext0,j,by simpa using h0⟩
 rintro ⟨p,τ1⟩ ⟨hp,c,es1,ext1,j1,h1⟩ ih;simp only at hp h1;by_cases hlt:p < ms.length
 . obtain ⟨f,hf⟩:=Ak hlt;have hfr:=H0 hf;have hfm:=AD hf;have hfl:=hS.lt f hfm;have hw1:=A7 (show p+1<=9000000000000000000 by omega)
   have hst:(ms.take (p+1)).foldl (igF B.G) st0=igF B.G ((ms.take p).foldl (igF B.G) st0) f:=by
    rw [Ae hf,Cb];rfl
   have hdn:f ∉ ms.take p:=fun hm=>by
    have h1:=hS.nd.sublist (List.take_sublist (p+1) ms);rw [Ae hf] at h1;exact (Gc.1 h1).2.2 f hm f (by simp) rfl
   obtain ⟨fe,hfe⟩:=Ak hfl;obtain ⟨q,hq,hql⟩:=hS.cell f hfm;obtain ⟨r,hr⟩:=Ak (show f < B.G.rs.length by rw [hS.lr];exact hfl);have hgq:B.G.ps.getD f []=q:=by simp [hq]
   have hgr:B.G.rs.getD f 0=r:=by simp [hr]
   have hnd2:((ms.take p)++[f]).Nodup:=by rw [<- Ae hf];exact hS.nd.sublist (List.take_sublist _ _)
   have hsm:=AIU B.G.fs hnd2;rw [vN _ _ hfe] at hsm;have hsz:=hS.sz;have hhi:=h1.hi;obtain ⟨hB,hP⟩:=h1.pg hS hfl hdn;have hc:=lE (B.w ext1 f es1) hB hS.gd fe q r hfe hq hr (by rw [hql,Zp,hfe];rfl) (hS.ok f fe hfe).1 c _ τ1 j1 (by omega) hP;generalize (ms.take p).foldl (igF B.G) st0=st at *;(repeat' (first|refine ctQ rfl ?_|((first|refine rgQ mxQ ?_|refine cdQ ?_|(refine A9 rfl (fun h=>?_) (fun h=>?_)<;>try (cases h;done)))<;>try simp only [Ag hlt,hfr,go_sem])|(refine ⟨fun h=>?_,fun h=>?_⟩<;>first|(cases h;done)|try simp only [h])|fail));refine AJ.mk rfl hc ?_;rintro v τ2 ⟨hnb,⟨j2,jc,hg⟩,g1,g2,g3⟩;simp only [go_sem];(repeat' (first|refine ctQ rfl ?_|((first|refine rgQ mxQ ?_|refine cdQ ?_|(refine A9 rfl (fun h=>?_) (fun h=>?_)<;>try (cases h;done)))<;>try simp only [hw1,go_sem])|(refine ⟨fun h=>?_,fun h=>?_⟩<;>first|(cases h;done)|try simp only [h])|fail));have hnx:=h1.next hS hfl hfm hdn hfe hnb (j':=j2) (jc:=jc) (by rw [hgq,hgr];exact hg) (by rw [hgq,hgr];exact g1) (by rw [hgq,hgr];exact g2) (by rw [hgq,hgr];exact g3);obtain ⟨es2,ext2,h2⟩:=hnx;exact ih ⟨p+1,τ2⟩ ⟨hlt,f,es2,ext2,j2,by simp only [hst];rw [Ae hf];exact h2⟩ (by simp only;omega)
 . have hpe:p=ms.length:=by omega
   subst hpe;rw [BM] at h1;(repeat' (first|refine ctQ rfl ?_|((first|refine rgQ mxQ ?_|refine cdQ ?_|(refine A9 rfl (fun h=>?_) (fun h=>?_)<;>try (cases h;done)))<;>try simp only [Bk hlt,go_sem])|(refine ⟨fun h=>?_,fun h=>?_⟩<;>first|(cases h;done)|try simp only [h])|fail));refine Run.NC [1,2,3,5,7,9,10,40,41,42] ?_;have:=hk τ1 c es1 ext1 j1 h1;simp only [go_sem];exact this
end Go.Ab
namespace Go.Ab
open Go.Proofs
structure MF (B:GB) (ms:List Nat) (es:List AV) (st:IG) (ext:Nat->Option (List AV)):Prop where
 xm:ext B.jm=some (BL B.G.mem)
 xp:ext B.jp=some (psC B.G.ps)
 xr:ext B.jr=some (Co B.G.rs)
 xe:ext B.je=some es
 el:es.length=B.G.fs.length
 cell:∀f∈ms,∃jc,es[f]?=some (enV (st.en.getD f []) jc)/\(st.en.getD f []≠[]->ext jc=some (enC (st.en.getD f [])))
 gi:∀f∈ms,GI B.G ⟨st.s,st.en.getD f []⟩/\(st.en.getD f []).length<=600/\EA (st.en.getD f [])
 gi0:GI B.G ⟨st.s,[]⟩
theorem tQ (B:GB) (ext0:Nat->Option (List AV)) (ms:List Nat) (hS:MS B ext0 ms) (c0:Nat) (es:List AV) (st:IG) (ext:Nat->Option (List AV)) (hM:MF B ms es st ext) (d:Nat->Nat) (σ0:AH) (jz j1 j3 j4:Nat) (hl0:st.s.1≠[]) (he:JE ext B.i st.s.1 d jz j1 j3 j4)
 (Q:AV->AH->Prop) (k:List CI) (ds fs:DV) (jj jn n:Nat) (a5 a40 a41 a42:DV) (τ:AH) (hj:JZ ext σ0 B.i (B.w ext c0 es).rest st.s.1 st.s.2 jz τ)
 (hbad:∀f τ' k',ms.find? (fun f=>YZ st.s.1 (B.G.ps.getD f []) (B.G.rs.getD f 0) (st.en.getD f []))=some f->JZ ext σ0 B.i (B.w ext c0 es).rest st.s.1 st.s.2 jz τ'->
   Run Bd Q (.code .ret::k') (put 2 (.lp 2 0) (put 3 (.lp 3 0) U)) (Ar 2 [.Af,.Af] (Ar 3 [.d (.int .i64 9),.d (.int .i64 (f:Int)),.d (.int .i64 0)] E)) τ')
 (hk:∀τ',ms.find? (fun f=>YZ st.s.1 (B.G.ps.getD f []) (B.G.rs.getD f 0) (st.en.getD f []))=none->JZ ext σ0 B.i (B.w ext c0 es).rest st.s.1 st.s.2 jz τ'->
   Run Bd Q k (put 1 (.lp 1 0) (put 2 (.lp 2 0) (put 3 (.lp 3 0) (put 5 (.d a5) (put 7 (.lp 7 0) (put 9 (.d (.sl (ms.map CC))) (put 10 (.gp B.i 0) (put 40 (.d a40) (put 41 (.d a41) (put 42 (.d a42) U)))))))))) (LI ds fs jj jn n) τ'):
 Run Bd Q (.code (.loop Hs)::.blk 4::k) (put 1 (.lp 1 0) (put 2 (.lp 2 0) (put 3 (.lp 3 0) (put 5 (.d a5) (put 7 (.lp 7 0) (put 9 (.d (.sl (ms.map CC))) (put 10 (.gp B.i 0) (put 13 (szC j1 j3 j4) (put 40 (.d a40) (put 41 (.d a41) (put 42 (.d a42) (put 83 (.d (.sl (ms.map CC))) (put 84 (.d (.int .i64 ms.length)) (put 85 (.d (.int .i64 0)) U)))))))))))))) (LI ds fs jj jn n) τ:=by
 have hml:ms.length<=100:=Ah (WI hS.nd hS.lt) hS.lf;refine Run.BB ?_
 refine Run.BG ((fun (a1:AV) (a2:AV) (a3:AV) (a5:AV) (a7:AV) (a9:AV) (a10:AV) (a13:AV) (a40:AV) (a41:AV) (a42:AV) (a83:AV) (a84:AV)=>fun (z:Nat×AH)=>put 1 a1 (put 2 a2 (put 3 a3 (put 5 a5 (put 7 a7 (put 9 a9 (put 10 a10 (put 13 a13 (put 40 a40 (put 41 a41 (put 42 a42 (put 83 a83 (put 84 a84 (put 85 (.d (.int .i64 z.1)) U)))))))))))))) _ _ _ _ _ _ _ _ _ _ _ _ _) (fun _=>LI ds fs jj jn n) (fun z=>z.2)
  (fun z=>z.1<=ms.length/\(∀f∈ms.take z.1,YZ st.s.1 (B.G.ps.getD f []) (B.G.rs.getD f 0) (st.en.getD f [])=false)/\JZ ext σ0 B.i (B.w ext c0 es).rest st.s.1 st.s.2 jz z.2)
  (fun z=>ms.length - z.1) ?_ (0,τ) ⟨by simp,by simp,hj⟩
 clear hj;rintro ⟨p,τ1⟩ ⟨hp,hno,hj⟩ ih;simp only at hp hno hj;by_cases hlt:p < ms.length
 . obtain ⟨f,hf⟩:=Ak hlt;have hfr:=H0 hf;have hfm:=AD hf;have hfl:=hS.lt f hfm;have hw1:=A7 (show p+1<=9000000000000000000 by omega);obtain ⟨q,hq,hql⟩:=hS.cell f hfm;obtain ⟨r,hr⟩:=Ak (show f < B.G.rs.length by rw [hS.lr];exact hfl);have hgq:B.G.ps.getD f []=q:=by simp [hq]
   have hgr:B.G.rs.getD f 0=r:=by simp [hr]
   obtain ⟨jc,hc1,hc2⟩:=hM.cell f hfm;obtain ⟨hgi,hel,hea⟩:=hM.gi f hfm;have hc:=xR (B.w ext c0 es) ext σ0 st.s.1 d st.s.2 jz j1 j3 j4 hl0 he f jc es q r (st.en.getD f []) hM.xp hM.xr hM.xe rfl hc2 hq hr hc1 (by omega) (hgi.ps q (AD hq)) (hgi.rs r (AD hr)) (fun x hx=>⟨(hgi.en x hx).1,(hgi.en x hx).2.2.2⟩) τ1 hj;have hfd:∀b,YZ st.s.1 q r (st.en.getD f [])=b->YZ st.s.1 (B.G.ps.getD f []) (B.G.rs.getD f 0) (st.en.getD f [])=b:=fun b h=>by rw [hgq,hgr];exact h
   cases hb:YZ st.s.1 q r (st.en.getD f []) with
   |true=>
    rw [hb] at hc;(repeat' (refine wQ mxQ rfl ?_<;>try simp only [Ag hlt,hfr,go_sem]));refine AJ.mk rfl hc ?_;rintro _ τ2 ⟨rfl,hj2⟩;simp only [go_sem];(repeat' (refine wQ mxQ rfl ?_<;>try simp only [go_sem]));refine hbad f τ2 _ ?_ hj2;rw [List.find?_eq_some_iff_getElem];refine ⟨hfd _ hb,p,hlt,(AF.1 hf).2,fun m hm=>?_⟩;have:=hno (ms[m]'(by omega)) (List.mem_take_iff_getElem.2 ⟨m,by omega,rfl⟩);rw [this];rfl
   |false=>
    rw [hb] at hc;(repeat' (refine wQ mxQ rfl ?_<;>try simp only [Ag hlt,hfr,go_sem]));refine AJ.mk rfl hc ?_;rintro _ τ2 ⟨rfl,hj2⟩;simp only [go_sem];(repeat' (refine wQ mxQ rfl ?_<;>try simp only [hw1,go_sem]));refine ih ⟨p+1,τ2⟩ ⟨hlt,fun x hx=>?_,hj2⟩ (by simp only;omega);rw [Ae hf] at hx;rcases AY.1 hx with hx|hx
    . exact hno x hx
    . simp only [A3] at hx;subst hx;exact hfd _ hb
 . have hpe:p=ms.length:=by omega
   subst hpe;rw [BM] at hno;(repeat' (refine wQ mxQ rfl ?_<;>try simp only [Bk hlt,go_sem]));refine Run.NC [1,2,3,5,7,9,10,40,41,42] ?_;have:=hk τ1 (P2.2 fun f hf=>by rw [hno f hf];simp) hj;simp only [go_sem];exact this
theorem ABK {α:Type} (r:α->List AV) (s:Nat) (hr:∀x,(r x).length=s) (y:α):∀ {l:List α} {i:Nat},i < l.length->(rwC r l).take (i * s)++r y++(rwC r l).drop (i * s+s)=rwC r (l.set i y)
 |x::l,0,h=>by
  rw [K5,HA,HA,NO,BU,C7,Aj];congr 1;exact List.drop_left' (hr x)
 |x::l,i+1,h=>by
  have:=ABK r s hr y (l:=l) (i:=i) (by simpa using h);rw [CH,HA,HA,<- this,show (i+1) * s=(r x).length+i * s from by rw [hr,CA];omega,YJ,show (r x).length+i * s+s=(r x).length+(i * s+s) from by omega,HF];simp
def ntR (l:List Nt):AV:= .d (.sl (l.map PE))
def ntC (nts:List (List Nt)):List AV:=nts.map ntR
theorem AK4 {nts:List (List Nt)} {f:Nat} (h:f < nts.length) (y:List Nt):(ntC nts).take f++[ntR y]++(ntC nts).drop (f+1)=ntC (nts.set f y):=by
 induction nts generalizing f with
 |nil=>cases h
 |cons x l ih=>
  cases f with
  |zero=>simp [ntC]
  |succ f=>
   have:=ih (f:=f) (by simpa using h);simp only [ntC,AG,C3,FD,CH,AX] at this ⊢;rw [this]
def exR (ext:Nat->Option (List AV)) (js jn:Nat) (r:HQ) (k:Nat):Option (List AV):=if k=js then some (Tw r.1) else if k=jn then some (ntC r.2) else ext k
theorem tH {ext:Nat->Option (List AV)} {js jn k:Nat} {r:HQ} (h:exR ext js jn r k=none):k≠js/\k≠jn/\ext k=none:=by
 unfold exR at h;by_cases e1:k=js
 . rw [if_pos e1] at h;cases h
 . by_cases e2:k=jn
   . rw [if_neg e1,if_pos e2] at h;cases h
   . rw [if_neg e1,if_neg e2] at h;exact ⟨e1,e2,h⟩
theorem p6 {ext:Nat->Option (List AV)} {js jn k:Nat} (r:HQ) (h1:k≠js) (h2:k≠jn) (h:ext k=none):exR ext js jn r k=none:=by
 unfold exR;rw [if_neg h1,if_neg h2];exact h
theorem TX.exs {B:GB} {ext:Nat->Option (List AV)} {l:List Nd} {fl:Bool} {j js jn:Nat} {r r':HQ} {τ:AH} (h:TX B (exR ext js jn r) l fl j τ) (hl:l≠[]) (hne:js≠jn):TX B (exR ext js jn r') l fl j ((τ.AM js (Tw r'.1)).AM jn (ntC r'.2)):=by
 obtain ⟨hi1,hi2,hi3⟩:=tH h.xi;obtain ⟨hj1,hj2,hj3⟩:=tH h.xj;have hi:=And.intro hi1 hi2;have hj:=And.intro hj1 hj2;obtain ⟨hji,c,hc,hb⟩:=h.sn.nd hl;refine ⟨⟨?_,h.sn.Gw,fun _=>⟨hji,c,hc,?_⟩⟩,fun k cs hk=>?_,?_,?_⟩
 . rw [AI,if_neg hi.2,AI,if_neg hi.1];exact h.sn.blk
 . rw [AI,if_neg hj.2,AI,if_neg hj.1];exact hb
 . unfold exR at hk;rw [AI,AI];split at hk
   . rename_i e;subst e;rw [if_neg hne,if_pos rfl];exact hk
   . rename_i e1;split at hk
     . rename_i e;subst e;rw [if_pos rfl];exact hk
     . rename_i e2;rw [if_neg e2,if_neg e1];refine h.x k cs ?_;unfold exR;rw [if_neg e1,if_neg e2];exact hk
 . exact p6 r' hi1 hi2 hi3
 . exact p6 r' hj1 hj2 hj3
theorem tS (B:GB) (ext0:Nat->Option (List AV)) (ms:List Nat) (hS:MS B ext0 ms) (c0:Nat) (es:List AV) (st:IG) (ext:Nat->Option (List AV)) (js jn:Nat) (hne:js≠jn) (hM:∀r,MF B ms es st (exR ext js jn r)) (d:Nat->Nat) (hd:FR st.s.1 d) (hl0:st.s.1≠[]) (hln:st.s.1.length<=900000000)
 (hno:ms.find? (fun f=>YZ st.s.1 (B.G.ps.getD f []) (B.G.rs.getD f 0) (st.en.getD f []))=none) (hpl:∀q∈B.G.ps,q.length<=6)
 (Q:AV->AH->Prop) (k:List CI) (ds fs:DV) (a5 a40 a41 a42:DV) (r0:HQ) (hr1:r0.1.length=B.G.fs.length) (hr2:r0.2.length=B.G.fs.length) (τ0 τ:AH) (j:Nat) (hnb:(nbH τ0).le τ) (hx:TX (B.w ext c0 es) (exR ext js jn r0) st.s.1 st.s.2 j τ)
 (hk:∀τ' j',(nbH τ0).le τ'->TX (B.w ext c0 es) (exR ext js jn (ms.foldl (IF B.G st.s.1 st.en) r0)) st.s.1 st.s.2 j' τ'->
   Run Bd Q k (put 1 (.lp 1 0) (put 2 (.lp 2 0) (put 3 (.lp 3 0) (put 5 (.d a5) (put 7 (.lp 7 0) (put 40 (.d a40) (put 41 (.d a41) (put 42 (.d a42) U)))))))) (LI ds fs js jn B.G.fs.length) τ'):
 Run Bd Q (.code (.loop Kn)::.blk 6::k) (put 1 (.lp 1 0) (put 2 (.lp 2 0) (put 3 (.lp 3 0) (put 5 (.d a5) (put 7 (.lp 7 0) (put 10 (.gp B.i 0) (put 40 (.d a40) (put 41 (.d a41) (put 42 (.d a42) (put 97 (.d (.sl (ms.map CC))) (put 98 (.d (.int .i64 ms.length)) (put 99 (.d (.int .i64 0)) U)))))))))))) (LI ds fs js jn B.G.fs.length) τ:=by
 have hml:ms.length<=100:=Ah (WI hS.nd hS.lt) hS.lf
 have hlenF:∀(fs:List Nat) (r:HQ),(fs.foldl (IF B.G st.s.1 st.en) r).1.length=r.1.length/\(fs.foldl (IF B.G st.s.1 st.en) r).2.length=r.2.length:=by
  intro fs
  induction fs with
  |nil=>intro r;exact ⟨rfl,rfl⟩
  |cons f fs ih=>intro r;rw [An];have:=ih (IF B.G st.s.1 st.en r f);simp only [IF,Kf] at this ⊢;exact this
 refine Run.BB ?_
 refine Run.BG ((fun (a1:AV) (a2:AV) (a3:AV) (a5:AV) (a7:AV) (a10:AV) (a40:AV) (a41:AV) (a42:AV) (a97:AV) (a98:AV)=>fun (z:Nat×AH)=>put 1 a1 (put 2 a2 (put 3 a3 (put 5 a5 (put 7 a7 (put 10 a10 (put 40 a40 (put 41 a41 (put 42 a42 (put 97 a97 (put 98 a98 (put 99 (.d (.int .i64 z.1)) U)))))))))))) _ _ _ _ _ _ _ _ _ _ _) (fun _=>LI ds fs js jn B.G.fs.length) (fun z=>z.2)
  (fun z=>z.1<=ms.length/\(nbH τ0).le z.2/\∃j',TX (B.w ext c0 es) (exR ext js jn ((ms.take z.1).foldl (IF B.G st.s.1 st.en) r0)) st.s.1 st.s.2 j' z.2)
  (fun z=>ms.length - z.1) ?_ (0,τ) ⟨by simp,hnb,j,by simpa using hx⟩
 clear hnb hx;rintro ⟨p,τ1⟩ ⟨hp,hnb,j1,hx⟩ ih;simp only at hp hnb hx;by_cases hlt:p < ms.length
 . obtain ⟨f,hf⟩:=Ak hlt;have hfr:=H0 hf;have hfm:=AD hf;have hfl:=hS.lt f hfm;have hw1:=A7 (show p+1<=9000000000000000000 by omega)
   have hst:(ms.take (p+1)).foldl (IF B.G st.s.1 st.en) r0=IF B.G st.s.1 st.en ((ms.take p).foldl (IF B.G st.s.1 st.en) r0) f:=by
    rw [Ae hf,Cb];rfl
   obtain ⟨hl1,hl2⟩:=hlenF (ms.take p) r0;generalize (ms.take p).foldl (IF B.G st.s.1 st.en) r0=r at *;obtain ⟨q,hq,hql⟩:=hS.cell f hfm;obtain ⟨w,hw⟩:=Ak (show f < B.G.rs.length by rw [hS.lr];exact hfl);have hgq:B.G.ps.getD f []=q:=by simp [hq]
   have hgr:B.G.rs.getD f 0=w:=by simp [hw]
   have hM:=hM r;obtain ⟨jc,hc1,hc2⟩:=hM.cell f hfm;obtain ⟨hgi,hel,hea⟩:=hM.gi f hfm;have hex:=P2.1 hno f hfm;rw [hgq,hgr] at hex;obtain ⟨z1,z2,z3⟩:=AAV (by simpa using hex);have hRF:RF (B.w ext c0 es) (exR ext js jn r) st.s.1 f jc es q w (st.en.getD f []):=⟨hM.xm,hM.xp,hM.xr,hM.xe,rfl,hc2,hq,hw,hc1,by omega,fun q hq=>⟨by have:=hpl q hq;omega,hgi.ps q hq⟩,hgi.rs,hS.lm,hS.lp,hS.lr,hgi.en,z1,z2,z3,fun x hx=>by have:=hea x hx;omega⟩;have hc:=AEN (B.w ext c0 es) (exR ext js jn r) st.s.1 d hd st.s.2 j1 τ1 f jc es q w (st.en.getD f []) hRF hx hl0 hln;rw [AIF] at hc;(repeat' (first|refine ctQ rfl ?_|((first|refine rgQ mxQ ?_|refine cdQ ?_|(refine A9 rfl (fun h=>?_) (fun h=>?_)<;>try (cases h;done)))<;>try simp only [Ag hlt,hfr,go_sem])|(refine ⟨fun h=>?_,fun h=>?_⟩<;>first|(cases h;done)|try simp only [h])|fail))
   have hres:IF B.G st.s.1 st.en r f=(r.1.set f (QC st.s.1 (Ct (Cw st.s.1 q w)) q w (Cw st.s.1 q w).length),r.2.set f ((st.en.getD f []).map (S5 B.G st.s.1 (Ct (Cw st.s.1 q w))))):=by
    rw [<- hgq,<- hgr];rfl
   rw [hres] at hst;have hg1:(B.w ext c0 es).G=B.G:=rfl;rw [hg1] at hc;have hset1:=ABK Sch.row 5 Sch.F9 (QC st.s.1 (Ct (Cw st.s.1 q w)) q w (Cw st.s.1 q w).length) (show f < r.1.length by omega);have hset2:=AK4 (show f < r.2.length by omega) ((st.en.getD f []).map (S5 B.G st.s.1 (Ct (Cw st.s.1 q w))));have hexs:=fun j2 τ2 (hx2:TX (B.w ext c0 es) (exR ext js jn r) st.s.1 st.s.2 j2 τ2)=>hx2.exs (r':=(r.1.set f (QC st.s.1 (Ct (Cw st.s.1 q w)) q w (Cw st.s.1 q w).length),r.2.set f ((st.en.getD f []).map (S5 B.G st.s.1 (Ct (Cw st.s.1 q w)))))) hl0 hne;generalize QC st.s.1 (Ct (Cw st.s.1 q w)) q w (Cw st.s.1 q w).length=sc at *;generalize (st.en.getD f []).map (S5 B.G st.s.1 (Ct (Cw st.s.1 q w)))=nt at *;simp only [Sch.row] at hc hset1;simp only [ntR] at hset2;have hfT:=ltT hfl;have hle5:(f * 5+5<=(Tw r.1).length)=True:=by rw [OU Sch.row 5 Sch.F9];simp;omega
   have hle1:(f+1<=(ntC r.2).length)=True:=by simp [ntC];omega
   have hne1:(jn=js)=False:=by simp;exact A5 hne
   have hne2:(js=jn)=False:=by simp;exact hne
   refine Run.J5 mixed ?_;simp only [go_sem]
   (repeat' (first
     |(refine AJ.mk rfl hc ?_
       rintro _ τ2 ⟨rfl,hnb2,j2,hx2⟩;have b1:τ2.blk js=some (Tw r.1):=hx2.x js _ (by simp [exR]);have b2:τ2.blk jn=some (ntC r.2):=hx2.x jn _ (by simp [exR,A5 hne]);have hxx:=hexs j2 τ2 hx2;have hnb3:=DW hnb hnb2;simp only [b1,b2,hfT,hle5,hle1,hset1,hset2,hne1,hne2,A2,go_sem];(repeat' (refine wQ mxQ rfl ?_<;>try simp only [hw1,go_sem]));exact ih ⟨p+1,_⟩ ⟨hlt,⟨fun _ _ h=>(by cases h),hnb3.tok,hnb3.gt,hnb3.bt⟩,j2,by simp only [hst];exact hxx⟩ (by simp only;omega))
     |refine And.intro ?_ ?_))
 . have hpe:p=ms.length:=by omega
   subst hpe;rw [BM] at hx;(repeat' (refine wQ mxQ rfl ?_<;>try simp only [Bk hlt,go_sem]));refine Run.NC [1,2,3,5,7,40,41,42] ?_;have:=hk τ1 j1 hnb hx;simp only [go_sem];exact this
end Go.Ab
namespace Go.Ab
open Go.Proofs
structure PF (fs:List FE) (dt:List Dat):Prop where
 lf:fs.length<=24
 pr:∀f∈fs,f.params.length<=6
 sz:Yx fs<=200
 ok:∀(f:Nat) (fe:FE),fs[f]?=some fe->(∀x∈Cu fe.body fe.params,PV fs dt x.1 x.2=0/\nb1 x.1)/\fe.body.size<=600
 dt1:∀d∈dt,0<=d.vars/\d.vars<=1000/\d.cons.length<=1000000/\∀c∈d.cons,LP d.vars.toNat c.args=true/\Ty.AT c.args<=100000
 dt2:∀d∈dt,∀c∈d.cons,Ty.shs dt c.args
structure HI (dt:List Dat) (σ0 τ:AH) (n js jn:Nat) (r:HQ):Prop where
 mo:Mo σ0 τ
 j1:σ0.blk js=none
 j2:σ0.blk jn=none
 ne:js≠jn
 b1:τ.blk js=some (Tw r.1)
 b2:τ.blk jn=some (ntC r.2)
 l1:r.1.length=n
 l2:r.2.length=n
 so:∀s∈r.1,r8 dt s
theorem Mo.le {σ τ:AH} (h:Mo σ τ):σ.le τ:=⟨h.blk,h.nb.tok,h.nb.gt,h.nb.bt⟩
def exN (i je j:Nat) (τ:AH) (k:Nat):Option (List AV):=if k=i\/k=je\/k=j then none else τ.blk k
theorem ZZ {i je j k:Nat} {τ:AH} {c:List AV} (h:τ.blk k=some c) (h1:k≠i) (h2:k≠je) (h3:k≠j):exN i je j τ k=some c:=by
 unfold exN;rw [if_neg (by rintro (e|e|e)<;>contradiction)];exact h
def gB (fs:List FE) (ds:List DE) (dt:List Dat) (r:HQ) (ms:List Nat) (i je jm jp jr js:Nat):GB:=⟨i,je,jm,jp,jr,js,fun _=>none,gcP fs dt r.1 ms,ds,0,AE fs.length .Af⟩
theorem AHJ {fs:List FE} {ds:List DE} {dt:List Dat} {r:HQ} {ms:List Nat} {i jm jp jr je js jn j:Nat} {σ0 τ τ1:AH} (hF:PF fs dt) (hH:HI dt σ0 τ fs.length js jn r) (hm:∀f∈ms,f < fs.length) (hnd:ms.Nodup) (hne:ms≠[])
 (h:NGI τ τ1 fs.length (.sl (ds.map DE.enc)) (.sl (fs.map FE.enc)) (dsA dt) (.ms js fs.length 5 eSs) i jm jp jr je j (ngP fs ms)):
 MS (gB fs ds dt r ms i je jm jp jr js) (exN i je j (τ1.AM jp (psC (pgl (ngP fs ms).ps)))) ms/\MI (gB fs ds dt r ms i je jm jp jr js) (exN i je j (τ1.AM jp (psC (pgl (ngP fs ms).ps)))) σ0 (τ1.AM jp (psC (pgl (ngP fs ms).ps))) [] 0 (AE fs.length .Af) (exN i je j (τ1.AM jp (psC (pgl (ngP fs ms).ps)))) j (ig0 fs ms)/\
  (∀k c,τ.blk k=some c->exN i je j (τ1.AM jp (psC (pgl (ngP fs ms).ps))) k=some c)/\(ig0 fs ms).s.1≠[]:=by
 have hN:=ANY hF.pr hm
 have hl0:(ngP fs ms).l≠[]:=fun e=>by
  have:=hN.lo;rw [e] at this;cases ms with
  |nil=>exact hne rfl
  |cons _ _=>simp at this
 obtain ⟨f1,f2,f3,f4,f5⟩:=h.fr;obtain ⟨d1,d2,d3,d4,d5,d6,d7,d8,d9,d10⟩:=h.nd;obtain ⟨x1,x2,x3,x4,x5⟩:=h.jx hl0;have hji:=(h.sn.nd hl0).1;obtain ⟨c0,hc0,hbj⟩:=(h.sn.nd hl0).2;have hps:(pgl (ngP fs ms).ps).length=fs.length:=by simp [pgl,hN.len.2.1]
 have hold:∀k c,τ.blk k=some c->exN i je j (τ1.AM jp (psC (pgl (ngP fs ms).ps))) k=some c:=fun k c hk=>by
  have h1:=h.mo.blk k c hk;refine ZZ ?_ (fun e=>by rw [e,f1] at hk;cases hk) (fun e=>by rw [e,f5] at hk;cases hk) (fun e=>by rw [e,x1] at hk;cases hk);rw [AI,if_neg (fun e=>by rw [e,f3] at hk;cases hk)];exact h1
 have hpsl:∀q∈pgl (ngP fs ms).ps,q.length<=6/\∀a∈q,a < (ngP fs ms).l.length:=fun q hq=>by
  obtain ⟨o,ho,rfl⟩:=Ck.1 hq;cases o with
  |none=>exact ⟨by simp,fun a ha=>by simp at ha⟩
  |some q=>exact hN.ps q ho
 have hpos:0 < (ngP fs ms).l.length:=Xi.2 hl0;have e1:exN i je j (τ1.AM jp (psC (pgl (ngP fs ms).ps))) jm=some (BL (ngP fs ms).mem):=ZZ (by rw [AI,if_neg d5];exact h.bm) (A5 d1) d7 x2;have e2:exN i je j (τ1.AM jp (psC (pgl (ngP fs ms).ps))) jp=some (psC (pgl (ngP fs ms).ps)):=ZZ BQ (A5 d2) d9 x3;have e3:exN i je j (τ1.AM jp (psC (pgl (ngP fs ms).ps))) jr=some (Co (ngP fs ms).rs):=ZZ (by rw [AI,if_neg (A5 d8)];exact h.br) (A5 d3) d10 x4;refine ⟨⟨d4,e1,e2,e3,hold _ _ hH.b1,hN.len.1,hps,hN.len.2.2,hH.l1,by have:=hF.lf;show fs.length<=100;omega,?_,?_,?_,?_,hm,hnd,hF.sz⟩,⟨⟨?_,h.sn.Gw,fun _=>⟨hji,c0,hc0,?_⟩⟩,?_,fun k cs hk=>?_,⟨?_,A5 x5⟩,?_,?_,fun k cs hk=>hk,?_,by simp [gB,gcP],fun f hf=>by simp at hf,fun f hf _=>?_,by simp [ig0,gB,gcP],fun f hf=>by simp at hf,fun f hf=>by simp at hf,?_,?_,hN.nv dt⟩,hold,hl0⟩
 . exact ⟨hF.dt1,fun s hs=>(hH.so s hs).1,fun l hl=>by have:=(hpsl l hl).1;omega⟩
 . exact ⟨fun D hD=>(hF.dt1 D hD).1,hF.dt2,fun s hs=>(hH.so s hs).2,fun l hl=>(hpsl l hl).1⟩
 . exact fun f fe hfe=>hF.ok f fe hfe
 . intro f hf;obtain ⟨q,hq,hl⟩:=hN.cell f hf;exact ⟨q,by simp [gB,gcP,pgl,hq],hl⟩
 . have:=h.sn.blk;rw [AI];show (if i=jp then _ else τ1.blk i)=_;rw [if_neg d2,this];simp only [GB.rest,GB.w,gB,gcP,ig0,hN.len.1,hN.len.2.2,hps,hH.l1,UM];rfl
 . rw [AI,if_neg (A5 x3)];exact hbj
 . rw [AI];show (if je=jp then _ else _)=_;rw [if_neg (A5 d9)];exact h.be
 . unfold exN at hk;split at hk
   . cases hk
   . exact hk
 . unfold exN;rw [if_pos (.inr (.inr rfl))]
 . unfold exN;exact if_pos (.inl rfl)
 . unfold exN;exact if_pos (.inr (.inl rfl))
 . exact DW hH.mo.nb (DW h.mo.nb ⟨fun _ _ h=>(by cases h),fun _ h=>h,rfl,fun _ _ h=>h⟩)
 . simp only [gB,gcP] at hf;simp [hf]
 . refine ⟨hpos,fun x hx=>by simp at hx,fun l hl a ha=>(hpsl l hl).2 a ha,fun a ha=>?_⟩;rcases hN.rs a ha with e|e
   . rw [e];exact hpos
   . exact e
 . have:=hN.hi;have:=WI hnd hm;have:=hF.lf;simp only [ig0];omega
def dW (fs:List FE) (dt:List Dat) (r:HQ) (f:Nat):Prop:=∃(l:List Nd) (d:Nat->Nat) (G:GC) (en:List En) (pl:List Nat) (rf:Nat),ER l/\FR l d/\NV dt l/\r.1[f]?=some (QC l (Ct (Cw l pl rf)) pl rf (Cw l pl rf).length)/\r.2[f]?=some (en.map (S5 G l (Ct (Cw l pl rf))))/\
 (∀a∈pl,a < l.length/\szN l a<=200)/\(rf < l.length/\szN l rf<=200)/\(∀x∈en,(x.t < l.length/\szN l x.t<=200)/\∀a∈uG G l x,a < l.length/\(szN l a<=200\/∃y,l[rtN l a]?=some y/\y.k=0))/\
 (∀fe,fs[f]?=some fe->pl.length=fe.params.length/\en.length=fe.body.size)
theorem rC (G:GC) (l:List Nd) (en:List (List En)):∀(ms:List Nat) (r:HQ) (f:Nat),ms.Nodup->(f ∉ ms->(ms.foldl (IF G l en) r).1[f]?=r.1[f]?/\(ms.foldl (IF G l en) r).2[f]?=r.2[f]?)/\
 (f∈ms->f < r.1.length->f < r.2.length->(ms.foldl (IF G l en) r).1[f]?=(IF G l en r f).1[f]?/\(ms.foldl (IF G l en) r).2[f]?=(IF G l en r f).2[f]?)
 |[],r,f,_=>⟨fun _=>⟨rfl,rfl⟩,fun h=>by simp at h⟩
 |g::ms,r,f,hnd=>by
  rw [XE] at hnd;obtain ⟨i1,i2⟩:=rC G l en ms (IF G l en r g) f hnd.2;rw [An]
  have hne:f≠g->(IF G l en r g).1[f]?=r.1[f]?/\(IF G l en r g).2[f]?=r.2[f]?:=fun e=>by
   simp only [IF,BC (A5 e),and_self]
  refine ⟨fun hf=>?_,fun hf h1 h2=>?_⟩
  . have e:f≠g:=fun e=>hf (by rw [e];exact AW);obtain ⟨a,b⟩:=i1 fun hm=>hf (AU _ hm);rw [a,b];exact hne e
  . by_cases e:f=g
    . subst e;exact i1 hnd.1
    . have hm:f∈ms:=(As.1 hf).resolve_left e;obtain ⟨a,b⟩:=i2 hm (by simp [IF];exact h1) (by simp [IF];exact h2);rw [a,b];simp only [IF];refine ⟨?_,?_⟩
      . rw [BE (by simpa using h1),BE h1]
      . rw [BE (by simpa using h2),BE h2]
theorem kE (G:GC) (l:List Nd) (en:List (List En)):∀(ms:List Nat) (r:HQ),(ms.foldl (IF G l en) r).1.length=r.1.length/\(ms.foldl (IF G l en) r).2.length=r.2.length
 |[],r=>⟨rfl,rfl⟩
 |f::ms,r=>by rw [An];have:=kE G l en ms (IF G l en r f);simp only [IF,Kf] at this ⊢;exact this
theorem uZ (G:GC) (l:List Nd) (en:List (List En)) (P:Sch->Prop):∀(ms:List Nat) (r:HQ),(∀s∈r.1,P s)->(∀f∈ms,P (QC l (Ct (Cw l (G.ps.getD f []) (G.rs.getD f 0))) (G.ps.getD f []) (G.rs.getD f 0) (Cw l (G.ps.getD f []) (G.rs.getD f 0)).length))->∀s∈(ms.foldl (IF G l en) r).1,P s
 |[],r,h,_=>h
 |f::ms,r,h,hm=>by
  rw [An];refine uZ G l en P ms _ (fun s hs=>?_) fun g hg=>hm g (AU _ hg);simp only [IF] at hs;rcases aI hs with hs|hs
  . exact h s hs
  . rw [hs];exact hm f (AW)
theorem AGS {fs:List FE} {ds:List DE} {dt:List Dat} {r:HQ} {ms:List Nat} {i jm jp jr je js c0 j:Nat} {σ0 τ:AH} {ext0 ext:Nat->Option (List AV)} {es:List AV} {st:IG} {d:Nat->Nat} (hF:PF fs dt)
 (hS:MS (gB fs ds dt r ms i je jm jp jr js) ext0 ms) (hI:MI (gB fs ds dt r ms i je jm jp jr js) ext0 σ0 τ ms c0 es ext j st) (hd:FR st.s.1 d)
 (hno:ms.find? (fun f=>YZ st.s.1 ((gcP fs dt r.1 ms).ps.getD f []) ((gcP fs dt r.1 ms).rs.getD f 0) (st.en.getD f []))=none) (h1:r.1.length=fs.length) (h2:r.2.length=fs.length) (hso:∀s∈r.1,r8 dt s):
 (∀s∈(ms.foldl (IF (gcP fs dt r.1 ms) st.s.1 st.en) r).1,r8 dt s)/\∀f∈ms,dW fs dt (ms.foldl (IF (gcP fs dt r.1 ms) st.s.1 st.en) r) f:=by
 have hg:=hI.sn.Gw
 have hmem:∀f∈ms,∃q w fe,(gcP fs dt r.1 ms).ps[f]?=some q/\(gcP fs dt r.1 ms).rs[f]?=some w/\(gcP fs dt r.1 ms).ps.getD f []=q/\(gcP fs dt r.1 ms).rs.getD f 0=w/\fs[f]?=some fe/\q.length=fe.params.length/\q.length<=6/\(∀a∈q,a < st.s.1.length/\szN st.s.1 a<=200)/\(w < st.s.1.length/\szN st.s.1 w<=200)/\
  (∀x∈st.en.getD f [],szN st.s.1 x.t<=200/\∀a∈x.ar,szN st.s.1 a<=200):=fun f hf=>by
  have hfl:f < fs.length:=hS.lt f hf;obtain ⟨q,hq,hql⟩:=hS.cell f hf;obtain ⟨w,hw⟩:=Ak (show f < (gcP fs dt r.1 ms).rs.length by have:=hS.lr;simp only [gB] at this;rw [this];exact hfl);obtain ⟨fe,hfe⟩:=Ak hfl;have hex:=P2.1 hno f hf
  have hgq:(gcP fs dt r.1 ms).ps.getD f []=q:=by
   have hq:(gcP fs dt r.1 ms).ps[f]?=some q:=hq;simp [hq]
  have hgw:(gcP fs dt r.1 ms).rs.getD f 0=w:=by simp [hw]
  rw [hgq,hgw] at hex;obtain ⟨z1,z2,z3⟩:=AAV (by simpa using hex);have hgi:=(hI.gi f hf).1;refine ⟨q,w,fe,hq,hw,hgq,hgw,hfe,?_,hS.gv.ps q (AD hq),fun a ha=>⟨hgi.ps q (AD hq) a ha,z1 a ha⟩,⟨hgi.rs w (AD hw),z2⟩,z3⟩;rw [hql];show Zp fs f=_;simp [Zp,hfe]
 refine ⟨uZ _ _ _ _ ms r hso fun f hf=>?_,fun f hf=>?_⟩
 . obtain ⟨q,w,fe,hq,hw,e1,e2,hfe,hl,hl6,hp,hr,hx⟩:=hmem f hf;rw [e1,e2];exact ALL hg hd hI.nv (fun a ha=>(hp a ha).1) hr.1 hl6 ⟨fun a ha=>(hp a ha).2,hr.2⟩
 . obtain ⟨q,w,fe,hq,hw,e1,e2,hfe,hl,hl6,hp,hr,hx⟩:=hmem f hf;have hfl:f < fs.length:=hS.lt f hf;obtain ⟨a,b⟩:=(rC (gcP fs dt r.1 ms) st.s.1 st.en ms r f hS.nd).2 hf (by omega) (by omega);have hgi:=(hI.gi f hf).1;refine ⟨st.s.1,d,gcP fs dt r.1 ms,st.en.getD f [],q,w,hg,hd,hI.nv,?_,?_,hp,hr,fun x hxm=>⟨⟨(hgi.en x hxm).1,(hx x hxm).1⟩,fun a ha=>?_⟩,fun fe' hfe'=>?_⟩
   . rw [a];simp only [IF,e1,e2];exact BE (by omega)
   . rw [b];simp only [IF,e1,e2];exact BE (by omega)
   . unfold uG at ha;split at ha
     . rename_i hc;obtain ⟨m,hm⟩:=E4 hc.1;rw [hm] at ha;simp only [Ca] at ha
       have hts:∀b∈(gcP fs dt r.1 ms).ps.getD m []++[(gcP fs dt r.1 ms).rs.getD m 0],b < st.s.1.length:=fun b hb=>by
        rcases AY.1 hb with hb|hb
        . cases hp:(gcP fs dt r.1 ms).ps[m]? with
          |none=>simp [hp] at hb
          |some q=>simp only [A6,hp,Az] at hb;exact hgi.ps q (AD hp) b hb
        . simp only [A3] at hb;subst hb;cases hr:(gcP fs dt r.1 ms).rs[m]? with
          |none=>simp only [A6,hr,Option.getD_none];exact hgi.pos
          |some q=>simp only [A6,hr,Az];exact hgi.rs q (AD hr)
       obtain ⟨y,hy,hyp,hyk⟩:=(lF hg hts).2.2 a ha;exact ⟨(AF.1 hy).1,.inr ⟨y,by rw [LJ hy,hyp];exact hy,hyk⟩⟩
     . exact ⟨(hgi.en x hxm).2.2.2 a ha,.inl ((hx x hxm).2 a ha)⟩
   . rw [hfe] at hfe';cases hfe';exact ⟨hl,hI.sz f hf fe hfe⟩
end Go.Ab
namespace Go.Ab
open Go.Proofs
def APG:C->C
 | .seq _ (.seq _ (.seq (.block _ b) _))=>b
 |c=>c
theorem AEO {gs:List (List Nat)} {p:Nat} {ms:List Nat} (h:gs[p]?=some ms):(gs.map fun r=>[DV.sl (r.map CC)])[p]?=some [DV.sl (ms.map CC)]:=by rw [Ao,h];rfl
theorem AIX {fs:List FE} {dt:List Dat} {r:HQ} {ms:List Nat} (h:(ms.foldl (igF (gcP fs dt r.1 ms)) (ig0 fs ms)).s.2=true\/iI (ms.foldl (igF (gcP fs dt r.1 ms)) (ig0 fs ms)).s.1=false):Q4 fs dt r ms= .error (6,ms.headD 0):=by
 unfold Q4;simp only;rw [if_pos h]
theorem AIY {fs:List FE} {dt:List Dat} {r:HQ} {ms:List Nat} {f:Nat} (h:¬((ms.foldl (igF (gcP fs dt r.1 ms)) (ig0 fs ms)).s.2=true\/iI (ms.foldl (igF (gcP fs dt r.1 ms)) (ig0 fs ms)).s.1=false))
 (hf:ms.find? (fun f=>YZ (ms.foldl (igF (gcP fs dt r.1 ms)) (ig0 fs ms)).s.1 ((gcP fs dt r.1 ms).ps.getD f []) ((gcP fs dt r.1 ms).rs.getD f 0) ((ms.foldl (igF (gcP fs dt r.1 ms)) (ig0 fs ms)).en.getD f []))=some f):Q4 fs dt r ms= .error (9,f):=by
 unfold Q4;simp only;rw [if_neg h,hf]
theorem ALQ {fs:List FE} {dt:List Dat} {r:HQ} {ms:List Nat} (h:¬((ms.foldl (igF (gcP fs dt r.1 ms)) (ig0 fs ms)).s.2=true\/iI (ms.foldl (igF (gcP fs dt r.1 ms)) (ig0 fs ms)).s.1=false))
 (hf:ms.find? (fun f=>YZ (ms.foldl (igF (gcP fs dt r.1 ms)) (ig0 fs ms)).s.1 ((gcP fs dt r.1 ms).ps.getD f []) ((gcP fs dt r.1 ms).rs.getD f 0) ((ms.foldl (igF (gcP fs dt r.1 ms)) (ig0 fs ms)).en.getD f []))=none):Q4 fs dt r ms= .ok (ms.foldl (IF (gcP fs dt r.1 ms) (ms.foldl (igF (gcP fs dt r.1 ms)) (ig0 fs ms)).s.1 (ms.foldl (igF (gcP fs dt r.1 ms)) (ig0 fs ms)).en) r):=by
 unfold Q4;simp only;rw [if_neg h,hf]
theorem AC4 (fs:List FE) (ds:List DE) (dt:List Dat) (hF:PF fs dt) (ms:List Nat) (hne:ms≠[]) (hnd:ms.Nodup) (hm:∀f∈ms,f < fs.length) (σ0:AH) (js jn:Nat) (r:HQ) (τ:AH) (hH:HI dt σ0 τ fs.length js jn r) (Q:AV->AH->Prop) (k:List CI) (a40 a41 a42:DV)
 (hbad:∀(e:Int) (m:Nat) τ' k',Q4 fs dt r ms= .error (e,m)->σ0.le τ'->Run Bd Q (.code .ret::k') (put 2 (.lp 2 0) (put 3 (.lp 3 0) U)) (Ar 2 [.Af,.Af] (Ar 3 [.d (.int .i64 e),.d (.int .i64 (m:Int)),.d (.int .i64 0)] E)) τ')
 (hk:∀r' τ',Q4 fs dt r ms= .ok r'->HI dt σ0 τ' fs.length js jn r'->(∀f∈ms,dW fs dt r' f)->(∀f,f ∉ ms->r'.1[f]?=r.1[f]?/\r'.2[f]?=r.2[f]?)->
   Run Bd Q k (put 1 (.lp 1 0) (put 2 (.lp 2 0) (put 3 (.lp 3 0) (put 5 (dsA dt) (put 7 (.lp 7 0) (put 40 (.d a40) (put 41 (.d a41) (put 42 (.d a42) U)))))))) (LI (.sl (ds.map DE.enc)) (.sl (fs.map FE.enc)) js jn fs.length) τ'):
 ∀(τ1:AH) (i jm jp jr je j:Nat) (τ0:AH),NGI τ τ0 fs.length (.sl (ds.map DE.enc)) (.sl (fs.map FE.enc)) (dsA dt) (.ms js fs.length 5 eSs) i jm jp jr je j (ngP fs ms)->τ1=τ0.AM jp (psC (pgl (ngP fs ms).ps))->
 Run Bd Q (.code (OV (OV (APG Ht)))::k) (put 1 (.lp 1 0) (put 2 (.lp 2 0) (put 3 (.lp 3 0) (put 5 (dsA dt) (put 7 (.lp 7 0) (put 9 (.d (.sl (ms.map CC))) (put 10 (.gp i 0) (put 40 (.d a40) (put 41 (.d a41) (put 42 (.d a42) U)))))))))) (LI (.sl (ds.map DE.enc)) (.sl (fs.map FE.enc)) js jn fs.length) τ1:=by
 rintro τ1 i jm jp jr je j τ0 hNG rfl;obtain ⟨hS,hI,hold,hl00⟩:=AHJ hF hH hm hnd hne hNG;generalize hext:exN i je j (τ0.AM jp (psC (pgl (ngP fs ms).ps)))=ext0 at hS hI hold;generalize τ0.AM jp (psC (pgl (ngP fs ms).ps))=τ1 at *;have holdσ:∀k c,σ0.blk k=some c->ext0 k=some c:=fun k c hk=>hold k c (hH.mo.blk k c hk);have hmod:=@AIX fs dt r ms;have hexc:=@AIY fs dt r ms;have hokk:=@ALQ fs dt r ms;unfold Ht;simp only [APG,OV];rw [dsA] at hk ⊢;(repeat' (refine wQ mxQ rfl ?_<;>try simp only [AA,go_sem]));refine tR (gB fs ds dt r ms i je jm jp jr js) ext0 ms hS σ0 Q _ (.sl (ds.map DE.enc)) (.sl (fs.map FE.enc)) js jn fs.length (ig0 fs ms) τ1 _ j hI (.sl (dt.map Dat.enc)) a40 a41 a42 (fun τ2 c es ext j2 hI2=>?_);have hG:(gB fs ds dt r ms i je jm jp jr js).G=gcP fs dt r.1 ms:=rfl;have hBi:(gB fs ds dt r ms i je jm jp jr js).i=i:=rfl;rw [hG] at hI2;generalize hst:ms.foldl (igF (gcP fs dt r.1 ms)) (ig0 fs ms)=st at *;have hl0:st.s.1≠[]:=fun e=>by have:=hI2.gi0.pos;simp only [GS.nx,e] at this;cases this
 have hln:st.s.1.length<=900000000:=by
  have h1:st.s.1.length<=1000+1000000 * szM fs ms:=hI2.hi;have h2:szM fs ms<=Yx fs:=AIU fs hnd;have:=hF.sz;omega
 have hbi:=hI2.sn.blk;rw [Eo hl0,hBi] at hbi
 obtain ⟨m0,hm0⟩:∃m0,ms[0]?=some m0:=by
  cases ms with
  |nil=>exact absurd rfl hne
  |cons a l=>exact ⟨a,rfl⟩
 have hmh:ms.headD 0=m0:=by
  cases ms with
  |nil=>exact absurd rfl hne
  |cons a l=>simpa using hm0
 have hm0r:=H0 hm0;have hmo:∀τ',(∀k c,ext k=some c->τ'.blk k=some c)->(nbH σ0).le τ'->σ0.le τ':=fun τ' h1 h2=>Mo.le ⟨fun k c hk=>h1 k c (hI2.sub k c (holdσ k c hk)),h2⟩;have htx:TX ((gB fs ds dt r ms i je jm jp jr js).w ext c es) ext st.s.1 st.s.2 j2 τ2:=⟨hI2.sn,hI2.x,hI2.xi,hI2.jj.1⟩;rw [hBi];cases hfl:st.s.2 with
 |true=>
  rw [hfl] at hbi;have he:=hmod (.inl hfl);rw [hmh] at he;(repeat' (first|refine ctQ rfl ?_|((first|refine rgQ mxQ ?_|refine cdQ ?_|(refine A9 rfl (fun h=>?_) (fun h=>?_)<;>try (cases h;done)))<;>try simp only [hbi,go_sem])|(refine ⟨fun h=>?_,fun h=>?_⟩<;>first|(cases h;done)|try simp only [h])|fail));refine Run.J5 mixed ?_;simp only [hm0r,Int.le_refl,Int.toNat_zero,go_sem]
  first
   |exact hbad 6 m0 τ2 _ he (hmo τ2 hI2.x hI2.nb)
   |(refine ⟨?_,?_⟩<;>exact hbad 6 m0 τ2 _ he (hmo τ2 hI2.x hI2.nb))
 |false=>
  rw [hfl] at hbi;(repeat' (refine wQ mxQ rfl ?_<;>try simp only [hbi,go_sem]));have hs2:=hI2.sn;have hfc:=cR i _ st.s.1 st.s.2 j2 τ2 hl0 hln hs2;refine AJ.mk rfl hfc ?_;rintro _ τ3 ⟨rfl,j3,sn3,fr3⟩;have htx3:=htx.step hl0 sn3 fr3;have hnb3:=DW hI2.nb (fr3.nb2 (IB τ2));cases hfin:iI st.s.1 with
  |false=>
   have he:=hmod (.inr hfin);rw [hmh] at he;simp only [go_sem];(repeat' (first|refine ctQ rfl ?_|((first|refine rgQ mxQ ?_|refine cdQ ?_|(refine A9 rfl (fun h=>?_) (fun h=>?_)<;>try (cases h;done)))<;>try simp only [go_sem])|(refine ⟨fun h=>?_,fun h=>?_⟩<;>first|(cases h;done)|try simp only [h])|fail));refine Run.J5 mixed ?_;simp only [hm0r,Int.le_refl,Int.toNat_zero,go_sem]
   first
    |exact hbad 6 m0 τ3 _ he (hmo τ3 htx3.x hnb3)
    |(refine ⟨?_,?_⟩<;>exact hbad 6 m0 τ3 _ he (hmo τ3 htx3.x hnb3))
  |true=>
   have hnn:¬(st.s.2=true\/iI st.s.1=false):=by rw [hfl,hfin];simp
   obtain ⟨d,hd⟩:=AGO sn3.Gw hfin;simp only [go_sem];(repeat' (first|refine ctQ rfl ?_|((first|refine rgQ mxQ ?_|refine cdQ ?_|(refine A9 rfl (fun h=>?_) (fun h=>?_)<;>try (cases h;done)))<;>try simp only [go_sem])|(refine ⟨fun h=>?_,fun h=>?_⟩<;>first|(cases h;done)|try simp only [h])|fail));refine AJ.mk rfl (fT i _ st.s.1 st.s.2 j3 τ3 hl0 hln sn3) ?_;rintro _ τ4 ⟨j1,jc3,jc4,jz,rfl,hmo4,hjz,hsx,x1,x3,x4⟩;have hxi:ext i=none:=hI2.xi
   have hext:∀k c,ext k=some c->exT i j3 jz τ4 k=some c:=fun k c hk=>by
    have h1:=htx3.x k c hk;refine JS (hmo4.blk k c h1) (fun e=>by rw [e,hxi] at hk;cases hk) (fun e=>by rw [e,htx3.xj] at hk;cases hk) (fun e=>by rw [e,hjz] at h1;cases h1)
   have hje2:τ3.blk je=some es:=by rw [fr3.blk je (A5 hS.ie) (fun _=>A5 hI2.jj.2) (by rw [show τ2.blk je=some es from hI2.e];simp)];exact hI2.e
   have hj3:j3≠je:=by
    rcases fr3.nw hl0 with ⟨_,e⟩|e
    . rw [e];exact hI2.jj.2
    . exact fun e2=>by rw [e2,show τ2.blk je=some es from hI2.e] at e;cases e
   have hjz2:je≠jz:=fun e=>by rw [<- e,hje2] at hjz;cases hjz
   have hxe:exT i j3 jz τ4 je=some es:=JS (hmo4.blk _ _ hje2) (A5 hS.ie) (A5 hj3) hjz2
   have hM:MF (gB fs ds dt r ms i je jm jp jr js) ms es st (exT i j3 jz τ4):=⟨hext _ _ (hI2.sub _ _ hS.m),hext _ _ (hI2.sub _ _ hS.p),hext _ _ (hI2.sub _ _ hS.r),hxe,hI2.el,fun f hf=>by
    obtain ⟨jc,h1,h2,_⟩:=hI2.cell f hf;exact ⟨jc,h1,fun hn=>hext _ _ (h2 hn)⟩,hI2.gi,hI2.gi0⟩
   have hJE:JE (exT i j3 jz τ4) i st.s.1 d jz j1 jc3 jc4:=⟨hln,hd,x1,x3,x4⟩;have hjs2:exT i j3 jz τ4 js=some (Tw r.1):=hext _ _ (hI2.sub _ _ (hold _ _ hH.b1));have hjn2:exT i j3 jz τ4 jn=some (ntC r.2):=hext _ _ (hI2.sub _ _ (hold _ _ hH.b2));have hjsx:ext0 js=some (Tw r.1):=hold _ _ hH.b1;have hjnx:ext0 jn=some (ntC r.2):=hold _ _ hH.b2;simp only [go_sem];(repeat' (first|refine ctQ rfl ?_|((first|refine rgQ mxQ ?_|refine cdQ ?_|(refine A9 rfl (fun h=>?_) (fun h=>?_)<;>try (cases h;done)))<;>try simp only [AA,go_sem])|(refine ⟨fun h=>?_,fun h=>?_⟩<;>first|(cases h;done)|try simp only [h])|fail));refine tQ (gB fs ds dt r ms i je jm jp jr js) ext0 ms hS c es st (exT i j3 jz τ4) hM d σ0 jz j1 jc3 jc4 hl0 hJE Q _ (.sl (ds.map DE.enc)) (.sl (fs.map FE.enc)) js jn fs.length (.sl (dt.map Dat.enc)) a40 a41 a42 τ4 ⟨DW hnb3 hmo4.nb,_,j3,KN.zero st.s.1,hsx⟩ ?_ ?_
   . rintro f τ5 k' hf ⟨hnb5,kn,j5,hkn,hs5⟩;exact hbad 9 f τ5 k' (hexc hnn hf) (hmo τ5 (fun k c hk=>hs5.x k c (hext k c hk)) hnb5)
   . rintro τ5 hno ⟨hnb5,kn,j5,hkn,hs5⟩;have hdone:=AGS hF hS hI2 hd hno hH.l1 hH.l2 hH.so;have htg:=hokk hnn hno;have hlen:=kE (gcP fs dt r.1 ms) st.s.1 st.en ms r;have hrest:=fun f (hf:f ∉ ms)=>(rC (gcP fs dt r.1 ms) st.s.1 st.en ms r f hnd).1 hf;have hnis:i≠js:=fun e=>by have:=hI2.xi;rw [hBi,e,hI2.sub _ _ hjsx] at this;cases this
     have hnin:i≠jn:=fun e=>by have:=hI2.xi;rw [hBi,e,hI2.sub _ _ hjnx] at this;cases this
     have hx5:=hs5.xj hl0
     have htx5:TX ((gB fs ds dt r ms i je jm jp jr js).w (Hc ext je es) c es) (exR (Hc ext je es) js jn r) st.s.1 st.s.2 j5 τ5:=by
      refine ⟨hs5.sn,fun k5 cs hkk=>?_,p6 r hnis hnin ?_,p6 r (fun e=>by rw [e,hjs2] at hx5;cases hx5) (fun e=>by rw [e,hjn2] at hx5;cases hx5) ?_⟩
      . unfold exR at hkk;split at hkk
        . rename_i e;subst e;cases hkk;exact hs5.x _ _ hjs2
        . split at hkk
          . rename_i e;subst e;cases hkk;exact hs5.x _ _ hjn2
          . unfold Hc at hkk;split at hkk
            . rename_i e;subst e;cases hkk;exact hs5.x _ _ hxe
            . exact hs5.x _ _ (hext _ _ hkk)
      . show (if i=je then some es else ext i)=none;rw [if_neg (show i≠je from hS.ie)];exact hxi
      . unfold Hc;rw [if_neg (fun e=>by rw [e,hxe] at hx5;cases hx5)];cases he:ext j5 with
        |none=>rfl
        |some cs=>rw [hext _ _ he] at hx5;cases hx5
     have hnejs:je≠js:=fun e=>by have:=hI2.xe;have h1:=hI2.sub _ _ hjsx;rw [<- e] at h1;rw [show (gB fs ds dt r ms i je jm jp jr js).je=je from rfl,h1] at this;cases this
     have hnejn:je≠jn:=fun e=>by have:=hI2.xe;have h1:=hI2.sub _ _ hjnx;rw [<- e] at h1;rw [show (gB fs ds dt r ms i je jm jp jr js).je=je from rfl,h1] at this;cases this
     have hput:∀r',∀k c,ext k=some c->k≠js->k≠jn->exR (Hc ext je es) js jn r' k=some c:=fun r' k c hk h1 h2=>by
      unfold exR;rw [if_neg h1,if_neg h2];unfold Hc;rw [if_neg (fun e=>by rw [e,show ext je=none from hI2.xe] at hk;cases hk)];exact hk
     have hM2:∀r',MF (gB fs ds dt r ms i je jm jp jr js) ms es st (exR (Hc ext je es) js jn r'):=fun r'=>by
      obtain ⟨_,f2,f3,f4,_⟩:=hNG.fr;have hfr:∀k,τ.blk k=none->k≠js/\k≠jn:=fun k h=>⟨fun e=>(by rw [e,hH.b1] at h;cases h),fun e=>(by rw [e,hH.b2] at h;cases h)⟩;refine ⟨hput r' _ _ (hI2.sub _ _ hS.m) (hfr _ f2).1 (hfr _ f2).2,hput r' _ _ (hI2.sub _ _ hS.p) (hfr _ f3).1 (hfr _ f3).2,hput r' _ _ (hI2.sub _ _ hS.r) (hfr _ f4).1 (hfr _ f4).2,?_,hI2.el,fun f hf=>?_,hI2.gi,hI2.gi0⟩
      . show exR (Hc ext je es) js jn r' je=some es;unfold exR;rw [if_neg hnejs,if_neg hnejn];exact iG _ _ _
      . obtain ⟨jc,h1,h2,h3⟩:=hI2.cell f hf;exact ⟨jc,h1,fun hn=>hput r' _ _ (h2 hn) (fun e=>by rw [e,hjsx] at h3;cases h3) (fun e=>by rw [e,hjnx] at h3;cases h3)⟩
     (repeat' (refine wQ mxQ rfl ?_<;>try simp only [AA,go_sem]));refine tS (gB fs ds dt r ms i je jm jp jr js) ext0 ms hS c es st (Hc ext je es) js jn hH.ne hM2 d hd hl0 hln hno (fun q hq=>hS.gv.ps q hq) Q _ (.sl (ds.map DE.enc)) (.sl (fs.map FE.enc)) (.sl (dt.map Dat.enc)) a40 a41 a42 r hH.l1 hH.l2 σ0 τ5 j5 hnb5 htx5 (fun τ6 j6 hnb6 htx6=>?_);refine hk _ τ6 htg ⟨⟨fun k c hk=>?_,hnb6⟩,hH.j1,hH.j2,hH.ne,htx6.x js _ (by simp [exR,hG]),htx6.x jn _ (by simp [exR,A5 hH.ne,hG]),by rw [hlen.1];exact hH.l1,by rw [hlen.2];exact hH.l2,hdone.1⟩ hdone.2 hrest;exact htx6.x k c (hput _ k c (hI2.sub _ _ (holdσ k c hk)) (fun e=>by rw [e,hH.j1] at hk;cases hk) (fun e=>by rw [e,hH.j2] at hk;cases hk))
end Go.Ab
