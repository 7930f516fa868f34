/- Part Os. Conditions: none. -/
import Derived.Test.YtfppaadffckcoaaGreatXNo
set_option linter.unusedSimpArgs false
set_option linter.unusedVariables false
set_option maxRecDepth 100000
set_option maxHeartbeats 40000000
open Go.Proofs.Tryz renaming prog→Tzp
open List renaming mem_append→A0,mem_singleton→A6,mem_map→Be,foldl_cons→Ao,mem_cons_of_mem→AR,mem_cons_self→AS,length_cons→A1,mem_of_getElem?→AE,length_append→AX,getElem?_of_mem→N1,range'→Af,getD_eq_getElem?_getD→Ac,getElem?_set_ne→BG,countP_le_length→V7,getElem?_cons_zero→BM,set_cons_zero→LL,countP_cons→GH,set_cons_succ→CU,getElem?_eq_some_iff→AG,getElem?_set_self→BI,mem_cons→Ar,replicate→AF,getElem?_replicate→R0,range→BA,mem_range→CJ,length_map→AA,all_eq_true→A8,take_of_length_le→AM,map_cons→AD,map_nil→AJ,take→Ek,drop→EG,append_nil→BW,nil_append→As,length_take→B4,map_append→Ay,drop_length→Jk,length_drop→Cm,contains_cons→Qg,foldlM_cons→OP,getElem?_map→Aj,any_cons→MV,map_congr_left→DL,getElem?_set→B3,ext_getElem?→FO,getElem?_range→ED,getElem?_eq_none→B9,length_nil→CG,length_set→LW,find?_eq_none→Qi,pairwise_cons→LK,filter_append→Qh,length_filter_le→MW,replicate_succ→B1,flatten_cons→BU,mem_filter→Yq,mem_or_eq_of_mem_set→fM,length_singleton→EH,getElem_of_mem→Bt,getElem_mem→H8,sum_cons→FK,mem_append_left→Cv,foldl_append→Cq,nodup_append→Gs,take_length→BR,take_zero→Cn,take_length_add_append→aC,drop_length_add_append→HX,take_succ_cons→Cj,drop_succ_cons→FX,cons_append→AZ
open Bool renaming and_eq_true→AO,eq_false_iff→C5,false_and→Bp,and_true→B7,or_eq_false_iff→GU,false_eq_true→A3,not_eq_true→Vo,or_false→H2,eq_iff_iff→An,or_eq_true→DI
open Option renaming map_some→Ah,getD_some→BC,bind_eq_bind→AQ,bind_eq_some_iff→AB,bind_some→El,isSome_iff_exists→JI
open Option.some renaming injEq→AL
open Ne renaming symm→A9
open Nat renaming le_trans→Ap,eq_zero_or_pos→LM,min_eq_left→Dd,le_refl→AW,zero_add→BJ,strongRecOn→Qe,mul_one→A5,lt_or_ge→C7,mul_le_mul_right→Bw,succ_mul→OQ,zero_mul→OR,add_mul→CK
open Except.ok renaming injEq→Db
open Prod.mk renaming injEq→Bb
open Int renaming toNat_natCast→DS
namespace Go.Ab
def shp (dt:List Dat) (k n:Int) (m:Nat):Prop:=
 ((k=0\/k=1\/k=2\/k=3)/\n=0/\m=0)\/(k=5/\∃D,0<=n/\dt[n.toNat]?=some D/\(m:Int)=D.vars)\/(k=6/\n=0/\2<=m/\m<=6)\/((k=7\/k=8)/\n=0/\m=1)\/(k=9/\n=0/\1<=m/\m<=7)
def NV (dt:List Dat) (l:List Nd):Prop:=∀x∈l,shp dt x.k x.n x.ar.length
mutual
def Ty.sh (dt:List Dat):Ty->Prop
 | .mk k n us=>(k=4\/shp dt k n us.length)/\Ty.shs dt us
def Ty.shs (dt:List Dat):List Ty->Prop
 |[]=>True
 |t::ts=>Ty.sh dt t/\Ty.shs dt ts
end
theorem Ty.JM {dt:List Dat}:∀ {l:List Ty},Ty.shs dt l↔∀t∈l,t.sh dt
 |[]=>by simp [Ty.shs]
 |t::l=>by rw [Ty.shs,Ty.JM];simp
variable {dt:List Dat}
theorem NV.nil:NV dt []:=fun x h=>by simp at h
theorem NV.add {l:List Nd} (h:NV dt l) {k n:Int} {ar:List Nat} (hs:shp dt k n ar.length):NV dt (LY l k n ar):=fun x hx=>by
 rw [LY] at hx;rcases A0.1 hx with hx|hx
 . exact h x hx
 . simp only [A6] at hx;subst hx;exact hs
theorem fF (dt:List Dat):shp dt 0 0 0:= .inl ⟨.inl rfl,rfl,rfl⟩
theorem NV.aX {l:List Nd} (h:NV dt l):∀n,NV dt (G2 l n)
 |0=>h
 |n+1=>by rw [G2];exact (NV.aX h n).add (fF dt)
theorem NV.P6 {l:List Nd} (h:NV dt l) (a b:Nat):NV dt (P6 a b l):=fun x hx=>by
 unfold Go.Ab.P6 at hx;obtain ⟨y,hy,rfl⟩:=Be.1 hx;split<;>exact h y hy
theorem NV.LH:∀(k:Nat) {s:SS} (a b:Nat),NV dt s.1->NV dt (LH k s a b).1
 |0,s,a,b,h=>h
 |k+1,s,a,b,h=>by
  have hf:∀(ps:List (Nat×Nat)) (q:SS),NV dt q.1->NV dt (ps.foldl (fun s x=>Go.Ab.LH k s x.1 x.2) q).1:=by
   intro ps
   induction ps with
   |nil=>intro q h;exact h
   |cons p ps ih=>intro q h;rw [Ao];exact ih _ (NV.LH k p.1 p.2 h)
  rw [Go.Ab.LH]
  repeat' split
  all_goals first
   |exact h
   |exact h.P6 _ _
   |exact hf _ _ (h.P6 _ _)
theorem NV.uni {s:SS} (h:NV dt s.1) (a b:Nat):NV dt (Go.Ab.uni s a b).1:=NV.LH _ a b h
mutual
theorem NV.FU (ar:List Nat):∀(l:List Nd) (t:Ty),NV dt l->t.sh dt->NV dt (FU ar l t).2
 |l,.mk k n us,h,ht=>by
  rw [Ty.sh] at ht;rw [Go.Ab.FU];split
  . exact h
  . rename_i hk;exact (NV.Bh ar l us h ht.2).add (by rw [Mw];exact ht.1.resolve_left hk)
theorem NV.Bh (ar:List Nat):∀(l:List Nd) (ts:List Ty),NV dt l->Ty.shs dt ts->NV dt (Bh ar l ts).2
 |l,[],h,_=>h
 |l,t::ts,h,ht=>by
  rw [Ty.shs] at ht;exact NV.Bh ar _ ts (NV.FU ar l t h ht.1) ht.2
end
structure GVv (G:GC):Prop where
 vr:∀D∈G.dt,0<=D.vars
 dt:∀D∈G.dt,∀c∈D.cons,Ty.shs G.dt c.args
 sch:∀s∈G.sch,Ty.shs G.dt s.params/\s.res.sh G.dt/\s.params.length<=6
 ps:∀l∈G.ps,l.length<=6
def PEv (G:GC) (e:Ex):Prop:=∀env g,NV G.dt g.s.1->NV G.dt (Bg G e env g).2.s.1
variable {G:GC}
theorem pP:∀ {ks:List Ex},(∀k∈ks,PEv G k)->∀env g,NV G.dt g.s.1->NV G.dt (CO G ks env g).2.s.1
 |[],_,env,g,h=>h
 |k::ks,hk,env,g,h=>by
  rw [CO];exact pP (fun x hx=>hk x (AR _ hx)) env _ (hk k (AS) env g h)
theorem Y8:∀(ks:List Ex) (env:Env) (g:GS),(CO G ks env g).1.length=ks.length
 |[],env,g=>rfl
 |k::ks,env,g=>by rw [CO];simp only [A1,Y8 ks]
theorem Rl {ks:List Ex} (hk:∀k∈ks,PEv G k) (env:Env) (g:GS) (h:NV G.dt g.s.1):NV G.dt (Gw G ks env g).2.s.1:=by
 cases ks with
 |nil=>exact h
 |cons k ks=>rw [Gw];exact hk k (AS) env g h
theorem eQ {ks:List Ex} (hk:∀k∈ks,PEv G k) (env:Env) (g:GS) (h:NV G.dt g.s.1):NV G.dt (Lq G ks env g).2.s.1:=by
 cases ks with
 |nil=>exact h
 |cons k ks=>rw [Lq];exact Rl (fun x hx=>hk x (AR _ hx)) env g h
theorem ARJ {ks:List Ex} (hk:∀k∈ks,PEv G k) (env:Env) (g:GS) (h:NV G.dt g.s.1):NV G.dt (Vk G ks env g).2.s.1:=by
 cases ks with
 |nil=>exact h
 |cons k ks=>rw [Vk];exact eQ (fun x hx=>hk x (AR _ hx)) env g h
theorem mE:∀ {ks:List Ex},(∀k∈ks,PEv G k)->∀(env:Env) (i:Nat) (f:Nat->Nat->SS->SS) (g:GS),(∀i r s,NV G.dt s.1->NV G.dt (f i r s).1)->NV G.dt g.s.1->NV G.dt (DC G ks env i f g).s.1
 |[],_,env,i,f,g,_,h=>h
 |k::ks,hk,env,i,f,g,hf,h=>by
  rw [DC];exact mE (fun x hx=>hk x (AR _ hx)) env (i+1) f _ hf (hf _ _ _ (hk k (AS) env g h))
theorem AG1 (hG:GVv G) {D:Dat} (hD:D∈G.dt):∀ {al:List Al},(∀a∈al,PEv G a.body)->∀(env:Env) (ar:List Nat) (t:Nat) (g:GS),NV G.dt g.s.1->NV G.dt (M3 G al env D ar t g).s.1
 |[],_,env,ar,t,g,h=>h
 | .mk c vs b::al,ha,env,ar,t,g,h=>by
  rw [M3];refine AG1 hG hD (fun x hx=>ha x (AR _ hx)) env ar t _ ?_;refine NV.uni (ha _ (AS) _ _ ?_) _ _;refine NV.Bh ar _ _ h ?_;cases hc:D.cons[((EV G.dt c).map (·.2)).getD 0]? with
  |none=>simp [Ty.shs]
  |some cc=>exact hG.dt D hD cc (AE hc)
theorem AUD (hG:GVv G) (env:Env) (nm:Str) (k0:Nat) (g:GS) (h:NV G.dt g.s.1):NV G.dt (W9 G env nm k0 g).2.s.1:=by
 unfold W9;cases Lr env nm with
 |some t=>exact h
 |none=>
  simp only;generalize (C9 (Bo G.fs) nm).getD 0=f;unfold AOC;split
  . refine NV.add h (.inr (.inr (.inr (.inr ⟨rfl,rfl,by simp,?_⟩))));cases hp:G.ps[f]? with
    |none=>simp [hp]
    |some l=>have:=hG.ps l (AE hp);simp [hp];omega
  . split
    . exact h
    . rename_i s hs;have hs:=hG.sch s (AE hs);unfold AT5;have h1:NV G.dt (g.frs s.vars.toNat).s.1:=NV.aX h _;refine NV.add (NV.FU _ _ _ (NV.Bh _ _ _ h1 hs.1) hs.2.1) (.inr (.inr (.inr (.inr ⟨rfl,rfl,by simp,?_⟩))));rw [AX,Mw];simp;exact hs.2.2
def ATX (k0:Nat) (r:Nat×GS):Nat×GS:=(r.1,r.2.Sx k0 fun e=> { e with t:=r.1})
theorem ATY (k0:Nat) (r:Nat×GS):(ATX k0 r).2.s=r.2.s:=rfl
theorem uE (G:GC) (o:Int) (nm:Str) (nu:Int) (ns:List Str) (ks:List Ex) (al:List Al) (env:Env) (g0:GS):Bg G (.mk o nm nu ns ks al) env g0=ATX g0.en.length (AAC G o nm nu ns ks al env g0.en.length { g0 with en:=g0.en++[⟨0,-1,[]⟩]}):=nX G o nm nu ns ks al env g0
theorem ARI (hG:GVv G):∀(N:Nat) (e:Ex) (sc:List Str),e.size<=N->OkE G e sc->PEv G e:=by
 intro N
 induction N with
 |zero=>intro e sc h;have:=Ex.size_pos e;omega
 |succ N ih=>
 rintro ⟨o,nm,nu,ns,ks,al⟩ sc hsz hok env g hg
 have hkl:∀k∈ks,PEv G k:=fun k hk=>by
  obtain ⟨i,hi⟩:=N1 hk;refine ih k _ ?_ (hok.kid hi);have:=Ex.Fj hk;simp only [Ex.size] at hsz;omega
 have hal:∀a∈al,PEv G a.body:=fun a ha=>by
  refine ih a.body _ ?_ (hok.alt ha);have:=Al.Fj ha;obtain ⟨c,vs,b⟩:=a;simp only [Ex.size,Al.size,Al.body] at hsz this ⊢;omega
 have hnb:=hok.me.2;simp only [nb1,Lu,Ex.op,Ex.name,Ex.num,Ex.names,Ex.kids,Ex.alts,AO] at hnb;obtain ⟨⟨⟨⟨_,_⟩,hns⟩,_⟩,hnk⟩:=hnb;rw [uE,ATY];have hg1:NV G.dt (⟨g.s,g.en++[⟨0,-1,[]⟩]⟩:GS).s.1:=hg;generalize (⟨g.s,g.en++[⟨0,-1,[]⟩]⟩:GS)=g1 at hg1;generalize g.en.length=k0;clear hg g hsz;unfold AAC;have hl:∀(x n:Nat),(Af x n).length=n:=fun x n=>by simp
 by_cases h:o=4
 . rw [if_pos h];exact AUD hG env nm k0 g1 hg1
 rw [if_neg h];clear h;by_cases h:o=1\/o=2\/o=3\/o=15
 . rw [if_pos h];refine NV.add hg1 (.inl ⟨?_,rfl,rfl⟩);unfold r6;split;omega;split<;>omega
 rw [if_neg h];clear h;by_cases h:o=5
 . rw [if_pos h];subst h;simp [nkB] at hnk;exact NV.add (pP hkl env g1 hg1) (.inr (.inr (.inl ⟨rfl,rfl,by rw [Y8];omega,by rw [Y8];omega⟩)))
 rw [if_neg h];clear h;by_cases h:o=6
 . rw [if_pos h];cases EV G.dt nm with
   |none=>exact hg1
   |some x=>
    obtain ⟨d,c⟩:=x;simp only;cases hd:G.dt[d]? with
    |none=>exact hg1
    |some D=>
     have hD:=AE hd;have hv:=hG.vr D hD;refine NV.add (mE hkl env 0 _ _ (fun i r s hs=>?_) (NV.aX hg1 _)) (.inr (.inl ⟨rfl,D,by omega,by simpa using hd,by rw [hl];omega⟩));refine NV.uni (s:=(_,_)) (NV.FU _ _ _ hs ?_) _ _;cases hc:D.cons[c]? with
     |none=>simp [Ty.sh,Ty.shs,fF]
     |some cc=>
      have h1:=Ty.JM.1 (hG.dt D hD cc (AE hc));simp only [Ah,BC];cases ht:cc.args[i]? with
      |none=>simp [ht,Ty.sh,Ty.shs,fF]
      |some t=>simp only [Ac,ht,BC];exact h1 t (AE ht)
 rw [if_neg h];clear h;by_cases h:o=10
 . rw [if_pos h];cases al with
   |nil=>exact hg1
   |cons a al=>
    simp only;cases EV G.dt a.con with
    |none=>exact hg1
    |some x=>
     obtain ⟨d,c⟩:=x;simp only;cases hd:G.dt[d]? with
     |none=>exact hg1
     |some D=>
      have hD:=AE hd;have hv:=hG.vr D hD;refine AG1 hG hD hal env _ _ _ (NV.add (NV.uni (NV.add (Rl hkl env _ (NV.aX hg1 _)) (.inr (.inl ⟨rfl,D,by omega,by simpa using hd,by rw [hl];omega⟩))) _ _) (fF _))
 rw [if_neg h];clear h;by_cases h:o=12
 . rw [if_pos h];subst h;simp [nkB] at hnk;have h1:=pP hkl env g1 hg1;have h2:=Y8 (G:=G) ks env g1;generalize CO G ks env g1=q at h1 h2 ⊢;refine NV.uni (NV.add (NV.add h1 (fF _)) (.inr (.inr (.inr (.inr ⟨rfl,rfl,by simp,?_⟩))))) _ _;simp;omega
 rw [if_neg h];clear h;by_cases h:o=13
 . rw [if_pos h];refine NV.add (mE hkl env 0 _ _ (fun i r s hs=>NV.uni (s:=(_,_)) (NV.add hs (.inl ⟨.inr (.inl rfl),rfl,rfl⟩)) _ _) hg1) (.inl ⟨?_,rfl,rfl⟩);split<;>omega
 rw [if_neg h];clear h;by_cases h:o=14
 . rw [if_pos h];refine mE hkl env 0 _ _ (fun i r s hs=>NV.uni hs _ _) ?_;refine NV.add (NV.add (NV.add (NV.add (NV.add hg1 (.inl ⟨.inr (.inl rfl),rfl,rfl⟩)) (fF _)) (.inr (.inr (.inr (.inl ⟨.inl rfl,rfl,rfl⟩))))) (.inr (.inr (.inr (.inl ⟨.inr rfl,rfl,rfl⟩))))) (.inl ⟨by omega,rfl,rfl⟩)
 rw [if_neg h];clear h;by_cases h:o=16
 . rw [if_pos h];exact NV.add (NV.uni (NV.add (Rl hkl env g1 hg1) (.inl ⟨.inr (.inl rfl),rfl,rfl⟩)) _ _) (fF _)
 rw [if_neg h];clear h;by_cases h:o=7
 . rw [if_pos h];exact eQ hkl _ _ (Rl hkl env g1 hg1)
 rw [if_neg h];clear h;by_cases h:o=8
 . rw [if_pos h];subst h;simp [nsB] at hns;exact eQ hkl _ _ (NV.uni (NV.add (Rl hkl env _ (NV.aX hg1 _)) (.inr (.inr (.inl ⟨rfl,rfl,by rw [hl];omega,by rw [hl];omega⟩)))) _ _)
 rw [if_neg h];clear h;by_cases h:o=9
 . rw [if_pos h];exact NV.uni (ARJ hkl _ _ (eQ hkl _ _ (NV.uni (NV.add (Rl hkl env _ hg1) (.inl ⟨by omega,rfl,rfl⟩)) _ _))) _ _
 rw [if_neg h];clear h;by_cases h:o=11
 . rw [if_pos h];subst h;simp [nsB] at hns;refine NV.add (Rl hkl _ _ (NV.aX hg1 _)) (.inr (.inr (.inr (.inr ⟨rfl,rfl,by simp,?_⟩))));simp;omega
 rw [if_neg h];exact NV.uni (eQ hkl _ _ (NV.add (Rl hkl env _ hg1) (.inl ⟨.inr (.inl rfl),rfl,rfl⟩))) _ _
end Go.Ab
namespace Go.Ab
theorem Y9 (l:List Nd):∀(k:Nat) (st:List Nat) (n x v:Nat),st[x]?=some v->v≠0->(HY l k st n).2[x]?=some v
 |0,st,n,x,v,h,_=>h
 |k+1,st,n,x,v,h,hv=>by
  rw [HY];simp only;split
  . rename_i h0;have hne:rtN l n≠x:=fun e=>by rw [e,h] at h0;simp at h0;exact hv h0
    have hf:∀(us:List Nat) (q:Bool×List Nat),q.2[x]?=some v->(us.foldl (fun (q:Bool×List Nat) a=>if q.1 then HY l k q.2 a else q) q).2[x]?=some v:=by
     intro us
     induction us with
     |nil=>intro q h;exact h
     |cons a us ih=>
      intro q h;rw [Ao];refine ih _ ?_;split
      . exact Y9 l k q.2 a x v h hv
      . exact h
    have h1:=hf (((l[rtN l n]?).map Nd.ar).getD []) (true,st.set (rtN l n) 1) (by rw [BG hne];exact h);split
    . rw [BG hne];exact h1
    . exact h1
  . exact h
def c2 (st:List Nat):Nat:=st.countP (·==2)
theorem AVV (st:List Nat):c2 st<=st.length:=V7
theorem ATJ {st:List Nat} {r v:Nat} (h:st[r]?=some v) (hv:v≠2):c2 (st.set r 2)=c2 st+1:=by
 induction st generalizing r with
 |nil=>simp at h
 |cons x st ih=>
  cases r with
  |zero=>
   simp only [BM,AL] at h;subst h;have:(x==2)=false:=by simpa using hv
   simp only [c2,LL,GH,this];simp
  |succ r=>
   have:=ih (r:=r) (by simpa using h);simp only [c2,CU,GH] at this ⊢;omega
theorem APT {st:List Nat} {r:Nat} (h:st[r]?=some 0):c2 (st.set r 1)=c2 st:=by
 induction st generalizing r with
 |nil=>simp at h
 |cons x st ih=>
  cases r with
  |zero=>
   simp only [BM,AL] at h;subst h;simp [c2,LL]
  |succ r=>
   have:=ih (r:=r) (by simpa using h);simp only [c2,CU,GH] at this ⊢;omega
structure yT (l:List Nd) (st:List Nat) (d:Nat->Nat):Prop where
 len:st.length=l.length
 rk:∀r,st[r]?=some 2->d r<=c2 st/\∃x,l[r]?=some x/\x.p=r/\∀a∈x.ar,st[rtN l a]?=some 2/\d (rtN l a) < d r
theorem uG {l:List Nd} (hg:FM l):∀(k:Nat) (st:List Nat) (n:Nat) (d:Nat->Nat),zs st < k->yT l st d->n < l.length->(HY l k st n).1=true->
 ∃d',yT l (HY l k st n).2 d'/\(∀x,st[x]?=some 2->d' x=d x)/\(HY l k st n).2[rtN l n]?=some 2
 |0,st,n,d,hz,_,_,_=>by omega
 |k+1,st,n,d,hz,hi,hn,ht=>by
  obtain ⟨x,hx,hxp⟩:=hg.root hn;rw [HY] at ht ⊢;simp only at ht ⊢;generalize hr:rtN l n=r at *;by_cases h0:st[r]?=some 0
  . rw [if_pos h0] at ht ⊢;simp only [hx,Ah,BC] at ht ⊢;have hrl:r < st.length:=(AG.1 h0).1;have hz1:=AGB h0 (show (1:Nat)≠0 by decide)
    have hi1:yT l (st.set r 1) d:=by
     refine ⟨by simp [hi.len],fun m hm=>?_⟩;have hmr:r≠m:=fun e=>by rw [<- e,BI hrl] at hm;cases hm
     rw [BG hmr] at hm;obtain ⟨h1,y,hy,hyp,h2⟩:=hi.rk m hm;refine ⟨by rw [APT h0];exact h1,y,hy,hyp,fun a ha=>?_⟩;obtain ⟨h3,h4⟩:=h2 a ha;exact ⟨by rw [BG (fun e=>by rw [<- e,h0] at h3;cases h3)];exact h3,h4⟩
    have h1r:(st.set r 1)[r]?=some 1:=BI hrl
    have hf:∀(us:List Nat) (q:List Nat) (e:Nat->Nat),(∀a∈us,a < l.length)->zs q < k->yT l q e->q[r]?=some 1->(us.foldl (fun (q:Bool×List Nat) a=>if q.1 then HY l k q.2 a else q) (true,q)).1=true->
     ∃e',yT l (us.foldl (fun (q:Bool×List Nat) a=>if q.1 then HY l k q.2 a else q) (true,q)).2 e'/\(∀x:Nat,q[x]?=some 2->e' x=e x)/\(∀x:Nat,q[x]?=some 2->(us.foldl (fun (q:Bool×List Nat) a=>if q.1 then HY l k q.2 a else q) (true,q)).2[x]?=some 2)/\
      (∀a∈us,(us.foldl (fun (q:Bool×List Nat) a=>if q.1 then HY l k q.2 a else q) (true,q)).2[rtN l a]?=some 2)/\(us.foldl (fun (q:Bool×List Nat) a=>if q.1 then HY l k q.2 a else q) (true,q)).2[r]?=some 1:=by
     intro us
     induction us with
     |nil=>intro q e _ _ hq h1 _;exact ⟨e,hq,fun _ _=>rfl,fun _ h=>h,fun a ha=>by simp at ha,h1⟩
     |cons a us ih=>
      intro q e hl hzq hq h1 hT;rw [Ao,if_pos rfl] at hT ⊢;have hle:=dL l k q a;have hkp:=fun x hx=>Y9 l k q a x 2 hx (by decide);have hk1:=Y9 l k q a r 1 h1 (by decide);have hfin:=uG hg k q a e hzq hq (hl a (AS));change (us.foldl _ (HY l k q a)).1=true at hT;generalize hw:HY l k q a=wp at *;obtain ⟨wb,ws⟩:=wp
      . cases wb with
        |false=>rw [gM] at hT;cases hT
        |true=>
         obtain ⟨d1,g1,g2,g3⟩:=hfin rfl;obtain ⟨e',f1,f2,f3,f4,f5⟩:=ih ws d1 (fun b hb=>hl b (AR _ hb)) (Nat.lt_of_le_of_lt hle.2 hzq) g1 hk1 hT;refine ⟨e',f1,fun x hx=>by rw [f2 x (hkp x hx),g2 x hx],fun x hx=>f3 x (hkp x hx),fun b hb=>?_,f5⟩;rcases Ar.1 hb with rfl|hb
         . exact f3 _ g3
         . exact f4 b hb
    have hall:(x.ar.foldl (fun (q:Bool×List Nat) a=>if q.1 then HY l k q.2 a else q) (true,st.set r 1)).1=true:=ht;obtain ⟨e',f1,f2,f3,f4,f5⟩:=hf x.ar (st.set r 1) d (hg.ar r x hx) (by omega) hi1 h1r hall;generalize x.ar.foldl (fun (q:Bool×List Nat) a=>if q.1 then HY l k q.2 a else q) (true,st.set r 1)=q at *;rw [if_pos hall];have hql:r < q.2.length:=(AG.1 f5).1;have hc:=ATJ f5 (show (1:Nat)≠2 by decide);refine ⟨fun m=>if m=r then c2 q.2+1 else e' m,⟨by simp [f1.len],fun m hm=>?_⟩,fun m hm=>?_,BI hql⟩
    . by_cases e:m=r
      . subst e;refine ⟨by simp only [if_true];omega,x,hx,hxp,fun a ha=>?_⟩;have h4:=f4 a ha;have hne:rtN l a≠m:=fun e=>by rw [e,f5] at h4;cases h4
        refine ⟨by rw [BG (A9 hne)];exact h4,?_⟩;simp only [if_neg hne,if_true];have:=(f1.rk _ h4).1;omega
      . rw [BG (A9 e)] at hm;obtain ⟨h1,y,hy,hyp,h2⟩:=f1.rk m hm;refine ⟨by simp only [if_neg e];omega,y,hy,hyp,fun a ha=>?_⟩;obtain ⟨h3,h4⟩:=h2 a ha;have hne:rtN l a≠r:=fun e=>by rw [e,f5] at h3;cases h3
        exact ⟨by rw [BG (A9 hne)];exact h3,by simp only [if_neg hne,if_neg e];exact h4⟩
    . have hmr:m≠r:=fun e=>by rw [e,h0] at hm;cases hm
      simp only [if_neg hmr];exact f2 m (by rw [BG (A9 hmr)];exact hm)
  . rw [if_neg h0] at ht ⊢;exact ⟨d,hi,fun _ _=>rfl,by simpa using ht⟩
theorem uF {l:List Nd} (hg:FM l):∀(us:List Nat) (st:List Nat) (d:Nat->Nat),(∀a∈us,a < l.length)->zs st<=l.length->yT l st d->ADY l (l.length+1) st us=true->
 ∃st' d',yT l st' d'/\(∀x:Nat,st[x]?=some 2->st'[x]?=some 2)/\∀a∈us,st'[rtN l a]?=some 2
 |[],st,d,_,_,hi,_=>⟨st,d,hi,fun _ h=>h,fun a ha=>by simp at ha⟩
 |n::us,st,d,hl,hz,hi,h=>by
  rw [ADY] at h;split at h
  . rename_i ht;obtain ⟨d1,g1,g2,g3⟩:=uG hg (l.length+1) st n d (by omega) hi (hl n (AS)) ht;have hle:=dL l (l.length+1) st n;obtain ⟨st',d',f1,f2,f3⟩:=uF hg us _ d1 (fun a ha=>hl a (AR _ ha)) (Ap hle.2 hz) g1 h;refine ⟨st',d',f1,fun x hx=>f2 x (Y9 l _ st n x 2 hx (by decide)),fun a ha=>?_⟩;rcases Ar.1 ha with rfl|ha
    . exact f2 _ g3
    . exact f3 a ha
  . cases h
theorem AMI {l:List Nd} (hg:FM l) (h:nZ l=true):∃d,FR l d:=by
 have hi0:yT l (AF l.length 0) (fun _=>0):=⟨by simp,fun r hr=>by
  rw [R0] at hr;split at hr<;>cases hr⟩
 obtain ⟨st,d,h1,_,h3⟩:=uF hg (BA l.length) _ _ (fun a ha=>CJ.1 ha) (APG l.length) hi0 h;refine ⟨fun r=>if st[r]?=some 2 then d r else 0,fun r x hx hp a ha=>?_,fun r=>?_⟩
 . have hr:st[r]?=some 2:=by
    have:=h3 r (CJ.2 (AG.1 hx).1)
    rwa [MA hx,hp] at this
   obtain ⟨_,y,hy,_,h4⟩:=h1.rk r hr;rw [hx] at hy;cases hy;obtain ⟨h5,h6⟩:=h4 a ha;simp only [if_pos hr,if_pos h5];exact h6
 . by_cases e:st[r]?=some 2
   . simp only [if_pos e];have:=(h1.rk r e).1;have:=AVV st;have:=h1.len;omega
   . simp only [if_neg e];omega
end Go.Ab
namespace Go.Ab
open Go.Proofs
set_option maxRecDepth 100000
set_option maxHeartbeats 40000000
noncomputable section
noncomputable def Rw:Cx:=⟨Tzp,5,Tryz.f5,99,[3,300013,300018,300023,300030,300035,300041,300046,300053,300058,300063,300069,300076,300083,300088,300094],[],[.t 2]⟩
theorem D6:Good Rw:=⟨Tryz.func5,by kernel_rfl⟩
theorem xV:Rw.rs=[.t 2]:=rfl
noncomputable def Nr:=BO Rw [] fun c a b d e=>G c [a,b,d,e]
def L1:C:=lpC 0 (Nr .skip .skip .skip .skip)
def Pq:C:=lpC 1 (Nr L1 .skip .skip .skip)
def Wl:C:=lpC 2 (Nr L1 Pq .skip .skip)
def nB:C:=lpC 3 (Nr L1 Pq Wl .skip)
def zF:C:=(Nr L1 Pq Wl nB).1
theorem AAL:Inn Rw zF 99:=inn [] D6 Tryz.ntmps5
noncomputable def Rv:Cx:=⟨Tzp,7,Tryz.f7,73,[300014,300021,300026,300033,300039,300047,300054,300060,300067],[],[.t 4]⟩
theorem Ie:Good Rv:=⟨Tryz.func7,by kernel_rfl⟩
theorem xU:Rv.rs=[.t 4]:=rfl
noncomputable def Nq:=BO Rv [] fun c a b d e=>G c [a,b,d,e]
def LZ:C:=lpC 0 (Nq .skip .skip .skip .skip)
def Pp:C:=lpC 1 (Nq LZ .skip .skip .skip)
def Wk:C:=lpC 2 (Nq LZ Pp .skip .skip)
def m9:C:=lpC 3 (Nq LZ Pp Wk .skip)
def zE:C:=(Nq LZ Pp Wk m9).1
theorem AAK:Inn Rv zE 73:=inn [] Ie Tryz.ntmps7
def YR:List (Nat×PT):=[(5,(pL [7] (pO [0,1,2,3,4,5,6,8] .done))),(22,(pO [0,1,2,3,4,5,6,7,8,10,11,12,9,13,14,15,16,17,18] .done))]
noncomputable def MK:Cx:=⟨Tzp,9,Tryz.f9,97,[300017,300024,300026,300031,300038,300041,300048,300049,300057,300058,300064,300065,300071,300078,300080,300084,300088,300096],[],[.c 4 (some 2)]⟩
theorem XU:Good MK:=⟨Tryz.func9,by kernel_rfl⟩
theorem lP:MK.rs=[.c 4 (some 2)]:=rfl
noncomputable def Ip:=BO MK YR fun c a b d e=>G c [a,b,d,e]
def IJ:C:=lpC 0 (Ip .skip .skip .skip .skip)
def L2:C:=lpC 1 (Ip IJ .skip .skip .skip)
def R5:C:=lpC 2 (Ip IJ L2 .skip .skip)
def cT:C:=lpC 3 (Ip IJ L2 R5 .skip)
def nC:C:=(Ip IJ L2 R5 cT).1
theorem oI:Inn MK nC 97:=inn YR XU Tryz.ntmps9
noncomputable def P7:Cx:=⟨Tzp,15,Tryz.f15,27,[],[],[.t 4]⟩
theorem PR:Good P7:=⟨Tryz.func15,by kernel_rfl⟩
theorem sY:P7.rs=[.t 4]:=rfl
noncomputable def eA:=BO P7 [] fun c a=>G c [a]
def kK:C:=lpC 0 (eA .skip)
def wA:C:=(eA kK).1
theorem wS:Inn P7 wA 27:=inn [] PR Tryz.ntmps15
noncomputable def MM:Cx:=⟨Tzp,16,Tryz.f16,36,[300017,300023,300029],[],[.t 4]⟩
theorem If:Good MM:=⟨Tryz.func16,by kernel_rfl⟩
theorem lS:MM.rs=[.t 4]:=rfl
noncomputable def Xk:=BO MM [] fun c a=>G c [a]
def cX:C:=lpC 0 (Xk .skip)
def nH:C:=(Xk cX).1
theorem oL:Inn MM nH 36:=inn [] If Tryz.ntmps16
noncomputable def Rx:Cx:=⟨Tzp,17,Tryz.f17,91,[300018,300024,300030,300036,300042,300048,300057,300063,300072,300082],[],[.t 4]⟩
theorem Er:Good Rx:=⟨Tryz.func17,by kernel_rfl⟩
theorem xW:Rx.rs=[.t 4]:=rfl
noncomputable def Xh:=BO Rx [] fun c a b=>G c [a,b]
def Wn:C:=lpC 0 (Xh .skip .skip)
def nD:C:=lpC 1 (Xh Wn .skip)
def zG:C:=(Xh Wn nD).1
theorem AAM:Inn Rx zG 91:=inn [] Er Tryz.ntmps17
noncomputable def ML:Cx:=⟨Tzp,21,Tryz.f21,18,[],[],[.t 2]⟩
theorem XV:Good ML:=⟨Tryz.func21,by kernel_rfl⟩
theorem lQ:ML.rs=[.t 2]:=rfl
noncomputable def Xj:=BO ML [] fun c a=>G c [a]
def cW:C:=lpC 0 (Xj .skip)
def nF:C:=(Xj cW).1
theorem oJ:Inn ML nF 18:=inn [] XV Tryz.ntmps21
noncomputable def KX:Cx:=⟨Tzp,22,Tryz.f22,22,[300007,300010,300017],[],[.t 2]⟩
theorem Vd:Good KX:=⟨Tryz.func22,by kernel_rfl⟩
theorem iO:KX.rs=[.t 2]:=rfl
noncomputable def Vh:=BO KX [] fun c a=>G c [a]
def aH:C:=lpC 0 (Vh .skip)
def kM:C:=(Vh aH).1
theorem kX:Inn KX kM 22:=inn [] Vd Tryz.ntmps22
def kB:List (Nat×PT):=[(10,(pO [0,1,2,4,5,3,6,7,8] .done))]
noncomputable def Ry:Cx:=⟨Tzp,23,Tryz.f23,44,[300009,300012,300016,300023,300028,300036,300039],[],[.t 2]⟩
theorem jP:Good Ry:=⟨Tryz.func23,by kernel_rfl⟩
theorem xX:Ry.rs=[.t 2]:=rfl
noncomputable def Xi:=BO Ry kB fun c a b=>G c [a,b]
def Wo:C:=lpC 0 (Xi .skip .skip)
def nE:C:=lpC 1 (Xi Wo .skip)
def zH:C:=(Xi Wo nE).1
theorem AAN:Inn Ry zH 44:=inn kB jP Tryz.ntmps23
noncomputable def KY:Cx:=⟨Tzp,33,Tryz.f33,25,[],[],[.t 4]⟩
theorem Ve:Good KY:=⟨Tryz.func33,by kernel_rfl⟩
theorem iP:KY.rs=[.t 4]:=rfl
noncomputable def Vi:=BO KY [] fun c a=>G c [a]
def aJ:C:=lpC 0 (Vi .skip)
def kN:C:=(Vi aJ).1
theorem kY:Inn KY kN 25:=inn [] Ve Tryz.ntmps33
noncomputable def Fp:Cx:=⟨Tzp,34,Tryz.f34,38,[300009,300011,300014,300017,300022,300029,300030,300037],[],[.c 4 (some 3)]⟩
theorem QB:Good Fp:=⟨Tryz.func34,by kernel_rfl⟩
theorem Z3:Fp.rs=[.c 4 (some 3)]:=rfl
noncomputable def QO:=BO Fp [] fun c a=>G c [a]
def M4:C:=lpC 0 (QO .skip)
def aI:C:=(QO M4).1
theorem bA:Inn Fp aI 38:=inn [] QB Tryz.ntmps34
def YS:List (Nat×PT):=[(1,(pL [11] (pO [0,1,2,3,4,5,6,7,8,9,10,12] .done))),(12,(pO [0,1,2,3,4,5,6,8,9,10,7,11,12,13,14,15,16] .done))]
noncomputable def JC:Cx:=⟨Tzp,35,Tryz.f35,73,[300011,300013,300015,300017,300022,300025,300033,300040,300041,300049,300056,300058,300060,300064,300072],[],[.c 4 (some 6)]⟩
theorem XW:Good JC:=⟨Tryz.func35,by kernel_rfl⟩
theorem lR:JC.rs=[.c 4 (some 6)]:=rfl
noncomputable def QN:=BO JC YS fun c a b=>G c [a,b]
def L3:C:=lpC 0 (QN .skip .skip)
def R6:C:=lpC 1 (QN L3 .skip)
def nG:C:=(QN L3 R6).1
theorem oK:Inn JC nG 73:=inn YS XW Tryz.ntmps35
attribute [go_sem] xV xU lP sY lS xW lQ iO xX iP Z3 lR
end
end Go.Ab
namespace Go.Ab
open Go.Proofs
def iF (l:List Str):Bool:=l.all fun s=>decide (s.length<=40)
theorem Qu (n:Nat):decide ((40:Int) < (n:Int))=decide (40 < n):=decide_eq_decide.2 (by omega)
theorem AD3 (n:Nat):decide ((10:Int) < (n:Int))=decide (10 < n):=decide_eq_decide.2 (by omega)
theorem AQU (n:Nat):decide ((n:Int)<=(10:Int))=decide (n<=10):=decide_eq_decide.2 (by omega)
theorem NN (l:List Str) (σ:AI):AT Tzp 15 [.d (.sl (l.map BF)),.d (.int .i64 10)] σ (fun v σ'=>v= .d (.bool (decide (l.length<=10)&&iF l))/\σ'=σ):=by
 refine wS (by simp) ?_;rw [BK];refine Run.slot 0 (fun hb0=>?_);simp only [CR,if_true,AV.DW,AA] at hb0;(repeat' (refine wQ mxQ rfl ?_<;>try simp only [AA,go_sem]));refine Run.At ?_;refine Run.Au ((fun (a0:AV) (a1:AV)=>fun (i:Nat)=>put 0 a0 (put 1 a1 (put 5 (.d (.int .i64 i)) U))) _ _) (fun _=>E) (fun _=>σ) (fun i=>i<=l.length/\i<=11/\iF (l.take i)=true) (fun i=>l.length - i) ?_ 0 ⟨by simp,by simp,by simp [iF]⟩;rintro i ⟨hi,h11,hno⟩ ih;by_cases hlt:i < l.length
 . obtain ⟨x,hx⟩:=Ai hlt;have he:=Av (enc:=BF) hx;simp only [BF] at he;have hw1:IntKind.i64.wrap ((i:Int)+1)=((i+1:Nat):Int):=by rw [Ax (by omega) (by omega)];omega
   by_cases h10:i<=10
   . by_cases hs:40 < x.length
     . have hf:(decide (l.length<=10)&&iF l)=false:=by
        rw [Bool.and_eq_false_iff];right;rw [C5];intro h;rw [iF,A8] at h;have:=h x (AE hx);rw [decide_eq_true_eq] at this;omega
       (repeat' ((first|refine wQ mxQ rfl ?_|refine Run.qP PR ?_|fail)<;>try simp only [Ag hlt,he,hw1,AQU,decide_eq_true h10,Qu,decide_eq_true hs,AA,go_sem]));rw [hf]
     . (repeat' (refine wQ mxQ rfl ?_<;>try simp only [Ag hlt,he,hw1,AQU,decide_eq_true h10,Qu,decide_eq_false hs,AA,go_sem]))
       exact ih (i+1) ⟨by omega,by omega,by
        rw [Aa hx,iF,List.all_append];rw [iF] at hno;rw [hno];simp;omega⟩ (by omega)
   . have hgt:decide (l.length<=10)=false:=decide_eq_false (by omega);(repeat' ((first|refine wQ mxQ rfl ?_|refine Run.qP PR ?_|fail)<;>try simp only [Ag hlt,he,hw1,AQU,decide_eq_false h10,AA,hgt,go_sem]))
     try rw [Bp]
 . have hile:i=l.length:=by omega
   subst hile;rw [AM (by omega)] at hno;(repeat' ((first|refine wQ mxQ rfl ?_|refine Run.qP PR ?_|fail)<;>try simp only [B5 hlt,AQU,AA,go_sem]));rw [hno,B7]
mutual
def TE.sm:TE->Prop
 | .mk _ n l=>n.length<=40/\TE.sms l
def TE.sms:List TE->Prop
 |[]=>True
 |t::l=>t.sm/\TE.sms l
end
def AE1 (l:List Str):Prop:=l.length<=10/\∀s∈l,s.length<=40
mutual
def Ex.sm:Ex->Prop
 | .mk _ n _ ns ks al=>n.length<=40/\AE1 ns/\Ex.sms ks/\Al.sms al
def Ex.sms:List Ex->Prop
 |[]=>True
 |t::l=>t.sm/\Ex.sms l
def Al.sm:Al->Prop
 | .mk c vs b=>c.length<=40/\AE1 vs/\b.sm
def Al.sms:List Al->Prop
 |[]=>True
 |t::l=>t.sm/\Al.sms l
end
theorem TE.MC:∀ {l:List TE},TE.sms l↔∀t∈l,t.sm
 |[]=>by simp [TE.sms]
 |t::l=>by simp [TE.sms,TE.MC (l:=l)]
theorem Ex.MC:∀ {l:List Ex},Ex.sms l↔∀t∈l,t.sm
 |[]=>by simp [Ex.sms]
 |t::l=>by simp [Ex.sms,Ex.MC (l:=l)]
theorem Al.MC:∀ {l:List Al},Al.sms l↔∀t∈l,t.sm
 |[]=>by simp [Al.sms]
 |t::l=>by simp [Al.sms,Al.MC (l:=l)]
theorem xK {l:List Str} (h:(decide (l.length<=10)&&iF l)=true):AE1 l:=by
 simp only [iF,AO,decide_eq_true_eq,A8] at h;exact h
theorem DX {α:Type} {p:α->Prop} {l:List α} {i:Nat} {x:α} (h:∀t∈l.take i,p t) (hx:l[i]?=some x) (hp:p x):∀t∈l.take (i+1),p t:=by
 intro t ht;rw [Aa hx,A0,A6] at ht;rcases ht with ht|rfl
 . exact h t ht
 . exact hp
theorem TE.Iy {l:List TE} {i:Nat} {x:TE} (h:l[i]?=some x):TE.AU (l.take (i+1))=TE.AU (l.take i)+x.size:=by
 rw [Aa h,TE.Cb];simp [TE.AU]
theorem Ex.Iy {l:List Ex} {i:Nat} {x:Ex} (h:l[i]?=some x):Ex.AU (l.take (i+1))=Ex.AU (l.take i)+x.size:=by
 rw [Aa h,Ex.Cb];simp [Ex.AU]
theorem Al.Iy {l:List Al} {i:Nat} {x:Al} (h:l[i]?=some x):Al.AU (l.take (i+1))=Al.AU (l.take i)+x.size:=by
 rw [Aa h,Al.Cb];simp [Al.AU]
def APH (HM:Prop) (size q:Nat) (b:Bool) (z:Int):Prop:=b=true->HM/\∃q':Nat,z=q'/\size+q'=q
theorem pK {q:Nat}:decide ((q:Int) < 0)=false:=decide_eq_false (by omega)
theorem lI (j:Nat):∀(N:Nat) (t:TE) (q:Nat) (σ:AI),t.size<=N->q<=1000->σ.blk j=some [.d (.int .i64 q)]->
 AT Tzp 16 [teA t,.gp j 0] σ (fun v σ'=>∃b z,(v= .d (.bool b)/\σ'=σ.AP j [.d (.int .i64 z)])/\APH t.sm t.size q b z):=by
 intro N
 induction N with
 |zero=>intro t q σ h;have:=TE.size_pos t;omega
 |succ N ihN=>
 rintro ⟨k,n,l⟩ q σ hN hq hj;simp only [TE.size] at hN;refine oL (by simp) ?_;rw [BK,teA,TE.A2];simp only [AD,AJ];generalize hQ:(fun (v:AV) (σ':AI)=>∃b z,(v= .d (.bool b)/\σ'=σ.AP j [.d (.int .i64 z)])/\APH (TE.mk k n l).sm (TE.mk k n l).size q b z)=Q;have hno:∀z,Q (.d (.bool false)) (σ.AP j [.d (.int .i64 z)]):=fun z=>by rw [<- hQ];exact ⟨false,z,⟨rfl,rfl⟩,fun h=>by cases h⟩
 have hyes:∀q':Nat,n.length<=40->(∀t∈l,t.sm)->1+TE.AU l+q'=q->Q (.d (.bool true)) (σ.AP j [.d (.int .i64 q')]):=fun q' h1 h2 h3=>by
  rw [<- hQ];exact ⟨true,q',⟨rfl,rfl⟩,fun _=>⟨by rw [TE.sm,TE.MC];exact ⟨h1,h2⟩,q',rfl,by rw [TE.size];exact h3⟩⟩
 clear hQ;rcases LM q with rfl|hq0
 . have hm1:IntKind.i64.wrap (((0:Nat):Int) - 1)=-1:=by decide
   have hn1:decide ((-1:Int) < 0)=true:=by decide
   (repeat' ((first|refine wQ mxQ rfl ?_|(refine Run.Bf If (AI.le_refl _) ?_)|fail)<;>try simp only [hj,hm1,hn1,AK,Ek,EG,BW,As,go_sem]));exact hno _
 obtain ⟨q,rfl⟩:∃m,q=m+1:=⟨q - 1,by omega⟩;have hm1:IntKind.i64.wrap (((q+1:Nat):Int) - 1)=(q:Int):=by rw [Ax (by omega) (by omega)];omega
 by_cases h40:40 < n.length
 . (repeat' ((first|refine wQ mxQ rfl ?_|(refine Run.Bf If (AI.le_refl _) ?_)|fail)<;>try simp only [hj,hm1,pK,Qu,decide_eq_true h40,AK,Ek,EG,BW,As,go_sem]));exact hno _
 (repeat' (refine wQ mxQ rfl ?_<;>try simp only [hj,hm1,pK,Qu,decide_eq_false h40,AK,Ek,EG,BW,As,go_sem]));refine Run.At ?_
 refine Run.Au ((fun (a1:AV) (a2:AV)=>fun (y:Nat×Nat)=>put 1 a1 (put 2 a2 (put 5 (.d (.int .i64 y.1)) U))) _ _) (fun _=>Am 2 [.d (.int .i64 k),.d (.str n),.d (.sl (l.map TE.enc))] E) (fun y=>σ.AP j [.d (.int .i64 y.2)])
  (fun y=>y.1<=l.length/\(∀t∈l.take y.1,t.sm)/\TE.AU (l.take y.1)+y.2=q) (fun y=>l.length - y.1) ?_ (0,q) ⟨by simp,by simp,by simp [TE.AU]⟩
 rintro ⟨i,q'⟩ ⟨hi,hsm,hsz⟩ ih;simp only at hi hsm hsz;have hil:=TE.Bl (l.take i);rw [B4,Dd hi] at hil;by_cases hlt:i < l.length
 . obtain ⟨x,hx⟩:=Ai hlt;have he:=Av (enc:=TE.enc) hx;have hw1:=A4 (show i+1<=9000000000000000000 by omega);have hxs:=TE.Fj (AE hx);have hc:=ihN x q' (σ.AP j [.d (.int .i64 q')]) (by omega) (by omega) B0;have hst:=TE.Iy hx;have hms:=fun hp=>DX (p:=TE.sm) hsm hx hp;obtain ⟨xk,xn,xl⟩:=x;simp only [teA,TE.A2,AD,AJ] at he hc;(repeat' ((first|refine wQ mxQ rfl ?_|(refine AH.mk rfl hc ?_;rintro v σ' ⟨b,z,⟨rfl,rfl⟩,hres⟩;cases b<;>rw [Hg])|(refine Run.Bf If (AI.le_refl _) ?_)|fail)<;>try simp only [Ag hlt,he,hw1,AA,go_sem]))
   . exact hno z
   . obtain ⟨g1,q2,rfl,g2⟩:=hres rfl;exact ih (i+1,q2) ⟨by simp only;omega,hms g1,by simp only;omega⟩ (by simp only;omega)
 . rw [AM (by omega)] at hsm hsz;(repeat' ((first|refine wQ mxQ rfl ?_|(refine Run.Bf If (AI.le_refl _) ?_)|fail)<;>try simp only [B5 hlt,AA,go_sem]));exact hyes q' (by omega) hsm (by omega)
theorem xB (j:Nat):∀(N:Nat) (e:Ex) (q:Nat) (σ:AI),e.size<=N->q<=1000->σ.blk j=some [.d (.int .i64 q)]->
 AT Tzp 17 [exA e,.gp j 0] σ (fun v σ'=>∃b z,(v= .d (.bool b)/\σ'=σ.AP j [.d (.int .i64 z)])/\APH e.sm e.size q b z):=by
 intro N
 induction N with
 |zero=>intro t q σ h;have:=Ex.size_pos t;omega
 |succ N ihN=>
 rintro ⟨o,n,u,ns,ks,al⟩ q σ hN hq hj;simp only [Ex.size] at hN;refine AAM (by simp) ?_;rw [BK,exA,Ex.A2];simp only [AD,AJ];generalize hQ:(fun (v:AV) (σ':AI)=>∃b z,(v= .d (.bool b)/\σ'=σ.AP j [.d (.int .i64 z)])/\APH (Ex.mk o n u ns ks al).sm (Ex.mk o n u ns ks al).size q b z)=Q;have hno:∀z,Q (.d (.bool false)) (σ.AP j [.d (.int .i64 z)]):=fun z=>by rw [<- hQ];exact ⟨false,z,⟨rfl,rfl⟩,fun h=>by cases h⟩
 have hyes:∀q':Nat,n.length<=40->AE1 ns->(∀t∈ks,t.sm)->(∀t∈al,t.sm)->1+Ex.AU ks+Al.AU al+q'=q->Q (.d (.bool true)) (σ.AP j [.d (.int .i64 q')]):=fun q' h1 h2 h3 h4 h5=>by
  rw [<- hQ];exact ⟨true,q',⟨rfl,rfl⟩,fun _=>⟨by rw [Ex.sm,Ex.MC,Al.MC];exact ⟨h1,h2,h3,h4⟩,q',rfl,by rw [Ex.size];exact h5⟩⟩
 clear hQ;have hnm:=fun σ=>NN ns σ;rcases LM q with rfl|hq0
 . have hm1:IntKind.i64.wrap (((0:Nat):Int) - 1)=-1:=by decide
   have hn1:decide ((-1:Int) < 0)=true:=by decide
   (repeat' ((first|refine wQ mxQ rfl ?_|(refine Run.Bf Er (AI.le_refl _) ?_)|fail)<;>try simp only [hj,hm1,hn1,AK,Ek,EG,BW,As,go_sem]));exact hno _
 obtain ⟨q,rfl⟩:∃m,q=m+1:=⟨q - 1,by omega⟩;have hm1:IntKind.i64.wrap (((q+1:Nat):Int) - 1)=(q:Int):=by rw [Ax (by omega) (by omega)];omega
 by_cases h40:40 < n.length
 . (repeat' ((first|refine wQ mxQ rfl ?_|(refine Run.Bf Er (AI.le_refl _) ?_)|fail)<;>try simp only [hj,hm1,pK,Qu,decide_eq_true h40,AK,Ek,EG,BW,As,go_sem]));exact hno _
 cases hnk:(decide (ns.length<=10)&&iF ns) with
 |false=>
  rw [hnk] at hnm;(repeat' ((first|refine wQ mxQ rfl ?_|(refine Run.Bf Er (AI.le_refl _) ?_)|refine AH.det (hnm _) ?_|fail)<;>try simp only [hj,hm1,pK,Qu,decide_eq_false h40,AK,Ek,EG,BW,As,go_sem]));exact hno _
 |true=>
 rw [hnk] at hnm;by_cases hk10:10 < ks.length
 . (repeat' ((first|refine wQ mxQ rfl ?_|(refine Run.Bf Er (AI.le_refl _) ?_)|refine AH.det (hnm _) ?_|fail)<;>try simp only [hj,hm1,pK,Qu,decide_eq_false h40,AD3,AA,decide_eq_true hk10,AK,Ek,EG,BW,As,go_sem]));exact hno _
 by_cases ha10:10 < al.length
 . (repeat' ((first|refine wQ mxQ rfl ?_|(refine Run.Bf Er (AI.le_refl _) ?_)|refine AH.det (hnm _) ?_|fail)<;>try simp only [hj,hm1,pK,Qu,decide_eq_false h40,AD3,AA,decide_eq_false hk10,decide_eq_true ha10,AK,Ek,EG,BW,As,go_sem]));exact hno _
 (repeat' ((first|refine wQ mxQ rfl ?_|refine AH.det (hnm _) ?_|fail)<;>try simp only [hj,hm1,pK,Qu,decide_eq_false h40,AD3,AA,decide_eq_false hk10,decide_eq_false ha10,AK,Ek,EG,BW,As,go_sem]));refine Run.At ?_
 refine Run.Au ((fun (a1:AV) (a2:AV)=>fun (y:Nat×Nat)=>put 1 a1 (put 2 a2 (put 5 (.d (.int .i64 y.1)) U))) _ _) (fun _=>Am 2 [.d (.int .i64 o),.d (.str n),.d (.int .i64 u),.d (.sl (ns.map BF)),.d (.sl (ks.map Ex.enc)),.d (.sl (al.map Al.enc))] E) (fun y=>σ.AP j [.d (.int .i64 y.2)])
  (fun y=>y.1<=ks.length/\(∀t∈ks.take y.1,t.sm)/\Ex.AU (ks.take y.1)+y.2=q) (fun y=>ks.length - y.1) ?_ (0,q) ⟨by simp,by simp,by simp [Ex.AU]⟩
 rintro ⟨i,q'⟩ ⟨hi,hsm,hsz⟩ ih;simp only at hi hsm hsz;by_cases hlt:i < ks.length
 . obtain ⟨x,hx⟩:=Ai hlt;have he:=Av (enc:=Ex.enc) hx;have hw1:=A4 (show i+1<=9000000000000000000 by omega);have hxs:=Ex.Fj (AE hx);have hc:=ihN x q' (σ.AP j [.d (.int .i64 q')]) (by omega) (by omega) B0;have hst:=Ex.Iy hx;have hms:=fun hp=>DX (p:=Ex.sm) hsm hx hp;obtain ⟨xo,xn,xu,xns,xks,xal⟩:=x;simp only [exA,Ex.A2,AD,AJ] at he hc;(repeat' ((first|refine wQ mxQ rfl ?_|(refine AH.mk rfl hc ?_;rintro v σ' ⟨b,z,⟨rfl,rfl⟩,hres⟩;cases b<;>rw [Hg])|(refine Run.Bf Er (AI.le_refl _) ?_)|fail)<;>try simp only [Ag hlt,he,hw1,AA,go_sem]))
   . exact hno z
   . obtain ⟨g1,q2,rfl,g2⟩:=hres rfl;exact ih (i+1,q2) ⟨by simp only;omega,hms g1,by simp only;omega⟩ (by simp only;omega)
 . rw [AM (by omega)] at hsm hsz;clear ih;(repeat' (refine wQ mxQ rfl ?_<;>try simp only [B5 hlt,AA,go_sem]));refine Run.At ?_
   refine Run.Au ((fun (a1:AV) (a2:AV)=>fun (y:Nat×Nat)=>put 1 a1 (put 2 a2 (put 6 (.d (.int .i64 y.1)) U))) _ _) (fun _=>Am 2 [.d (.int .i64 o),.d (.str n),.d (.int .i64 u),.d (.sl (ns.map BF)),.d (.sl (ks.map Ex.enc)),.d (.sl (al.map Al.enc))] E) (fun y=>σ.AP j [.d (.int .i64 y.2)])
    (fun y=>y.1<=al.length/\(∀t∈al.take y.1,t.sm)/\Al.AU (al.take y.1)+y.2=q') (fun y=>al.length - y.1) ?_ (0,q') ⟨by simp,by simp,by simp [Al.AU]⟩
   rintro ⟨i2,q2⟩ ⟨hi2,hsm2,hsz2⟩ ih;simp only at hi2 hsm2 hsz2;by_cases hlt:i2 < al.length
   . obtain ⟨x,hx⟩:=Ai hlt;have he:=Av (enc:=Al.enc) hx;have hw1:=A4 (show i2+1<=9000000000000000000 by omega);have hxs:=Al.Fj (AE hx);have hst:=Al.Iy hx;have hms:=fun hp=>DX (p:=Al.sm) hsm2 hx hp;obtain ⟨xc,xvs,xb⟩:=x;rw [Al.size] at hxs hst;have hc:=ihN xb q2 (σ.AP j [.d (.int .i64 q2)]) (by omega) (by omega) B0;have hnv:=fun σ=>NN xvs σ;obtain ⟨xo,xn,xu,xns,xks,xal⟩:=xb;simp only [exA,Al.A2,Ex.A2,AD,AJ] at he hc;by_cases hc40:40 < xc.length
     . (repeat' ((first|refine wQ mxQ rfl ?_|(refine Run.Bf Er (AI.le_refl _) ?_)|fail)<;>try simp only [Ag hlt,he,Qu,decide_eq_true hc40,AA,go_sem]));exact hno _
     cases hvk:(decide (xvs.length<=10)&&iF xvs) with
     |false=>
      rw [hvk] at hnv;(repeat' ((first|refine wQ mxQ rfl ?_|(refine Run.Bf Er (AI.le_refl _) ?_)|refine AH.det (hnv _) ?_|fail)<;>try simp only [Ag hlt,he,Qu,decide_eq_false hc40,AA,go_sem]));exact hno _
     |true=>
     rw [hvk] at hnv;(repeat' ((first|refine wQ mxQ rfl ?_|(refine AH.mk rfl hc ?_;rintro v σ' ⟨b,z,⟨rfl,rfl⟩,hres⟩;cases b<;>rw [Hg])|(refine Run.Bf Er (AI.le_refl _) ?_)|refine AH.det (hnv _) ?_|fail)<;>try simp only [Ag hlt,he,hw1,Qu,decide_eq_false hc40,AA,go_sem]))
     . exact hno z
     . obtain ⟨g1,q3,rfl,g2⟩:=hres rfl;exact ih (i2+1,q3) ⟨by simp only;omega,hms (by rw [Al.sm];exact ⟨by omega,xK hvk,g1⟩),by simp only;omega⟩ (by simp only;omega)
   . rw [AM (by omega)] at hsm2 hsz2;(repeat' ((first|refine wQ mxQ rfl ?_|(refine Run.Bf Er (AI.le_refl _) ?_)|fail)<;>try simp only [B5 hlt,AA,go_sem]));exact hyes q2 (by omega) (xK hnk) hsm hsm2 (by omega)
end Go.Ab
namespace Go.Ab
open Go.Proofs
def CE.sm (c:CE):Prop:=c.name.length<=40/\c.args.length<=10/\∀t∈c.args,t.sm/\t.size<=200
def DE.sm (d:DE):Prop:=d.name.length<=40/\AE1 d.vars/\d.cons.length<=10/\∀c∈d.cons,c.sm
def FE.sm (f:FE):Prop:=f.name.length<=40/\AE1 f.params/\f.body.sm/\f.body.size<=200
def Pg.sm (p:Pg):Prop:=(p.data.length<=14/\∀d∈p.data,d.sm)/\p.Ev.length<=26/\∀f∈p.Ev,f.sm
theorem AT0 (n:Nat):decide ((14:Int) < (n:Int))=decide (14 < n):=decide_eq_decide.2 (by omega)
theorem AWG (n:Nat):decide ((26:Int) < (n:Int))=decide (26 < n):=decide_eq_decide.2 (by omega)
def W8 (fs:List FE):Nat:=(fs.map fun f=>f.body.size).sum
theorem AKQ {fs:List FE} {i:Nat} {f:FE} (h:fs[i]?=some f):W8 (fs.take (i+1))=W8 (fs.take i)+f.body.size:=by
 rw [Aa h,W8,Ay,List.sum_append];simp [W8]
theorem sP (p:Pg) (σ:AI):AT Tzp 5 [pgA p] σ (fun v σ'=>∃b,(v= .d (.bool b)/\σ'=σ)/\(b=true->p.sm/\W8 p.Ev<=200)):=by
 refine AAL (by simp) ?_;rw [Bq];obtain ⟨ds,fs⟩:=p;simp only [pgA,Pg.enc,AD,AJ];generalize hQ:(fun (v:AV) (σ':AI)=>∃b,(v= .d (.bool b)/\σ'=σ)/\(b=true->Pg.sm ⟨ds,fs⟩/\W8 fs<=200))=Q;have hno:Q (.d (.bool false)) σ:=by rw [<- hQ];exact ⟨false,⟨rfl,rfl⟩,fun h=>by cases h⟩
 have hyes:Pg.sm ⟨ds,fs⟩->W8 fs<=200->Q (.d (.bool true)) σ:=fun h h'=>by rw [<- hQ];exact ⟨true,⟨rfl,rfl⟩,fun _=>⟨h,h'⟩⟩
 clear hQ;by_cases hd14:14 < ds.length
 . (repeat' (first|refine ctQ rfl ?_|((first|refine rgQ mxQ ?_|refine cdQ ?_|refine Run.qR D6 ?_)<;>try simp only [AA,AT0,decide_eq_true hd14,go_sem])|fail));exact hno
 by_cases hf26:26 < fs.length
 . (repeat' (first|refine ctQ rfl ?_|((first|refine rgQ mxQ ?_|refine cdQ ?_|refine Run.qR D6 ?_)<;>try simp only [AA,AT0,decide_eq_false hd14,AWG,decide_eq_true hf26,go_sem])|fail));exact hno
 (repeat' (first|refine ctQ rfl ?_|((first|refine rgQ mxQ ?_|refine cdQ ?_)<;>try simp only [AA,AT0,decide_eq_false hd14,AWG,decide_eq_false hf26,go_sem])|fail));rintro j ⟨hj,hjb⟩;obtain ⟨hle0,hbj⟩:=ALG (z:=[AV.d (.int .i64 0)]) (x:=(1,3)) ⟨hj,hjb⟩;generalize hτ:(σ.AP j [AV.d (.int .i64 0)]).CH j (1,3)=τ0 at hle0 hbj ⊢;have hle:∀q:Nat,σ.le (τ0.AP j [.d (.int .i64 q)]):=fun q=>E6 hle0 hj;have hbk:∀q:Nat,(τ0.AP j [.d (.int .i64 q)]).blk j=some [.d (.int .i64 q)]:=fun q=>B0;clear hτ;simp only [hbj,EG,go_sem];(repeat' (first|refine ctQ rfl ?_|((first|refine rgQ mxQ ?_|refine cdQ ?_)<;>try simp only [AA,hbj,EG,go_sem])|fail));refine Run.At ?_
 refine Run.Au ((fun (a1:AV) (a3:AV) (a23:AV) (a24:AV)=>fun (y:Nat×Nat)=>put 1 a1 (put 3 a3 (put 23 a23 (put 24 a24 (put 25 (.d (.int .i64 y.1)) U))))) _ _ _ _) (fun _=>Am 1 [.d (.sl (ds.map DE.enc)),.d (.sl (fs.map FE.enc))] E) (fun y=>τ0.AP j [.d (.int .i64 y.2)])
  (fun y=>y.1<=ds.length/\y.2<=200/\∀d∈ds.take y.1,d.sm) (fun y=>ds.length - y.1) ?_ (0,200) ⟨by simp,by simp,by simp⟩
 rintro ⟨i,q⟩ ⟨hi,hq,hsm⟩ ih;simp only at hi hq hsm;by_cases hlt:i < ds.length
 . obtain ⟨d,hd⟩:=Ai hlt;have he:=Av (enc:=DE.enc) hd;have hw1:=A4 (show i+1<=9000000000000000000 by omega);have hms:=fun hp=>DX (p:=DE.sm) hsm hd hp;obtain ⟨dn,dvs',dcs⟩:=d;simp only [DE.enc] at he;have hnm:=fun σ=>NN dvs' σ;by_cases h40:40 < dn.length
   . (repeat' (first|refine ctQ rfl ?_|((first|refine rgQ mxQ ?_|refine cdQ ?_|(refine Run.Bf D6 (σ2:=σ) (hle _) ?_))<;>try simp only [Ag hlt,he,Qu,decide_eq_true h40,AA,go_sem])|fail));exact hno
   cases hnk:(decide (dvs'.length<=10)&&iF dvs') with
   |false=>
    rw [hnk] at hnm;(repeat' (first|refine ctQ rfl ?_|((first|refine rgQ mxQ ?_|refine cdQ ?_|(refine Run.Bf D6 (σ2:=σ) (hle _) ?_)|refine AH.det (hnm _) ?_)<;>try simp only [Ag hlt,he,Qu,decide_eq_false h40,AA,go_sem])|fail));exact hno
   |true=>
   rw [hnk] at hnm;by_cases hc10:10 < dcs.length
   . (repeat' (first|refine ctQ rfl ?_|((first|refine rgQ mxQ ?_|refine cdQ ?_|(refine Run.Bf D6 (σ2:=σ) (hle _) ?_)|refine AH.det (hnm _) ?_)<;>try simp only [Ag hlt,he,Qu,decide_eq_false h40,AD3,decide_eq_true hc10,AA,go_sem])|fail));exact hno
   (repeat' (first|refine ctQ rfl ?_|((first|refine rgQ mxQ ?_|refine cdQ ?_|refine AH.det (hnm _) ?_)<;>try simp only [Ag hlt,he,Qu,decide_eq_false h40,AD3,decide_eq_false hc10,AA,go_sem])|fail));refine Run.At ?_
   refine Run.Au ((fun (a1:AV) (a3:AV) (a23:AV) (a24:AV) (a25:AV) (a46:AV) (a47:AV)=>fun (y:Nat×Nat)=>put 1 a1 (put 3 a3 (put 23 a23 (put 24 a24 (put 25 a25 (put 46 a46 (put 47 a47 (put 48 (.d (.int .i64 y.1)) U)))))))) _ _ _ _ _ _ _) (fun _=>Am 1 [.d (.sl (ds.map DE.enc)),.d (.sl (fs.map FE.enc))] E) (fun y=>τ0.AP j [.d (.int .i64 y.2)])
    (fun y=>y.1<=dcs.length/\y.2<=200/\∀d∈dcs.take y.1,d.sm) (fun y=>dcs.length - y.1) ?_ (0,q) ⟨by simp,hq,by simp⟩
   rintro ⟨i1,q1⟩ ⟨hi1,hq1,hsm1⟩ ih1;simp only at hi1 hq1 hsm1;by_cases hlt1:i1 < dcs.length
   . obtain ⟨c,hc⟩:=Ai hlt1;have he1:=Av (enc:=CE.enc) hc;have hw2:=A4 (show i1+1<=9000000000000000000 by omega);have hms1:=fun hp=>DX (p:=CE.sm) hsm1 hc hp;obtain ⟨cn,ar⟩:=c;simp only [CE.enc] at he1;by_cases hcn40:40 < cn.length
     . (repeat' (first|refine ctQ rfl ?_|((first|refine rgQ mxQ ?_|refine cdQ ?_|(refine Run.Bf D6 (σ2:=σ) (hle _) ?_))<;>try simp only [Ag hlt1,he1,Qu,decide_eq_true hcn40,AA,go_sem])|fail));exact hno
     by_cases ha10:10 < ar.length
     . (repeat' (first|refine ctQ rfl ?_|((first|refine rgQ mxQ ?_|refine cdQ ?_|(refine Run.Bf D6 (σ2:=σ) (hle _) ?_))<;>try simp only [Ag hlt1,he1,Qu,decide_eq_false hcn40,AD3,decide_eq_true ha10,AA,go_sem])|fail));exact hno
     (repeat' (first|refine ctQ rfl ?_|((first|refine rgQ mxQ ?_|refine cdQ ?_)<;>try simp only [Ag hlt1,he1,Qu,decide_eq_false hcn40,AD3,decide_eq_false ha10,AA,go_sem])|fail));refine Run.At ?_
     refine Run.Au ((fun (a1:AV) (a3:AV) (a23:AV) (a24:AV) (a25:AV) (a46:AV) (a47:AV) (a48:AV) (a63:AV) (a64:AV)=>fun (y:Nat×Nat)=>put 1 a1 (put 3 a3 (put 23 a23 (put 24 a24 (put 25 a25 (put 46 a46 (put 47 a47 (put 48 a48 (put 63 a63 (put 64 a64 (put 65 (.d (.int .i64 y.1)) U))))))))))) _ _ _ _ _ _ _ _ _ _) (fun _=>Am 1 [.d (.sl (ds.map DE.enc)),.d (.sl (fs.map FE.enc))] E) (fun y=>τ0.AP j [.d (.int .i64 y.2)])
      (fun y=>y.1<=ar.length/\y.2<=200/\∀t∈ar.take y.1,t.sm/\t.size<=200) (fun y=>ar.length - y.1) ?_ (0,q1) ⟨by simp,hq1,by simp⟩
     rintro ⟨i2,q2⟩ ⟨hi2,hq2,hsm2⟩ ih2;simp only at hi2 hq2 hsm2;by_cases hlt2:i2 < ar.length
     . obtain ⟨x,hx⟩:=Ai hlt2;have he2:=Av (enc:=TE.enc) hx;have hw3:=A4 (show i2+1<=9000000000000000000 by omega);have hms2:=fun hp=>DX (p:=fun t=>TE.sm t/\t.size<=200) hsm2 hx hp;have hcl:=lI j x.size x q2 (τ0.AP j [.d (.int .i64 q2)]) (AW _) (by omega) (hbk q2);obtain ⟨xk,xn,xl⟩:=x;simp only [teA,TE.A2,AD,AJ] at he2 hcl;(repeat' (first|refine ctQ rfl ?_|((first|refine rgQ mxQ ?_|refine cdQ ?_|(refine AH.mk rfl hcl ?_;rintro v σ' ⟨b,z,⟨rfl,rfl⟩,hres⟩;cases b<;>rw [Hg])|(refine Run.Bf D6 (σ2:=σ) (E6 hle0 hj) ?_))<;>try simp only [Ag hlt2,he2,hw3,AA,go_sem])|fail))
       . exact hno
       . obtain ⟨g1,q3,rfl,g2⟩:=hres rfl;exact ih2 (i2+1,q3) ⟨by simp only;omega,by simp only;omega,hms2 ⟨g1,by omega⟩⟩ (by simp only;omega)
     . rw [AM (by omega)] at hsm2;(repeat' (first|refine ctQ rfl ?_|((first|refine rgQ mxQ ?_|refine cdQ ?_)<;>try simp only [B5 hlt2,hw2,AA,go_sem])|fail));exact ih1 (i1+1,q2) ⟨by simp only;omega,hq2,hms1 ⟨by simp only;omega,by simp only;omega,hsm2⟩⟩ (by simp only;omega)
   . rw [AM (by omega)] at hsm1;(repeat' (first|refine ctQ rfl ?_|((first|refine rgQ mxQ ?_|refine cdQ ?_)<;>try simp only [B5 hlt1,hw1,AA,go_sem])|fail));exact ih (i+1,q1) ⟨by simp only;omega,hq1,hms ⟨by simp only;omega,xK hnk,by simp only;omega,hsm1⟩⟩ (by simp only;omega)
 . rw [AM (by omega)] at hsm;clear ih;(repeat' (first|refine ctQ rfl ?_|((first|refine rgQ mxQ ?_|refine cdQ ?_)<;>try simp only [B5 hlt,AA,go_sem])|fail));refine Run.At ?_
   refine Run.Au ((fun (a3:AV) (a76:AV) (a77:AV)=>fun (y:Nat×Nat)=>put 3 a3 (put 76 a76 (put 77 a77 (put 78 (.d (.int .i64 y.1)) U)))) _ _ _) (fun _=>E) (fun y=>τ0.AP j [.d (.int .i64 y.2)])
    (fun y=>y.1<=fs.length/\y.2+W8 (fs.take y.1)<=200/\∀d∈fs.take y.1,d.sm) (fun y=>fs.length - y.1) ?_ (0,q) ⟨by simp,by simpa [W8] using hq,by simp⟩
   rintro ⟨i1,q1⟩ ⟨hi1,hq1,hsm1⟩ ih;simp only at hi1 hq1 hsm1;by_cases hlt1:i1 < fs.length
   . obtain ⟨f,hf⟩:=Ai hlt1;have he:=Av (enc:=FE.enc) hf;have hw1:=A4 (show i1+1<=9000000000000000000 by omega);have hms:=fun hp=>DX (p:=FE.sm) hsm1 hf hp;have hsz:=AKQ hf;obtain ⟨fn,fps,fb⟩:=f;have hnm:=fun σ=>NN fps σ;have hcl:=xB j fb.size fb q1 (τ0.AP j [.d (.int .i64 q1)]) (AW _) (by omega) (hbk q1);obtain ⟨xo,xn,xu,xns,xks,xal⟩:=fb;simp only [FE.enc,exA,Ex.A2,AD,AJ] at he hcl;by_cases h40:40 < fn.length
     . (repeat' (first|refine ctQ rfl ?_|((first|refine rgQ mxQ ?_|refine cdQ ?_|(refine Run.Bf D6 (σ2:=σ) (hle _) ?_))<;>try simp only [Ag hlt1,he,Qu,decide_eq_true h40,AA,go_sem])|fail));exact hno
     cases hnk:(decide (fps.length<=10)&&iF fps) with
     |false=>
      rw [hnk] at hnm;(repeat' (first|refine ctQ rfl ?_|((first|refine rgQ mxQ ?_|refine cdQ ?_|(refine Run.Bf D6 (σ2:=σ) (hle _) ?_)|refine AH.det (hnm _) ?_)<;>try simp only [Ag hlt1,he,Qu,decide_eq_false h40,AA,go_sem])|fail));exact hno
     |true=>
     rw [hnk] at hnm;(repeat' (first|refine ctQ rfl ?_|((first|refine rgQ mxQ ?_|refine cdQ ?_|(refine AH.mk rfl hcl ?_;rintro v σ' ⟨b,z,⟨rfl,rfl⟩,hres⟩;cases b<;>rw [Hg])|(refine Run.Bf D6 (σ2:=σ) (E6 hle0 hj) ?_)|refine AH.det (hnm _) ?_)<;>try simp only [Ag hlt1,he,hw1,Qu,decide_eq_false h40,AA,go_sem])|fail))
     . exact hno
     . obtain ⟨g1,q3,rfl,g2⟩:=hres rfl;exact ih (i1+1,q3) ⟨by simp only;omega,by simp only at hsz ⊢;omega,hms ⟨by simp only;omega,xK hnk,g1,by simp only;omega⟩⟩ (by simp only;omega)
   . rw [AM (by omega)] at hsm1;(repeat' (first|refine ctQ rfl ?_|((first|refine rgQ mxQ ?_|refine cdQ ?_|(refine Run.Bf D6 (σ2:=σ) (hle _) ?_))<;>try simp only [B5 hlt1,AA,go_sem])|fail));rw [AM (by omega)] at hq1;exact hyes ⟨⟨by simp only;omega,hsm⟩,by simp only;omega,hsm1⟩ (by omega)
end Go.Ab
namespace Go.Ab
def ANB (s:Str):Prop:=∃b r,s=b::r/\iA b.toNat=true/\(∀x∈s,FP Kk x=true)/\s.length<=24/\xD s=false
theorem Zx {α:Type} {p:α->Bool}:∀ {l:List α},(∀x∈l,p x=true)->l.takeWhile p=l
 |[],_=>rfl
 |x::l,h=>by
  rw [List.takeWhile_cons,h x (AS ..),if_pos rfl,Zx (fun y hy=>h y (AR _ hy))]
theorem takeWhile_eq {α:Type} {p:α->Bool}:∀ {l:List α},l.takeWhile p=l->∀x∈l,p x=true
 |[],_,x,hx=>by cases hx
 |y::l,h,x,hx=>by
  rw [List.takeWhile_cons] at h;split at h
  . rename_i hy;rcases Ar.1 hx with rfl|hx
    . exact hy
    . exact takeWhile_eq (by simpa using h) x hx
  . cases h
theorem AJG {b:UInt8} (h:iA b.toNat=true):vY b.toNat=false/\(b==35)=false/\fI b.toNat=false:=by
 simp only [iA,AO,decide_eq_true_eq] at h;refine ⟨?_,?_,?_⟩
 . simp only [vY,GU];refine ⟨⟨⟨?_,?_⟩,?_⟩,?_⟩<;>(apply Cp;omega)
 . cases hb:(b==35) with
   |false=>rfl
   |true=>
    rw [beq_iff_eq] at hb;subst hb;have:=h.1;exact absurd this (by decide)
 . simp only [fI,Bool.and_eq_false_iff,decide_eq_false_iff_not];omega
theorem AQ5 {s:Str} (h:ANB s):Dl s=true:=by
 obtain ⟨b,r,rfl,hl,hw,hn,hk⟩:=h;obtain ⟨h1,h2,h3⟩:=AJG hl
 have hsc:I2 (b::r)= .ok (1,b::r):=by
  rw [I2,Zx hw,hl,h3,hk,decide_eq_false (by omega)];rfl
 have hsp:HT (b::r)=([⟨1,b::r,0⟩,⟨6,[],0+(b::r).length⟩],0,0):=by
  rw [HT,if_neg (by omega),I4];simp only [h1,h2,hsc,A3,if_false];rw [Jk];rw [show (b::r).length=r.length+1 from rfl,I4];rfl
 rw [Dl,I3,hsp];simp
theorem UK:∀(n:Nat) (rest:Str) (i:Nat) (acc:List Tok),(I4 n rest i acc).2.2=0->(I4 n rest i acc).1=[]\/∃tl,(I4 n rest i acc).1=acc++tl/\∀t∈tl,t.text.length<=rest.length
 |0,rest,i,acc,_=>.inl rfl
 |n+1,[],i,acc,_=>.inr ⟨[⟨6,[],i⟩],rfl,fun t ht=>by simp at ht;simp [ht]⟩
 |n+1,b::r,i,acc,h=>by
  rw [I4] at h ⊢;split at h
  . rename_i hb;rw [if_pos hb];rcases UK n r (i+1) acc h with h|⟨tl,h1,h2⟩
    . exact .inl h
    . exact .inr ⟨tl,h1,fun t ht=>by have:=h2 t ht;simp only [A1];omega⟩
  . rename_i hb;rw [if_neg hb];split at h
    . rename_i hc;rw [if_pos hc];rcases UK n _ _ acc h with h|⟨tl,h1,h2⟩
      . exact .inl h
      . exact .inr ⟨tl,h1,fun t ht=>by have:=h2 t ht;rw [Cm] at this;omega⟩
    . rename_i hc;rw [if_neg hc];cases hs:I2 (b::r) with
      |error e=>
       rw [hs] at h;simp only at h;rcases qI hs with rfl|rfl<;>cases h
      |ok x=>
       obtain ⟨k,t⟩:=x;rw [hs] at h;simp only at h ⊢;rcases UK n _ _ _ h with h|⟨tl,h1,h2⟩
       . exact .inl h
       . refine .inr ⟨⟨k,t,i⟩::tl,by rw [h1];simp,fun u hu=>?_⟩;rcases Ar.1 hu with rfl|hu
         . exact (qJ hs).2
         . have:=h2 u hu;rw [Cm] at this;omega
theorem ANC {s:Str} (h:Dl s=true):ANB s:=by
 rw [Dl,I3] at h;simp only [AO,beq_iff_eq] at h;obtain ⟨h0,h1,h2⟩:=h;rw [HT] at h0 h1 h2;split at h0
 . cases h0
 . rename_i hle;rw [if_neg hle] at h1 h2
   match s,h0,h1,h2 with
   |[],_,h1,_=>simp [I4] at h1
   |b::r,h0,h1,h2=>
    rw [show (b::r).length+1=(r.length+1)+1 from rfl] at h0 h1 h2;rw [I4] at h0 h1 h2
    have hsm:∀(n:Nat) (rest:Str) (i:Nat),rest.length < (b::r).length->(I4 n rest i []).2.2=0->(I4 n rest i []).1.length=2->(match (I4 n rest i []).1 with|[]=>false|a::_=>decide (a.kind=1)&&decide (a.text=b::r))=true->False:=by
     intro n rest i hlt g0 g1 g2;rcases UK n rest i [] g0 with h|⟨tl,h,hm⟩
     . rw [h] at g1;cases g1
     . rw [h,As] at g1 g2;cases tl with
       |nil=>cases g1
       |cons a tl=>
        simp only [AO,decide_eq_true_eq] at g2;have:=hm a (AS ..);rw [g2.2] at this;omega
    have hcv:∀(l:List Tok),(match l with|[]=>false|a::_=>a.kind==1&&a.text==b::r)=true->(match l with|[]=>false|a::_=>decide (a.kind=1)&&decide (a.text=b::r))=true:=by
     intro l hl;cases l with
     |nil=>cases hl
     |cons a l=>simpa using hl
    split at h0
    . rename_i hb;rw [if_pos hb] at h1 h2;exact (hsm _ _ _ (by simp) h0 h1 (hcv _ h2)).elim
    . rename_i hb;rw [if_neg hb] at h1 h2;split at h0
      . rename_i hc;rw [if_pos hc] at h1 h2;refine (hsm _ _ _ ?_ h0 h1 (hcv _ h2)).elim;rw [beq_iff_eq] at hc;subst hc;have:1<=cmt (35::r):=by simp [cmt]
        rw [Cm];simp only [A1];omega
      . rename_i hc;rw [if_neg hc] at h1 h2;cases hs:I2 (b::r) with
        |error e=>
         rw [hs] at h0;rcases qI hs with rfl|rfl<;>cases h0
        |ok x=>
         obtain ⟨k,t⟩:=x;rw [hs] at h0 h1 h2;rcases UK _ _ _ _ h0 with h|⟨tl,h,hm⟩
         . rw [h] at h1;cases h1
         . rw [h] at h2;replace h2:(k==1&&t==b::r)=true:=h2;rw [AO,beq_iff_eq,beq_iff_eq] at h2;obtain ⟨rfl,rfl⟩:=h2;rw [I2] at hs;split at hs
           . rename_i hlu;split at hs
             . cases hs
             . rename_i hlen;split at hs
               . cases hs
               . rename_i hup;split at hs
                 . cases hs
                 . rename_i hkey;simp only [Db,Bb,true_and] at hs;rw [hs] at hlen hkey;refine ⟨b,r,rfl,?_,takeWhile_eq hs,by simpa using hlen,by simpa using hkey⟩;rw [Vo] at hup;rw [hup,H2] at hlu;exact hlu
           . split at hs
             . split at hs
               . cases hs
               . split at hs<;>cases hs
             . split at hs<;>cases hs
theorem AXI (s:Str):xD (s++[81])=false:=by
 rw [C5];intro h;simp only [xD,List.any_eq_true,beq_iff_eq] at h;obtain ⟨w,hw,he⟩:=h;have:∀w∈KC,(81:UInt8) ∉ w:=by decide
 exact this w hw (by rw [<- he];simp)
def DO (s:Str):Str:=if s=[] then [] else s++[81]
theorem mI {s:Str} (h:s≠[]):DO s=s++[81]:=if_neg h
theorem YP {s:Str}:DO s=[]↔s=[]:=by
 unfold DO;split
 . simp [*]
 . simp [*]
theorem AB9 {s t:Str} (h:DO s=DO t):s=t:=by
 unfold DO at h;split at h
 . rename_i hs;split at h
   . rename_i ht;rw [hs,ht]
   . simp at h
 . split at h
   . simp at h
   . exact List.append_cancel_right h
theorem ME (s t:Str):(DO s==DO t)=(s==t):=by
 rw [An,beq_iff_eq,beq_iff_eq];exact ⟨AB9,fun h=>by rw [h]⟩
theorem UM (s:Str):(DO s==[])=(s==[]):=by
 rw [An,beq_iff_eq,beq_iff_eq];exact YP
theorem AHA (s t:Str):(s++[81]==t++[81])=(s==t):=by
 rw [An,beq_iff_eq,beq_iff_eq];exact ⟨List.append_cancel_right,fun h=>by rw [h]⟩
theorem iE {s:Str} (h:Dl s=true) (hl:s.length<=23):Dl (s++[81])=true:=by
 obtain ⟨b,r,rfl,h1,h2,h3,h4⟩:=ANC h;refine AQ5 ⟨b,r++[81],rfl,h1,fun x hx=>?_,by simp at hl ⊢;omega,AXI _⟩;rw [A0] at hx;rcases hx with hx|hx
 . exact h2 x hx
 . simp at hx;subst hx;decide
theorem QX {s:Str} (h:Dl s=true) (hl:s.length<=23):Dl (DO s)=true:=by
 rw [mI (pI h)];exact iE h hl
theorem aG {s:Str} (h:R4 s=true) (hl:s.length<=23):R4 (DO s)=true:=by
 simp only [R4,DI] at h ⊢;rcases h with h|h
 . left;rw [UM];exact h
 . right;exact QX h hl
theorem dY {f:Str->Str} (hf:∀a b,(f a==f b)=(a==b)) (s:Str):∀l:List Str,C9 (l.map f) (f s)=C9 l s
 |[]=>rfl
 |x::l=>by rw [AD,C9,C9,hf,dY hf s l]
theorem Lb {f:Str->Str} (hf:∀a b,(f a==f b)=(a==b)) (s:Str):∀l:List Str,(l.map f).contains (f s)=l.contains s
 |[]=>rfl
 |x::l=>by rw [AD,Qg,Qg,hf,Lb hf s l]
theorem Qb {f:Str->Str} (hf:∀a b,(f a==f b)=(a==b)) (he:∀a,(f a==[])=(a==[])):∀l:List Str,CP (l.map f)=CP l
 |[]=>rfl
 |x::l=>by rw [AD,CP,CP,he,Lb hf,Qb hf he l]
end Go.Ab
namespace Go.Ab
mutual
def TE.ren:TE->TE
 | .mk k n l=>.mk k (if k=4 then n++[81] else n) (TE.Fl l)
def TE.Fl:List TE->List TE
 |[]=>[]
 |t::l=>t.ren::TE.Fl l
end
mutual
def Ex.ren:Ex->Ex
 | .mk o n u ns ks al=>.mk o (if o=6 then n else DO n) u (ns.map DO) (Ex.Fl ks) (Al.Fl al)
def Ex.Fl:List Ex->List Ex
 |[]=>[]
 |t::l=>t.ren::Ex.Fl l
def Al.ren:Al->Al
 | .mk c vs b=>.mk c (vs.map DO) b.ren
def Al.Fl:List Al->List Al
 |[]=>[]
 |t::l=>t.ren::Al.Fl l
end
theorem TE.OG:∀l:List TE,TE.Fl l=l.map TE.ren
 |[]=>rfl
 |t::l=>by simp [TE.Fl,TE.OG l]
theorem Ex.OG:∀l:List Ex,Ex.Fl l=l.map Ex.ren
 |[]=>rfl
 |t::l=>by simp [Ex.Fl,Ex.OG l]
theorem Al.OG:∀l:List Al,Al.Fl l=l.map Al.ren
 |[]=>rfl
 |t::l=>by simp [Al.Fl,Al.OG l]
theorem TE.GO (k:Int) (n:Str) (l:List TE):(TE.mk k n l).ren= .mk k (if k=4 then n++[81] else n) (l.map TE.ren):=by rw [TE.ren,TE.OG]
theorem Ex.GO (o:Int) (n:Str) (u:Int) (ns:List Str) (ks:List Ex) (al:List Al):(Ex.mk o n u ns ks al).ren= .mk o (if o=6 then n else DO n) u (ns.map DO) (ks.map Ex.ren) (al.map Al.ren):=by rw [Ex.ren,Ex.OG,Al.OG]
theorem Al.GO (c:Str) (vs:List Str) (b:Ex):(Al.mk c vs b).ren= .mk c (vs.map DO) b.ren:=by rw [Al.ren]
def CE.ren (c:CE):CE:=⟨c.name,c.args.map TE.ren⟩
def DE.ren (d:DE):DE:=⟨d.name,d.vars.map DO,d.cons.map CE.ren⟩
def FE.ren (f:FE):FE:=⟨f.name++[81],f.params.map DO,f.body.ren⟩
def Pg.ren (p:Pg):Pg:=⟨p.data.map DE.ren,p.Ev.map FE.ren⟩
def tB (m:Nat) (l:List Str):Prop:=∀s∈l,s.length<=m
mutual
def TE.sh (m:Nat):TE->Prop
 | .mk _ n l=>n.length<=m/\TE.shs m l
def TE.shs (m:Nat):List TE->Prop
 |[]=>True
 |t::l=>t.sh m/\TE.shs m l
end
mutual
def Ex.sh (m:Nat):Ex->Prop
 | .mk _ n _ ns ks al=>n.length<=m/\tB m ns/\Ex.shs m ks/\Al.shs m al
def Ex.shs (m:Nat):List Ex->Prop
 |[]=>True
 |t::l=>t.sh m/\Ex.shs m l
def Al.sh (m:Nat):Al->Prop
 | .mk _ vs b=>tB m vs/\b.sh m
def Al.shs (m:Nat):List Al->Prop
 |[]=>True
 |t::l=>t.sh m/\Al.shs m l
end
theorem TE.JM {m:Nat}:∀ {l:List TE},TE.shs m l↔∀t∈l,t.sh m
 |[]=>by simp [TE.shs]
 |t::l=>by simp [TE.shs,TE.JM (l:=l)]
theorem Ex.JM {m:Nat}:∀ {l:List Ex},Ex.shs m l↔∀t∈l,t.sh m
 |[]=>by simp [Ex.shs]
 |t::l=>by simp [Ex.shs,Ex.JM (l:=l)]
theorem Al.JM {m:Nat}:∀ {l:List Al},Al.shs m l↔∀t∈l,t.sh m
 |[]=>by simp [Al.shs]
 |t::l=>by simp [Al.shs,Al.JM (l:=l)]
def DE.sh (m:Nat) (d:DE):Prop:=tB m d.vars/\∀c∈d.cons,∀t∈c.args,t.sh m
def FE.sh (m:Nat) (f:FE):Prop:=f.name.length<=m/\tB m f.params/\f.body.sh m
def Pg.sh (m:Nat) (p:Pg):Prop:=(∀d∈p.data,d.sh m)/\∀f∈p.Ev,f.sh m
theorem AB5 {k:Int} {n:Str} {q:Nat} (h:P4 k n q=true) (hl:n.length<=23):P4 k (if k=4 then n++[81] else n) q=true:=by
 by_cases hk:k=4
 . subst hk;rw [if_pos rfl];simp only [P4] at h ⊢;simp at h ⊢;exact ⟨iE h.1 hl,h.2⟩
 . rw [if_neg hk];exact h
theorem kE:∀(d:Nat) (t:TE),Cc d t=true->t.sh 23->Cc d t.ren=true
 |0,.mk ..,h,_=>by cases h
 |d+1,.mk k n l,h,hs=>by
  rw [Cc,AO,A8] at h;rw [TE.sh,TE.JM] at hs;rw [TE.GO,Cc,AO,AA,A8];refine ⟨AB5 h.1 hs.1,fun x hx=>?_⟩;obtain ⟨t,ht,rfl⟩:=Be.1 hx;exact kE d t (h.2 t ht) (hs.2 t ht)
theorem ALY {c:CE} (h:ZJ c=true) (hs:∀t∈c.args,t.sh 23):ZJ c.ren=true:=by
 simp only [ZJ,CE.ren,AO,A8,AA] at h ⊢;refine ⟨h.1,fun x hx=>?_⟩;obtain ⟨t,ht,rfl⟩:=Be.1 hx;exact kE 40 t (h.2 t ht) (hs t ht)
theorem Wg {p:Str->Bool} (hp:∀s,p s=true->s.length<=23->p (DO s)=true) {l:List Str} (h:l.all p=true) (hs:tB 23 l):(l.map DO).all p=true:=by
 rw [A8] at h ⊢;intro x hx;obtain ⟨s,hm,rfl⟩:=Be.1 hx;exact hp s (h s hm) (hs s hm)
theorem AH5 {d:DE} (h:Km d=true) (hs:d.sh 23):Km d.ren=true:=by
 simp only [Km,DE.ren,AO,AA] at h ⊢;obtain ⟨⟨⟨⟨⟨h1,h2⟩,h3⟩,h4⟩,h5⟩,h6⟩:=h;refine ⟨⟨⟨⟨⟨h1,h2⟩,Wg (fun s hs hl=>QX hs hl) h3 hs.1⟩,h4⟩,h5⟩,?_⟩;rw [A8] at h6 ⊢;intro x hx;obtain ⟨c,hc,rfl⟩:=Be.1 hx;exact ALY (h6 c hc) (hs.2 c hc)
theorem ALF {a:Al} (h:Vq a=true) (hs:a.sh 23):Vq a.ren=true:=by
 obtain ⟨c,vs,b⟩:=a;rw [Al.GO];simp only [Vq,AO,AA] at h ⊢;rw [Al.sh] at hs;exact ⟨h.1,Wg (fun s hs hl=>aG hs hl) h.2 hs.1⟩
theorem ARA {o:Int} {n:Str} (h:nmB o n=true) (hl:n.length<=23):nmB o (if o=6 then n else DO n)=true:=by
 unfold nmB at h ⊢;by_cases h6:o=6
 . rw [if_pos h6];exact h
 . rw [if_neg h6];by_cases h4:o=4
   . rw [if_pos h4] at h ⊢;exact QX h hl
   . rw [if_neg h4,if_neg h6] at h ⊢;by_cases h7:o=7\/o=17
     . rw [if_pos h7] at h ⊢;exact aG h hl
     . rw [if_neg h7] at h ⊢;rw [UM];exact h
theorem ARG {o:Int} {ns:List Str} (h:nsB o ns=true) (hs:tB 23 ns):nsB o (ns.map DO)=true:=by
 unfold nsB at h ⊢;rw [AA];by_cases h8:o=8
 . rw [if_pos h8] at h ⊢;simp only [AO] at h ⊢;exact ⟨h.1,Wg (fun s hs hl=>aG hs hl) h.2 hs⟩
 . rw [if_neg h8] at h ⊢;by_cases h11:o=11
   . rw [if_pos h11] at h ⊢;simp only [AO] at h ⊢;exact ⟨h.1,Wg (fun s hs hl=>QX hs hl) h.2 hs⟩
   . rw [if_neg h11] at h ⊢;exact h
theorem APP {o:Int} {al:List Al} (h:asB o al=true) (hs:∀a∈al,a.sh 23):asB o (al.map Al.ren)=true:=by
 unfold asB at h ⊢;rw [AA];split at h
 . rename_i h10;rw [if_pos h10];simp only [AO,A8] at h ⊢;refine ⟨h.1,fun x hx=>?_⟩;obtain ⟨a,ha,rfl⟩:=Be.1 hx;exact ALF (h.2 a ha) (hs a ha)
 . rename_i h10;rw [if_neg h10];exact h
theorem AJW {o:Int} {n:Str} {u:Int} {ns:List Str} {nk:Nat} {al:List Al} (h:Lu o n u ns nk al=true) (hl:n.length<=23) (hs:tB 23 ns) (ha:∀a∈al,a.sh 23):
 Lu o (if o=6 then n else DO n) u (ns.map DO) nk (al.map Al.ren)=true:=by
 simp only [Lu,AO] at h ⊢;obtain ⟨⟨⟨⟨h1,h2⟩,h3⟩,h4⟩,h5⟩:=h;exact ⟨⟨⟨⟨ARA h1 hl,h2⟩,ARG h3 hs⟩,APP h4 ha⟩,h5⟩
theorem Ya {α β:Type} {f:Nat->α->Option Nat} {g:Nat->β->Option Nat} {m:α->β}:∀(l:List α) (q r:Nat),(∀x∈l,∀a b,f a x=some b->g a (m x)=some b)->l.foldlM f q=some r->(l.map m).foldlM g q=some r
 |[],q,r,_,h=>h
 |x::l,q,r,hf,h=>by
  rw [OP,AQ,AB] at h;obtain ⟨b,hb,h⟩:=h;rw [AD,OP,AQ,hf x (AS ..) q b hb,El];exact Ya l b r (fun y hy=>hf y (AR _ hy)) h
theorem yM:∀(d q:Nat) (e:Ex) (r:Nat),vEx d q e=some r->e.sh 23->vEx d q e.ren=some r
 |0,q,.mk ..,r,h,_=>by simp [vEx] at h
 |d+1,0,.mk ..,r,h,_=>by cases h
 |d+1,q+1,.mk o n u ns ks al,r,h,hs=>by
  rw [Ex.sh,Ex.JM,Al.JM] at hs;obtain ⟨s1,s2,s3,s4⟩:=hs;rw [Ex.GO];simp only [vEx,AA] at h ⊢;split at h
  . rename_i hn;rw [AB] at h;obtain ⟨c,hc,h⟩:=h;rw [if_pos (AJW hn s1 s2 s4),Ya (g:=fun q e=>vEx d q e) (m:=Ex.ren) ks q c (fun x hx a b hab=>yM d a x b hab (s3 x hx)) hc,El];refine Ya (m:=Al.ren) al c r (fun x hx a b hab=>?_) h;obtain ⟨cc,vs,bd⟩:=x;rw [Al.GO];have:=s4 _ hx;rw [Al.sh] at this;exact yM d a bd b hab this.2
  . cases h
theorem AIS {f:FE} (h:uK f=true) (hs:f.sh 23):uK f.ren=true:=by
 simp only [uK,FE.ren,AO,AA] at h ⊢;exact ⟨⟨iE h.1.1 hs.1,h.1.2⟩,Wg (fun s hs hl=>QX hs hl) h.2 hs.2.1⟩
theorem AF5 {p:Pg} (h:Cl p=true) (hs:p.sh 23):Cl p.ren=true:=by
 simp only [Cl,Pg.ren,AO,AA] at h ⊢;obtain ⟨⟨⟨h1,h2⟩,h3⟩,h4⟩:=h;refine ⟨⟨⟨h1,h2⟩,?_⟩,?_⟩
 . rw [A8] at h3 ⊢;intro x hx;obtain ⟨c,hc,rfl⟩:=Be.1 hx;exact AH5 (h3 c hc) (hs.1 c hc)
 . obtain ⟨r,hr⟩:=JI.1 h4;rw [Ya (g:=Qc) (m:=FE.ren) p.Ev 600 r (fun f hf a b hab=>?_) hr]
   . rfl
   . unfold Qc at hab ⊢;split at hab
     . rename_i hh;rw [if_pos (AIS hh (hs.2 f hf))];exact yM 40 a f.body b hab (hs.2 f hf).2.2
     . cases hab
mutual
def TE.vn:TE->Prop
 | .mk k n l=>(k=4->n≠[])/\TE.vns l
def TE.vns:List TE->Prop
 |[]=>True
 |t::l=>t.vn/\TE.vns l
end
theorem TE.yR:∀ {l:List TE},TE.vns l↔∀t∈l,t.vn
 |[]=>by simp [TE.vns]
 |t::l=>by simp [TE.vns,TE.yR (l:=l)]
theorem rC:∀(d:Nat) (t:TE),Cc d t=true->t.vn
 |0,.mk ..,h=>by cases h
 |d+1,.mk k n l,h=>by
  rw [Cc,AO,A8] at h;rw [TE.vn,TE.yR];refine ⟨fun hk=>?_,fun t ht=>rC d t (h.2 t ht)⟩;have:=h.1;subst hk;simp [P4] at this;exact pI this.1
theorem jY:∀(l:List TE) (vs:List Str),(∀t∈l,t.vn)->Eb (l.map TE.ren) (vs.map DO)=Eb l vs
 |[],[],_=>rfl
 |[],v::vs,_=>rfl
 | .mk k n args::l,[],_=>by rw [AD,TE.GO];rfl
 | .mk k n args::l,v::vs,h=>by
  rw [AD,AD,TE.GO,Eb,Eb,jY l vs (fun t ht=>h t (AR _ ht))];have h1:=h _ (AS ..);rw [TE.vn] at h1;by_cases hk:k=4
  . rw [if_pos hk,<- mI (h1.1 hk),ME]
  . simp only [Cp hk,Bp]
theorem AOD (ds:List (Str×Nat)) (vars:List Str):∀(N:Nat) (t:TE),t.size<=N->t.vn->∀whole,II ds (vars.map DO) whole t.ren=II ds vars whole t:=by
 intro N
 induction N with
 |zero=>intro t h;have:=TE.size_pos t;omega
 |succ N ih=>
 rintro ⟨k,n,l⟩ hN hv whole;rw [TE.vn,TE.yR] at hv;simp only [TE.size] at hN
 have hl:∀(l':List TE),(∀x∈l',x∈l)->Co ds (vars.map DO) (l'.map TE.ren)=Co ds vars l':=by
  intro l'
  induction l' with
  |nil=>intro _;rfl
  |cons x l' ihl=>
   intro hx;have hxm:=hx x (AS ..);have:=TE.Fj hxm;rw [AD,Co,Co,ih x (by omega) (hv.2 x hxm),ihl (fun y hy=>hx y (AR _ hy))];skip
 have hl':=hl l (fun _ h=>h);rw [TE.GO,II,II,hl',AA,jY l vars hv.2];by_cases hk:k=4
 . rw [if_pos hk,if_pos hk,if_pos hk,<- mI (hv.1 hk),dY ME];skip
 . rw [if_neg hk,if_neg hk,if_neg hk];skip
theorem tK (ds:List (Str×Nat)) (vars:List Str):∀(l:List TE),(∀t∈l,t.vn)->D2 ds (vars.map DO) (l.map TE.ren)=D2 ds vars l
 |[],_=>rfl
 |t::l,h=>by
  rw [AD,D2,D2,AOD ds vars _ t (AW _) (h t (AS ..)),tK ds vars l (fun x hx=>h x (AR _ hx))];skip
theorem tV (ds:List (Str×Nat)) (vars:List Str):∀(l:List CE) (used:List Str),(∀c∈l,∀t∈c.args,t.vn)->Em ds (vars.map DO) used (l.map CE.ren)=Em ds vars used l
 |[],used,_=>rfl
 |c::l,used,h=>by
  rw [AD,Em,Em,show (CE.ren c).args=c.args.map TE.ren from rfl,tK ds vars c.args (h c (AS ..)),show (CE.ren c).name=c.name from rfl,tV ds vars l (used++[c.name]) (fun x hx=>h x (AR _ hx))];skip
theorem AD4 (l:List DE):CZ (l.map DE.ren)=CZ l:=by
 simp [CZ,DE.ren,Function.comp_def]
theorem AK1 (l:List DE):JA (l.map DE.ren)=JA l:=by
 simp [JA,DE.ren,CE.ren,Function.comp_def,List.flatMap_map]
theorem AH7 (ds:List (Str×Nat)) (used:List Str) (d:DE) (h:∀c∈d.cons,∀t∈c.args,t.vn):Lc ds used d.ren=Lc ds used d:=by
 unfold Lc;rw [show d.ren.name=d.name from rfl,show d.ren.vars=d.vars.map DO from rfl,show d.ren.cons=d.cons.map CE.ren from rfl,Qb ME UM,AA,tV _ _ _ _ h]
theorem tZ:∀(l done:List DE),(∀d∈l,∀c∈d.cons,∀t∈c.args,t.vn)->DJ (done.map DE.ren) (l.map DE.ren)=DJ done l
 |[],done,_=>rfl
 |d::l,done,h=>by
  have:=tZ l (done++[d]) (fun x hx=>h x (AR _ hx));rw [Ay,AD,AJ] at this;rw [AD,DJ,DJ,AD4,AK1,AH7 _ _ d (h d (AS ..)),this,AA];skip
theorem AP0 {p:Pg} (h:Cl p=true):∀d∈p.data,∀c∈d.cons,∀t∈c.args,t.vn:=by
 simp only [Cl,AO,A8] at h;intro d hd c hc t ht;have:=h.1.2 d hd;simp only [Km,AO,A8] at this;have:=this.2 c hc;simp only [ZJ,AO,A8] at this;exact rC 40 t (this.2 t ht)
theorem uA {p:Pg} (h:Cl p=true) (hs:p.sh 23):H4 p.ren=H4 p:=by
 unfold H4;rw [h,AF5 h hs,show p.ren.data=p.data.map DE.ren from rfl,<- tZ p.data [] (AP0 h)];rfl
theorem AMT (o:Int) (n:Str) (ns sc:List Str) (i:Nat):Fa o (if o=6 then n else DO n) (ns.map DO) (sc.map DO) i=(Fa o n ns sc i).map DO:=by
 unfold Fa;by_cases h:(o=7\/o=17)/\i=1
 . have h6:o≠6:=by omega
   rw [if_pos h,if_pos h,if_neg h6];by_cases hn:n=[]
   . rw [if_pos hn,if_pos (YP.2 hn)]
   . rw [if_neg hn,if_neg (fun h=>hn (YP.1 h)),Ay];rfl
 . rw [if_neg h,if_neg h];split
   . rw [Ay]
   . rfl
def p4 (x:Ex×List Str):Ex×List Str:=(x.1.ren,x.2.map DO)
mutual
theorem eS:∀(e:Ex) (sc:List Str),Bj e.ren (sc.map DO)=(Bj e sc).map p4
 | .mk o n u ns ks al,sc=>by
  rw [Ex.ren,Bj,Bj,AD,Ay,vA o n ns sc 0 ks,u9 sc al];rw [p4,Ex.ren]
theorem vA (o:Int) (n:Str) (ns sc:List Str):∀(i:Nat) (l:List Ex),Bn o (if o=6 then n else DO n) (ns.map DO) (sc.map DO) i (Ex.Fl l)=(Bn o n ns sc i l).map p4
 |i,[]=>by rw [Ex.Fl,Bn,Bn];rfl
 |i,k::l=>by rw [Ex.Fl,Bn,Bn,Ay,AMT,eS k,vA o n ns sc (i+1) l]
theorem AN2:∀(a:Al) (sc:List Str),VI a.ren (sc.map DO)=(VI a sc).map p4
 | .mk c vs b,sc=>by rw [Al.ren,VI,VI,<- Ay,eS b]
theorem u9 (sc:List Str):∀l:List Al,CD (sc.map DO) (Al.Fl l)=(CD sc l).map p4
 |[]=>by rw [Al.Fl,CD,CD];rfl
 |a::l=>by rw [Al.Fl,CD,CD,Ay,AN2 a,u9 sc l]
end
theorem mV (dt:List Dat):∀l:List Al,CY dt (l.map Al.ren)=CY dt l
 |[]=>rfl
 | .mk c vs b::l=>by
  rw [AD,Al.GO,CY,CY,mV dt l,AA,Qb ME UM];skip
theorem AHM (dt:List Dat) (l:List Al):Jm dt (l.map Al.ren)=Jm dt l:=by
 unfold Jm;rw [mV]
theorem oB (fs:List FE):Bo (fs.map FE.ren)=(Bo fs).map (·++[81]):=by
 simp [Bo,FE.ren,Function.comp_def]
theorem dX (fs:List FE) {n:Str} (h:n≠[]):C9 (Bo (fs.map FE.ren)) (DO n)=C9 (Bo fs) n:=by
 rw [oB,mI h];exact dY (f:=fun s=>s++[81]) (fun a b=>AHA a b) n (Bo fs)
theorem AUF:∀e:Ex,e.ren.op=e.op
 | .mk o n u ns ks al=>by rw [Ex.GO];rfl
theorem AND:∀e:Ex,e.op=4->e.ren.name=DO e.name
 | .mk o n u ns ks al,h=>by
  rw [Ex.GO];replace h:o=4:=h;subst h;show (if (4:Int)=6 then n else DO n)=DO n;exact if_neg (by decide)
theorem APA (fs:List FE) (dt:List Dat) (e:Ex) (sc:List Str) (hg:Oj e):EY (fs.map FE.ren) dt e.ren (sc.map DO)=EY fs dt e sc:=by
 obtain ⟨g1,g2,_,_⟩:=hg;obtain ⟨o,n,u,ns,ks,al⟩:=e;replace g1:o=4->n≠[]:=g1;replace g2:o=12->∃h t,ks=h::t/\(h.op=4->h.name≠[]):=g2;rw [Ex.GO,NP,NP];by_cases h4:o=4
 . subst h4;have:=g1 rfl;have h46:(if (4:Int)=6 then n else DO n)=DO n:=if_neg (by decide);rw [if_pos rfl,if_pos rfl,h46,Lb ME,dX fs this]
 rw [if_neg h4,if_neg h4];by_cases h6:o=6
 . subst h6;rw [if_pos rfl,if_pos rfl,if_pos rfl,AA]
 rw [if_neg h6,if_neg h6];by_cases h8:o=8\/o=11
 . rw [if_pos h8,if_pos h8,Qb ME UM]
 rw [if_neg h8,if_neg h8,AHM];by_cases h10:o=10
 . rw [if_pos h10,if_pos h10]
 rw [if_neg h10,if_neg h10];by_cases h12:o=12
 . rw [if_pos h12,if_pos h12];obtain ⟨h,t,rfl,hh⟩:=g2 h12;rw [AD];simp only [List.head?_cons,AUF,A1,AA];by_cases ho4:h.op=4
   . rw [AND h ho4,Lb ME,dX fs (hh ho4)];split
     . cases C9 (Bo fs) h.name with
       |none=>rfl
       |some f=>
        simp only [Aj];cases fs[f]? with
        |none=>rfl
        |some g=>
         simp only [Ah,FE.ren,AA]
     . rfl
   . simp [ho4]
 . rw [if_neg h12,if_neg h12]
theorem z9 {fs:List FE} {dt:List Dat}:∀ {l:List (Ex×List Str)},(∀x∈l,Oj x.1)->Eu (EY (fs.map FE.ren) dt) (l.map p4)=Eu (EY fs dt) l
 |[],_=>rfl
 |x::l,h=>by
  rw [AD,Eu,Eu,show (p4 x).1=x.1.ren from rfl,show (p4 x).2=x.2.map DO from rfl,APA fs dt x.1 x.2 (h x (AS ..)),z9 (fun y hy=>h y (AR _ hy))]
theorem ALS {fs:List FE} {dt:List Dat} {i:Nat} {f:FE} (h:∀sc x,x∈Bj f.body sc->Oj x.1):XF (fs.map FE.ren) dt i f.ren=XF fs dt i f:=by
 unfold XF
 have h1:C9 (Bo (fs.map FE.ren)) f.ren.name=C9 (Bo fs) f.name:=by
  rw [oB];exact dY (f:=fun s=>s++[81]) (fun a b=>AHA a b) f.name (Bo fs)
 rw [h1,show f.ren.params=f.params.map DO from rfl,show f.ren.body=f.body.ren from rfl,Qb ME UM,eS,z9 (fun x hx=>h _ x hx)]
theorem tP {fs:List FE} {dt:List Dat}:∀ {l:List FE} {i:Nat},(∀f∈l,∀sc x,x∈Bj f.body sc->Oj x.1)->Gt (fs.map FE.ren) dt i (l.map FE.ren)=Gt fs dt i l
 |[],i,_=>rfl
 |f::l,i,h=>by
  rw [AD,Gt,Gt,ALS (h f (AS ..)),tP (fun g hg=>h g (AR _ hg))]
theorem zP {p:Pg} (h:Cl p=true) (hs:p.sh 23):K9 p.ren=K9 p:=by
 unfold K9;rw [uA h hs];split
 . rfl
 . exact tP (fun f hf=>((JB h).2 f hf).2.2)
theorem AEY (fs:List FE) (g:Nat) (x:Ex×List Str) (h:Oj x.1):IH (fs.map FE.ren) g (p4 x)=IH fs g x:=by
 obtain ⟨⟨o,n,u,ns,ks,al⟩,sc⟩:=x;have:=h.1;simp only [Ex.op,Ex.name] at this;rw [p4];simp only [IH,Ex.GO,Ex.op,Ex.name];by_cases h4:o=4
 . subst h4;rw [if_neg (by decide),Lb ME,dX fs (this rfl)]
 . rw [Cp h4];rfl
theorem AHY (fs:List FE) (f:FE) (h:∀sc x,x∈Bj f.body sc->Oj x.1):TZ (fs.map FE.ren) f.ren=TZ fs f:=by
 unfold TZ;rw [AA,show f.ren.params=f.params.map DO from rfl,show f.ren.body=f.body.ren from rfl,eS];congr 1;funext g;rw [List.any_map]
 have:∀(l:List (Ex×List Str)),(∀x∈l,Oj x.1)->l.any (IH (fs.map FE.ren) g∘p4)=l.any (IH fs g):=by
  intro l
  induction l with
  |nil=>intro _;rfl
  |cons x l ih=>
   intro hl;rw [MV,MV,ih (fun y hy=>hl y (AR _ hy)),Function.comp,AEY fs g x (hl x (AS ..))]
 exact this _ (fun x hx=>h _ x hx)
theorem ADD {p:Pg} (h:Cl p=true) (hs:p.sh 23):Hz p.ren=Hz p:=by
 unfold Hz;rw [zP h hs,show p.ren.Ev=p.Ev.map FE.ren from rfl];split
 . rw [List.map_map];apply DL;intro f hf;exact AHY p.Ev f ((JB h).2 f hf).2.2
 . rfl
theorem TE.OJ:∀t:TE,t.ren.size=t.size
 | .mk k n l=>by rw [TE.ren,TE.size,TE.size,TE.LC l]
where TE.LC:∀l:List TE,TE.AU (TE.Fl l)=TE.AU l
 |[]=>rfl
 |t::l=>by rw [TE.Fl,TE.AU,TE.AU,TE.OJ t,TE.LC l]
end Go.Ab
namespace Go.Ab
open Go.Proofs
theorem AA6 (n:Nat):By n=[.int .i64 (n:Int)]:=rfl
def YB (r:List Nat):List DV:=[.sl (r.map By)]
theorem AOE (r:List Nat):YB r=[.sl (r.map By)]:=rfl
end Go.Ab
namespace Go.Ab
inductive Reach (g:List (List Nat)):Nat->Nat->Prop
 |refl (v:Nat):Reach g v v
 |step {v w k:Nat} (h:w∈g.getD v []) (hr:Reach g w k):Reach g v k
theorem Reach.trans {g:List (List Nat)} {a b c:Nat} (h:Reach g a b) (k:Reach g b c):Reach g a c:=by
 induction h with
 |refl=>exact k
 |step h _ ih=>exact .step h (ih k)
theorem Reach.one {g:List (List Nat)} {a b:Nat} (h:b∈g.getD a []):Reach g a b:= .step h (.refl b)
def cK (g:List (List Nat)):Prop:=∀l∈g,∀w∈l,w < g.length
theorem cK.at {g:List (List Nat)} (h:cK g) {v w:Nat} (hw:w∈g.getD v []):w < g.length:=by
 rw [Ac] at hw;cases hv:g[v]? with
 |none=>rw [hv] at hw;simp at hw
 |some l=>rw [hv] at hw;exact h l (AE hv) w hw
theorem Reach.lt {g:List (List Nat)} (he:cK g) {a b:Nat} (h:Reach g a b) (ha:a < g.length):b < g.length:=by
 induction h with
 |refl=>exact ha
 |step h _ ih=>exact ih (he.at h)
open Classical in
noncomputable def rB (g:List (List Nat)) (i k:Nat):Bool:=decide (Reach g i k)
theorem Xz {g:List (List Nat)} {i k:Nat}:rB g i k=true↔Reach g i k:=by simp [rB]
noncomputable def ABP (g:List (List Nat)) (i:Nat):List Bool:=(BA g.length).map (rB g i)
structure ACR (g:List (List Nat)) (v:Nat) (R R':List Bool):Prop where
 len:R'.length=R.length
 mono:∀k:Nat,R[k]?=some true->R'[k]?=some true
 self:R'[v]?=some true
 new:∀k:Nat,R'[k]?=some true->R[k]?=some true\/(Reach g v k/\∀w∈g.getD k [],R'[w]?=some true)
theorem ACR.skip {g:List (List Nat)} {v:Nat} {R:List Bool} (h:R[v]?=some true):ACR g v R R:=⟨rfl,fun _ h=>h,h,fun _ h=>.inl h⟩
structure vU (g:List (List Nat)) (v:Nat) (ws:List Nat) (R R':List Bool):Prop where
 len:R'.length=R.length
 mono:∀k:Nat,R[k]?=some true->R'[k]?=some true
 self:R'[v]?=some true
 done:∀w∈ws,R'[w]?=some true
 new:∀k:Nat,R'[k]?=some true->R[k]?=some true\/k=v\/(Reach g v k/\∀w∈g.getD k [],R'[w]?=some true)
theorem vU.start {g:List (List Nat)} {v:Nat} {R:List Bool} (h:v < R.length):vU g v [] R (R.set v true):=by
 refine ⟨by simp,fun k hk=>?_,by simp [h],by simp,fun k hk=>?_⟩
 . rw [B3];split
   . rename_i e;subst e;simp [h]
   . exact hk
 . rw [B3] at hk;split at hk
   . rename_i e;exact .inr (.inl e.symm)
   . exact .inl hk
theorem vU.next {g:List (List Nat)} {v w:Nat} {ws:List Nat} {R R1 R2:List Bool} (h:vU g v ws R R1) (hw:w∈g.getD v []) (k:ACR g w R1 R2):vU g v (ws++[w]) R R2:=by
 refine ⟨k.len.trans h.len,fun q hq=>k.mono q (h.mono q hq),k.mono v h.self,fun x hx=>?_,fun q hq=>?_⟩
 . rcases A0.1 hx with hx|hx
   . exact k.mono x (h.done x hx)
   . simp at hx;subst hx;exact k.self
 . rcases k.new q hq with h1|⟨h1,h2⟩
   . rcases h.new q h1 with h3|h3|⟨h3,h4⟩
     . exact .inl h3
     . exact .inr (.inl h3)
     . exact .inr (.inr ⟨h3,fun x hx=>k.mono x (h4 x hx)⟩)
   . exact .inr (.inr ⟨.step hw h1,h2⟩)
theorem vU.fin {g:List (List Nat)} {v:Nat} {R R':List Bool} (h:vU g v (g.getD v []) R R'):ACR g v R R':=by
 refine ⟨h.len,h.mono,h.self,fun k hk=>?_⟩;rcases h.new k hk with h1|h1|h1
 . exact .inl h1
 . subst h1;exact .inr ⟨.refl k,h.done⟩
 . exact .inr h1
theorem AP1 {g:List (List Nat)} (he:cK g) {i:Nat} (hi:i < g.length) {R':List Bool} (h:ACR g i (AF g.length false) R'):R'=ABP g i:=by
 have hl:R'.length=g.length:=by rw [h.len];simp
 have hf:∀k:Nat,(AF g.length false)[k]?≠some true:=fun k hk=>by
  rw [R0] at hk;split at hk<;>cases hk
 have hc:∀a b,Reach g a b->R'[a]?=some true->R'[b]?=some true:=fun a b hr=>by
  induction hr with
  |refl=>exact id
  |step hw _ ih=>
   intro ha;rcases h.new _ ha with h1|⟨_,h2⟩
   . exact absurd h1 (hf _)
   . exact ih (h2 _ hw)
 apply FO;intro k;by_cases hk:k < g.length
 . have hR:R'[k]?=some R'[k]:=by simp [hl,hk]
   rw [ABP,Aj,ED hk,Ah,hR];congr 1;rw [An,Xz];constructor
   . intro ht;rw [ht] at hR;rcases h.new k hR with h1|h1
     . exact absurd h1 (hf k)
     . exact h1.1
   . intro hr;have:=hc i k hr h.self;rw [hR] at this;exact Option.some.inj this
 . rw [B9 (by omega),B9 (by simp [ABP];omega)]
def unm (R:List Bool):Nat:=(R.filter (fun b=>!b)).length
theorem AHG:∀ {R:List Bool} {v:Nat},R[v]?=some false->unm (R.set v true)+1=unm R
 |[],v,h=>by simp at h
 |b::R,0,h=>by simp at h;subst h;simp [unm]
 |b::R,v+1,h=>by
  have:=AHG (R:=R) (v:=v) (by simpa using h);cases b<;>simp [unm] at this ⊢<;>omega
theorem AF2:∀ {R R':List Bool},R'.length=R.length->(∀k:Nat,R[k]?=some true->R'[k]?=some true)->unm R'<=unm R
 |[],[],_,_=>AW _
 |[],_::_,h,_=>by simp at h
 |_::_,[],h,_=>by simp at h
 |b::R,c::R',h,hm=>by
  have:=AF2 (R:=R) (R':=R') (by simpa using h) (fun k hk=>by simpa using hm (k+1) (by simpa using hk));have h0:=hm 0;cases b<;>cases c<;>simp [unm] at this h0 ⊢<;>omega
end Go.Ab
namespace Go.Ab
open Go.Proofs
structure CB (g:List (List Nat)) (j1 j4 j5 j6 jr jw i:Nat) (cells:List AV) (R:List Bool) (τ:AI):Prop where
 b1:τ.blk j1=some [.d (.sl (g.map YB))]
 b4:τ.blk j4=some [.ms jr g.length 1 92]
 b5:τ.blk j5=some [.d (.int .i64 i)]
 b6:τ.blk j6=some [.fn 87 [] [.gp j4 0,.gp j5 0,.gp j1 0,.gp j6 0]]
 br:τ.blk jr=some cells
 cl:cells.length=g.length
 ci:cells[i]?=some (.ms jw g.length 1 4)
 il:i < g.length
 bw:τ.blk jw=some (BX R)
 rl:R.length=g.length
 n1:jw≠j1
 n4:jw≠j4
 n5:jw≠j5
 n6:jw≠j6
 nr:jw≠jr
theorem CB.set {g:List (List Nat)} {j1 j4 j5 j6 jr jw i:Nat} {cells:List AV} {R:List Bool} {τ:AI} (h:CB g j1 j4 j5 j6 jr jw i cells R τ) (R':List Bool) (hl:R'.length=R.length):CB g j1 j4 j5 j6 jr jw i cells R' (τ.AP jw (BX R')):=
 ⟨by rw [AK,if_neg (A9 h.n1)];exact h.b1,by rw [AK,if_neg (A9 h.n4)];exact h.b4,by rw [AK,if_neg (A9 h.n5)];exact h.b5,by rw [AK,if_neg (A9 h.n6)];exact h.b6,
   by rw [AK,if_neg (A9 h.nr)];exact h.br,h.cl,h.ci,h.il,B0,hl.trans h.rl,h.n1,h.n4,h.n5,h.n6,h.nr⟩
theorem tO {l:List Bool} {k:Nat} (x:Bool) (h:k < l.length):Ek k (BX l)++[AV.d (.bool x)]++EG (k+1) (BX l)=BX (l.set k x):=by
 have:=cS x h;simpa only [wr,A1,CG,BJ] using this
theorem zD {l:List Bool} {k:Nat} (h:k < l.length):(k+1<=(BX l).length)=True:=by rw [Pd];simp;omega
theorem ALT (g:List (List Nat)) (hg:cK g) (hgl:g.length<=1000) (hll:∀l∈g,l.length<=1000) (j1 j4 j5 j6 jr jw i:Nat) (cells:List AV):∀(N:Nat) (R:List Bool) (v:Nat) (τ:AI),unm R=N->v < g.length->CB g j1 j4 j5 j6 jr jw i cells R τ->
 AT Tzp 87 [.d (.int .i64 v),.gp j4 0,.gp j5 0,.gp j1 0,.gp j6 0] τ (fun av σ'=>∃R',av= .tup []/\σ'=τ.AP jw (BX R')/\ACR g v R R'):=by
 intro N
 induction N using Qe with
 |_ N ihN=>
 intro R v τ hN hv hc;obtain ⟨x,hx⟩:=Ai (show v < R.length by rw [hc.rl];exact hv);have hbx:=HH hx;have hil:((i:Int) < (g.length:Int))=True:=by simp only [eq_iff_iff,iff_true];have:=hc.il;omega
 have hvl:((v:Int) < (g.length:Int))=True:=by simp only [eq_iff_iff,iff_true];omega
 refine X5 (by simp) ?_;rw [AC0];cases x with
 |true=>
  (repeat' ((first|refine wQ mxQ rfl ?_|(refine Run.Bf Ij (AI.le_refl _) ?_)|fail)<;>try simp only [hc.b1,hc.b4,hc.b5,hc.b6,hc.br,hc.bw,hc.ci,hil,hvl,hbx,A5,go_sem]));exact ⟨R,(Ix hc.bw).symm,ACR.skip hx⟩
 |false=>
  have hvR:v < R.length:=(AG.1 hx).1;have w1:=tO true hvR;have d1:=zD hvR;obtain ⟨l,hl⟩:=Ai hv;have hel:=Av (enc:=YB) hl;rw [AOE] at hel;have hgd:g.getD v []=l:=by rw [Ac,hl];rfl
  have hlm:=hll l (AE hl);have hc1:=hc.set (R.set v true) (by simp);(repeat' (refine wQ mxQ rfl ?_<;>try simp only [hc.b1,hc.b4,hc.b5,hc.b6,hc.br,hc.bw,hc.ci,hil,hvl,hbx,A5,d1,w1,hc1.b1,hel,AA,go_sem]));refine Run.At ?_
  refine Run.Au ((fun (a4:AV) (a24:AV) (a25:AV)=>fun (y:Nat×List Bool)=>put 4 a4 (put 24 a24 (put 25 a25 (put 26 (.d (.int .i64 y.1)) U)))) _ _ _) (fun _=>E) (fun y=>τ.AP jw (BX y.2))
   (fun y=>y.1<=l.length/\vU g v (l.take y.1) R y.2) (fun y=>l.length - y.1) ?_ (0,R.set v true) ⟨by simp,vU.start hvR⟩
  rintro ⟨q,Rq⟩ ⟨hq,hd⟩ ih;simp only at hq hd;by_cases hlt:q < l.length
  . obtain ⟨w,hw⟩:=Ai hlt;have hew:=Av (enc:=By) hw;rw [AA6] at hew;have hw1:=A4 (show q+1<=9000000000000000000 by omega);have hwm:w∈g.getD v []:=by rw [hgd];exact AE hw
    have hcq:=hc.set Rq hd.len
    have hun:unm Rq < N:=by
     have h1:=AHG hx
     have h2:=AF2 (R:=R.set v true) (R':=Rq) (by rw [hd.len];simp) (fun k hk=>by
      rw [B3] at hk;split at hk
      . rename_i e;subst e;exact hd.self
      . exact hd.mono k hk)
     omega
    have hcl:=ihN _ hun Rq w (τ.AP jw (BX Rq)) rfl (hg.at hwm) hcq;(repeat' ((first|refine wQ mxQ rfl ?_|(refine ⟨_,[],[.gp j4 0,.gp j5 0,.gp j1 0,.gp j6 0],rfl,by kernel_rfl,AH.mk rfl hcl ?_⟩;rintro _ _ ⟨R2,rfl,rfl,hd2⟩;rw [Hg])|fail)<;>try simp only [Ag hlt,hew,hcq.b6,hw1,go_sem]));exact ih (q+1,R2) ⟨by simp only;omega,by simp only;rw [Aa hw];exact hd.next hwm hd2⟩ (by simp only;omega)
  . rw [AM (by omega)] at hd;(repeat' (refine wQ mxQ rfl ?_<;>try simp only [B5 hlt,go_sem]));refine Run.fin Ij (v:= .tup []) rfl (fun _ _ h=>h) (AI.le_refl _) ?_;exact ⟨Rq,rfl,rfl,by rw [<- hgd] at hd;exact hd.fin⟩
end Go.Ab
namespace Go.Ab
open Go.Proofs
structure RS (σ:AI) (g:List (List Nat)) (j1 j3 j4 jr:Nat) (i m:Nat) (cells:List AV) (τ:AI):Prop where
 b1:τ.blk j1=some [.d (.sl (g.map YB))]
 b3:τ.blk j3=some [.d (.int .i64 g.length)]
 b4:τ.blk j4=some [.ms jr g.length 1 92]
 br:τ.blk jr=some cells
 cl:cells.length=g.length
 rows:∀k,k < i->∃jk,cells[k]?=some (.ms jk g.length 1 4)/\τ.blk jk=some (BX (ABP g k))/\jk≠jr
 rest:∀k,m<=k->k < g.length->cells[k]?=some .Ae
 le:σ.le τ
 nr:σ.blk jr=none
 n1:jr≠j1
 n3:jr≠j3
 n4:jr≠j4
theorem AI.le.none {σ τ:AI} (h:σ.le τ) {j:Nat} (hj:τ.blk j=none):σ.blk j=none:=by
 cases hc:σ.blk j with
 |none=>rfl
 |some c=>rw [h.blk j c hc] at hj;cases hj
theorem RS.new {σ τ:AI} {g:List (List Nat)} {j1 j3 j4 jr i m:Nat} {cells:List AV} (h:RS σ g j1 j3 j4 jr i m cells τ) {j:Nat} (hj:σ.blk j=none) (n1:j≠j1) (n3:j≠j3) (n4:j≠j4) (nr:j≠jr) (hk:∀k jk,k < i->cells[k]?=some (.ms jk g.length 1 4)->jk≠j) (cs:List AV):RS σ g j1 j3 j4 jr i m cells (τ.AP j cs):=
 ⟨by rw [AK,if_neg (A9 n1)];exact h.b1,by rw [AK,if_neg (A9 n3)];exact h.b3,by rw [AK,if_neg (A9 n4)];exact h.b4,by rw [AK,if_neg (A9 nr)];exact h.br,h.cl,
   fun k hki=>by
    obtain ⟨jk,h1,h2,h3⟩:=h.rows k hki;exact ⟨jk,h1,by rw [AK,if_neg (hk k jk hki h1)];exact h2,h3⟩,h.rest,E6 h.le hj,h.nr,h.n1,h.n3,h.n4⟩
theorem RS.fresh {σ τ:AI} {g:List (List Nat)} {j1 j3 j4 jr i m:Nat} {cells:List AV} (h:RS σ g j1 j3 j4 jr i m cells τ) {j:Nat} (hj:τ.blk j=none):σ.blk j=none/\j≠j1/\j≠j3/\j≠j4/\j≠jr/\∀k jk,k < i->cells[k]?=some (.ms jk g.length 1 4)->jk≠j:=by
 refine ⟨h.le.none hj,fun e=>?_,fun e=>?_,fun e=>?_,fun e=>?_,fun k jk hk hc e=>?_⟩
 . rw [e,h.b1] at hj;cases hj
 . rw [e,h.b3] at hj;cases hj
 . rw [e,h.b4] at hj;cases hj
 . rw [e,h.br] at hj;cases hj
 . obtain ⟨jk',h1,h2,_⟩:=h.rows k hk;rw [hc] at h1;cases h1;rw [e,hj] at h2;cases h2
theorem RS.bt {σ τ:AI} {g:List (List Nat)} {j1 j3 j4 jr i m:Nat} {cells:List AV} (h:RS σ g j1 j3 j4 jr i m cells τ) {j:Nat} {x:Nat×TypeId} (hj:τ.bt j=none):RS σ g j1 j3 j4 jr i m cells (τ.CH j x):=
 ⟨h.b1,h.b3,h.b4,h.br,h.cl,h.rows,h.rest,eH h.le hj,h.nr,h.n1,h.n3,h.n4⟩
theorem Kj {τ:AI} {j k:Nat} {x:List AV} (h:τ.blk j=some x) (hk:τ.blk k=none) (cs:List AV):(τ.AP k cs).blk j=some x:=by
 rw [AK,if_neg (fun e=>by rw [e,hk] at h;cases h)];exact h
def API (F0:Fm) (τ:AI) (jr n i:Nat) (cells:List AV) (F:Fm) (L:Lm) (τ':AI):Prop:=
 ∃jw,τ.blk jw=none/\JK [1,3,4,5,18,19] F=F0/\Hs [1,3,4,5,18,19] L=E/\τ'=(τ.AP jw (BX (AF n false))).AP jr (cells.set i (.ms jw n 1 4))
theorem API.mk {F0:Fm} {τ:AI} {jr n i:Nat} {cells:List AV} {F:Fm} {L:Lm} {τ':AI} (jw:Nat) (h1:τ.blk jw=none) (h2:JK [1,3,4,5,18,19] F=F0) (h3:Hs [1,3,4,5,18,19] L=E) (h4:τ'=(τ.AP jw (BX (AF n false))).AP jr (cells.set i (.ms jw n 1 4))):API F0 τ jr n i cells F L τ':=⟨jw,h1,h2,h3,h4⟩
theorem APV (Q:AV->AI->Prop) (rest:List CI) (g:List (List Nat)) (hg:cK g) (hgl:g.length<=1000) (hll:∀l∈g,l.length<=1000) (j1 j3 j4 jr:Nat) (σ τ:AI) (cells:List AV) (h:RS σ g j1 j3 j4 jr 0 0 cells τ)
 (hfin:∀cells' τ',RS σ g j1 j3 j4 jr g.length g.length cells' τ'->Run CF Q rest (put 1 (.gp j1 0) (put 3 (.gp j3 0) (put 4 (.gp j4 0) (put 18 (.d (.int .i64 g.length)) (put 19 (.d (.int .i64 g.length)) (put 20 (.d (.bool false)) U)))))) E τ'):
 Run CF Q (.code (.loop Fq)::.blk 0::rest) (put 1 (.gp j1 0) (put 3 (.gp j3 0) (put 4 (.gp j4 0) (put 18 (.d (.int .i64 g.length)) (put 19 (.d (.int .i64 0)) U))))) E τ:=by
 refine Run.At ?_
 refine Run.Au ((fun (a1:AV) (a3:AV) (a4:AV) (a18:AV)=>fun (y:Nat×List AV×AI)=>put 1 a1 (put 3 a3 (put 4 a4 (put 18 a18 (put 19 (.d (.int .i64 y.1)) U))))) _ _ _ _) (fun _=>E) (fun y=>y.2.2)
  (fun y=>y.1<=g.length/\RS σ g j1 j3 j4 jr y.1 y.1 y.2.1 y.2.2) (fun y=>g.length - y.1) ?_ (0,cells,τ) ⟨by simp,h⟩
 clear h;rintro ⟨i,cells,τ⟩ ⟨hi,h⟩ ih;simp only at hi h;by_cases hlt:i < g.length
 . have hw1:=A4 (show i+1<=9000000000000000000 by omega);have hil:((i:Int) < (g.length:Int))=True:=by simp only [eq_iff_iff,iff_true];omega
   (repeat' (first|refine ctQ rfl ?_|((first|refine rgQ mxQ ?_|refine cdQ ?_)<;>try simp only [Ag hlt,go_sem])|fail));rintro j5 ⟨hj5,hjb5⟩;obtain ⟨f1,f2,f3,f4,f5,f6⟩:=h.fresh hj5;have h1:=((h.new f1 f2 f3 f4 f5 f6 [.d (.int .i64 0)]).bt (x:=(1,3)) hjb5).new f1 f2 f3 f4 f5 f6 [.d (.int .i64 i)];have hb5:((((τ.AP j5 [AV.d (.int .i64 0)]).CH j5 (1,3))).AP j5 [.d (.int .i64 i)]).blk j5=some [.d (.int .i64 i)]:=B0;have hbt:∀(τ:AI) (x:Nat×TypeId),(τ.CH j5 x).blk=τ.blk:=fun _ _=>rfl;simp only [hbt,AK,go_sem];generalize ((τ.AP j5 [AV.d (.int .i64 0)]).CH j5 (1,3)).AP j5 [AV.d (.int .i64 i)]=τ1 at h1 hb5 ⊢;clear hbt h hj5 hjb5;have hil2:(i+1<=cells.length)=True:=by rw [h1.cl];simp;omega
   have hwr:∀x:AV,Ek i cells++[x]++EG (i+1) cells=cells.set i x:=fun x=>wr1 x (by rw [h1.cl];exact hlt);refine ctQ rfl ?_;refine Run.eT mixed (API (put 1 (.gp j1 0) (put 3 (.gp j3 0) (put 4 (.gp j4 0) (put 5 (.gp j5 0) (put 18 (.d (.int .i64 g.length)) (put 19 (.d (.int .i64 i)) U)))))) τ1 jr g.length i cells) ?_ ?_
   . simp only [h1.b3,h1.b4,hb5,h1.br,hil,A5,and_true,go_sem];(repeat' (first|refine And.intro ?_ ?_|(refine PC.mk (n:=g.length) (by omega) (by omega) (fun jw hjw=>?_);simp only [Y3,Kj h1.b4 hjw,Kj hb5 hjw,Kj h1.br hjw,hil,hil2,hwr,h1.b4,hb5,h1.br,A5,and_true,go_sem];try (refine API.mk jw hjw (by simp only [go_sem]) (by simp only [go_sem]) ?_;rfl))))
   . rintro F L τ2 ⟨jw,hjw,hF,hL,rfl⟩;rw [hF,hL];clear hF hL;have hjwr:jw≠jr:=fun e=>by rw [e,h1.br] at hjw;cases hjw
     have h2:RS σ g j1 j3 j4 jr i (i+1) (cells.set i (.ms jw g.length 1 4)) ((τ1.AP jw (BX (AF g.length false))).AP jr (cells.set i (.ms jw g.length 1 4))):=by
      have hs:∀j x,τ1.blk j=some x->j≠jr->((τ1.AP jw (BX (AF g.length false))).AP jr (cells.set i (.ms jw g.length 1 4))).blk j=some x:=fun j x hx hne=>by
       rw [AK,if_neg hne];exact Kj hx hjw _
      refine ⟨hs _ _ h1.b1 (A9 h1.n1),hs _ _ h1.b3 (A9 h1.n3),hs _ _ h1.b4 (A9 h1.n4),B0,by rw [LW];exact h1.cl,fun k hk=>?_,fun k hk hkl=>?_,E6 (E6 h1.le (h1.le.none hjw)) h1.nr,h1.nr,h1.n1,h1.n3,h1.n4⟩
      . obtain ⟨jk,g1,g2,g3⟩:=h1.rows k hk;exact ⟨jk,by rw [B3,if_neg (by omega)];exact g1,hs _ _ g2 g3,g3⟩
      . rw [B3,if_neg (by omega)];exact h1.rest k (by omega) hkl
     have hw2:((τ1.AP jw (BX (AF g.length false))).AP jr (cells.set i (.ms jw g.length 1 4))).blk jw=some (BX (AF g.length false)):=by
      rw [AK,if_neg hjwr,AK,if_pos rfl]
     have hb52:((τ1.AP jw (BX (AF g.length false))).AP jr (cells.set i (.ms jw g.length 1 4))).blk j5=some [.d (.int .i64 i)]:=by
      rw [AK,if_neg f5];exact Kj hb5 hjw _
     have hci:(cells.set i (AV.ms jw g.length 1 4))[i]?=some (.ms jw g.length 1 4):=by rw [B3,if_pos rfl,if_pos (by rw [h1.cl];exact hlt)]
     have hw51:jw≠j5:=fun e=>by rw [e,hb5] at hjw;cases hjw
     have hwn:jw≠j1/\jw≠j3/\jw≠j4:=⟨fun e=>(by rw [e,h1.b1] at hjw;cases hjw),fun e=>(by rw [e,h1.b3] at hjw;cases hjw),fun e=>(by rw [e,h1.b4] at hjw;cases hjw)⟩
     have hrw:∀k jk,k < i->(cells.set i (AV.ms jw g.length 1 4))[k]?=some (.ms jk g.length 1 4)->jk≠jw:=fun k jk hk hc e=>by
      rw [B3,if_neg (by omega)] at hc;obtain ⟨jk',g1,g2,_⟩:=h1.rows k hk;rw [hc] at g1;cases g1;rw [e,hjw] at g2;cases g2
     have hjw0:=h1.le.none hjw;generalize (τ1.AP jw (BX (AF g.length false))).AP jr (cells.set i (.ms jw g.length 1 4))=τ2 at h2 hw2 hb52 ⊢;clear h1 hb5 hil2 hwr hjw;generalize cells.set i (AV.ms jw g.length 1 4)=cells2 at h2 hci hrw;(repeat' (first|refine ctQ rfl ?_|((first|refine rgQ mxQ ?_|refine cdQ ?_)<;>try simp only [hw1,go_sem])|fail));rintro j6 ⟨hj6,hjb6⟩;obtain ⟨e1,e2,e3,e4,e5,e6⟩:=h2.fresh hj6;have h2b:=(h2.new e1 e2 e3 e4 e5 e6 [.H0]).bt (x:=(1,88)) hjb6;have n56:j5≠j6:=fun e=>by rw [<- e,hb52] at hj6;cases hj6
     have nw6:jw≠j6:=fun e=>by rw [<- e,hw2] at hj6;cases hj6
     have hbt:∀(τ:AI) (x:Nat×TypeId),(τ.CH j6 x).blk=τ.blk:=fun _ _=>rfl;have hb6':((τ2.AP j6 [AV.H0]).CH j6 (1,88)).blk j6=some [.H0]:=by rw [hbt,AK,if_pos rfl]
     have hb53:((τ2.AP j6 [AV.H0]).CH j6 (1,88)).blk j5=some [.d (.int .i64 i)]:=by rw [hbt,AK,if_neg n56];exact hb52
     have hw3:((τ2.AP j6 [AV.H0]).CH j6 (1,88)).blk jw=some (BX (AF g.length false)):=by rw [hbt,AK,if_neg nw6];exact hw2
     generalize (τ2.AP j6 [AV.H0]).CH j6 (1,88)=τ3 at h2b hb6' hb53 hw3 ⊢;clear hbt h2 hw2 hb52 hj6 hjb6;have h3:=h2b.new e1 e2 e3 e4 e5 e6 [.fn 87 [] [.gp j4 0,.gp j5 0,.gp j1 0,.gp j6 0]];replace hb53:(τ3.AP j6 [.fn 87 [] [.gp j4 0,.gp j5 0,.gp j1 0,.gp j6 0]]).blk j5=some [.d (.int .i64 i)]:=by rw [AK,if_neg n56];exact hb53
     replace hw3:(τ3.AP j6 [.fn 87 [] [.gp j4 0,.gp j5 0,.gp j1 0,.gp j6 0]]).blk jw=some (BX (AF g.length false)):=by rw [AK,if_neg nw6];exact hw3
     have hb6:(τ3.AP j6 [.fn 87 [] [.gp j4 0,.gp j5 0,.gp j1 0,.gp j6 0]]).blk j6=some [.fn 87 [] [.gp j4 0,.gp j5 0,.gp j1 0,.gp j6 0]]:=B0;have hcb:CB g j1 j4 j5 j6 jr jw i cells2 (AF g.length false) _:=⟨h3.b1,h3.b4,hb53,hb6,h3.br,h3.cl,hci,hlt,hw3,by simp,hwn.1,hwn.2.2,hw51,nw6,hjwr⟩;have hcl:=ALT g hg hgl hll j1 j4 j5 j6 jr jw i cells2 _ (AF g.length false) i _ rfl hlt hcb;(repeat' (first|refine ctQ rfl ?_|((first|refine rgQ mxQ ?_|refine cdQ ?_|(refine ⟨_,[],[.gp j4 0,.gp j5 0,.gp j1 0,.gp j6 0],rfl,by kernel_rfl,AH.mk rfl hcl ?_⟩;rintro _ _ ⟨R2,rfl,rfl,hd⟩))<;>try simp only [hb6',EG,hb6,hb53,hw1,go_sem])|fail));have hR:=AP1 hg hlt hd;subst hR;refine ih (i+1,cells2,_) ⟨by simp only;omega,?_⟩ (by simp only;omega);have h4:=h3.new hjw0 hwn.1 hwn.2.1 hwn.2.2 hjwr hrw (BX (ABP g i));refine ⟨h4.b1,h4.b3,h4.b4,h4.br,h4.cl,fun k hk=>?_,h4.rest,h4.le,h4.nr,h4.n1,h4.n3,h4.n4⟩;by_cases hki:k=i
     . subst hki;exact ⟨jw,hci,if_pos rfl,hjwr⟩
     . exact h4.rows k (by omega)
 . have hie:i=g.length:=by omega
   subst hie;have:=hfin cells τ h;(repeat' (refine wQ mxQ rfl ?_<;>try simp only [B5 hlt,go_sem]));exact this
end Go.Ab
namespace Go.Ab
def lsB (ls:List Bool) (k:Nat):Bool:=ls.getD k false
noncomputable def HZ (g:List (List Nat)) (i k:Nat):Bool:=rB g i k&&rB g k i
noncomputable def dQ (g:List (List Nat)) (i:Nat):List Nat:=(BA g.length).filter (HZ g i)
noncomputable def sX (g:List (List Nat)) (ls:List Bool) (i:Nat):Bool:=(BA g.length).all fun j=>!((rB g i j&& !rB g j i)&& !lsB ls j)
noncomputable def iD (g:List (List Nat)) (i:Nat) (ls:List Bool) (j:Nat):List Bool:=(BA g.length).map fun k=>lsB ls k||(decide (k < j)&&HZ g i k)
noncomputable def ZZ (g:List (List Nat)) (i:Nat) (ls:List Bool):List Bool:=iD g i ls g.length
noncomputable def dA (g:List (List Nat)) (ls:List Bool) (i:Nat):Bool:=!lsB ls i&&sX g ls i
noncomputable def ABC (g:List (List Nat)) (ls:List Bool):Option Nat:=(BA g.length).find? (dA g ls)
noncomputable def La (g:List (List Nat)):Nat->List Bool->List (List Nat)
 |0,_=>[]
 |f+1,ls=>match ABC g ls with
  |none=>[]
  |some i=>dQ g i::La g f (ZZ g i ls)
noncomputable def Vb (g:List (List Nat)):List (List Nat):=La g (g.length+1) (AF g.length false)
theorem KE (g:List (List Nat)) (i:Nat) (ls:List Bool) (j:Nat):(iD g i ls j).length=g.length:=by simp [iD]
theorem QW (g:List (List Nat)) (i:Nat) (ls:List Bool) (j:Nat) {k:Nat} (hk:k < g.length):(iD g i ls j)[k]?=some (lsB ls k||(decide (k < j)&&HZ g i k)):=by
 rw [iD,Aj,ED hk];rfl
theorem AJP {g:List (List Nat)} {i:Nat} {ls:List Bool} (h:ls.length=g.length):iD g i ls 0=ls:=by
 apply FO;intro k;by_cases hk:k < g.length
 . rw [QW g i ls 0 hk];have:ls[k]?=some ls[k]:=by simp [h,hk]
   rw [this];simp [lsB,Ac,this]
 . rw [B9 (by rw [KE];omega),B9 (by omega)]
theorem AJO {g:List (List Nat)} {i:Nat} {ls:List Bool} {j:Nat} (hj:j < g.length):iD g i ls (j+1)=if HZ g i j then (iD g i ls j).set j true else iD g i ls j:=by
 apply FO;intro k;by_cases hk:k < g.length
 . rw [QW g i ls _ hk];cases hm:HZ g i j with
   |true=>
    rw [if_pos rfl,B3];by_cases hjk:j=k
    . subst hjk;rw [if_pos rfl,if_pos (by rw [KE];exact hj)];simp [hm]
    . rw [if_neg hjk,QW g i ls _ hk];have:decide (k < j+1)=decide (k < j):=decide_eq_decide.2 (by omega);rw [this]
   |false=>
    rw [if_neg (by simp),QW g i ls _ hk];by_cases hjk:j=k
    . subst hjk;simp [hm]
    . have:decide (k < j+1)=decide (k < j):=decide_eq_decide.2 (by omega);rw [this]
 . have hl:(if HZ g i j=true then (iD g i ls j).set j true else iD g i ls j).length=g.length:=by
    split
    . rw [LW,KE]
    . rw [KE]
   rw [B9 (by rw [KE];omega),B9 (by omega)]
theorem AJQ (g:List (List Nat)) (i:Nat):HZ g i i=true:=by
 simp [HZ,Xz.2 (Reach.refl i)]
theorem Ri {ls:List Bool} {k:Nat} {b:Bool} (h:ls[k]?=some b):lsB ls k=b:=by simp [lsB,Ac,h]
theorem AO6:∀ {R R':List Bool} {v:Nat},R'.length=R.length->(∀k:Nat,R[k]?=some true->R'[k]?=some true)->R[v]?=some false->R'[v]?=some true->unm R' < unm R
 |[],R',v,h,hm,hv,_=>by simp at hv
 |b::R,[],v,h,_,_,_=>by simp at h
 |b::R,c::R',0,h,hm,hv,hv'=>by
  simp at hv hv';subst hv;subst hv';have:=AF2 (R:=R) (R':=R') (by simpa using h) (fun k hk=>by simpa using hm (k+1) (by simpa using hk));simp [unm] at this ⊢;omega
 |b::R,c::R',v+1,h,hm,hv,hv'=>by
  have:=AO6 (R:=R) (R':=R') (v:=v) (by simpa using h) (fun k hk=>by simpa using hm (k+1) (by simpa using hk)) (by simpa using hv) (by simpa using hv');have h0:=hm 0;cases b<;>cases c<;>simp [unm] at this h0 ⊢<;>omega
theorem AHF {g:List (List Nat)} {i:Nat} {ls:List Bool} (hl:ls.length=g.length) (hi:i < g.length) (h:lsB ls i=false):unm (ZZ g i ls) < unm ls:=by
 have hgi:ls[i]?=some false:=by
  have h1:ls[i]?=some ls[i]:=by simp [hl,hi]
  have:=Ri h1;rw [h1,<- this,h]
 refine AO6 (v:=i) (by rw [ZZ,KE,hl]) (fun k hk=>?_) hgi ?_
 . have hkl:k < g.length:=by have:=(AG.1 hk).1;omega
   rw [ZZ,QW g i ls _ hkl,Ri hk];rfl
 . rw [ZZ,QW g i ls _ hi,h,AJQ];simp [hi]
theorem AQO {p:Nat->Bool} {n i:Nat} (hi:i < n) (hp:p i=true) (hn:∀k,k < i->p k=false):(BA n).find? p=some i:=by
 rw [List.find?_range_eq_some];exact ⟨hp,by simpa using hi,fun j hj=>by simp [hn j hj]⟩
theorem AIL {p:Nat->Bool} {n:Nat} (hn:∀k,k < n->p k=false):(BA n).find? p=none:=by
 rw [Qi];intro x hx;rw [CJ] at hx;simp [hn x hx]
end Go.Ab
namespace Go.Ab
structure Ow where
 e:Nat
 s:Nat
 rows:List (List DV)
 v:AV
def J7 (σ0:AI) (l:List Ow) (τ:AI):Prop:=(∀x∈l,Bz σ0 x.e x.s x.rows x.v τ)/\l.Pairwise fun a b=>mL a.v b.v
theorem J7.perm {σ0 τ:AI} {l m:List Ow} (h:J7 σ0 l τ) (hp:l.Perm m):J7 σ0 m τ:=
 ⟨fun x hx=>h.1 x (hp.mem_iff.2 hx),(hp.pairwise_iff (fun hab=>hab.symm)).1 h.2⟩
theorem J7.head {σ0 τ:AI} {l:List Ow} {x:Ow} (h:J7 σ0 (x::l) τ):Bz σ0 x.e x.s x.rows x.v τ:=h.1 x (AS ..)
theorem J7.tail {σ0 τ:AI} {l:List Ow} {x:Ow} (h:J7 σ0 (x::l) τ):J7 σ0 l τ:=⟨fun y hy=>h.1 y (AR _ hy),(LK.1 h.2).2⟩
theorem J7.nil {σ0 τ:AI} {l:List Ow} (h:J7 σ0 l τ) (hle:σ0.le τ) (e s:Nat):J7 σ0 (⟨e,s,[],.Ae⟩::l) τ:=
 ⟨fun y hy=>by
   rcases Ar.1 hy with rfl|hy
   . exact ⟨⟨τ,rfl,hle⟩,hle,rfl,rfl,rfl,rfl,fun _=>rfl,rfl,rfl⟩
   . exact h.1 y hy,LK.2 ⟨fun y _=>ACW y.v,h.2⟩⟩
theorem DD.AJ1 {cx:Cx} {K:Fm->Lm->AI->Prop} {F:Fm} {L:Lm} {σ σ0:AI} {d:Option Nat} {e size bytes:Nat} {s x:AV} {rows srows:List (List DV)} {l:List Ow} (ho:J7 σ0 (⟨e,size,rows,s⟩::l) σ) (h2:x.rows=some srows)
 (h3:∀r∈srows,r.length=size) (h4:rows.length+srows.length<=1000000000) (hb:bytes<=10000)
 (h:∀v σ',J7 σ0 (⟨e,size,rows++srows,v⟩::l) σ'->(∀i,σ'.blk i=σ.blk i)->K (BS d v F) L σ'):DD e size bytes s x d K F L σ:=
 DD.AXN (cx:=cx) ho.head h2 h3 h4 hb (fun v σ' h1 hbk hk=>h v σ' ⟨fun y hy=>by
  rcases Ar.1 hy with rfl|hy
  . exact h1
  . exact (hk _ _ _ _ (ho.tail.1 y hy) ((LK.1 ho.2).1 y hy)).1,
  LK.2 ⟨fun y hy=>(hk _ _ _ _ (ho.tail.1 y hy) ((LK.1 ho.2).1 y hy)).2,(LK.1 ho.2).2⟩⟩ hbk)
end Go.Ab
namespace Go.Ab
open Go.Proofs
theorem eW {g:List (List Nat)} {i k:Nat} (hk:k < g.length):(ABP g i)[k]?=some (rB g i k):=by
 rw [ABP,Aj,ED hk];rfl
theorem RS.at {σ τ:AI} {g:List (List Nat)} {j1 j3 j4 jr:Nat} {cells:List AV} (h:RS σ g j1 j3 j4 jr g.length g.length cells τ) {i:Nat} (hi:i < g.length):∃ji,cells[i]?=some (.ms ji g.length 1 4)/\τ.blk ji=some (BX (ABP g i)):=by
 obtain ⟨ji,h1,h2,_⟩:=h.rows i hi;exact ⟨ji,h1,h2⟩
theorem ilT {i n:Nat} (h:i < n):((i:Int) < (n:Int))=True:=by simp only [eq_iff_iff,iff_true];omega
theorem ALU (g:List (List Nat)) (hgl:g.length<=1000) (j1 j3 j4 jr j7 jl:Nat) (σ τ:AI) (cells:List AV) (h:RS σ g j1 j3 j4 jr g.length g.length cells τ) (ls:List Bool) (hls:ls.length=g.length) (h7:τ.blk j7=some [.ms jl g.length 1 4]) (hl:τ.blk jl=some (BX ls)) (i:Nat) (hi:i < g.length):
 AT Tzp 88 [.d (.int .i64 i),.gp j3 0,.gp j4 0,.gp j7 0] τ (fun v σ'=>v= .d (.bool (sX g ls i))/\σ'=τ):=by
 obtain ⟨ji,hci,hbi⟩:=h.at hi;have hil:=ilT hi;refine X6 (by simp) ?_;rw [fR];(repeat' (refine wQ mxQ rfl ?_<;>try simp only [h.b3,go_sem]));refine Run.At ?_;refine Run.Au ((fun (a0:AV) (a2:AV) (a3:AV) (a7:AV)=>fun (j:Nat)=>put 0 a0 (put 2 a2 (put 3 a3 (put 7 a7 (put 8 (.d (.int .i64 j)) U))))) _ _ _ _) (fun _=>E) (fun _=>τ) (fun j=>j<=g.length/\∀k,k < j->((rB g i k&& !rB g k i)&& !lsB ls k)=false) (fun j=>g.length - j) ?_ 0 ⟨by simp,fun k hk=>by omega⟩;rintro j ⟨hj,hno⟩ ih;by_cases hlt:j < g.length
 . obtain ⟨jj,hcj,hbj⟩:=h.at hlt;have hjl:=ilT hlt;have hw1:=A4 (show j+1<=9000000000000000000 by omega);have e1:=HH (eW (i:=i) hlt);have e2:=HH (eW (i:=j) hi);obtain ⟨bl,hbl⟩:=Ai (show j < ls.length by omega);have e3:=HH hbl;rw [<- Ri hbl] at e3
   have hnx:((rB g i j&& !rB g j i)&& !lsB ls j)=false->∀k,k < j+1->((rB g i k&& !rB g k i)&& !lsB ls k)=false:=fun h0 k hk=>by
    rcases C7 k j with h|h
    . exact hno k h
    . have:k=j:=by omega
      subst this;exact h0
   cases c1:rB g i j with
   |false=>
    rw [c1] at e1;(repeat' (refine wQ mxQ rfl ?_<;>try simp only [Ag hlt,h.b4,h.br,hci,hbi,hcj,hbj,hil,hjl,e1,hw1,A5,go_sem]));exact ih (j+1) ⟨by omega,hnx (by rw [c1];rfl)⟩ (by omega)
   |true=>
   rw [c1] at e1;cases c2:rB g j i with
   |true=>
    rw [c2] at e2;(repeat' (refine wQ mxQ rfl ?_<;>try simp only [Ag hlt,h.b4,h.br,hci,hbi,hcj,hbj,hil,hjl,e1,e2,hw1,A5,go_sem]));exact ih (j+1) ⟨by omega,hnx (by rw [c1,c2];rfl)⟩ (by omega)
   |false=>
   rw [c2] at e2;cases c3:lsB ls j with
   |true=>
    rw [c3] at e3;(repeat' (refine wQ mxQ rfl ?_<;>try simp only [Ag hlt,h.b4,h.br,hci,hbi,hcj,hbj,h7,hl,hil,hjl,e1,e2,e3,hw1,A5,go_sem]));exact ih (j+1) ⟨by omega,hnx (by rw [c1,c2,c3];rfl)⟩ (by omega)
   |false=>
    rw [c3] at e3
    have hr:sX g ls i=false:=by
     rw [sX,C5];intro ha;rw [A8] at ha;have:=ha j (CJ.2 hlt);rw [c1,c2,c3] at this;cases this
    (repeat' ((first|refine wQ mxQ rfl ?_|refine Run.qR Ik ?_|fail)<;>try simp only [Ag hlt,h.b4,h.br,hci,hbi,hcj,hbj,h7,hl,hil,hjl,e1,e2,e3,hw1,A5,go_sem]));rw [hr]
 . have hr:sX g ls i=true:=by
    rw [sX,A8];intro k hk;rw [CJ] at hk;rw [hno k (by omega)];rfl
   (repeat' ((first|refine wQ mxQ rfl ?_|refine Run.qR Ik ?_|fail)<;>try simp only [B5 hlt,go_sem]));rw [hr]
theorem RS.tok {σ τ τ':AI} {g:List (List Nat)} {j1 j3 j4 jr i m:Nat} {cells:List AV} (h:RS σ g j1 j3 j4 jr i m cells τ) (hb:∀q,τ'.blk q=τ.blk q) (hle:σ.le τ'):RS σ g j1 j3 j4 jr i m cells τ':=
 ⟨(hb j1).trans h.b1,(hb j3).trans h.b3,(hb j4).trans h.b4,(hb jr).trans h.br,h.cl,fun k hk=>by
   obtain ⟨jk,h1,h2,h3⟩:=h.rows k hk;exact ⟨jk,h1,(hb jk).trans h2,h3⟩,h.rest,hle,h.nr,h.n1,h.n3,h.n4⟩
theorem J7.set {σ0 τ:AI} {l:List Ow} (h:J7 σ0 l τ) {j:Nat} (hj:σ0.blk j=none) (cs:List AV):J7 σ0 l (τ.AP j cs):=⟨fun x hx=>(h.1 x hx).set hj cs,h.2⟩
structure LS (σ:AI) (g:List (List Nat)) (j1 j3 j4 jr j7 jl:Nat) (cells:List AV) (ls:List Bool) (τ:AI):Prop where
 rs:RS σ g j1 j3 j4 jr g.length g.length cells τ
 b7:τ.blk j7=some [.ms jl g.length 1 4]
 bl:τ.blk jl=some (BX ls)
 ll:ls.length=g.length
 nl:σ.blk jl=none
 n1:jl≠j1
 n3:jl≠j3
 n4:jl≠j4
 nr:jl≠jr
 n7:jl≠j7
 nk:∀k jk,k < g.length->cells[k]?=some (.ms jk g.length 1 4)->jk≠jl
theorem LS.set {σ:AI} {g:List (List Nat)} {j1 j3 j4 jr j7 jl:Nat} {cells:List AV} {ls:List Bool} {τ:AI} (h:LS σ g j1 j3 j4 jr j7 jl cells ls τ) (ls':List Bool) (hl:ls'.length=g.length):LS σ g j1 j3 j4 jr j7 jl cells ls' (τ.AP jl (BX ls')):=
 ⟨h.rs.new h.nl h.n1 h.n3 h.n4 h.nr h.nk _,by rw [AK,if_neg (A9 h.n7)];exact h.b7,B0,hl,h.nl,h.n1,h.n3,h.n4,h.nr,h.n7,h.nk⟩
theorem LS.tok {σ:AI} {g:List (List Nat)} {j1 j3 j4 jr j7 jl:Nat} {cells:List AV} {ls:List Bool} {τ τ':AI} (h:LS σ g j1 j3 j4 jr j7 jl cells ls τ) (hb:∀q,τ'.blk q=τ.blk q) (hle:σ.le τ'):LS σ g j1 j3 j4 jr j7 jl cells ls τ':=
 ⟨h.rs.tok hb hle,(hb j7).trans h.b7,(hb jl).trans h.bl,h.ll,h.nl,h.n1,h.n3,h.n4,h.nr,h.n7,h.nk⟩
theorem APW (Q:AV->AI->Prop) (rest:List CI) (g:List (List Nat)) (hgl:g.length<=1000) (j1 j3 j4 jr j7 jl:Nat) (σ τ:AI) (cells:List AV) (ls:List Bool) (h:LS σ g j1 j3 j4 jr j7 jl cells ls τ) (i:Nat) (hi:i < g.length) (fnv outv:AV) (orows:List (List DV)) (ho:J7 σ [⟨74,1,orows,outv⟩] τ) (hfn:∀k,fnv.BV k=false)
 (hfin:∀gv τ',LS σ g j1 j3 j4 jr j7 jl cells (ZZ g i ls) τ'->J7 σ [⟨3,1,(dQ g i).map By,gv⟩,⟨74,1,orows,outv⟩] τ'->Run CF Q rest (put 3 (.gp j3 0) (put 4 (.gp j4 0) (put 7 (.gp j7 0) (put 8 fnv (put 9 outv (put 10 (.d (.int .i64 i)) (put 11 gv (put 50 (.d (.int .i64 g.length)) (put 51 (.d (.int .i64 g.length)) (put 52 (.d (.bool false)) U)))))))))) E τ'):
 Run CF Q (.code (.loop Hy)::.blk 4::rest) (put 3 (.gp j3 0) (put 4 (.gp j4 0) (put 7 (.gp j7 0) (put 8 fnv (put 9 outv (put 10 (.d (.int .i64 i)) (put 11 .Ae (put 50 (.d (.int .i64 g.length)) (put 51 (.d (.int .i64 0)) U))))))))) E τ:=by
 have hol:=fun k=>ho.head.BV k;simp only at hol;have hil:=ilT hi;refine Run.At ?_
 refine Run.Au ((fun (a3:AV) (a4:AV) (a7:AV) (a8:AV) (a9:AV) (a10:AV) (a50:AV)=>fun (y:Nat×AV×AI)=>put 3 a3 (put 4 a4 (put 7 a7 (put 8 a8 (put 9 a9 (put 10 a10 (put 11 (y.2.1) (put 50 a50 (put 51 (.d (.int .i64 y.1)) U))))))))) _ _ _ _ _ _ _) (fun _=>E) (fun y=>y.2.2)
  (fun y=>y.1<=g.length/\LS σ g j1 j3 j4 jr j7 jl cells (iD g i ls y.1) y.2.2/\J7 σ [⟨3,1,((BA y.1).filter (HZ g i)).map By,y.2.1⟩,⟨74,1,orows,outv⟩] y.2.2) (fun y=>g.length - y.1) ?_ (0,.Ae,τ) ⟨by simp,by rw [AJP h.ll];exact h,ho.nil h.rs.le _ _⟩
 rintro ⟨j,gv,τ⟩ ⟨hj,hL,hO⟩ ih;simp only at hj hL hO;have hgo:=hO.head;simp only at hgo;by_cases hlt:j < g.length
 . obtain ⟨ji,hci,hbi⟩:=hL.rs.at hi;obtain ⟨jj,hcj,hbj⟩:=hL.rs.at hlt;have hjl:=ilT hlt;have hw1:=A4 (show j+1<=9000000000000000000 by omega);have e1:=HH (eW (i:=i) hlt);have e2:=HH (eW (i:=j) hi);have hst:=AJO (i:=i) (ls:=ls) hlt
   have hfs:(BA (j+1)).filter (HZ g i)=if HZ g i j then (BA j).filter (HZ g i)++[j] else (BA j).filter (HZ g i):=by
    rw [List.range_succ,Qh];cases hm:HZ g i j<;>simp [hm]
   have hih:=fun gv' τ' h1 h2=>ih (j+1,gv',τ') ⟨by simp only;omega,h1,h2⟩ (by simp only;omega);simp only at hih;rw [hst,hfs] at hih;cases c1:rB g i j with
   |false=>
    have hm:HZ g i j=false:=by simp [HZ,c1]
    rw [c1] at e1;rw [hm] at hih;(repeat' (refine wQ mxQ rfl ?_<;>try simp only [Ag hlt,hL.rs.b4,hL.rs.br,hci,hbi,hcj,hbj,hil,hjl,e1,hw1,A5,hol,hgo.BV,hfn,go_sem]));exact hih _ _ hL hO
   |true=>
   rw [c1] at e1;cases c2:rB g j i with
   |false=>
    have hm:HZ g i j=false:=by simp [HZ,c2]
    rw [c2] at e2;rw [hm] at hih;(repeat' (refine wQ mxQ rfl ?_<;>try simp only [Ag hlt,hL.rs.b4,hL.rs.br,hci,hbi,hcj,hbj,hil,hjl,e1,e2,hw1,A5,hol,hgo.BV,hfn,go_sem]));exact hih _ _ hL hO
   |true=>
    have hm:HZ g i j=true:=by simp [HZ,c1,c2]
    rw [c2] at e2;rw [hm] at hih;simp only [if_true] at hih
    have hflen:(((BA j).filter (HZ g i)).map By).length<=1000:=by
     have:=MW (HZ g i) (BA j);rw [List.length_range] at this;rw [AA];omega
    have hjm:j < (iD g i ls j).length:=by rw [KE];exact hlt
    have hb7:=hL.b7;have hbl:=hL.bl;have w1:=tO true hjm;have d1:=zD hjm;(repeat' ((first|refine wQ mxQ rfl ?_|(refine DD.AJ1 (cx:=CF) hO rfl (by simp) (by simp only [A1,CG];omega) (by decide) (fun v2 τ2 ho2 hbk=>?_))|fail)<;>try simp only [Ag hlt,hL.rs.b4,hL.rs.br,hci,hbi,hcj,hbj,hil,hjl,e1,e2,hw1,A5,hol,hgo.BV,hfn,go_sem]));have hL2:=hL.tok hbk ho2.head.le;have h2l:=ho2.head.BV;simp only at h2l;simp only [hL2.b7,hL2.bl,hjl,w1,d1,A5,go_sem];(repeat' (refine wQ mxQ rfl ?_<;>try simp only [hL2.b7,hL2.bl,hjl,w1,d1,hw1,A5,hol,h2l,hfn,go_sem]))
    exact hih _ _ (hL2.set _ (by rw [LW,KE])) (by
     rw [Ay];exact ho2.set hL.nl _)
 . have hje:j=g.length:=by omega
   subst hje;have:=hfin gv τ hL hO;(repeat' (refine wQ mxQ rfl ?_<;>try simp only [B5 hlt,hol,hgo.BV,hfn,go_sem]));exact this
theorem APX (Q:AV->AI->Prop) (rest:List CI) (g:List (List Nat)) (hgl:g.length<=1000) (j1 j3 j4 jr j7 jl:Nat) (σ τ:AI) (cells:List AV) (h:LS σ g j1 j3 j4 jr j7 jl cells (AF g.length false) τ)
 (hfin:∀outv τ',σ.le τ'->Bz σ 74 1 ((Vb g).map YB) outv τ'->Run CF Q rest (put 3 (.gp j3 0) (put 4 (.gp j4 0) (put 7 (.gp j7 0) (put 8 (.fn 88 [] [.gp j3 0,.gp j4 0,.gp j7 0]) (put 9 outv (put 10 (.d (.int .i64 g.length)) (put 37 (.d (.bool false)) U))))))) E τ'):
 Run CF Q (.code (.loop M5)::.blk 2::rest) (put 3 (.gp j3 0) (put 4 (.gp j4 0) (put 7 (.gp j7 0) (put 8 (.fn 88 [] [.gp j3 0,.gp j4 0,.gp j7 0]) (put 9 .Ae (put 10 (.d (.int .i64 0)) U)))))) E τ:=by
 refine Run.At ?_
 refine Run.Au ((fun (a3:AV) (a4:AV) (a7:AV) (a8:AV)=>fun (y:Nat×List Bool×List (List Nat)×Nat×AV×AI)=>put 3 a3 (put 4 a4 (put 7 a7 (put 8 a8 (put 9 (y.2.2.2.2.1) (put 10 (.d (.int .i64 y.1)) U)))))) _ _ _ _) (fun _=>E) (fun y=>y.2.2.2.2.2)
  (fun y=>y.1<=g.length/\LS σ g j1 j3 j4 jr j7 jl cells y.2.1 y.2.2.2.2.2/\Bz σ 74 1 (y.2.2.1.map YB) y.2.2.2.2.1 y.2.2.2.2.2/\Vb g=y.2.2.1++La g y.2.2.2.1 y.2.1/\unm y.2.1 < y.2.2.2.1/\y.2.2.1.length+unm y.2.1<=g.length/\∀k,k < y.1->dA g y.2.1 k=false)
  (fun y=>unm y.2.1 * (g.length+1)+(g.length - y.1)) ?_ (0,AF g.length false,[],g.length+1,.Ae,τ) ⟨by simp,h,⟨⟨τ,rfl,h.rs.le⟩,h.rs.le,rfl,rfl,rfl,rfl,fun _=>rfl,rfl,rfl⟩,rfl,by simp [unm],by simp [unm],fun k hk=>by simp only at hk;omega⟩
 clear h;rintro ⟨i,ls,out,f,outv,τ⟩ ⟨hi,hL,ho,hcp,hf,hol,hno⟩ ih;simp only at hi hL ho hcp hf hol hno;by_cases hlt:i < g.length
 . have hil:=ilT hlt;have hw1:=A4 (show i+1<=9000000000000000000 by omega);obtain ⟨b,hb⟩:=Ai (show i < ls.length by rw [hL.ll];exact hlt);have eb:=HH hb;rw [<- Ri hb] at eb
   have hskip:dA g ls i=false->_:=fun hc=>ih (i+1,ls,out,f,outv,τ) ⟨by simp only;omega,hL,ho,hcp,hf,hol,fun k hk=>by
    simp only at hk;rcases C7 k i with h|h
    . exact hno k h
    . have:k=i:=by omega
      subst this;exact hc⟩ (by simp only;omega)
   simp only at hskip;cases hb1:lsB ls i with
   |true=>
    rw [hb1] at eb;(repeat' (refine wQ mxQ rfl ?_<;>try simp only [Ag hlt,hL.rs.b3,hL.b7,hL.bl,hil,eb,hw1,A5,ho.BV,go_sem]));exact hskip (by simp [dA,hb1])
   |false=>
   rw [hb1] at eb;have hrd:=ALU g hgl j1 j3 j4 jr j7 jl σ τ cells hL.rs ls hL.ll hL.b7 hL.bl i hlt;cases hr:sX g ls i with
   |false=>
    rw [hr] at hrd;(repeat' ((first|refine wQ mxQ rfl ?_|(refine ⟨_,[],[.gp j3 0,.gp j4 0,.gp j7 0],rfl,by kernel_rfl,AH.det hrd ?_⟩)|fail)<;>try simp only [Ag hlt,hL.rs.b3,hL.b7,hL.bl,hil,eb,hw1,A5,ho.BV,go_sem]));exact hskip (by simp [dA,hr])
   |true=>
    rw [hr] at hrd;have hcan:dA g ls i=true:=by simp [dA,hb1,hr]
    have hnx:ABC g ls=some i:=AQO hlt hcan hno;obtain ⟨f,rfl⟩:∃f',f=f'+1:=⟨f - 1,by omega⟩
    have hcp2:Vb g=(out++[dQ g i])++La g f (ZZ g i ls):=by
     rw [hcp,La,hnx];simp
    have hum:=AHF hL.ll hlt hb1;have hm1:IntKind.i64.wrap ((-1:Int)+1)=((0:Nat):Int):=by decide
    (repeat' ((first|refine wQ mxQ rfl ?_|(refine ⟨_,[],[.gp j3 0,.gp j4 0,.gp j7 0],rfl,by kernel_rfl,AH.det hrd ?_⟩)|fail)<;>try simp only [Ag hlt,hL.rs.b3,hL.b7,hL.bl,hil,eb,hw1,A5,ho.BV,go_sem]));refine APW Q _ g hgl j1 j3 j4 jr j7 jl σ τ cells ls hL i hlt _ outv (out.map YB) ⟨fun x hx=>by simp only [A6] at hx;subst hx;exact ho,List.pairwise_singleton _ _⟩ (fun _=>rfl) (fun gv τ2 hL2 hO2=>?_);have hg2:=hO2.head;have ho2:=hO2.tail.head;simp only at hg2 ho2;(repeat' ((first|refine wQ mxQ rfl ?_|(refine DD.own ho2 rfl (by simp) (by simp;omega) (by decide) (fun v4 τ4 ho4 hbk4=>?_))|fail)<;>try simp only [hm1,ho2.BV,hg2.BV,hg2.cell,hg2.cells,hg2.dv,hg2.BE,A5,go_sem]));(repeat' (refine wQ mxQ rfl ?_<;>try simp only [hm1,ho4.BV,go_sem]));refine ih (0,ZZ g i ls,out++[dQ g i],f,v4,τ4) ⟨by simp,hL2.tok hbk4 ho4.le,by simp only [Ay];exact ho4,hcp2,by simp only;omega,by simp only [AX,A1,CG];omega,fun k hk=>by simp only at hk;omega⟩ ?_;simp only;have:(unm (ZZ g i ls)+1) * (g.length+1)<=unm ls * (g.length+1):=Bw _ hum;rw [OQ] at this;omega
 . have hie:i=g.length:=by omega
   subst hie;obtain ⟨f,rfl⟩:∃f',f=f'+1:=⟨f - 1,by omega⟩;have hnx:ABC g ls=none:=AIL hno;rw [La,hnx,BW] at hcp;have:=hfin outv τ ho.le (by rw [hcp];exact ho);(repeat' (refine wQ mxQ rfl ?_<;>try simp only [B5 hlt,hL.rs.b3,ho.BV,go_sem]));exact this
end Go.Ab
namespace Go.Ab
open Go.Proofs
theorem ANK (n:Nat):(AF n [AV.Ae]).flatten=AF n AV.Ae:=by
 induction n with
 |zero=>rfl
 |succ n ih=>rw [B1,BU,ih];rfl
theorem Zb (g:List (List Nat)) (hg:cK g) (hgl:g.length<=1000) (hll:∀l∈g,l.length<=1000) (σ:AI):
 AT Tzp 52 [.d (.sl (g.map YB))] σ (fun v σ'=>v= .d (.sl ((Vb g).map YB))/\σ'=σ):=by
 refine bB (by simp) ?_;rw [Bq];generalize hQ:(fun (v:AV) (σ':AI)=>v= .d (.sl ((Vb g).map YB))/\σ'=σ)=Q;have hok:Q (.d (.sl ((Vb g).map YB))) σ:=by rw [<- hQ];exact ⟨rfl,rfl⟩
 clear hQ;have hbt:∀(τ:AI) (j:Nat) (x:Nat×TypeId) (q:Nat),(τ.CH j x).blk q=τ.blk q:=fun _ _ _ _=>rfl;(repeat' (first|refine ctQ rfl ?_|((first|refine rgQ mxQ ?_|refine cdQ ?_)<;>try simp only [go_sem])|fail));intro j1 hj1;have hle1:=CQ (cs:=[AV.d (.sl (g.map YB))]) hj1;have hb1:(σ.AP j1 [AV.d (.sl (g.map YB))]).blk j1=some [AV.d (.sl (g.map YB))]:=B0;generalize σ.AP j1 [AV.d (.sl (g.map YB))]=τ1 at hle1 hb1 ⊢;(repeat' (first|refine ctQ rfl ?_|((first|refine rgQ mxQ ?_|refine cdQ ?_)<;>try simp only [hb1,AA,go_sem])|fail));rintro j3 ⟨hj3,hjb3⟩;have hj30:=hle1.none hj3;have n13:j1≠j3:=fun e=>by rw [<- e,hb1] at hj3;cases hj3
 have hle3:σ.le (((τ1.AP j3 [AV.d (.int .i64 0)]).CH j3 (1,3)).AP j3 [.d (.int .i64 g.length)]):=E6 (eH (E6 hle1 hj30) hjb3) hj30;have hb13:(((τ1.AP j3 [AV.d (.int .i64 0)]).CH j3 (1,3)).AP j3 [.d (.int .i64 g.length)]).blk j1=some [AV.d (.sl (g.map YB))]:=by rw [AK,if_neg n13,hbt,AK,if_neg n13];exact hb1
 have hb3:(((τ1.AP j3 [AV.d (.int .i64 0)]).CH j3 (1,3)).AP j3 [.d (.int .i64 g.length)]).blk j3=some [.d (.int .i64 g.length)]:=B0;simp only [hbt,AK,go_sem];generalize ((τ1.AP j3 [AV.d (.int .i64 0)]).CH j3 (1,3)).AP j3 [AV.d (.int .i64 g.length)]=τ3 at hle3 hb13 hb3 ⊢;clear hb1 hle1;(repeat' ((first|refine wQ mxQ rfl ?_|(refine PC.mk (n:=g.length) (by omega) (by omega) (fun jr hjr=>?_))|fail)<;>try simp only [hb3,AA,go_sem]));rw [ANK];have hjr0:=hle3.none hjr;have nr1:jr≠j1:=fun e=>by rw [e,hb13] at hjr;cases hjr
 have nr3:jr≠j3:=fun e=>by rw [e,hb3] at hjr;cases hjr
 rintro j4 ⟨hj4,hjb4⟩;replace hj4:(τ3.AP jr (AF g.length AV.Ae)).blk j4=none:=by rw [AK];exact hj4
 have hle4:=E6 (cs:=AF g.length AV.Ae) hle3 hjr0;have hb14:=Kj hb13 hjr (AF g.length AV.Ae);have hb34:=Kj hb3 hjr (AF g.length AV.Ae);have hbr:(τ3.AP jr (AF g.length AV.Ae)).blk jr=some (AF g.length AV.Ae):=B0;generalize τ3.AP jr (AF g.length AV.Ae)=τ4 at hle4 hb14 hb34 hbr hj4 hjb4 ⊢;clear hb13 hb3 hle3 hjr;have hj40:=hle4.none hj4;have n14:j1≠j4:=fun e=>by rw [<- e,hb14] at hj4;cases hj4
 have n34:j3≠j4:=fun e=>by rw [<- e,hb34] at hj4;cases hj4
 have nr4:jr≠j4:=fun e=>by rw [<- e,hbr] at hj4;cases hj4
 have hrs:RS σ g j1 j3 j4 jr 0 0 (AF g.length AV.Ae) (((τ4.AP j4 [AV.Ae]).CH j4 (1,173)).AP j4 [AV.ms jr g.length 1 92]):=
  ⟨by rw [AK,if_neg n14,hbt,AK,if_neg n14];exact hb14,by rw [AK,if_neg n34,hbt,AK,if_neg n34];exact hb34,B0,by rw [AK,if_neg nr4,hbt,AK,if_neg nr4];exact hbr,by simp,fun k hk=>by omega,fun k _ hk=>by simp [hk],E6 (eH (E6 hle4 hj40) hjb4) hj40,hjr0,nr1,nr3,nr4⟩
 simp only [hbt,AK,go_sem];generalize ((τ4.AP j4 [AV.Ae]).CH j4 (1,173)).AP j4 [AV.ms jr g.length 1 92]=τ5 at hrs ⊢;clear hle4 hb14 hb34 hbr hj4 hjb4;(repeat' (refine wQ mxQ rfl ?_<;>try simp only [hrs.b4,hrs.b3,hrs.b1,go_sem]));refine APV Q _ g hg hgl hll j1 j3 j4 jr σ τ5 _ hrs (fun cells τ6 hrs=>?_);(repeat' ((first|refine wQ mxQ rfl ?_|(refine PC.mk (n:=g.length) (by omega) (by omega) (fun jl hjl=>?_))|fail)<;>try simp only [hrs.b3,go_sem]));rw [Y3];obtain ⟨f1,f2,f3,f4,f5,f6⟩:=hrs.fresh hjl;have hrs2:=hrs.new f1 f2 f3 f4 f5 f6 (BX (AF g.length false));rintro j7 ⟨hj7,hjb7⟩;replace hj7:(τ6.AP jl (BX (AF g.length false))).blk j7=none:=by rw [AK];exact hj7
 have hbl:(τ6.AP jl (BX (AF g.length false))).blk jl=some (BX (AF g.length false)):=B0;generalize τ6.AP jl (BX (AF g.length false))=τ7 at hrs2 hbl hj7 hjb7 ⊢;obtain ⟨e1,e2,e3,e4,e5,e6⟩:=hrs2.fresh hj7;have nl7:jl≠j7:=fun e=>by rw [<- e,hbl] at hj7;cases hj7
 have hrs3:=((hrs2.new e1 e2 e3 e4 e5 e6 [.Ae]).bt (x:=(1,92)) hjb7).new e1 e2 e3 e4 e5 e6 [AV.ms jl g.length 1 4]
 have hls:LS σ g j1 j3 j4 jr j7 jl cells (AF g.length false) (((τ7.AP j7 [AV.Ae]).CH j7 (1,92)).AP j7 [AV.ms jl g.length 1 4]):=
  ⟨hrs3,B0,by rw [AK,if_neg nl7,hbt,AK,if_neg nl7];exact hbl,by simp,f1,f2,f3,f4,f5,nl7,f6⟩
 simp only [hbt,AK,go_sem];generalize ((τ7.AP j7 [AV.Ae]).CH j7 (1,92)).AP j7 [AV.ms jl g.length 1 4]=τ8 at hls ⊢;clear hrs hrs2 hrs3 hbl hjl hj7 hjb7;(repeat' (refine wQ mxQ rfl ?_<;>try simp only [go_sem]));refine APX Q _ g hgl j1 j3 j4 jr j7 jl σ τ8 cells hls (fun outv τ9 hle ho=>?_);(repeat' ((first|refine wQ mxQ rfl ?_|(refine Run.Bf QD (σ2:=σ) hle ?_)|fail)<;>try simp only [ho.BV,go_sem]));simp only [ho.BE,ho.plain,go_sem];exact hok
theorem zK {fs:List FE} {f:FE}:(TZ fs f).length<=fs.length/\∀w∈TZ fs f,w < fs.length:=by
 refine ⟨by rw [TZ];exact Ap (MW _ _) (by simp),fun w hw=>?_⟩;rw [TZ,Yq,CJ] at hw;exact hw.1
theorem zL (p:Pg):cK (Hz p):=by
 intro l hl w hw;unfold Hz at hl ⊢;split at hl
 . rename_i h;rw [if_pos h,AA];obtain ⟨f,_,rfl⟩:=Be.1 hl;exact zK.2 w hw
 . cases hl
theorem jI (l:List (List Nat)):Py l= .d (.sl (l.map YB)):=rfl
end Go.Ab
namespace Go.Ab
open Go.Proofs
theorem zM (p:Pg):(Hz p).length<=24:=by
 by_cases hc0:(K9 p).1=0
 . have:=(Ui hc0).1;unfold Hz;rw [if_pos hc0,AA];exact this
 . unfold Hz;rw [if_neg hc0];simp
theorem wI (p:Pg):∀l∈Hz p,l.length<=24:=by
 intro l hl;by_cases hc0:(K9 p).1=0
 . have:=(Ui hc0).1;unfold Hz at hl;rw [if_pos hc0] at hl;obtain ⟨f,_,rfl⟩:=Be.1 hl;exact Ap zK.1 this
 . unfold Hz at hl;rw [if_neg hc0] at hl;cases hl
noncomputable def JJ (p:Pg):List (List Nat):=Vb (Hz p)
theorem l7 (p:Pg) (σ:AI) (h:∀d∈p.data,KV d):AT Tzp 26 [pgA p] σ (fun v σ'=>v=Py (JJ p)/\σ'=σ):=by
 have hcl:=fun σ=>qK p σ h;have hco:=fun σ=>Zb (Hz p) (zL p) (Ap (zM p) (by decide)) (fun l hl=>Ap (wI p l hl) (by decide)) σ;refine oN (by simp) ?_;rw [Bq];rw [JJ,jI];simp only [jI] at hcl;obtain ⟨ds,fs⟩:=p;simp only [pgA,Pg.enc,AD,AJ] at hcl ⊢;(repeat' ((first|refine wQ mxQ rfl ?_|refine Run.qR XX ?_|refine AH.det (hcl _) ?_|refine AH.det (hco _) ?_|fail)<;>try simp only [go_sem]))
end Go.Ab
namespace Go.Ab
abbrev Nt:=Ty×List Ty
abbrev JH:=List Sch×List (List Nt)
structure IG where
 s:SS
 en:List (List En)
def igF (G:GC) (st:IG) (f:Nat):IG:=match G.fs[f]? with
 |none=>st
 |some fe=>⟨(SZ G fe (G.ps.getD f []) (G.rs.getD f 0) st.s).s,st.en.set f (SZ G fe (G.ps.getD f []) (G.rs.getD f 0) st.s).en⟩
def ngP (fs:List FE) (ms:List Nat):NGs:=ms.foldl (ngS fs) (ng0 fs.length)
def gcP (fs:List FE) (dt:List Dat) (sch:List Sch) (ms:List Nat):GC:=⟨fs,dt,sch,(ngP fs ms).mem,pgl (ngP fs ms).ps,(ngP fs ms).rs⟩
def ig0 (fs:List FE) (ms:List Nat):IG:=⟨((ngP fs ms).l,false),AF fs.length []⟩
def I7 (G:GC) (l:List Nd) (en:List (List En)) (r:JH) (f:Nat):JH:=
 let vs:=Da l (G.ps.getD f []) (G.rs.getD f 0)
 (r.1.set f (W6 l (EX vs) (G.ps.getD f []) (G.rs.getD f 0) vs.length),r.2.set f ((en.getD f []).map (Tz G l (EX vs))))
def UN (fs:List FE) (dt:List Dat) (r:JH) (ms:List Nat):Except (Int×Nat) JH:=
 let G:=gcP fs dt r.1 ms
 let st:=ms.foldl (igF G) (ig0 fs ms)
 if st.s.2=true\/nZ st.s.1=false then .error (6,ms.headD 0)
                                              else match ms.find? (fun f=>aV st.s.1 (G.ps.getD f []) (G.rs.getD f 0) (st.en.getD f [])) with
  |some f=>.error (9,f)
  |none=>.ok (ms.foldl (I7 G st.s.1 st.en) r)
def iW:Sch:=⟨0,[],.mk 0 0 []⟩
def Hd (fs:List FE) (dt:List Dat):List (List Nat)->JH->Except (Int×Nat) JH
 |[],r=>.ok r
 |ms::gs,r=>match UN fs dt r ms with
  | .error e=>.error e
  | .ok r'=>Hd fs dt gs r'
noncomputable def ID (p:Pg):Except Dg JH:=
 if (K9 p).1≠0 then .error (K9 p) else
 match H4 p with
 | .error d=>.error d
 | .ok dt=>match Hd p.Ev dt (JJ p) (AF p.Ev.length iW,AF p.Ev.length []) with
  | .error e=>.error (e.1,(e.2:Int),0)
  | .ok r=>.ok r
structure AS8 (fs:List FE) (dn:List Nat) (s:NGs):Prop where
 len:s.mem.length=fs.length/\s.ps.length=fs.length/\s.rs.length=fs.length
 ps:∀q,some q∈s.ps->q.length<=6/\∀a∈q,a < s.l.length
 rs:∀a∈s.rs,a=0\/a < s.l.length
 cell:∀f∈dn,∃q,s.ps[f]?=some (some q)/\q.length=Xu fs f
 nv:∀dt,NV dt s.l
 lo:dn.length<=s.l.length
 hi:s.l.length<=10 * dn.length
theorem ASZ {fs:List FE} (hp:∀f∈fs,f.params.length<=6):∀(dn:List Nat) (rest:List Nat) (s:NGs),(∀f∈rest,f < fs.length)->AS8 fs dn s->AS8 fs (dn++rest) (rest.foldl (ngS fs) s)
 |dn,[],s,_,h=>by simpa using h
 |dn,f::rest,s,hr,h=>by
  have hf:=hr f (AS)
  have hpar:Xu fs f<=6:=by
   obtain ⟨fe,hfe⟩:=Ai hf;simp only [Xu,hfe,Ah,BC];exact hp fe (AE hfe)
  have hl:(LY (G2 s.l (Xu fs f)) 0 0 []).length=s.l.length+Xu fs f+1:=by rw [Hp,Kq]
  rw [Ao,show dn++f::rest=(dn++[f])++rest from by simp];refine ASZ hp (dn++[f]) rest _ (fun x hx=>hr x (AR _ hx)) ?_;obtain ⟨l1,l2,l3⟩:=h.len;refine ⟨⟨by simp [ngS,l1],by simp [ngS,l2],by simp [ngS,l3]⟩,fun q hq=>?_,fun a ha=>?_,fun g hg=>?_,fun dt=>((h.nv dt).aX _).add (fF dt),?_,?_⟩
  . simp only [ngS,hl] at hq ⊢;rcases fM hq with hq|hq
    . obtain ⟨a,b⟩:=h.ps q hq;exact ⟨a,fun x hx=>by have:=b x hx;omega⟩
    . cases hq;refine ⟨by simp;exact hpar,fun x hx=>?_⟩;rw [List.mem_range'] at hx;obtain ⟨i,h1,h2⟩:=hx;omega
  . simp only [ngS,hl] at ha ⊢;rcases fM ha with ha|ha
    . rcases h.rs a ha with e|e
      . exact .inl e
      . right;omega
    . right;omega
  . simp only [ngS];rw [B3];split
    . rename_i e;subst e;rw [if_pos (by omega)];exact ⟨_,rfl,by simp⟩
    . rename_i e;rcases A0.1 hg with hg|hg
      . exact h.cell g hg
      . simp only [A6] at hg;exact absurd hg.symm e
  . simp only [ngS,hl,AX,EH];have:=h.lo;omega
  . simp only [ngS,hl,AX,EH];have:=h.hi;omega
theorem AUB {fs:List FE} (hp:∀f∈fs,f.params.length<=6) {ms:List Nat} (hm:∀f∈ms,f < fs.length):AS8 fs ms (ngP fs ms):=by
 have:=ASZ hp [] ms (ng0 fs.length) hm ⟨⟨by simp [ng0],by simp [ng0],by simp [ng0]⟩,fun q hq=>by simp [ng0] at hq,fun a ha=>by simp [ng0] at ha;exact .inl ha.2,fun f hf=>by simp at hf,fun dt=>NV.nil,by simp [ng0],by simp [ng0]⟩;simpa [ngP] using this
theorem AGL {l:List Nd} {pl:List Nat} {rf:Nat} {en:List En} (h:aV l pl rf en=false):(∀a∈pl,szN l a<=200)/\szN l rf<=200/\∀x∈en,szN l x.t<=200/\∀a∈x.ar,szN l a<=200:=by
 have hla:∀a,lJ l a=false->szN l a<=200:=fun a h=>by
  rw [lJ,decide_eq_false_iff_not] at h;omega
 simp only [aV,GU] at h;obtain ⟨⟨h1,h2⟩,h3⟩:=h;refine ⟨fun a ha=>hla a ?_,hla rf h2,fun x hx=>?_⟩
 . exact (List.any_eq_false.1 h1 a ha)|>fun h=>by simpa using h
 . have:=List.any_eq_false.1 h3 x hx;simp only [AMY,DI,not_or,Vo] at this;refine ⟨hla _ this.1,fun a ha=>hla a ?_⟩;have:=List.any_eq_false.1 this.2 a ha;simpa using this
theorem AUK {l:List Nd} {d:Nat->Nat} (hg:FM l) (h:FR l d) {dt:List Dat} (hnv:NV dt l) (vs:List Nat):∀(N n:Nat),n < l.length->d (rtN l n)<=N->VY vs.length (rdN l (EX vs) n)=true/\(rdN l (EX vs) n).sh dt:=by
 intro N
 induction N using Qe with
 |_ N ih=>
 intro n hn hd;obtain ⟨x,hx,hp⟩:=hg.root hn;have hsx:=hnv x (AE hx);rw [xQ hg h hx hp];split
 . split
   . rename_i i hi;obtain ⟨k,rfl,v,hv,_⟩:=uY hi;have:=(AG.1 hv).1;refine ⟨?_,?_⟩
     . rw [VY,if_pos rfl];simp;omega
     . rw [Ty.sh];exact ⟨.inl rfl,by rw [Ty.shs];trivial⟩
   . exact ⟨by rw [VY,if_neg (by decide)];rfl,by rw [Ty.sh];exact ⟨.inr (.inl ⟨by omega,rfl,rfl⟩),by rw [Ty.shs];trivial⟩⟩
 . have hk4:x.k≠4:=by
    rcases hsx with h|h|h|h|h<;>omega
   have hkid:∀a∈x.ar,VY vs.length (rdN l (EX vs) a)=true/\(rdN l (EX vs) a).sh dt:=fun a ha=>by
    have h1:=h.lt _ x hx hp a ha;exact ih (d (rtN l a)) (by omega) a (hg.ar _ x hx a ha) (AW _)
   have hvs:∀us:List Nat,(∀a∈us,VY vs.length (rdN l (EX vs) a)=true)->MJ vs.length (us.map (rdN l (EX vs)))=true:=by
    intro us
    induction us with
    |nil=>intro _;rfl
    |cons a us ih2=>intro h;rw [AD,MJ,h a (AS),ih2 fun b hb=>h b (AR _ hb)];rfl
   refine ⟨?_,?_⟩
   . rw [VY,if_neg hk4];exact hvs _ fun a ha=>(hkid a ha).1
   . rw [Ty.sh,AA];refine ⟨.inr hsx,Ty.JM.2 fun t ht=>?_⟩;obtain ⟨a,ha,rfl⟩:=Be.1 ht;exact (hkid a ha).2
def yV (dt:List Dat) (s:Sch):Prop:=(0<=s.vars/\s.vars<=100000/\MJ s.vars.toNat s.params=true/\VY s.vars.toNat s.res=true/\Ty.AU s.params<=100000/\s.res.size<=100000)/\Ty.shs dt s.params/\s.res.sh dt/\s.params.length<=6
theorem ARW (dt:List Dat):yV dt iW:=⟨⟨by decide,by decide,rfl,rfl,by decide,by decide⟩,by rw [iW,Ty.shs];trivial,by rw [iW,Ty.sh];exact ⟨.inr (fF dt),by rw [Ty.shs];trivial⟩,by simp [iW]⟩
theorem ACJ {n:Nat} {f:Nat->Ty}:∀ {us:List Nat},(∀a∈us,VY n (f a)=true)->MJ n (us.map f)=true
 |[],_=>rfl
 |a::us,h=>by rw [AD,MJ,h a (AS),ACJ fun b hb=>h b (AR _ hb)];rfl
theorem ARX {l:List Nd} {d:Nat->Nat} (hg:FM l) (h:FR l d) {dt:List Dat} (hnv:NV dt l) {pl:List Nat} {rf:Nat} (hp:∀a∈pl,a < l.length) (hr:rf < l.length) (hl:pl.length<=6) (hs:(∀a∈pl,szN l a<=200)/\szN l rf<=200):yV dt (W6 l (EX (Da l pl rf)) pl rf (Da l pl rf).length):=by
 have hvl:(Da l pl rf).length<=1400:=by
  have:=AO5 hg h (ts:=pl++[rf]) (fun a ha=>by
   rcases A0.1 ha with ha|ha
   . exact hp a ha
   . simp only [A6] at ha;subst ha;exact hr) (fun a ha=>by
   rcases A0.1 ha with ha|ha
   . exact hs.1 a ha
   . simp only [A6] at ha;subst ha;exact hs.2)
  rw [Da];simp only [AX,EH] at this;omega
 have hv:=fun n hn=>AUK hg h hnv (Da l pl rf) (d (rtN l n)) n hn (AW _);have hz:=fun n (hn:n < l.length) hs=>AN9 (es:=EX (Da l pl rf)) hg h (d (rtN l n)) n hn (AW _) hs;generalize Da l pl rf=vs at *
 have hsz:∀us:List Nat,(∀a∈us,a < l.length/\szN l a<=200)->Ty.AU (us.map (rdN l (EX vs)))<=us.length * 200:=by
  intro us
  induction us with
  |nil=>intro _;simp [Ty.AU]
  |cons a us ih=>
   intro h;obtain ⟨h1,h2⟩:=h a (AS);have:=ih fun b hb=>h b (AR _ hb);have:=hz a h1 h2;rw [AD,Ty.AU,A1];omega
 have h1:=hsz pl fun a ha=>⟨hp a ha,hs.1 a ha⟩;have h2:=hz rf hr hs.2;refine ⟨⟨by simp [W6],by simp only [W6];omega,?_,?_,by simp only [W6];omega,by simp only [W6];omega⟩,?_,(hv rf hr).2,by simp [W6];exact hl⟩
 . simp only [W6,DS];exact ACJ fun a ha=>(hv a (hp a ha)).1
 . simp only [W6,DS];exact (hv rf hr).1
 . simp only [W6];refine Ty.JM.2 fun t ht=>?_;obtain ⟨a,ha,rfl⟩:=Be.1 ht;exact (hv a (hp a ha)).2
end Go.Ab
namespace Go.Ab
def EA (en:List En):Prop:=∀x∈en,x.ar.length<=100000
theorem EA.mod {en:List En} (h:EA en) (i:Nat) {f:En->En} (hf:∀x,x.ar.length<=100000->(f x).ar.length<=100000):EA (en.modify i f):=fun y hy=>by
 obtain ⟨m,hm,rfl⟩:=Bt hy;rw [List.getElem_modify];split
 . exact hf _ (h _ (H8 _))
 . exact h _ (H8 _)
variable {G:GC}
def PEa (G:GC) (e:Ex):Prop:=∀env g,EA g.en->EA (Bg G e env g).2.en
theorem nU:∀ {ks:List Ex},(∀k∈ks,PEa G k)->∀env g,EA g.en->EA (CO G ks env g).2.en
 |[],_,env,g,h=>h
 |k::ks,hk,env,g,h=>by
  rw [CO];exact nU (fun x hx=>hk x (AR _ hx)) env _ (hk k (AS) env g h)
theorem Ra {ks:List Ex} (hk:∀k∈ks,PEa G k) (env:Env) (g:GS) (h:EA g.en):EA (Gw G ks env g).2.en:=by
 cases ks with
 |nil=>exact h
 |cons k ks=>rw [Gw];exact hk k (AS) env g h
theorem dG {ks:List Ex} (hk:∀k∈ks,PEa G k) (env:Env) (g:GS) (h:EA g.en):EA (Lq G ks env g).2.en:=by
 cases ks with
 |nil=>exact h
 |cons k ks=>rw [Lq];exact Ra (fun x hx=>hk x (AR _ hx)) env g h
theorem AP8 {ks:List Ex} (hk:∀k∈ks,PEa G k) (env:Env) (g:GS) (h:EA g.en):EA (Vk G ks env g).2.en:=by
 cases ks with
 |nil=>exact h
 |cons k ks=>rw [Vk];exact dG (fun x hx=>hk x (AR _ hx)) env g h
theorem mB:∀ {ks:List Ex},(∀k∈ks,PEa G k)->∀(env:Env) (i:Nat) (f:Nat->Nat->SS->SS) (g:GS),EA g.en->EA (DC G ks env i f g).en
 |[],_,env,i,f,g,h=>h
 |k::ks,hk,env,i,f,g,h=>by
  rw [DC];exact mB (fun x hx=>hk x (AR _ hx)) env (i+1) f _ (hk k (AS) env g h)
theorem AGK {D:Dat}:∀ {al:List Al},(∀a∈al,PEa G a.body)->∀(env:Env) (ar:List Nat) (t:Nat) (g:GS),EA g.en->EA (M3 G al env D ar t g).en
 |[],_,env,ar,t,g,h=>h
 | .mk c vs b::al,ha,env,ar,t,g,h=>by
  rw [M3];exact AGK (fun x hx=>ha x (AR _ hx)) env ar t _ (ha _ (AS) _ _ h)
theorem ATV (hG:∀s∈G.sch,s.vars<=100000) (env:Env) (nm:Str) (k0:Nat) (g:GS) (h:EA g.en):EA (W9 G env nm k0 g).2.en:=by
 unfold W9;cases Lr env nm with
 |some t=>exact h
 |none=>
  simp only;generalize (C9 (Bo G.fs) nm).getD 0=f;have h1:EA (g.Sx k0 fun e=> { e with f:=(f:Int)}).en:=h.mod _ fun x hx=>hx;generalize g.Sx k0 (fun e=> { e with f:=(f:Int)})=g1 at h1 ⊢;unfold AOC;split
  . exact h1
  . split
    . exact h1
    . rename_i s hs;have hs:=hG s (AE hs);exact EA.mod (en:=(g1.frs s.vars.toNat).en) h1 _ fun x hx=>by simp;omega
theorem AP7 (hG:∀s∈G.sch,s.vars<=100000):∀(N:Nat) (e:Ex),e.size<=N->PEa G e:=by
 intro N
 induction N with
 |zero=>intro e h;have:=Ex.size_pos e;omega
 |succ N ih=>
 rintro ⟨o,nm,nu,ns,ks,al⟩ hsz env g hg
 have hkl:∀k∈ks,PEa G k:=fun k hk=>by
  refine ih k ?_;have:=Ex.Fj hk;simp only [Ex.size] at hsz;omega
 have hal:∀a∈al,PEa G a.body:=fun a ha=>by
  refine ih a.body ?_;have:=Al.Fj ha;obtain ⟨c,vs,b⟩:=a;simp only [Ex.size,Al.size,Al.body] at hsz this ⊢;omega
 rw [uE]
 have hg1:EA (⟨g.s,g.en++[⟨0,-1,[]⟩]⟩:GS).en:=fun x hx=>by
  rcases A0.1 hx with hx|hx
  . exact hg x hx
  . simp only [A6] at hx;subst hx;simp
 generalize (⟨g.s,g.en++[⟨0,-1,[]⟩]⟩:GS)=g1 at hg1;generalize g.en.length=k0;have hfin:∀r:Nat×GS,EA r.2.en->EA (ATX k0 r).2.en:=fun r hr=>EA.mod hr _ fun x hx=>hx;refine hfin _ ?_;clear hg g hsz hfin;unfold AAC;by_cases h:o=4
 . rw [if_pos h];exact ATV hG env nm k0 g1 hg1
 rw [if_neg h];clear h;by_cases h:o=1\/o=2\/o=3\/o=15
 . rw [if_pos h];exact hg1
 rw [if_neg h];clear h;by_cases h:o=5
 . rw [if_pos h];exact nU hkl env g1 hg1
 rw [if_neg h];clear h;by_cases h:o=6
 . rw [if_pos h];cases EV G.dt nm with
   |none=>exact hg1
   |some x=>
    obtain ⟨d,c⟩:=x;simp only;cases hd:G.dt[d]? with
    |none=>exact hg1
    |some D=>exact mB hkl env 0 _ _ hg1
 rw [if_neg h];clear h;by_cases h:o=10
 . rw [if_pos h];cases al with
   |nil=>exact hg1
   |cons a al=>
    simp only;cases EV G.dt a.con with
    |none=>exact hg1
    |some x=>
     obtain ⟨d,c⟩:=x;simp only;cases hd:G.dt[d]? with
     |none=>exact hg1
     |some D=>exact AGK hal env _ _ _ (Ra hkl env _ hg1)
 rw [if_neg h];clear h;by_cases h:o=12
 . rw [if_pos h];exact nU hkl env g1 hg1
 rw [if_neg h];clear h;by_cases h:o=13
 . rw [if_pos h];exact mB hkl env 0 _ _ hg1
 rw [if_neg h];clear h;by_cases h:o=14
 . rw [if_pos h];exact mB hkl env 0 _ _ hg1
 rw [if_neg h];clear h;by_cases h:o=16
 . rw [if_pos h];exact Ra hkl env g1 hg1
 rw [if_neg h];clear h;by_cases h:o=7
 . rw [if_pos h];exact dG hkl _ _ (Ra hkl env g1 hg1)
 rw [if_neg h];clear h;by_cases h:o=8
 . rw [if_pos h];exact dG hkl _ _ (Ra hkl env _ hg1)
 rw [if_neg h];clear h;by_cases h:o=9
 . rw [if_pos h];exact AP8 hkl _ _ (dG hkl _ _ (Ra hkl env _ hg1))
 rw [if_neg h];clear h;by_cases h:o=11
 . rw [if_pos h];exact Ra hkl _ _ hg1
 rw [if_neg h];exact dG hkl _ _ (Ra hkl env _ hg1)
end Go.Ab
namespace Go.Ab
open Go.Proofs
theorem AHD:∀(W:List Nat) (f:Nat),(W.set f 0).sum+W.getD f 0=W.sum
 |[],f=>by simp
 |w::W,0=>by simp [Nat.add_comm]
 |w::W,f+1=>by
  have:=AHD W f;simp only [CU,FK,List.getD_cons_succ];omega
theorem AFY:∀(dn:List Nat) (W:List Nat),dn.Nodup->(dn.map fun f=>W.getD f 0).sum<=W.sum
 |[],W,_=>by simp
 |f::dn,W,h=>by
  rw [List.nodup_cons] at h;have h1:=AFY dn (W.set f 0) h.2;have h2:=AHD W f
  have h3:dn.map (fun g=>(W.set f 0).getD g 0)=dn.map fun g=>W.getD g 0:=DL fun g hg=>by
   have hne:f≠g:=fun e=>h.1 (by rw [e];exact hg);simp only [Ac,BG hne]
  rw [h3] at h1;rw [AD,FK];omega
theorem Xt {ms:List Nat} {n:Nat} (h:ms.Nodup) (hl:∀f∈ms,f < n):ms.length<=n:=by
 have h1:=AFY ms (AF n 1) h;have h2:ms.map (fun f=>(AF n 1).getD f 0)=ms.map fun _=>1:=DL fun f hf=>by simp [Ac,hl f hf]
 have h3:∀l:List Nat,(l.map fun _=>1).sum=l.length:=by
  intro l
  induction l with
  |nil=>rfl
  |cons a l ih=>rw [AD,FK,ih,A1];omega
 rw [h2,h3] at h1;simpa using h1
def szM (fs:List FE) (dn:List Nat):Nat:=(dn.map fun f=>((fs.map fun f=>f.body.size).getD f 0)).sum
theorem AOV (fs:List FE) {dn:List Nat} (h:dn.Nodup):szM fs dn<=W8 fs:=AFY dn _ h
theorem ACA (fs:List FE) (dn:List Nat) {f:Nat} {fe:FE} (h:fs[f]?=some fe):szM fs (dn++[f])=szM fs dn+fe.body.size:=by
 simp [szM,h]
def GB.w (B:GB) (ext:Nat->Option (List AV)) (c:Nat) (es:List AV):GB:= { B with ext:=ext,cur:=c,es:=es}
structure MS (B:GB) (ext0:Nat->Option (List AV)) (ms:List Nat):Prop where
 ie:B.i≠B.je
 m:ext0 B.jm=some (BX B.G.mem)
 p:ext0 B.jp=some (psC B.G.ps)
 r:ext0 B.jr=some (DF B.G.rs)
 s:ext0 B.js=some (VW B.G.sch)
 lm:B.G.mem.length=B.G.fs.length
 lp:B.G.ps.length=B.G.fs.length
 lr:B.G.rs.length=B.G.fs.length
 ls:B.G.sch.length=B.G.fs.length
 lf:B.G.fs.length<=100
 gd:GD B.G
 gv:GVv B.G
 ok:∀(f:Nat) (fe:FE),B.G.fs[f]?=some fe->OkE B.G fe.body fe.params/\fe.body.size<=600
 cell:∀f∈ms,∃q,B.G.ps[f]?=some q/\q.length=Xu B.G.fs f
 lt:∀f∈ms,f < B.G.fs.length
 nd:ms.Nodup
 sz:W8 B.G.fs<=200
structure MI (B:GB) (ext0:Nat->Option (List AV)) (σ0 τ:AI) (dn:List Nat) (c0:Nat) (es:List AV) (ext:Nat->Option (List AV)) (j:Nat) (st:IG):Prop where
 sn:SN τ B.i st.s.1 st.s.2 (B.w ext c0 es).rest j
 e:τ.blk B.je=some es
 x:∀k cs,ext k=some cs->τ.blk k=some cs
 jj:ext j=none/\j≠B.je
 xi:ext B.i=none
 xe:ext B.je=none
 sub:∀k cs,ext0 k=some cs->ext k=some cs
 nb:(nbH σ0).le τ
 el:es.length=B.G.fs.length
 cell:∀f∈dn,∃jc,es[f]?=some (enV (st.en.getD f []) jc)/\(st.en.getD f []≠[]->ext jc=some (enC (st.en.getD f [])))/\ext0 jc=none
 un:∀f,f < B.G.fs.length->f ∉ dn->es[f]?=some .Ae
 enl:st.en.length=B.G.fs.length
 gi:∀f∈dn,GI B.G ⟨st.s,st.en.getD f []⟩/\(st.en.getD f []).length<=600/\EA (st.en.getD f [])
 sz:∀f∈dn,∀fe,B.G.fs[f]?=some fe->(st.en.getD f []).length=fe.body.size
 gi0:GI B.G ⟨st.s,[]⟩
 hi:st.s.1.length<=1000+1000000 * szM B.G.fs dn
 nv:NV B.G.dt st.s.1
variable {B:GB} {ext0 ext:Nat->Option (List AV)} {σ0 τ τ':AI} {ms dn:List Nat} {c0 j j' jc f:Nat} {es:List AV} {st:IG}
theorem MI.pg (hS:MS B ext0 ms) (h:MI B ext0 σ0 τ dn c0 es ext j st) (hf:f < B.G.fs.length) (hn:f ∉ dn):H7 (B.w ext f es)/\PG (B.w ext f es) c0 τ st.s j:=
 ⟨⟨hS.ie,h.xi,h.xe,h.sub _ _ hS.m,h.sub _ _ hS.p,h.sub _ _ hS.r,h.sub _ _ hS.s,by show f < es.length;rw [h.el];exact hf,hS.lm,hS.lp,hS.lr,hS.ls,hS.lf⟩,⟨h.sn,h.e,h.un f hf hn,h.x,h.jj,h.gi0⟩⟩
theorem GI.le {G:GC} {s s':SS} {en:List En} (h:GI G ⟨s,en⟩) (hl:s.1.length<=s'.1.length):GI G ⟨s',en⟩:=GI.step h hl
theorem x9 {α:Type} {l:List α} {f:Nat} (h:f < l.length) (x d:α):(l.set f x).getD f d=x:=by simp [h]
theorem yA {α:Type} {l:List α} {f g:Nat} (h:f≠g) (x d:α):(l.set f x).getD g d=l.getD g d:=by simp [Ac,BG h]
theorem MI.next (hS:MS B ext0 ms) (h:MI B ext0 σ0 τ dn c0 es ext j st) (hf:f < B.G.fs.length) (hfm:f∈ms) (hn:f ∉ dn) {fe:FE} (hfe:B.G.fs[f]?=some fe) (hnb:(nbH τ).le τ')
 (hg:GX (B.w ext f es) τ' (SZ B.G fe (B.G.ps.getD f []) (B.G.rs.getD f 0) st.s) j' jc) (hle:st.s.1.length<=(SZ B.G fe (B.G.ps.getD f []) (B.G.rs.getD f 0) st.s).nx)
 (hhi:(SZ B.G fe (B.G.ps.getD f []) (B.G.rs.getD f 0) st.s).nx<=st.s.1.length+1000000 * fe.body.size) (hen:(SZ B.G fe (B.G.ps.getD f []) (B.G.rs.getD f 0) st.s).en.length=fe.body.size):
 ∃es' ext',MI B ext0 σ0 τ' (dn++[f]) f es' ext' j' (igF B.G st f):=by
 have hig:igF B.G st f=⟨(SZ B.G fe (B.G.ps.getD f []) (B.G.rs.getD f 0) st.s).s,st.en.set f (SZ B.G fe (B.G.ps.getD f []) (B.G.rs.getD f 0) st.s).en⟩:=by
  unfold igF;rw [hfe]
 have hnv:NV B.G.dt (SZ B.G fe (B.G.ps.getD f []) (B.G.rs.getD f 0) st.s).s.1:=by
  unfold SZ;exact NV.uni (ARI hS.gv fe.body.size fe.body fe.params (AW _) (hS.ok f fe hfe).1 _ _ h.nv) _ _
 have hea:EA (SZ B.G fe (B.G.ps.getD f []) (B.G.rs.getD f 0) st.s).en:=by
  unfold SZ;exact AP7 (fun s hs=>(hS.gd.sch s hs).2.1) fe.body.size fe.body (AW _) _ _ (fun x hx=>by simp at hx)
 rw [hig];generalize SZ B.G fe (B.G.ps.getD f []) (B.G.rs.getD f 0) st.s=g at *;have hgn:g.en≠[]:=fun e=>by rw [e] at hen;have:=Ex.size_pos fe.body;simp only [CG] at hen;omega
 have hc:τ'.blk jc=some (enC g.en)/\jc≠B.i/\jc≠B.je/\ext jc=none/\jc≠j':=hg.c hgn;obtain ⟨c1,c2,c3,c4,c5⟩:=hc;have hsl:(es.set f (enV g.en jc)).length=B.G.fs.length:=by simp [h.el]
 refine ⟨es.set f (enV g.en jc),fun k=>if k=jc then some (enC g.en) else ext k,⟨?_,hg.e,fun k cs hk=>?_,⟨?_,hg.jj.2⟩,?_,?_,fun k cs hk=>?_,D8 h.nb hnb,hsl,fun f' hf'=>?_,fun f' hf' hn'=>?_,by simp [h.enl],fun f' hf'=>?_,fun f' hf' fe' hfe'=>?_,?_,?_,hnv⟩⟩
 . have:=hg.sn
   have hr:(B.w ext f es).rest=(B.w (fun k=>if k=jc then some (enC g.en) else ext k) f (es.set f (enV g.en jc))).rest:=by
    simp only [GB.rest,GB.w,LW]
   rw [hr] at this;exact this
 . split at hk
   . rename_i e;subst e;cases hk;exact c1
   . exact hg.x k cs hk
 . rw [if_neg (A9 c5)];exact hg.jj.1
 . rw [if_neg (A9 c2)];exact h.xi
 . rw [if_neg (A9 c3)];exact h.xe
 . have:=h.sub k cs hk;rw [if_neg (fun e=>by rw [e,c4] at this;cases this)];exact this
 . by_cases e:f=f'
   . subst e;refine ⟨jc,?_,fun _=>?_,?_⟩
     . rw [x9 (by rw [h.enl];exact hf)];exact BI (by rw [h.el];exact hf)
     . rw [if_pos rfl,x9 (by rw [h.enl];exact hf)]
     . cases hx:ext0 jc with
       |none=>rfl
       |some cs=>rw [h.sub _ _ hx] at c4;cases c4
   . rcases A0.1 hf' with hf'|hf'
     . obtain ⟨jc',h1,h2,h3⟩:=h.cell f' hf';refine ⟨jc',?_,fun hne=>?_,h3⟩
       . rw [yA e,BG e];exact h1
       . simp only at hne ⊢;rw [yA e] at hne ⊢;have:=h2 hne;rw [if_neg (fun e=>by rw [e,c4] at this;cases this)];exact this
     . simp only [A6] at hf';exact absurd hf'.symm e
 . have e:f≠f':=fun e=>hn' (by simp [e]);rw [BG e];exact h.un f' hf' fun hm=>hn' (Cv _ hm)
 . by_cases e:f=f'
   . subst e;simp only;rw [x9 (by rw [h.enl];exact hf)];exact ⟨hg.gi,by have:=(hS.ok f fe hfe).2;omega,hea⟩
   . rcases A0.1 hf' with hf'|hf'
     . simp only;rw [yA e];exact ⟨GI.le (h.gi f' hf').1 hle,(h.gi f' hf').2⟩
     . simp only [A6] at hf';exact absurd hf'.symm e
 . by_cases e:f=f'
   . subst e;simp only;rw [x9 (by rw [h.enl];exact hf)];rw [hfe] at hfe';cases hfe';exact hen
   . rcases A0.1 hf' with hf'|hf'
     . simp only;rw [yA e];exact h.sz f' hf' fe' hfe'
     . simp only [A6] at hf';exact absurd hf'.symm e
 . exact GI.le h.gi0 hle
 . simp only;rw [ACA _ _ hfe];have:=h.hi;have e:g.nx=g.s.1.length:=rfl;omega
abbrev eNn:Nat:=52
abbrev LI (ds fs:DV) (js jn n:Nat):Lm:=Am 1 [.d ds,.d fs] (Am 2 [.Ae,.Ae] (Am 3 [.d (.int .i64 0),.d (.int .i64 0),.d (.int .i64 0)] (Am 7 [.ms js n 5 eSs,.ms jn n 1 eNn] E)))
theorem AAR (B:GB) (ext0:Nat->Option (List AV)) (ms:List Nat) (hS:MS B ext0 ms) (σ0:AI) (Q:AV->AI->Prop) (k:List CI) (ds fs:DV) (jj jn n:Nat) (st0:IG) (τ:AI) (es:List AV) (j:Nat) (h0:MI B ext0 σ0 τ [] 0 es ext0 j st0)
 (a5 a40 a41 a42:DV)
 (hk:∀τ' c es' ext' j',MI B ext0 σ0 τ' ms c es' ext' j' (ms.foldl (igF B.G) st0)->Run Bi Q k (put 1 (.lp 1 0) (put 2 (.lp 2 0) (put 3 (.lp 3 0) (put 5 (.d a5) (put 7 (.lp 7 0) (put 9 (.d (.sl (ms.map By))) (put 10 (.gp B.i 0) (put 40 (.d a40) (put 41 (.d a41) (put 42 (.d a42) U)))))))))) (LI ds fs jj jn n) τ'):
 Run Bi Q (.code (.loop GY)::.blk 2::k) (put 1 (.lp 1 0) (put 2 (.lp 2 0) (put 3 (.lp 3 0) (put 5 (.d a5) (put 7 (.lp 7 0) (put 9 (.d (.sl (ms.map By))) (put 10 (.gp B.i 0) (put 40 (.d a40) (put 41 (.d a41) (put 42 (.d a42) (put 52 (.d (.sl (ms.map By))) (put 53 (.d (.int .i64 ms.length)) (put 54 (.d (.int .i64 0)) U))))))))))))) (LI ds fs jj jn n) τ:=by
 have hml:ms.length<=100:=Ap (Xt hS.nd hS.lt) hS.lf;refine Run.At ?_
 refine Run.Au ((fun (a1:AV) (a2:AV) (a3:AV) (a5:AV) (a7:AV) (a9:AV) (a10:AV) (a40:AV) (a41:AV) (a42:AV) (a52:AV) (a53:AV)=>fun (z:Nat×AI)=>put 1 a1 (put 2 a2 (put 3 a3 (put 5 a5 (put 7 a7 (put 9 a9 (put 10 a10 (put 40 a40 (put 41 a41 (put 42 a42 (put 52 a52 (put 53 a53 (put 54 (.d (.int .i64 z.1)) U))))))))))))) _ _ _ _ _ _ _ _ _ _ _ _) (fun _=>LI ds fs jj jn n) (fun z=>z.2)
  (fun z=>z.1<=ms.length/\∃c es' ext' j',MI B ext0 σ0 z.2 (ms.take z.1) c es' ext' j' ((ms.take z.1).foldl (igF B.G) st0))
  (fun z=>ms.length - z.1) ?_ (0,τ) ⟨by simp,0,es,ext0,j,by simpa using h0⟩
 rintro ⟨p,τ1⟩ ⟨hp,c,es1,ext1,j1,h1⟩ ih;simp only at hp h1;by_cases hlt:p < ms.length
 . obtain ⟨f,hf⟩:=Ai hlt;have hfr:=Hf hf;have hfm:=AE hf;have hfl:=hS.lt f hfm;have hw1:=A4 (show p+1<=9000000000000000000 by omega)
   have hst:(ms.take (p+1)).foldl (igF B.G) st0=igF B.G ((ms.take p).foldl (igF B.G) st0) f:=by
    rw [Aa hf,Cq];rfl
   have hdn:f ∉ ms.take p:=fun hm=>by
    have h1:=hS.nd.sublist (List.take_sublist (p+1) ms);rw [Aa hf] at h1;exact (Gs.1 h1).2.2 f hm f (by simp) rfl
   obtain ⟨fe,hfe⟩:=Ai hfl;obtain ⟨q,hq,hql⟩:=hS.cell f hfm;obtain ⟨r,hr⟩:=Ai (show f < B.G.rs.length by rw [hS.lr];exact hfl);have hgq:B.G.ps.getD f []=q:=by simp [hq]
   have hgr:B.G.rs.getD f 0=r:=by simp [hr]
   have hnd2:((ms.take p)++[f]).Nodup:=by rw [<- Aa hf];exact hS.nd.sublist (List.take_sublist _ _)
   have hsm:=AOV B.G.fs hnd2;rw [ACA _ _ hfe] at hsm;have hsz:=hS.sz;have hhi:=h1.hi;obtain ⟨hB,hP⟩:=h1.pg hS hfl hdn;have hc:=qZ (B.w ext1 f es1) hB hS.gd fe q r hfe hq hr (by rw [hql,Xu,hfe];rfl) (hS.ok f fe hfe).1 c _ τ1 j1 (by omega) hP;generalize (ms.take p).foldl (igF B.G) st0=st at *;(repeat' (first|refine ctQ rfl ?_|((first|refine rgQ mxQ ?_|refine cdQ ?_|(refine A7 rfl (fun h=>?_) (fun h=>?_)<;>try (cases h;done)))<;>try simp only [Ag hlt,hfr,go_sem])|(refine ⟨fun h=>?_,fun h=>?_⟩<;>first|(cases h;done)|try simp only [h])|fail));refine AH.mk rfl hc ?_;rintro v τ2 ⟨hnb,⟨j2,jc,hg⟩,g1,g2,g3⟩;simp only [go_sem];(repeat' (first|refine ctQ rfl ?_|((first|refine rgQ mxQ ?_|refine cdQ ?_|(refine A7 rfl (fun h=>?_) (fun h=>?_)<;>try (cases h;done)))<;>try simp only [hw1,go_sem])|(refine ⟨fun h=>?_,fun h=>?_⟩<;>first|(cases h;done)|try simp only [h])|fail));have hnx:=h1.next hS hfl hfm hdn hfe hnb (j':=j2) (jc:=jc) (by rw [hgq,hgr];exact hg) (by rw [hgq,hgr];exact g1) (by rw [hgq,hgr];exact g2) (by rw [hgq,hgr];exact g3);obtain ⟨es2,ext2,h2⟩:=hnx;exact ih ⟨p+1,τ2⟩ ⟨hlt,f,es2,ext2,j2,by simp only [hst];rw [Aa hf];exact h2⟩ (by simp only;omega)
 . have hpe:p=ms.length:=by omega
   subst hpe;rw [BR] at h1;(repeat' (first|refine ctQ rfl ?_|((first|refine rgQ mxQ ?_|refine cdQ ?_|(refine A7 rfl (fun h=>?_) (fun h=>?_)<;>try (cases h;done)))<;>try simp only [B5 hlt,go_sem])|(refine ⟨fun h=>?_,fun h=>?_⟩<;>first|(cases h;done)|try simp only [h])|fail));refine Run.OF [1,2,3,5,7,9,10,40,41,42] ?_;have:=hk τ1 c es1 ext1 j1 h1;simp only [go_sem];exact this
end Go.Ab
namespace Go.Ab
open Go.Proofs
structure MF (B:GB) (ms:List Nat) (es:List AV) (st:IG) (ext:Nat->Option (List AV)):Prop where
 xm:ext B.jm=some (BX B.G.mem)
 xp:ext B.jp=some (psC B.G.ps)
 xr:ext B.jr=some (DF B.G.rs)
 xe:ext B.je=some es
 el:es.length=B.G.fs.length
 cell:∀f∈ms,∃jc,es[f]?=some (enV (st.en.getD f []) jc)/\(st.en.getD f []≠[]->ext jc=some (enC (st.en.getD f [])))
 gi:∀f∈ms,GI B.G ⟨st.s,st.en.getD f []⟩/\(st.en.getD f []).length<=600/\EA (st.en.getD f [])
 gi0:GI B.G ⟨st.s,[]⟩
theorem AAQ (B:GB) (ext0:Nat->Option (List AV)) (ms:List Nat) (hS:MS B ext0 ms) (c0:Nat) (es:List AV) (st:IG) (ext:Nat->Option (List AV)) (hM:MF B ms es st ext) (d:Nat->Nat) (σ0:AI) (jz j1 j3 j4:Nat) (hl0:st.s.1≠[]) (he:JE ext B.i st.s.1 d jz j1 j3 j4)
 (Q:AV->AI->Prop) (k:List CI) (ds fs:DV) (jj jn n:Nat) (a5 a40 a41 a42:DV) (τ:AI) (hj:JZ ext σ0 B.i (B.w ext c0 es).rest st.s.1 st.s.2 jz τ)
 (hbad:∀f τ' k',ms.find? (fun f=>aV st.s.1 (B.G.ps.getD f []) (B.G.rs.getD f 0) (st.en.getD f []))=some f->JZ ext σ0 B.i (B.w ext c0 es).rest st.s.1 st.s.2 jz τ'->
   Run Bi Q (.code .ret::k') (put 2 (.lp 2 0) (put 3 (.lp 3 0) U)) (Am 2 [.Ae,.Ae] (Am 3 [.d (.int .i64 9),.d (.int .i64 (f:Int)),.d (.int .i64 0)] E)) τ')
 (hk:∀τ',ms.find? (fun f=>aV st.s.1 (B.G.ps.getD f []) (B.G.rs.getD f 0) (st.en.getD f []))=none->JZ ext σ0 B.i (B.w ext c0 es).rest st.s.1 st.s.2 jz τ'->
   Run Bi Q k (put 1 (.lp 1 0) (put 2 (.lp 2 0) (put 3 (.lp 3 0) (put 5 (.d a5) (put 7 (.lp 7 0) (put 9 (.d (.sl (ms.map By))) (put 10 (.gp B.i 0) (put 40 (.d a40) (put 41 (.d a41) (put 42 (.d a42) U)))))))))) (LI ds fs jj jn n) τ'):
 Run Bi Q (.code (.loop IN)::.blk 4::k) (put 1 (.lp 1 0) (put 2 (.lp 2 0) (put 3 (.lp 3 0) (put 5 (.d a5) (put 7 (.lp 7 0) (put 9 (.d (.sl (ms.map By))) (put 10 (.gp B.i 0) (put 13 (szC j1 j3 j4) (put 40 (.d a40) (put 41 (.d a41) (put 42 (.d a42) (put 83 (.d (.sl (ms.map By))) (put 84 (.d (.int .i64 ms.length)) (put 85 (.d (.int .i64 0)) U)))))))))))))) (LI ds fs jj jn n) τ:=by
 have hml:ms.length<=100:=Ap (Xt hS.nd hS.lt) hS.lf;refine Run.At ?_
 refine Run.Au ((fun (a1:AV) (a2:AV) (a3:AV) (a5:AV) (a7:AV) (a9:AV) (a10:AV) (a13:AV) (a40:AV) (a41:AV) (a42:AV) (a83:AV) (a84:AV)=>fun (z:Nat×AI)=>put 1 a1 (put 2 a2 (put 3 a3 (put 5 a5 (put 7 a7 (put 9 a9 (put 10 a10 (put 13 a13 (put 40 a40 (put 41 a41 (put 42 a42 (put 83 a83 (put 84 a84 (put 85 (.d (.int .i64 z.1)) U)))))))))))))) _ _ _ _ _ _ _ _ _ _ _ _ _) (fun _=>LI ds fs jj jn n) (fun z=>z.2)
  (fun z=>z.1<=ms.length/\(∀f∈ms.take z.1,aV st.s.1 (B.G.ps.getD f []) (B.G.rs.getD f 0) (st.en.getD f [])=false)/\JZ ext σ0 B.i (B.w ext c0 es).rest st.s.1 st.s.2 jz z.2)
  (fun z=>ms.length - z.1) ?_ (0,τ) ⟨by simp,by simp,hj⟩
 clear hj;rintro ⟨p,τ1⟩ ⟨hp,hno,hj⟩ ih;simp only at hp hno hj;by_cases hlt:p < ms.length
 . obtain ⟨f,hf⟩:=Ai hlt;have hfr:=Hf hf;have hfm:=AE hf;have hfl:=hS.lt f hfm;have hw1:=A4 (show p+1<=9000000000000000000 by omega);obtain ⟨q,hq,hql⟩:=hS.cell f hfm;obtain ⟨r,hr⟩:=Ai (show f < B.G.rs.length by rw [hS.lr];exact hfl);have hgq:B.G.ps.getD f []=q:=by simp [hq]
   have hgr:B.G.rs.getD f 0=r:=by simp [hr]
   obtain ⟨jc,hc1,hc2⟩:=hM.cell f hfm;obtain ⟨hgi,hel,hea⟩:=hM.gi f hfm;have hc:=ADX (B.w ext c0 es) ext σ0 st.s.1 d st.s.2 jz j1 j3 j4 hl0 he f jc es q r (st.en.getD f []) hM.xp hM.xr hM.xe rfl hc2 hq hr hc1 (by omega) (hgi.ps q (AE hq)) (hgi.rs r (AE hr)) (fun x hx=>⟨(hgi.en x hx).1,(hgi.en x hx).2.2.2⟩) τ1 hj;have hfd:∀b,aV st.s.1 q r (st.en.getD f [])=b->aV st.s.1 (B.G.ps.getD f []) (B.G.rs.getD f 0) (st.en.getD f [])=b:=fun b h=>by rw [hgq,hgr];exact h
   cases hb:aV st.s.1 q r (st.en.getD f []) with
   |true=>
    rw [hb] at hc;(repeat' (refine wQ mxQ rfl ?_<;>try simp only [Ag hlt,hfr,go_sem]));refine AH.mk rfl hc ?_;rintro _ τ2 ⟨rfl,hj2⟩;simp only [go_sem];(repeat' (refine wQ mxQ rfl ?_<;>try simp only [go_sem]));refine hbad f τ2 _ ?_ hj2;rw [List.find?_eq_some_iff_getElem];refine ⟨hfd _ hb,p,hlt,(AG.1 hf).2,fun m hm=>?_⟩;have:=hno (ms[m]'(by omega)) (List.mem_take_iff_getElem.2 ⟨m,by omega,rfl⟩);rw [this];rfl
   |false=>
    rw [hb] at hc;(repeat' (refine wQ mxQ rfl ?_<;>try simp only [Ag hlt,hfr,go_sem]));refine AH.mk rfl hc ?_;rintro _ τ2 ⟨rfl,hj2⟩;simp only [go_sem];(repeat' (refine wQ mxQ rfl ?_<;>try simp only [hw1,go_sem]));refine ih ⟨p+1,τ2⟩ ⟨hlt,fun x hx=>?_,hj2⟩ (by simp only;omega);rw [Aa hf] at hx;rcases A0.1 hx with hx|hx
    . exact hno x hx
    . simp only [A6] at hx;subst hx;exact hfd _ hb
 . have hpe:p=ms.length:=by omega
   subst hpe;rw [BR] at hno;(repeat' (refine wQ mxQ rfl ?_<;>try simp only [B5 hlt,go_sem]));refine Run.OF [1,2,3,5,7,9,10,40,41,42] ?_;have:=hk τ1 (Qi.2 fun f hf=>by rw [hno f hf];simp) hj;simp only [go_sem];exact this
theorem AG8 {α:Type} (r:α->List AV) (s:Nat) (hr:∀x,(r x).length=s) (y:α):∀ {l:List α} {i:Nat},i < l.length->(rwC r l).take (i * s)++r y++(rwC r l).drop (i * s+s)=rwC r (l.set i y)
 |x::l,0,h=>by
  rw [LL,HR,HR,OR,BJ,Cn,As];congr 1;exact List.drop_left' (hr x)
 |x::l,i+1,h=>by
  have:=AG8 r s hr y (l:=l) (i:=i) (by simpa using h);rw [CU,HR,HR,<- this,show (i+1) * s=(r x).length+i * s from by rw [hr,CK];omega,aC,show (r x).length+i * s+s=(r x).length+(i * s+s) from by omega,HX];simp
def ntR (l:List Nt):AV:= .d (.sl (l.map OD))
def ntC (nts:List (List Nt)):List AV:=nts.map ntR
theorem ARH {nts:List (List Nt)} {f:Nat} (h:f < nts.length) (y:List Nt):(ntC nts).take f++[ntR y]++(ntC nts).drop (f+1)=ntC (nts.set f y):=by
 induction nts generalizing f with
 |nil=>cases h
 |cons x l ih=>
  cases f with
  |zero=>simp [ntC]
  |succ f=>
   have:=ih (f:=f) (by simpa using h);simp only [ntC,AD,Cj,FX,CU,AZ] at this ⊢;rw [this]
def exR (ext:Nat->Option (List AV)) (js jn:Nat) (r:JH) (k:Nat):Option (List AV):=if k=js then some (VW r.1) else if k=jn then some (ntC r.2) else ext k
theorem AAB {ext:Nat->Option (List AV)} {js jn k:Nat} {r:JH} (h:exR ext js jn r k=none):k≠js/\k≠jn/\ext k=none:=by
 unfold exR at h;by_cases e1:k=js
 . rw [if_pos e1] at h;cases h
 . by_cases e2:k=jn
   . rw [if_neg e1,if_pos e2] at h;cases h
   . rw [if_neg e1,if_neg e2] at h;exact ⟨e1,e2,h⟩
theorem wM {ext:Nat->Option (List AV)} {js jn k:Nat} (r:JH) (h1:k≠js) (h2:k≠jn) (h:ext k=none):exR ext js jn r k=none:=by
 unfold exR;rw [if_neg h1,if_neg h2];exact h
theorem TX.exs {B:GB} {ext:Nat->Option (List AV)} {l:List Nd} {fl:Bool} {j js jn:Nat} {r r':JH} {τ:AI} (h:TX B (exR ext js jn r) l fl j τ) (hl:l≠[]) (hne:js≠jn):TX B (exR ext js jn r') l fl j ((τ.AP js (VW r'.1)).AP jn (ntC r'.2)):=by
 obtain ⟨hi1,hi2,hi3⟩:=AAB h.xi;obtain ⟨hj1,hj2,hj3⟩:=AAB h.xj;have hi:=And.intro hi1 hi2;have hj:=And.intro hj1 hj2;obtain ⟨hji,c,hc,hb⟩:=h.sn.nd hl;refine ⟨⟨?_,h.sn.HM,fun _=>⟨hji,c,hc,?_⟩⟩,fun k cs hk=>?_,?_,?_⟩
 . rw [AK,if_neg hi.2,AK,if_neg hi.1];exact h.sn.blk
 . rw [AK,if_neg hj.2,AK,if_neg hj.1];exact hb
 . unfold exR at hk;rw [AK,AK];split at hk
   . rename_i e;subst e;rw [if_neg hne,if_pos rfl];exact hk
   . rename_i e1;split at hk
     . rename_i e;subst e;rw [if_pos rfl];exact hk
     . rename_i e2;rw [if_neg e2,if_neg e1];refine h.x k cs ?_;unfold exR;rw [if_neg e1,if_neg e2];exact hk
 . exact wM r' hi1 hi2 hi3
 . exact wM r' hj1 hj2 hj3
theorem AAS (B:GB) (ext0:Nat->Option (List AV)) (ms:List Nat) (hS:MS B ext0 ms) (c0:Nat) (es:List AV) (st:IG) (ext:Nat->Option (List AV)) (js jn:Nat) (hne:js≠jn) (hM:∀r,MF B ms es st (exR ext js jn r)) (d:Nat->Nat) (hd:FR st.s.1 d) (hl0:st.s.1≠[]) (hln:st.s.1.length<=900000000)
 (hno:ms.find? (fun f=>aV st.s.1 (B.G.ps.getD f []) (B.G.rs.getD f 0) (st.en.getD f []))=none) (hpl:∀q∈B.G.ps,q.length<=6)
 (Q:AV->AI->Prop) (k:List CI) (ds fs:DV) (a5 a40 a41 a42:DV) (r0:JH) (hr1:r0.1.length=B.G.fs.length) (hr2:r0.2.length=B.G.fs.length) (τ0 τ:AI) (j:Nat) (hnb:(nbH τ0).le τ) (hx:TX (B.w ext c0 es) (exR ext js jn r0) st.s.1 st.s.2 j τ)
 (hk:∀τ' j',(nbH τ0).le τ'->TX (B.w ext c0 es) (exR ext js jn (ms.foldl (I7 B.G st.s.1 st.en) r0)) st.s.1 st.s.2 j' τ'->
   Run Bi Q k (put 1 (.lp 1 0) (put 2 (.lp 2 0) (put 3 (.lp 3 0) (put 5 (.d a5) (put 7 (.lp 7 0) (put 40 (.d a40) (put 41 (.d a41) (put 42 (.d a42) U)))))))) (LI ds fs js jn B.G.fs.length) τ'):
 Run Bi Q (.code (.loop L8)::.blk 6::k) (put 1 (.lp 1 0) (put 2 (.lp 2 0) (put 3 (.lp 3 0) (put 5 (.d a5) (put 7 (.lp 7 0) (put 10 (.gp B.i 0) (put 40 (.d a40) (put 41 (.d a41) (put 42 (.d a42) (put 97 (.d (.sl (ms.map By))) (put 98 (.d (.int .i64 ms.length)) (put 99 (.d (.int .i64 0)) U)))))))))))) (LI ds fs js jn B.G.fs.length) τ:=by
 have hml:ms.length<=100:=Ap (Xt hS.nd hS.lt) hS.lf
 have hlenF:∀(fs:List Nat) (r:JH),(fs.foldl (I7 B.G st.s.1 st.en) r).1.length=r.1.length/\(fs.foldl (I7 B.G st.s.1 st.en) r).2.length=r.2.length:=by
  intro fs
  induction fs with
  |nil=>intro r;exact ⟨rfl,rfl⟩
  |cons f fs ih=>intro r;rw [Ao];have:=ih (I7 B.G st.s.1 st.en r f);simp only [I7,LW] at this ⊢;exact this
 refine Run.At ?_
 refine Run.Au ((fun (a1:AV) (a2:AV) (a3:AV) (a5:AV) (a7:AV) (a10:AV) (a40:AV) (a41:AV) (a42:AV) (a97:AV) (a98:AV)=>fun (z:Nat×AI)=>put 1 a1 (put 2 a2 (put 3 a3 (put 5 a5 (put 7 a7 (put 10 a10 (put 40 a40 (put 41 a41 (put 42 a42 (put 97 a97 (put 98 a98 (put 99 (.d (.int .i64 z.1)) U)))))))))))) _ _ _ _ _ _ _ _ _ _ _) (fun _=>LI ds fs js jn B.G.fs.length) (fun z=>z.2)
  (fun z=>z.1<=ms.length/\(nbH τ0).le z.2/\∃j',TX (B.w ext c0 es) (exR ext js jn ((ms.take z.1).foldl (I7 B.G st.s.1 st.en) r0)) st.s.1 st.s.2 j' z.2)
  (fun z=>ms.length - z.1) ?_ (0,τ) ⟨by simp,hnb,j,by simpa using hx⟩
 clear hnb hx;rintro ⟨p,τ1⟩ ⟨hp,hnb,j1,hx⟩ ih;simp only at hp hnb hx;by_cases hlt:p < ms.length
 . obtain ⟨f,hf⟩:=Ai hlt;have hfr:=Hf hf;have hfm:=AE hf;have hfl:=hS.lt f hfm;have hw1:=A4 (show p+1<=9000000000000000000 by omega)
   have hst:(ms.take (p+1)).foldl (I7 B.G st.s.1 st.en) r0=I7 B.G st.s.1 st.en ((ms.take p).foldl (I7 B.G st.s.1 st.en) r0) f:=by
    rw [Aa hf,Cq];rfl
   obtain ⟨hl1,hl2⟩:=hlenF (ms.take p) r0;generalize (ms.take p).foldl (I7 B.G st.s.1 st.en) r0=r at *;obtain ⟨q,hq,hql⟩:=hS.cell f hfm;obtain ⟨w,hw⟩:=Ai (show f < B.G.rs.length by rw [hS.lr];exact hfl);have hgq:B.G.ps.getD f []=q:=by simp [hq]
   have hgr:B.G.rs.getD f 0=w:=by simp [hw]
   have hM:=hM r;obtain ⟨jc,hc1,hc2⟩:=hM.cell f hfm;obtain ⟨hgi,hel,hea⟩:=hM.gi f hfm;have hex:=Qi.1 hno f hfm;rw [hgq,hgr] at hex;obtain ⟨z1,z2,z3⟩:=AGL (by simpa using hex);have hRF:RF (B.w ext c0 es) (exR ext js jn r) st.s.1 f jc es q w (st.en.getD f []):=⟨hM.xm,hM.xp,hM.xr,hM.xe,rfl,hc2,hq,hw,hc1,by omega,fun q hq=>⟨by have:=hpl q hq;omega,hgi.ps q hq⟩,hgi.rs,hS.lm,hS.lp,hS.lr,hgi.en,z1,z2,z3,fun x hx=>by have:=hea x hx;omega⟩;have hc:=AKE (B.w ext c0 es) (exR ext js jn r) st.s.1 d hd st.s.2 j1 τ1 f jc es q w (st.en.getD f []) hRF hx hl0 hln;rw [AOH] at hc;(repeat' (first|refine ctQ rfl ?_|((first|refine rgQ mxQ ?_|refine cdQ ?_|(refine A7 rfl (fun h=>?_) (fun h=>?_)<;>try (cases h;done)))<;>try simp only [Ag hlt,hfr,go_sem])|(refine ⟨fun h=>?_,fun h=>?_⟩<;>first|(cases h;done)|try simp only [h])|fail))
   have hres:I7 B.G st.s.1 st.en r f=(r.1.set f (W6 st.s.1 (EX (Da st.s.1 q w)) q w (Da st.s.1 q w).length),r.2.set f ((st.en.getD f []).map (Tz B.G st.s.1 (EX (Da st.s.1 q w))))):=by
    rw [<- hgq,<- hgr];rfl
   rw [hres] at hst;have hg1:(B.w ext c0 es).G=B.G:=rfl;rw [hg1] at hc;have hset1:=AG8 Sch.row 5 Sch.Ft (W6 st.s.1 (EX (Da st.s.1 q w)) q w (Da st.s.1 q w).length) (show f < r.1.length by omega);have hset2:=ARH (show f < r.2.length by omega) ((st.en.getD f []).map (Tz B.G st.s.1 (EX (Da st.s.1 q w))));have hexs:=fun j2 τ2 (hx2:TX (B.w ext c0 es) (exR ext js jn r) st.s.1 st.s.2 j2 τ2)=>hx2.exs (r':=(r.1.set f (W6 st.s.1 (EX (Da st.s.1 q w)) q w (Da st.s.1 q w).length),r.2.set f ((st.en.getD f []).map (Tz B.G st.s.1 (EX (Da st.s.1 q w)))))) hl0 hne;generalize W6 st.s.1 (EX (Da st.s.1 q w)) q w (Da st.s.1 q w).length=sc at *;generalize (st.en.getD f []).map (Tz B.G st.s.1 (EX (Da st.s.1 q w)))=nt at *;simp only [Sch.row] at hc hset1;simp only [ntR] at hset2;have hfT:=ltT hfl;have hle5:(f * 5+5<=(VW r.1).length)=True:=by rw [P3 Sch.row 5 Sch.Ft];simp;omega
   have hle1:(f+1<=(ntC r.2).length)=True:=by simp [ntC];omega
   have hne1:(jn=js)=False:=by simp;exact A9 hne
   have hne2:(js=jn)=False:=by simp;exact hne
   refine Run.Jf mixed ?_;simp only [go_sem]
   (repeat' (first
     |(refine AH.mk rfl hc ?_
       rintro _ τ2 ⟨rfl,hnb2,j2,hx2⟩;have b1:τ2.blk js=some (VW r.1):=hx2.x js _ (by simp [exR]);have b2:τ2.blk jn=some (ntC r.2):=hx2.x jn _ (by simp [exR,A9 hne]);have hxx:=hexs j2 τ2 hx2;have hnb3:=D8 hnb hnb2;simp only [b1,b2,hfT,hle5,hle1,hset1,hset2,hne1,hne2,A5,go_sem];(repeat' (refine wQ mxQ rfl ?_<;>try simp only [hw1,go_sem]));exact ih ⟨p+1,_⟩ ⟨hlt,⟨fun _ _ h=>(by cases h),hnb3.tok,hnb3.gt,hnb3.bt⟩,j2,by simp only [hst];exact hxx⟩ (by simp only;omega))
     |refine And.intro ?_ ?_))
 . have hpe:p=ms.length:=by omega
   subst hpe;rw [BR] at hx;(repeat' (refine wQ mxQ rfl ?_<;>try simp only [B5 hlt,go_sem]));refine Run.OF [1,2,3,5,7,40,41,42] ?_;have:=hk τ1 j1 hnb hx;simp only [go_sem];exact this
end Go.Ab
