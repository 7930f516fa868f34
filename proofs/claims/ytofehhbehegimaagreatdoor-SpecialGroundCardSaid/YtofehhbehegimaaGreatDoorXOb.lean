/- Part Ob. Conditions: none. -/
import Derived.Test.YtofehhbehegimaaGreatDoorXUf
set_option linter.unusedSimpArgs false
set_option linter.unusedVariables false
set_option maxRecDepth 100000
set_option maxHeartbeats 40000000
set_option linter.defProp false
open Go.Proofs.Tryz renaming prog→Tzp
open List renaming map_cons→AF,take_succ_cons→C7,drop_succ_cons→Ez,set_cons_succ→CR,cons_append→AX,foldl_append→Ch,foldl_cons→Au,getElem?_eq_some_iff→AE,length_map→AA,mem_of_getElem?→AD,take_append_drop→A7,take_length→BQ,replicate→AG,range→Av,countP_le_length→Vr,range'→A8,mem_cons_self→AW,mem_cons_of_mem→AU,getElem?_set→B3,getElem?_set_self→BK,sum_cons→Er,mem_cons→Az,length_cons→A0,map_congr_left→FA,map_nil→AN,getElem?_replicate→RH,getElem?_map→Am,flatten_cons→BW,length_append→AY,getElem?_cons_zero→Aw,getElem?_append_left→BC,getElem?_append_right→As,drop_zero→TG,drop_length_add_append→HD,take_append_of_le_length→XH,take_length_add_append→bI,mem_append→AZ,mem_singleton→A3,eq_nil_of_length_eq_zero→An,getElem_of_mem→Bv,getElem_mem→E5,take_zero→C0,map_append→Ao,mem_map→B8,mem_range'_1→TH,getD_eq_getElem?_getD→A2,set_cons_zero→KY,countP_cons→Fj,replicate_succ→BV,length_nil→Bw,all_eq_true→Aj,take_of_length_le→AP,mem_map_of_mem→aJ,ext_getElem?→Et,getElem?_take→B2,getElem?_drop→BN,getElem?_eq_none→BM,getElem?_set_ne→BJ,length_singleton→Bm,nodup_append→G6
open Nat renaming mul_one→A9,reduceEqDiff→HN,le_refl→AS,le_trans→Af,add_mul→Bs,zero_mul→Nb,zero_add→BF,lt_of_lt_of_le→Be,add_zero→CF,strongRecOn→Cc
open Option renaming map_some→Ac,getD_some→BA,isSome_none→H5
open Ne renaming symm→A6
open Option.some renaming injEq→AM
open Bool renaming not_false→Iv,true_and→Bk,false_eq_true→A1,and_eq_true→AO,and_eq_false_iff→Vo,eq_iff_iff→Ak,not_not→N6,eq_false_iff→CX,or_eq_true→Cb,or_eq_false_iff→CY
open Int renaming eq_ofNat_of_zero_le→G5,toNat_natCast→CO,reduceBEq→Aa
open Prod.mk renaming injEq→BZ
open Except renaming map→C4
namespace Go.Ab
open Go.Proofs
variable {D:Dat} {F F':Fm} {L b j' j5 jc k p:Nat} {al:List Al} {c caps cs:List AV} {es:List (Int×Int)} {fid:FuncId} {ks:List Ex} {l':List Nd} {ns:List Str} {o u:Int} {v:AV} {x:Nd} {σ' τ' υ:AH}
def fW (l:List Nat):(Ct l).length=l.length:=by simp [Ct]
def fX {l:List Nat} {r v:Nat} (h:r < l.length):(Ct l).take r++[.d (.int .i64 (v:Int))]++(Ct l).drop (r+1)=Ct (l.set r v):=by
 induction l generalizing r with
 |nil=>cases h
 |cons x l ih=>
  cases r with
  |zero=>simp [Ct]
  |succ r=>
   have:=ih (r:=r) (by simpa using h);simp only [Ct,AF,C7,Ez,CR,AX] at this ⊢;rw [this]
def D3 {Y τ:AH} (h:(nbH Y).le τ) (k:(nbH τ).le υ):(nbH Y).le υ:=
 ⟨fun _ _ h=>(by cases h),fun t ht=>k.tok t (h.tok t ht),h.gt.trans k.gt,fun i x Z=>k.bt i x (h.bt i x Z)⟩
def AMC (l:List Nd) (k:Nat) (q:Bool×List Nat) (us:List Nat) (a:Nat):(us++[a]).foldl (fun (q:Bool×List Nat) a=>if q.1 then HF l k q.2 a else q) q=
 if (us.foldl (fun (q:Bool×List Nat) a=>if q.1 then HF l k q.2 a else q) q).1 then HF l k (us.foldl (fun (q:Bool×List Nat) a=>if q.1 then HF l k q.2 a else q) q).2 a else us.foldl (fun (q:Bool×List Nat) a=>if q.1 then HF l k q.2 a else q) q:=by
 rw [Ch];rfl
def jL (l:List Nd) (k:Nat) (st:List Nat):∀us:List Nat,us.foldl (fun (q:Bool×List Nat) a=>if q.1 then HF l k q.2 a else q) (false,st)=(false,st)
 |[]=>rfl
 |a::us=>by rw [Au];exact jL l k st us
def ADF (ext:Nat->Option (List AV)) (i:Nat) (rest:List AV) (l:List Nd) (fl:Bool) (j1 j3 j4 js:Nat) (hln:l.length<=900000000) (h1:ext j1=some [.gp i 0]) (h3:ext j3=some [.ms js l.length 1 3]) (h4:ext j4=some [.fn 158 [] [.gp j1 0,.gp j3 0,.gp j4 0]]):
 ∀(k:Nat) (st:List Nat) (j:Nat) (Y:AH) (n:Nat),zs st < k->st.length=l.length->n < l.length->SX ext Y i l fl rest j js (Ct st)->
 AR Tzp 158 [nA n,.gp j1 0,.gp j3 0,.gp j4 0] Y (fun v σ'=>v= .d (.bool (HF l k st n).1)/\(nbH Y).le σ'/\∃j',SX ext σ' i l fl rest j' js (Ct (HF l k st n).2)):=by
 intro k
 induction k with
 |zero=>intro st j Y n h;omega
 |succ k ihk=>
 intro st j Y n hz hst hn hs;have hl0:l≠[]:=fun e=>by rw [e] at hn;cases hn
 refine S8 (by simp) ?_;rw [iH];have hb1:=hs.x _ _ h1;have hb3:=hs.x _ _ h3;obtain ⟨x,Z,hxp⟩:=hs.sn.Gs.root hn;have hrl:=(AE.1 Z).1;rw [HF];simp only [nA];generalize hr:rtN l n=r at *;(repeat' (first|refine ctQ rfl ?_|((first|refine rgQ mxQ ?_|refine cdQ ?_)<;>try simp only [hb1,go_sem])|fail));refine AI.mk rfl (Gz i j l fl rest Y n hs.sn hn hln) ?_;rintro _ σ1 ⟨rfl,j5,sn5,fr5⟩;rw [hr];simp only [nA];simp only [go_sem];have hs5:=hs.step sn5 fr5;have hnb5:=fr5.nb2 (Hq Y);clear hs sn5 fr5 hb1 hb3;have hb1:=hs5.x _ _ h1;have hb3:=hs5.x _ _ h3;have hb4:=hs5.x _ _ h4;have hbs:=hs5.row;obtain ⟨v,hv⟩:=Ai (show r < st.length by omega);have hva:=R3 hv;have hrT:=ltT hrl;have hle1:(r+1<=(Ct st).length)=True:=by rw [fW];simp;omega
 by_cases h0:v=0
 . subst h0;have hb:(((0:Nat):Int)==0)=true:=rfl;rw [if_pos hv];have hset:(Ct st).take r++[.d (.int .i64 1)]++(Ct st).drop (r+1)=Ct (st.set r 1):=fX (v:=1) (show r < st.length by omega);obtain ⟨hji,c,hrep,hbj⟩:=hs5.sn.nd hl0;have hbi:=hs5.sn.blk;rw [Em hl0] at hbi;obtain ⟨y,hy,yk,yn,ya⟩:=hrep.at Z;obtain ⟨_,_,y3,_⟩:=Sn hy;rw [ya] at y3;have d1:(j1=js)=False:=by simp only [eq_iff_iff,iff_false];intro e;rw [e,hs5.xs] at h1;cases h1
   have d3:(j3=js)=False:=by simp only [eq_iff_iff,iff_false];intro e;rw [e,hs5.xs] at h3;cases h3
   have di:(i=js)=False:=by simp only [eq_iff_iff,iff_false];exact fun e=>hs5.si e.symm
   have dj:(j5=js)=False:=by simp only [eq_iff_iff,iff_false];exact fun e=>hs5.sj hl0 e.symm
   have hs6:=hs5.set (Ct (st.set r 1));have hnb6:(nbH Y).le (σ1.AL js (Ct (st.set r 1))):=⟨fun _ _ h=>(by cases h),hnb5.tok,hnb5.gt,hnb5.bt⟩;(repeat' (first|refine ctQ rfl ?_|((first|refine rgQ mxQ ?_|refine cdQ ?_)<;>try simp only [hb1,hb3,hbs,hva,hrT,A9,hle1,hset,hbi,hbj,y3,d1,di,dj,AA,go_sem])|(refine ⟨fun h=>?_,fun h=>?_⟩<;>first|(cases h;done)|try simp only [h])|fail));simp only [Z,Ac,BA];generalize σ1.AL js (Ct (st.set r 1))=σ2 at hs6 hnb6 ⊢;clear hs5 hb1 hb3 hb4 hbs hbi hbj;have hz1:zs (st.set r 1) < k:=by have:=AJP hv (show (1:Nat)≠0 by decide);omega
   have hs1:(st.set r 1).length=l.length:=by simp [hst]
   generalize st.set r 1=st1 at *;refine Run.slot 32 (fun hsl=>?_);simp only [DR,reduceIte,HN,AV.Ev,AA] at hsl;refine Run.BB ?_
   refine Run.BE ((fun (a0:AV) (a2:AV) (a3:AV) (a32:AV) (a33:AV)=>fun (z:Nat×AH)=>put 0 a0 (put 2 a2 (put 3 a3 (put 32 a32 (put 33 a33 (put 34 (.d (.int .i64 z.1)) U)))))) _ _ _ _ _) (fun _=>E) (fun z=>z.2)
    (fun z=>z.1<=x.ar.length/\(nbH Y).le z.2/\((x.ar.take z.1).foldl (fun (q:Bool×List Nat) a=>if q.1 then HF l k q.2 a else q) (true,st1)).1=true/\Rk st1 ((x.ar.take z.1).foldl (fun (q:Bool×List Nat) a=>if q.1 then HF l k q.2 a else q) (true,st1)).2/\
      ∃j',SX ext z.2 i l fl rest j' js (Ct ((x.ar.take z.1).foldl (fun (q:Bool×List Nat) a=>if q.1 then HF l k q.2 a else q) (true,st1)).2))
    (fun z=>x.ar.length - z.1) ?_ (0,σ2) ⟨by simp,hnb6,rfl,Rk.refl _,j5,hs6⟩
   rintro ⟨p,τ⟩ ⟨hp,hnb,hok,hle,j6,hs7⟩ ih;simp only at hp hnb hok hle hs7;have hb4:=hs7.x _ _ h4;by_cases hlt:p < x.ar.length
   . obtain ⟨a,ha⟩:=Ai hlt;have har:=HT ha;have hal:=hs7.sn.Gs.ar _ _ Z a (AD ha);have hst2:=AMC l k (true,st1) (x.ar.take p) a;rw [<- A5 ha] at hst2;have hw1:=wsu p;rw [if_pos hok] at hst2;have hcall:=ihk _ j6 τ a (Nat.lt_of_le_of_lt hle.2 hz1) (hle.1.trans hs1) hal hs7;have hfl:=e7 l k ((x.ar.take p).foldl (fun (q:Bool×List Nat) a=>if q.1 then HF l k q.2 a else q) (true,st1)).2 a;generalize hq:(x.ar.take p).foldl (fun (q:Bool×List Nat) a=>if q.1 then HF l k q.2 a else q) (true,st1)=q at *;generalize hw:HF l k q.2 a=w at *;obtain ⟨wb,ws⟩:=w;cases wb with
     |true=>
      (repeat' (refine wQ ?_<;>try simp only [Ap hlt,har,hb4,go_sem]));refine ⟨158,[],[.gp j1 0,.gp j3 0,.gp j4 0],rfl,by kernel_rfl,AI.mk rfl hcall ?_⟩;rintro _ τ2 ⟨rfl,hn2,j8,hs8⟩;simp only [go_sem];(repeat' (refine wQ ?_<;>try simp only [hw1,go_sem]));exact ih ⟨p+1,τ2⟩ ⟨hlt,D3 hnb hn2,by simp only [hst2],by simp only [hst2];exact hle.trans hfl,j8,by simp only [hst2];exact hs8⟩ (by simp only;omega)
     |false=>
      (repeat' (refine wQ ?_<;>try simp only [Ap hlt,har,hb4,go_sem]));refine ⟨158,[],[.gp j1 0,.gp j3 0,.gp j4 0],rfl,by kernel_rfl,AI.mk rfl hcall ?_⟩;rintro _ τ2 ⟨rfl,hn2,j8,hs8⟩;simp only [go_sem];(repeat' (refine wP ?_<;>try simp only [go_sem]))
      have hall:x.ar.foldl (fun (q:Bool×List Nat) a=>if q.1 then HF l k q.2 a else q) (true,st1)=(false,ws):=by
       conv=>lhs;rw [<- A7 (p+1) x.ar,Ch,hst2]
       exact jL l k ws _
      simp only [hall];exact ⟨trivial,D3 hnb hn2,j8,hs8⟩
   . have hpe:p=x.ar.length:=by omega
     subst hpe;rw [BQ] at hok hle hs7;have hb3:=hs7.x _ _ h3;have hbs:=hs7.row;have hst7:=hle.1.trans hs1;generalize hq:x.ar.foldl (fun (q:Bool×List Nat) a=>if q.1 then HF l k q.2 a else q) (true,st1)=q at *;have hle2:(r+1<=(Ct q.2).length)=True:=by rw [fW];simp;omega
     have hset2:(Ct q.2).take r++[.d (.int .i64 2)]++(Ct q.2).drop (r+1)=Ct (q.2.set r 2):=fX (v:=2) (by omega);have hs9:=hs7.set (Ct (q.2.set r 2));simp only [hok,if_true];(repeat' (first|refine ctQ rfl ?_|((first|refine rgQ mxQ ?_|refine cdQ ?_|refine Run.qP G0 ?_)<;>try simp only [B7 hlt,hb3,hrT,A9,hbs,hle2,hset2,go_sem])|fail));exact ⟨⟨fun _ _ h=>(by cases h),hnb.tok,hnb.gt,hnb.bt⟩,j6,hs9⟩
 . have hb:((v:Int) != 0)=true:=by simpa using h0
   rw [if_neg (by rw [hv];simpa using h0)]
   have h2:decide (st[r]?=some 2)=((v:Int)==2):=by
    rw [hv];by_cases e:v=2
    . subst e;rfl
    . have:((v:Int)==2)=false:=by simp;omega
      rw [this];simpa using e
   rw [h2];(repeat' (first|refine ctQ rfl ?_|((first|refine rgQ mxQ ?_|refine cdQ ?_|refine Run.qP G0 ?_)<;>try simp only [hb3,hbs,hva,hrT,A9,hb,go_sem])|fail));exact ⟨hnb5,j5,hs5⟩
def AG3 (l:List Nd):Nat->List Nat->List Nat->Bool
 |_,_,[]=>true
 |k,st,n::ns=>if (HF l k st n).1 then AG3 l k (HF l k st n).2 ns else false
def qX (l:List Nd):Bool:=AG3 l (l.length+1) (AG l.length 0) (Av l.length)
def ATN (n:Nat):zs (AG n 0)<=n:=by
 have:=Vr (p:=fun x:Nat=>x==0) (l:=AG n 0);simpa [zs] using this
def IY (Y:AH) (i:Nat) (x:Nat×TypeId) (k:Nat):(Y.Bl i x).blk k=Y.blk k:=rfl
structure Mo (Y τ:AH):Prop where
 blk:∀k c,Y.blk k=some c->τ.blk k=some c
 nb:(nbH Y).le τ
def Mo.refl (Y:AH):Mo Y Y:=⟨fun _ _ h=>h,Hq Y⟩
def Mo.new {Y τ:AH} (h:Mo Y τ) {j:Nat} (hj:τ.blk j=none) (cs:List AV):Mo Y (τ.AL j cs):=
 ⟨fun k c hk=>by have h1:=h.blk k c hk;rw [AJ,if_neg (fun e=>by rw [e,hj] at h1;cases h1)];exact h1,⟨fun _ _ h=>(by cases h),h.nb.tok,h.nb.gt,h.nb.bt⟩⟩
def Mo.AEA {Y τ:AH} (h:Mo Y τ) {j:Nat} (hj:τ.blk j=none/\τ.bt j=none) (cs cs':List AV) (x:Nat×TypeId):Mo Y (((τ.AL j cs).Bl j x).AL j cs'):=
 ⟨fun k c hk=>by
   have h1:=h.blk k c hk;have hne:k≠j:=fun e=>by rw [e,hj.1] at h1;cases h1
   rw [AJ,if_neg hne,IY,AJ,if_neg hne];exact h1,⟨fun _ _ h=>(by cases h),h.nb.tok,h.nb.gt,fun k y hy=>by
   have h2:=h.nb.bt k y hy;show (if k=j then some x else τ.bt k)=some y;rw [if_neg (fun e=>by rw [e,hj.2] at h2;cases h2)];exact h2⟩⟩
def Mo.ASR {Y τ:AH} (h:Mo Y τ) {j:Nat} (hj:Y.blk j=none) (cs:List AV):Mo Y (τ.AL j cs):=
 ⟨fun k c hk=>by rw [AJ,if_neg (fun e=>by rw [e,hj] at hk;cases hk)];exact h.blk k c hk,⟨fun _ _ h=>(by cases h),h.nb.tok,h.nb.gt,h.nb.bt⟩⟩
def Mo.ne {Y τ:AH} (h:Mo Y τ) {j:Nat} (hj:τ.blk j=none):Y.blk j=none:=by
 cases hs:Y.blk j with
 |none=>rfl
 |some c=>rw [h.blk j c hs] at hj;cases hj
def Mo.trans {Y τ:AH} (h:Mo Y τ) (k:Mo τ υ):Mo Y υ:=⟨fun x c Z=>k.blk x c (h.blk x c Z),D3 h.nb k.nb⟩
def exT (i j js:Nat) (τ:AH) (k:Nat):Option (List AV):=if k=i\/k=j\/k=js then none else τ.blk k
def JD {i j js:Nat} {τ:AH} (h:τ.blk k=some c) (h1:k≠i) (h2:k≠j) (h3:k≠js):exT i j js τ k=some c:=by
 unfold exT;rw [if_neg (by simp [h1,h2,h3])];exact h
def AYH {i j js:Nat} {τ:AH} (h:exT i j js τ k=some c):τ.blk k=some c:=by
 unfold exT at h;split at h
 . cases h
 . exact h
def SX.mk' {Y τ:AH} {i j js:Nat} {l:List Nd} {fl:Bool} {rest:List AV} (h:SN Y i l fl rest j) (hl:l≠[]) (m:Mo Y τ) (hs:τ.blk js=some cs) (hn:Y.blk js=none):SX (exT i j js τ) τ i l fl rest j js cs:=by
 obtain ⟨hji,c0,hc0,hbj⟩:=h.nd hl;have hsi:js≠i:=fun e=>by rw [e,h.blk] at hn;cases hn
 have hsj:js≠j:=fun e=>by rw [e,hbj] at hn;cases hn
 exact ⟨⟨m.blk _ _ h.blk,h.Gs,fun _=>⟨hji,c0,hc0,m.blk _ _ hbj⟩⟩,hs,fun k c hk=>AYH hk,by simp [exT],fun _=>by simp [exT],by simp [exT],hsi,fun _=>hsj⟩
def SX.out {Y τ:AH} {i j js:Nat} {l:List Nd} {fl:Bool} {rest:List AV} (hl:l≠[]) (m:Mo Y τ) (hn:Y.blk js=none) (h:SX (exT i j js τ) τ' i l fl rest j' js cs) (hnb:(nbH Y).le τ'):SN τ' i l fl rest j'/\Fr Y i l j τ' l j':=by
 refine ⟨h.sn,⟨fun k h1 h2 h3=>?_,fun _=>by rw [h.sn.blk];simp,fun _=>?_,hnb.gt.symm,hnb.tok,hnb.bt⟩⟩
 . cases hk:Y.blk k with
   |none=>exact absurd hk h3
   |some c=>exact h.x k c (JD (m.blk k c hk) h1 (h2 hl) (fun e=>by rw [e,hn] at hk;cases hk))
 . obtain ⟨hji,_⟩:=h.sn.nd hl;have Z:=h.xj hl;have hsj:=h.sj hl;by_cases e:j'=j
   . exact .inl ⟨hl,e⟩
   . right;unfold exT at Z;rw [if_neg (by simp [hji,e,A6 hsj])] at Z;exact m.ne Z
def lI (i:Nat) (rest:List AV) (l:List Nd) (fl:Bool) (j:Nat) (Y:AH) (hl0:l≠[]) (hln:l.length<=900000000) (h:SN Y i l fl rest j):
 AR Tzp 100 [.gp i 0] Y (SNQ Y i l rest j (l,fl) (.d (.bool (qX l)))):=by
 have hbi:=h.blk;rw [Em hl0] at hbi;obtain ⟨hji,c0,hc0,hbj⟩:=h.nd hl0;refine VD (by simp) ?_;rw [Bj];(repeat' (first|refine ctQ rfl ?_|((first|refine rgQ mxQ ?_|refine cdQ ?_)<;>try simp only [go_sem])|fail));intro j1 hj1;have m1:=(Mo.refl Y).new hj1 [AV.gp i 0];have f1:(Y.AL j1 [AV.gp i 0]).blk j1=some [AV.gp i 0]:=BT;generalize Y.AL j1 [AV.gp i 0]=τ1 at *;have hbi1:=m1.blk _ _ hbi;(repeat' (first|refine ctQ rfl ?_|((first|refine rgQ mxQ ?_|refine cdQ ?_)<;>try simp only [hbi1,f1,go_sem])|fail));refine O1.mk l.length (by omega) (by omega) (fun js hjs=>?_);rw [gI];have m2:=(Mo.refl τ1).new hjs (Ct (AG l.length 0));have f2:(τ1.AL js (Ct (AG l.length 0))).blk js=some (Ct (AG l.length 0)):=BT;generalize τ1.AL js (Ct (AG l.length 0))=τ2 at *;simp only [go_sem];intro j3 hj3;simp only [IY,go_sem];have m3:=(Mo.refl τ2).AEA hj3 [AV.Ad] [AV.ms js l.length 1 3] (1,51);have f3:(((τ2.AL j3 [AV.Ad]).Bl j3 (1,51)).AL j3 [AV.ms js l.length 1 3]).blk j3=some [AV.ms js l.length 1 3]:=BT;generalize ((τ2.AL j3 [AV.Ad]).Bl j3 (1,51)).AL j3 [AV.ms js l.length 1 3]=τ3 at *;(repeat' (first|refine ctQ rfl ?_|((first|refine rgQ mxQ ?_|refine cdQ ?_)<;>try simp only [go_sem])|fail));intro j4 hj4
 have m4:=(Mo.refl τ3).AEA hj4 [AV.HG] [.fn 158 [] [.gp j1 0,.gp j3 0,.gp j4 0]] (1,185);have f4:(((τ3.AL j4 [AV.HG]).Bl j4 (1,185)).AL j4 [.fn 158 [] [.gp j1 0,.gp j3 0,.gp j4 0]]).blk j4=some [.fn 158 [] [.gp j1 0,.gp j3 0,.gp j4 0]]:=BT;have g1:=m3.blk _ _ (m2.blk _ _ f1);have b1:=m3.blk _ _ (m2.blk _ _ hbi1);have n1:j1≠j4:=fun e=>by rw [e,hj4.1] at g1;cases g1
 have n3:j3≠j4:=fun e=>by rw [e,hj4.1] at f3;cases f3
 have ni:i≠j4:=fun e=>by rw [e,hj4.1] at b1;cases b1
 have n1':(j1=j4)=False:=by simp [n1]
 have ni':(i=j4)=False:=by simp [ni]
 (repeat' (first|refine ctQ rfl ?_|((first|refine rgQ mxQ ?_|refine cdQ ?_)<;>try simp only [IY,n1',ni',g1,b1,go_sem])|fail));generalize ((τ3.AL j4 [AV.HG]).Bl j4 (1,185)).AL j4 [.fn 158 [] [.gp j1 0,.gp j3 0,.gp j4 0]]=τ4 at *;have hmo:Mo Y τ4:=((m1.trans m2).trans m3).trans m4;have c1:=m4.blk _ _ g1;have c3:=m4.blk _ _ f3;have cs:=m4.blk _ _ (m3.blk _ _ f2);have hjsn:Y.blk js=none:=m1.ne hjs;have hs:=SX.mk' h hl0 hmo cs hjsn;have hne:∀k c,τ4.blk k=some c->Y.blk k=none->k≠i/\k≠j:=fun k c _ h2=>⟨fun e=>(by rw [e,h.blk] at h2;cases h2),fun e=>(by rw [e,hbj] at h2;cases h2)⟩;have j1n:Y.blk j1=none:=by assumption
 have j3n:Y.blk j3=none:=(m1.trans m2).ne hj3.1;have j4n:Y.blk j4=none:=((m1.trans m2).trans m3).ne hj4.1;have s1:j1≠js:=fun e=>by rw [e,hjs] at f1;cases f1
 have s3:j3≠js:=fun e=>by rw [<- e,hj3.1] at f2;cases f2
 have s4:j4≠js:=fun e=>by have:=m3.blk _ _ f2;rw [<- e,hj4.1] at this;cases this
 have x1:=JD (js:=js) c1 (hne _ _ c1 j1n).1 (hne _ _ c1 j1n).2 s1;have x3:=JD (js:=js) c3 (hne _ _ c3 j3n).1 (hne _ _ c3 j3n).2 s3;have x4:=JD (js:=js) f4 (hne _ _ f4 j4n).1 (hne _ _ f4 j4n).2 s4;have hvis:=ADF _ i rest l fl j1 j3 j4 js hln x1 x3 x4 (l.length+1);refine Run.BB ?_
 refine Run.BE ((fun (a4:AV) (a17:AV)=>fun (z:Nat×AH×List Nat)=>put 4 a4 (put 17 a17 (put 18 (.d (.int .i64 z.1)) U))) _ _) (fun _=>E) (fun z=>z.2.1)
  (fun z=>z.1<=l.length/\qX l=AG3 l (l.length+1) z.2.2 (A8 z.1 (l.length - z.1))/\Rk (AG l.length 0) z.2.2/\(nbH Y).le z.2.1/\∃j',SX (exT i j js τ4) z.2.1 i l fl rest j' js (Ct z.2.2))
  (fun z=>l.length - z.1) ?_ (0,τ4,AG l.length 0) ⟨by simp,by simp [qX,List.range_eq_range'],Rk.refl _,hmo.nb,j,hs⟩
 rintro ⟨p,τ,st⟩ ⟨hp,hfp,hle,hnb,j6,hs6⟩ ih;simp only at hp hfp hle hnb hs6;have hb4:=hs6.x _ _ x4;by_cases hlt:p < l.length
 . have hw1:=wsu p;rw [show l.length - p=(l.length - (p+1))+1 from by omega,List.range'_succ,AG3] at hfp;have hz:=ATN l.length;have hlen:st.length=l.length:=by rw [hle.1];simp
   have hcall:=hvis st j6 τ p (by have:=hle.2;omega) hlen hlt hs6;have hfl:=e7 l (l.length+1) st p;generalize HF l (l.length+1) st p=w at *;obtain ⟨wb,ws⟩:=w;cases wb with
   |true=>
    (repeat' (refine wQ ?_<;>try simp only [Ap hlt,hb4,go_sem]));refine ⟨158,[],[.gp j1 0,.gp j3 0,.gp j4 0],rfl,by kernel_rfl,AI.mk rfl hcall ?_⟩;rintro _ τ2 ⟨rfl,hn2,j8,hs8⟩;simp only [go_sem];(repeat' (refine wQ ?_<;>try simp only [hw1,go_sem]));exact ih ⟨p+1,τ2,ws⟩ ⟨hlt,by simpa using hfp,hle.trans hfl,D3 hnb hn2,j8,hs8⟩ (by simp only;omega)
   |false=>
    (repeat' (refine wQ ?_<;>try simp only [Ap hlt,hb4,go_sem]));refine ⟨158,[],[.gp j1 0,.gp j3 0,.gp j4 0],rfl,by kernel_rfl,AI.mk rfl hcall ?_⟩;rintro _ τ2 ⟨rfl,hn2,j8,hs8⟩;simp only [go_sem];(repeat' (refine wP ?_<;>try simp only [go_sem]));have hf:qX l=false:=by simpa using hfp
    exact ⟨by rw [hf],j8,hs8.out hl0 hmo hjsn (D3 hnb hn2)⟩
 . have hpe:p=l.length:=by omega
   subst hpe;rw [Nat.sub_self,List.range'_zero,AG3] at hfp;(repeat' (refine wP ?_<;>try simp only [B7 hlt,go_sem]));exact ⟨by rw [hfp],j6,hs6.out hl0 hmo hjsn hnb⟩
structure FR (l:List Nd) (d:Nat->Nat):Prop where
 lt:∀r x,l[r]?=some x->x.p=r->∀a∈x.ar,d (rtN l a) < d r
 le:∀r,d r<=l.length
def szF (l:List Nd):Nat->Nat->Nat
 |0,_=>0
 |k+1,r=>(((l[r]?).map Nd.ar).getD []).foldl (fun s a=>min (s+szF l k (rtN l a)) 201) 1
def foldl_congr {α β:Type} {f g:β->α->β}:∀ {l:List α} {b:β},(∀a∈l,∀b,f b a=g b a)->l.foldl f b=l.foldl g b
 |[],b,_=>rfl
 |a::l,b,h=>by
  rw [Au,Au,h a (AW)];exact foldl_congr fun x Z=>h x (AU _ Z)
def uA {l:List Nd} {d:Nat->Nat} (hg:ER l) (h:FR l d):∀(n r k k':Nat),d r<=n->(∃x,l[r]?=some x/\x.p=r)->d r < k->d r < k'->szF l k r=szF l k' r:=by
 intro n
 induction n with
 |zero=>
  intro r k k' hn ⟨x,Z,hp⟩ hk hk';obtain ⟨k,rfl⟩:∃m,k=m+1:=⟨k - 1,by omega⟩;obtain ⟨k',rfl⟩:∃m,k'=m+1:=⟨k' - 1,by omega⟩;rw [szF,szF,Z];simp only [Ac,BA];refine foldl_congr fun a ha b=>?_;have:=h.lt r x Z hp a ha;omega
 |succ n ih=>
  intro r k k' hn ⟨x,Z,hp⟩ hk hk';obtain ⟨k,rfl⟩:∃m,k=m+1:=⟨k - 1,by omega⟩;obtain ⟨k',rfl⟩:∃m,k'=m+1:=⟨k' - 1,by omega⟩;rw [szF,szF,Z];simp only [Ac,BA];refine foldl_congr fun a ha b=>?_;have h1:=h.lt r x Z hp a ha;rw [ih (rtN l a) k k' (by omega) (hg.root (hg.ar r x Z a ha)) (by omega) (by omega)]
def ABX {f:Nat->Nat}:∀ {us:List Nat} {s:Nat},1<=s->s<=201->1<=us.foldl (fun s a=>min (s+f a) 201) s/\us.foldl (fun s a=>min (s+f a) 201) s<=201
 |[],s,h1,h2=>⟨h1,h2⟩
 |a::us,s,h1,h2=>by rw [Au];exact ABX (by omega) (by omega)
def ABV (l:List Nd) (k r:Nat):1<=szF l (k+1) r/\szF l (k+1) r<=201:=by
 rw [szF];exact ABX (by omega) (by omega)
def szN (l:List Nd) (n:Nat):Nat:=szF l (l.length+1) (rtN l n)
def KN (l:List Nd) (kn:List Nat):Prop:=kn.length=l.length/\∀r v,kn[r]?=some v->v=0\/v=szF l (l.length+1) r
def AI3 (ext:Nat->Option (List AV)) (i:Nat) (rest:List AV) (l:List Nd) (d:Nat->Nat) (hd:FR l d) (fl:Bool) (j1 j3 j4 js:Nat) (hln:l.length<=900000000) (h1:ext j1=some [.gp i 0]) (h3:ext j3=some [.ms js l.length 1 3]) (h4:ext j4=some [.fn 160 [] [.gp j1 0,.gp j3 0,.gp j4 0]]):
 ∀(k:Nat) (kn:List Nat) (j:Nat) (Y:AH) (n:Nat),d (rtN l n) < k->KN l kn->n < l.length->SX ext Y i l fl rest j js (Ct kn)->
 AR Tzp 160 [nA n,.gp j1 0,.gp j3 0,.gp j4 0] Y (fun v σ'=>v=nA (szN l n)/\(nbH Y).le σ'/\∃kn' j',KN l kn'/\SX ext σ' i l fl rest j' js (Ct kn')):=by
 intro k
 induction k with
 |zero=>intro kn j Y n h;omega
 |succ k ihk=>
 intro kn j Y n hdk hkn hn hs;have hl0:l≠[]:=fun e=>by rw [e] at hn;cases hn
 refine Tm (by simp) ?_;rw [iH];have hb1:=hs.x _ _ h1;obtain ⟨x,Z,hxp⟩:=hs.sn.Gs.root hn;have hrl:=(AE.1 Z).1;rw [szN];simp only [nA];generalize hr:rtN l n=r at *;(repeat' (first|refine ctQ rfl ?_|((first|refine rgQ mxQ ?_|refine cdQ ?_)<;>try simp only [hb1,go_sem])|fail));refine AI.mk rfl (Gz i j l fl rest Y n hs.sn hn hln) ?_;rintro _ σ1 ⟨rfl,j5,sn5,fr5⟩;rw [hr];simp only [nA];simp only [go_sem];have hs5:=hs.step sn5 fr5;have hnb5:=fr5.nb2 (Hq Y);clear hs sn5 fr5 hb1;have hb1:=hs5.x _ _ h1;have hb3:=hs5.x _ _ h3;have hbs:=hs5.row;obtain ⟨v,hv⟩:=Ai (show r < kn.length by rw [hkn.1];exact hrl);have hva:=R3 hv;have hrT:=ltT hrl;by_cases h0:v=0
 . subst h0;have hb:(((0:Nat):Int)==0)=true:=rfl;obtain ⟨hji,c,hrep,hbj⟩:=hs5.sn.nd hl0;have hbi:=hs5.sn.blk;rw [Em hl0] at hbi;obtain ⟨y,hy,yk,yn,ya⟩:=hrep.at Z;obtain ⟨_,_,y3,_⟩:=Sn hy;rw [ya] at y3;(repeat' (first|refine ctQ rfl ?_|((first|refine rgQ mxQ ?_|refine cdQ ?_)<;>try simp only [hb1,hb3,hbs,hva,hrT,A9,hb,hbi,hbj,y3,AA,go_sem])|fail));refine Run.slot 25 (fun hsl=>?_);simp only [DR,reduceIte,HN,AV.Ev,AA] at hsl;refine Run.BB ?_
   refine Run.BE ((fun (a0:AV) (a2:AV) (a3:AV) (a25:AV) (a26:AV)=>fun (z:Nat×AH)=>put 0 a0 (put 2 a2 (put 3 a3 (put 6 (.d (.int .i64 (((x.ar.take z.1).foldl (fun s a=>min (s+szF l (l.length+1) (rtN l a)) 201) 1:Nat):Int))) (put 25 a25 (put 26 a26 (put 27 (.d (.int .i64 z.1)) U))))))) _ _ _ _ _) (fun _=>E) (fun z=>z.2)
    (fun z=>z.1<=x.ar.length/\(nbH Y).le z.2/\∃kn' j',KN l kn'/\SX ext z.2 i l fl rest j' js (Ct kn'))
    (fun z=>x.ar.length - z.1) ?_ (0,σ1) ⟨by simp,hnb5,kn,j5,hkn,hs5⟩
   clear hkn hv hva hb1 hb3 hbs hbi hbj hs5 hrep hy y3;rintro ⟨p,τ⟩ ⟨hp,hnb,kn',j6,hkn,hs7⟩ ih;simp only at hp hnb hs7;have hb4:=hs7.x _ _ h4;by_cases hlt:p < x.ar.length
   . obtain ⟨a,ha⟩:=Ai hlt;have har:=HT ha;have ham:=AD ha;have hal:=hs7.sn.Gs.ar _ _ Z a ham;have hda:=hd.lt r x Z hxp a ham
     have hstep:(x.ar.take (p+1)).foldl (fun s a=>min (s+szF l (l.length+1) (rtN l a)) 201) 1=min ((x.ar.take p).foldl (fun s a=>min (s+szF l (l.length+1) (rtN l a)) 201) 1+szF l (l.length+1) (rtN l a)) 201:=by
      rw [A5 ha,Ch];rfl
     have hbd:=ABX (f:=fun a=>szF l (l.length+1) (rtN l a)) (us:=x.ar.take p) (s:=1) (by omega) (by omega);have hsa:=ABV l l.length (rtN l a);have hw1:=wsu p;have hcall:=ihk kn' j6 τ a (by omega) hkn hal hs7;rw [szN] at hcall;generalize hfs:(x.ar.take p).foldl (fun s a=>min (s+szF l (l.length+1) (rtN l a)) 201) 1=s at hbd hstep;generalize szF l (l.length+1) (rtN l a)=sa at hstep hsa hcall;have hw2:IntKind.i64.wrap ((s:Int)+(sa:Int))=((s+sa:Nat):Int):=by rw [D4 (by omega) (by omega)];omega
     (repeat' (first|refine ctQ rfl ?_|((first|refine rgQ mxQ ?_|refine cdQ ?_)<;>try simp only [Ap hlt,har,hb4,go_sem])|fail));refine ⟨160,[],[.gp j1 0,.gp j3 0,.gp j4 0],rfl,by kernel_rfl,AI.mk rfl hcall ?_⟩;rintro _ τ2 ⟨rfl,hn2,kn2,j8,hkn2,hs8⟩;simp only [nA]
     have hmm:mmA false (.d (.int .i64 ((s+sa:Nat):Int))) (.d (.int .i64 201))=some (.d (.int .i64 ((min (s+sa) 201:Nat):Int))):=by
      simp [mmA];omega
     simp only [hfs,hw2,hmm,go_sem];(repeat' (first|refine ctQ rfl ?_|((first|refine rgQ mxQ ?_|refine cdQ ?_)<;>try simp only [hw1,go_sem])|fail));have hi:=ih ⟨p+1,τ2⟩ ⟨hlt,D3 hnb hn2,kn2,j8,hkn2,hs8⟩ (by simp only;omega);simp only [hstep] at hi;exact hi
   . have hpe:p=x.ar.length:=by omega
     subst hpe;have hb3:=hs7.x _ _ h3;have hbs:=hs7.row
     have hsz:szF l (l.length+1) r=x.ar.foldl (fun s a=>min (s+szF l (l.length+1) (rtN l a)) 201) 1:=by
      have h0:=hd.le r;rw [szF,Z];simp only [Ac,BA];refine foldl_congr fun a ha b=>?_;have h1:=hd.lt r x Z hxp a ha;rw [uA hs7.sn.Gs hd (d (rtN l a)) (rtN l a) l.length (l.length+1) (AS _) (hs7.sn.Gs.root (hs7.sn.Gs.ar r x Z a ha)) (by omega) (by omega)]
     have hle2:(r+1<=(Ct kn').length)=True:=by rw [fW,hkn.1];simp;omega
     have hset:=fX (l:=kn') (v:=szF l (l.length+1) r) (show r < kn'.length by rw [hkn.1];exact hrl)
     have hk2:KN l (kn'.set r (szF l (l.length+1) r)):=by
      refine ⟨by simp [hkn.1],fun m v hm=>?_⟩;rw [B3] at hm;split at hm
      . rename_i e;subst e;split at hm
        . cases hm;exact .inr rfl
        . cases hm
      . exact hkn.2 m v hm
     have hat:(Ct (kn'.set r (szF l (l.length+1) r)))[r]?=some (.d (.int .i64 ((szF l (l.length+1) r:Nat):Int))):=R3 (by rw [BK (by rw [hkn.1];exact hrl)]);have hs9:=hs7.set (Ct (kn'.set r (szF l (l.length+1) r)));have d3:(j3=js)=False:=by simp only [eq_iff_iff,iff_false];intro e;rw [e,hs7.xs] at h3;cases h3
     simp only [BQ,<- hsz];(repeat' (first|refine ctQ rfl ?_|((first|refine rgQ mxQ ?_|refine cdQ ?_|refine Run.qP Gr ?_)<;>try simp only [B7 hlt,hb3,hrT,A9,hbs,hle2,hset,hat,d3,go_sem])|fail));exact ⟨⟨fun _ _ h=>(by cases h),hnb.tok,hnb.gt,hnb.bt⟩,_,j6,hk2,hs9⟩
 . have hb:((v:Int)==0)=false:=by simpa using h0
   have hvz:v=szF l (l.length+1) r:=(hkn.2 r v hv).resolve_left h0;(repeat' (first|refine ctQ rfl ?_|((first|refine rgQ mxQ ?_|refine cdQ ?_|refine Run.qP Gr ?_)<;>try simp only [hb3,hbs,hva,hrT,A9,hb,go_sem])|fail));rw [<- hvz];exact ⟨rfl,hnb5,kn,j5,hkn,hs5⟩
def AXM {f:Nat->Nat}:∀ {us:List Nat} {s:Nat},s<=201->s<=us.foldl (fun s a=>min (s+f a) 201) s
 |[],s,_=>AS _
 |a::us,s,h=>by
  rw [Au];exact Af (by omega) (AXM (us:=us) (s:=min (s+f a) 201) (by omega))
def AS3 {f:Nat->Nat}:∀ {us:List Nat} {s:Nat},s<=201->us.foldl (fun s a=>min (s+f a) 201) s<=200->s+(us.map f).sum<=200
 |[],s,_,h=>by simpa using h
 |a::us,s,hs,h=>by
  rw [Au] at h;have h1:=AXM (f:=f) (us:=us) (s:=min (s+f a) 201) (by omega);have h2:=AS3 (us:=us) (s:=min (s+f a) 201) (by omega) h;rw [AF,Er];omega
def AK2 {f:Nat->Nat}:∀ {us:List Nat} {a:Nat},a∈us->f a<=(us.map f).sum
 |b::us,a,h=>by
  rw [AF,Er];rcases Az.1 h with rfl|h
  . omega
  . have:=AK2 (f:=f) h;omega
def AK1 {f:Nat->Nat}:∀ {us:List Nat},(∀a∈us,1<=f a)->us.length<=(us.map f).sum
 |[],_=>AS _
 |b::us,h=>by
  rw [AF,Er,A0];have:=h b (AW);have:=AK1 (f:=f) (us:=us) (fun a ha=>h a (AU _ ha));omega
def ABW {l:List Nd} {d:Nat->Nat} (hg:ER l) (h:FR l d) {n:Nat} (Z:l[rtN l n]?=some x) (hp:x.p=rtN l n) (hs:szN l n<=200):1+(x.ar.map (szN l)).sum<=200:=by
 rw [szN,szF,Z] at hs;simp only [Ac,BA] at hs;have h1:=AS3 (by omega) hs
 have:x.ar.map (szN l)=x.ar.map (fun a=>szF l l.length (rtN l a)):=FA fun a ha=>by
  have h1:=h.lt _ x Z hp a ha;have h0:=h.le (rtN l n);exact uA hg h (d (rtN l a)) (rtN l a) (l.length+1) l.length (AS _) (hg.root (hg.ar _ x Z a ha)) (by omega) (by omega)
 rw [this];exact h1
def uB {l:List Nd} {d:Nat->Nat} (hg:ER l) (h:FR l d) {n:Nat} (Z:l[rtN l n]?=some x) (hp:x.p=rtN l n) (hs:szN l n<=200):x.ar.length<=199/\∀a∈x.ar,szN l a<=200:=by
 have h1:=ABW hg h Z hp hs;have h2:=AK1 (f:=szN l) (us:=x.ar) (fun a _=>(ABV l l.length (rtN l a)).1);exact ⟨by omega,fun a ha=>by have:=AK2 (f:=szN l) ha;omega⟩
def AS2 {l:List Nd} {d:Nat->Nat} (hg:ER l) (h:FR l d) {n:Nat} (Z:l[rtN l n]?=some x) (hp:x.p=rtN l n) (hs:szN l n<=200):szN l n=1+(x.ar.map (szN l)).sum:=by
 have h1:=ABW hg h Z hp hs
 have h4:szN l n=x.ar.foldl (fun s a=>min (s+szN l a) 201) 1:=by
  rw [szN,szF,Z];simp only [Ac,BA];refine foldl_congr fun a ha b=>?_;have h1:=h.lt _ x Z hp a ha;have h0:=h.le (rtN l n);rw [szN,uA hg h (d (rtN l a)) (rtN l a) l.length (l.length+1) (AS _) (hg.root (hg.ar _ x Z a ha)) (by omega) (by omega)]
 have h5:∀(us:List Nat) (s:Nat),s+(us.map (szN l)).sum<=200->us.foldl (fun s a=>min (s+szN l a) 201) s=s+(us.map (szN l)).sum:=by
  intro us
  induction us with
  |nil=>intro s _;simp
  |cons a us ih2=>
   intro s hs;rw [AF,Er] at hs ⊢;rw [Au,show min (s+szN l a) 201=s+szN l a from by omega,ih2 _ (by omega)];omega
 rw [h4,h5 _ _ h1]
def rdF (l:List Nd) (es:List (Int×Int)):Nat->Nat->Ty
 |0,_=>.mk 3 0 []
 |k+1,r=>match l[r]? with
  |none=>.mk 3 0 []
  |some x=>if x.k=0 then (match es.lookup (r:Int) with
   |some i=>.mk 4 i []
   |none=>.mk 3 0 []) else .mk x.k x.n (x.ar.map fun a=>rdF l es k (rtN l a))
def rdN (l:List Nd) (es:List (Int×Int)) (n:Nat):Ty:=rdF l es (l.length+1) (rtN l n)
def ASF {l:List Nd} {d:Nat->Nat} (hg:ER l) (h:FR l d):∀(n r k k':Nat),d r<=n->(∃x,l[r]?=some x/\x.p=r)->d r < k->d r < k'->rdF l es k r=rdF l es k' r:=by
 intro n
 induction n with
 |zero=>
  intro r k k' hn ⟨x,Z,hp⟩ hk hk';obtain ⟨k,rfl⟩:∃m,k=m+1:=⟨k - 1,by omega⟩;obtain ⟨k',rfl⟩:∃m,k'=m+1:=⟨k' - 1,by omega⟩;rw [rdF,rdF,Z];simp only;split
  . rfl
  . congr 1;refine FA fun a ha=>?_;have:=h.lt r x Z hp a ha;omega
 |succ n ih=>
  intro r k k' hn ⟨x,Z,hp⟩ hk hk';obtain ⟨k,rfl⟩:∃m,k=m+1:=⟨k - 1,by omega⟩;obtain ⟨k',rfl⟩:∃m,k'=m+1:=⟨k' - 1,by omega⟩;rw [rdF,rdF,Z];simp only;split
  . rfl
  . congr 1;refine FA fun a ha=>?_;have h1:=h.lt r x Z hp a ha;exact ih (rtN l a) k k' (by omega) (hg.root (hg.ar r x Z a ha)) (by omega) (by omega)
def dK {l:List Nd} {d:Nat->Nat} (hg:ER l) (h:FR l d) {n:Nat} (Z:l[rtN l n]?=some x) (hp:x.p=rtN l n):
 rdN l es n=if x.k=0 then (match es.lookup (rtN l n:Int) with
  |some i=>.mk 4 i []
  |none=>.mk 3 0 []) else .mk x.k x.n (x.ar.map (rdN l es)):=by
 rw [rdN,rdF,Z];simp only;split
 . rfl
 . congr 1;refine FA fun a ha=>?_;have h1:=h.lt _ x Z hp a ha;have h0:=h.le (rtN l n);exact ASF hg h (d (rtN l a)) (rtN l a) l.length (l.length+1) (AS _) (hg.root (hg.ar _ x Z a ha)) (by omega) (by omega)
def Ty.y0 {α:Type} (f:α->Ty):∀us:List α,Ty.AQ (us.map f)=(us.map fun a=>(f a).size).sum
 |[]=>rfl
 |a::us=>by rw [AF,Ty.AQ,Ty.y0 f us];rfl
def AS0 {f g:Nat->Nat}:∀ {us:List Nat},(∀a∈us,f a<=g a)->(us.map f).sum<=(us.map g).sum
 |[],_=>AS _
 |b::us,h=>by
  rw [AF,AF,Er,Er];have:=h b (AW);have:=AS0 (f:=f) (g:=g) (us:=us) (fun a ha=>h a (AU _ ha));omega
def s8 {l:List Nd} {d:Nat->Nat} (hg:ER l) (h:FR l d):∀(N n:Nat),n < l.length->d (rtN l n)<=N->szN l n<=200->(rdN l es n).size<=szN l n:=by
 intro N
 induction N with
 |zero=>
  intro n hn hd hs;obtain ⟨x,Z,hp⟩:=hg.root hn;have hb:=ABV l l.length (rtN l n);rw [dK hg h Z hp]
  have hk:x.ar=[]:=by
   cases hxa:x.ar with
   |nil=>rfl
   |cons a _=>have:=h.lt _ x Z hp a (by rw [hxa];exact AW);omega
  change 1<=szN l n/\_ at hb;split
  . split<;>(simp only [Ty.size,Ty.AQ];omega)
  . rw [hk];simp only [AN,Ty.size,Ty.AQ];omega
 |succ N ih=>
  intro n hn hd hs;obtain ⟨x,Z,hp⟩:=hg.root hn;have hb:=ABV l l.length (rtN l n);change 1<=szN l n/\_ at hb;rw [dK hg h Z hp];split
  . split<;>(simp only [Ty.size,Ty.AQ];omega)
  . have h1:=ABW hg h Z hp hs;have h2:=(uB hg h Z hp hs).2;have h3:=AS2 hg h Z hp hs;rw [h3,Ty.size,Ty.y0];have:=AS0 (f:=fun a=>(rdN l es a).size) (g:=szN l) (us:=x.ar) (fun a ha=>ih a (hg.ar _ x Z a ha) (by have:=h.lt _ x Z hp a ha;omega) (h2 a ha));omega
def szC (j1 j3 j4:Nat):AV:= .fn 160 [] [.gp j1 0,.gp j3 0,.gp j4 0]
def KN.zero (l:List Nd):KN l (AG l.length 0):=⟨by simp,fun r v h=>by
 rw [RH] at h;split at h
 . cases h;exact .inl rfl
 . cases h⟩
def oY (i:Nat) (rest:List AV) (l:List Nd) (fl:Bool) (j:Nat) (Y:AH) (hl0:l≠[]) (hln:l.length<=900000000) (h:SN Y i l fl rest j):
 AR Tzp 101 [.gp i 0] Y (fun v σ'=>∃j1 j3 j4 js,v=szC j1 j3 j4/\Mo Y σ'/\Y.blk js=none/\SX (exT i j js σ') σ' i l fl rest j js (Ct (AG l.length 0))/\
  exT i j js σ' j1=some [.gp i 0]/\exT i j js σ' j3=some [.ms js l.length 1 3]/\exT i j js σ' j4=some [szC j1 j3 j4]):=by
 have hbi:=h.blk;rw [Em hl0] at hbi;obtain ⟨hji,c0,hc0,hbj⟩:=h.nd hl0;refine We (by simp) ?_;rw [Bj];(repeat' (first|refine ctQ rfl ?_|((first|refine rgQ mxQ ?_|refine cdQ ?_)<;>try simp only [go_sem])|fail));intro j1 hj1;have m1:=(Mo.refl Y).new hj1 [AV.gp i 0];have f1:(Y.AL j1 [AV.gp i 0]).blk j1=some [AV.gp i 0]:=BT;generalize Y.AL j1 [AV.gp i 0]=τ1 at *;have hbi1:=m1.blk _ _ hbi;(repeat' (first|refine ctQ rfl ?_|((first|refine rgQ mxQ ?_|refine cdQ ?_)<;>try simp only [hbi1,f1,go_sem])|fail));refine O1.mk l.length (by omega) (by omega) (fun js hjs=>?_);rw [gI];have m2:=(Mo.refl τ1).new hjs (Ct (AG l.length 0));have f2:(τ1.AL js (Ct (AG l.length 0))).blk js=some (Ct (AG l.length 0)):=BT;generalize τ1.AL js (Ct (AG l.length 0))=τ2 at *;simp only [go_sem];intro j3 hj3;simp only [IY,go_sem];have m3:=(Mo.refl τ2).AEA hj3 [AV.Ad] [AV.ms js l.length 1 3] (1,51);have f3:(((τ2.AL j3 [AV.Ad]).Bl j3 (1,51)).AL j3 [AV.ms js l.length 1 3]).blk j3=some [AV.ms js l.length 1 3]:=BT;generalize ((τ2.AL j3 [AV.Ad]).Bl j3 (1,51)).AL j3 [AV.ms js l.length 1 3]=τ3 at *;(repeat' (first|refine ctQ rfl ?_|((first|refine rgQ mxQ ?_|refine cdQ ?_)<;>try simp only [go_sem])|fail));intro j4 hj4
 have m4:=(Mo.refl τ3).AEA hj4 [AV.HG] [szC j1 j3 j4] (1,224);have f4:(((τ3.AL j4 [AV.HG]).Bl j4 (1,224)).AL j4 [szC j1 j3 j4]).blk j4=some [szC j1 j3 j4]:=BT;have g1:=m3.blk _ _ (m2.blk _ _ f1);(repeat' (first|refine ctQ rfl ?_|((first|refine rgQ mxQ ?_|refine cdQ ?_|refine Run.qP Lg ?_)<;>try simp only [IY,go_sem])|fail));have he:(((τ3.AL j4 [AV.HG]).Bl j4 (1,224)).AL j4 [.fn 160 [] [.gp j1 0,.gp j3 0,.gp j4 0]])=(((τ3.AL j4 [AV.HG]).Bl j4 (1,224)).AL j4 [szC j1 j3 j4]):=rfl;rw [he];generalize ((τ3.AL j4 [AV.HG]).Bl j4 (1,224)).AL j4 [szC j1 j3 j4]=τ4 at *;have hmo:Mo Y τ4:=((m1.trans m2).trans m3).trans m4;have c1:=m4.blk _ _ g1;have c3:=m4.blk _ _ f3;have cs:=m4.blk _ _ (m3.blk _ _ f2);have hjsn:Y.blk js=none:=m1.ne hjs;have hs:=SX.mk' h hl0 hmo cs hjsn;have hne:∀k c,τ4.blk k=some c->Y.blk k=none->k≠i/\k≠j:=fun k c _ h2=>⟨fun e=>(by rw [e,h.blk] at h2;cases h2),fun e=>(by rw [e,hbj] at h2;cases h2)⟩;have j1n:Y.blk j1=none:=by assumption
 have j3n:Y.blk j3=none:=(m1.trans m2).ne hj3.1;have j4n:Y.blk j4=none:=((m1.trans m2).trans m3).ne hj4.1;have s1:j1≠js:=fun e=>by rw [e,hjs] at f1;cases f1
 have s3:j3≠js:=fun e=>by rw [<- e,hj3.1] at f2;cases f2
 have s4:j4≠js:=fun e=>by have:=m3.blk _ _ f2;rw [<- e,hj4.1] at this;cases this
 exact ⟨j1,j3,j4,js,rfl,hmo,hjsn,hs,JD (js:=js) c1 (hne _ _ c1 j1n).1 (hne _ _ c1 j1n).2 s1,JD (js:=js) c3 (hne _ _ c3 j3n).1 (hne _ _ c3 j3n).2 s3,JD (js:=js) f4 (hne _ _ f4 j4n).1 (hne _ _ f4 j4n).2 s4⟩
structure En where
 t:Nat
 f:Int
 ar:List Nat
structure Sch where
 vars:Int
 params:List Ty
 res:Ty
structure GC where
 fs:List FE
 dt:List Dat
 sch:List Sch
 mem:List Bool
 ps:List (List Nat)
 rs:List Nat
structure GS where
 s:SS
 en:List En
variable {g g':GS}
def GS.add (g:GS) (k n:Int) (ar:List Nat):GS:= { g with s:=(Ke g.s.1 k n ar,g.s.2)}
def GS.uni (g:GS) (a b:Nat):GS:= { g with s:=Go.Ab.uni g.s a b}
def GS.nx (g:GS):Nat:=g.s.1.length
def GS.frs (g:GS) (n:Nat):GS:= { g with s:=(Fw g.s.1 n,g.s.2)}
def GS.UN (g:GS) (at_:Nat) (f:En->En):GS:= { g with en:=g.en.modify at_ f}
abbrev Env:=List (Str×Nat)
def OX:Env->Str->Option Nat
 |[],_=>none
 |x::e,s=>if x.1=s then some x.2 else OX e s
def Ce:Env->List Str->List Nat->Env
 |e,s::ss,t::ts=>Ce (if s=[] then e else (s,t)::e) ss ts
 |e,_,_=>e
def AYT (ar:List Nat) (ps:List Ty) (r:Ty) (g:GS):Nat×GS:=
 let p:=B9 ar g.s.1 ps
 let q:=Eu ar p.2 r
 (q.2.length, { g with s:=(Ke q.2 9 0 (p.1++[q.1]),g.s.2)})
def ASI (G:GC) (f at_:Nat) (g:GS):Nat×GS:=
 if G.mem.getD f false then (g.nx,g.add 9 0 ((G.ps.getD f [])++[G.rs.getD f 0]))
                                               else match G.sch[f]? with
  |none=>(0,g)
  |some s=>AYT (A8 g.nx s.vars.toNat) s.params s.res ((g.frs s.vars.toNat).UN at_ fun e=> { e with ar:=A8 g.nx s.vars.toNat})
def dS (G:GC) (env:Env) (nm:Str) (at_:Nat) (g:GS):Nat×GS:=
 match OX env nm with
 |some t=>(t,g)
 |none=>ASI G ((DP (DY G.fs) nm).getD 0) at_ (g.UN at_ fun e=> { e with f:=(((DP (DY G.fs) nm).getD 0:Nat):Int)})
def vE (o:Int):Int:=if o=2 then 2 else if o=3 then 1 else 3
def Zv (n:Int) (b:Nat):List Nat×Nat:=
 if n=1 then ([b,b+1],b+2) else if n=2 then ([b+2,b],b+1) else if n=3 then ([b+2,b,b+1],b+4) else if n=4 then ([b+2],b)
                                                                                                                else if n=5 then ([b+1],b+3) else if n=6 then ([b+3],b+1) else if n=7 then ([b+3,b+1],b+4) else ([],b+4)
mutual
def Bb (G:GC):Ex->Env->GS->Nat×GS
 | .mk o nm nu ns ks al,env,g0=>
  let at_:=g0.en.length
  let g:GS:= { g0 with en:=g0.en++[⟨0,-1,[]⟩]}
  let r:Nat×GS:=
   if o=4 then dS G env nm at_ g
    else if o=1\/o=2\/o=3\/o=15 then (g.nx,g.add (vE o) 0 [])
    else if o=5 then (let q:=C9 G ks env g;(q.2.nx,q.2.add 6 0 q.1))
    else if o=6 then (match El G.dt nm with
    |none=>(0,g)
    |some (d,c)=>match G.dt[d]? with
     |none=>(0,g)
     |some D=>
      let ar:=A8 g.nx D.vars.toNat
      let g:=De G ks env 0 (fun i r s=>let q:=Eu ar s.1 (((D.cons[c]?).map Con.args).getD []|>.getD i (.mk 0 0 []));Go.Ab.uni (q.2,s.2) r q.1) (g.frs D.vars.toNat)
      (g.nx,g.add 5 d ar))
        else if o=10 then (match al with
    |[]=>(0,g)
    |a::_=>match El G.dt a.con with
     |none=>(0,g)
     |some (d,_)=>match G.dt[d]? with
      |none=>(0,g)
      |some D=>
       let ar:=A8 g.nx D.vars.toNat
       let g:=Ie G ks env (g.frs D.vars.toNat)
       let r:=g.1
       let g:=(g.2.add 5 d ar).uni r g.2.nx
       let t:=g.nx
       (t,Vt G al env D ar t (g.add 0 0 [])))
                               else if o=12 then
    (let q:=C9 G ks env g
     let t:=q.2.nx
     let g:=(q.2.add 0 0 []).add 9 0 (q.1.tail++[t])
     (t,g.uni (q.1.headD 0) (t+1)))
                              else if o=13 then
    (let g:=De G ks env 0 (fun _ r s=>Go.Ab.uni (Ke s.1 1 0 [],s.2) r s.1.length) g
     (g.nx,g.add (if 6<=nu/\nu<=8 then 2 else 1) 0 []))
                   else if o=14 then
    (let b:=g.nx
     let g:=((((g.add 1 0 []).add 0 0 []).add 7 0 [b+1]).add 8 0 [b+1]).add 3 0 []
     let g:=De G ks env 0 (fun i r s=>Go.Ab.uni s r ((Zv nu b).1.getD i 0)) g
     ((Zv nu b).2,g))
        else if o=16 then
    (let q:=Ie G ks env g
     let g:=(q.2.add 1 0 []).uni q.1 q.2.nx
     (g.nx,g.add 0 0 []))
       else if o=7 then (let q:=Ie G ks env g;Tw G ks (Ce env [nm] [q.1]) q.2)
       else if o=8 then
    (let parts:=A8 g.nx ns.length
     let q:=Ie G ks env (g.frs ns.length)
     Tw G ks (Ce env ns parts) ((q.2.add 6 0 parts).uni q.1 q.2.nx))
                                  else if o=9 then
    (let q:=Ie G ks env g
     let q1:=Tw G ks env ((q.2.add 2 0 []).uni q.1 q.2.nx)
     let q2:=yG G ks env q1.2
     (q1.1,q2.2.uni q2.1 q1.1))
       else if o=11 then
    (let params:=A8 g.nx ns.length
     let q:=Ie G ks (Ce env ns params) (g.frs ns.length)
     (q.2.nx,q.2.add 9 0 (params++[q.1])))
                           else
    (let q:=Ie G ks env g
     let r:=Tw G ks (Ce env [nm] [q.2.nx]) (q.2.add 1 0 [])
     (q.1,r.2.uni r.1 q.1))
  (r.1,r.2.UN at_ fun e=> { e with t:=r.1})
def C9 (G:GC):List Ex->Env->GS->List Nat×GS
 |[],_,g=>([],g)
 |k::ks,env,g=>let r:=Bb G k env g;let q:=C9 G ks env r.2;(r.1::q.1,q.2)
def Ie (G:GC):List Ex->Env->GS->Nat×GS
 |[],_,g=>(0,g)
 |k::_,env,g=>Bb G k env g
def Tw (G:GC):List Ex->Env->GS->Nat×GS
 |[],_,g=>(0,g)
 |_::ks,env,g=>Ie G ks env g
def yG (G:GC):List Ex->Env->GS->Nat×GS
 |[],_,g=>(0,g)
 |_::ks,env,g=>Tw G ks env g
def De (G:GC):List Ex->Env->Nat->(Nat->Nat->SS->SS)->GS->GS
 |[],_,_,_,g=>g
 |k::ks,env,i,f,g=>let r:=Bb G k env g;De G ks env (i+1) f { r.2 with s:=f i r.1 r.2.s}
def Vt (G:GC):List Al->Env->Dat->List Nat->Nat->GS->GS
 |[],_,_,_,_,g=>g
 | .mk c vs b::al,env,D,ar,t,g=>
  let cc:=((El G.dt c).map (·.2)).getD 0
  let q:=B9 ar g.s.1 (((D.cons[cc]?).map Con.args).getD [])
  let r:=Bb G b (Ce env vs q.1) { g with s:=(q.2,g.s.2)}
  Vt G al env D ar t (r.2.uni r.1 t)
end
def Ij:Env->DV
 |[]=>.EO
 |x::e=>.ptr [.str x.1,.int .i64 (x.2:Int),Ij e]
def xV (s:Str) (t:Nat) (e:Env):Ij ((s,t)::e)= .ptr [.str s,.int .i64 (t:Int),Ij e]:=rfl
structure PlV (x:AV) (v:DV):Prop where
 dv:x.dv=some v
 cell:x.B1=true
 BS:x.BS=true
 cells:x.cells=[x]
 CL:∀k,x.CL k=false
 plain:x.plain= .d v
def PlV.d (v:DV):PlV (.d v) v:=⟨rfl,rfl,rfl,rfl,fun _=>rfl,HU v⟩
def PlV.EO:PlV .EO .EO:=⟨rfl,rfl,rfl,rfl,fun _=>rfl,VT⟩
def zF:∀(ns:List Str) (ts:List Nat) (e:Env) (s:Str) (t:Nat),ns.length=ts.length->Ce e (ns++[s]) (ts++[t])=if s=[] then Ce e ns ts else (s,t)::Ce e ns ts
 |[],[],e,s,t,_=>rfl
 |[],_::_,_,_,_,h=>by simp at h
 |_::_,[],_,_,_,h=>by simp at h
 |n::ns,u::ts,e,s,t,h=>by
  simp only [AX,Ce];exact zF ns ts _ s t (by simpa using h)
def JN (x:AV) (env:Env) (Z:PlV x (Ij env)) (ns:List Str) (ts:List Nat) (hl:ns.length=ts.length) (Y:AH):
 AR Tzp 156 [x,.d (.sl (ns.map BX)),.d (.sl (ts.map CN))] Y (fun v σ'=>v= .d (Ij (Ce env ns ts))/\σ'=Y):=by
 refine Zp (by simp) ?_;rw [DK];refine Run.slot 1 (fun hb0=>?_);simp only [DR,reduceIte,HN,AV.Ev,AA] at hb0;(repeat' (refine wQ ?_<;>try simp only [AA,go_sem]));refine Run.BB ?_;refine Run.BE ((fun (a2:AV) (a9:AV) (a10:AV)=>fun (z:Nat×AV)=>put 0 (z.2) (put 2 a2 (put 9 a9 (put 10 a10 (put 11 (.d (.int .i64 z.1)) U))))) _ _ _) (fun _=>E) (fun _=>Y) (fun z=>z.1<=ns.length/\PlV z.2 (Ij (Ce env (ns.take z.1) (ts.take z.1)))) (fun z=>ns.length - z.1) ?_ (0,x) ⟨by simp,by simpa [Ce] using Z⟩;rintro ⟨p,y⟩ ⟨hp,hy⟩ ih;simp only at hp hy;by_cases hlt:p < ns.length
 . obtain ⟨s,hs⟩:=Ai hlt;obtain ⟨t,ht⟩:=Ai (show p < ts.length by omega);have hsr:(ns.map BX)[p]?=some [.str s]:=by rw [Am,hs];rfl
   have htr:=HT ht;have hw1:=wsu p;have hstep:=zF (ns.take p) (ts.take p) env s t (by simp;omega);rw [<- A5 hs,<- A5 ht] at hstep;by_cases h0:s=[]
   . subst h0;rw [if_pos rfl] at hstep;(repeat' (first|((first|refine wQ ?_|(refine Ae rfl (fun h=>?_) (fun h=>?_)<;>try (cases h;done))|fail)<;>try simp only [Ap hlt,hsr,hw1,go_sem])|(refine ⟨fun h=>?_,fun h=>?_⟩<;>first|(cases h;done)|try simp only [h])|fail));exact ih (p+1,y) ⟨hlt,by simp only;rw [hstep];exact hy⟩ (by simp only;omega)
   . rw [if_neg h0] at hstep;have hb:(s==[])=false:=by simpa using h0
     (repeat' (first|refine ctQ rfl ?_|((first|refine rgQ mxQ ?_|refine cdQ ?_)<;>try simp only [Ap hlt,hsr,htr,hw1,hb,hy.dv,hy.cell,hy.cells,go_sem])|fail));exact ih (p+1,_) ⟨hlt,by simp only;rw [hstep];exact PlV.d _⟩ (by simp only;omega)
 . have hpe:p=ns.length:=by omega
   rw [hpe,BQ,hl,BQ] at hy;(repeat' (refine wP ?_<;>try simp only [B7 hlt,hy.BS,hy.plain,go_sem]))
def ARF:Option Nat->AV
 |some t=>.tup [.d (.int .i64 (t:Int)),.d (.bool true)]
 |none=>.tup [.d (.int .i64 0),.d (.bool false)]
def wI (env:Env) (s:Str) (Y:AH):
 AR Tzp 259 [.d (Ij env),.d (.str s)] Y (fun v σ'=>v=ARF (OX env s)/\σ'=Y):=by
 refine Zo (by simp) ?_;rw [BD];(repeat' (refine wQ ?_<;>try simp only [go_sem]));refine Run.BB ?_;refine Run.BE ((fun (a1:AV)=>fun (e:Env)=>put 0 (.d (Ij e)) (put 1 a1 U)) _) (fun _=>E) (fun _=>Y) (fun e=>OX e s=OX env s) (fun e=>e.length) ?_ env rfl;rintro e he ih;cases e with
 |nil=>
  rw [<- he];(repeat' (refine wP ?_<;>try simp only [Ij,go_sem]));rfl
 |cons x e=>
  obtain ⟨n,t⟩:=x;rw [OX] at he;simp only at he;by_cases h:n=s
  . have hb:(n==s)=true:=by simpa using h
    rw [if_pos h] at he;rw [<- he];(repeat' (first|refine ctQ rfl ?_|((first|refine rgQ mxQ ?_|refine cdQ ?_|refine Run.qP OP ?_)<;>try simp only [xV,hb,go_sem])|fail));rfl
  . have hb:(n==s)=false:=by simpa using h
    rw [if_neg h] at he;(repeat' (first|refine ctQ rfl ?_|((first|refine rgQ mxQ ?_|refine cdQ ?_)<;>try simp only [xV,hb,go_sem])|fail));exact ih e he (by simp)
section rows
variable {α:Type} (r:α->List AV) (s:Nat) (hr:∀x,(r x).length=s)
def rwC (l:List α):List AV:=(l.map r).flatten
include hr
def Oz (l:List α):(rwC r l).length=l.length * s:=by
 induction l with
 |nil=>simp [rwC]
 |cons x l ih=>
  simp only [rwC,AF,BW,AY,A0] at ih ⊢;rw [ih,hr,Bs,Nat.one_mul];omega
omit hr in
def AV5 (l m:List α):rwC r (l++m)=rwC r l++rwC r m:=by simp [rwC]
omit hr in
def Gy (x:α) (l:List α):rwC r (x::l)=r x++rwC r l:=by simp [rwC]
def ASN:∀ {l:List α} {i:Nat} {x:α} (o:Nat),l[i]?=some x->o < s->(rwC r l)[i * s+o]?=(r x)[o]?
 |y::l,0,x,o,h,ho=>by
  simp only [Aw,AM] at h;subst h;rw [Gy,Nb,BF,BC (by rw [hr];exact ho)]
 |y::l,i+1,x,o,h,ho=>by
  have:=ASN (l:=l) (i:=i) (x:=x) o (by simpa using h) ho;rw [Gy,As (by rw [hr,Bs];omega),hr,<- this];congr 1;rw [Bs];omega
def ABJ:∀ {l:List α} {i:Nat} {x:α},l[i]?=some x->((rwC r l).drop (i * s)).take s=r x
 |y::l,0,x,h=>by
  simp only [Aw,AM] at h;subst h;rw [Gy,Nb,TG,List.take_left' (hr _)]
 |y::l,i+1,x,h=>by
  have:=ABJ (l:=l) (i:=i) (x:=x) (by simpa using h);rw [Gy,show (i+1) * s=(r y).length+i * s from by rw [hr,Bs];omega,HD];exact this
def ABK (o:Nat) (v:AV) (f:α->α):∀ {l:List α} {i:Nat} {x:α},l[i]?=some x->o < s->(r x).take o++[v]++(r x).drop (o+1)=r (f x)->(rwC r l).take (i * s+o)++[v]++(rwC r l).drop (i * s+o+1)=rwC r (l.modify i f)
 |y::l,0,x,h,ho,e=>by
  simp only [Aw,AM] at h;subst h;rw [show (y::l).modify 0 f=f y::l from rfl,Gy,Gy,<- e,Nb,BF,XH (by rw [hr];omega),List.drop_append_of_le_length (by rw [hr];omega)];simp
 |y::l,i+1,x,h,ho,e=>by
  have:=ABK (l:=l) (i:=i) (x:=x) o v f (by simpa using h) ho e
  rw [show (y::l).modify (i+1) f=y::l.modify i f from rfl,Gy,Gy,<- this,show (i+1) * s+o=(r y).length+(i * s+o) from by rw [hr,Bs];omega,bI,
   show (r y).length+(i * s+o)+1=(r y).length+(i * s+o+1) from by omega,HD]
  simp
end rows
def En.row (x:En):List AV:=[.d (.int .i64 (x.t:Int)),.d (.int .i64 x.f),.d (.sl (x.ar.map CN))]
def En.F6 (x:En):x.row.length=3:=rfl
abbrev enC:=rwC En.row
abbrev tkE:Nat:=295
def enV (en:List En) (jc:Nat):AV:=match en with
 |[]=>.Ad
 |_::_=>.ms jc en.length 3 tkE
def Xd {en:List En} (h:en≠[]) (j:Nat):enV en j= .ms j en.length 3 tkE:=by
 cases en with
 |nil=>exact absurd rfl h
 |cons x l=>rfl
def T4 (l:List En) (j:Nat):(enV l j).B1=true/\(enV l j).BS=true/\(enV l j).cells=[enV l j]/\(∀k,(enV l j).CL k=false)/\Tx (enV l j)=some (.d (.int .i64 l.length)):=by
 cases l<;>exact ⟨rfl,rfl,rfl,fun _=>rfl,rfl⟩
def Sch.row (x:Sch):List AV:=[.d (.int .i64 x.vars),.d (.sl (x.params.map Ty.enc)),.d (.int .i64 x.res.kind),.d (.int .i64 x.res.num),.d (.sl (x.res.args.map Ty.enc))]
def Sch.F6 (x:Sch):x.row.length=5:=rfl
abbrev V9:=rwC Sch.row
def psC (l:List (List Nat)):List AV:=l.map fun a=>.d (.sl (a.map CN))
abbrev eMm:Nat:=4
abbrev ePp:Nat:=51
abbrev eEe:Nat:=293
abbrev eSs:Nat:=44
structure GB where
 i:Nat
 je:Nat
 jm:Nat
 jp:Nat
 jr:Nat
 js:Nat
 ext:Nat->Option (List AV)
 G:GC
 ds:List DE
 cur:Nat
 es:List AV
variable {B:GB}
def GB.rest (B:GB):List AV:=[.d (.sl (B.ds.map DE.enc)),.d (.sl (B.G.fs.map FE.enc)),dsA B.G.dt,.ms B.js B.G.sch.length 5 eSs,.ms B.jm B.G.mem.length 1 eMm,.ms B.jp B.G.ps.length 1 ePp,.ms B.jr B.G.rs.length 1 3,.ms B.je B.es.length 1 eEe,.d (.int .i64 (B.cur:Int))]
structure HM (B:GB):Prop where
 ie:B.i≠B.je
 xi:B.ext B.i=none
 xe:B.ext B.je=none
 m:B.ext B.jm=some (BP B.G.mem)
 p:B.ext B.jp=some (psC B.G.ps)
 r:B.ext B.jr=some (Ct B.G.rs)
 s:B.ext B.js=some (V9 B.G.sch)
 cur:B.cur < B.es.length
 lm:B.G.mem.length=B.G.fs.length
 lp:B.G.ps.length=B.G.fs.length
 lr:B.G.rs.length=B.G.fs.length
 ls:B.G.sch.length=B.G.fs.length
 lf:B.G.fs.length<=100
structure GI (G:GC) (g:GS):Prop where
 pos:0 < g.nx
 en:∀x∈g.en,x.t < g.nx/\-1<=x.f/\x.f < (G.fs.length:Int)/\∀a∈x.ar,a < g.nx
 ps:∀l∈G.ps,∀a∈l,a < g.nx
 rs:∀a∈G.rs,a < g.nx
structure GX (B:GB) (Y:AH) (g:GS) (j jc:Nat):Prop where
 sn:SN Y B.i g.s.1 g.s.2 B.rest j
 e:Y.blk B.je=some (B.es.set B.cur (enV g.en jc))
 c:g.en≠[]->Y.blk jc=some (enC g.en)/\jc≠B.i/\jc≠B.je/\B.ext jc=none/\jc≠j
 x:∀k cs,B.ext k=some cs->Y.blk k=some cs
 jj:B.ext j=none/\j≠B.je
 gi:GI B.G g
def GX.ne {Y:AH} {j:Nat} (h:GX B Y g j jc):g.s.1≠[]:=fun e=>by have:=h.gi.pos;rw [GS.nx,e] at this;cases this
def GI.step {G:GC} (h:GI G g) {s:SS} (hl:g.nx<=s.1.length):GI G { g with s:=s}:=
 ⟨Be h.pos hl,fun x Z=>by obtain ⟨a,b,c,d⟩:=h.en x Z;exact ⟨Be a hl,b,c,fun y hy=>Be (d y hy) hl⟩,fun l hm a ha=>Be (h.ps l hm a ha) hl,fun a ha=>Be (h.rs a ha) hl⟩
def GX.step {B:GB} (hB:HM B) {Y σ':AH} {g:GS} {j jc j':Nat} {s:SS} (h:GX B Y g j jc) (sn:SN σ' B.i s.1 s.2 B.rest j') (fr:Fr Y B.i g.s.1 j σ' s.1 j') (hl:g.nx<=s.1.length):GX B σ' { g with s:=s} j' jc:=by
 have hne:=h.ne;have hji:=(h.sn.nd hne).1;have hs0:s.1≠[]:=fun e=>by have:=h.gi.pos;rw [e] at hl;simp at hl;omega
 have hkeep:∀k cs,k≠B.i->k≠j->Y.blk k=some cs->σ'.blk k=some cs/\k≠j':=fun k cs h1 h2 h3=>by
  refine ⟨by rw [fr.blk k h1 (fun _=>h2) (by rw [h3];simp),h3],fun e=>?_⟩;rcases fr.nw hs0 with ⟨_,e'⟩|e'
  . exact h2 (e.trans e')
  . rw [<- e,h3] at e';cases e'
 have hxx:∀k cs,B.ext k=some cs->σ'.blk k=some cs/\k≠j':=fun k cs hk=>
  hkeep k cs (fun e=>by rw [e,hB.xi] at hk;cases hk) (fun e=>by rw [e,h.jj.1] at hk;cases hk) (h.x k cs hk)
 have hee:=hkeep B.je _ (A6 hB.ie) (A6 h.jj.2) h.e;refine ⟨sn,hee.1,fun hen=>?_,fun k cs hk=>(hxx k cs hk).1,⟨?_,A6 hee.2⟩,h.gi.step hl⟩
 . obtain ⟨c1,c2,c3,c4,c5⟩:=h.c hen;obtain ⟨d1,d2⟩:=hkeep jc _ c2 c5 c1;exact ⟨d1,c2,c3,c4,d2⟩
 . cases Z:B.ext j' with
   |none=>rfl
   |some cs=>exact absurd rfl (hxx j' cs Z).2
def AZH {α:Type} {l:List α} {n:Nat} (h:n < l.length) (a b:α):(l.set n a).take n++[b]++(l.set n a).drop (n+1)=l.set n b:=by
 induction l generalizing n with
 |nil=>cases h
 |cons x l ih=>
  cases n with
  |zero=>simp
  |succ n=>
   have:=ih (n:=n) (by simpa using h);simp only [CR,C7,Ez,AX];rw [this]
def PO.en {K:CW} {F:Fm} {L:Lm} {Y:AH} {d:Option Nat} {B:GB} (hB:HM B) {g:GS} {j jc bytes:Nat} {x:AV} {t:Nat} {f:Int} {ar:List Nat} (h:GX B Y g j jc)
 (Z:x.rows=some [[.int .i64 (t:Int),.int .i64 f,.sl (ar.map CN)]]) (hl:g.en.length<=900000000) (hb:bytes<=10000) (hn:t < g.nx/\-1<=f/\f < (B.G.fs.length:Int)/\∀a∈ar,a < g.nx)
 (hK:∀jc' τ,τ.blk B.i=Y.blk B.i->τ.blk B.je=Y.blk B.je->GX B (τ.AL B.je (B.es.set B.cur (.ms jc' (g.en.length+1) 3 tkE))) { g with en:=g.en++[⟨t,f,ar⟩]} j jc'->(nbH Y).le τ->
   K (BL d (.ms jc' (g.en.length+1) 3 tkE) F) L τ):PO tkE 3 bytes (enV g.en jc) x d K F L Y:=by
 have hji:=(h.sn.nd h.ne).1;obtain ⟨c0,hc0,hbj⟩:=(h.sn.nd h.ne).2
 have hgi:GI B.G { g with en:=g.en++[⟨t,f,ar⟩]}:=⟨h.gi.pos,fun y hy=>by
  rcases AZ.1 hy with hy|hy
  . exact h.gi.en y hy
  . simp only [A3] at hy;subst hy;exact hn,h.gi.ps,h.gi.rs⟩
 have hV:∀j',enV (g.en++[⟨t,f,ar⟩]) j'= .ms j' (g.en.length+1) 3 tkE:=fun j'=>by rw [Xd (by simp)];simp
 -- the old block j0 goes, jc' comes
 have key:∀(jc':Nat) (τ:AH),Y.blk jc'=none->(∀k,k≠jc'->(g.en≠[]->k≠jc)->τ.blk k=Y.blk k)->τ.blk jc'=some (enC (g.en++[⟨t,f,ar⟩]))->(nbH Y).le τ->K (BL d (.ms jc' (g.en.length+1) 3 tkE) F) L τ:=fun jc' τ hj hk hc hle=>by
  have hi:B.i≠jc':=fun e=>by rw [<- e,h.sn.blk] at hj;cases hj
  have hje:B.je≠jc':=fun e=>by rw [<- e,h.e] at hj;cases hj
  have hjj:j≠jc':=fun e=>by rw [<- e,hbj] at hj;cases hj
  have hxn:B.ext jc'=none:=by
   cases Z:B.ext jc' with
   |none=>rfl
   |some cs=>rw [h.x _ _ Z] at hj;cases hj
  have e1:τ.blk B.i=Y.blk B.i:=hk _ hi (fun hen=>A6 (h.c hen).2.1);have e2:τ.blk B.je=Y.blk B.je:=hk _ hje (fun hen=>A6 (h.c hen).2.2.1);have e3:τ.blk j=Y.blk j:=hk _ hjj (fun hen=>A6 (h.c hen).2.2.2.2);refine hK jc' τ e1 e2 ⟨⟨?_,h.sn.Gs,fun _=>⟨hji,c0,hc0,?_⟩⟩,?_,fun _=>⟨?_,A6 hi,A6 hje,hxn,A6 hjj⟩,fun k cs Z=>?_,h.jj,hgi⟩ hle
  . rw [AJ,if_neg hB.ie,e1,h.sn.blk]
  . rw [AJ,if_neg h.jj.2,e3,hbj]
  . rw [AJ,if_pos rfl,hV]
  . rw [AJ,if_neg (A6 hje),hc]
  . have h1:k≠B.je:=fun e=>by rw [e,hB.xe] at Z;cases Z
    have h2:k≠jc':=fun e=>by rw [e,hxn] at Z;cases Z
    rw [AJ,if_neg h1,hk k h2 (fun hen e=>by rw [e,(h.c hen).2.2.2.1] at Z;cases Z),h.x k cs Z]
 have hnr:E9 [[.int .i64 (t:Int),.int .i64 f,.sl (ar.map CN)]]=enC [⟨t,f,ar⟩]:=by simp [E9,rwC,En.row]
 by_cases he:g.en=[]
 . rw [he];refine PO.mk (n:=0) (cs:=[]) (σ1:=Y) rfl Z (by simp) (by simp) (by simp) hb (fun j' hj=>?_)
   have:=key j' (Y.AL j' ([]++E9 [[.int .i64 (t:Int),.int .i64 f,.sl (ar.map CN)]])) hj (fun k h1 _=>by rw [AJ,if_neg h1]) (by rw [AJ,if_pos rfl,he,hnr];rfl)
    ⟨fun _ _ h=>(by cases h),fun _ h=>h,rfl,fun _ _ h=>h⟩
   rw [he] at this;exact this
 . obtain ⟨c1,c2,c3,c4,c5⟩:=h.c he;rw [Xd he];refine PO.mk (n:=g.en.length) (cs:=enC g.en) (σ1:=Y.Cs jc) (by simp [OI,c1,Oz En.row 3 En.F6]) Z (by simp) (by simp) (by simp;omega) hb (fun j' hj=>?_);refine key j' ((Y.Cs jc).AL j' (enC g.en++E9 [[.int .i64 (t:Int),.int .i64 f,.sl (ar.map CN)]])) hj (fun k h1 h2=>by rw [AJ,if_neg h1,Di,if_neg (h2 he)]) (by rw [AJ,if_pos rfl,hnr,<- AV5]) ⟨fun _ _ h=>(by cases h),fun _ h=>h,rfl,fun _ _ h=>h⟩
def GX.mod (hB:HM B) {Y:AH} {j at_:Nat} (h:GX B Y g j jc) (f:En->En) {x:En} (Z:g.en[at_]?=some x) (hf:(f x).t < g.nx/\-1<=(f x).f/\(f x).f < (B.G.fs.length:Int)/\∀a∈(f x).ar,a < g.nx):
 GX B (Y.AL jc (enC (g.en.modify at_ f))) (g.UN at_ f) j jc:=by
 show GX B _ { g with en:=g.en.modify at_ f} j jc;have hen:g.en≠[]:=fun e=>by rw [e] at Z;simp at Z
 obtain ⟨c1,c2,c3,c4,c5⟩:=h.c hen;have hji:=(h.sn.nd h.ne).1;obtain ⟨c0,hc0,hbj⟩:=(h.sn.nd h.ne).2;have hlen:(g.en.modify at_ f).length=g.en.length:=by simp
 have hen':g.en.modify at_ f≠[]:=fun e=>hen (An (by rw [<- hlen,e];rfl))
 refine ⟨⟨?_,h.sn.Gs,fun _=>⟨hji,c0,hc0,?_⟩⟩,?_,fun _=>⟨?_,c2,c3,c4,c5⟩,fun k cs hk=>?_,h.jj,⟨h.gi.pos,fun y hy=>?_,h.gi.ps,h.gi.rs⟩⟩
 . rw [AJ,if_neg (A6 c2),h.sn.blk]
 . rw [AJ,if_neg (A6 c5),hbj]
 . rw [AJ,if_neg (A6 c3),h.e,Xd hen,Xd hen',hlen]
 . rw [AJ,if_pos rfl]
 . rw [AJ,if_neg (fun e=>by rw [e,c4] at hk;cases hk),h.x k cs hk]
 . obtain ⟨m,hm,rfl⟩:=Bv hy;rw [List.getElem_modify];split
   . rename_i e;subst e
     have hxm:x=g.en[at_]:=by
      have:=(AE.1 Z).2;exact this.symm
     rw [<- hxm];exact hf
   . exact h.gi.en _ (E5 _)
structure ES (sc:List Str) (env:Env) (g:GS):Prop where
 sc:∀s,s≠[]->((OX env s).isSome=sc.contains s)
 lt:∀x∈env,x.2 < g.nx
def ES.le {sc:List Str} {env:Env} (h:ES sc env g) (hl:g.nx<=g'.nx):ES sc env g':=⟨h.sc,fun x Z=>Be (h.lt x Z) hl⟩
def OkE (G:GC) (e:Ex) (sc:List Str):Prop:=∀x∈Ca e sc,QF G.fs G.dt x.1 x.2=0/\nb1 x.1
structure GD (G:GC):Prop where
 dt:∀d∈G.dt,0<=d.vars/\d.vars<=1000/\d.cons.length<=1000000/\∀c∈d.cons,LM d.vars.toNat c.args=true/\Ty.AQ c.args<=100000
 sch:∀s∈G.sch,0<=s.vars/\s.vars<=100000/\LM s.vars.toNat s.params=true/\Ve s.vars.toNat s.res=true/\Ty.AQ s.params<=100000/\s.res.size<=100000
 nn:∀l∈G.ps,l.length<=1000
structure RQ (B:GB) (Y:AH) (g:GS) (n c m:Nat) (g':GS) (σ':AH):Prop where
 nb:(nbH Y).le σ'
 gx:∃j jc,GX B σ' g' j jc
 lt:n < g'.nx
 le:g.nx<=g'.nx
 hi:g'.nx+500000<=g.nx+c
 en:g'.en.length=g.en.length+m
def ExC (B:GB) (e:Ex):Prop:=∀(sc:List Str) (env:Env) (g:GS) (Y:AH) (j jc:Nat),OkE B.G e sc->ES sc env g->g.nx+1000000 * e.size<=900000000->g.en.length+e.size<=900000000->GX B Y g j jc->
 AR Tzp 155 [.gp B.i 0,exA e,.d (Ij env)] Y (fun v σ'=>v=nA (Bb B.G e env g).1/\RQ B Y g (Bb B.G e env g).1 (1000000 * e.size) e.size (Bb B.G e env g).2 σ')
def hZ (hb:CT Tzp fid=true) (hcp:caps.all AV.BS=true) (p:Nat->Bool) (J:AH->Prop) (l:List Nat) (hf:∀x∈l,∀τ,J τ->AR Tzp fid (nA x::caps) τ (fun v σ'=>v= .d (.bool (p x))/\J σ')) (Y:AH) (hJ:J Y):
 AR Tzp 228 [.d (.sl (l.map CN)),.fn fid [] caps] Y (fun v σ'=>v= .d (.int .i64 (HQ (l.findIdx? p)))/\J σ'):=by
 refine Uy (by simp) ?_;rw [BD];refine Run.slot 0 (fun hb0=>?_);simp only [DR,if_true,AV.Ev,AA] at hb0;(repeat' (refine wQ ?_<;>try simp only [AA,go_sem]));refine Run.BB ?_;refine Run.BE ((fun (a0:AV) (a1:AV) (a7:AV)=>fun (z:Nat×AH)=>put 0 a0 (put 1 a1 (put 7 a7 (put 8 (.d (.int .i64 z.1)) U)))) _ _ _) (fun _=>E) (fun z=>z.2) (fun z=>z.1<=l.length/\(∀x∈l.take z.1,p x=false)/\J z.2) (fun z=>l.length - z.1) ?_ (0,Y) ⟨by simp,by simp,hJ⟩;rintro ⟨i,τ⟩ ⟨hi,hno,hj⟩ ih;simp only at hi hno hj;by_cases hlt:i < l.length
 . obtain ⟨x,Z⟩:=Ai hlt;have he:=HT Z;have hw1:=wsu i;have hc:=hf x (AD Z) τ hj;simp only [nA] at hc;cases hp:p x with
   |true=>
    rw [hp] at hc;(repeat' (refine wP ?_<;>try simp only [Ap hlt,he,go_sem]));refine ⟨fid,[],caps,rfl,hb,AI.mk (by simp [hcp,MR]) hc ?_⟩;rintro _ τ2 ⟨rfl,hj2⟩;simp only [go_sem];(repeat' (refine wP ?_<;>try simp only [go_sem]));exact ⟨by rw [Dj hno Z hp];rfl,hj2⟩
   |false=>
    rw [hp] at hc;(repeat' (refine wQ ?_<;>try simp only [Ap hlt,he,go_sem]));refine ⟨fid,[],caps,rfl,hb,AI.mk (by simp [hcp,MR]) hc ?_⟩;rintro _ τ2 ⟨rfl,hj2⟩;simp only [go_sem];(repeat' (refine wQ ?_<;>try simp only [hw1,go_sem]));exact ih ⟨i+1,τ2⟩ ⟨hlt,F7 hno Z hp,hj2⟩ (by simp only;omega)
 . have hie:i=l.length:=by omega
   subst hie;rw [BQ] at hno;(repeat' (refine wP ?_<;>try simp only [B7 hlt,go_sem]));exact ⟨by rw [Dk hno];rfl,hj⟩
def OG (hb:CT Tzp fid=true) (hcp:caps.all AV.BS=true) (p:Nat->Bool) (J:AH->Prop) (l:List Nat) (hf:∀x∈l,∀τ,J τ->AR Tzp fid (nA x::caps) τ (fun v σ'=>v= .d (.bool (p x))/\J σ')) (Y:AH) (hJ:J Y):
 AR Tzp 162 [.d (.sl (l.map CN)),.fn fid [] caps] Y (fun v σ'=>v= .d (.bool (l.any p))/\J σ'):=by
 refine Q9 (by simp) ?_;rw [BD];(repeat' (refine wQ ?_<;>try simp only [go_sem]));refine AI.mk rfl (hZ hb hcp p J l hf Y hJ) ?_;rintro _ τ ⟨rfl,hj⟩;simp only [go_sem];(repeat' (refine wP ?_<;>try simp only [go_sem]));exact ⟨by rw [Ol,HH],hj⟩
def JZ (ext:Nat->Option (List AV)) (σ0:AH) (i:Nat) (rest:List AV) (l:List Nd) (fl:Bool) (js:Nat) (τ:AH):Prop:=(nbH σ0).le τ/\∃kn j',KN l kn/\SX ext τ i l fl rest j' js (Ct kn)
structure JE (ext:Nat->Option (List AV)) (i:Nat) (l:List Nd) (d:Nat->Nat) (js j1 j3 j4:Nat):Prop where
 ln:l.length<=900000000
 fr:FR l d
 x1:ext j1=some [.gp i 0]
 x3:ext j3=some [.ms js l.length 1 3]
 x4:ext j4=some [szC j1 j3 j4]
variable {ext:Nat->Option (List AV)} {σ0:AH} {i:Nat} {rest:List AV} {l:List Nd} {d:Nat->Nat} {fl:Bool} {js j1 j3 j4:Nat}
def AOJ (he:JE ext i l d js j1 j3 j4) (n:Nat) (hn:n < l.length) (τ:AH) (hj:JZ ext σ0 i rest l fl js τ):
 AR Tzp 160 [nA n,.gp j1 0,.gp j3 0,.gp j4 0] τ (fun v σ'=>v=nA (szN l n)/\JZ ext σ0 i rest l fl js σ'):=by
 obtain ⟨hnb,kn,j',hk,hs⟩:=hj;refine (AI3 ext i rest l d he.fr fl j1 j3 j4 js he.ln he.x1 he.x3 he.x4 (d (rtN l n)+1) kn j' τ n (by omega) hk hn hs).mono ?_;rintro v σ' ⟨h1,h2,kn',j2,h3,h4⟩;exact ⟨h1,D3 hnb h2,kn',j2,h3,h4⟩
def oE (l:List Nd) (n:Nat):Bool:=decide (200 < (szN l n:Int))
def Od (he:JE ext i l d js j1 j3 j4) (x5:ext j5=some [szC j1 j3 j4]) (n:Nat) (hn:n < l.length) (τ:AH) (hj:JZ ext σ0 i rest l fl js τ):
 AR Tzp 161 [nA n,.gp j5 0] τ (fun v σ'=>v= .d (.bool (oE l n))/\JZ ext σ0 i rest l fl js σ'):=by
 have hc:=AOJ he n hn τ hj;have h5:τ.blk j5=some [szC j1 j3 j4]:=by obtain ⟨_,_,_,_,hs⟩:=hj;exact hs.x _ _ x5
 refine S4 (by simp) ?_;rw [BD];simp only [nA] at hc ⊢;(repeat' (refine wQ ?_<;>try simp only [h5,go_sem]));refine ⟨160,[],[.gp j1 0,.gp j3 0,.gp j4 0],rfl,by kernel_rfl,AI.mk rfl hc ?_⟩;rintro _ τ2 ⟨rfl,hj2⟩;simp only [go_sem];(repeat' (refine wP ?_<;>try simp only [go_sem]));exact ⟨rfl,hj2⟩
def AQ7 (l:List Nd) (e:En):Bool:=oE l e.t||e.ar.any (oE l)
def enA (e:En):AV:= .agg e.row
def AAD (he:JE ext i l d js j1 j3 j4) {j7:Nat} (x5:ext j5=some [szC j1 j3 j4]) (x7:ext j7=some [.fn 161 [] [.gp j5 0]]) (e:En) (ht:e.t < l.length) (ha:∀a∈e.ar,a < l.length) (τ:AH) (hj:JZ ext σ0 i rest l fl js τ):
 AR Tzp 164 [enA e,.gp j7 0] τ (fun v σ'=>v= .d (.bool (AQ7 l e))/\JZ ext σ0 i rest l fl js σ'):=by
 have h7:∀τ,JZ ext σ0 i rest l fl js τ->τ.blk j7=some [.fn 161 [] [.gp j5 0]]:=fun τ hj=>by obtain ⟨_,_,_,_,hs⟩:=hj;exact hs.x _ _ x7
 have h70:=h7 τ hj;have hc:=Od he x5 e.t ht τ hj;refine S5 (by simp) ?_;rw [BD];obtain ⟨t,f,ar⟩:=e;simp only [enA,En.row,nA] at ht ha hc ⊢;simp only [AQ7];cases hl:oE l t with
 |true=>
  rw [hl] at hc;(repeat' (refine wQ ?_<;>try simp only [h70,go_sem]));refine ⟨161,[],[.gp j5 0],rfl,by kernel_rfl,AI.mk rfl hc ?_⟩;rintro _ τ2 ⟨rfl,hj2⟩;simp only [go_sem];(repeat' (refine wP ?_<;>try simp only [go_sem]));exact hj2
 |false=>
  rw [hl] at hc;(repeat' (refine wQ ?_<;>try simp only [h70,go_sem]));refine ⟨161,[],[.gp j5 0],rfl,by kernel_rfl,AI.mk rfl hc ?_⟩;rintro _ τ2 ⟨rfl,hj2⟩;have h72:=h7 τ2 hj2;simp only [h72,go_sem];refine AI.mk rfl (OG (fid:=161) (caps:=[.gp j5 0]) (by kernel_rfl) rfl (oE l) (JZ ext σ0 i rest l fl js) ar (fun x Z τ hj=>Od he x5 x (ha x Z) τ hj) τ2 hj2) ?_;rintro _ τ3 ⟨rfl,hj3⟩;simp only [go_sem];(repeat' (refine wP ?_<;>try simp only [go_sem]));exact hj3
def mQ (hb:CT Tzp fid=true) (hcp:caps.all AV.BS=true) (p:En->Bool) (J:AH->Prop) (en:List En) (jc:Nat) (hjc:en≠[]->∀τ,J τ->τ.blk jc=some (enC en)) (hl:en.length<=900000000) (hf:∀x∈en,∀τ,J τ->AR Tzp fid (enA x::caps) τ (fun v σ'=>v= .d (.bool (p x))/\J σ')) (Y:AH) (hJ:J Y):
 AR Tzp 229 [enV en jc,.fn fid [] caps] Y (fun v σ'=>v= .d (.int .i64 (HQ (en.findIdx? p)))/\J σ'):=by
 refine L9 (by simp) ?_;rw [BD];obtain ⟨w1,w2,w3,w4,w5⟩:=T4 en jc;(repeat' (refine wQ ?_<;>try simp only [w5,go_sem]));refine Run.BB ?_;refine Run.BE ((fun (a0:AV) (a1:AV) (a7:AV)=>fun (z:Nat×AH)=>put 0 a0 (put 1 a1 (put 7 a7 (put 8 (.d (.int .i64 z.1)) U)))) _ _ _) (fun _=>E) (fun z=>z.2) (fun z=>z.1<=en.length/\(∀x∈en.take z.1,p x=false)/\J z.2) (fun z=>en.length - z.1) ?_ (0,Y) ⟨by simp,by simp,hJ⟩;rintro ⟨i,τ⟩ ⟨hi,hno,hj⟩ ih;simp only at hi hno hj;by_cases hlt:i < en.length
 . obtain ⟨x,Z⟩:=Ai hlt;have hen:en≠[]:=fun e=>by rw [e] at hlt;cases hlt
   rw [Xd hen] at ih ⊢;have hbj:=hjc hen τ hj;have hst:=ABJ En.row 3 En.F6 Z;have hsl:(i * 3+3<=(enC en).length)=True:=by rw [Oz En.row 3 En.F6];simp;omega
   have hiT:=ltT hlt;have hw1:=wsu i;have hc:=hf x (AD Z) τ hj;obtain ⟨t,f,ar⟩:=x;simp only [enA,En.row] at hc hst;cases hp:p ⟨t,f,ar⟩ with
   |true=>
    rw [hp] at hc;(repeat' (refine wP ?_<;>try simp only [hbj,hst,hsl,hiT,go_sem]));refine ⟨fid,[],caps,rfl,hb,AI.mk (by simp [hcp,Dm]) hc ?_⟩;rintro _ τ2 ⟨rfl,hj2⟩;simp only [go_sem];(repeat' (refine wP ?_<;>try simp only [go_sem]));exact ⟨by rw [Dj hno Z hp];rfl,hj2⟩
   |false=>
    rw [hp] at hc;(repeat' (refine wQ ?_<;>try simp only [hbj,hst,hsl,hiT,go_sem]));refine ⟨fid,[],caps,rfl,hb,AI.mk (by simp [hcp,Dm]) hc ?_⟩;rintro _ τ2 ⟨rfl,hj2⟩;simp only [go_sem];(repeat' (refine wQ ?_<;>try simp only [hw1,go_sem]));exact ih ⟨i+1,τ2⟩ ⟨hlt,F7 hno Z hp,hj2⟩ (by simp only;omega)
 . have hie:i=en.length:=by omega
   subst hie;rw [BQ] at hno;(repeat' (refine wP ?_<;>try simp only [B7 hlt,go_sem]));exact ⟨by rw [Dk hno];rfl,hj⟩
def bF (hb:CT Tzp fid=true) (hcp:caps.all AV.BS=true) (p:En->Bool) (J:AH->Prop) (en:List En) (jc:Nat) (hjc:en≠[]->∀τ,J τ->τ.blk jc=some (enC en)) (hl:en.length<=900000000) (hf:∀x∈en,∀τ,J τ->AR Tzp fid (enA x::caps) τ (fun v σ'=>v= .d (.bool (p x))/\J σ')) (Y:AH) (hJ:J Y):
 AR Tzp 163 [enV en jc,.fn fid [] caps] Y (fun v σ'=>v= .d (.bool (en.any p))/\J σ'):=by
 obtain ⟨w1,w2,w3,w4,w5⟩:=T4 en jc;refine Jq (by simp) ?_;rw [BD];(repeat' (refine wQ ?_<;>try simp only [go_sem]));refine AI.mk (by simp [w2,fY]) (mQ hb hcp p J en jc hjc hl hf Y hJ) ?_;rintro _ τ ⟨rfl,hj⟩;simp only [go_sem];(repeat' (refine wP ?_<;>try simp only [go_sem]));exact ⟨by rw [Ol,HH],hj⟩
def GX.nbo {Y:AH} {j:Nat} (h:GX B Y g j jc) (hb:∀k,σ'.blk k=Y.blk k):GX B σ' g j jc:=
 ⟨h.sn.own hb,by rw [hb];exact h.e,fun he=>by rw [hb];exact h.c he,fun k cs hk=>by rw [hb];exact h.x k cs hk,h.jj,h.gi⟩
def BH {Y τ:AH} (h:(nbH Y).le τ) (k:(nbH τ).le υ):(nbH Y).le υ:=
 ⟨fun _ _ h=>(by cases h),fun t ht=>k.tok t (h.tok t ht),h.gt.trans k.gt,fun i x Z=>k.bt i x (h.bt i x Z)⟩
def CC.nb {σ0 τ:AH} {e s:Nat} {rows:List (List DV)} (ho:CC (nbH σ0) e s rows v τ) (h:(nbH τ).le τ'):CC (nbH σ0) e s rows v τ':=
 ho.Gw (BH ho.le h) (fun t _ ht=>h.tok t ht)
def cD (G:GC):∀(ks:List Ex) (env:Env) (g:GS),(C9 G ks env g).1.length=ks.length
 |[],_,_=>rfl
 |k::ks,env,g=>by simp only [C9,A0,cD G ks]
def lZ (G:GC) (k:Ex) (env:Env):∀(ks:List Ex) (g:GS),C9 G (ks++[k]) env g=((C9 G ks env g).1++[(Bb G k env (C9 G ks env g).2).1],(Bb G k env (C9 G ks env g).2).2)
 |[],g=>rfl
 |u::ks,g=>by
  rw [AX,C9];simp only [lZ G k env ks];simp only [C9,AX]
def Ex.KL (a b:List Ex):Ex.AQ (a++b)=Ex.AQ a+Ex.AQ b:=by
 induction a with
 |nil=>simp [Ex.AQ]
 |cons x a ih=>simp only [AX,Ex.AQ,ih];omega
def Ex.IM {k:Ex} (h:ks[p]?=some k):Ex.AQ (ks.take (p+1))=Ex.AQ (ks.take p)+k.size/\Ex.AQ (ks.take p)+k.size<=Ex.AQ ks:=by
 have h1:Ex.AQ (ks.take (p+1))=Ex.AQ (ks.take p)+k.size:=by rw [A5 h,Ex.KL];simp [Ex.AQ]
 refine ⟨h1,?_⟩;rw [<- h1]
 conv=>rhs;rw [<- A7 (p+1) ks,Ex.KL]
 omega
structure RSn (B:GB) (Y:AH) (g:GS) (l:List Nat) (ks:List Ex) (g':GS) (σ':AH):Prop where
 nb:(nbH Y).le σ'
 gx:∃j jc,GX B σ' g' j jc
 lt:∀a∈l,a < g'.nx
 le:g.nx<=g'.nx
 hi:g'.nx+500000 * ks.length<=g.nx+1000000 * Ex.AQ ks
 en:g'.en.length=g.en.length+Ex.AQ ks
def ADE (B:GB) (ks:List Ex) (hk:∀k∈ks,ExC B k) (sc:List Str) (env:Env) (g:GS) (Y:AH) (j jc:Nat) (hok:∀k∈ks,OkE B.G k sc) (hes:ES sc env g) (hnx:g.nx+1000000 * Ex.AQ ks<=900000000) (hen:g.en.length+Ex.AQ ks<=900000000) (hg:GX B Y g j jc):
 AR Tzp 222 [.gp B.i 0,.d (.sl (ks.map Ex.enc)),.d (Ij env)] Y (fun v σ'=>CC (nbH Y) 3 1 ((C9 B.G ks env g).1.map CN) v σ'/\RSn B Y g (C9 B.G ks env g).1 ks (C9 B.G ks env g).2 σ'):=by
 have hkl:=Ex.Bx ks;refine YF (by simp) ?_;rw [DK];(repeat' (refine wQ ?_<;>try simp only [AA,go_sem]));refine Run.BB ?_
 refine Run.BE ((fun (a0:AV) (a2:AV) (a10:AV) (a11:AV)=>fun (z:Nat×AV×AH)=>put 0 a0 (put 2 a2 (put 7 (z.2.1) (put 10 a10 (put 11 a11 (put 12 (.d (.int .i64 z.1)) U)))))) _ _ _ _) (fun _=>E) (fun z=>z.2.2)
  (fun z=>z.1<=ks.length/\CC (nbH Y) 3 1 ((C9 B.G (ks.take z.1) env g).1.map CN) z.2.1 z.2.2/\RSn B Y g (C9 B.G (ks.take z.1) env g).1 (ks.take z.1) (C9 B.G (ks.take z.1) env g).2 z.2.2)
  (fun z=>ks.length - z.1) ?_ (0,.Ad,Y) ⟨by simp,by simpa [C9] using ANZ 3 1,by simp only [C0,C9];exact ⟨Hq Y,⟨j,jc,hg⟩,by simp,AS _,by simp [Ex.AQ],by simp [Ex.AQ]⟩⟩
 rintro ⟨p,v,τ⟩ ⟨hp,ho,hr⟩ ih;simp only at hp ho hr;by_cases hlt:p < ks.length
 . obtain ⟨k,hke⟩:=Ai hlt;have he:=BI (enc:=Ex.enc) hke;have hw1:=wsu p;obtain ⟨hz1,hz2⟩:=Ex.IM hke;have hsn:=lZ B.G k env (ks.take p) g;rw [<- A5 hke] at hsn;have hql:(C9 B.G (ks.take p) env g).1.length=p:=by rw [cD];simp;omega
   generalize C9 B.G (ks.take p) env g=q at *;obtain ⟨j1,jc1,hg1⟩:=hr.gx;have hhi:=hr.hi;have hle:=hr.le;have hen1:=hr.en;have htl:(ks.take p).length=p:=by simp;omega
   rw [htl] at hhi;have hmem:=AD hke;have hc:=hk k hmem sc env q.2 τ j1 jc1 (hok k hmem) (hes.le hle) (by omega) (by omega) hg1;generalize Bb B.G k env q.2=r at *;obtain ⟨o,n,u,ns,kk,al⟩:=k;simp only [Ex.A4,exA,AF,AN] at he hc;(repeat' (first|refine ctQ rfl ?_|((first|refine rgQ mxQ ?_|refine cdQ ?_)<;>try simp only [Ap hlt,he,ho.w4,go_sem])|fail));refine AI.mk rfl hc ?_;rintro _ τ1 ⟨rfl,hq⟩;simp only [nA];simp only [go_sem];refine Dh.own (ho.nb hq.nb) rfl (by simp) (by simp [hql];omega) (by omega) (fun v' τ2 ho' hb'=>?_);(repeat' (first|refine ctQ rfl ?_|((first|refine rgQ mxQ ?_|refine cdQ ?_)<;>try simp only [hw1,go_sem])|fail));obtain ⟨j2,jc2,hg2⟩:=hq.gx;have hql':=hq.le;have hqh:=hq.hi;have hqe:=hq.en;refine ih ⟨p+1,v',τ2⟩ ⟨hlt,?_,?_⟩ (by simp only;omega)
   . simp only [hsn];rw [Ao];exact ho'
   . simp only [hsn];refine ⟨ho'.le,⟨j2,jc2,hg2.nbo hb'⟩,fun a ha=>?_,Af hle hql',?_,?_⟩
     . rcases AZ.1 ha with ha|ha
       . exact Be (hr.lt a ha) hql'
       . simp only [A3] at ha;subst ha;exact hq.lt
     . have e2:(ks.take (p+1)).length=p+1:=by simp;omega
       omega
     . omega
 . have hpe:p=ks.length:=by omega
   subst hpe;rw [BQ] at ho hr;(repeat' (refine wR ?_<;>try simp only [B7 hlt,ho.w4,go_sem]));exact ⟨ho,hr⟩
def U0 (l:List Nat) (Y:AH) (hl:l.length<=1000000):AR Tzp 231 [.d (.sl (l.map CN))] Y (fun v σ'=>CC (nbH Y) 3 1 (l.map CN) v σ'/\∀k,σ'.blk k=Y.blk k):=by
 refine cP (by simp) ?_;rw [Bj];(repeat' (refine wQ ?_<;>try simp only [go_sem]));have hfin:∀t,Y.tok t=false->CC (nbH Y) 3 1 [] (.own t 3 1 []) (Y.Bq t):=fun t ht=>CC.own (Hq Y) (Hq Y) ht;have hrow:∀r∈l.map CN,r.length=1:=fun r hr=>by obtain ⟨a,_,rfl⟩:=B8.1 hr;rfl
 cases l with
 |nil=>
  refine XEx.ASV rfl rfl (fun b=>?_);cases b with
  |true=>
   (repeat' (first|((first|refine wR ?_|(refine Ae rfl (fun h=>?_) (fun h=>?_)<;>try (cases h;done))|fail)<;>try simp only [go_sem])|(refine ⟨fun h=>?_,fun h=>?_⟩<;>first|(cases h;done)|try simp only [h])|fail));exact ⟨ANZ 3 1,by simp⟩
  |false=>
   (repeat' (first|((first|refine wQ ?_|(refine Ae rfl (fun h=>?_) (fun h=>?_)<;>try (cases h;done))|fail)<;>try simp only [go_sem])|(refine ⟨fun h=>?_,fun h=>?_⟩<;>first|(cases h;done)|try simp only [h])|fail));refine XK.own rfl trivial (fun t ht=>?_);simp only [go_sem];refine Dh.own (hfin t ht) rfl hrow (by simp) (by omega) (fun v' τ ho' hb'=>?_);(repeat' (refine wR ?_<;>try simp only [ho'.BS,go_sem]));exact ⟨ho',fun k=>(hb' k).trans rfl⟩
 |cons a l=>
  refine XEx.wZ (b:=false) rfl rfl ?_;(repeat' (first|((first|refine wQ ?_|(refine Ae rfl (fun h=>?_) (fun h=>?_)<;>try (cases h;done))|fail)<;>try simp only [go_sem])|(refine ⟨fun h=>?_,fun h=>?_⟩<;>first|(cases h;done)|try simp only [h])|fail));refine XK.own rfl trivial (fun t ht=>?_);simp only [go_sem];refine Dh.own (hfin t ht) rfl hrow (by simp at hl ⊢;omega) (by omega) (fun v' τ ho' hb'=>?_);(repeat' (refine wR ?_<;>try simp only [ho'.BS,go_sem]));exact ⟨ho',fun k=>(hb' k).trans rfl⟩
def Fr.nb {Y τ:AH} {i j:Nat} {l:List Nd} (h:Fr Y i l j τ l' j'):(nbH Y).le τ:=h.nb2 (Hq Y)
def GX.bi {Y:AH} {j:Nat} (h:GX B Y g j jc):Y.blk B.i=some (.ms j g.s.1.length 4 tkN::.d (.bool g.s.2)::[.d (.sl (B.ds.map DE.enc)),.d (.sl (B.G.fs.map FE.enc)),dsA B.G.dt,.ms B.js B.G.sch.length 5 eSs,.ms B.jm B.G.mem.length 1 eMm,.ms B.jp B.G.ps.length 1 ePp,.ms B.jr B.G.rs.length 1 3,.ms B.je B.es.length 1 eEe,.d (.int .i64 (B.cur:Int))]):=by
 rw [h.sn.blk,Em h.ne];rfl
def GX.add (hB:HM B) {Y:AH} {j:Nat} {k n:Int} {ar:List Nat} {v0:AV} (h:GX B Y g j jc) (q:SNQ Y B.i g.s.1 B.rest j (Ke g.s.1 k n ar,g.s.2) v0 v σ'):v=v0/\(nbH Y).le σ'/\∃j',GX B σ' (g.add k n ar) j' jc:=by
 obtain ⟨e,j',sn,fr⟩:=q;exact ⟨e,fr.nb,j',h.step hB (s:=(Ke g.s.1 k n ar,g.s.2)) sn fr (by simp [H7,GS.nx])⟩
def Cn (g:GS) (k n:Int) (ar:List Nat):(g.add k n ar).nx=g.nx+1:=by simp [GS.add,GS.nx,H7]
def AAB (g:GS) (k n:Int) (ar:List Nat):(g.add k n ar).en=g.en:=rfl
def MT (g:GS) (a b:Nat):(g.uni a b).nx=g.nx:=by simp [GS.uni,GS.nx,ABZ]
def AQB (g:GS) (a b:Nat):(g.uni a b).en=g.en:=rfl
def dE (g:GS) (n:Nat):(g.frs n).nx=g.nx+n:=by simp [GS.frs,GS.nx,KB]
def AG0 (g:GS) (n:Nat):(g.frs n).en=g.en:=rfl
def GX.frs (hB:HM B) {Y:AH} {j n:Nat} {v0:AV} (h:GX B Y g j jc) (q:SNQ Y B.i g.s.1 B.rest j (Fw g.s.1 n,g.s.2) v0 v σ'):v=v0/\(nbH Y).le σ'/\∃j',GX B σ' (g.frs n) j' jc:=by
 obtain ⟨e,j',sn,fr⟩:=q;exact ⟨e,fr.nb,j',h.step hB (s:=(Fw g.s.1 n,g.s.2)) sn fr (by simp [KB,GS.nx])⟩
def GX.uni {B:GB} (hB:HM B) {Y σ':AH} {g:GS} {j jc a b:Nat} (h:GX B Y g j jc) (q:UNQ Y B.i g.s.1 B.rest j (KR g.s.1.length g.s a b) σ'):(nbH Y).le σ'/\∃j',GX B σ' (g.uni a b) j' jc:=by
 obtain ⟨⟨j',sn,fr⟩,_⟩:=q;exact ⟨fr.nb,j',h.step hB (s:=Go.Ab.uni g.s a b) sn fr (by rw [ABZ];exact AS _)⟩
def AC1 (B:GB) (hB:HM B) (o:Int) (g:GS) (Y:AH) (j jc:Nat) (hnx:g.nx<=900000000) (hg:GX B Y g j jc):
 AR Tzp 220 [.gp B.i 0,.d (.int .i64 o)] Y (fun v σ'=>v=nA g.nx/\(nbH Y).le σ'/\∃j',GX B σ' (g.add (vE o) 0 []) j' jc):=by
 have hc:=fun k=>Bt B.i j g.s.1 g.s.2 B.rest Y k .Ad [] hg.sn Rj.Ad (by simp) hnx;refine Tg (by simp) ?_;rw [BD];have hfin:∀k,vE o=k->∀v σ',SNQ Y B.i g.s.1 B.rest j (Ke g.s.1 k 0 [],g.s.2) (nA g.s.1.length) v σ'->v=nA g.nx/\(nbH Y).le σ'/\∃j',GX B σ' (g.add (vE o) 0 []) j' jc:=fun k e v σ' q=>by rw [e];exact hg.add hB q
 by_cases h2:o=2
 . subst h2;(repeat' (refine wP ?_<;>try simp only [go_sem]));refine AI.mk rfl (hc 2) ?_;intro v σ' q;have hv:=q.1;subst hv;have:=hfin 2 rfl _ _ q;simp only [nA];simp only [go_sem];(repeat' (refine wP ?_<;>try simp only [go_sem]));exact this
 by_cases h3:o=3
 . subst h3;(repeat' (first|((first|refine wP ?_|(refine Ae rfl (fun h=>?_) (fun h=>?_)<;>try (cases h;done))|fail)<;>try simp only [go_sem])|(refine ⟨fun h=>?_,fun h=>?_⟩<;>first|(cases h;done)|try simp only [h])|fail));refine AI.mk rfl (hc 1) ?_;intro v σ' q;have hv:=q.1;subst hv;have:=hfin 1 rfl _ _ q;simp only [nA];simp only [go_sem];(repeat' (refine wP ?_<;>try simp only [go_sem]));exact this
 . have b2:(o==2)=false:=by simpa using h2
   have b3:(o==3)=false:=by simpa using h3
   (repeat' (refine wP ?_<;>try simp only [b2,b3,go_sem]));refine AI.mk rfl (hc 3) ?_;intro v σ' q;have hv:=q.1;subst hv;have:=hfin 3 (by simp [vE,h2,h3]) _ _ q;simp only [nA];simp only [go_sem];(repeat' (refine wP ?_<;>try simp only [go_sem]));exact this
def xA (f:FE) (s:Str) (j:Nat) (Y:AH) (hj:Y.blk j=some [.d (.str s)]):AR Tzp 260 [feA f,.gp j 0] Y (fun v σ'=>v= .d (.bool (f.name==s))/\σ'=Y):=by
 refine Qd (by simp) ?_;rw [BD];obtain ⟨nm,ps,o,n,u,ns,ks,al⟩:=f;simp only [FE.enc,Ex.A4,feA,AF,AN];(repeat' (refine wP ?_<;>try simp only [hj,CA,go_sem]))
def yI:∀ {e:Env} {s:Str} {t:Nat},OX e s=some t->(s,t)∈e
 |x::e,s,t,h=>by
  obtain ⟨n,u⟩:=x;rw [OX] at h;split at h
  . rename_i e1;simp only at e1 h;cases h;rw [e1];exact AW
  . exact AU _ (yI h)
def AKE:∀ {l:List Str} {s:Str} {k:Nat},DP l s=some k->k < l.length
 |[],s,k,h=>by simp [DP] at h
 |x::l,s,k,h=>by
  rw [DP] at h;split at h
  . cases h;simp
  . cases hi:DP l s with
    |none=>rw [hi] at h;cases h
    |some m=>
     rw [hi] at h;simp only [Ac,AM] at h;subst h;have:=AKE hi;simp;omega
def GX.new (hB:HM B) {Y:AH} {j:Nat} (h:GX B Y g j jc) (hk:Y.blk k=none):GX B (Y.AL k cs) g j jc:=by
 obtain ⟨hji,c0,hc0,hbj⟩:=h.sn.nd h.ne;have hne:∀m x,Y.blk m=some x->m≠k:=fun m x hm e=>by rw [e,hk] at hm;cases hm
 refine ⟨⟨by rw [AJ,if_neg (hne _ _ h.sn.blk),h.sn.blk],h.sn.Gs,fun _=>⟨hji,c0,hc0,by rw [AJ,if_neg (hne _ _ hbj),hbj]⟩⟩,by rw [AJ,if_neg (hne _ _ h.e),h.e],fun he=>?_,fun m x Z=>by rw [AJ,if_neg (hne _ _ (h.x m x Z)),h.x m x Z],h.jj,h.gi⟩;obtain ⟨a,b⟩:=h.c he;exact ⟨by rw [AJ,if_neg (hne _ _ a),a],b⟩
def pY {l:List Bool} {i:Nat} {b:Bool} (h:l[i]?=some b):(BP l)[i]?=some (.d (.bool b)):=by simp [BP,h]
def sU {l:List (List Nat)} {i:Nat} {x:List Nat} (h:l[i]?=some x):(psC l)[i]?=some (.d (.sl (x.map CN))):=by simp [psC,h]
def AS7 (k n:Int) (l:List Ty):tyA (.mk k n l)= .agg [.d (.int .i64 k),.d (.int .i64 n),.d (.sl (l.map Ty.enc))]:=by simp [tyA,Ty.enc,Ty.Bf]
def AFF (B:GB) (hB:HM B) (hD:GD B.G) (sc:List Str) (env:Env) (nm:Str) (at_:Nat) (g:GS) (Y:AH) (j jc:Nat) (hnm:nm≠[]) (hv:QF B.G.fs B.G.dt (.mk 4 nm 0 [] [] []) sc=0) (hes:ES sc env g) (hat:at_ < g.en.length) (hnx:g.nx+1000000<=900000000) (hg:GX B Y g j jc):
 AR Tzp 219 [.gp B.i 0,.d (.str nm),.d (Ij env),nA at_] Y (fun v σ'=>v=nA (dS B.G env nm at_ g).1/\RQ B Y g (dS B.G env nm at_ g).1 1000000 0 (dS B.G env nm at_ g).2 σ'):=by
 have hbi:=hg.bi;refine Tj (by simp) ?_;rw [iH];simp only [nA];(repeat' (refine wQ ?_<;>try simp only [go_sem]));intro jn hjn;have hg1:=hg.new hB (k:=jn) (cs:=[AV.d (.str nm)]) hjn;have hnb1:(nbH Y).le (Y.AL jn [AV.d (.str nm)]):=⟨fun _ _ h=>(by cases h),fun _ h=>h,rfl,fun _ _ h=>h⟩;have hbn:(Y.AL jn [AV.d (.str nm)]).blk jn=some [AV.d (.str nm)]:=BT;generalize Y.AL jn [AV.d (.str nm)]=σ1 at hg1 hnb1 hbn ⊢;have hf:=wI env nm σ1;cases hlk:OX env nm with
 |some t=>
  rw [hlk] at hf;simp only [ARF] at hf;have hvar:dS B.G env nm at_ g=(t,g):=by rw [dS,hlk]
  rw [hvar];(repeat' ((first|refine wP ?_|refine AI.det (hf) ?_|fail)<;>try simp only [go_sem]));exact ⟨hnb1,⟨j,jc,hg1⟩,hes.lt _ (yI hlk),AS _,by omega,rfl⟩
 |none=>
  rw [hlk] at hf;simp only [ARF] at hf;have hsc:=hes.sc nm hnm;rw [hlk] at hsc;rw [QF,if_pos (show (Ex.mk 4 nm 0 [] [] []).op=4 from rfl)] at hv;simp only [Ex.name,<- hsc,H5,Iv,Bk] at hv
  obtain ⟨f,hfi⟩:∃f,DP (DY B.G.fs) nm=some f:=by
   cases h:DP (DY B.G.fs) nm with
   |none=>rw [h] at hv;simp at hv
   |some f=>exact ⟨f,rfl⟩
  have hfl:f < B.G.fs.length:=by have:=AKE hfi;simpa [DY] using this
  have hbi1:=hg1.bi;have hix:=GW (fid:=260) (caps:=[.gp jn 0]) (by kernel_rfl) rfl (fun x=>x.name==nm) B.G.fs σ1 (fun x _=>xA x nm jn _ hbn);rw [l6,hfi] at hix;simp only [HQ] at hix;have hen:g.en≠[]:=fun e=>by rw [e] at hat;cases hat
  obtain ⟨c1,c2,c3,c4,c5⟩:=hg1.c hen;have hje:=hg1.e;rw [Xd hen] at hje;have hcu:=ltT hB.cur;have hcg:(B.es.set B.cur (AV.ms jc g.en.length 3 tkE))[B.cur]?=some (AV.ms jc g.en.length 3 tkE):=by simp [hB.cur]
  have hatT:=ltT hat;obtain ⟨x,Z⟩:=Ai hat;have hle:(at_ * 3+1+1<=(enC g.en).length)=True:=by rw [Oz En.row 3 En.F6];simp;omega
  have hwr:=ABK En.row 3 En.F6 1 (.d (.int .i64 (f:Int))) (fun e=> { e with f:=(f:Int)}) Z (by omega) rfl;obtain ⟨q1,q2,q3,q4⟩:=hg1.gi.en x (AD Z);have hg2:=hg1.mod hB (at_:=at_) (fun e=> { e with f:=(f:Int)}) Z ⟨q1,by simp only;omega,by simp only;omega,q4⟩;have hmem:=Ai (show f < B.G.mem.length by rw [hB.lm];exact hfl);obtain ⟨b,hb⟩:=hmem;have hbb:=pY hb
  have hjm:∀cs,(σ1.AL jc cs).blk B.jm=some (BP B.G.mem):=fun cs=>by
   rw [AJ,if_neg (fun e=>by rw [<- e,hB.m] at c4;cases c4),hg1.x _ _ hB.m]
  have hjb:∀cs,(σ1.AL jc cs).blk B.i=σ1.blk B.i:=fun cs=>by rw [AJ,if_neg (A6 c2)]
  have hfm:=ltT (show f < B.G.mem.length by rw [hB.lm];exact hfl)
  have hvp:dS B.G env nm at_ g=ASI B.G f at_ (g.UN at_ fun e=> { e with f:=(f:Int)}):=by
   rw [dS,hlk,hfi];rfl
  rw [hvp];clear hvp;have hnx2:(g.UN at_ fun e=> { e with f:=(f:Int)}).nx=g.nx:=rfl;have hen2:(g.UN at_ fun e=> { e with f:=(f:Int)}).en.length=g.en.length:=by simp [GS.UN]
  generalize (g.UN at_ fun e=> { e with f:=(f:Int)})=g2 at hg2 hnx2 hen2 ⊢;have hmg:B.G.mem.getD f false=b:=by simp [hb]
  rw [ASI,hmg];cases b
  . simp only [A1,if_false];have hfs:=ltT (show f < B.G.sch.length by rw [hB.ls];exact hfl);obtain ⟨s,hs⟩:=Ai (show f < B.G.sch.length by rw [hB.ls];exact hfl)
    have hjs:∀cs,(σ1.AL jc cs).blk B.js=some (V9 B.G.sch):=fun cs=>by
     rw [AJ,if_neg (fun e=>by rw [<- e,hB.s] at c4;cases c4),hg1.x _ _ hB.s]
    have hst:=ABJ Sch.row 5 Sch.F6 hs;have hsl:(f * 5+5<=(V9 B.G.sch).length)=True:=by have:=(AE.1 hs).1;rw [Oz Sch.row 5 Sch.F6];simp;omega
    (repeat' (first|refine ctQ rfl ?_|((first|refine rgQ mxQ ?_|refine cdQ ?_|refine AI.det (hf) ?_|refine AI.det (hix) ?_)<;>try simp only [hbi1,hje,hcu,hcg,A9,hatT,c1,hle,hwr,hjb,hjm,hfm,hbb,hfs,hjs,hst,hsl,Sch.row,go_sem])|fail));have hnb2:(nbH Y).le (σ1.AL jc (enC (g.en.modify at_ fun e=> { e with f:=(f:Int)}))):=⟨fun _ _ h=>(by cases h),hnb1.tok,hnb1.gt,hnb1.bt⟩;generalize σ1.AL jc (enC (g.en.modify at_ fun e=> { e with f:=(f:Int)}))=τ at hg2 hnb2 ⊢;obtain ⟨s1,s2,s3,s4,s5,s6⟩:=hD.sch s (AD hs);obtain ⟨vs,ps,rs⟩:=s;obtain ⟨n,rfl⟩:=G5 s1;obtain ⟨rk,rn,ra⟩:=rs;simp only [hs,CO] at s2 s3 s4 s5 s6 ⊢;simp only [Ty.kind,Ty.num,Ty.args];have hnl:n<=100000:=by omega
    have hn2:g2.s.1.length=g2.nx:=rfl;refine AI.mk rfl (Dx B.i j g2.s.1 g2.s.2 B.rest τ n hg2.sn (by omega) (by omega)) ?_;intro v3 τ1 q;obtain ⟨rfl,hnb3,j3,hg3⟩:=hg2.frs hB q;clear q;rw [hn2];have hat2:at_ < g2.en.length:=by rw [hen2];exact hat
    obtain ⟨y,hy⟩:=Ai hat2;obtain ⟨d1,d2,d3,d4,d5⟩:=hg3.c (fun e=>by rw [show (g2.frs n).en=g2.en from rfl] at e;rw [e] at hat2;cases hat2);rw [AG0] at d1;have hle2:(at_ * 3+2+1<=(enC g2.en).length)=True:=by rw [Oz En.row 3 En.F6];simp;omega
    have hwr2:=ABK En.row 3 En.F6 2 (.d (.sl ((A8 g2.nx n).map CN))) (fun e=> { e with ar:=A8 g2.nx n}) hy (by omega) rfl;have hra:∀a∈A8 g2.nx n,a < g2.nx+n:=fun a ha=>by rw [TH] at ha;omega
    obtain ⟨y1,y2,y3,y4⟩:=hg2.gi.en y (AD hy);have hg4:=hg3.mod hB (at_:=at_) (fun e=> { e with ar:=A8 g2.nx n}) (x:=y) hy ⟨by rw [dE];simp only;omega,y2,y3,fun a ha=>by rw [dE];exact hra a ha⟩;rw [AG0] at hg4;simp only [d1,hle2,hwr2,go_sem];(repeat' (first|refine ctQ rfl ?_|((first|refine rgQ mxQ ?_|refine cdQ ?_)<;>try simp only [go_sem])|fail))
    have hnb4:(nbH Y).le (τ1.AL jc (enC (g2.en.modify at_ fun e=> { e with ar:=A8 g2.nx n}))):=by
     have h0:=BH hnb2 hnb3;exact ⟨fun _ _ h=>(by cases h),h0.tok,h0.gt,h0.bt⟩
    generalize τ1.AL jc (enC (g2.en.modify at_ fun e=> { e with ar:=A8 g2.nx n}))=τ2 at hg4 hnb4 ⊢
    have hy4:((g2.frs n).UN at_ fun e=> { e with ar:=A8 g2.nx n}).en[at_]?=some { y with ar:=A8 g2.nx n}:=by
     show (g2.en.modify at_ _)[at_]?=_;rw [List.getElem?_modify_eq,hy];rfl
    have hnx4:((g2.frs n).UN at_ fun e=> { e with ar:=A8 g2.nx n}).nx=g2.nx+n:=dE g2 n;have hen4:((g2.frs n).UN at_ fun e=> { e with ar:=A8 g2.nx n}).en.length=g.en.length:=by simp [GS.UN,AG0,hen2]
    generalize ((g2.frs n).UN at_ fun e=> { e with ar:=A8 g2.nx n})=g4 at hg4 hy4 hnx4 hen4 ⊢;have hea:(enC g4.en)[at_ * 3+2]?=some (.d (.sl ((A8 g2.nx n).map CN))):=ASN En.row 3 En.F6 2 hy4 (by omega);have he4:g4.en≠[]:=fun e=>by rw [e] at hy4;simp at hy4
    have f1:=(hg4.c he4).1;have hrl:(A8 g2.nx n).length=n:=by simp
    have hn4:g4.s.1.length=g2.nx+n:=hnx4;generalize har:A8 g2.nx n=ar at *;have hinT:∀t∈ps,AJQ B.i B.rest ar t:=fun t ht=>HW B.i B.rest ar t.size t (AS _) (by rw [hrl];exact UT s3 t ht);have hal:∀a∈ar,a < g4.s.1.length:=fun a ha=>by rw [hn4];exact hra a ha
    have hli:=MM ar g4.s.1 ps;have hli2:=fI ar (B9 ar g4.s.1 ps).2 (.mk rk rn ra);have hlt1:=ZK (ar:=ar) (l:=g4.s.1) (ts:=ps) (by rw [hrl];exact s3) hal;have hlt2:=rW (ar:=ar) (l:=(B9 ar g4.s.1 ps).2) (t:= .mk rk rn ra) (by rw [hrl];exact s4) (fun a ha=>Be (hal a ha) hli.le);have hplen:=Ty.Bx ps;have hll:=MN ar g4.s.1 ps;rw [AYT];simp only;refine Run.IX mixed ?_;simp only [f1,hea,go_sem];refine ⟨?_,?_⟩<;>
    . refine AI.mk rfl (Iq B.i B.rest ar ps hinT g4.s.1 g4.s.2 j3 τ2 hal (by omega) hg4.sn) ?_;rintro cv τ3 ⟨ho,j5,sn5,fr5⟩;have hg5:=hg4.step hB (s:=((B9 ar g4.s.1 ps).2,g4.s.2)) sn5 fr5 hli.le;have f5:=(hg5.c he4).1;simp only [f5,hea,go_sem];have hic:=HW B.i B.rest ar _ (.mk rk rn ra) (AS _) (by rw [hrl];exact s4) (B9 ar g4.s.1 ps).2 g4.s.2 j5 τ3 (fun a ha=>Be (hal a ha) hli.le) (by have:=hli.hi;omega) sn5;rw [AS7] at hic;refine AI.mk rfl hic ?_;rintro _ τ4 ⟨rfl,j6,sn6,fr6⟩;simp only [nA];simp only [go_sem];refine Dh.own (ho.fr fr6) rfl (by simp) (by simp [hll];omega) (by omega) (fun v2 τ5 ho2 hb2=>?_);simp only [go_sem];have ho3:CC (nbH τ2) 3 1 (((B9 ar g4.s.1 ps).1++[(Eu ar (B9 ar g4.s.1 ps).2 (.mk rk rn ra)).1]).map CN) v2 τ5:=by rw [Ao];exact ho2
      have hg6:=(hg5.step hB (s:=((Eu ar (B9 ar g4.s.1 ps).2 (.mk rk rn ra)).2,g4.s.2)) sn6 fr6 hli2.le).nbo hb2;refine AI.mk (by simp [ho2.BS,VP,MR]) (Bt B.i j6 _ g4.s.2 B.rest τ5 9 v2 _ hg6.sn ho3.row (fun a ha=>?_) (by have:=hli.hi;have:=hli2.hi;simp only;omega)) ?_
      . rcases AZ.1 ha with ha|ha
        . exact Be (hlt1 a ha) hli2.le
        . simp only [A3] at ha;subst ha;exact hlt2
      intro v7 τ7 q;obtain ⟨e,h1,j7,h2⟩:=hg6.add hB q;clear q;subst e;simp only [nA];simp only [go_sem];(repeat' (refine wP ?_<;>try simp only [go_sem]));refine ⟨BH (BH hnb4 ho2.le) h1,⟨j7,jc,h2⟩,?_,?_,?_,hen4⟩
      . show _ < (Ke _ 9 0 _).length;rw [H7];omega
      . show _<=(Ke _ 9 0 _).length;rw [H7];have:=hli.le;have:=hli2.le;omega
      . show (Ke _ 9 0 _).length+500000<=_;rw [H7];have:=hli.hi;have:=hli2.hi;omega
  . simp only [if_true];(repeat' (first|refine ctQ rfl ?_|((first|refine rgQ mxQ ?_|refine cdQ ?_|refine AI.det (hf) ?_|refine AI.det (hix) ?_)<;>try simp only [hbi1,hje,hcu,hcg,A9,hatT,c1,hle,hwr,hjb,hjm,hfm,hbb,go_sem])|fail));have hnb2:(nbH Y).le (σ1.AL jc (enC (g.en.modify at_ fun e=> { e with f:=(f:Int)}))):=⟨fun _ _ h=>(by cases h),hnb1.tok,hnb1.gt,hnb1.bt⟩;generalize σ1.AL jc (enC (g.en.modify at_ fun e=> { e with f:=(f:Int)}))=τ at hg2 hnb2 ⊢;have hbi2:=hg2.bi;obtain ⟨pl,hpl⟩:=Ai (show f < B.G.ps.length by rw [hB.lp];exact hfl);obtain ⟨rf,hrf⟩:=Ai (show f < B.G.rs.length by rw [hB.lr];exact hfl);have hp2:=hg2.x _ _ hB.p;have hr2:=hg2.x _ _ hB.r;have hpa:=sU hpl;have hra:=R3 hrf;have hfp:=ltT (show f < B.G.ps.length by rw [hB.lp];exact hfl);have hfr:=ltT (show f < B.G.rs.length by rw [hB.lr];exact hfl);have hplm:=AD hpl;have hpln:=hD.nn pl hplm;simp only [A2,hpl,hrf,BA]
    have hfin:∀(cv:AV) (τ1:AH) (v:AV) (τ2:AH),(∀k,τ1.blk k=τ.blk k)->CC (nbH τ) 3 1 ((pl++[rf]).map CN) cv τ1->SNQ τ1 B.i g2.s.1 B.rest j (Ke g2.s.1 9 0 (pl++[rf]),g2.s.2) (nA g2.s.1.length) v τ2->RQ B Y g g2.nx 1000000 0 (g2.add 9 0 (pl++[rf])) τ2:=fun cv τ1 v τ2 hb1 ho q=>by
     obtain ⟨_,h1,j',h2⟩:=(hg2.nbo hb1).add hB q;exact ⟨BH (BH hnb2 ho.le) h1,⟨j',jc,h2⟩,by rw [Cn];omega,by rw [Cn];omega,by rw [Cn];omega,by rw [AAB,hen2];rfl⟩
    refine Run.IX mixed ?_;simp only [hbi2,hp2,hr2,hpa,hra,hfp,hfr,A9,go_sem];refine ⟨?_,?_,?_⟩<;>
    . refine AI.mk rfl (U0 pl τ (by omega)) ?_;rintro cv τ1 ⟨ho,hb1⟩;simp only [hb1,hbi2,hr2,hra,hfr,A9,go_sem];refine Dh.own ho rfl (by simp) (by simp;omega) (by omega) (fun v2 τ2 ho2 hb2=>?_);simp only [go_sem];have hg3:=(hg2.nbo hb1).nbo hb2;have hb3:∀k,τ2.blk k=τ.blk k:=fun k=>(hb2 k).trans (hb1 k);have ho3:CC (nbH τ) 3 1 ((pl++[rf]).map CN) v2 τ2:=by rw [Ao];exact ho2
      refine AI.mk (by simp [ho2.BS,VP,MR]) (Bt B.i j g2.s.1 g2.s.2 B.rest τ2 9 v2 (pl++[rf]) hg3.sn ho3.row (fun a ha=>?_) (by have:g2.s.1.length=g2.nx:=rfl;omega)) ?_
      . rcases AZ.1 ha with ha|ha
        . exact hg2.gi.ps pl hplm a ha
        . simp only [A3] at ha;subst ha;exact hg2.gi.rs _ (AD hrf)
      intro v3 τ3 q;have hq:=hfin v2 τ2 v3 τ3 hb3 ho3 q;obtain ⟨e,_⟩:=q;subst e;simp only [nA];simp only [go_sem];(repeat' (refine wP ?_<;>try simp only [go_sem]));exact ⟨rfl,hq⟩
def SX.AO2 {ext ext':Nat->Option (List AV)} {Y:AH} {i j js:Nat} {l:List Nd} {fl:Bool} {rest:List AV} (h:SX ext' Y i l fl rest j js cs) (Z:∀k c,ext k=some c->ext' k=some c):SX ext Y i l fl rest j js cs:=by
 have hn:∀k,ext' k=none->ext k=none:=fun k hk=>by
  cases he:ext k with
  |none=>rfl
  |some c=>rw [Z k c he] at hk;cases hk
 exact ⟨h.sn,h.row,fun k c hk=>h.x k c (Z k c hk),hn _ h.xi,fun hl=>hn _ (h.xj hl),hn _ h.xs,h.si,h.sj⟩
def H8 (ext:Nat->Option (List AV)) (m:Nat) (cs:List AV) (k:Nat):Option (List AV):=if k=m then some cs else ext k
def SX.more {ext:Nat->Option (List AV)} {Y τ:AH} {i j js m:Nat} {l:List Nd} {fl:Bool} {rest cm:List AV} (hl:l≠[]) (h:SX ext Y i l fl rest j js cs) (mo:Mo Y τ) (hm:Y.blk m=none) (hmb:τ.blk m=some cm):SX (H8 ext m cm) τ i l fl rest j js cs/\∀k c,ext k=some c->H8 ext m cm k=some c:=by
 obtain ⟨hji,c0,hc0,hbj⟩:=h.sn.nd hl;have hi:i≠m:=fun e=>by rw [<- e,h.sn.blk] at hm;cases hm
 have hj:j≠m:=fun e=>by rw [<- e,hbj] at hm;cases hm
 have hs:js≠m:=fun e=>by rw [<- e,h.row] at hm;cases hm
 have hk:∀k c,ext k=some c->k≠m:=fun k c hk e=>by have:=h.x k c hk;rw [e,hm] at this;cases this
 refine ⟨⟨⟨mo.blk _ _ h.sn.blk,h.sn.Gs,fun _=>⟨hji,c0,hc0,mo.blk _ _ hbj⟩⟩,mo.blk _ _ h.row,fun k c Z=>?_,by rw [H8,if_neg hi];exact h.xi,fun hl=>by rw [H8,if_neg hj];exact h.xj hl,by rw [H8,if_neg hs];exact h.xs,h.si,h.sj⟩,fun k c Z=>by rw [H8,if_neg (hk k c Z)];exact Z⟩;unfold H8 at Z;split at Z
 . rename_i e;subst e;cases Z;exact hmb
 . exact mo.blk _ _ (h.x k c Z)
def qV (ext:Nat->Option (List AV)) (m:Nat) (cs:List AV):H8 ext m cs m=some cs:=by simp [H8]
def cC (l:List Nd) (pl:List Nat) (rf:Nat) (en:List En):Bool:=(pl.any (oE l)||oE l rf)||en.any (AQ7 l)
def AG2 (B:GB) (ext:Nat->Option (List AV)) (σ0:AH) (l:List Nd) (d:Nat->Nat) (fl:Bool) (js j1 j3 j4:Nat) (hl0:l≠[]) (he:JE ext B.i l d js j1 j3 j4) (f jc:Nat) (es:List AV) (pl:List Nat) (rf:Nat) (en:List En)
 (xp:ext B.jp=some (psC B.G.ps)) (xr:ext B.jr=some (Ct B.G.rs)) (xe:ext B.je=some es) (hes:es.length=B.es.length) (xc:en≠[]->ext jc=some (enC en))
 (hpl:B.G.ps[f]?=some pl) (hrf:B.G.rs[f]?=some rf) (hen:es[f]?=some (enV en jc)) (hln:en.length<=900000000)
 (hp:∀a∈pl,a < l.length) (hr:rf < l.length) (ht:∀x∈en,x.t < l.length/\∀a∈x.ar,a < l.length) (τ:AH) (hj:JZ ext σ0 B.i B.rest l fl js τ):
 AR Tzp 102 [.gp B.i 0,.d (.int .i64 (f:Int)),szC j1 j3 j4] τ (fun v σ'=>v= .d (.bool (cC l pl rf en))/\JZ ext σ0 B.i B.rest l fl js σ'):=by
 obtain ⟨hnb,kn,j0,hkn,hs⟩:=hj;refine VC (by simp) ?_;rw [DK];(repeat' (first|refine ctQ rfl ?_|((first|refine rgQ mxQ ?_|refine cdQ ?_)<;>try simp only [szC,go_sem])|fail));intro j5 hj5;have m5:=(Mo.refl τ).new hj5 [szC j1 j3 j4];have f5:(τ.AL j5 [szC j1 j3 j4]).blk j5=some [szC j1 j3 j4]:=BT;obtain ⟨hs5,w5⟩:=hs.more hl0 m5 hj5 f5;have hs':τ.AL j5 [AV.fn 160 [] [.gp j1 0,.gp j3 0,.gp j4 0]]=τ.AL j5 [szC j1 j3 j4]:=rfl;rw [hs'];generalize τ.AL j5 [szC j1 j3 j4]=τ5 at *;(repeat' (first|refine ctQ rfl ?_|((first|refine rgQ mxQ ?_|refine cdQ ?_)<;>try simp only [go_sem])|fail));intro j7 hj7;simp only [IY,go_sem];have m7:=(Mo.refl τ5).AEA hj7 [AV.HG] [.fn 161 [] [.gp j5 0]] (1,185);have f7:(((τ5.AL j7 [AV.HG]).Bl j7 (1,185)).AL j7 [.fn 161 [] [.gp j5 0]]).blk j7=some [.fn 161 [] [.gp j5 0]]:=BT;obtain ⟨hs7,w7⟩:=hs5.more hl0 m7 hj7.1 f7;generalize ((τ5.AL j7 [AV.HG]).Bl j7 (1,185)).AL j7 [.fn 161 [] [.gp j5 0]]=τ7 at *;have w57:∀k c,ext k=some c->H8 (H8 ext j5 [szC j1 j3 j4]) j7 [.fn 161 [] [.gp j5 0]] k=some c:=fun k c h=>w7 k c (w5 k c h);have x5:H8 (H8 ext j5 [szC j1 j3 j4]) j7 [.fn 161 [] [.gp j5 0]] j5=some [szC j1 j3 j4]:=w7 _ _ (qV _ _ _)
 have x7:=qV (H8 ext j5 [szC j1 j3 j4]) j7 [.fn 161 [] [.gp j5 0]];generalize H8 (H8 ext j5 [szC j1 j3 j4]) j7 [.fn 161 [] [.gp j5 0]]=ext2 at *;have he2:JE ext2 B.i l d js j1 j3 j4:=⟨he.ln,he.fr,w57 _ _ he.x1,w57 _ _ he.x3,w57 _ _ he.x4⟩;have hj:JZ ext2 σ0 B.i B.rest l fl js τ7:=⟨D3 (D3 hnb m5.nb) m7.nb,kn,j0,hkn,hs7⟩;have hout:∀τ',JZ ext2 σ0 B.i B.rest l fl js τ'->JZ ext σ0 B.i B.rest l fl js τ':=fun τ' ⟨a,b,c,e,f⟩=>⟨a,b,c,e,f.AO2 w57⟩;clear hs hs5 hs7 m5 m7 hnb hkn
 have look:∀τ',JZ ext2 σ0 B.i B.rest l fl js τ'->(∃j',τ'.blk B.i=some (.ms j' l.length 4 tkN::.d (.bool fl)::[.d (.sl (B.ds.map DE.enc)),.d (.sl (B.G.fs.map FE.enc)),dsA B.G.dt,.ms B.js B.G.sch.length 5 eSs,.ms B.jm B.G.mem.length 1 eMm,.ms B.jp B.G.ps.length 1 ePp,.ms B.jr B.G.rs.length 1 3,.ms B.je B.es.length 1 eEe,.d (.int .i64 (B.cur:Int))]))/\
  τ'.blk B.jp=some (psC B.G.ps)/\τ'.blk B.jr=some (Ct B.G.rs)/\τ'.blk B.je=some es/\τ'.blk j7=some [.fn 161 [] [.gp j5 0]]:=fun τ' ⟨_,_,j',_,h⟩=>
  ⟨⟨j',by rw [h.sn.blk,Em hl0];rfl⟩,h.x _ _ (w57 _ _ xp),h.x _ _ (w57 _ _ xr),h.x _ _ (w57 _ _ xe),h.x _ _ x7⟩
 obtain ⟨⟨jn,k1⟩,k2,k3,k4,k5⟩:=look τ7 hj;have hpa:=sU hpl;have hra:=R3 hrf;have hfp:=ltT (AE.1 hpl).1;have hfr:=ltT (AE.1 hrf).1;have hfe:((f:Int) < (B.es.length:Int))=True:=by rw [<- hes];exact ltT (AE.1 hen).1
 obtain ⟨q1,q2,q3,q4,q5⟩:=T4 en jc;have hcf:=fun (τ':AH) (hj':JZ ext2 σ0 B.i B.rest l fl js τ')=>OG (fid:=161) (caps:=[.gp j5 0]) (by kernel_rfl) rfl (oE l) (JZ ext2 σ0 B.i B.rest l fl js) pl (fun x Z τ hj=>Od he2 x5 x (hp x Z) τ hj) τ' hj';have hce:=fun (τ':AH) (hj':JZ ext2 σ0 B.i B.rest l fl js τ')=>bF (fid:=164) (caps:=[.gp j7 0]) (by kernel_rfl) rfl (AQ7 l) (JZ ext2 σ0 B.i B.rest l fl js) en jc (fun h τ ⟨_,_,_,_,hh⟩=>hh.x _ _ (w57 _ _ (xc h))) hln (fun x Z τ hj=>AAD he2 x5 x7 x (ht x Z).1 (ht x Z).2 τ hj) τ' hj';rw [cC];(repeat' (refine wQ ?_<;>try simp only [k1,k2,k5,hpa,hfp,A9,go_sem]));refine AI.mk rfl (hcf τ7 hj) ?_;rintro _ τ8 ⟨rfl,hj8⟩;obtain ⟨⟨jn8,k1⟩,k2,k3,k4,k5⟩:=look τ8 hj8;cases hc1:pl.any (oE l) with
 |true=>
  simp only [go_sem];(repeat' (refine wP ?_<;>try simp only [go_sem]));exact hout _ hj8
 |false=>
  simp only [k1,k3,k5,hra,hfr,A9,go_sem];have hc2:=Od he2 x5 rf hr τ8 hj8;simp only [nA] at hc2;refine ⟨161,[],[.gp j5 0],rfl,by kernel_rfl,AI.mk rfl hc2 ?_⟩;rintro _ τ9 ⟨rfl,hj9⟩;obtain ⟨⟨jn9,k1⟩,k2,k3,k4,k5⟩:=look τ9 hj9;cases hc3:oE l rf with
  |true=>
   simp only [go_sem];(repeat' (refine wP ?_<;>try simp only [go_sem]));exact hout _ hj9
  |false=>
   simp only [go_sem];(repeat' (refine wQ ?_<;>try simp only [k1,k4,hen,hfe,A9,q1,go_sem]));refine AI.mk (by simp [q2,fY]) (hce τ9 hj9) ?_;rintro _ τ10 ⟨rfl,hj10⟩;simp only [go_sem];(repeat' (refine wP ?_<;>try simp only [go_sem]));exact hout _ hj10
def I0 (l:List Nd):Nat->List Bool×List Nat->Nat->List Bool×List Nat
 |0,s,_=>s
 |k+1,s,n=>
  let r:=rtN l n
  if s.1[r]?=some false then
   (((l[r]?).map Nd.ar).getD []).foldl (fun s a=>I0 l k s a) (s.1.set r true,if ((l[r]?).map Nd.k)=some 0 then s.2++[r] else s.2)
                                                                                   else s
def fz (sn:List Bool):Nat:=sn.countP (·==false)
def AG8 {sn:List Bool} {r:Nat} (h:sn[r]?=some false):fz (sn.set r true)+1=fz sn:=by
 induction sn generalizing r with
 |nil=>simp at h
 |cons x sn ih=>
  cases r with
  |zero=>
   simp only [Aw,AM] at h;subst h;simp [fz,KY]
  |succ r=>
   have:=ih (r:=r) (by simpa using h);simp only [fz,CR,Fj] at this ⊢;omega
def pZ {l:List Bool} {r:Nat} (b:Bool) (h:r < l.length):(BP l).take r++[.d (.bool b)]++(BP l).drop (r+1)=BP (l.set r b):=by
 induction l generalizing r with
 |nil=>cases h
 |cons x l ih=>
  cases r with
  |zero=>simp [BP]
  |succ r=>
   have:=ih (r:=r) (by simpa using h);simp only [BP,AF,C7,Ez,CR,AX] at this ⊢;rw [this]
structure UX (ext:Nat->Option (List AV)) (σb Y:AH) (i:Nat) (l:List Nd) (fl:Bool) (rest:List AV) (j js j5:Nat) (s:List Bool×List Nat) (v:AV):Prop where
 sx:SX ext Y i l fl rest j js (BP s.1)
 row:Y.blk j5=some [v]
 x5:ext j5=none
 ei:j5≠i
 ej:l≠[]->j5≠j
 es:j5≠js
 own:CC (nbH σb) 3 1 (s.2.map CN) v Y
 len:s.1.length=l.length
 bd:s.2.length+fz s.1<=l.length
def UX.step {ext:Nat->Option (List AV)} {σb Y σ':AH} {i j j' js j5:Nat} {l:List Nd} {fl:Bool} {rest:List AV} {s:List Bool×List Nat} {v:AV} (h:UX ext σb Y i l fl rest j js j5 s v) (sn:SN σ' i l fl rest j') (fr:Fr Y i l j σ' l j'):UX ext σb σ' i l fl rest j' js j5 s v:=
 ⟨h.sx.step sn fr,by rw [fr.blk j5 h.ei h.ej (by rw [h.row];simp),h.row],h.x5,h.ei,fr.apart h.ej (by rw [h.row];simp),h.es,h.own.fr fr,h.len,h.bd⟩
def UX.see {ext:Nat->Option (List AV)} {σb Y:AH} {i j js r:Nat} {l:List Nd} {fl:Bool} {rest:List AV} {s:List Bool×List Nat} (h:UX ext σb Y i l fl rest j js j5 s v) (hr:s.1[r]?=some false):UX ext σb (Y.AL js (BP (s.1.set r true))) i l fl rest j js j5 (s.1.set r true,s.2) v:=by
 have:=AG8 hr;exact ⟨h.sx.set _,by rw [AJ,if_neg h.es,h.row],h.x5,h.ei,h.ej,h.es,h.own.Gw ⟨fun _ _ h=>(by cases h),h.own.le.tok,h.own.le.gt,h.own.le.bt⟩ (fun _ _ h=>h),by simp [h.len],by have:=h.bd;simp only;omega⟩
def UX.put {ext:Nat->Option (List AV)} {σb Y:AH} {i j js r:Nat} {l:List Nd} {fl:Bool} {rest:List AV} {sn:List Bool} {out:List Nat} {v':AV} (h:UX ext σb Y i l fl rest j js j5 (sn,out) v) (hb:∀k,σ'.blk k=Y.blk k) (ho:CC (nbH σb) 3 1 ((out++[r]).map CN) v' σ') (hd:out.length+1+fz sn<=l.length):UX ext σb (σ'.AL j5 [v']) i l fl rest j js j5 (sn,out++[r]) v':=by
 have hsx:=h.sx;have hxk:∀k c,ext k=some c->k≠j5:=fun k c hk e=>by rw [e,h.x5] at hk;cases hk
 refine ⟨⟨(hsx.sn.own hb).set h.ei h.ej,by rw [AJ,if_neg (A6 h.es),hb];exact hsx.row,fun k c hk=>by rw [AJ,if_neg (hxk k c hk),hb];exact hsx.x k c hk,hsx.xi,hsx.xj,hsx.xs,hsx.si,hsx.sj⟩,BT,h.x5,h.ei,h.ej,h.es,ho.Gw ⟨fun _ _ h=>(by cases h),ho.le.tok,ho.le.gt,ho.le.bt⟩ (fun _ _ h=>h),h.len,by simp;omega⟩
def w9 (ext:Nat->Option (List AV)) (σb:AH) (i:Nat) (rest:List AV) (l:List Nd) (fl:Bool) (j2 j6 j5 j7 js:Nat) (hln:l.length<=900000000) (h2:ext j2=some [.gp i 0]) (h6:ext j6=some [.ms js l.length 1 eMm]) (h7:ext j7=some [.fn 263 [] [.gp j2 0,.gp j6 0,.gp j5 0,.gp j7 0]]):
 ∀(k:Nat) (s:List Bool×List Nat) (v:AV) (j:Nat) (Y:AH) (n:Nat),fz s.1 < k->n < l.length->UX ext σb Y i l fl rest j js j5 s v->
 AR Tzp 263 [nA n,.gp j2 0,.gp j6 0,.gp j5 0,.gp j7 0] Y (fun _ σ'=>fz (I0 l k s n).1<=fz s.1/\∃v' j',UX ext σb σ' i l fl rest j' js j5 (I0 l k s n) v'):=by
 intro k
 induction k with
 |zero=>intro s v j Y n h;omega
 |succ k ihk=>
 intro s v j Y n hz hn hs;have hl0:l≠[]:=fun e=>by rw [e] at hn;cases hn
 obtain ⟨sn,out⟩:=s;refine Pf (by simp) ?_;rw [show XP [nA n,.gp j2 0,.gp j6 0,.gp j5 0,.gp j7 0]=put 0 (nA n) (put 1 (.gp j2 0) (put 2 (.gp j6 0) (put 3 (.gp j5 0) (put 4 (.gp j7 0) U)))) from AF3 _ _ _ _ _];have hb2:=hs.sx.x _ _ h2;obtain ⟨x,Z,hxp⟩:=hs.sx.sn.Gs.root hn;have hrl:=(AE.1 Z).1;rw [I0];simp only [nA];generalize hr:rtN l n=r at *;(repeat' (first|refine ctQ rfl ?_|((first|refine rgQ mxQ ?_|refine cdQ ?_)<;>try simp only [hb2,go_sem])|fail));refine AI.mk rfl (Gz i j l fl rest Y n hs.sx.sn hn hln) ?_;rintro _ σ1 ⟨rfl,j8,sn8,fr8⟩;rw [hr];simp only [nA];simp only [go_sem];have hs8:=hs.step sn8 fr8;clear hs sn8 fr8 hb2;have hb2:=hs8.sx.x _ _ h2;have hb6:=hs8.sx.x _ _ h6;have hbs:=hs8.sx.row;have hlen:sn.length=l.length:=hs8.len;obtain ⟨b,hb⟩:=Ai (show r < sn.length by omega);have hba:=pY hb;have hrT:=ltT hrl;cases b with
 |true=>
  rw [hb];simp only [AM,Bool.true_eq_false,if_false];(repeat' (first|refine ctQ rfl ?_|((first|refine rgQ mxQ ?_|refine cdQ ?_|refine Run.qP FZ ?_)<;>try simp only [hb6,hbs,hba,hrT,A9,go_sem])|fail));exact ⟨v,j8,hs8⟩
 |false=>
  rw [if_pos hb];have hle1:(r+1<=(BP sn).length)=True:=by rw [PJ];simp;omega
  have hset:=pZ true (show r < sn.length by omega);have hs9:=hs8.see hb;have hz9:=AG8 hb;have d2:(j2=js)=False:=by simp only [eq_iff_iff,iff_false];intro e;rw [e,hs8.sx.xs] at h2;cases h2
  have di:(i=js)=False:=by simp only [eq_iff_iff,iff_false];exact fun e=>hs8.sx.si e.symm
  have dj:(j8=js)=False:=by simp only [eq_iff_iff,iff_false];exact fun e=>hs8.sx.sj hl0 e.symm
  have d5:(j5=js)=False:=by simp only [eq_iff_iff,iff_false];exact hs8.es
  obtain ⟨hji,c,hrep,hbj⟩:=hs8.sx.sn.nd hl0;have hbi:=hs8.sx.sn.blk;rw [Em hl0] at hbi;obtain ⟨y,hy,yk,yn,ya⟩:=hrep.at Z;obtain ⟨y1,_,y3,_⟩:=Sn hy;rw [yk] at y1;rw [ya] at y3;have hv5:=hs8.row;have hbd:=hs8.bd;simp only at hz hbd hs9;have hbs':σ1.blk js=some (BP sn):=hbs
  -- behind the test
  have hrest:∀(τ:AH) (v4:AV) (j9:Nat) (out4:List Nat),UX ext σb τ i l fl rest j9 js j5 (sn.set r true,out4) v4->
   Run Cp (fun _ σ'=>fz (x.ar.foldl (fun s a=>I0 l k s a) (sn.set r true,out4)).1<=fz sn/\∃v' j',UX ext σb σ' i l fl rest j' js j5 (x.ar.foldl (fun s a=>I0 l k s a) (sn.set r true,out4)) v')
    [.code (.loop HJ),.blk 0] (put 4 (.gp j7 0) (put 40 (.d (.sl (x.ar.map CN))) (put 41 (.d (.int .i64 (x.ar.length:Int))) (put 42 (.d (.int .i64 0)) U)))) E τ:=by
   intro τ v4 j9 out4 hu;refine Run.slot 40 (fun hsl=>?_);simp only [DR,reduceIte,HN,AV.Ev,AA] at hsl;refine Run.BB ?_
   refine Run.BE ((fun (a4:AV) (a40:AV) (a41:AV)=>fun (z:Nat×AH)=>put 4 a4 (put 40 a40 (put 41 a41 (put 42 (.d (.int .i64 z.1)) U)))) _ _ _) (fun _=>E) (fun z=>z.2)
    (fun z=>z.1<=x.ar.length/\fz ((x.ar.take z.1).foldl (fun s a=>I0 l k s a) (sn.set r true,out4)).1+1<=fz sn/\∃v' j',UX ext σb z.2 i l fl rest j' js j5 ((x.ar.take z.1).foldl (fun s a=>I0 l k s a) (sn.set r true,out4)) v')
    (fun z=>x.ar.length - z.1) ?_ (0,τ) ⟨by simp,by simp only [C0,List.foldl_nil];omega,v4,j9,hu⟩
   rintro ⟨p,τ5⟩ ⟨hp,hfz,v5,j10,hu5⟩ ih;simp only at hp hfz hu5;have hb7:=hu5.sx.x _ _ h7;by_cases hlt:p < x.ar.length
   . obtain ⟨a,ha⟩:=Ai hlt;have har:=HT ha;have hal:=hu5.sx.sn.Gs.ar _ _ Z a (AD ha)
     have hst:(x.ar.take (p+1)).foldl (fun s a=>I0 l k s a) (sn.set r true,out4)=I0 l k ((x.ar.take p).foldl (fun s a=>I0 l k s a) (sn.set r true,out4)) a:=by
      rw [A5 ha,Ch];rfl
     have hw1:=wsu p;have hcall:=ihk _ v5 j10 τ5 a (by omega) hal hu5;simp only [nA] at hcall;(repeat' (first|refine ctQ rfl ?_|((first|refine rgQ mxQ ?_|refine cdQ ?_)<;>try simp only [Ap hlt,har,hb7,go_sem])|fail));refine ⟨263,[],[.gp j2 0,.gp j6 0,.gp j5 0,.gp j7 0],rfl,by kernel_rfl,AI.mk rfl hcall ?_⟩;rintro v6 τ6 ⟨hz6,v7,j11,hu6⟩;simp only [go_sem];(repeat' (first|refine ctQ rfl ?_|((first|refine rgQ mxQ ?_|refine cdQ ?_)<;>try simp only [hw1,go_sem])|fail));exact ih ⟨p+1,τ6⟩ ⟨hlt,by simp only [hst];omega,v7,j11,by simp only [hst];exact hu6⟩ (by simp only;omega)
   . have hpe:p=x.ar.length:=by omega
     subst hpe;rw [BQ] at hfz hu5;(repeat' (first|refine ctQ rfl ?_|((first|refine rgQ mxQ ?_|refine cdQ ?_)<;>try simp only [B7 hlt,go_sem])|fail));exact Run.fin FZ rfl (fun _ _ h=>h) (AH.le_refl _) ⟨by omega,v5,j10,hu5⟩
  simp only [Z,Ac,BA,AM];by_cases hk0:x.k=0
  . rw [if_pos hk0];have hkb:(x.k==0)=true:=by simpa using hk0
    have how:=hs9.own;(repeat' (first|refine ctQ rfl ?_|((first|refine rgQ mxQ ?_|refine cdQ ?_)<;>try simp only [hb6,hbs,hba,hrT,A9,hle1,hset,d2,di,dj,d5,hb2,hbi,hbj,y1,hkb,hv5,how.cell,go_sem])|fail));refine Dh.own how rfl (by simp) (by simp;omega) (by omega) (fun v' τ3 ho' hb'=>?_);have h35:τ3.blk j5=some [v]:=by rw [hb'];exact hs9.row
    simp only [ho'.cells,ho'.cell,h35,go_sem];have hu:=hs9.put (r:=r) hb' (by rw [Ao];exact ho') (by omega);have hb2':=hu.sx.x _ _ h2;obtain ⟨_,c',hrep',hbj'⟩:=hu.sx.sn.nd hl0;have hbi':=hu.sx.sn.blk;rw [Em hl0] at hbi';obtain ⟨y',hy',_,_,ya'⟩:=hrep'.at Z;obtain ⟨_,_,y3',_⟩:=Sn hy';rw [ya'] at y3';have hre:=hrest _ v' j8 _ hu;generalize τ3.AL j5 [v']=τ4 at *;(repeat' (first|refine ctQ rfl ?_|((first|refine rgQ mxQ ?_|refine cdQ ?_)<;>try simp only [hb2',hrT,hbi',hbj',y3',AA,go_sem])|fail));exact hre
  . rw [if_neg hk0];have hkb:(x.k==0)=false:=by simpa using hk0
    have how:=hs9.own;(repeat' (first|refine ctQ rfl ?_|((first|refine rgQ mxQ ?_|refine cdQ ?_)<;>try simp only [hb6,hbs,hba,hrT,A9,hle1,hset,d2,di,dj,hb2,hbi,hbj,y1,y3,hkb,AA,go_sem])|fail));exact hrest _ v j8 _ hs9
def VL (G:GC) (k:Ex) (env:Env) (f:Nat->Nat->SS->SS):∀(ks:List Ex) (i:Nat) (g:GS),De G (ks++[k]) env i f g= { (Bb G k env (De G ks env i f g)).2 with s:=f (i+ks.length) (Bb G k env (De G ks env i f g)).1 (Bb G k env (De G ks env i f g)).2.s}
 |[],i,g=>by simp [De]
 |u::ks,i,g=>by
  rw [AX,De];simp only [VL G k env f ks];simp only [De,A0];rw [show i+1+ks.length=i+(ks.length+1) from by omega]
structure KS (B:GB) (Y:AH) (g:GS) (ks:List Ex) (g':GS) (σ':AH):Prop where
 nb:(nbH Y).le σ'
 gx:∃j jc,GX B σ' g' j jc
 le:g.nx<=g'.nx
 hi:g'.nx<=g.nx+1000000 * Ex.AQ ks
 en:g'.en.length=g.en.length+Ex.AQ ks
def KS.nil {B:GB} {Y:AH} {g:GS} {j jc:Nat} (h:GX B Y g j jc):KS B Y g [] g Y:=⟨Hq Y,⟨j,jc,h⟩,AS _,by simp [Ex.AQ],by simp [Ex.AQ]⟩
def KS.snoc {Y τ:AH} {g1 g2 g3:GS} {n:Nat} {k:Ex} (hk:ks[p]?=some k) (h:KS B Y g (ks.take p) g1 τ) (q:RQ B τ g1 n (1000000 * k.size) k.size g2 τ') {τ2:AH} {j:Nat} (hn:(nbH τ').le τ2) (hg:GX B τ2 g3 j jc) (h1:g2.nx<=g3.nx) (h2:g3.nx<=g2.nx+500000) (h3:g3.en.length=g2.en.length):KS B Y g (ks.take (p+1)) g3 τ2:=by
 obtain ⟨hz1,hz2⟩:=Ex.IM hk;have a1:=h.le;have a2:=h.hi;have a3:=h.en;have b1:=q.le;have b2:=q.hi;have b3:=q.en;exact ⟨BH (BH h.nb q.nb) hn,⟨j,jc,hg⟩,by omega,by omega,by omega⟩
def opF:Nat->Nat->SS->SS:=fun _ r s=>Go.Ab.uni (Ke s.1 1 0 [],s.2) r s.1.length
def AEC (B:GB) (hB:HM B) (nm:Str) (nu:Int) (ns:List Str) (ks:List Ex) (al:List Al) (hk:∀k∈ks,ExC B k) (sc:List Str) (env:Env) (g:GS) (Y:AH) (j jc:Nat) (hok:∀k∈ks,OkE B.G k sc) (hes:ES sc env g) (hnx:g.nx+1000000 * (1+Ex.AQ ks)<=900000000) (hen:g.en.length+Ex.AQ ks<=900000000) (hg:GX B Y g j jc):
 AR Tzp 225 [.gp B.i 0,exA (.mk 13 nm nu ns ks al),.d (Ij env)] Y (fun v σ'=>v=nA (De B.G ks env 0 opF g).nx/\RQ B Y g (De B.G ks env 0 opF g).nx (1000000 * (1+Ex.AQ ks)) (Ex.AQ ks) ((De B.G ks env 0 opF g).add (if 6<=nu/\nu<=8 then 2 else 1) 0 []) σ'):=by
 have hkl:=Ex.Bx ks;refine Ti (by simp) ?_;rw [DK];simp only [exA,Ex.A4,AF,AN];(repeat' (refine wQ ?_<;>try simp only [AA,go_sem]));refine Run.BB ?_
 refine Run.BE ((fun (a0:AV) (a2:AV) (a4:AV) (a10:AV) (a11:AV)=>fun (z:Nat×AH)=>put 0 a0 (put 2 a2 (put 4 a4 (put 10 a10 (put 11 a11 (put 12 (.d (.int .i64 z.1)) U)))))) _ _ _ _ _) (fun _=>At 4 [.d (.int .i64 13),.d (.str nm),.d (.int .i64 nu),.d (.sl (ns.map BX)),.d (.sl (ks.map Ex.enc)),.d (.sl (al.map Al.enc))] E) (fun z=>z.2)
  (fun z=>z.1<=ks.length/\KS B Y g (ks.take z.1) (De B.G (ks.take z.1) env 0 opF g) z.2)
  (fun z=>ks.length - z.1) ?_ (0,Y) ⟨by simp,by simp only [C0,De];exact KS.nil hg⟩
 rintro ⟨p,τ⟩ ⟨hp,hr⟩ ih;simp only at hp hr;by_cases hlt:p < ks.length
 . obtain ⟨k,hke⟩:=Ai hlt;have he:=BI (enc:=Ex.enc) hke;have hw1:=wsu p;obtain ⟨hz1,hz2⟩:=Ex.IM hke;have hsn:=VL B.G k env opF (ks.take p) 0 g;rw [<- A5 hke] at hsn;generalize De B.G (ks.take p) env 0 opF g=q at *;obtain ⟨j1,jc1,hg1⟩:=hr.gx;have hhi:=hr.hi;have hle:=hr.le;have hen1:=hr.en;have hmem:=AD hke;have hc:=hk k hmem sc env q τ j1 jc1 (hok k hmem) (hes.le hle) (by omega) (by omega) hg1;generalize Bb B.G k env q=r at *;have hke':=hke;obtain ⟨o,n,u,ns',kk,al'⟩:=k;simp only [Ex.A4,exA,AF,AN] at he hc;(repeat' (first|refine ctQ rfl ?_|((first|refine rgQ mxQ ?_|refine cdQ ?_)<;>try simp only [Ap hlt,he,go_sem])|fail));refine AI.mk rfl hc ?_;rintro _ τ1 ⟨rfl,hq⟩;simp only [nA];simp only [go_sem];obtain ⟨j2,jc2,hg2⟩:=hq.gx;have hql':=hq.le;have hqh:=hq.hi;have hrl:r.2.s.1.length=r.2.nx:=rfl;refine AI.mk rfl (Bt B.i j2 r.2.s.1 r.2.s.2 B.rest τ1 1 .Ad [] hg2.sn Rj.Ad (by simp) (by omega)) ?_;intro v3 τ2 q3;obtain ⟨e3,hn3,j3,hg3⟩:=hg2.add hB q3;subst e3;simp only [nA];simp only [go_sem]
   refine AI.mk rfl (CU B.i B.rest _ _ (r.2.add 1 0 []).s.2 j3 r.1 r.2.s.1.length τ2 (OD (r.2.add 1 0 []).s.1) hg3.sn (by have:=hq.lt;have:=Cn r.2 1 0 [];simp only [GS.nx] at this ⊢;simp only [GS.nx] at *;omega) (by have:=Cn r.2 1 0 [];simp only [GS.nx] at this;omega) (by have:=Cn r.2 1 0 [];simp only [GS.nx] at this;omega)) ?_;intro v4 τ3 q4;obtain ⟨hn4,j4,hg4⟩:=hg3.uni hB q4;simp only [go_sem];(repeat' (first|refine ctQ rfl ?_|((first|refine rgQ mxQ ?_|refine cdQ ?_)<;>try simp only [hw1,go_sem])|fail));refine ih ⟨p+1,τ3⟩ ⟨hlt,?_⟩ (by simp only;omega);simp only [hsn];exact hr.snoc hke' hq (BH hn3 hn4) hg4 (show _<=((r.2.add 1 0 []).uni r.1 r.2.s.1.length).nx from by rw [MT,Cn];omega) (show ((r.2.add 1 0 []).uni r.1 r.2.s.1.length).nx<=_ from by rw [MT,Cn];omega) rfl
 . have hpe:p=ks.length:=by omega
   subst hpe;rw [BQ] at hr;obtain ⟨j1,jc1,hg1⟩:=hr.gx;have hhi:=hr.hi;have hle:=hr.le;have hen1:=hr.en;generalize De B.G ks env 0 opF g=q at *;have hql:q.s.1.length=q.nx:=rfl;have hfm:=fun k=>Bt B.i j1 q.s.1 q.s.2 B.rest τ k .Ad [] hg1.sn Rj.Ad (by simp) (by omega)
   have hfin:∀k v σ',SNQ τ B.i q.s.1 B.rest j1 (Ke q.s.1 k 0 [],q.s.2) (nA q.s.1.length) v σ'->RQ B Y g q.nx (1000000 * (1+Ex.AQ ks)) (Ex.AQ ks) (q.add k 0 []) σ':=fun k v σ' q3=>by
    obtain ⟨e3,hn3,j3,hg3⟩:=hg1.add hB q3;exact ⟨BH hr.nb hn3,⟨j3,jc1,hg3⟩,by rw [Cn];omega,by rw [Cn];omega,by rw [Cn];omega,hen1⟩
   by_cases hc:6<=nu/\nu<=8
   . rw [if_pos hc];have hcs:nu=6\/nu=7\/nu=8:=by omega
     rcases hcs with rfl|rfl|rfl<;>
     . (repeat' (first|((first|refine wP ?_|(refine Ae rfl (fun h=>?_) (fun h=>?_)<;>try (cases h;done))|fail)<;>try simp only [B7 hlt,go_sem])|(refine ⟨fun h=>?_,fun h=>?_⟩<;>first|(cases h;done)|try simp only [h])|fail));refine AI.mk rfl (hfm 2) ?_;intro v σ' q3;have hq:=hfin 2 v σ' q3;obtain ⟨e3,_⟩:=q3;subst e3;simp only [nA];simp only [go_sem];(repeat' (refine wP ?_<;>try simp only [go_sem]));exact ⟨rfl,hq⟩
   . rw [if_neg hc];have b6:(nu==6)=false:=by simp;omega
     have b7:(nu==7)=false:=by simp;omega
     have b8:(nu==8)=false:=by simp;omega
     (repeat' (refine wP ?_<;>try simp only [B7 hlt,b6,b7,b8,go_sem]));refine AI.mk rfl (hfm 1) ?_;intro v σ' q3;have hq:=hfin 1 v σ' q3;obtain ⟨e3,_⟩:=q3;subst e3;simp only [nA];simp only [go_sem];(repeat' (refine wP ?_<;>try simp only [go_sem]));exact ⟨rfl,hq⟩
def prF (nu:Int) (b:Nat):Nat->Nat->SS->SS:=fun i r s=>Go.Ab.uni s r ((Zv nu b).1.getD i 0)
def AKU {nu:Int} :(∀a∈(Zv nu b).1,a < b+5)/\(Zv nu b).2 < b+5:=by
 unfold Zv
 repeat' split
 all_goals simp<;>omega
def AN7 (B:GB) (hB:HM B) (nm:Str) (nu:Int) (ns:List Str) (ks:List Ex) (al:List Al) (hk:∀k∈ks,ExC B k) (sc:List Str) (env:Env) (b:Nat) (g:GS) (Y:AH) (j jc:Nat) (hb:g.nx=b+5) (hl:ks.length<=(Zv nu b).1.length) (hok:∀k∈ks,OkE B.G k sc) (hes:ES sc env g) (hnx:g.nx+1000000 * Ex.AQ ks<=900000000) (hen:g.en.length+Ex.AQ ks<=900000000) (hg:GX B Y g j jc)
 (Q:AV->AH->Prop) (hQ:∀σ',KS B Y g ks (De B.G ks env 0 (prF nu b) g) σ'->Q (nA (Zv nu b).2) σ'):
 Run DN Q [.code (.loop Hl),.blk 1,.code (.seq (.reg [⟨some 100,.mv (.t 12),none⟩,⟨some 6,.mv (.t 100),none⟩] [6]) .ret)]
  (put 0 (.gp B.i 0) (put 2 (.d (Ij env)) (put 11 (.d (.sl ((Zv nu b).1.map CN))) (put 12 (nA (Zv nu b).2) (put 80 (.d (.sl (ks.map Ex.enc))) (put 81 (.d (.int .i64 (ks.length:Nat))) (put 82 (.d (.int .i64 0)) U))))))) E Y:=by
 have hkl:=Ex.Bx ks;refine Run.BB ?_
 refine Run.BE ((fun (a0:AV) (a2:AV) (a11:AV) (a12:AV) (a80:AV) (a81:AV)=>fun (z:Nat×AH)=>put 0 a0 (put 2 a2 (put 11 a11 (put 12 a12 (put 80 a80 (put 81 a81 (put 82 (.d (.int .i64 z.1)) U))))))) _ _ _ _ _ _) (fun _=>E) (fun z=>z.2)
  (fun z=>z.1<=ks.length/\KS B Y g (ks.take z.1) (De B.G (ks.take z.1) env 0 (prF nu b) g) z.2)
  (fun z=>ks.length - z.1) ?_ (0,Y) ⟨by simp,by simp only [C0,De];exact KS.nil hg⟩
 rintro ⟨p,τ⟩ ⟨hp,hr⟩ ih;simp only at hp hr;by_cases hlt:p < ks.length
 . obtain ⟨k,hke⟩:=Ai hlt;have he:=BI (enc:=Ex.enc) hke;have hw1:=wsu p;obtain ⟨hz1,hz2⟩:=Ex.IM hke;have hsn:=VL B.G k env (prF nu b) (ks.take p) 0 g;rw [<- A5 hke] at hsn;generalize De B.G (ks.take p) env 0 (prF nu b) g=q at *;obtain ⟨j1,jc1,hg1⟩:=hr.gx;have hhi:=hr.hi;have hle:=hr.le;have hen1:=hr.en;have hmem:=AD hke;have hc:=hk k hmem sc env q τ j1 jc1 (hok k hmem) (hes.le hle) (by omega) (by omega) hg1;generalize Bb B.G k env q=r at *;obtain ⟨u,hu⟩:=Ai (show p < (Zv nu b).1.length by omega);have hur:=HT hu;have hul:=(AKU (nu:=nu) (b:=b)).1 u (AD hu);have hke':=hke;obtain ⟨o,n,u',ns',kk,al'⟩:=k;simp only [Ex.A4,exA,AF,AN] at he hc;simp only [nA] at ih ⊢;(repeat' (first|refine ctQ rfl ?_|((first|refine rgQ mxQ ?_|refine cdQ ?_)<;>try simp only [Ap hlt,he,go_sem])|fail));refine Run.IX mixed ?_;simp only [hur,go_sem];refine ⟨?_,?_⟩<;>
   . refine AI.mk rfl hc ?_;rintro _ τ1 ⟨rfl,hq⟩;simp only [nA];simp only [go_sem];obtain ⟨j2,jc2,hg2⟩:=hq.gx;have hql':=hq.le;have hqh:=hq.hi;have hrl:r.2.s.1.length=r.2.nx:=rfl;refine AI.mk rfl (CU B.i B.rest _ _ r.2.s.2 j2 r.1 u τ1 (OD r.2.s.1) hg2.sn hq.lt (by omega) (by omega)) ?_;intro v4 τ3 q4;obtain ⟨hn4,j4,hg4⟩:=hg2.uni hB q4;simp only [go_sem];(repeat' (refine wQ ?_<;>try simp only [hw1,go_sem]));refine ih ⟨p+1,τ3⟩ ⟨hlt,?_⟩ (by simp only;omega)
     have hpf:prF nu b (0+(ks.take p).length) r.1 r.2.s=Go.Ab.uni r.2.s r.1 u:=by
      rw [prF,show 0+(ks.take p).length=p from by simp;omega,A2,hu];rfl
     simp only [hsn,hpf];exact hr.snoc hke' hq hn4 hg4 (show _<=(r.2.uni r.1 u).nx from by rw [MT];omega) (show (r.2.uni r.1 u).nx<=_ from by rw [MT];omega) rfl
 . have hpe:p=ks.length:=by omega
   subst hpe;rw [BQ] at hr;have:=hQ τ hr;simp only [nA] at this ⊢;(repeat' (refine wP ?_<;>try simp only [B7 hlt,go_sem]));exact this
def prG (g:GS):GS:=((((g.add 1 0 []).add 0 0 []).add 7 0 [g.nx+1]).add 8 0 [g.nx+1]).add 3 0 []
def AY4 (g:GS):(prG g).nx=g.nx+5:=by simp [prG,Cn]
def Y4 (G:GC) (nu:Int) (ks:List Ex) (env:Env) (g:GS):Nat×GS:=((Zv nu g.nx).2,De G ks env 0 (prF nu g.nx) (prG g))
def AJE (B:GB) (hB:HM B) (nm:Str) (nu:Int) (ns:List Str) (ks:List Ex) (al:List Al) (hk:∀k∈ks,ExC B k) (sc:List Str) (env:Env) (g:GS) (Y:AH) (j jc:Nat) (hnu:1<=nu/\nu<=7) (hl:ks.length=aZ nu) (hok:∀k∈ks,OkE B.G k sc) (hes:ES sc env g) (hnx:g.nx+1000000 * (1+Ex.AQ ks)<=900000000) (hen:g.en.length+Ex.AQ ks<=900000000) (hg:GX B Y g j jc):
 AR Tzp 226 [.gp B.i 0,exA (.mk 14 nm nu ns ks al),.d (Ij env)] Y (fun v σ'=>v=nA (Y4 B.G nu ks env g).1/\RQ B Y g (Y4 B.G nu ks env g).1 (1000000 * (1+Ex.AQ ks)) (Ex.AQ ks) (Y4 B.G nu ks env g).2 σ'):=by
 have hkl:=Ex.Bx ks;generalize hQ:(fun v σ'=>v=nA (Y4 B.G nu ks env g).1/\RQ B Y g (Y4 B.G nu ks env g).1 (1000000 * (1+Ex.AQ ks)) (Ex.AQ ks) (Y4 B.G nu ks env g).2 σ')=Q;have n1:=Cn g 1 0 [];have n2:=Cn (g.add 1 0 []) 0 0 [];have n3:=Cn ((g.add 1 0 []).add 0 0 []) 7 0 [g.nx+1];have n4:=Cn (((g.add 1 0 []).add 0 0 []).add 7 0 [g.nx+1]) 8 0 [g.nx+1];have l0:g.s.1.length=g.nx:=rfl;refine S6 (by simp) ?_;rw [DK];simp only [exA,Ex.A4,AF,AN];(repeat' (refine wP ?_<;>try simp only [go_sem]));refine AI.mk rfl (Bt B.i j g.s.1 g.s.2 B.rest Y 1 .Ad [] hg.sn Rj.Ad (by simp) (by omega)) ?_;intro v τ1 q;obtain ⟨rfl,h1,j1,hg1⟩:=hg.add hB q;clear q;rw [l0];simp only [nA];simp only [go_sem];have l1:(g.add 1 0 []).s.1.length=g.nx+1:=n1;refine AI.mk rfl (Fq B.i j1 (g.add 1 0 []).s.1 (g.add 1 0 []).s.2 B.rest τ1 hg1.sn (by omega)) ?_;intro v τ2 q;obtain ⟨rfl,h2,j2,hg2⟩:=hg1.add hB q;clear q;rw [l1];simp only [nA];simp only [go_sem];(repeat' (refine wP ?_<;>try simp only [go_sem]));have l2:((g.add 1 0 []).add 0 0 []).s.1.length=g.nx+2:=n2.trans (by omega);have hrow:Rj (.d (.sl [[.int .i64 ((g.nx+1:Nat):Int)]])) ([g.nx+1].map CN):=Rj.d _
 refine AI.mk rfl (Bt B.i j2 _ ((g.add 1 0 []).add 0 0 []).s.2 B.rest τ2 7 _ [g.nx+1] hg2.sn hrow (by simp only [A3];intro a ha;subst ha;omega) (by omega)) ?_;intro v τ3 q;obtain ⟨rfl,h3,j3,hg3⟩:=hg2.add hB q;clear q;rw [l2];simp only [nA];simp only [go_sem];have l3:(((g.add 1 0 []).add 0 0 []).add 7 0 [g.nx+1]).s.1.length=g.nx+3:=by have:=n3;simp only [GS.nx] at this ⊢;omega
 refine AI.mk rfl (Bt B.i j3 _ (((g.add 1 0 []).add 0 0 []).add 7 0 [g.nx+1]).s.2 B.rest τ3 8 _ [g.nx+1] hg3.sn hrow (by simp only [A3];intro a ha;subst ha;omega) (by omega)) ?_;intro v τ4 q;obtain ⟨rfl,h4,j4,hg4⟩:=hg3.add hB q;clear q;rw [l3];simp only [nA];simp only [go_sem];(repeat' (refine wP ?_<;>try simp only [go_sem]));have l4:((((g.add 1 0 []).add 0 0 []).add 7 0 [g.nx+1]).add 8 0 [g.nx+1]).s.1.length=g.nx+4:=by have:=n4;simp only [GS.nx] at this l3 ⊢;omega
 refine AI.mk rfl (Bt B.i j4 _ ((((g.add 1 0 []).add 0 0 []).add 7 0 [g.nx+1]).add 8 0 [g.nx+1]).s.2 B.rest τ4 3 .Ad [] hg4.sn Rj.Ad (by simp) (by omega)) ?_;intro v τ5 q;obtain ⟨rfl,h5,j5,hg5⟩:=hg4.add hB q;clear q;rw [l4];simp only [nA];simp only [go_sem];have hnb:(nbH Y).le τ5:=BH (BH (BH (BH h1 h2) h3) h4) h5;have hg5':GX B τ5 (prG g) j5 jc:=hg5;have h5n:=AY4 g;have hlp:=fun h Q' hQ'=>AN7 B hB nm nu ns ks al hk sc env g.nx (prG g) τ5 j5 jc h5n h hok (hes.le (by omega)) (by omega) hen hg5' Q' hQ'
 have hfin:∀σ',KS B τ5 (prG g) ks (De B.G ks env 0 (prF nu g.nx) (prG g)) σ'->Q (nA (Zv nu g.nx).2) σ':=fun σ' h=>by
  rw [<- hQ];have a1:=h.le;have a2:=h.hi;have a3:=(AKU (nu:=nu) (b:=g.nx)).2;exact ⟨rfl,BH hnb h.nb,h.gx,by simp only [Y4];omega,by simp only [Y4];omega,by simp only [Y4];omega,h.en⟩
 have hcs:nu=1\/nu=2\/nu=3\/nu=4\/nu=5\/nu=6\/nu=7:=by omega
 rcases hcs with rfl|rfl|rfl|rfl|rfl|rfl|rfl<;>
 . have:=hlp (by rw [hl];simp [aZ,Zv]) Q hfin;(repeat' (first|((first|refine wQ ?_|(refine Ae rfl (fun h=>?_) (fun h=>?_)<;>try (cases h;done))|fail)<;>try simp only [AA,go_sem])|(refine ⟨fun h=>?_,fun h=>?_⟩<;>first|(cases h;done)|try simp only [h])|fail));exact this
def AGU (ar:List Nat) (ts:List Ty):Nat->Nat->SS->SS:=fun i r s=>Go.Ab.uni ((Eu ar s.1 (ts.getD i (.mk 0 0 []))).2,s.2) r (Eu ar s.1 (ts.getD i (.mk 0 0 []))).1
def ALZ (G:GC) (D:Dat) (ts:List Ty) (d:Nat) (ks:List Ex) (env:Env) (g:GS):Nat×GS:=
 let h:=De G ks env 0 (AGU (A8 g.nx D.vars.toNat) ts) (g.frs D.vars.toNat)
 (h.nx,h.add 5 d (A8 g.nx D.vars.toNat))
def AJD (B:GB) (hB:HM B) (hD:GD B.G) (nm:Str) (nu:Int) (ns:List Str) (ks:List Ex) (al:List Al) (hk:∀k∈ks,ExC B k) (sc:List Str) (env:Env) (d c:Nat) (D:Dat) (con:Con) (hct:El B.G.dt nm=some (d,c)) (hdd:B.G.dt[d]?=some D) (hcc:D.cons[c]?=some con) (hln:ks.length=con.args.length)
 (g:GS) (Y:AH) (j jc:Nat) (hok:∀k∈ks,OkE B.G k sc) (hes:ES sc env g) (hnx:g.nx+1000000 * (1+Ex.AQ ks)<=900000000) (hen:g.en.length+Ex.AQ ks<=900000000) (hg:GX B Y g j jc):
 AR Tzp 223 [.gp B.i 0,exA (.mk 6 nm nu ns ks al),.d (Ij env)] Y (fun v σ'=>v=nA (ALZ B.G D con.args d ks env g).1/\RQ B Y g (ALZ B.G D con.args d ks env g).1 (1000000 * (1+Ex.AQ ks)) (Ex.AQ ks) (ALZ B.G D con.args d ks env g).2 σ'):=by
 have hkl:=Ex.Bx ks;obtain ⟨v1,v2,v3,v4⟩:=hD.dt D (AD hdd);obtain ⟨c1,c2⟩:=v4 con (AD hcc);have hdr:=Um hdd;have hcr:=ZB hcc;obtain ⟨Dn,Dv,Dc⟩:=D;obtain ⟨cn,ts⟩:=con;obtain ⟨n,rfl⟩:=G5 v1;simp only [CO,Ty.Bf] at v1 v2 v3 v4 c1 c2 hdr hcr hcc hln ⊢;simp only [ALZ,CO];have hnl:n<=1000:=by omega
 have hcs:=Ka B.G.dt (fun d hd=>(hD.dt d hd).2.2.1) nm Y;rw [hct] at hcs;simp only [qM] at hcs;have hbi:=hg.bi;refine Zm (by simp) ?_;rw [DK];simp only [exA,Ex.A4,AF,AN];simp only [dsA] at hbi hcs;(repeat' (first|refine ctQ rfl ?_|((first|refine rgQ mxQ ?_|refine cdQ ?_|refine AI.det (hcs) ?_)<;>try simp only [hbi,hdr,go_sem])|fail));refine AI.mk rfl (Dx B.i j g.s.1 g.s.2 B.rest Y n hg.sn (by omega) (by have:g.s.1.length=g.nx:=rfl;omega)) ?_;intro v τ0 q;obtain ⟨rfl,hnb0,j0,hg0⟩:=hg.frs hB q;clear q;have l0:g.s.1.length=g.nx:=rfl;rw [l0];simp only [go_sem];(repeat' (first|refine ctQ rfl ?_|((first|refine rgQ mxQ ?_|refine cdQ ?_)<;>try simp only [AA,go_sem])|fail));have hn0:=dE g n;have har:∀a∈A8 g.nx n,a < g.nx+n:=fun a ha=>by rw [TH] at ha;omega
 have hrl:(A8 g.nx n).length=n:=by simp
 generalize A8 g.nx n=ar at *;have hg0e:(g.frs n).en.length=g.en.length:=rfl;generalize g.frs n=g0 at *;refine Run.BB ?_
 refine Run.BE ((fun (a0:AV) (a2:AV) (a7:AV) (a8:AV) (a10:AV) (a37:AV) (a38:AV)=>fun (z:Nat×AH)=>put 0 a0 (put 2 a2 (put 7 a7 (put 8 a8 (put 10 a10 (put 37 a37 (put 38 a38 (put 39 (.d (.int .i64 z.1)) U)))))))) _ _ _ _ _ _ _) (fun _=>E) (fun z=>z.2)
  (fun z=>z.1<=ks.length/\KS B τ0 g0 (ks.take z.1) (De B.G (ks.take z.1) env 0 (AGU ar ts) g0) z.2)
  (fun z=>ks.length - z.1) ?_ (0,τ0) ⟨by simp,by simp only [C0,De];exact KS.nil hg0⟩
 rintro ⟨p,τ⟩ ⟨hp,hr⟩ ih;simp only at hp hr;by_cases hlt:p < ks.length
 . obtain ⟨k,hke⟩:=Ai hlt;have he:=BI (enc:=Ex.enc) hke;have hw1:=wsu p;obtain ⟨hz1,hz2⟩:=Ex.IM hke;have hsn:=VL B.G k env (AGU ar ts) (ks.take p) 0 g0;rw [<- A5 hke] at hsn;generalize De B.G (ks.take p) env 0 (AGU ar ts) g0=q at *;obtain ⟨j1,jc1,hg1⟩:=hr.gx;have hhi:=hr.hi;have hle:=hr.le;have hen1:=hr.en;have hmem:=AD hke;have hc:=hk k hmem sc env q τ j1 jc1 (hok k hmem) (hes.le (by omega)) (by omega) (by omega) hg1;generalize Bb B.G k env q=r at *;obtain ⟨t,ht⟩:=Ai (show p < ts.length by omega);have htr:=BI (enc:=Ty.enc) ht;have htm:=AD ht;have htv:=UT c1 t htm;have hts:=Af (Ty.lG htm) c2;have hke':=hke;have hbq:=hg1.bi;simp only [dsA] at hbq;obtain ⟨o,n',u',ns',kk,al'⟩:=k;obtain ⟨tk,tn,tl⟩:=t;simp only [Ex.A4,exA,AF,AN] at he hc;have hte:(Ty.mk tk tn tl).enc=[.int .i64 tk,.int .i64 tn,.sl (tl.map Ty.enc)]:=by simp [Ty.enc,Ty.Bf]
   rw [hte] at htr;(repeat' (first|refine ctQ rfl ?_|((first|refine rgQ mxQ ?_|refine cdQ ?_)<;>try simp only [Ap hlt,he,go_sem])|fail));refine Run.IX mixed ?_;simp only [hbq,hdr,hcr,htr,go_sem]
   have hcf:∀(s:SS) (m:Nat),AGU ar ts (0+(ks.take p).length) m s=Go.Ab.uni ((Eu ar s.1 (.mk tk tn tl)).2,s.2) m (Eu ar s.1 (.mk tk tn tl)).1:=fun s m=>by
    rw [AGU,show 0+(ks.take p).length=p from by simp;omega,A2,ht];rfl
   refine ⟨?_,?_,?_,?_,?_⟩<;>
   . refine AI.mk rfl hc ?_;rintro _ τ1 ⟨rfl,hq⟩;simp only [nA];obtain ⟨j2,jc2,hg2⟩:=hq.gx;have hql':=hq.le;have hqh:=hq.hi;have hb2:=hg2.bi;simp only [dsA] at hb2;simp only [hb2,hdr,hcr,htr,go_sem];have hrn:r.2.s.1.length=r.2.nx:=rfl;have hal:∀a∈ar,a < r.2.s.1.length:=fun a ha=>by have:=har a ha;omega
     have hic:=HW B.i B.rest ar _ (.mk tk tn tl) (AS _) (by rw [hrl];exact htv) r.2.s.1 r.2.s.2 j2 τ1 hal (by omega) hg2.sn;rw [AS7] at hic;refine AI.mk rfl hic ?_;rintro _ τ2 ⟨rfl,j3,sn3,fr3⟩;simp only [nA];simp only [go_sem];have hli:=fI ar r.2.s.1 (.mk tk tn tl);have hll:=rW (ar:=ar) (l:=r.2.s.1) (t:= .mk tk tn tl) (by rw [hrl];exact htv) hal;have hlo:=hli.le;have hlh:=hli.hi;have hg3:=hg2.step hB (s:=((Eu ar r.2.s.1 (.mk tk tn tl)).2,r.2.s.2)) sn3 fr3 hli.le;have hqt:=hq.lt;refine AI.mk rfl (CU B.i B.rest _ _ r.2.s.2 j3 r.1 _ τ2 (OD _) hg3.sn (by simp only [GS.nx] at *;omega) hll (by simp only [GS.nx] at *;omega)) ?_;intro v4 τ3 q4;obtain ⟨hn4,j4,hg4⟩:=hg3.uni hB q4;simp only [go_sem];(repeat' (first|refine ctQ rfl ?_|((first|refine rgQ mxQ ?_|refine cdQ ?_)<;>try simp only [hw1,go_sem])|fail));refine ih ⟨p+1,τ3⟩ ⟨hlt,?_⟩ (by simp only;omega);simp only [hsn,hcf];have hlu:=ABZ ((Eu ar r.2.s.1 (.mk tk tn tl)).2,r.2.s.2) r.1 (Eu ar r.2.s.1 (.mk tk tn tl)).1;refine hr.snoc hke' hq (BH fr3.nb hn4) hg4 ?_ ?_ rfl
     . show _<=(Go.Ab.uni _ _ _).1.length;rw [hlu];simp only [GS.nx] at *;omega
     . show (Go.Ab.uni _ _ _).1.length<=_;rw [hlu];simp only [GS.nx] at *;omega
 . have hpe:p=ks.length:=by omega
   subst hpe;rw [BQ] at hr;obtain ⟨j1,jc1,hg1⟩:=hr.gx;have hhi:=hr.hi;have hle:=hr.le;have hen1:=hr.en;generalize De B.G ks env 0 (AGU ar ts) g0=q at *;have hql:q.s.1.length=q.nx:=rfl;(repeat' (first|refine ctQ rfl ?_|((first|refine rgQ mxQ ?_|refine cdQ ?_)<;>try simp only [B7 hlt,go_sem])|fail));refine AI.mk rfl (JU B.i j1 q.s.1 q.s.2 B.rest τ 5 d (.d (.sl (ar.map CN))) ar hg1.sn (Rj.d _) (fun a ha=>by have:=har a ha;omega) (by omega)) ?_;intro v σ' q3;obtain ⟨rfl,hn3,j3,hg3⟩:=hg1.add hB q3;simp only [nA];simp only [go_sem];(repeat' (first|refine ctQ rfl ?_|((first|refine rgQ mxQ ?_|refine cdQ ?_|refine Run.qP OO ?_)<;>try simp only [go_sem])|fail));exact ⟨rfl,BH (BH hnb0 hr.nb) hn3,⟨j3,jc1,hg3⟩,by rw [Cn];omega,by rw [Cn];omega,by rw [Cn];omega,by rw [AAB];omega⟩
def WkT (F F':Fm):Prop:=∀s,F' s=F s\/((F s).BS=true/\F' s=(F s).plain)
def Run.AXO {cx:Cx} {KK:AV->AH->Prop} {k:List CI} {L:Lm} {Y:AH} (hF:WkT F F') (h:Run cx KK k F' L Y):Run cx KK k F L Y:=by
 intro items base g lam Pr a w0 w b cs0 hi0 hf hb hk;refine h items base g lam Pr a w0 w b cs0 hi0 ⟨fun s=>?_,hf.sz,hf.df,hf.loc,hf.inj,hf.npr,hf.rel⟩ hb hk;rcases hF s with e|e
 . rw [e];exact hf.tm s
 . rw [e.2];exact SV.FT (SV.vr e.1 (hf.tm s)).plain
def WkT.refl (F:Fm):WkT F F:=fun _=>.inl rfl
def WkT.skip (h:WkT F F') (s:Nat) (x:AV):WkT (put s x F) (put s x F'):=fun s'=>by
 by_cases e:s'=s
 . subst e;exact .inl (by simp [put])
 . rcases h s' with h|h
   . exact .inl (by simp [put,e,h])
   . exact .inr (by simp [put,e,h])
def WkT.here (h:WkT F F') (s:Nat) {w:AV} (hn:v.BS=true) (hp:v.plain=w):WkT (put s v F) (put s w F'):=fun s'=>by
 by_cases e:s'=s
 . subst e;exact .inr (by simp [put,hn,hp])
 . rcases h s' with h|h
   . exact .inl (by simp [put,e,h])
   . exact .inr (by simp [put,e,h])
def sG:∀(ns:List Str) (ts:List Nat) (env:Env) (s:Str),ns.length=ts.length->s≠[]->(OX (Ce env ns ts) s).isSome=((OX env s).isSome||ns.contains s)
 |[],[],env,s,_,_=>by simp [Ce]
 |[],_::_,_,_,h,_=>by simp at h
 |_::_,[],_,_,h,_=>by simp at h
 |n::ns,t::ts,env,s,h,hs=>by
  rw [Ce,sG ns ts _ s (by simpa using h) hs];by_cases hn:n=[]
  . subst hn;simp [hs]
  . rw [if_neg hn,OX];by_cases e:n=s
    . subst e;simp
    . simp [e,A6 e]
def AD3:∀ {ns:List Str} {ts:List Nat} {env:Env} {x:Str×Nat},x∈Ce env ns ts->x∈env\/x.2∈ts
 |[],ts,env,x,h=>by simp only [Ce] at h;exact .inl h
 |_::_,[],env,x,h=>by simp only [Ce] at h;exact .inl h
 |n::ns,t::ts,env,x,h=>by
  rw [Ce] at h;rcases AD3 h with h|h
  . split at h
    . exact .inl h
    . rcases Az.1 h with rfl|h
      . exact .inr (AW)
      . exact .inl h
  . exact .inr (AU _ h)
def ES.with {sc:List Str} {env:Env} {g:GS} (h:ES sc env g) {ns:List Str} {ts:List Nat} (hl:ns.length=ts.length) {g':GS} (hle:g.nx<=g'.nx) (ht:∀t∈ts,t < g'.nx):ES (sc++ns) (Ce env ns ts) g':=by
 refine ⟨fun s hs=>?_,fun x Z=>?_⟩
 . rw [sG ns ts env s hl hs,h.sc s hs,List.contains_append]
 . rcases AD3 Z with Z|Z
   . exact Be (h.lt x Z) hle
   . exact ht _ Z
def ACC (G:GC) (D:Dat) (env:Env) (ar:List Nat) (t:Nat) (g:GS):Al->GS
 | .mk c vs b=>
  let q:=B9 ar g.s.1 (((D.cons[((El G.dt c).map (·.2)).getD 0]?).map Con.args).getD [])
  let r:=Bb G b (Ce env vs q.1) { g with s:=(q.2,g.s.2)}
  r.2.uni r.1 t
def pT (G:GC) (D:Dat) (env:Env) (ar:List Nat) (t:Nat):∀(al:List Al) (g:GS),Vt G al env D ar t g=al.foldl (ACC G D env ar t) g
 |[],g=>by simp [Vt]
 | .mk c vs b::al,g=>by rw [Vt,pT G D env ar t al];rfl
def Al.KL (a b:List Al):Al.AQ (a++b)=Al.AQ a+Al.AQ b:=by
 induction a with
 |nil=>simp [Al.AQ]
 |cons x a ih=>simp only [AX,Al.AQ,ih];omega
def Al.IM {ks:List Al} {k:Al} (h:ks[p]?=some k):Al.AQ (ks.take (p+1))=Al.AQ (ks.take p)+k.size/\Al.AQ (ks.take p)+k.size<=Al.AQ ks:=by
 have h1:Al.AQ (ks.take (p+1))=Al.AQ (ks.take p)+k.size:=by rw [A5 h,Al.KL];simp [Al.AQ]
 refine ⟨h1,?_⟩;rw [<- h1]
 conv=>rhs;rw [<- A7 (p+1) ks,Al.KL]
 omega
def Al.sE:∀ks:List Al,ks.length<=Al.AQ ks
 |[]=>AS _
 | .mk _ _ b::ks=>by have:=Al.sE ks;have:=Ex.size_pos b;simp only [A0,Al.AQ,Al.size];omega
structure KA (B:GB) (Y:AH) (g:GS) (al:List Al) (g':GS) (σ':AH):Prop where
 nb:(nbH Y).le σ'
 gx:∃j jc,GX B σ' g' j jc
 le:g.nx<=g'.nx
 hi:g'.nx<=g.nx+1000000 * Al.AQ al
 en:g'.en.length=g.en.length+Al.AQ al
def KA.nil {B:GB} {Y:AH} {g:GS} {j jc:Nat} (h:GX B Y g j jc):KA B Y g [] g Y:=⟨Hq Y,⟨j,jc,h⟩,AS _,by simp [Al.AQ],by simp [Al.AQ]⟩
def it0:Int.toNat 0=0:=rfl
def it1:Int.toNat 1=1:=rfl
def it2:Int.toNat 2=2:=rfl
def il0:((0:Int)<=0)=True:=by simp
def il1:((0:Int)<=1)=True:=by simp
def il2:((0:Int)<=2)=True:=by simp
def ANJ (G:GC) (D:Dat) (d:Nat) (ks:List Ex) (al:List Al) (env:Env) (g:GS):Nat×GS:=
 let ar:=A8 g.nx D.vars.toNat
 let q:=Ie G ks env (g.frs D.vars.toNat)
 let h:=(q.2.add 5 d ar).uni q.1 q.2.nx
 (h.nx,Vt G al env D ar h.nx (h.add 0 0 []))
def AFA (B:GB) (hB:HM B) (hD:GD B.G) (nm:Str) (nu:Int) (ns:List Str) (k:Ex) (al:List Al) (hk:ExC B k) (hka:∀a∈al,ExC B a.body) (sc:List Str) (env:Env) (d:Nat) (D:Dat) (hdd:B.G.dt[d]?=some D) (hne:al≠[])
 (hal:∀a∈al,∃c con,El B.G.dt a.con=some (d,c)/\D.cons[c]?=some con/\a.vars.length=con.args.length)
 (g:GS) (Y:AH) (j jc:Nat) (hok:OkE B.G k sc) (hoka:∀a∈al,OkE B.G a.body (sc++a.vars)) (hes:ES sc env g) (hnx:g.nx+1000000 * (1+Ex.AQ [k]+Al.AQ al)<=900000000) (hen:g.en.length+(Ex.AQ [k]+Al.AQ al)<=900000000) (hg:GX B Y g j jc):
 AR Tzp 224 [.gp B.i 0,exA (.mk 10 nm nu ns [k] al),.d (Ij env)] Y (fun v σ'=>v=nA (ANJ B.G D d [k] al env g).1/\RQ B Y g (ANJ B.G D d [k] al env g).1 (1000000 * (1+Ex.AQ [k]+Al.AQ al)) (Ex.AQ [k]+Al.AQ al) (ANJ B.G D d [k] al env g).2 σ'):=by
 have hkl:=Al.sE al;obtain ⟨v1,v2,v3,v4⟩:=hD.dt D (AD hdd);have hdr:=Um hdd;have hsk:Ex.AQ [k]=k.size:=by simp [Ex.AQ]
 rw [hsk] at hnx hen ⊢;obtain ⟨Dn,Dv,Dc⟩:=D;obtain ⟨n,rfl⟩:=G5 v1;simp only [CO] at v1 v2 v3 v4 hdr hal;simp only [ANJ,CO,Ie];have hnl:n<=1000:=by omega
 have hcs:=fun (s:Str) (τ:AH)=>Ka B.G.dt (fun d hd=>(hD.dt d hd).2.2.1) s τ
 obtain ⟨a0,al',rfl⟩:∃a l,al=a::l:=by
  cases al with
  |nil=>exact absurd rfl hne
  |cons a l=>exact ⟨a,l,rfl⟩
 obtain ⟨c0,con0,ha0,_,_⟩:=hal a0 (AW);have hcs0:=hcs a0.con Y;rw [ha0] at hcs0;simp only [qM,dsA] at hcs0;have h0r:((a0::al').map Al.enc)[0]?=some a0.enc:=rfl;generalize hall:a0::al'=al at *;have hbi:=hg.bi;obtain ⟨an,av,ab⟩:=a0;obtain ⟨ao,an2,anu,ans,aks,aal⟩:=ab;simp only [Al.A4,Al.con] at h0r hcs0;refine YG (by simp) ?_;rw [DK];obtain ⟨o,n',u',ns',kk,al2⟩:=k;simp only [exA,Ex.A4,AF,AN];simp only [dsA] at hbi;(repeat' (first|refine ctQ rfl ?_|((first|refine rgQ mxQ ?_|refine cdQ ?_|refine AI.det (hcs0) ?_)<;>try simp only [hbi,hdr,h0r,il0,it0,go_sem])|fail));refine AI.mk rfl (Dx B.i j g.s.1 g.s.2 B.rest Y n hg.sn (by omega) (by have:g.s.1.length=g.nx:=rfl;omega)) ?_;intro v τ0 q;obtain ⟨rfl,hnb0,j0,hg0⟩:=hg.frs hB q;clear q;have l0:g.s.1.length=g.nx:=rfl;rw [l0];simp only [go_sem];have hn0:=dE g n;have har:∀a∈A8 g.nx n,a < g.nx+n:=fun a ha=>by rw [TH] at ha;omega
 have hrl:(A8 g.nx n).length=n:=by simp
 generalize A8 g.nx n=ar at *;have hg0e:(g.frs n).en.length=g.en.length:=rfl;generalize g.frs n=g0 at *;have hc:=hk sc env g0 τ0 j0 jc hok (hes.le (by omega)) (by omega) (by omega) hg0;generalize Bb B.G _ env g0=r at *;simp only [Ex.A4,exA,AF,AN] at hc;have hk0:([Ex.enc (.mk o n' u' ns' kk al2)])[0]?=some [.int .i64 o,.str n',.int .i64 u',.sl (ns'.map BX),.sl (kk.map Ex.enc),.sl (al2.map Al.enc)]:=by rw [Ex.A4];rfl
 (repeat' (first|refine ctQ rfl ?_|((first|refine rgQ mxQ ?_|refine cdQ ?_)<;>try simp only [il0,it0,go_sem])|fail));refine AI.mk rfl hc ?_;rintro _ τ1 ⟨rfl,hq⟩;simp only [nA];simp only [go_sem];obtain ⟨j2,jc2,hg2⟩:=hq.gx;have hql':=hq.le;have hqh:=hq.hi;have hqe:=hq.en;have hqt:=hq.lt;have hrn:r.2.s.1.length=r.2.nx:=rfl;refine AI.mk rfl (JU B.i j2 r.2.s.1 r.2.s.2 B.rest τ1 5 d (.d (.sl (ar.map CN))) ar hg2.sn (Rj.d _) (fun a ha=>by have:=har a ha;omega) (by omega)) ?_;intro v τ2 q;obtain ⟨rfl,hn3,j3,hg3⟩:=hg2.add hB q;clear q;simp only [nA];simp only [go_sem];have hna:=Cn r.2 5 d ar;have hna':(r.2.add 5 d ar).s.1.length=r.2.nx+1:=hna;refine AI.mk rfl (CU B.i B.rest _ _ (r.2.add 5 d ar).s.2 j3 r.1 r.2.s.1.length τ2 (OD _) hg3.sn (by omega) (by omega) (by omega)) ?_;intro v40 τ3 q4;obtain ⟨hn4,j4,hg4⟩:=hg3.uni hB q4;clear q4;rw [hrn] at hg4;simp only [go_sem];have hnu:=MT (r.2.add 5 d ar) r.1 r.2.nx;have heu:((r.2.add 5 d ar).uni r.1 r.2.nx).en.length=r.2.en.length:=rfl;generalize (r.2.add 5 d ar).uni r.1 r.2.nx=h at *;have hhl:h.s.1.length=h.nx:=rfl;(repeat' (first|refine ctQ rfl ?_|((first|refine rgQ mxQ ?_|refine cdQ ?_)<;>try simp only [go_sem])|fail))
 refine AI.mk rfl (Fq B.i j4 h.s.1 h.s.2 B.rest τ3 hg4.sn (by omega)) ?_;intro v τ4 q;obtain ⟨rfl,hn5,j5,hg5⟩:=hg4.add hB q;clear q;rw [hhl];simp only [nA];simp only [go_sem];have hnh:=Cn h 0 0 [];have heh:(h.add 0 0 []).en.length=h.en.length:=rfl;generalize h.add 0 0 []=g1 at *;have ht:h.nx < g1.nx:=by omega
 generalize h.nx=t at *;rw [pT];(repeat' (first|refine ctQ rfl ?_|((first|refine rgQ mxQ ?_|refine cdQ ?_)<;>try simp only [AA,go_sem])|fail));refine Run.BB ?_
 refine Run.BE ((fun (a0:AV) (a2:AV) (a7:AV) (a10:AV) (a11:AV) (a67:AV) (a68:AV)=>fun (z:Nat×AH)=>put 0 a0 (put 2 a2 (put 7 a7 (put 10 a10 (put 11 a11 (put 67 a67 (put 68 a68 (put 69 (.d (.int .i64 z.1)) U)))))))) _ _ _ _ _ _ _) (fun _=>E) (fun z=>z.2)
  (fun z=>z.1<=al.length/\KA B τ4 g1 (al.take z.1) ((al.take z.1).foldl (ACC B.G ⟨Dn,n,Dc⟩ env ar t) g1) z.2)
  (fun z=>al.length - z.1) ?_ (0,τ4) ⟨by simp,by simp only [C0,List.foldl_nil];exact KA.nil hg5⟩
 rintro ⟨p,τ⟩ ⟨hp,hr⟩ ih;simp only at hp hr;by_cases hlt:p < al.length
 . obtain ⟨a,hae⟩:=Ai hlt;have he:=BI (enc:=Al.enc) hae;have hw1:=wsu p;obtain ⟨hz1,hz2⟩:=Al.IM hae
   have hsn:(al.take (p+1)).foldl (ACC B.G ⟨Dn,n,Dc⟩ env ar t) g1=ACC B.G ⟨Dn,n,Dc⟩ env ar t ((al.take p).foldl (ACC B.G ⟨Dn,n,Dc⟩ env ar t) g1) a:=by
    rw [A5 hae,Ch];rfl
   generalize (al.take p).foldl (ACC B.G ⟨Dn,n,Dc⟩ env ar t) g1=q at *;obtain ⟨j1,jc1,hq1⟩:=hr.gx;have hhi:=hr.hi;have hle:=hr.le;have hen1:=hr.en;have hmem:=AD hae;obtain ⟨cb,con,hcb,hcon,hvl⟩:=hal a hmem;have hcr:=ZB hcon;obtain ⟨c1,c2⟩:=v4 con (AD hcon);have hxb:=hka a hmem;have hob:=hoka a hmem;have hcsa:=hcs a.con τ;rw [hcb] at hcsa;have hbq:=hq1.bi;simp only [qM,dsA] at hcsa hbq;obtain ⟨cn,ts⟩:=con;obtain ⟨ac,avs,bd⟩:=a;simp only [Al.con,Al.vars,Al.body,Al.size,Ty.Bf] at hcb hcr hvl hxb hob hcsa c1 c2 hz1 hz2;have hqn:q.s.1.length=q.nx:=rfl;have hal2:∀a∈ar,a < q.s.1.length:=fun a ha=>by have:=har a ha;omega
   have hinT:∀t∈ts,AJQ B.i B.rest ar t:=fun t ht=>HW B.i B.rest ar t.size t (AS _) (by rw [hrl];exact UT c1 t ht);have hli:=MM ar q.s.1 ts;have hlo:=hli.le;have hlh:=hli.hi;have hlt1:=ZK (ar:=ar) (l:=q.s.1) (ts:=ts) (by rw [hrl];exact c1) hal2;have hll:=MN ar q.s.1 ts
   have hst:ACC B.G ⟨Dn,n,Dc⟩ env ar t q (.mk ac avs bd)=((Bb B.G bd (Ce env avs (B9 ar q.s.1 ts).1) { q with s:=((B9 ar q.s.1 ts).2,q.s.2)}).2.uni (Bb B.G bd (Ce env avs (B9 ar q.s.1 ts).1) { q with s:=((B9 ar q.s.1 ts).2,q.s.2)}).1 t):=by
    rw [ACC,hcb];simp only [Ac,BA,hcon]
   rw [hst] at hsn;have hsp:=Ex.size_pos bd;obtain ⟨bo,bn,bu,bns,bks,bal⟩:=bd;rw [Al.A4] at he;(repeat' (first|refine ctQ rfl ?_|((first|refine rgQ mxQ ?_|refine cdQ ?_|refine AI.det (hcsa) ?_)<;>try simp only [Ap hlt,he,hbq,hdr,hcr,go_sem])|fail));refine AI.mk rfl (Iq B.i B.rest ar ts hinT q.s.1 q.s.2 j1 τ hal2 (by omega) hq1.sn) ?_;rintro v5 τ5 ⟨ho,j6,sn6,fr6⟩;simp only [go_sem];refine Run.AXO (WkT.skip (WkT.skip (WkT.skip (WkT.skip (WkT.skip (WkT.skip (WkT.here (WkT.refl _) 17 ho.BS ho.plain) _ _) _ _) _ _) _ _) _ _) _ _) ?_;have hq6:=hq1.step hB (s:=((B9 ar q.s.1 ts).2,q.s.2)) sn6 fr6 hli.le;have hwc:=JN (.d (Ij env)) env (PlV.d _) avs (B9 ar q.s.1 ts).1 (by rw [hll];exact hvl) τ5;have hee:({ q with s:=((B9 ar q.s.1 ts).2,q.s.2)}:GS).en.length=q.en.length:=rfl;have hen6:({ q with s:=((B9 ar q.s.1 ts).2,q.s.2)}:GS).nx=(B9 ar q.s.1 ts).2.length:=rfl;have hes6:=(hes.le (show g.nx<=q.nx by omega)).with (ns:=avs) (ts:=(B9 ar q.s.1 ts).1) (g':= { q with s:=((B9 ar q.s.1 ts).2,q.s.2)}) (by rw [hll];exact hvl) hli.le hlt1;generalize ({ q with s:=((B9 ar q.s.1 ts).2,q.s.2)}:GS)=q6 at *;have hcx:=hxb (sc++avs) (Ce env avs (B9 ar q.s.1 ts).1) q6 τ5 j6 jc1 hob hes6 (by omega) (by omega) hq6
   generalize Bb B.G _ (Ce env avs (B9 ar q.s.1 ts).1) q6=r7 at *;simp only [exA,Ex.A4,AF,AN] at hcx;(repeat' (first|refine ctQ rfl ?_|((first|refine rgQ mxQ ?_|refine cdQ ?_|refine AI.det (hwc) ?_)<;>try simp only [go_sem])|fail));refine AI.mk rfl hcx ?_;rintro _ τ7 ⟨rfl,hq7⟩;simp only [nA];simp only [go_sem];obtain ⟨j8,jc8,hg8⟩:=hq7.gx;have h7l:=hq7.le;have h7h:=hq7.hi;have h7e:=hq7.en;have h7n:r7.2.s.1.length=r7.2.nx:=rfl;refine AI.mk rfl (CU B.i B.rest _ _ r7.2.s.2 j8 r7.1 t τ7 (OD _) hg8.sn hq7.lt (by omega) (by omega)) ?_;intro v8 τ8 q8;obtain ⟨hn8,j9,hg9⟩:=hg8.uni hB q8;simp only [go_sem];(repeat' (first|refine ctQ rfl ?_|((first|refine rgQ mxQ ?_|refine cdQ ?_)<;>try simp only [hw1,go_sem])|fail));have hnu9:=MT r7.2 r7.1 t;have heu9:=AQB r7.2 r7.1 t;refine ih ⟨p+1,τ8⟩ ⟨hlt,?_⟩ (by simp only;omega);simp only [hsn];exact ⟨BH (BH (BH hr.nb fr6.nb) hq7.nb) hn8,⟨j9,jc8,hg9⟩,by omega,by omega,by rw [heu9];omega⟩
 . have hpe:p=al.length:=by omega
   subst hpe;rw [BQ] at hr;have hhi:=hr.hi;have hle:=hr.le;have hen1:=hr.en;(repeat' (first|refine ctQ rfl ?_|((first|refine rgQ mxQ ?_|refine cdQ ?_|refine Run.qP NC ?_)<;>try simp only [B7 hlt,go_sem])|fail));exact ⟨BH (BH (BH (BH (BH (BH hnb0 hq.nb) hn3) hn4) hn5) (Hq _)) hr.nb,hr.gx,by omega,by omega,by omega,by omega⟩
def AFB (l:List Nd) (ts:List Nat):List Nat:=(ts.foldl (fun s a=>I0 l (l.length+1) s a) (AG l.length false,[])).2
def exU (i j js j5:Nat) (τ:AH) (k:Nat):Option (List AV):=if k=j5 then none else exT i j js τ k
def AG7 (n:Nat):fz (AG n false)<=n:=by
 have:=Vr (p:=fun x:Bool=>x==false) (l:=AG n false);simpa [fz] using this
def xL (n:Nat):(AG n [AV.d (.bool false)]).flatten=BP (AG n false):=by
 induction n with
 |zero=>rfl
 |succ n ih=>rw [BV,BW,ih,BV];rfl
def eZ {i j js:Nat} {τ:AH} (h:τ.blk k=some c) (h1:k≠i) (h2:k≠j) (h3:k≠js) (h4:k≠j5):exU i j js j5 τ k=some c:=by
 rw [exU,if_neg h4];exact JD h h1 h2 h3
def SX.AcE {Y τ:AH} {i j js:Nat} {l:List Nd} {fl:Bool} {rest:List AV} (hl:l≠[]) (m:Mo Y τ) (hn:Y.blk js=none) (hn5:Y.blk j5=none) (h:SX (exU i j js j5 τ) τ' i l fl rest j' js cs) (hnb:(nbH Y).le τ') (h5:j5≠j'):SN τ' i l fl rest j'/\Fr Y i l j τ' l j':=by
 refine ⟨h.sn,⟨fun k h1 h2 h3=>?_,fun _=>by rw [h.sn.blk];simp,fun _=>?_,hnb.gt.symm,hnb.tok,hnb.bt⟩⟩
 . cases hk:Y.blk k with
   |none=>exact absurd hk h3
   |some c=>exact h.x k c (eZ (m.blk k c hk) h1 (h2 hl) (fun e=>by rw [e,hn] at hk;cases hk) (fun e=>by rw [e,hn5] at hk;cases hk))
 . obtain ⟨hji,_⟩:=h.sn.nd hl;have Z:=h.xj hl;have hsj:=h.sj hl;by_cases e:j'=j
   . exact .inl ⟨hl,e⟩
   . right;unfold exU exT at Z;rw [if_neg (A6 h5),if_neg (by simp [hji,e,A6 hsj])] at Z;exact m.ne Z
def dO (i:Nat) (rest:List AV) (l:List Nd) (fl:Bool) (j:Nat) (Y:AH) (ts:List Nat) (v:AV) (hv1:v.BS=true) (hv2:v.plain= .d (.sl (ts.map CN))) (hts:∀a∈ts,a < l.length) (hl0:l≠[]) (hln:l.length<=900000000) (h:SN Y i l fl rest j):
 AR Tzp 230 [.gp i 0,v] Y (SNQ Y i l rest j (l,fl) (.d (.sl ((AFB l ts).map CN)))):=by
 have hbi:=h.blk;rw [Em hl0] at hbi;obtain ⟨hji,c0,hc0,hbj⟩:=h.nd hl0;refine Sa (by simp) ?_;rw [BD];refine Run.AXO (WkT.skip (WkT.here (WkT.refl _) 1 hv1 hv2) _ _) ?_;clear hv1 hv2 v;(repeat' (first|refine ctQ rfl ?_|((first|refine rgQ mxQ ?_|refine cdQ ?_)<;>try simp only [go_sem])|fail));intro j2 hj2;have m2:=(Mo.refl Y).new hj2 [AV.gp i 0];have f2:(Y.AL j2 [AV.gp i 0]).blk j2=some [AV.gp i 0]:=BT;generalize Y.AL j2 [AV.gp i 0]=τ2 at *;(repeat' (first|refine ctQ rfl ?_|((first|refine rgQ mxQ ?_|refine cdQ ?_)<;>try simp only [go_sem])|fail));intro j5 hj5;have m5:=(Mo.refl τ2).AEA hj5 [AV.Ad] [AV.Ad] (1,51);have f5:(((τ2.AL j5 [AV.Ad]).Bl j5 (1,51)).AL j5 [AV.Ad]).blk j5=some [AV.Ad]:=BT;have he5:((τ2.AL j5 [AV.Ad]).Bl j5 (1,51))=(((τ2.AL j5 [AV.Ad]).Bl j5 (1,51)).AL j5 [AV.Ad]):=(FU (by rw [IY,AJ,if_pos rfl])).symm;rw [he5];generalize ((τ2.AL j5 [AV.Ad]).Bl j5 (1,51)).AL j5 [AV.Ad]=τ5 at *;have hbi5:=m5.blk _ _ (m2.blk _ _ hbi);have f25:=m5.blk _ _ f2;(repeat' (first|refine ctQ rfl ?_|((first|refine rgQ mxQ ?_|refine cdQ ?_)<;>try simp only [hbi5,f25,go_sem])|fail));refine O1.mk l.length (by omega) (by omega) (fun js hjs=>?_);rw [xL]
 have ms:=(Mo.refl τ5).new hjs (BP (AG l.length false));have fs:(τ5.AL js (BP (AG l.length false))).blk js=some (BP (AG l.length false)):=BT;generalize τ5.AL js (BP (AG l.length false))=τs at *;simp only [go_sem];intro j6 hj6;simp only [IY,go_sem];have m6:=(Mo.refl τs).AEA hj6 [AV.Ad] [AV.ms js l.length 1 eMm] (1,114);have f6:(((τs.AL j6 [AV.Ad]).Bl j6 (1,114)).AL j6 [AV.ms js l.length 1 eMm]).blk j6=some [AV.ms js l.length 1 eMm]:=BT;have he6:(((τs.AL j6 [AV.Ad]).Bl j6 (1,114)).AL j6 [AV.ms js l.length 1 4])=(((τs.AL j6 [AV.Ad]).Bl j6 (1,114)).AL j6 [AV.ms js l.length 1 eMm]):=rfl;rw [he6];generalize ((τs.AL j6 [AV.Ad]).Bl j6 (1,114)).AL j6 [AV.ms js l.length 1 eMm]=τ6 at *;(repeat' (first|refine ctQ rfl ?_|((first|refine rgQ mxQ ?_|refine cdQ ?_)<;>try simp only [go_sem])|fail));intro j7 hj7;have m7:=(Mo.refl τ6).AEA hj7 [AV.HG] [.fn 263 [] [.gp j2 0,.gp j6 0,.gp j5 0,.gp j7 0]] (1,151);have f7:(((τ6.AL j7 [AV.HG]).Bl j7 (1,151)).AL j7 [.fn 263 [] [.gp j2 0,.gp j6 0,.gp j5 0,.gp j7 0]]).blk j7=some [.fn 263 [] [.gp j2 0,.gp j6 0,.gp j5 0,.gp j7 0]]:=BT;(repeat' (refine wQ ?_<;>try simp only [IY,AA,go_sem]))
 generalize ((τ6.AL j7 [AV.HG]).Bl j7 (1,151)).AL j7 [.fn 263 [] [.gp j2 0,.gp j6 0,.gp j5 0,.gp j7 0]]=τ7 at *;have hmo:Mo Y τ7:=((((m2.trans m5).trans ms).trans m6).trans m7);have c2:=m7.blk _ _ (m6.blk _ _ (ms.blk _ _ f25));have c5:=m7.blk _ _ (m6.blk _ _ (ms.blk _ _ f5));have cs:=m7.blk _ _ (m6.blk _ _ fs);have c6:=m7.blk _ _ f6;have j5n:Y.blk j5=none:=m2.ne hj5.1;have jsn:Y.blk js=none:=(m2.trans m5).ne hjs;have j6n:Y.blk j6=none:=((m2.trans m5).trans ms).ne hj6.1;have j7n:Y.blk j7=none:=(((m2.trans m5).trans ms).trans m6).ne hj7.1;have hne:∀k,Y.blk k=none->k≠i/\k≠j:=fun k h2=>⟨fun e=>(by rw [e,h.blk] at h2;cases h2),fun e=>(by rw [e,hbj] at h2;cases h2)⟩;have a25:j2≠j5:=fun e=>by rw [e,hj5.1] at f2;cases f2
 have a2s:j2≠js:=fun e=>by rw [e,hjs] at f25;cases f25
 have a5s:j5≠js:=fun e=>by rw [e,hjs] at f5;cases f5
 have a6s:j6≠js:=fun e=>by rw [<- e,hj6.1] at fs;cases fs
 have a65:j6≠j5:=fun e=>by have:=ms.blk _ _ f5;rw [<- e,hj6.1] at this;cases this
 have a7s:j7≠js:=fun e=>by have:=m6.blk _ _ fs;rw [<- e,hj7.1] at this;cases this
 have a75:j7≠j5:=fun e=>by have:=m6.blk _ _ (ms.blk _ _ f5);rw [<- e,hj7.1] at this;cases this
 have x2:=eZ (js:=js) (j5:=j5) c2 (hne _ hj2).1 (hne _ hj2).2 a2s a25;have x6:=eZ (js:=js) (j5:=j5) c6 (hne _ j6n).1 (hne _ j6n).2 a6s a65;have x7:=eZ (js:=js) (j5:=j5) f7 (hne _ j7n).1 (hne _ j7n).2 a7s a75;have hsx:=(SX.mk' h hl0 hmo cs jsn).AO2 (ext:=exU i j js j5 τ7) (fun k c hk=>by unfold exU at hk;split at hk;cases hk;exact hk);have hu:UX (exU i j js j5 τ7) Y τ7 i l fl rest j js j5 (AG l.length false,[]) .Ad:=⟨hsx,c5,by simp [exU],(hne _ j5n).1,fun _=>(hne _ j5n).2,a5s,(ANZ 3 1).Gw hmo.nb (fun t h=>by cases h),by simp,by have:=AG7 l.length;simp only [Bw];omega⟩;have hvis:=w9 _ Y i rest l fl j2 j6 j5 j7 js hln x2 x6 x7 (l.length+1);refine Run.slot 17 (fun hsl=>?_);simp only [DR,reduceIte,HN,AV.Ev,AA] at hsl;refine Run.BB ?_
 refine Run.BE ((fun (a5:AV) (a7:AV) (a17:AV) (a18:AV)=>fun (z:Nat×AH)=>put 5 a5 (put 7 a7 (put 17 a17 (put 18 a18 (put 19 (.d (.int .i64 z.1)) U))))) _ _ _ _) (fun _=>E) (fun z=>z.2)
  (fun z=>z.1<=ts.length/\fz ((ts.take z.1).foldl (fun s a=>I0 l (l.length+1) s a) (AG l.length false,[])).1<=l.length/\∃v' j',UX (exU i j js j5 τ7) Y z.2 i l fl rest j' js j5 ((ts.take z.1).foldl (fun s a=>I0 l (l.length+1) s a) (AG l.length false,[])) v')
  (fun z=>ts.length - z.1) ?_ (0,τ7) ⟨by simp,AG7 _,.Ad,j,hu⟩
 rintro ⟨p,τ⟩ ⟨hp,hfz,v5,j10,hu5⟩ ih;simp only at hp hfz hu5;have hb7:=hu5.sx.x _ _ x7;by_cases hlt:p < ts.length
 . obtain ⟨a,ha⟩:=Ai hlt;have har:=HT ha;have hal:=hts a (AD ha)
   have hst:(ts.take (p+1)).foldl (fun s a=>I0 l (l.length+1) s a) (AG l.length false,[])=I0 l (l.length+1) ((ts.take p).foldl (fun s a=>I0 l (l.length+1) s a) (AG l.length false,[])) a:=by
    rw [A5 ha,Ch];rfl
   have hw1:=wsu p;have hcall:=hvis _ v5 j10 τ a (by omega) hal hu5;simp only [nA] at hcall;(repeat' (first|refine ctQ rfl ?_|((first|refine rgQ mxQ ?_|refine cdQ ?_)<;>try simp only [Ap hlt,har,hb7,go_sem])|fail));refine ⟨263,[],[.gp j2 0,.gp j6 0,.gp j5 0,.gp j7 0],rfl,by kernel_rfl,AI.mk rfl hcall ?_⟩;rintro v6 τ8 ⟨hz6,v7,j11,hu6⟩;simp only [go_sem];(repeat' (first|refine ctQ rfl ?_|((first|refine rgQ mxQ ?_|refine cdQ ?_)<;>try simp only [hw1,go_sem])|fail));exact ih ⟨p+1,τ8⟩ ⟨hlt,by simp only [hst];omega,v7,j11,by simp only [hst];exact hu6⟩ (by simp only;omega)
 . have hpe:p=ts.length:=by omega
   subst hpe;rw [BQ] at hfz hu5;have hr5:=hu5.row;have ho:=hu5.own;(repeat' (refine wP ?_<;>try simp only [B7 hlt,hr5,ho.w4,ho.plain,go_sem]));exact ⟨rfl,j10,hu5.sx.AcE hl0 hmo jsn j5n ho.le (hu5.ej hl0)⟩
def Fr.pre {Y τ:AH} {i j:Nat} {l:List Nd} (h:Fr τ i l j τ' l' j') (hb:∀k,τ.blk k=Y.blk k) (hn:(nbH Y).le τ):Fr Y i l j τ' l' j':=
 ⟨fun k h1 h2 h3=>by rw [h.blk k h1 h2 (by rw [hb];exact h3),hb],fun h1=>h.ii (by rw [hb];exact h1),fun hl=>by have:=h.nw hl;rw [hb] at this;exact this,h.gt.trans hn.gt.symm,fun t ht=>h.tok t (hn.tok t ht),fun k x Z=>h.bt k x (hn.bt k x Z)⟩
def Co (l:List Nd) (pl:List Nat) (rf:Nat):List Nat:=AFB l (pl++[rf])
def AB3 (B:GB) (l:List Nd) (fl:Bool) (j:Nat) (Y:AH) (f:Nat) (pl:List Nat) (rf:Nat) (hl0:l≠[]) (hln:l.length<=900000000) (h:SN Y B.i l fl B.rest j)
 (xp:Y.blk B.jp=some (psC B.G.ps)) (xr:Y.blk B.jr=some (Ct B.G.rs)) (hpl:B.G.ps[f]?=some pl) (hrf:B.G.rs[f]?=some rf) (hpn:pl.length<=1000) (hp:∀a∈pl,a < l.length) (hr:rf < l.length):
 AR Tzp 165 [.gp B.i 0,.d (.int .i64 (f:Int))] Y (SNQ Y B.i l B.rest j (l,fl) (.d (.sl ((Co l pl rf).map CN)))):=by
 have hbi:=h.blk;rw [Em hl0] at hbi;rw [GB.rest] at hbi;refine S7 (by simp) ?_;rw [BD];have hpa:=sU hpl;have hra:=R3 hrf;have hfp:=ltT (AE.1 hpl).1;have hfr:=ltT (AE.1 hrf).1;(repeat' (first|refine ctQ rfl ?_|((first|refine rgQ mxQ ?_|refine cdQ ?_)<;>try simp only [go_sem])|fail));refine Run.IX mixed ?_;simp only [hbi,xp,xr,hpa,hra,hfp,hfr,A9,go_sem];refine ⟨?_,?_,?_⟩<;>
 . refine AI.mk rfl (U0 pl Y (by omega)) ?_;rintro cv τ1 ⟨ho,hb1⟩;simp only [hb1,hbi,xr,hra,hfr,A9,go_sem];refine Dh.own ho rfl (by simp) (by simp;omega) (by omega) (fun v2 τ2 ho2 hb2=>?_);simp only [go_sem];have hb3:∀k,τ2.blk k=Y.blk k:=fun k=>(hb2 k).trans (hb1 k);have ho3:CC (nbH Y) 3 1 ((pl++[rf]).map CN) v2 τ2:=by rw [Ao];exact ho2
   refine AI.mk (by simp [ho2.BS,VP]) (dO B.i B.rest l fl j τ2 (pl++[rf]) v2 ho3.BS ho3.plain (fun a ha=>?_) hl0 hln (h.own hb3)) ?_
   . rcases AZ.1 ha with ha|ha
     . exact hp a ha
     . simp only [A3] at ha;subst ha;exact hr
   rintro _ τ3 ⟨rfl,j3,sn3,fr3⟩;simp only [go_sem];(repeat' (refine wP ?_<;>try simp only [go_sem]));exact ⟨rfl,j3,sn3,fr3.pre hb3 ho3.le⟩
def vZ (nm:Str) (sc:List Str):List Str:=if nm=[] then sc else sc++[nm]
def ES.AXP {sc:List Str} {env:Env} (h:ES sc env g) (nm:Str) {t:Nat} (hle:g.nx<=g'.nx) (ht:t < g'.nx):ES (vZ nm sc) (Ce env [nm] [t]) g':=by
 unfold vZ;split
 . rename_i e;subst e;simp only [Ce,if_true];exact h.le hle
 . exact h.with (by simp) hle (by simpa using ht)
def AFH (x:AV) (env:Env) (Z:PlV x (Ij env)) (nm:Str) (t:Nat) (Y:AH):
 AR Tzp 156 [x,.d (.sl [[.str nm]]),.d (.sl [[.int .i64 (t:Int)]])] Y (fun v σ'=>v= .d (Ij (Ce env [nm] [t]))/\σ'=Y):=JN x env Z [nm] [t] rfl Y
def ANE (G:GC) (nm:Str) (k0 k1:Ex) (env:Env) (g:GS):Nat×GS:=Bb G k1 (Ce env [nm] [(Bb G k0 env g).1]) (Bb G k0 env g).2
def AOV (B:GB) (nm:Str) (nu:Int) (ns:List Str) (k0 k1:Ex) (al:List Al) (hk0:ExC B k0) (hk1:ExC B k1) (sc:List Str) (env:Env) (g:GS) (Y:AH) (j jc:Nat) (ho0:OkE B.G k0 sc) (ho1:OkE B.G k1 (vZ nm sc)) (hes:ES sc env g) (hnx:g.nx+1000000 * (1+(k0.size+k1.size))<=900000000) (hen:g.en.length+(k0.size+k1.size)<=900000000) (hg:GX B Y g j jc):
 AR Tzp 227 [.gp B.i 0,exA (.mk 7 nm nu ns [k0,k1] al),.d (Ij env)] Y (fun v σ'=>v=nA (ANE B.G nm k0 k1 env g).1/\RQ B Y g (ANE B.G nm k0 k1 env g).1 (1000000 * (1+(k0.size+k1.size))) (k0.size+k1.size) (ANE B.G nm k0 k1 env g).2 σ'):=by
 refine EL (by simp) ?_;rw [DK];rw [ANE];have hc0:=hk0 sc env g Y j jc ho0 hes (by omega) (by omega) hg;generalize Bb B.G k0 env g=r0 at *;have hsz1:=Ex.size_pos k1;have hk1':=fun τ j1 jc1 (h:r0.1 < r0.2.nx) (h1:g.nx<=r0.2.nx) (h2:r0.2.nx+500000<=g.nx+1000000 * k0.size) (h3:r0.2.en.length=g.en.length+k0.size) (Z:GX B τ r0.2 j1 jc1)=>hk1 (vZ nm sc) (Ce env [nm] [r0.1]) r0.2 τ j1 jc1 ho1 (hes.AXP nm h1 h) (by omega) (by omega) Z;generalize Bb B.G k1 (Ce env [nm] [r0.1]) r0.2=r1 at *;obtain ⟨o,n',u',ns',kk,al2⟩:=k0;obtain ⟨o1,n1,u1,ns1,kk1,al1⟩:=k1;simp only [exA,Ex.A4,AF,AN] at hc0 hk1' ⊢;(repeat' (first|refine ctQ rfl ?_|((first|refine rgQ mxQ ?_|refine cdQ ?_)<;>try simp only [il0,it0,go_sem])|fail));refine AI.mk rfl hc0 ?_;rintro _ τ1 ⟨rfl,hq⟩;simp only [nA];simp only [go_sem];obtain ⟨j1,jc1,hg1⟩:=hq.gx;have hql:=hq.le;have hqh:=hq.hi;have hqe:=hq.en;have hc1:=hk1' τ1 j1 jc1 hq.lt hql hqh hqe hg1;have hw:=AFH (.d (Ij env)) env (PlV.d _) nm r0.1 τ1;(repeat' (first|refine ctQ rfl ?_|((first|refine rgQ mxQ ?_|refine cdQ ?_)<;>try simp only [go_sem])|fail));refine Run.IX mixed ?_;simp only [il1,it1,go_sem];refine ⟨?_,?_⟩<;>
 . refine AI.det hw ?_;simp only [go_sem];refine AI.mk rfl hc1 ?_;rintro _ τ2 ⟨rfl,hq2⟩;simp only [nA];simp only [go_sem];(repeat' (refine wP ?_<;>try simp only [go_sem]));have h2l:=hq2.le;have h2h:=hq2.hi;have h2e:=hq2.en;exact ⟨BH hq.nb hq2.nb,hq2.gx,hq2.lt,by omega,by omega,by omega⟩
def AOY (G:GC) (ns:List Str) (k0 k1:Ex) (env:Env) (g:GS):Nat×GS:=
 let parts:=A8 g.nx ns.length
 let q:=Bb G k0 env (g.frs ns.length)
 Bb G k1 (Ce env ns parts) ((q.2.add 6 0 parts).uni q.1 q.2.nx)
def AOX (B:GB) (hB:HM B) (nm:Str) (nu:Int) (ns:List Str) (k0 k1:Ex) (al:List Al) (hk0:ExC B k0) (hk1:ExC B k1) (sc:List Str) (env:Env) (g:GS) (Y:AH) (j jc:Nat) (hns:ns.length<=1000) (ho0:OkE B.G k0 sc) (ho1:OkE B.G k1 (sc++ns)) (hes:ES sc env g) (hnx:g.nx+1000000 * (1+(k0.size+k1.size))<=900000000) (hen:g.en.length+(k0.size+k1.size)<=900000000) (hg:GX B Y g j jc):
 AR Tzp 227 [.gp B.i 0,exA (.mk 8 nm nu ns [k0,k1] al),.d (Ij env)] Y (fun v σ'=>v=nA (AOY B.G ns k0 k1 env g).1/\RQ B Y g (AOY B.G ns k0 k1 env g).1 (1000000 * (1+(k0.size+k1.size))) (k0.size+k1.size) (AOY B.G ns k0 k1 env g).2 σ'):=by
 refine EL (by simp) ?_;rw [DK];rw [AOY];have hsz1:=Ex.size_pos k1;have hsz0:=Ex.size_pos k0;have hn0:=dE g ns.length;have h0e:(g.frs ns.length).en.length=g.en.length:=rfl;have hfr:=Dx B.i j g.s.1 g.s.2 B.rest Y ns.length hg.sn (by omega) (by have:g.s.1.length=g.nx:=rfl;omega);have hfg:=fun v σ' q=>hg.frs hB (σ':=σ') (v0:= .d (.sl ((A8 g.s.1.length ns.length).map CN))) (v:=v) (n:=ns.length) q;have l0:g.s.1.length=g.nx:=rfl;rw [l0] at hfr hfg;have har:∀a∈A8 g.nx ns.length,a < g.nx+ns.length:=fun a ha=>by rw [TH] at ha;omega
 have hrl:(A8 g.nx ns.length).length=ns.length:=by simp
 generalize A8 g.nx ns.length=ar at *;generalize g.frs ns.length=g0 at *;have hc0:=fun τ j1 Z=>hk0 sc env g0 τ j1 jc ho0 (hes.le (by omega)) (by omega) (by omega) Z;generalize Bb B.G k0 env g0=r0 at *;have hna:=Cn r0.2 6 0 ar;have hnu:=MT (r0.2.add 6 0 ar) r0.1 r0.2.nx;have heu:((r0.2.add 6 0 ar).uni r0.1 r0.2.nx).en.length=r0.2.en.length:=rfl;have hug:=fun (τ τ':AH) j1 jc1 (Z:GX B τ (r0.2.add 6 0 ar) j1 jc1)=>GX.uni (a:=r0.1) (b:=r0.2.nx) (σ':=τ') hB Z;have hk1':=fun τ j1 jc1 (h1:g0.nx<=r0.2.nx) (h2:r0.2.nx+500000<=g0.nx+1000000 * k0.size) (h3:r0.2.en.length=g0.en.length+k0.size) (Z:GX B τ ((r0.2.add 6 0 ar).uni r0.1 r0.2.nx) j1 jc1)=>hk1 (sc++ns) (Ce env ns ar) ((r0.2.add 6 0 ar).uni r0.1 r0.2.nx) τ j1 jc1 ho1 (hes.with hrl.symm (by omega) (fun t ht=>by have:=har t ht;omega)) (by omega) (by omega) Z;generalize (r0.2.add 6 0 ar).uni r0.1 r0.2.nx=g1 at *;generalize Bb B.G k1 (Ce env ns ar) g1=r1 at *;obtain ⟨o,n',u',ns',kk,al2⟩:=k0;obtain ⟨o1,n1,u1,ns1,kk1,al1⟩:=k1;simp only [exA,Ex.A4,AF,AN] at hc0 hk1' ⊢
 (repeat' (first|refine ctQ rfl ?_|((first|refine rgQ mxQ ?_|refine cdQ ?_)<;>try simp only [AA,go_sem])|(refine ⟨fun h=>?_,fun h=>?_⟩<;>first|(cases h;done)|try simp only [h])|fail));refine AI.mk rfl hfr ?_;intro v τ0 q;obtain ⟨rfl,hnb0,j0,hg0⟩:=hfg v τ0 q;clear q hfr hfg;simp only [go_sem];(repeat' (first|refine ctQ rfl ?_|((first|refine rgQ mxQ ?_|refine cdQ ?_)<;>try simp only [il0,it0,go_sem])|fail));refine AI.mk rfl (hc0 τ0 j0 hg0) ?_;rintro _ τ1 ⟨rfl,hq⟩;simp only [nA];simp only [go_sem];obtain ⟨j1,jc1,hg1⟩:=hq.gx;have hql:=hq.le;have hqh:=hq.hi;have hqe:=hq.en;have hqt:=hq.lt;have hrn:r0.2.s.1.length=r0.2.nx:=rfl;refine AI.mk rfl (Bt B.i j1 r0.2.s.1 r0.2.s.2 B.rest τ1 6 _ ar hg1.sn (Rj.d _) (fun a ha=>by have:=har a ha;omega) (by omega)) ?_;intro v τ2 q;obtain ⟨rfl,hn3,j3,hg3⟩:=hg1.add hB q;clear q;rw [hrn];simp only [nA];simp only [go_sem];have hna':(r0.2.add 6 0 ar).s.1.length=r0.2.nx+1:=hna;refine AI.mk rfl (CU B.i B.rest _ _ (r0.2.add 6 0 ar).s.2 j3 r0.1 r0.2.nx τ2 (OD _) hg3.sn (by omega) (by omega) (by omega)) ?_;intro v4 τ3 q4;obtain ⟨hn4,j4,hg4⟩:=hug _ _ _ _ hg3 q4;clear q4;simp only [go_sem];have hc1:=hk1' τ3 j4 jc1 hql hqh hqe hg4
 have hw:=JN (.d (Ij env)) env (PlV.d _) ns ar hrl.symm τ3;(repeat' (first|refine ctQ rfl ?_|((first|refine rgQ mxQ ?_|refine cdQ ?_)<;>try simp only [go_sem])|fail));refine Run.IX mixed ?_;simp only [il1,it1,go_sem];refine ⟨?_,?_⟩<;>
 . refine AI.det hw ?_;simp only [go_sem];refine AI.mk rfl hc1 ?_;rintro _ τ4 ⟨rfl,hq2⟩;simp only [nA];simp only [go_sem];(repeat' (refine wP ?_<;>try simp only [go_sem]));have h2l:=hq2.le;have h2h:=hq2.hi;have h2e:=hq2.en;exact ⟨BH (BH (BH (BH hnb0 hq.nb) hn3) hn4) hq2.nb,hq2.gx,hq2.lt,by omega,by omega,by omega⟩
def AM5 (G:GC) (k0 k1 k2:Ex) (env:Env) (g:GS):Nat×GS:=
 let q:=Bb G k0 env g
 let q1:=Bb G k1 env ((q.2.add 2 0 []).uni q.1 q.2.nx)
 let q2:=Bb G k2 env q1.2
 (q1.1,q2.2.uni q2.1 q1.1)
def AS9 (B:GB) (hB:HM B) (nm:Str) (nu:Int) (ns:List Str) (k0 k1 k2:Ex) (al:List Al) (hk0:ExC B k0) (hk1:ExC B k1) (hk2:ExC B k2) (sc:List Str) (env:Env) (g:GS) (Y:AH) (j jc:Nat) (ho0:OkE B.G k0 sc) (ho1:OkE B.G k1 sc) (ho2:OkE B.G k2 sc) (hes:ES sc env g) (hnx:g.nx+1000000 * (1+(k0.size+(k1.size+k2.size)))<=900000000) (hen:g.en.length+(k0.size+(k1.size+k2.size))<=900000000) (hg:GX B Y g j jc):
 AR Tzp 227 [.gp B.i 0,exA (.mk 9 nm nu ns [k0,k1,k2] al),.d (Ij env)] Y (fun v σ'=>v=nA (AM5 B.G k0 k1 k2 env g).1/\RQ B Y g (AM5 B.G k0 k1 k2 env g).1 (1000000 * (1+(k0.size+(k1.size+k2.size)))) (k0.size+(k1.size+k2.size)) (AM5 B.G k0 k1 k2 env g).2 σ'):=by
 refine EL (by simp) ?_;rw [DK];rw [AM5];have hsz0:=Ex.size_pos k0;have hsz1:=Ex.size_pos k1;have hsz2:=Ex.size_pos k2;have hc0:=hk0 sc env g Y j jc ho0 hes (by omega) (by omega) hg;generalize Bb B.G k0 env g=r0 at *;have hna:=Cn r0.2 2 0 [];have hnu:=MT (r0.2.add 2 0 []) r0.1 r0.2.nx;have heu:((r0.2.add 2 0 []).uni r0.1 r0.2.nx).en.length=r0.2.en.length:=rfl;have hug:=fun (τ τ':AH) j1 jc1 (Z:GX B τ (r0.2.add 2 0 []) j1 jc1)=>GX.uni (a:=r0.1) (b:=r0.2.nx) (σ':=τ') hB Z;generalize (r0.2.add 2 0 []).uni r0.1 r0.2.nx=g1 at *;have hk1':=fun τ j1 jc1 (h1:g.nx<=r0.2.nx) (h2:r0.2.nx+500000<=g.nx+1000000 * k0.size) (h3:r0.2.en.length=g.en.length+k0.size) (Z:GX B τ g1 j1 jc1)=>hk1 sc env g1 τ j1 jc1 ho1 (hes.le (by omega)) (by omega) (by omega) Z;generalize Bb B.G k1 env g1=r1 at *;have hk2':=fun τ j1 jc1 (h1:g.nx<=r0.2.nx) (h2:r0.2.nx+500000<=g.nx+1000000 * k0.size) (h3:r0.2.en.length=g.en.length+k0.size) (h1:g1.nx<=r1.2.nx) (h2:r1.2.nx+500000<=g1.nx+1000000 * k1.size) (h3:r1.2.en.length=g1.en.length+k1.size) (Z:GX B τ r1.2 j1 jc1)=>hk2 sc env r1.2 τ j1 jc1 ho2 (hes.le (by omega)) (by omega) (by omega) Z;generalize Bb B.G k2 env r1.2=r2 at *;have hnu2:=MT r2.2 r2.1 r1.1
 have heu2:(r2.2.uni r2.1 r1.1).en.length=r2.2.en.length:=rfl;obtain ⟨o,n',u',ns',kk,al2⟩:=k0;obtain ⟨o1,n1,u1,ns1,kk1,al1⟩:=k1;obtain ⟨o2,n2,u2,ns2,kk2,al3⟩:=k2;simp only [exA,Ex.A4,AF,AN] at hc0 hk1' hk2' ⊢;(repeat' (first|((first|refine wQ ?_|(refine Ae rfl (fun h=>?_) (fun h=>?_)<;>try (cases h;done))|fail)<;>try simp only [il0,it0,go_sem])|(refine ⟨fun h=>?_,fun h=>?_⟩<;>first|(cases h;done)|try simp only [h])|fail));refine AI.mk rfl hc0 ?_;rintro _ τ1 ⟨rfl,hq⟩;simp only [nA];simp only [go_sem];obtain ⟨j1,jc1,hg1⟩:=hq.gx;have hql:=hq.le;have hqh:=hq.hi;have hqe:=hq.en;have hqt:=hq.lt;have hrn:r0.2.s.1.length=r0.2.nx:=rfl;refine AI.mk rfl (Bt B.i j1 r0.2.s.1 r0.2.s.2 B.rest τ1 2 .Ad [] hg1.sn Rj.Ad (by simp) (by omega)) ?_;intro v τ2 q;obtain ⟨rfl,hn3,j3,hg3⟩:=hg1.add hB q;clear q;rw [hrn];simp only [nA];simp only [go_sem];have hna':(r0.2.add 2 0 []).s.1.length=r0.2.nx+1:=hna;refine AI.mk rfl (CU B.i B.rest _ _ (r0.2.add 2 0 []).s.2 j3 r0.1 r0.2.nx τ2 (OD _) hg3.sn (by omega) (by omega) (by omega)) ?_;intro v4 τ3 q4;obtain ⟨hn4,j4,hg4⟩:=hug _ _ _ _ hg3 q4;clear q4;simp only [go_sem];have hc1:=hk1' τ3 j4 jc1 hql hqh hqe hg4
 (repeat' (refine wQ ?_<;>try simp only [il1,it1,go_sem]));refine AI.mk rfl hc1 ?_;rintro _ τ4 ⟨rfl,hq1⟩;simp only [nA];simp only [go_sem];obtain ⟨j5,jc5,hg5⟩:=hq1.gx;have h1l:=hq1.le;have h1h:=hq1.hi;have h1e:=hq1.en;have hc2:=hk2' τ4 j5 jc5 hql hqh hqe h1l h1h h1e hg5;(repeat' (refine wQ ?_<;>try simp only [il2,it2,go_sem]));refine AI.mk rfl hc2 ?_;rintro _ τ5 ⟨rfl,hq2⟩;simp only [nA];simp only [go_sem];obtain ⟨j6,jc6,hg6⟩:=hq2.gx;have h2l:=hq2.le;have h2h:=hq2.hi;have h2e:=hq2.en;have h1t:=hq1.lt;have h2n:r2.2.s.1.length=r2.2.nx:=rfl;refine AI.mk rfl (CU B.i B.rest _ _ r2.2.s.2 j6 r2.1 r1.1 τ5 (OD _) hg6.sn hq2.lt (by omega) (by omega)) ?_;intro v7 τ6 q7;obtain ⟨hn7,j7,hg7⟩:=hg6.uni hB q7;simp only [go_sem];(repeat' (refine wP ?_<;>try simp only [go_sem]));exact ⟨BH (BH (BH (BH (BH hq.nb hn3) hn4) hq1.nb) hq2.nb) hn7,⟨j7,jc6,hg7⟩,by omega,by omega,by omega,by omega⟩
def fnQ (G:GC) (ns:List Str) (k0:Ex) (env:Env) (g:GS):Nat×GS:=
 let params:=A8 g.nx ns.length
 let q:=Bb G k0 (Ce env ns params) (g.frs ns.length)
 (q.2.nx,q.2.add 9 0 (params++[q.1]))
def AS8 (B:GB) (hB:HM B) (nm:Str) (nu:Int) (ns:List Str) (k0:Ex) (al:List Al) (hk0:ExC B k0) (sc:List Str) (env:Env) (g:GS) (Y:AH) (j jc:Nat) (hns:ns.length<=1000) (ho0:OkE B.G k0 (sc++ns)) (hes:ES sc env g) (hnx:g.nx+1000000 * (1+k0.size)<=900000000) (hen:g.en.length+k0.size<=900000000) (hg:GX B Y g j jc):
 AR Tzp 227 [.gp B.i 0,exA (.mk 11 nm nu ns [k0] al),.d (Ij env)] Y (fun v σ'=>v=nA (fnQ B.G ns k0 env g).1/\RQ B Y g (fnQ B.G ns k0 env g).1 (1000000 * (1+k0.size)) k0.size (fnQ B.G ns k0 env g).2 σ'):=by
 refine EL (by simp) ?_;rw [DK];rw [fnQ];have hsz0:=Ex.size_pos k0;have hn0:=dE g ns.length;have h0e:(g.frs ns.length).en.length=g.en.length:=rfl;have hfr:=Dx B.i j g.s.1 g.s.2 B.rest Y ns.length hg.sn (by omega) (by have:g.s.1.length=g.nx:=rfl;omega);have hfg:=fun v σ' q=>hg.frs hB (σ':=σ') (v0:= .d (.sl ((A8 g.s.1.length ns.length).map CN))) (v:=v) (n:=ns.length) q;have l0:g.s.1.length=g.nx:=rfl;rw [l0] at hfr hfg;have har:∀a∈A8 g.nx ns.length,a < g.nx+ns.length:=fun a ha=>by rw [TH] at ha;omega
 have hrl:(A8 g.nx ns.length).length=ns.length:=by simp
 generalize A8 g.nx ns.length=ar at *;generalize g.frs ns.length=g0 at *;have hc0:=fun τ j1 Z=>hk0 (sc++ns) (Ce env ns ar) g0 τ j1 jc ho0 (hes.with hrl.symm (by omega) (fun t ht=>by have:=har t ht;omega)) (by omega) (by omega) Z;generalize Bb B.G k0 (Ce env ns ar) g0=r0 at *;have hna:=Cn r0.2 9 0 (ar++[r0.1]);have hea:(r0.2.add 9 0 (ar++[r0.1])).en.length=r0.2.en.length:=rfl;obtain ⟨o,n',u',ns',kk,al2⟩:=k0;simp only [exA,Ex.A4,AF,AN] at hc0 ⊢;(repeat' (first|refine ctQ rfl ?_|((first|refine rgQ mxQ ?_|refine cdQ ?_)<;>try simp only [AA,go_sem])|(refine ⟨fun h=>?_,fun h=>?_⟩<;>first|(cases h;done)|try simp only [h])|fail));refine AI.mk rfl hfr ?_;intro v τ0 q;obtain ⟨rfl,hnb0,j0,hg0⟩:=hfg v τ0 q;clear q hfr hfg;simp only [go_sem];have hw:=JN (.d (Ij env)) env (PlV.d _) ns ar hrl.symm τ0;(repeat' (first|refine ctQ rfl ?_|((first|refine rgQ mxQ ?_|refine cdQ ?_)<;>try simp only [go_sem])|fail));refine Run.IX mixed ?_;simp only [il0,it0,go_sem];refine ⟨?_,?_⟩<;>
 . refine AI.det hw ?_;simp only [go_sem];refine AI.mk rfl (hc0 τ0 j0 hg0) ?_;rintro _ τ1 ⟨rfl,hq⟩;simp only [nA];simp only [go_sem];obtain ⟨j1,jc1,hg1⟩:=hq.gx;have hql:=hq.le;have hqh:=hq.hi;have hqe:=hq.en;have hqt:=hq.lt;have hrn:r0.2.s.1.length=r0.2.nx:=rfl;(repeat' (refine wQ ?_<;>try simp only [go_sem]));refine AI.mk rfl (U0 ar τ1 (by omega)) ?_;rintro cv τ2 ⟨ho,hb2⟩;simp only [go_sem];refine Dh.own ho rfl (by simp) (by simp;omega) (by omega) (fun v2 τ3 ho2 hb3=>?_);simp only [go_sem];have hg3:=(hg1.nbo hb2).nbo hb3;have ho3:CC (nbH τ1) 3 1 ((ar++[r0.1]).map CN) v2 τ3:=by rw [Ao];exact ho2
   refine AI.mk (by simp [ho2.BS,VP,MR]) (Bt B.i j1 r0.2.s.1 r0.2.s.2 B.rest τ3 9 v2 (ar++[r0.1]) hg3.sn ho3.row (fun a ha=>?_) (by omega)) ?_
   . rcases AZ.1 ha with ha|ha
     . have:=har a ha;omega
     . simp only [A3] at ha;subst ha;exact hqt
   intro v4 τ4 q;obtain ⟨rfl,hn4,j4,hg4⟩:=hg3.add hB q;clear q;rw [hrn];simp only [nA];simp only [go_sem];(repeat' (refine wP ?_<;>try simp only [go_sem]));exact ⟨BH (BH (BH hnb0 hq.nb) ho2.le) hn4,⟨j4,jc1,hg4⟩,by omega,by omega,by omega,by omega⟩
def AOU (G:GC) (nm:Str) (k0 k1:Ex) (env:Env) (g:GS):Nat×GS:=
 let q:=Bb G k0 env g
 let r:=Bb G k1 (Ce env [nm] [q.2.nx]) (q.2.add 1 0 [])
 (q.1,r.2.uni r.1 q.1)
def AOW (B:GB) (hB:HM B) (nm:Str) (nu:Int) (ns:List Str) (k0 k1:Ex) (al:List Al) (hk0:ExC B k0) (hk1:ExC B k1) (sc:List Str) (env:Env) (g:GS) (Y:AH) (j jc:Nat) (ho0:OkE B.G k0 sc) (ho1:OkE B.G k1 (vZ nm sc)) (hes:ES sc env g) (hnx:g.nx+1000000 * (1+(k0.size+k1.size))<=900000000) (hen:g.en.length+(k0.size+k1.size)<=900000000) (hg:GX B Y g j jc):
 AR Tzp 227 [.gp B.i 0,exA (.mk 17 nm nu ns [k0,k1] al),.d (Ij env)] Y (fun v σ'=>v=nA (AOU B.G nm k0 k1 env g).1/\RQ B Y g (AOU B.G nm k0 k1 env g).1 (1000000 * (1+(k0.size+k1.size))) (k0.size+k1.size) (AOU B.G nm k0 k1 env g).2 σ'):=by
 refine EL (by simp) ?_;rw [DK];rw [AOU];have hsz0:=Ex.size_pos k0;have hsz1:=Ex.size_pos k1;have hc0:=hk0 sc env g Y j jc ho0 hes (by omega) (by omega) hg;generalize Bb B.G k0 env g=r0 at *;have hna:=Cn r0.2 1 0 [];have hea:(r0.2.add 1 0 []).en.length=r0.2.en.length:=rfl;have hfm:=fun (τ τ':AH) j1 jc1 (v:AV) (Z:GX B τ r0.2 j1 jc1)=>GX.add (k:=1) (n:=0) (ar:=[]) (σ':=τ') (v0:=nA r0.2.s.1.length) (v:=v) hB Z;generalize r0.2.add 1 0 []=g1 at *;have hk1':=fun τ j1 jc1 (h0:r0.1 < r0.2.nx) (h1:g.nx<=r0.2.nx) (h2:r0.2.nx+500000<=g.nx+1000000 * k0.size) (h3:r0.2.en.length=g.en.length+k0.size) (Z:GX B τ g1 j1 jc1)=>hk1 (vZ nm sc) (Ce env [nm] [r0.2.nx]) g1 τ j1 jc1 ho1 (hes.AXP nm (by omega) (by omega)) (by omega) (by omega) Z;generalize Bb B.G k1 (Ce env [nm] [r0.2.nx]) g1=r1 at *;have hnu2:=MT r1.2 r1.1 r0.1;have heu2:(r1.2.uni r1.1 r0.1).en.length=r1.2.en.length:=rfl;obtain ⟨o,n',u',ns',kk,al2⟩:=k0;obtain ⟨o1,n1,u1,ns1,kk1,al1⟩:=k1;simp only [exA,Ex.A4,AF,AN] at hc0 hk1' ⊢;(repeat' (first|refine ctQ rfl ?_|((first|refine rgQ mxQ ?_|refine cdQ ?_)<;>try simp only [il0,it0,go_sem])|(refine ⟨fun h=>?_,fun h=>?_⟩<;>first|(cases h;done)|try simp only [h])|fail));refine AI.mk rfl hc0 ?_
 rintro _ τ1 ⟨rfl,hq⟩;simp only [nA];simp only [go_sem];obtain ⟨j1,jc1,hg1⟩:=hq.gx;have hql:=hq.le;have hqh:=hq.hi;have hqe:=hq.en;have hqt:=hq.lt;have hrn:r0.2.s.1.length=r0.2.nx:=rfl;(repeat' (first|refine ctQ rfl ?_|((first|refine rgQ mxQ ?_|refine cdQ ?_)<;>try simp only [go_sem])|fail));refine Run.IX mixed ?_;simp only [il1,it1,go_sem];refine ⟨?_,?_⟩<;>
 (refine AI.mk rfl (Bt B.i j1 r0.2.s.1 r0.2.s.2 B.rest τ1 1 .Ad [] hg1.sn Rj.Ad (by simp) (by omega)) ?_
  intro v τ2 q;obtain ⟨rfl,hn3,j3,hg3⟩:=hfm _ _ _ _ _ hg1 q;clear q;rw [hrn];simp only [nA];simp only [go_sem];have hw:=AFH (.d (Ij env)) env (PlV.d _) nm r0.2.nx τ2)
 rotate_left;refine ⟨?_,?_⟩
 all_goals
  refine AI.det hw ?_;simp only [go_sem];refine AI.mk rfl (hk1' τ2 j3 jc1 hqt hql hqh hqe hg3) ?_;rintro _ τ4 ⟨rfl,hq1⟩;simp only [nA];simp only [go_sem];obtain ⟨j5,jc5,hg5⟩:=hq1.gx;have h1l:=hq1.le;have h1h:=hq1.hi;have h1e:=hq1.en;have h1n:r1.2.s.1.length=r1.2.nx:=rfl;refine AI.mk rfl (CU B.i B.rest _ _ r1.2.s.2 j5 r1.1 r0.1 τ4 (OD _) hg5.sn hq1.lt (by omega) (by omega)) ?_;intro v7 τ6 q7;obtain ⟨hn7,j7,hg7⟩:=hg5.uni hB q7;simp only [go_sem];(repeat' (refine wP ?_<;>try simp only [go_sem]));exact ⟨BH (BH (BH hq.nb hn3) hq1.nb) hn7,⟨j7,jc5,hg7⟩,by omega,by omega,by omega,by omega⟩
def fR {o:Int} {n:Str} {ns sc:List Str} {x:Ex×List Str}:∀ {l:List Ex} {i m:Nat} {k:Ex},l[m]?=some k->x∈Ca k (Qg o n ns sc (i+m))->x∈Cr o n ns sc i l
 |y::l,i,0,k,h,Z=>by
  simp only [Aw,AM] at h;subst h;rw [Cr,AZ];exact .inl Z
 |y::l,i,m+1,k,h,Z=>by
  rw [Cr,AZ];exact .inr (fR (m:=m) (by simpa using h) (by rw [show i+1+m=i+(m+1) from by omega];exact Z))
def fQ {sc:List Str} {x:Ex×List Str} {a:Al}:∀ {l:List Al},a∈l->x∈Ca a.body (sc++a.vars)->x∈Ed sc l
 |y::l,h,Z=>by
  rw [Ed,AZ];rcases Az.1 h with rfl|h
  . left;obtain ⟨c,vs,b⟩:=a;exact Z
  . exact .inr (fQ h Z)
def OkE.kid {G:GC} {n:Str} {sc:List Str} (h:OkE G (.mk o n u ns ks al) sc) {i:Nat} {k:Ex} (hk:ks[i]?=some k):OkE G k (Qg o n ns sc i):=fun x Z=>h x (by
 rw [Ca,Az,AZ];exact .inr (.inl (fR (i:=0) hk (by rw [BF];exact Z))))
def OkE.alt {G:GC} {n:Str} {sc:List Str} (h:OkE G (.mk o n u ns ks al) sc) {a:Al} (ha:a∈al):OkE G a.body (sc++a.vars):=fun x Z=>h x (by
 rw [Ca,Az,AZ];exact .inr (.inr (fQ ha Z)))
def OkE.me {G:GC} {e:Ex} {sc:List Str} (h:OkE G e sc):QF G.fs G.dt e sc=0/\nb1 e:=h (e,sc) (by obtain ⟨o,n,u,ns,ks,al⟩:=e;rw [Ca];exact AW)
def AL7 (B:GB) (hB:HM B) (g:GS) (τ:AH) (j jc at_ t:Nat) (Q:AV->AH->Prop) (hg:GX B τ g j jc) (hat:at_ < g.en.length) (ht:t < g.nx)
 (hQ:∀σ',(nbH τ).le σ'->(∃j jc,GX B σ' (g.UN at_ fun e=> { e with t:=t}) j jc)->Q (nA t) σ'):
 Run C6 Q [.blk 0,.code (.seq (.reg [⟨some 155,.mv (.t 0),none⟩,⟨some 156,.nck (.t 155),none⟩,⟨some 157,.fld (.t 156) 9,none⟩,⟨some 158,.ld (.t 157) none,none⟩,⟨some 159,.mv (.t 0),none⟩,⟨some 160,.nck (.t 159),none⟩,⟨some 161,.fld (.t 160) 10,none⟩,⟨some 162,.ld (.t 161) none,none⟩,⟨some 163,.ix (.t 158) (.t 162) 1,none⟩,⟨some 164,.ld (.t 163) none,none⟩,⟨some 165,.mv (.t 7),none⟩,⟨some 166,.mv (.t 8),none⟩,⟨some 167,.ix (.t 164) (.t 165) 3,none⟩,⟨some 168,.fld (.t 167) 0,none⟩,⟨none,.st (.t 168) (.t 166) 1,none⟩] [8]) (.seq (.reg [⟨some 169,.mv (.t 8),none⟩,⟨some 6,.mv (.t 169),none⟩] [6]) .ret))] (put 0 (.gp B.i 0) (put 7 (.d (.int .i64 (at_:Int))) (put 8 (.d (.int .i64 (t:Int))) U))) E τ:=by
 have hbi:=hg.bi;have hen:g.en≠[]:=fun e=>by rw [e] at hat;cases hat
 obtain ⟨c1,c2,c3,c4,c5⟩:=hg.c hen;have hje:=hg.e;rw [Xd hen] at hje;have hcu:=ltT hB.cur;have hcg:(B.es.set B.cur (AV.ms jc g.en.length 3 tkE))[B.cur]?=some (AV.ms jc g.en.length 3 tkE):=by simp [hB.cur]
 have hatT:=ltT hat;obtain ⟨x,Z⟩:=Ai hat;have hle:(at_ * 3+1<=(enC g.en).length)=True:=by rw [Oz En.row 3 En.F6];simp;omega
 have hwr:=ABK En.row 3 En.F6 0 (.d (.int .i64 (t:Int))) (fun e=> { e with t:=t}) Z (by omega) rfl;simp only [CF] at hwr;obtain ⟨q1,q2,q3,q4⟩:=hg.gi.en x (AD Z);have hg2:=hg.mod hB (at_:=at_) (fun e=> { e with t:=t}) Z ⟨ht,q2,q3,q4⟩;have:=hQ (τ.AL jc (enC (g.en.modify at_ fun e=> { e with t:=t}))) ⟨fun _ _ h=>(by cases h),fun _ h=>h,rfl,fun _ _ h=>h⟩ ⟨j,jc,hg2⟩;(repeat' (refine wP ?_<;>try simp only [hbi,hje,hcu,hcg,A9,hatT,c1,hle,hwr,go_sem]));exact this
def PA:C->C
 | .seq _ b=>b
 |c=>c
noncomputable def OM:C:=PA (PA (PA BR))
def GS.push (g:GS):GS:= { g with en:=g.en++[⟨0,-1,[]⟩]}
def REn (B:GB) (Y:AH) (g:GS) (j:Nat) (F0:Fm) (L0:Lm) (F:Fm) (L:Lm) (τ:AH):Prop:=Gw [0,2,4,7] F=F0/\Fp [0,2,4,7] L=L0/\(nbH Y).le τ/\∃jc,GX B τ g.push j jc
def AL6 (B:GB) (hB:HM B) (e:Ex) (env:Env) (g:GS) (Y:AH) (j jc:Nat) (hen:g.en.length<=900000000) (hg:GX B Y g j jc) (Q:AV->AH->Prop)
 (h:∀τ jc',(nbH Y).le τ->GX B τ g.push j jc'->Run C6 Q [.code OM] (put 0 (.gp B.i 0) (put 2 (.d (Ij env)) (put 4 (.lp 4 0) (put 7 (.d (.int .i64 (g.en.length:Int))) U)))) (At 4 (e.enc.map AV.d) E) τ):
 AR Tzp 155 [.gp B.i 0,exA e,.d (Ij env)] Y Q:=by
 have hbi:=hg.bi;have hje:=hg.e;have hcu:=ltT hB.cur;obtain ⟨w1,w2,w3,w4,w5⟩:=T4 g.en jc;have hcg:(B.es.set B.cur (enV g.en jc))[B.cur]?=some (enV g.en jc):=by simp [hB.cur]
 obtain ⟨o,n,u,ns,ks,al⟩:=e;refine Zn (by simp) ?_;rw [DK];simp only [exA,Ex.A4,AF,AN] at h ⊢;(repeat' (first|refine ctQ rfl ?_|((first|refine rgQ mxQ ?_|refine cdQ ?_|(refine Ae rfl (fun h=>?_) (fun h=>?_)<;>try (cases h;done)))<;>try simp only [hbi,hje,hcu,hcg,A9,w1,w5,go_sem])|(refine ⟨fun h=>?_,fun h=>?_⟩<;>first|(cases h;done)|try simp only [h])|fail));refine Run.gH mixed (REn B Y g j (put 0 (.gp B.i 0) (put 2 (.d (Ij env)) (put 4 (.lp 4 0) (put 7 (.d (.int .i64 (g.en.length:Int))) U)))) (At 4 [.d (.int .i64 o),.d (.str n),.d (.int .i64 u),.d (.sl (ns.map BX)),.d (.sl (ks.map Ex.enc)),.d (.sl (al.map Al.enc))] E)) ?_ ?_
 . simp only [hbi,hje,hcu,hcg,A9,w1,go_sem];refine ⟨⟨?_,?_⟩,⟨?_,?_⟩,?_⟩<;>
   . refine PO.en hB hg (t:=0) (f:=-1) (ar:=[]) rfl hen (by omega) ⟨hg.gi.pos,by omega,by omega,by simp⟩ (fun jc' τ e1 e2 hg1 hnb=>?_);have f1:=e1.trans hbi;have f2:=e2.trans hje;have hle:(B.cur+1<=(B.es.set B.cur (enV g.en jc)).length)=True:=by have:=hB.cur;simp;omega
     have hsw:=AZH hB.cur (enV g.en jc) (.ms jc' (g.en.length+1) 3 tkE);simp only [f1,f2,hcu,A9,hle,hsw,go_sem];refine ⟨?_,?_,⟨fun _ _ h=>(by cases h),hnb.tok,hnb.gt,hnb.bt⟩,jc',hg1⟩<;>simp only [go_sem]
 . rintro F' L' τ ⟨h1,h2,hnb,jc',hg1⟩;rw [h1,h2];exact h τ jc' hnb hg1
def Xe (g:GS) (r:Nat×GS):Nat×GS:=(r.1,r.2.UN g.en.length fun e=> { e with t:=r.1})
def AUL (G:GC) (nm:Str) (u:Int) (ns:List Str) (ks:List Ex) (al:List Al) (env:Env) (g:GS):Bb G (.mk 4 nm u ns ks al) env g=Xe g (dS G env nm g.en.length g.push):=rfl
def AUR (G:GC) (ho:o=1\/o=2\/o=3\/o=15) (nm:Str) (u:Int) (ns:List Str) (ks:List Ex) (al:List Al) (env:Env) (g:GS):Bb G (.mk o nm u ns ks al) env g=Xe g (g.push.nx,g.push.add (vE o) 0 []):=by
 rcases ho with rfl|rfl|rfl|rfl<;>rfl
def AbL (G:GC) (ks:List Ex) (env:Env) (g:GS):Nat×GS:=((C9 G ks env g).2.nx,(C9 G ks env g).2.add 6 0 (C9 G ks env g).1)
def AUM (G:GC) (nm:Str) (u:Int) (ns:List Str) (ks:List Ex) (al:List Al) (env:Env) (g:GS):Bb G (.mk 5 nm u ns ks al) env g=Xe g (AbL G ks env g.push):=rfl
def AUN (G:GC) (nm:Str) (u:Int) (ns:List Str) (ks:List Ex) (al:List Al) (env:Env) (g:GS) {d c:Nat} {con:Con} (h1:El G.dt nm=some (d,c)) (h2:G.dt[d]?=some D) (h3:D.cons[c]?=some con):Bb G (.mk 6 nm u ns ks al) env g=Xe g (ALZ G D con.args d ks env g.push):=by
 have:Bb G (.mk 6 nm u ns ks al) env g=Xe g (match El G.dt nm with
  |none=>(0,g.push)
  |some (d,c)=>match G.dt[d]? with
   |none=>(0,g.push)
   |some D=>
    let ar:=A8 g.push.nx D.vars.toNat
    let h:=De G ks env 0 (fun i r s=>let q:=Eu ar s.1 (((D.cons[c]?).map Con.args).getD []|>.getD i (.mk 0 0 []));Go.Ab.uni (q.2,s.2) r q.1) (g.push.frs D.vars.toNat)
    (h.nx,h.add 5 d ar)):=rfl
 rw [this,h1];simp only [h2,h3];rfl
def AQG (G:GC) (nm:Str) (u:Int) (ns:List Str) (ks:List Ex) (a:Al) (al:List Al) (env:Env) (g:GS) {d c:Nat} (h1:El G.dt a.con=some (d,c)) (h2:G.dt[d]?=some D):Bb G (.mk 10 nm u ns ks (a::al)) env g=Xe g (ANJ G D d ks (a::al) env g.push):=by
 have:Bb G (.mk 10 nm u ns ks (a::al)) env g=Xe g (match El G.dt a.con with
  |none=>(0,g.push)
  |some (d,_)=>match G.dt[d]? with
   |none=>(0,g.push)
   |some D=>
    let ar:=A8 g.push.nx D.vars.toNat
    let h:=Ie G ks env (g.push.frs D.vars.toNat)
    let r:=h.1
    let h:=(h.2.add 5 d ar).uni r h.2.nx
    let t:=h.nx
    (t,Vt G (a::al) env D ar t (h.add 0 0 []))):=rfl
 rw [this,h1];simp only [h2];rfl
def AaM (G:GC) (ks:List Ex) (env:Env) (g:GS):Nat×GS:=
 let q:=C9 G ks env g
 (q.2.nx,((q.2.add 0 0 []).add 9 0 (q.1.tail++[q.2.nx])).uni (q.1.headD 0) (q.2.nx+1))
def AQI (G:GC) (nm:Str) (u:Int) (ns:List Str) (ks:List Ex) (al:List Al) (env:Env) (g:GS):Bb G (.mk 12 nm u ns ks al) env g=Xe g (AaM G ks env g.push):=rfl
def AQJ (G:GC) (nm:Str) (u:Int) (ns:List Str) (ks:List Ex) (al:List Al) (env:Env) (g:GS):Bb G (.mk 13 nm u ns ks al) env g=Xe g ((De G ks env 0 opF g.push).nx,(De G ks env 0 opF g.push).add (if 6<=u/\u<=8 then 2 else 1) 0 []):=rfl
def AQK (G:GC) (nm:Str) (u:Int) (ns:List Str) (ks:List Ex) (al:List Al) (env:Env) (g:GS):Bb G (.mk 14 nm u ns ks al) env g=Xe g (Y4 G u ks env g.push):=rfl
def AbG (G:GC) (k:Ex) (env:Env) (g:GS):Nat×GS:=
 let q:=Bb G k env g
 (((q.2.add 1 0 []).uni q.1 q.2.nx).nx,((q.2.add 1 0 []).uni q.1 q.2.nx).add 0 0 [])
def AQL (G:GC) (nm:Str) (u:Int) (ns:List Str) (k:Ex) (al:List Al) (env:Env) (g:GS):Bb G (.mk 16 nm u ns [k] al) env g=Xe g (AbG G k env g.push):=rfl
def AUO (G:GC) (nm:Str) (u:Int) (ns:List Str) (k0 k1:Ex) (al:List Al) (env:Env) (g:GS):Bb G (.mk 7 nm u ns [k0,k1] al) env g=Xe g (ANE G nm k0 k1 env g.push):=rfl
def AUP (G:GC) (nm:Str) (u:Int) (ns:List Str) (k0 k1:Ex) (al:List Al) (env:Env) (g:GS):Bb G (.mk 8 nm u ns [k0,k1] al) env g=Xe g (AOY G ns k0 k1 env g.push):=rfl
def AUQ (G:GC) (nm:Str) (u:Int) (ns:List Str) (k0 k1 k2:Ex) (al:List Al) (env:Env) (g:GS):Bb G (.mk 9 nm u ns [k0,k1,k2] al) env g=Xe g (AM5 G k0 k1 k2 env g.push):=rfl
def AQH (G:GC) (nm:Str) (u:Int) (ns:List Str) (k0:Ex) (al:List Al) (env:Env) (g:GS):Bb G (.mk 11 nm u ns [k0] al) env g=Xe g (fnQ G ns k0 env g.push):=rfl
def AQM (G:GC) (nm:Str) (u:Int) (ns:List Str) (k0 k1:Ex) (al:List Al) (env:Env) (g:GS):Bb G (.mk 17 nm u ns [k0,k1] al) env g=Xe g (AOU G nm k0 k1 env g.push):=rfl
def RQ.cast {Y:AH} {n c m c' m':Nat} (h:RQ B Y g n c m g' σ') (e1:c=c') (e2:m=m'):RQ B Y g n c' m' g' σ':=by subst e1;subst e2;exact h
def AY2 {nk:Nat} (h:nkB o u nk=true):1<=o/\o<=17:=by
 unfold nkB at h
 repeat' split at h
 all_goals first
  |omega
  |(exfalso;simp at h;done)
def ART {nk:Nat} (h:nkB o u nk=true):o=1\/o=2\/o=3\/o=4\/o=5\/o=6\/o=7\/o=8\/o=9\/o=10\/o=11\/o=12\/o=13\/o=14\/o=15\/o=16\/o=17:=by
 have:=AY2 h;omega
def Fv (B:GB) (hB:HM B) (e:Ex) (env:Env) (g:GS) (Y τ0:AH) (hnb:(nbH Y).le τ0) (r:Nat×GS) (hr:Bb B.G e env g=Xe g r) (S:Nat) (hs:e.size=1+S) (τ:AH) (q:RQ B τ0 g.push r.1 (1000000 * (1+S)) S r.2 τ):
 Run C6 (fun v σ'=>v=nA (Bb B.G e env g).1/\RQ B Y g (Bb B.G e env g).1 (1000000 * e.size) e.size (Bb B.G e env g).2 σ') [.blk 0,.code (.seq (.reg [⟨some 155,.mv (.t 0),none⟩,⟨some 156,.nck (.t 155),none⟩,⟨some 157,.fld (.t 156) 9,none⟩,⟨some 158,.ld (.t 157) none,none⟩,⟨some 159,.mv (.t 0),none⟩,⟨some 160,.nck (.t 159),none⟩,⟨some 161,.fld (.t 160) 10,none⟩,⟨some 162,.ld (.t 161) none,none⟩,⟨some 163,.ix (.t 158) (.t 162) 1,none⟩,⟨some 164,.ld (.t 163) none,none⟩,⟨some 165,.mv (.t 7),none⟩,⟨some 166,.mv (.t 8),none⟩,⟨some 167,.ix (.t 164) (.t 165) 3,none⟩,⟨some 168,.fld (.t 167) 0,none⟩,⟨none,.st (.t 168) (.t 166) 1,none⟩] [8]) (.seq (.reg [⟨some 169,.mv (.t 8),none⟩,⟨some 6,.mv (.t 169),none⟩] [6]) .ret))] (put 0 (.gp B.i 0) (put 7 (.d (.int .i64 (g.en.length:Int))) (put 8 (.d (.int .i64 (r.1:Int))) U))) E τ:=by
 obtain ⟨j,jc,hg⟩:=q.gx;have h1:=q.en;have h2:=q.le;have h3:=q.hi;have hp:g.push.en.length=g.en.length+1:=by simp [GS.push]
 have hpn:g.push.nx=g.nx:=rfl;refine AL7 B hB r.2 τ j jc g.en.length r.1 _ hg (by omega) q.lt (fun σ' hn Z=>?_);rw [hr,hs];refine ⟨rfl,BH (BH hnb q.nb) hn,Z,q.lt,?_,?_,?_⟩
 . show g.nx<=r.2.nx;omega
 . show r.2.nx+500000<=_;omega
 . show (r.2.en.modify _ _).length=_;rw [List.length_modify];omega
def Ec {n:Str} (h:nb1 (.mk o n u ns ks al)):nmB o n=true/\nuB o u=true/\nsB o ns=true/\asB o al=true/\nkB o u ks.length=true:=by
 unfold nb1 R4 at h;simp only [Ex.op,Ex.name,Ex.num,Ex.names,Ex.kids,Ex.alts,AO] at h;obtain ⟨⟨⟨⟨a,b⟩,c⟩,d⟩,e⟩:=h;exact ⟨a,b,c,d,e⟩
def qL:∀ {l:List Con} {s:Str} {k:Nat},JC l s=some k->∃c,l[k]?=some c
 |[],s,k,h=>by cases h
 |c::l,s,k,h=>by
  rw [JC] at h;split at h
  . cases h;exact ⟨c,rfl⟩
  . cases hc:JC l s with
    |none=>rw [hc] at h;cases h
    |some m=>
     rw [hc] at h;simp only [Ac,AM] at h;subst h;obtain ⟨x,Z⟩:=qL hc;exact ⟨x,by simpa using Z⟩
def ZD:∀ {dt:List Dat} {s:Str} {d c:Nat},El dt s=some (d,c)->∃D con,dt[d]?=some D/\D.cons[c]?=some con
 |[],s,d,c,h=>by cases h
 |D::dt,s,d,c,h=>by
  rw [El] at h;cases hk:JC D.cons s with
  |some k=>
   rw [hk] at h;simp only [AM,BZ] at h;obtain ⟨rfl,rfl⟩:=h;obtain ⟨x,Z⟩:=qL hk;exact ⟨D,x,rfl,Z⟩
  |none=>
   rw [hk] at h;cases hc:El dt s with
   |none=>rw [hc] at h;cases h
   |some y=>
    obtain ⟨d',c'⟩:=y;rw [hc] at h;simp only [Ac,AM,BZ] at h;obtain ⟨rfl,rfl⟩:=h;obtain ⟨D',con,h1,h2⟩:=ZD hc;exact ⟨D',con,by simpa using h1,h2⟩
def ACI {dt:List Dat} {d c:Nat} {con:Con} (h1:dt[d]?=some D) (h2:D.cons[c]?=some con):arity dt (d,c)=con.args.length:=by
 simp only [arity,h1,h2]
def bM {dt:List Dat}:∀ {l:List Al} {xs:List (Nat×Nat)},Dd dt l= .ok xs->∀a∈l,∃x∈xs,El dt a.con=some x/\a.vars.length=arity dt x
 |[],xs,h,a,ha=>by simp at ha
 | .mk c vs b::l,xs,h,a,ha=>by
  rw [Dd] at h;cases hc:El dt c with
  |none=>rw [hc] at h;cases h
  |some x=>
   rw [hc] at h;simp only at h;split at h
   . cases h
   . rename_i hl;split at h
     . cases h
     . cases hg:Dd dt l with
       |error e=>rw [hg] at h;cases h
       |ok ys=>
        rw [hg] at h;cases h;rcases Az.1 ha with rfl|ha
        . exact ⟨x,AW,hc,by simpa [Al.vars] using hl⟩
        . obtain ⟨y,hy,h1,h2⟩:=bM hg a ha;exact ⟨y,AU _ hy,h1,h2⟩
def ACD {dt:List Dat} {a:Al} {l:List Al} (h:XN dt (a::l)=0):∃d,∀b∈a::l,∃c,El dt b.con=some (d,c)/\b.vars.length=arity dt (d,c):=by
 unfold XN at h;cases hg:Dd dt (a::l) with
 |error e=>
  rw [hg] at h;simp only at h;subst h;exfalso
  have:∀l:List Al,Dd dt l≠.error 0:=by
   intro l
   induction l with
   |nil=>intro h;cases h
   |cons a l ih=>
    intro h;obtain ⟨c,vs,b⟩:=a;rw [Dd] at h;split at h
    . simp at h
    . split at h
      . simp at h
      . split at h
        . simp at h
        . cases hl:Dd dt l with
          |error e=>
           rw [hl] at h;simp only [C4] at h;cases h;exact ih hl
          |ok ys=>rw [hl] at h;cases h
  exact this _ hg
 |ok xs=>
  rw [hg] at h;simp only at h;cases xs with
  |nil=>
   obtain ⟨x,Z,_⟩:=bM hg a (AW);simp at Z
  |cons x xs=>
   split at h
   . rename_i he;unfold qW at he;simp only [AO,Aj] at he;refine ⟨x.1,fun b hb=>?_⟩;obtain ⟨y,hy,h1,h2⟩:=bM hg b hb;have hyx:=he.1.1 y hy;have hyx:y.1=x.1:=by simpa using hyx
     obtain ⟨y1,y2⟩:=y;simp only at hyx;subst hyx;exact ⟨y2,h1,h2⟩
   . cases h
def ExT (B:GB) (e:Ex):Prop:=∀(sc:List Str) (env:Env) (g:GS) (Y τ:AH) (j jc:Nat),OkE B.G e sc->ES sc env g.push->g.nx+1000000 * e.size<=900000000->g.en.length+e.size<=900000000->(nbH Y).le τ->GX B τ g.push j jc->
 Run C6 (fun v σ'=>v=nA (Bb B.G e env g).1/\RQ B Y g (Bb B.G e env g).1 (1000000 * e.size) e.size (Bb B.G e env g).2 σ') [.code OM] (put 0 (.gp B.i 0) (put 2 (.d (Ij env)) (put 4 (.lp 4 0) (put 7 (.d (.int .i64 (g.en.length:Int))) U)))) (At 4 (e.enc.map AV.d) E) τ
def Hs (g:GS):g.push.nx=g.nx:=rfl
def Hr (g:GS):g.push.en.length=g.en.length+1:=by simp [GS.push]
def Ab6 (B:GB) (hB:HM B) (hD:GD B.G) (nm:Str) (u:Int) (ns:List Str):ExT B (.mk 4 nm u ns [] []):=by
 intro sc env g Y τ j jc hok hes hnx hen hnb hg;obtain ⟨hv,hn⟩:=hok.me;have hp:=Hs g;have hpe:=Hr g;have hsz:(Ex.mk 4 nm u ns [] []).size=1+0:=by simp [Ex.size,Ex.AQ,Al.AQ]
 have hnm:nm≠[]:=by
  intro e;subst e;have:=(Ec hn).1;revert this;decide
 have hv':QF B.G.fs B.G.dt (.mk 4 nm 0 [] [] []) sc=0:=hv;have hc:=AFF B hB hD sc env nm g.en.length g.push τ j jc hnm hv' hes (by omega) (by omega) hg;have hfin:=fun τ' q=>Fv B hB _ env g Y τ hnb _ (AUL B.G nm u ns [] [] env g) 0 hsz τ' q;generalize dS B.G env nm g.en.length g.push=r at *;simp only [Ex.A4,AF,AN];unfold OM BR;simp only [PA];(repeat' (refine wQ ?_<;>try simp only [go_sem]));refine AI.mk rfl hc ?_;rintro _ τ2 ⟨rfl,q⟩;simp only [nA];simp only [go_sem]
 trace_state
 exact hfin τ2 q
def AHS (o:Int) (n:Str) (ns sc:List Str) (h:o≠11):Qg o n ns sc 0=sc:=by
 unfold Qg;simp [h]
def AYS (h:o≠7/\o≠8/\o≠11/\o≠17) (n:Str) (ns sc:List Str) (i:Nat):Qg o n ns sc i=sc:=by
 unfold Qg;simp [h.1,h.2.1,h.2.2.1,h.2.2.2]
def J1 (h:o≠10) (hb:asB o al=true):al=[]:=by
 unfold asB at hb;rw [if_neg h] at hb;exact An (by simpa using hb)
def OkE.all {G:GC} {n:Str} {sc:List Str} (h:OkE G (.mk o n u ns ks al) sc) (ho:o≠7/\o≠8/\o≠11/\o≠17):∀k∈ks,OkE G k sc:=fun k hk=>by
 obtain ⟨i,hi,rfl⟩:=Bv hk;have:=h.kid (i:=i) (k:=ks[i]) (by simp [hi])
 rwa [AYS ho] at this
def size_mk (o:Int) (n:Str) (u:Int) (ns:List Str) (ks:List Ex) (al:List Al):(Ex.mk o n u ns ks al).size=1+(Ex.AQ ks+Al.AQ al):=by simp only [Ex.size];omega
def ABS (a b:Ex):Ex.AQ [a,b]=a.size+b.size:=by simp [Ex.AQ]
def AK0 (a:Ex):Ex.AQ [a]=a.size:=by simp [Ex.AQ]
def AWA (a b c:Ex):Ex.AQ [a,b,c]=a.size+(b.size+c.size):=by simp [Ex.AQ]
def Ab8 (B:GB) (hB:HM B) (hD:GD B.G) (nm:Str) (u:Int) (ns:List Str) (ks:List Ex) (al:List Al) (hk:∀k∈ks,ExC B k):ExT B (.mk 6 nm u ns ks al):=by
 intro sc env g Y τ j jc hok hes hnx hen hnb hg;obtain ⟨hv,hn⟩:=hok.me;obtain ⟨n1,n2,n3,n4,n5⟩:=Ec hn;have hp:=Hs g;have hpe:=Hr g;have ha:=J1 (by decide) n4;subst ha;have hsz:=size_mk 6 nm u ns ks [];simp only [Al.AQ,CF] at hsz;rw [hsz] at hnx hen;have hok':=hok.all (by decide)
 obtain ⟨d,c,D,con,h1,h2,h3,h4⟩:∃d c D con,El B.G.dt nm=some (d,c)/\B.G.dt[d]?=some D/\D.cons[c]?=some con/\ks.length=con.args.length:=by
  have hv2:(match El B.G.dt nm with
   |none=>(3:Int)
   |some x=>if ks.length≠arity B.G.dt x then 5 else 0)=0:=hv
  cases hct:El B.G.dt nm with
  |none=>rw [hct] at hv2;simp at hv2
  |some x=>
   obtain ⟨d,c⟩:=x;rw [hct] at hv2;obtain ⟨D,con,h2,h3⟩:=ZD hct;simp only at hv2;rw [ACI h2 h3] at hv2;refine ⟨d,c,D,con,rfl,h2,h3,?_⟩;split at hv2
   . cases hv2
   . rename_i h;simpa using h
 have hc:=AJD B hB hD nm u ns ks [] hk sc env d c D con h1 h2 h3 h4 g.push τ j jc hok' hes (by omega) (by omega) hg;have hfin:=fun τ' q=>Fv B hB _ env g Y τ hnb _ (AUN B.G nm u ns ks [] env g h1 h2 h3) (Ex.AQ ks) hsz τ' q;generalize ALZ B.G D con.args d ks env g.push=r at *;simp only [exA,Ex.A4,AF,AN] at hc ⊢;unfold OM BR;simp only [PA];(repeat' (first|((first|refine wQ ?_|(refine Ae rfl (fun h=>?_) (fun h=>?_)<;>try (cases h;done))|fail)<;>try simp only [go_sem])|(refine ⟨fun h=>?_,fun h=>?_⟩<;>first|(cases h;done)|try simp only [h])|fail));refine AI.mk rfl hc ?_;rintro _ τ2 ⟨rfl,q⟩;simp only [nA];simp only [go_sem];exact hfin τ2 (q.cast (by omega) (by omega))
def Aa2 (B:GB) (hB:HM B) (hD:GD B.G) (nm:Str) (u:Int) (ns:List Str) (ks:List Ex) (al:List Al) (hk:∀k∈ks,ExC B k):ExT B (.mk 13 nm u ns ks al):=by
 intro sc env g Y τ j jc hok hes hnx hen hnb hg;obtain ⟨hv,hn⟩:=hok.me;obtain ⟨n1,n2,n3,n4,n5⟩:=Ec hn;have hp:=Hs g;have hpe:=Hr g;have ha:=J1 (by decide) n4;subst ha;have hsz:=size_mk 13 nm u ns ks [];simp only [Al.AQ,CF] at hsz;rw [hsz] at hnx hen;have hok':=hok.all (by decide);have hc:=AEC B hB nm u ns ks [] hk sc env g.push τ j jc hok' hes (by omega) (by omega) hg;have hfin:=fun τ' q=>Fv B hB _ env g Y τ hnb _ (AQJ B.G nm u ns ks [] env g) (Ex.AQ ks) hsz τ' q;generalize De B.G ks env 0 opF g.push=r at *;simp only [exA,Ex.A4,AF,AN] at hc ⊢;unfold OM BR;simp only [PA];(repeat' (first|((first|refine wQ ?_|(refine Ae rfl (fun h=>?_) (fun h=>?_)<;>try (cases h;done))|fail)<;>try simp only [go_sem])|(refine ⟨fun h=>?_,fun h=>?_⟩<;>first|(cases h;done)|try simp only [h])|fail));refine AI.mk rfl hc ?_;rintro _ τ2 ⟨rfl,q⟩;simp only [nA];simp only [go_sem];exact hfin τ2 (q.cast (by omega) (by omega))
def Aa3 (B:GB) (hB:HM B) (hD:GD B.G) (nm:Str) (u:Int) (ns:List Str) (ks:List Ex) (al:List Al) (hk:∀k∈ks,ExC B k):ExT B (.mk 14 nm u ns ks al):=by
 intro sc env g Y τ j jc hok hes hnx hen hnb hg;obtain ⟨hv,hn⟩:=hok.me;obtain ⟨n1,n2,n3,n4,n5⟩:=Ec hn;have hp:=Hs g;have hpe:=Hr g;have ha:=J1 (by decide) n4;subst ha;have hsz:=size_mk 14 nm u ns ks [];simp only [Al.AQ,CF] at hsz;rw [hsz] at hnx hen;have hok':=hok.all (by decide);have hu:1<=u/\u<=7:=by simpa [nuB] using n2
 have hl:ks.length=aZ u:=by simpa [nkB] using n5
 have hc:=AJE B hB nm u ns ks [] hk sc env g.push τ j jc hu hl hok' hes (by omega) (by omega) hg;have hfin:=fun τ' q=>Fv B hB _ env g Y τ hnb _ (AQK B.G nm u ns ks [] env g) (Ex.AQ ks) hsz τ' q;generalize Y4 B.G u ks env g.push=r at *;simp only [exA,Ex.A4,AF,AN] at hc ⊢;unfold OM BR;simp only [PA];(repeat' (first|((first|refine wQ ?_|(refine Ae rfl (fun h=>?_) (fun h=>?_)<;>try (cases h;done))|fail)<;>try simp only [go_sem])|(refine ⟨fun h=>?_,fun h=>?_⟩<;>first|(cases h;done)|try simp only [h])|fail));refine AI.mk rfl hc ?_;rintro _ τ2 ⟨rfl,q⟩;simp only [nA];simp only [go_sem];exact hfin τ2 (q.cast (by omega) (by omega))
def AaZ (B:GB) (hB:HM B) (hD:GD B.G) (nm:Str) (u:Int) (ns:List Str) (k:Ex) (a:Al) (al:List Al) (hk:ExC B k) (hka:∀b∈a::al,ExC B b.body):ExT B (.mk 10 nm u ns [k] (a::al)):=by
 intro sc env g Y τ j jc hok hes hnx hen hnb hg;obtain ⟨hv,hn⟩:=hok.me;obtain ⟨n1,n2,n3,n4,n5⟩:=Ec hn;have hp:=Hs g;have hpe:=Hr g;have hsz:=size_mk 10 nm u ns [k] (a::al);rw [hsz] at hnx hen;have hok':=hok.all (by decide) k (by simp);have hoka:=fun (b:Al) (hb:b∈a::al)=>hok.alt hb;obtain ⟨d,hd⟩:=ACD (show XN B.G.dt (a::al)=0 from hv);obtain ⟨c0,h0,_⟩:=hd a (AW);obtain ⟨D,con0,h2,_⟩:=ZD h0
 have hal:∀b∈a::al,∃c con,El B.G.dt b.con=some (d,c)/\D.cons[c]?=some con/\b.vars.length=con.args.length:=fun b hb=>by
  obtain ⟨c,h1,h3⟩:=hd b hb;obtain ⟨D',con,h4,h5⟩:=ZD h1;rw [h2] at h4;cases h4;exact ⟨c,con,h1,h5,by rw [h3,ACI h2 h5]⟩
 have hc:=AFA B hB hD nm u ns k (a::al) hk hka sc env d D h2 (by simp) hal g.push τ j jc hok' hoka hes (by omega) (by omega) hg;have hfin:=fun τ' q=>Fv B hB _ env g Y τ hnb _ (AQG B.G nm u ns [k] a al env g h0 h2) (Ex.AQ [k]+Al.AQ (a::al)) hsz τ' q;generalize ANJ B.G D d [k] (a::al) env g.push=r at *;simp only [exA,Ex.A4,AF,AN] at hc ⊢;unfold OM BR;simp only [PA];(repeat' (first|((first|refine wQ ?_|(refine Ae rfl (fun h=>?_) (fun h=>?_)<;>try (cases h;done))|fail)<;>try simp only [go_sem])|(refine ⟨fun h=>?_,fun h=>?_⟩<;>first|(cases h;done)|try simp only [h])|fail));refine AI.mk rfl hc ?_;rintro _ τ2 ⟨rfl,q⟩;simp only [nA];simp only [go_sem];exact hfin τ2 (q.cast (by omega) (by omega))
def Ab9 (B:GB) (hB:HM B) (hD:GD B.G) (nm:Str) (u:Int) (ns:List Str) (k0 k1:Ex) (al:List Al) (hk0:ExC B k0) (hk1:ExC B k1):ExT B (.mk 7 nm u ns [k0,k1] al):=by
 intro sc env g Y τ j jc hok hes hnx hen hnb hg;obtain ⟨hv,hn⟩:=hok.me;obtain ⟨n1,n2,n3,n4,n5⟩:=Ec hn;have hp:=Hs g;have hpe:=Hr g;have ha:=J1 (by decide) n4;subst ha;have hsz:=size_mk 7 nm u ns [k0,k1] [];simp only [Al.AQ,CF,ABS] at hsz;rw [hsz] at hnx hen;have ho0:OkE B.G k0 sc:=by have:=hok.kid (i:=0) (k:=k0) rfl;rwa [AHS _ _ _ _ (by decide)] at this
 have ho1:OkE B.G k1 (vZ nm sc):=by have:=hok.kid (i:=1) (k:=k1) rfl;simpa [Qg,vZ] using this
 have hc:=AOV B nm u ns k0 k1 [] hk0 hk1 sc env g.push τ j jc ho0 ho1 hes (by omega) (by omega) hg;have hfin:=fun τ' q=>Fv B hB _ env g Y τ hnb _ (AUO B.G nm u ns k0 k1 [] env g) (k0.size+k1.size) hsz τ' q;generalize ANE B.G nm k0 k1 env g.push=r at *;simp only [exA,Ex.A4,AF,AN] at hc ⊢;unfold OM BR;simp only [PA];(repeat' (first|((first|refine wQ ?_|(refine Ae rfl (fun h=>?_) (fun h=>?_)<;>try (cases h;done))|fail)<;>try simp only [go_sem])|(refine ⟨fun h=>?_,fun h=>?_⟩<;>first|(cases h;done)|try simp only [h])|fail));refine AI.mk rfl hc ?_;rintro _ τ2 ⟨rfl,q⟩;simp only [nA];simp only [go_sem];exact hfin τ2 (q.cast (by omega) (by omega))
def Aa5 (B:GB) (hB:HM B) (hD:GD B.G) (nm:Str) (u:Int) (ns:List Str) (k0 k1:Ex) (al:List Al) (hk0:ExC B k0) (hk1:ExC B k1):ExT B (.mk 17 nm u ns [k0,k1] al):=by
 intro sc env g Y τ j jc hok hes hnx hen hnb hg;obtain ⟨hv,hn⟩:=hok.me;obtain ⟨n1,n2,n3,n4,n5⟩:=Ec hn;have hp:=Hs g;have hpe:=Hr g;have ha:=J1 (by decide) n4;subst ha;have hsz:=size_mk 17 nm u ns [k0,k1] [];simp only [Al.AQ,CF,ABS] at hsz;rw [hsz] at hnx hen;have ho0:OkE B.G k0 sc:=by have:=hok.kid (i:=0) (k:=k0) rfl;rwa [AHS _ _ _ _ (by decide)] at this
 have ho1:OkE B.G k1 (vZ nm sc):=by have:=hok.kid (i:=1) (k:=k1) rfl;simpa [Qg,vZ] using this
 have hc:=AOW B hB nm u ns k0 k1 [] hk0 hk1 sc env g.push τ j jc ho0 ho1 hes (by omega) (by omega) hg;have hfin:=fun τ' q=>Fv B hB _ env g Y τ hnb _ (AQM B.G nm u ns k0 k1 [] env g) (k0.size+k1.size) hsz τ' q;generalize AOU B.G nm k0 k1 env g.push=r at *;simp only [exA,Ex.A4,AF,AN] at hc ⊢;unfold OM BR;simp only [PA];(repeat' (first|((first|refine wQ ?_|(refine Ae rfl (fun h=>?_) (fun h=>?_)<;>try (cases h;done))|fail)<;>try simp only [go_sem])|(refine ⟨fun h=>?_,fun h=>?_⟩<;>first|(cases h;done)|try simp only [h])|fail));refine AI.mk rfl hc ?_;rintro _ τ2 ⟨rfl,q⟩;simp only [nA];simp only [go_sem];exact hfin τ2 (q.cast (by omega) (by omega))
def AcA (B:GB) (hB:HM B) (hD:GD B.G) (nm:Str) (u:Int) (ns:List Str) (k0 k1:Ex) (al:List Al) (hk0:ExC B k0) (hk1:ExC B k1):ExT B (.mk 8 nm u ns [k0,k1] al):=by
 intro sc env g Y τ j jc hok hes hnx hen hnb hg;obtain ⟨hv,hn⟩:=hok.me;obtain ⟨n1,n2,n3,n4,n5⟩:=Ec hn;have hp:=Hs g;have hpe:=Hr g;have ha:=J1 (by decide) n4;subst ha;have hsz:=size_mk 8 nm u ns [k0,k1] [];simp only [Al.AQ,CF,ABS] at hsz;rw [hsz] at hnx hen;have ho0:OkE B.G k0 sc:=by have:=hok.kid (i:=0) (k:=k0) rfl;rwa [AHS _ _ _ _ (by decide)] at this
 have ho1:OkE B.G k1 (sc++ns):=by have:=hok.kid (i:=1) (k:=k1) rfl;simpa [Qg] using this
 have hns:ns.length<=1000:=by
  simp [nsB] at n3;omega
 have hc:=AOX B hB nm u ns k0 k1 [] hk0 hk1 sc env g.push τ j jc hns ho0 ho1 hes (by omega) (by omega) hg;have hfin:=fun τ' q=>Fv B hB _ env g Y τ hnb _ (AUP B.G nm u ns k0 k1 [] env g) (k0.size+k1.size) hsz τ' q;generalize AOY B.G ns k0 k1 env g.push=r at *;simp only [exA,Ex.A4,AF,AN] at hc ⊢;unfold OM BR;simp only [PA];(repeat' (first|((first|refine wQ ?_|(refine Ae rfl (fun h=>?_) (fun h=>?_)<;>try (cases h;done))|fail)<;>try simp only [go_sem])|(refine ⟨fun h=>?_,fun h=>?_⟩<;>first|(cases h;done)|try simp only [h])|fail));refine AI.mk rfl hc ?_;rintro _ τ2 ⟨rfl,q⟩;simp only [nA];simp only [go_sem];exact hfin τ2 (q.cast (by omega) (by omega))
def Aa0 (B:GB) (hB:HM B) (hD:GD B.G) (nm:Str) (u:Int) (ns:List Str) (k0:Ex) (al:List Al) (hk0:ExC B k0):ExT B (.mk 11 nm u ns [k0] al):=by
 intro sc env g Y τ j jc hok hes hnx hen hnb hg;obtain ⟨hv,hn⟩:=hok.me;obtain ⟨n1,n2,n3,n4,n5⟩:=Ec hn;have hp:=Hs g;have hpe:=Hr g;have ha:=J1 (by decide) n4;subst ha;have hsz:=size_mk 11 nm u ns [k0] [];simp only [Al.AQ,CF,AK0] at hsz;rw [hsz] at hnx hen;have ho0:OkE B.G k0 (sc++ns):=by have:=hok.kid (i:=0) (k:=k0) rfl;simpa [Qg] using this
 have hns:ns.length<=1000:=by
  simp [nsB] at n3;omega
 have hc:=AS8 B hB nm u ns k0 [] hk0 sc env g.push τ j jc hns ho0 hes (by omega) (by omega) hg;have hfin:=fun τ' q=>Fv B hB _ env g Y τ hnb _ (AQH B.G nm u ns k0 [] env g) (k0.size) hsz τ' q;generalize fnQ B.G ns k0 env g.push=r at *;simp only [exA,Ex.A4,AF,AN] at hc ⊢;unfold OM BR;simp only [PA];(repeat' (first|((first|refine wQ ?_|(refine Ae rfl (fun h=>?_) (fun h=>?_)<;>try (cases h;done))|fail)<;>try simp only [go_sem])|(refine ⟨fun h=>?_,fun h=>?_⟩<;>first|(cases h;done)|try simp only [h])|fail));refine AI.mk rfl hc ?_;rintro _ τ2 ⟨rfl,q⟩;simp only [nA];simp only [go_sem];exact hfin τ2 (q.cast (by omega) (by omega))
def AcB (B:GB) (hB:HM B) (hD:GD B.G) (nm:Str) (u:Int) (ns:List Str) (k0 k1 k2:Ex) (al:List Al) (hk0:ExC B k0) (hk1:ExC B k1) (hk2:ExC B k2):ExT B (.mk 9 nm u ns [k0,k1,k2] al):=by
 intro sc env g Y τ j jc hok hes hnx hen hnb hg;obtain ⟨hv,hn⟩:=hok.me;obtain ⟨n1,n2,n3,n4,n5⟩:=Ec hn;have hp:=Hs g;have hpe:=Hr g;have ha:=J1 (by decide) n4;subst ha;have hsz:=size_mk 9 nm u ns [k0,k1,k2] [];simp only [Al.AQ,CF,AWA] at hsz;rw [hsz] at hnx hen;have hok':=hok.all (by decide);have ho0:=hok' k0 (by simp);have ho1:=hok' k1 (by simp);have ho2:=hok' k2 (by simp);have hc:=AS9 B hB nm u ns k0 k1 k2 [] hk0 hk1 hk2 sc env g.push τ j jc ho0 ho1 ho2 hes (by omega) (by omega) hg;have hfin:=fun τ' q=>Fv B hB _ env g Y τ hnb _ (AUQ B.G nm u ns k0 k1 k2 [] env g) (k0.size+(k1.size+k2.size)) hsz τ' q;generalize AM5 B.G k0 k1 k2 env g.push=r at *;simp only [exA,Ex.A4,AF,AN] at hc ⊢;unfold OM BR;simp only [PA];(repeat' (first|((first|refine wQ ?_|(refine Ae rfl (fun h=>?_) (fun h=>?_)<;>try (cases h;done))|fail)<;>try simp only [go_sem])|(refine ⟨fun h=>?_,fun h=>?_⟩<;>first|(cases h;done)|try simp only [h])|fail));refine AI.mk rfl hc ?_;rintro _ τ2 ⟨rfl,q⟩;simp only [nA];simp only [go_sem];exact hfin τ2 (q.cast (by omega) (by omega))
def AUK (B:GB) (hB:HM B) (o:Int) (ho:o=1\/o=2\/o=3\/o=15) (nm:Str) (u:Int) (ns:List Str):ExT B (.mk o nm u ns [] []):=by
 intro sc env g Y τ j jc hok hes hnx hen hnb hg;have hp:=Hs g;have hpe:=Hr g;have hsz:(Ex.mk o nm u ns [] []).size=1+0:=by simp [Ex.size,Ex.AQ,Al.AQ]
 rw [hsz] at hnx hen;have hc:=AC1 B hB o g.push τ j jc (by omega) hg;have hfin:=fun τ' q=>Fv B hB _ env g Y τ hnb _ (AUR B.G ho nm u ns [] [] env g) 0 hsz τ' q
 have hq:∀τ2 j',(nbH τ).le τ2->GX B τ2 (g.push.add (vE o) 0 []) j' jc->RQ B τ g.push g.push.nx (1000000 * (1+0)) 0 (g.push.add (vE o) 0 []) τ2:=fun τ2 j' h1 h2=>
  ⟨h1,⟨j',jc,h2⟩,by rw [Cn];omega,by rw [Cn];omega,by rw [Cn];omega,rfl⟩
 simp only [Ex.A4,AF,AN];unfold OM BR;simp only [PA];rcases ho with rfl|rfl|rfl|rfl<;>
 . (repeat' (first|((first|refine wQ ?_|(refine Ae rfl (fun h=>?_) (fun h=>?_)<;>try (cases h;done))|fail)<;>try simp only [go_sem])|(refine ⟨fun h=>?_,fun h=>?_⟩<;>first|(cases h;done)|try simp only [h])|fail));refine AI.mk rfl hc ?_;rintro _ τ2 ⟨rfl,h1,j',h2⟩;simp only [nA];simp only [go_sem];exact hfin τ2 (hq τ2 j' h1 h2)
def Ab7 (B:GB) (hB:HM B) (nm:Str) (u:Int) (ns:List Str) (ks:List Ex) (al:List Al) (hk:∀k∈ks,ExC B k):ExT B (.mk 5 nm u ns ks al):=by
 intro sc env g Y τ j jc hok hes hnx hen hnb hg;obtain ⟨hv,hn⟩:=hok.me;obtain ⟨n1,n2,n3,n4,n5⟩:=Ec hn;have hp:=Hs g;have hpe:=Hr g;have ha:=J1 (by decide) n4;subst ha;have hsz:=size_mk 5 nm u ns ks [];simp only [Al.AQ,CF] at hsz;rw [hsz] at hnx hen;have hok':=hok.all (by decide);have hc:=ADE B ks hk sc env g.push τ j jc hok' hes (by omega) (by omega) hg;have hfin:=fun τ' q=>Fv B hB _ env g Y τ hnb _ (AUM B.G nm u ns ks [] env g) (Ex.AQ ks) hsz τ' q;rw [AbL] at hfin;generalize C9 B.G ks env g.push=r at *;simp only [Ex.A4,AF,AN] at hc ⊢;unfold OM BR;simp only [PA];(repeat' (first|((first|refine wQ ?_|(refine Ae rfl (fun h=>?_) (fun h=>?_)<;>try (cases h;done))|fail)<;>try simp only [go_sem])|(refine ⟨fun h=>?_,fun h=>?_⟩<;>first|(cases h;done)|try simp only [h])|fail));refine AI.mk rfl hc ?_;rintro v τ2 ⟨ho,q⟩;simp only [go_sem];obtain ⟨j2,jc2,hg2⟩:=q.gx;have hle:=q.le;have hhi:=q.hi;have hqe:=q.en;have hrn:r.2.s.1.length=r.2.nx:=rfl;refine AI.mk (by simp [ho.BS,VP,MR]) (Bt B.i j2 r.2.s.1 r.2.s.2 B.rest τ2 6 v r.1 hg2.sn ho.row q.lt (by omega)) ?_;intro v3 τ3 q3;obtain ⟨rfl,hn3,j3,hg3⟩:=hg2.add hB q3;clear q3;rw [hrn];simp only [nA];simp only [go_sem]
 exact hfin τ3 ⟨BH q.nb hn3,⟨j3,jc2,hg3⟩,by rw [Cn];simp only;omega,by rw [Cn];omega,by rw [Cn];omega,by rw [AAB];omega⟩
def Aa4 (B:GB) (hB:HM B) (nm:Str) (u:Int) (ns:List Str) (k:Ex) (al:List Al) (hk:ExC B k):ExT B (.mk 16 nm u ns [k] al):=by
 intro sc env g Y τ j jc hok hes hnx hen hnb hg;obtain ⟨hv,hn⟩:=hok.me;obtain ⟨n1,n2,n3,n4,n5⟩:=Ec hn;have hp:=Hs g;have hpe:=Hr g;have ha:=J1 (by decide) n4;subst ha;have hsz:=size_mk 16 nm u ns [k] [];simp only [Al.AQ,CF,AK0] at hsz;rw [hsz] at hnx hen;have hsk:=Ex.size_pos k;have hok':=hok.all (by decide) k (by simp);have hc:=hk sc env g.push τ j jc hok' hes (by omega) (by omega) hg;have hfin:=fun τ' q=>Fv B hB _ env g Y τ hnb _ (AQL B.G nm u ns k [] env g) k.size hsz τ' q;rw [AbG] at hfin;generalize Bb B.G k env g.push=r at *;obtain ⟨o,n',u',ns',kk,al2⟩:=k;simp only [exA,Ex.A4,AF,AN] at hc ⊢;unfold OM BR;simp only [PA];(repeat' (first|((first|refine wQ ?_|(refine Ae rfl (fun h=>?_) (fun h=>?_)<;>try (cases h;done))|fail)<;>try simp only [il0,it0,go_sem])|(refine ⟨fun h=>?_,fun h=>?_⟩<;>first|(cases h;done)|try simp only [h])|fail));refine AI.mk rfl hc ?_;rintro _ τ2 ⟨rfl,q⟩;simp only [nA];simp only [go_sem];obtain ⟨j2,jc2,hg2⟩:=q.gx;have hle:=q.le;have hhi:=q.hi;have hqe:=q.en;have hqt:=q.lt;have hrn:r.2.s.1.length=r.2.nx:=rfl;have hna:=Cn r.2 1 0 [];refine AI.mk rfl (Bt B.i j2 r.2.s.1 r.2.s.2 B.rest τ2 1 .Ad [] hg2.sn Rj.Ad (by simp) (by omega)) ?_;intro v3 τ3 q3
 obtain ⟨rfl,hn3,j3,hg3⟩:=hg2.add hB q3;clear q3;rw [hrn];simp only [nA];simp only [go_sem];have hna':(r.2.add 1 0 []).s.1.length=r.2.nx+1:=hna;refine AI.mk rfl (CU B.i B.rest _ _ (r.2.add 1 0 []).s.2 j3 r.1 r.2.nx τ3 (OD _) hg3.sn (by omega) (by omega) (by omega)) ?_;intro v4 τ4 q4;obtain ⟨hn4,j4,hg4⟩:=hg3.uni hB q4;clear q4;simp only [go_sem];have hnu:=MT (r.2.add 1 0 []) r.1 r.2.nx;have heu:((r.2.add 1 0 []).uni r.1 r.2.nx).en.length=r.2.en.length:=rfl;generalize (r.2.add 1 0 []).uni r.1 r.2.nx=h at *;have hhn:h.s.1.length=h.nx:=rfl;(repeat' (refine wQ ?_<;>try simp only [go_sem]));refine AI.mk rfl (Fq B.i j4 h.s.1 h.s.2 B.rest τ4 hg4.sn (by omega)) ?_;intro v5 τ5 q5;obtain ⟨rfl,hn5,j5,hg5⟩:=hg4.add hB q5;clear q5;rw [hhn];simp only [nA];simp only [go_sem];have hnh:=Cn h 0 0 [];exact hfin τ5 ⟨BH (BH (BH q.nb hn3) hn4) hn5,⟨j5,jc2,hg5⟩,by rw [hnh];simp only;omega,by rw [hnh];omega,by rw [hnh];omega,by rw [AAB];omega⟩
def ALG (G:GC) (k0:Ex) (ks:List Ex) (env:Env) (g:GS):AaM G (k0::ks) env g=
 let r:=Bb G k0 env g
 let q:=C9 G ks env r.2
 (q.2.nx,((q.2.add 0 0 []).add 9 0 (q.1++[q.2.nx])).uni r.1 (q.2.nx+1)):=rfl
def AbJ (e:Ex) (l:List Ex):AI5 (e.enc::l.map Ex.enc) (some (.d (.int .i64 1))) none none 6=some (.d (.sl (l.map Ex.enc))):=by
 have hs:ABR (e.enc::l.map Ex.enc) 6=true:=by
  unfold ABR;rw [Aj];intro r hr
  have:∃x:Ex,x.enc=r:=by
   rcases Az.1 hr with rfl|hr
   . exact ⟨e,rfl⟩
   . obtain ⟨x,_,rfl⟩:=B8.1 hr;exact ⟨x,rfl⟩
  obtain ⟨⟨o,n,u,ns,ks,al⟩,rfl⟩:=this;simp [Ex.A4]
 simp [AI5,hs,mV,Zu];rw [AP (by simp)]
def Aa1 (B:GB) (hB:HM B) (nm:Str) (u:Int) (ns:List Str) (k0:Ex) (ks:List Ex) (al:List Al) (hk0:ExC B k0) (hk:∀k∈ks,ExC B k):ExT B (.mk 12 nm u ns (k0::ks) al):=by
 intro sc env g Y τ j jc hok hes hnx hen hnb hg;obtain ⟨hv,hn⟩:=hok.me;obtain ⟨n1,n2,n3,n4,n5⟩:=Ec hn;have hp:=Hs g;have hpe:=Hr g;have ha:=J1 (by decide) n4;subst ha;have hsz:=size_mk 12 nm u ns (k0::ks) [];simp only [Al.AQ,CF,Ex.AQ] at hsz;rw [hsz] at hnx hen;have hsk:=Ex.size_pos k0;have hkl:=Ex.Bx ks;have hok0:=hok.all (by decide) k0 (by simp);have hok':=fun k (h:k∈ks)=>hok.all (by decide) k (AU _ h);have hc:=hk0 sc env g.push τ j jc hok0 hes (by omega) (by omega) hg;have hfin:=fun τ' q=>Fv B hB _ env g Y τ hnb _ (AQI B.G nm u ns (k0::ks) [] env g) (k0.size+Ex.AQ ks) hsz τ' q;rw [ALG] at hfin;simp only at hfin;generalize Bb B.G k0 env g.push=r at *;have hc1:=fun τ' j1 jc1 (h1:g.push.nx<=r.2.nx) (h2:r.2.nx+500000<=g.push.nx+1000000 * k0.size) (h3:r.2.en.length=g.push.en.length+k0.size) (Z:GX B τ' r.2 j1 jc1)=>ADE B ks hk sc env r.2 τ' j1 jc1 hok' (hes.le h1) (by omega) (by omega) Z;have hln:=cD B.G ks env r.2;generalize C9 B.G ks env r.2=q0 at *;have hn1:=Cn q0.2 0 0 [];have hn2:=Cn (q0.2.add 0 0 []) 9 0 (q0.1++[q0.2.nx]);have hnu:=MT ((q0.2.add 0 0 []).add 9 0 (q0.1++[q0.2.nx])) r.1 (q0.2.nx+1)
 have heu:(((q0.2.add 0 0 []).add 9 0 (q0.1++[q0.2.nx])).uni r.1 (q0.2.nx+1)).en.length=q0.2.en.length:=rfl;obtain ⟨o,n',u',ns',kk,al2⟩:=k0;simp only [exA,Ex.A4,AF,AN] at hc ⊢;unfold OM BR;simp only [PA];(repeat' (first|refine ctQ rfl ?_|((first|refine rgQ mxQ ?_|refine cdQ ?_)<;>try simp only [il0,it0,go_sem])|(refine ⟨fun h=>?_,fun h=>?_⟩<;>first|(cases h;done)|try simp only [h])|fail));refine AI.mk rfl hc ?_;rintro _ τ2 ⟨rfl,q⟩;simp only [nA];simp only [go_sem];obtain ⟨j2,jc2,hg2⟩:=q.gx;have hle:=q.le;have hhi:=q.hi;have hqe:=q.en;have hqt:=q.lt;have hsl:=AbJ (.mk o n' u' ns' kk al2) ks;rw [Ex.A4] at hsl;(repeat' (first|refine ctQ rfl ?_|((first|refine rgQ mxQ ?_|refine cdQ ?_)<;>try simp only [hsl,go_sem])|fail));refine AI.mk rfl (hc1 τ2 j2 jc2 hle hhi hqe hg2) ?_;rintro v τ3 ⟨ho,q3⟩;simp only [go_sem];obtain ⟨j3,jc3,hg3⟩:=q3.gx;have h3l:=q3.le;have h3h:=q3.hi;have h3e:=q3.en;have h3n:q0.2.s.1.length=q0.2.nx:=rfl;(repeat' (refine wQ ?_<;>try simp only [go_sem]));refine AI.mk rfl (Fq B.i j3 q0.2.s.1 q0.2.s.2 B.rest τ3 hg3.sn (by omega)) ?_;intro v4 τ4 q4;obtain ⟨rfl,hn4,j4,hg4⟩:=hg3.add hB q4;clear q4;rw [h3n];simp only [nA];simp only [go_sem];have ho4:=ho.nb hn4
 (repeat' (refine wQ ?_<;>try simp only [ho.w4,go_sem]));refine Dh.own ho4 rfl (by simp) (by simp [hln];omega) (by omega) (fun v5 τ5 ho5 hb5=>?_);simp only [go_sem];have hg5:=hg4.nbo hb5;have ho6:CC (nbH τ2) 3 1 ((q0.1++[q0.2.nx]).map CN) v5 τ5:=by rw [Ao];exact ho5
 have hn1':(q0.2.add 0 0 []).s.1.length=q0.2.nx+1:=hn1;refine AI.mk (by simp [ho5.BS,VP,MR]) (Bt B.i j4 (q0.2.add 0 0 []).s.1 (q0.2.add 0 0 []).s.2 B.rest τ5 9 v5 (q0.1++[q0.2.nx]) hg5.sn ho6.row (fun a ha=>?_) (by omega)) ?_
 . rcases AZ.1 ha with ha|ha
   . have:=q3.lt a ha;omega
   . simp only [A3] at ha;subst ha;omega
 intro v7 τ7 q7;obtain ⟨rfl,hn7,j7,hg7⟩:=hg5.add hB q7;clear q7;rw [hn1'];simp only [nA];simp only [go_sem];have hn2':((q0.2.add 0 0 []).add 9 0 (q0.1++[q0.2.nx])).s.1.length=q0.2.nx+2:=by have:=hn2;simp only [GS.nx] at this hn1' ⊢;omega
 refine AI.mk rfl (CU B.i B.rest _ _ ((q0.2.add 0 0 []).add 9 0 (q0.1++[q0.2.nx])).s.2 j7 r.1 (q0.2.nx+1) τ7 (OD _) hg7.sn (by omega) (by omega) (by omega)) ?_;intro v8 τ8 q8;obtain ⟨hn8,j8,hg8⟩:=hg7.uni hB q8;clear q8;simp only [go_sem];exact hfin τ8 ⟨BH (BH (BH q.nb ho5.le) hn7) hn8,⟨j8,jc3,hg8⟩,by omega,by omega,by omega,by omega⟩
def AcC {l:List Ex} (h:l.length=2):∃a b,l=[a,b]:=by
 match l,h with
 |[a,b],_=>exact ⟨a,b,rfl⟩
def AcD {l:List Ex} (h:l.length=3):∃a b c,l=[a,b,c]:=by
 match l,h with
 |[a,b,c],_=>exact ⟨a,b,c,rfl⟩
def AUS (B:GB) (hB:HM B) (hD:GD B.G):∀(N:Nat) (e:Ex),e.size<=N->ExC B e:=by
 intro N
 induction N with
 |zero=>intro e h;have:=Ex.size_pos e;omega
 |succ N ih=>
 intro e hsz
 have key:∀sc,OkE B.G e sc->ExT B e:=by
  intro sc hok;obtain ⟨o,nm,u,ns,ks,al⟩:=e;obtain ⟨hv,hn⟩:=hok.me;obtain ⟨n1,n2,n3,n4,n5⟩:=Ec hn;have hs:=size_mk o nm u ns ks al
  have hk:∀k∈ks,ExC B k:=fun k hk=>ih k (by
   have:k.size<=Ex.AQ ks:=by
    rw [Ex.IZ];exact sD (aJ hk)
   omega)
  have hka:∀a∈al,ExC B a.body:=fun a ha=>ih a.body (by
   have:a.size<=Al.AQ al:=by
    rw [Al.IZ];exact sD (aJ ha)
   obtain ⟨c,vs,b⟩:=a;simp only [Al.size,Al.body] at this ⊢;omega)
  have len0:∀ {l:List Ex},l.length=0->l=[]:=fun h=>An h;have h1:ks.length=1->∃k,ks=[k]:=fun h=>List.length_eq_one_iff.1 h;have h2:ks.length=2->∃a b,ks=[a,b]:=fun h=>AcC h;have h3:ks.length=3->∃a b c,ks=[a,b,c]:=fun h=>AcD h;have hal:o≠10->al=[]:=fun h=>J1 h n4;rcases ART n5 with rfl|rfl|rfl|rfl|rfl|rfl|rfl|rfl|rfl|rfl|rfl|rfl|rfl|rfl|rfl|rfl|rfl<;>simp [nkB] at n5
  . subst n5;rw [hal (by decide)];exact AUK B hB 1 (by decide) nm u ns
  . subst n5;rw [hal (by decide)];exact AUK B hB 2 (by decide) nm u ns
  . subst n5;rw [hal (by decide)];exact AUK B hB 3 (by decide) nm u ns
  . subst n5;rw [hal (by decide)];exact Ab6 B hB hD nm u ns
  . exact Ab7 B hB nm u ns ks al hk
  . exact Ab8 B hB hD nm u ns ks al hk
  . obtain ⟨a,b,rfl⟩:=h2 n5;exact Ab9 B hB hD nm u ns a b al (hk a (by simp)) (hk b (by simp))
  . obtain ⟨a,b,rfl⟩:=h2 n5;exact AcA B hB hD nm u ns a b al (hk a (by simp)) (hk b (by simp))
  . obtain ⟨a,b,c,rfl⟩:=h3 n5;exact AcB B hB hD nm u ns a b c al (hk a (by simp)) (hk b (by simp)) (hk c (by simp))
  . obtain ⟨a,rfl⟩:=h1 n5;cases al with
    |nil=>simp [asB] at n4
    |cons b al=>exact AaZ B hB hD nm u ns a b al (hk a (by simp)) hka
  . obtain ⟨a,rfl⟩:=h1 n5;exact Aa0 B hB hD nm u ns a al (hk a (by simp))
  . cases ks with
    |nil=>simp at n5
    |cons a ks=>exact Aa1 B hB nm u ns a ks al (hk a (by simp)) (fun k h=>hk k (AU _ h))
  . exact Aa2 B hB hD nm u ns ks al hk
  . exact Aa3 B hB hD nm u ns ks al hk
  . subst n5;rw [hal (by decide)];exact AUK B hB 15 (by decide) nm u ns
  . obtain ⟨a,rfl⟩:=h1 n5;exact Aa4 B hB nm u ns a al (hk a (by simp))
  . obtain ⟨a,b,rfl⟩:=h2 n5;exact Aa5 B hB hD nm u ns a b al (hk a (by simp)) (hk b (by simp))
 intro sc env g Y j jc hok hes hnx hen hg;exact AL6 B hB e env g Y j jc (by omega) hg _ (fun τ jc' hnb hg1=>key sc hok sc env g Y τ j jc' hok (hes.le (AS _)) hnx hen hnb hg1)
structure PG (B:GB) (c0:Nat) (Y:AH) (s:SS) (j:Nat):Prop where
 sn:SN Y B.i s.1 s.2 [.d (.sl (B.ds.map DE.enc)),.d (.sl (B.G.fs.map FE.enc)),dsA B.G.dt,.ms B.js B.G.sch.length 5 eSs,.ms B.jm B.G.mem.length 1 eMm,.ms B.jp B.G.ps.length 1 ePp,.ms B.jr B.G.rs.length 1 3,.ms B.je B.es.length 1 eEe,.d (.int .i64 (c0:Int))] j
 e:Y.blk B.je=some B.es
 nil:B.es[B.cur]?=some .Ad
 x:∀k cs,B.ext k=some cs->Y.blk k=some cs
 jj:B.ext j=none/\j≠B.je
 gi:GI B.G ⟨s,[]⟩
def PG.gx (hB:HM B) {c0:Nat} {Y:AH} {s:SS} {j:Nat} (h:PG B c0 Y s j) (jc:Nat):GX B (Y.AL B.i (ndV s.1 j::.d (.bool s.2)::B.rest)) ⟨s,[]⟩ j jc:=by
 have hs0:s.1≠[]:=fun e=>by have:=h.gi.pos;simp only [GS.nx,e] at this;cases this
 obtain ⟨hji,c0',hc0,hbj⟩:=h.sn.nd hs0;refine ⟨⟨BT,h.sn.Gs,fun _=>⟨hji,c0',hc0,by rw [AJ,if_neg hji];exact hbj⟩⟩,?_,fun hn=>absurd rfl hn,fun k cs hk=>?_,h.jj,h.gi⟩
 . rw [AJ,if_neg (A6 hB.ie),h.e];congr 1;have hl:=hB.cur;refine Et fun m=>?_;rw [B3];split
   . rename_i e;subst e;rw [h.nil];simp [enV]
   . rfl
 . rw [AJ,if_neg (fun e=>by rw [e,hB.xi] at hk;cases hk)];exact h.x k cs hk
def WZ (G:GC) (fe:FE) (pl:List Nat) (rf:Nat) (s:SS):GS:=
 let r:=Bb G fe.body (Ce [] fe.params pl) ⟨s,[]⟩
 r.2.uni r.1 rf
def uE (B:GB) (hB:HM B) (hD:GD B.G) (fe:FE) (pl:List Nat) (rf:Nat) (hfe:B.G.fs[B.cur]?=some fe) (hpl:B.G.ps[B.cur]?=some pl) (hrf:B.G.rs[B.cur]?=some rf) (hln:fe.params.length=pl.length) (hok:OkE B.G fe.body fe.params) (c0:Nat) (s:SS) (Y:AH) (j:Nat) (hnx:s.1.length+1000000 * fe.body.size<=900000000) (h:PG B c0 Y s j):
 AR Tzp 99 [.gp B.i 0,.d (.int .i64 (B.cur:Int))] Y (fun _ σ'=>(nbH Y).le σ'/\(∃j jc,GX B σ' (WZ B.G fe pl rf s) j jc)/\s.1.length<=(WZ B.G fe pl rf s).nx/\(WZ B.G fe pl rf s).nx<=s.1.length+1000000 * fe.body.size/\(WZ B.G fe pl rf s).en.length=fe.body.size):=by
 have hg:=h.gx hB 0;have hs0:s.1≠[]:=fun e=>by have:=h.gi.pos;simp only [GS.nx,e] at this;cases this
 have hb0:=h.sn.blk;rw [Em hs0] at hb0;have hnb0:(nbH Y).le (Y.AL B.i (ndV s.1 j::.d (.bool s.2)::B.rest)):=⟨fun _ _ h=>(by cases h),fun _ h=>h,rfl,fun _ _ h=>h⟩;refine Th (by simp) ?_;rw [BD];(repeat' (first|refine ctQ rfl ?_|((first|refine rgQ mxQ ?_|refine cdQ ?_)<;>try simp only [hb0,go_sem])|fail));have hst:(Y.AL B.i (.ms j s.1.length 4 tkN::.d (.bool s.2)::[.d (.sl (B.ds.map DE.enc)),.d (.sl (B.G.fs.map FE.enc)),dsA B.G.dt,.ms B.js B.G.sch.length 5 eSs,.ms B.jm B.G.mem.length 1 eMm,.ms B.jp B.G.ps.length 1 ePp,.ms B.jr B.G.rs.length 1 3,.ms B.je B.es.length 1 eEe,.d (.int .i64 (B.cur:Int))]))=Y.AL B.i (ndV s.1 j::.d (.bool s.2)::B.rest):=by rw [Em hs0];rfl
 rw [hst];generalize Y.AL B.i (ndV s.1 j::.d (.bool s.2)::B.rest)=τ at *;have hbi:=hg.bi;have hp2:=hg.x _ _ hB.p;have hr2:=hg.x _ _ hB.r;have hpa:=sU hpl;have hra:=R3 hrf;have hcl:=(AE.1 hfe).1;have hcf:=ltT hcl;have hcp:=ltT (show B.cur < B.G.ps.length by rw [hB.lp];exact hcl);have hcr:=ltT (show B.cur < B.G.rs.length by rw [hB.lr];exact hcl);have hfr:=BI (enc:=FE.enc) hfe;have hw:=JN .EO [] PlV.EO fe.params pl hln τ
 have hes:ES fe.params (Ce [] fe.params pl) ⟨s,[]⟩:=by
  have h0:ES [] [] (⟨s,[]⟩:GS):=⟨fun s _=>by simp [OX],fun x Z=>by simp at Z⟩;have:=h0.with (ns:=fe.params) (ts:=pl) hln (g':=⟨s,[]⟩) (AS _) (h.gi.ps pl (AD hpl));simpa using this
 have hc:=AUS B hB hD fe.body.size fe.body (AS _) fe.params (Ce [] fe.params pl) ⟨s,[]⟩ τ j 0 hok hes hnx (by simp only [Bw];have:=Ex.size_pos fe.body;omega) hg;have hrs:=h.gi.rs rf (AD hrf);rw [WZ];generalize hr:Bb B.G fe.body (Ce [] fe.params pl) ⟨s,[]⟩=r at *;obtain ⟨fn,fp,o,n,u,ns,ks,al⟩:=fe;simp only [FE.enc,Ex.A4,exA,AF,AN] at hfr hc hw;have hnx':s.1.length+1000000 * (Ex.mk o n u ns ks al).size<=900000000:=hnx;refine Run.IX mixed ?_;simp only [hbi,hp2,hpa,hfr,hcp,A9,go_sem];refine ⟨⟨?_,?_⟩,?_⟩<;>
 . refine AI.det hw ?_;simp only [hbi,hfr,go_sem];refine AI.mk rfl hc ?_;rintro _ τ1 ⟨rfl,q⟩;simp only [nA];simp only [go_sem];obtain ⟨j1,jc1,hg1⟩:=q.gx;have hbi1:=hg1.bi;have hr1:=hg1.x _ _ hB.r;have hle:=q.le;have hhi:=q.hi;have hqe:=q.en;have hle':s.1.length<=r.2.nx:=hle;have hhi':r.2.nx+500000<=s.1.length+1000000 * (Ex.mk o n u ns ks al).size:=hhi;have hqe':r.2.en.length=(Ex.mk o n u ns ks al).size:=by rw [hqe];simp
   have hrs':rf < s.1.length:=hrs;have hqt:=q.lt;have hrn:r.2.s.1.length=r.2.nx:=rfl;have hnu:=MT r.2 r.1 rf;(repeat' (refine wQ ?_<;>try simp only [hbi1,hr1,hra,hcr,A9,go_sem]));refine AI.mk rfl (CU B.i B.rest _ _ r.2.s.2 j1 r.1 rf τ1 (OD _) hg1.sn hqt (by omega) (by omega)) ?_;intro v2 τ2 q2;obtain ⟨hn2,j2,hg2⟩:=hg1.uni hB q2;simp only [go_sem];refine Run.fin KC rfl (fun _ _ h=>h) (AH.le_refl _) ⟨BH (BH hnb0 q.nb) hn2,⟨j2,jc1,hg2⟩,by omega,by omega,?_⟩;rw [AQB,hqe']
structure NGH (Y τ:AH) (n:Nat) (ds:DV) (fs:DV) (dt:AV) (sc:AV) (i jm jp jr je:Nat):Prop where
 mo:Mo Y τ
 fr:Y.blk i=none/\Y.blk jm=none/\Y.blk jp=none/\Y.blk jr=none/\Y.blk je=none
 nd:i≠jm/\i≠jp/\i≠jr/\i≠je/\jm≠jp/\jm≠jr/\jm≠je/\jp≠jr/\jp≠je/\jr≠je
 bi:τ.blk i=some [.Ad,.d (.bool false),.d ds,.d fs,dt,sc,.ms jm n 1 eMm,.ms jp n 1 ePp,.ms jr n 1 3,.ms je n 1 eEe,.d (.int .i64 0)]
 bm:τ.blk jm=some (AG n [AV.d (.bool false)]).flatten
 bp:τ.blk jp=some (AG n [AV.Ad]).flatten
 br:τ.blk jr=some (AG n [AV.d (.int .i64 0)]).flatten
 be:τ.blk je=some (AG n [AV.Ad]).flatten
def AE2 (Y:AH) (i:Nat) (cs:List AV):(Y.AL i cs).blk i=some cs:=BT
def O1.mo {P:Program} {K:CW} {L:Lm} {Y:AH} {d:Option Nat} {e s:Nat} {z:List AV} (n:Nat) (hb:b * n<=281474976710656) (hn:n<=9223372036854775807) (h:∀i τ,Y.blk i=none->Mo Y τ->τ.blk i=some (AG n z).flatten->K (BL d (.ms i n s e) F) L τ):
 O1 e s b z (.d (.int .i64 n)) (.d (.int .i64 n)) d K F L Y:=O1.mk n hb hn fun i hi=>h i _ hi ((Mo.refl Y).new hi _) (AE2 Y i _)
def sL {τ:AH} {a:Nat} (ha:τ.blk a=some c) (hb:τ.blk b=none):a≠b:=fun e=>by rw [e,hb] at ha;cases ha
def yK (n:Nat):(AG n [AV.Ad]).flatten=AG n .Ad:=by
 induction n with
 |zero=>rfl
 |succ n ih=>rw [BV,BW,ih,BV];rfl
def RNG (Y:AH) (n:Nat) (ds fs:DV) (dt sc:AV) (F0:Nat->Fm) (L0:Lm) (F:Fm) (L:Lm) (τ:AH):Prop:=
 ∃i jm jp jr je,NGH Y τ n ds fs dt sc i jm jp jr je/\Gw [3,4,10] F=F0 i/\Fp [3,4,10] L=L0
noncomputable def ngR:C:=PA (PA (PA Kl))
def wK (Y:AH) (fs:List FE) (ds:List DE) (dt:List Dat) (js:Nat) (ns:Nat) (mem:List Nat) (Q:AV->AH->Prop) (hn:fs.length<=1000)
 (h:∀τ i jm jp jr je,NGH Y τ fs.length (.sl (ds.map DE.enc)) (.sl (fs.map FE.enc)) (dsA dt) (.ms js ns 5 eSs) i jm jp jr je->
   Run GP Q [.code ngR] (put 3 (.d (.sl (mem.map CN))) (put 4 (.lp 4 0) (put 10 (.gp i 0) U))) (At 4 [.d (.sl (ds.map DE.enc)),.d (.sl (fs.map FE.enc))] E) τ):
 AR Tzp 98 [.agg [.d (.sl (ds.map DE.enc)),.d (.sl (fs.map FE.enc))],dsA dt,.ms js ns 5 eSs,.d (.sl (mem.map CN))] Y Q:=by
 refine fH (by simp) ?_;rw [iH,dsA];(repeat' (first|refine ctQ rfl ?_|((first|refine rgQ mxQ ?_|refine cdQ ?_|(refine Ae rfl (fun h=>?_) (fun h=>?_)<;>try (cases h;done)))<;>try simp only [AA,go_sem])|(refine ⟨fun h=>?_,fun h=>?_⟩<;>first|(cases h;done)|try simp only [h])|fail));refine Run.gH mixed (RNG Y fs.length (.sl (ds.map DE.enc)) (.sl (fs.map FE.enc)) (dsA dt) (.ms js ns 5 eSs) (fun i=>put 3 (.d (.sl (mem.map CN))) (put 4 (.lp 4 0) (put 10 (.gp i 0) U))) (At 4 [.d (.sl (ds.map DE.enc)),.d (.sl (fs.map FE.enc))] E)) ?_ ?_
 . simp only [go_sem];refine ⟨?_,?_,?_,?_⟩<;>
   (refine O1.mo (P:=Tzp) fs.length (by omega) (by omega) (fun a τ1 ha m1 f1=>?_)
    simp only [go_sem];refine ⟨?_,?_,?_⟩<;>
    (refine O1.mo (P:=Tzp) fs.length (by omega) (by omega) (fun b τ2 hb m2 f2=>?_)
     simp only [go_sem];refine ⟨?_,?_⟩<;>
     (refine O1.mo (P:=Tzp) fs.length (by omega) (by omega) (fun c τ3 hc m3 f3=>?_)
      simp only [go_sem];refine O1.mo (P:=Tzp) fs.length (by omega) (by omega) (fun d τ4 hd m4 f4=>?_);simp only [go_sem];intro i hi;have a2:=m2.blk _ _ f1;have a3:=m3.blk _ _ a2;have a4:=m4.blk _ _ a3;have b3:=m3.blk _ _ f2;have b4:=m4.blk _ _ b3;have c4:=m4.blk _ _ f3;have n1:=sL f1 hb;have n2:=sL a2 hc;have n3:=sL a3 hd;have n4:=sL a4 hi;have n5:=sL f2 hc;have n6:=sL b3 hd;have n7:=sL b4 hi;have n8:=sL f3 hd;have n9:=sL c4 hi;have n0:=sL f4 hi;have sb:=m1.ne hb;have sc:=(m1.trans m2).ne hc;have sd:=((m1.trans m2).trans m3).ne hd;have si:=(((m1.trans m2).trans m3).trans m4).ne hi;unfold RNG;refine ⟨i,_,_,_,_,⟨(((m1.trans m2).trans m3).trans m4).new hi _,⟨si,?_,?_,?_,?_⟩,⟨?_,?_,?_,?_,?_,?_,?_,?_,?_,?_⟩,AE2 τ4 i _,?_,?_,?_,?_⟩,?_,?_⟩
      all_goals first
       |assumption
       |exact A6 (by assumption)
       |(rw [AJ,if_neg (by assumption)];assumption)
       |simp only [go_sem])))
 . rintro F' L' τ ⟨i,jm,jp,jr,je,hng,h1,h2⟩;rw [h1,h2];exact h τ i jm jp jr je hng
def pcV:Option (List Nat)->AV
 |none=>.Ad
 |some l=>.d (.sl (l.map CN))
structure NGs where
 mem:List Bool
 ps:List (Option (List Nat))
 rs:List Nat
 l:List Nd
def gE (fs:List FE) (f:Nat):Nat:=((fs[f]?).map fun x=>x.params.length).getD 0
def ngS (fs:List FE) (s:NGs) (f:Nat):NGs:=
 ⟨s.mem.set f true,s.ps.set f (some (A8 s.l.length (gE fs f))),s.rs.set f (s.l.length+gE fs f),Ke (Fw s.l (gE fs f)) 0 0 []⟩
def ng0 (n:Nat):NGs:=⟨AG n false,AG n none,AG n 0,[]⟩
abbrev ARQ (n:Nat) (ds fs:DV) (dt sc:AV) (jm jp jr je:Nat):List AV:=[.d ds,.d fs,dt,sc,.ms jm n 1 eMm,.ms jp n 1 ePp,.ms jr n 1 3,.ms je n 1 eEe,.d (.int .i64 0)]
structure NGI (Y τ:AH) (n:Nat) (ds fs:DV) (dt sc:AV) (i jm jp jr je j:Nat) (s:NGs):Prop where
 mo:Mo Y τ
 fr:Y.blk i=none/\Y.blk jm=none/\Y.blk jp=none/\Y.blk jr=none/\Y.blk je=none
 nd:i≠jm/\i≠jp/\i≠jr/\i≠je/\jm≠jp/\jm≠jr/\jm≠je/\jp≠jr/\jp≠je/\jr≠je
 sn:SN τ i s.l false (ARQ n ds fs dt sc jm jp jr je) j
 bm:τ.blk jm=some (BP s.mem)
 bp:τ.blk jp=some (s.ps.map pcV)
 br:τ.blk jr=some (Ct s.rs)
 be:τ.blk je=some (AG n .Ad)
 jx:s.l≠[]->Y.blk j=none/\jm≠j/\jp≠j/\jr≠j/\je≠j
 len:s.mem.length=n/\s.ps.length=n/\s.rs.length=n
variable {Y τ:AH} {n:Nat} {ds fs:DV} {dt sc:AV} {i jm jp jr je j:Nat} {s:NGs}
def NGH.start (h:NGH Y τ n ds fs dt sc i jm jp jr je) (j:Nat):NGI Y τ n ds fs dt sc i jm jp jr je j (ng0 n):=
 ⟨h.mo,h.fr,h.nd,⟨h.bi,ER.nil,fun hl=>absurd rfl hl⟩,by rw [h.bm,xL];rfl,by rw [h.bp,yK];simp [ng0,pcV],by rw [h.br,gI];rfl,by rw [h.be,yK],fun hl=>absurd rfl hl,by simp [ng0]⟩
def NGI.step (h:NGI Y τ n ds fs dt sc i jm jp jr je j s) (sn:SN τ' i l' false (ARQ n ds fs dt sc jm jp jr je) j') (fr:Fr τ i s.l j τ' l' j'):NGI Y τ' n ds fs dt sc i jm jp jr je j' { s with l:=l'}:=by
 obtain ⟨d1,d2,d3,d4,_⟩:=h.nd
 have hk:∀k c,k≠i->(s.l≠[]->k≠j)->τ.blk k=some c->τ'.blk k=some c/\(l'≠[]->k≠j'):=fun k c h1 h2 h3=>
  ⟨by rw [fr.blk k h1 h2 (by rw [h3];simp),h3],fr.apart h2 (by rw [h3];simp)⟩
 have km:=hk jm _ (A6 d1) (fun hl=>(h.jx hl).2.1) h.bm;have kp:=hk jp _ (A6 d2) (fun hl=>(h.jx hl).2.2.1) h.bp;have kr:=hk jr _ (A6 d3) (fun hl=>(h.jx hl).2.2.2.1) h.br;have ke:=hk je _ (A6 d4) (fun hl=>(h.jx hl).2.2.2.2) h.be
 have hold:∀k c,Y.blk k=some c->τ'.blk k=some c:=fun k c hc=>by
  have h1:k≠i:=fun e=>by rw [e,h.fr.1] at hc;cases hc
  have h2:s.l≠[]->k≠j:=fun hl e=>by rw [e,(h.jx hl).1] at hc;cases hc
  exact (hk k c h1 h2 (h.mo.blk k c hc)).1
 refine ⟨⟨hold,D3 h.mo.nb (fr.nb2 (Hq τ))⟩,h.fr,h.nd,sn,km.1,kp.1,kr.1,ke.1,fun hl'=>⟨?_,km.2 hl',kp.2 hl',kr.2 hl',ke.2 hl'⟩,h.len⟩;rcases fr.nw hl' with ⟨hl,e⟩|e
 . rw [e];exact (h.jx hl).1
 . exact h.mo.ne e
def NGI.AcI (h:NGI Y τ n ds fs dt sc i jm jp jr je j s) (m:List Bool) (hm:m.length=n):NGI Y (τ.AL jm (BP m)) n ds fs dt sc i jm jp jr je j { s with mem:=m}:=by
 obtain ⟨d1,d2,d3,d4,d5,d6,d7,d8,d9,d10⟩:=h.nd;exact ⟨h.mo.ASR h.fr.2.1 _,h.fr,h.nd,h.sn.set (A6 d1) (fun hl=>(h.jx hl).2.1),BT,by rw [AJ,if_neg (A6 d5)];exact h.bp,by rw [AJ,if_neg (A6 d6)];exact h.br,by rw [AJ,if_neg (A6 d7)];exact h.be,h.jx,⟨hm,h.len.2⟩⟩
def NGI.AcJ (h:NGI Y τ n ds fs dt sc i jm jp jr je j s) (m:List (Option (List Nat))) (hm:m.length=n):NGI Y (τ.AL jp (m.map pcV)) n ds fs dt sc i jm jp jr je j { s with ps:=m}:=by
 obtain ⟨d1,d2,d3,d4,d5,d6,d7,d8,d9,d10⟩:=h.nd;exact ⟨h.mo.ASR h.fr.2.2.1 _,h.fr,h.nd,h.sn.set (A6 d2) (fun hl=>(h.jx hl).2.2.1),by rw [AJ,if_neg d5];exact h.bm,BT,by rw [AJ,if_neg (A6 d8)];exact h.br,by rw [AJ,if_neg (A6 d9)];exact h.be,h.jx,⟨h.len.1,hm,h.len.2.2⟩⟩
def NGI.AcK (h:NGI Y τ n ds fs dt sc i jm jp jr je j s) (m:List Nat) (hm:m.length=n):NGI Y (τ.AL jr (Ct m)) n ds fs dt sc i jm jp jr je j { s with rs:=m}:=by
 obtain ⟨d1,d2,d3,d4,d5,d6,d7,d8,d9,d10⟩:=h.nd;exact ⟨h.mo.ASR h.fr.2.2.2.1 _,h.fr,h.nd,h.sn.set (A6 d3) (fun hl=>(h.jx hl).2.2.2.1),by rw [AJ,if_neg d6];exact h.bm,by rw [AJ,if_neg d8];exact h.bp,BT,by rw [AJ,if_neg (A6 d10)];exact h.be,h.jx,⟨h.len.1,h.len.2.1,hm⟩⟩
def AY6 {l:List (Option (List Nat))} {r:Nat} (v:List Nat) (h:r < l.length):(l.map pcV).take r++[.d (.sl (v.map CN))]++(l.map pcV).drop (r+1)=(l.set r (some v)).map pcV:=by
 induction l generalizing r with
 |nil=>cases h
 |cons x l ih=>
  cases r with
  |zero=>simp [pcV]
  |succ r=>
   have:=ih (r:=r) (by simpa using h);simp only [AF,C7,Ez,CR,AX] at this ⊢;rw [this]
def pgl (ps:List (Option (List Nat))):List (List Nat):=ps.map fun o=>o.getD []
def AN2 (ps:List (Option (List Nat))):AV.CV (ps.map pcV)=psC (pgl ps):=by
 induction ps with
 |nil=>simp [AV.CV,psC,pgl]
 |cons o ps ih=>
  simp only [AF,AV.CV];rw [ih];cases o with
  |none=>simp [pcV,pgl,psC,HV]
  |some l=>simp [pcV,pgl,psC,HU]
def AD9 (Y:AH) (fs:List FE) (ds:List DE) (dt:List Dat) (js:Nat) (ns:Nat) (mem:List Nat) (hn:fs.length<=1000) (hm:∀f∈mem,f < fs.length) (hml:mem.length<=1000) (hpar:∀f∈fs,f.params.length<=1000):
 AR Tzp 98 [.agg [.d (.sl (ds.map DE.enc)),.d (.sl (fs.map FE.enc))],dsA dt,.ms js ns 5 eSs,.d (.sl (mem.map CN))] Y (fun v σ'=>∃i jm jp jr je j τ,v= .gp i 0/\
  NGI Y τ fs.length (.sl (ds.map DE.enc)) (.sl (fs.map FE.enc)) (dsA dt) (.ms js ns 5 eSs) i jm jp jr je j (mem.foldl (ngS fs) (ng0 fs.length))/\σ'=τ.AL jp (psC (pgl (mem.foldl (ngS fs) (ng0 fs.length)).ps))):=by
 refine wK Y fs ds dt js ns mem _ hn (fun τ0 i jm jp jr je h0=>?_);unfold ngR Kl;simp only [PA];(repeat' (refine wQ ?_<;>try simp only [AA,go_sem]));refine Run.BB ?_
 refine Run.BE ((fun (a4:AV) (a10:AV) (a29:AV) (a30:AV)=>fun (z:Nat×AH)=>put 4 a4 (put 10 a10 (put 29 a29 (put 30 a30 (put 31 (.d (.int .i64 z.1)) U))))) _ _ _ _) (fun _=>At 4 [.d (.sl (ds.map DE.enc)),.d (.sl (fs.map FE.enc))] E) (fun z=>z.2)
  (fun z=>z.1<=mem.length/\((mem.take z.1).foldl (ngS fs) (ng0 fs.length)).l.length<=2000 * z.1/\∃j,NGI Y z.2 fs.length (.sl (ds.map DE.enc)) (.sl (fs.map FE.enc)) (dsA dt) (.ms js ns 5 eSs) i jm jp jr je j ((mem.take z.1).foldl (ngS fs) (ng0 fs.length)))
  (fun z=>mem.length - z.1) ?_ (0,τ0) ⟨by simp,by simp [ng0],0,h0.start 0⟩
 rintro ⟨p,τ⟩ ⟨hp,hll,j,hg⟩ ih;simp only at hp hll hg;by_cases hlt:p < mem.length
 . obtain ⟨f,hf⟩:=Ai hlt;have hfr:=HT hf;have hfl:=hm f (AD hf);have hw1:=wsu p
   have hst:(mem.take (p+1)).foldl (ngS fs) (ng0 fs.length)=ngS fs ((mem.take p).foldl (ngS fs) (ng0 fs.length)) f:=by
    rw [A5 hf,Ch];rfl
   generalize (mem.take p).foldl (ngS fs) (ng0 fs.length)=s at *;obtain ⟨fe,hfe⟩:=Ai hfl;have hfe2:=BI (enc:=FE.enc) hfe;have hpn:=hpar fe (AD hfe);have hpk:gE fs f=fe.params.length:=by simp [gE,hfe]
   obtain ⟨fn,fp,o,n,u,ns',ks,al⟩:=fe;simp only [FE.enc,Ex.A4] at hfe2 hpn hpk;have hnT:=ltT hfl;have hbi:=hg.sn.blk;have hbm:=hg.bm;obtain ⟨c1,c2,c3,c4,c5⟩:=AD8 s.l j;have hle1:(f+1<=(BP s.mem).length)=True:=by rw [PJ,hg.len.1];simp;omega
   have hset:=pZ true (show f < s.mem.length by rw [hg.len.1];exact hfl);have hg1:=hg.AcI (s.mem.set f true) (by simp [hg.len.1]);(repeat' (first|refine ctQ rfl ?_|((first|refine rgQ mxQ ?_|refine cdQ ?_)<;>try simp only [Ap hlt,hfr,hbi,hbm,hnT,A9,hle1,hset,go_sem])|fail));generalize τ.AL jm (BP (s.mem.set f true))=τ1 at hg1 ⊢;have hbi1:=hg1.sn.blk;have hbp1:=hg1.bp;simp only at hbi1 hbp1;have hle2:(f+1<=(s.ps.map pcV).length)=True:=by rw [AA,hg.len.2.1];simp;omega
   have hle3:(f+1<=(Ct s.rs).length)=True:=by rw [fW,hg.len.2.2];simp;omega
   have hset2:=AY6 (A8 s.l.length fp.length) (show f < s.ps.length by rw [hg.len.2.1];exact hfl);have hset3:=fX (l:=s.rs) (v:=s.l.length+fp.length) (show f < s.rs.length by rw [hg.len.2.2];exact hfl);have hfn:=KB s.l fp.length;refine Run.IX mixed ?_;simp only [hbi1,hfe2,AA,go_sem];refine ⟨?_,?_⟩<;>
   (refine AI.mk rfl (Dx i j s.l false _ τ1 fp.length hg1.sn (by omega) (by omega)) ?_
    rintro _ τ2 ⟨rfl,j2,sn2,fr2⟩;have hg2:=hg1.step sn2 fr2;have hbi2:=hg2.sn.blk;have hbp2:=hg2.bp;simp only at hbi2 hbp2;have hg3:=hg2.AcJ (s.ps.set f (some (A8 s.l.length fp.length))) (by simp [hg.len.2.1]);simp only [hbi2,hbp2,hnT,A9,hle2,hset2,go_sem];generalize τ2.AL jp ((s.ps.set f (some (A8 s.l.length fp.length))).map pcV)=τ3 at hg3 ⊢;have hbi3:=hg3.sn.blk;have hbr3:=hg3.br;simp only at hbi3 hbr3;refine Run.IX mixed ?_;simp only [hbi3,go_sem];refine ⟨?_,?_⟩<;>
    (refine AI.mk rfl (Fq i j2 (Fw s.l fp.length) false _ τ3 hg3.sn (by omega)) ?_
     rintro _ τ4 ⟨rfl,j4,sn4,fr4⟩;have hg4:=hg3.step sn4 fr4;have hbi4:=hg4.sn.blk;have hbr4:=hg4.br;simp only at hbi4 hbr4;have hg5:=hg4.AcK (s.rs.set f (s.l.length+fp.length)) (by simp [hg.len.2.2]);rw [hfn];simp only [nA];simp only [hbi4,hbr4,hnT,A9,hle3,hset3,go_sem];(repeat' (refine wQ ?_<;>try simp only [hw1,go_sem]));refine ih ⟨p+1,_⟩ ⟨hlt,?_,j4,?_⟩ (by simp only;omega)
     . simp only [hst,ngS,H7,hpk,hfn];omega
     . simp only [hst,ngS,hpk];exact hg5))
 . have hpe:p=mem.length:=by omega
   subst hpe;rw [BQ] at hg;(repeat' (refine wQ ?_<;>try simp only [B7 hlt,go_sem]));refine Run.AK8 (σ':=τ.AL jp (psC (pgl (mem.foldl (ngS fs) (ng0 fs.length)).ps))) (fun m cs' hc=>?_) (fun t ht=>ht) ?_
   . rw [AJ] at hc;split at hc
     . rename_i e;subst e;cases hc;exact ⟨_,hg.bp,.inr (AN2 _).symm⟩
     . exact ⟨cs',hc,.inl rfl⟩
   (repeat' (refine wP ?_<;>try simp only [go_sem]));exact ⟨i,jm,jp,jr,je,j,τ,rfl,hg,rfl⟩
abbrev eTy:Nat:=42
def AVH {c:List Nd} {r:Nat} {y:Nd} (h:c[r]?=some y):((ndC c).drop (r * 4)).take 3=[.d (.int .i64 y.k),.d (.int .i64 y.n),.d (.sl (y.ar.map CN))]:=by
 obtain ⟨y1,y2,y3,_⟩:=Sn h;refine Et fun m=>?_;rw [B2]
 match m with
 |0=>simpa [BN] using y1
 |1=>simpa [BN] using y2
 |2=>simpa [BN] using y3
 |m+3=>rw [if_neg (by omega)];simp
def smE (es:List (Int×Int)):Prop:=∀n x,es.lookup n=some x->0<=x/\x<=1000000000
def RdC (i:Nat) (rest:List AV) (l:List Nd) (es:List (Int×Int)) (n:Nat):Prop:=∀(fl:Bool) (j t:Nat) (Y:AH),SN Y i l fl rest j->Y.tok t=true->
 AR Tzp 167 [.gp i 0,nA n,.om t (mI es)] Y (SNQ Y i l rest j (l,fl) (tyA (rdN l es n)))
def RdQ (Y:AH) (i:Nat) (l:List Nd) (fl:Bool) (rest:List AV) (j:Nat) (es:List (Int×Int)) (us:List Nat) (v:AV) (σ':AH):Prop:=
 CC (nbH Y) eTy 3 ((us.map (rdN l es)).map Ty.enc) v σ'/\∃j',SN σ' i l fl rest j'/\Fr Y i l j σ' l j'
def Pu (i:Nat) (rest:List AV) (l:List Nd) (es:List (Int×Int)) (us:List Nat) (hU:∀u∈us,RdC i rest l es u) (hul:us.length<=900000000) (fl:Bool) (j t:Nat) (Y:AH) (h:SN Y i l fl rest j) (ht:Y.tok t=true):
 AR Tzp 166 [.gp i 0,.d (.sl (us.map CN)),.om t (mI es)] Y (RdQ Y i l fl rest j es us):=by
 have hbi0:Y.blk i≠none:=by rw [h.blk];simp
 refine Tl (by simp) ?_;rw [DK];(repeat' (refine wQ ?_<;>try simp only [AA,go_sem]));refine Run.BB ?_
 refine Run.BE ((fun (a0:AV) (a2:AV) (a10:AV) (a11:AV)=>fun (z:Nat×AV×AH)=>put 0 a0 (put 2 a2 (put 7 (z.2.1) (put 10 a10 (put 11 a11 (put 12 (.d (.int .i64 z.1)) U)))))) _ _ _ _) (fun _=>E) (fun z=>z.2.2)
  (fun z=>z.1<=us.length/\CC (nbH Y) eTy 3 (((us.take z.1).map (rdN l es)).map Ty.enc) z.2.1 z.2.2/\∃j',SN z.2.2 i l fl rest j'/\Fr Y i l j z.2.2 l j')
  (fun z=>us.length - z.1) ?_ (0,.Ad,Y) ⟨by simp,by simpa using ANZ eTy 3,j,h,Fr.refl Y i l j⟩
 rintro ⟨p,v,τ⟩ ⟨hp,ho,j',hs,hf⟩ ih;simp only at hp ho hs hf;by_cases hlt:p < us.length
 . obtain ⟨u,hu⟩:=Ai hlt;have he:=HT hu;have hw1:=wsu p;have hc:=hU u (AD hu) fl j' t τ hs (hf.tok t ht);have hsn:(us.take (p+1)).map (rdN l es)=(us.take p).map (rdN l es)++[rdN l es u]:=by rw [A5 hu,Ao];rfl
   generalize rdN l es u=T at *;obtain ⟨k,n,ts⟩:=T;simp only [nA,Ty.enc,tyA,AF,AN] at hc;(repeat' (first|refine ctQ rfl ?_|((first|refine rgQ mxQ ?_|refine cdQ ?_)<;>try simp only [Ap hlt,he,go_sem])|fail));refine AI.mk rfl hc ?_;rintro _ τ1 ⟨rfl,j1,h1,f1⟩;simp only [go_sem];refine Dh.own (ho.fr f1) rfl (by simp) (by simp;omega) (by omega) (fun v' τ2 ho' hb'=>?_);(repeat' (first|refine ctQ rfl ?_|((first|refine rgQ mxQ ?_|refine cdQ ?_)<;>try simp only [hw1,go_sem])|fail));refine ih ⟨p+1,v',τ2⟩ ⟨hlt,?_,j1,?_,?_⟩ (by simp only;omega)
   . simp only [hsn];rw [Ao];exact ho'
   . exact h1.own hb'
   . exact (hf.trans f1 hbi0).own hb' ho'.le
 . have hpe:p=us.length:=by omega
   subst hpe;rw [BQ] at ho;(repeat' (refine wR ?_<;>try simp only [B7 hlt,ho.w4,go_sem]));exact ⟨ho,j',hs,hf⟩
def AV1 (i:Nat) (rest:List AV) (l:List Nd) (es:List (Int×Int)) (hes:smE es) (d:Nat->Nat) (hd:FR l d) (hln:l.length<=900000000):∀(N n:Nat),d (rtN l n)<=N->n < l.length->(szN l n<=200\/∃x,l[rtN l n]?=some x/\x.k=0)->RdC i rest l es n:=by
 intro N
 induction N using Cc with
 |ind N ihN=>
 intro n hdn hn hsz fl j t Y h ht;have hl0:l≠[]:=fun e=>by rw [e] at hn;cases hn
 have hbi0:Y.blk i≠none:=by rw [h.blk];simp
 obtain ⟨x,Z,hxp⟩:=h.Gs.root hn;have hrl:=(AE.1 Z).1;have heq:=dK (es:=es) h.Gs hd Z hxp
 have hkid:x.k≠0->x.ar.length<=199/\∀a∈x.ar,RdC i rest l es a:=fun hk0=>by
  have hs:szN l n<=200:=hsz.resolve_right fun ⟨y,hy,e⟩=>by rw [Z] at hy;cases hy;exact hk0 e
  have hk:=uB h.Gs hd Z hxp hs;refine ⟨hk.1,fun a ha=>?_⟩;have h1:=hd.lt _ x Z hxp a ha;exact ihN (d (rtN l a)) (by omega) a (AS _) (h.Gs.ar _ x Z a ha) (.inl (hk.2 a ha))
 refine YJ (by simp) ?_;rw [DK];simp only [nA];(repeat' (first|refine ctQ rfl ?_|((first|refine rgQ mxQ ?_|refine cdQ ?_)<;>try simp only [fP,go_sem])|fail));refine AI.mk rfl (Gz i j l fl rest Y n h hn hln) ?_;rintro _ σ1 ⟨rfl,j1,h1,f1⟩;simp only [nA];generalize hr:rtN l n=r at *;obtain ⟨hji,c,hrep,hbj⟩:=h1.nd hl0;have hbi:=h1.blk;rw [Em hl0] at hbi;obtain ⟨y,hy,yk,yn,ya⟩:=hrep.at Z;obtain ⟨y1,y2,y3,y4⟩:=Sn hy;rw [yk] at y1;rw [yn] at y2;rw [ya] at y3;have hrT:=ltT hrl;have hle4:(r * 4+3<=(ndC c).length)=True:=by rw [VO,hrep.len];simp;omega
 have ht1:=f1.tok t ht;have htk:=AVH hy;rw [yk,yn,ya] at htk;by_cases hk0:x.k=0
 . have hb:(x.k==0)=true:=by simpa using hk0
   rw [heq,if_pos hk0];cases hlu:es.lookup (r:Int) with
   |some m=>
    have hm:=hes _ _ hlu;(repeat' (first|refine ctQ rfl ?_|((first|refine rgQ mxQ ?_|refine cdQ ?_)<;>try simp only [hbi,hbj,hrT,hle4,htk,hb,fP,go_sem])|fail));refine XEx.AbE ht1 hm hlu ?_;(repeat' (first|refine ctQ rfl ?_|((first|refine rgQ mxQ ?_|refine cdQ ?_|refine Run.qP ID ?_)<;>try simp only [go_sem])|fail));exact ⟨rfl,j1,h1,f1⟩
   |none=>
    (repeat' (first|refine ctQ rfl ?_|((first|refine rgQ mxQ ?_|refine cdQ ?_)<;>try simp only [hbi,hbj,hrT,hle4,htk,hb,fP,go_sem])|fail));refine XEx.AbD ht1 hlu ?_;(repeat' (first|refine ctQ rfl ?_|((first|refine rgQ mxQ ?_|refine cdQ ?_|refine Run.qP ID ?_)<;>try simp only [go_sem])|fail));exact ⟨rfl,j1,h1,f1⟩
 . have hb:(x.k==0)=false:=by simpa using hk0
   obtain ⟨hkl,hkid⟩:=hkid hk0;rw [heq,if_neg hk0];(repeat' (first|refine ctQ rfl ?_|((first|refine rgQ mxQ ?_|refine cdQ ?_)<;>try simp only [hbi,hbj,hrT,hle4,htk,hb,fP,go_sem])|fail));refine AI.mk rfl (Pu i rest l es x.ar hkid (by omega) fl j1 t σ1 h1 ht1) ?_;rintro v σ2 ⟨ho,j2,h2,f2⟩;simp only [ho.w4,go_sem];(repeat' (refine wP ?_<;>try simp only [ho.plain,go_sem]));exact ⟨by simp only [Ty.Bf],j2,h2,f1.trans f2 hbi0⟩
def uG:∀(n:Nat) (t:Ty) (Y:AH),t.size<=n->n<=1000000->AR Tzp 109 [tyA t] Y (fun v σ'=>v= .d (.int .i64 t.size)/\σ'=Y):=by
 intro n
 induction n using Cc with
 |_ n ih=>
  intro t Y hn hm;obtain ⟨kd,nm,l⟩:=t;refine vY (by simp) ?_;rw [Bj];have hsz:(Ty.mk kd nm l).size=1+Ty.AQ l:=rfl;(repeat' (refine wQ ?_<;>try simp only [D0,go_sem]));refine Run.BB ?_
  refine Run.BE ((fun (a7:AV) (a8:AV)=>fun (y:Nat×Nat)=>put 3 (.d (.int .i64 (y.2:Int))) (put 7 a7 (put 8 a8 (put 9 (.d (.int .i64 y.1)) U)))) _ _) (fun _=>E) (fun _=>Y)
   (fun y=>y.1<=l.length/\y.2=1+Ty.AQ (l.take y.1)) (fun y=>l.length - y.1) ?_ (0,1) ⟨by simp,by simp [Ty.AQ]⟩
  rintro ⟨i,q⟩ ⟨hi,hq⟩ ih2;simp only at hi hq
  have hil:i<=n:=by
   have:=Ys (l.take i);have:=DB l i;simp at *;omega
  by_cases hlt:i < l.length
  . obtain ⟨t',ht⟩:=Ai hlt;have hs1:Ty.AQ (l.take (i+1))=Ty.AQ (l.take i)+t'.size:=by rw [A5 ht,Jw]
    have hs2:=DB l (i+1);obtain ⟨kd',nm',al⟩:=t';have he:=RU ht;have hw1:=wsu i;have hw2:=wrap_add (show q+(Ty.mk kd' nm' al).size<=9000000000000000000 by omega);have hcall:=ih ((Ty.mk kd' nm' al).size) (by omega) (.mk kd' nm' al) Y (AS _) (by omega);(repeat' ((first|refine wQ ?_|refine AI.det (hcall) ?_|fail)<;>try simp only [Ap hlt,he,hw1,hw2,go_sem]));exact ih2 (i+1,q+(Ty.mk kd' nm' al).size) ⟨by simp only;omega,by simp only;omega⟩ (by simp only;omega)
  . (repeat' (refine wP ?_<;>try simp only [B7 hlt,go_sem]));rw [AP (by omega)] at hq;rw [hsz,hq]
def AFW (args:List Ty) (t:Ty) (hs:t.size<=1000000) (ih:∀(u:Ty) (Y:AH),u.size < t.size->AR Tzp 108 [tyA u,N5 args] Y (fun v σ'=>v=tyA (u.subst args)/\σ'=Y))
 (hnil:∀(u:Ty) (Y:AH),u∈args->AR Tzp 108 [tyA u,N5 []] Y (fun v σ'=>v=tyA u/\σ'=Y)) (Y:AH):
 AR Tzp 108 [tyA t,N5 args] Y (fun v σ'=>v=tyA (t.subst args)/\σ'=Y):=by
 obtain ⟨kd,nm,l⟩:=t;have hsz:(Ty.mk kd nm l).size=1+Ty.AQ l:=rfl;refine rT (by simp) ?_;rw [BD];(repeat' (first|refine ctQ rfl ?_|(refine QJ (by first|exact GV.t|exact GV.f|exact GV.st|exact GV.sf) ⟨?_,fun h=>?_,?_⟩;rotate_left;(focus ((try simp only [AO] at h);simp only [go_sem];first|exact Is.mk|exact Is.pv (by simp only [h,UM,D0,go_sem];rfl)));(try simp only [↓LA,go_sem]))|((first|refine rgQ mxQ ?_|refine cdQ ?_|(refine Ae rfl (fun h=>?_) (fun h=>?_)<;>try (cases h;done)))<;>try simp only [D0,go_sem])|(refine ⟨fun h=>?_,fun h=>?_⟩<;>first|(cases h;done)|try simp only [h])|fail))
 . simp only [AO,beq_iff_eq,decide_eq_true_eq] at h;obtain ⟨⟨h1,h2⟩,h3⟩:=h;obtain ⟨i,rfl⟩:=G5 h2;have hlt:i < args.length:=by omega
   obtain ⟨u,hu⟩:=Ai hlt;have hsub:(Ty.mk kd i l).subst args=u:=by simp only [Ty.subst];rw [if_pos ⟨h1,h2,h3⟩];simp [hu]
   rw [hsub];have hc:=hnil u Y (AD hu);obtain ⟨k2,n2,a2⟩:=u;have he:=RU hu;simp only [tyA,N5,Ty.enc,Ty.HE,AF,AN] at hc;have hc2:AR Tzp 108 [.agg [.d (.int .i64 k2),.d (.int .i64 n2),.d (.sl (Ty.HE a2))],.Ad] Y _:=AR.plain (by simpa only [AV.CV,HV,MU,HU] using hc);simp only [CO,he,go_sem];(repeat' ((first|refine wP ?_|refine AI.det (hc2) ?_|fail)<;>try simp only [go_sem]))
 . have hno:¬(kd=4/\0<=nm/\nm < args.length):=by
    simp only [Vo,beq_eq_false_iff_ne,decide_eq_false_iff_not] at h;omega
   have hsub:(Ty.mk kd nm l).subst args= .mk kd nm (l.map (Ty.subst args)):=by simp only [Ty.subst];rw [if_neg hno,Jx]
   rw [hsub];have hll:=Ys l;refine Run.BB ?_
   refine Run.BE ((fun (a1:AV) (a4:AV) (a5:AV) (a35:AV) (a36:AV)=>fun (z:Nat×AV×AH)=>put 1 a1 (put 4 a4 (put 5 a5 (put 35 a35 (put 36 a36 (put 37 (.d (.int .i64 z.1)) U)))))) _ _ _ _ _) (fun z=>At 4 [.d (.int .i64 0),.d (.int .i64 0),.Ad] (At 5 [.d (.int .i64 kd),.d (.int .i64 nm),z.2.1] E)) (fun z=>z.2.2)
    (fun z=>z.1<=l.length/\CC Y eTy 3 (((l.take z.1).map (Ty.subst args)).map Ty.enc) z.2.1 z.2.2) (fun z=>l.length - z.1) ?_ (0,.Ad,Y) ⟨by simp,by simpa using CC.nil Y eTy 3⟩
   rintro ⟨p,v,τ⟩ ⟨hp,ho⟩ ih2;simp only at hp ho;by_cases hlt:p < l.length
   . obtain ⟨u,hu⟩:=Ai hlt;have hus:=AOK hu;have hsn:(l.take (p+1)).map (Ty.subst args)=(l.take p).map (Ty.subst args)++[u.subst args]:=by rw [A5 hu,Ao];rfl
     have hc:=ih u τ (by omega);generalize u.subst args=w at *;obtain ⟨k1,n1,a1⟩:=u;obtain ⟨k2,n2,a2⟩:=w;have he:=RU hu;have hw1:=wsu p;(repeat' ((first|refine wQ ?_|refine AI.det (hc) ?_|fail)<;>try simp only [Ap hlt,he,ho.w4,go_sem]));refine Dh.own ho rfl (by simp) (by simp;omega) (by omega) (fun v' τ2 ho' hb'=>?_);simp only [hw1,ho'.cells,ho'.cell,go_sem];(repeat' (refine wQ ?_<;>try simp only [hw1,ho'.BS,ho'.CL,ho'.cells,ho'.cell,go_sem]));refine ih2 ⟨p+1,v',τ2⟩ ⟨hlt,?_⟩ (by simp only;omega);simp only [hsn];rw [Ao];exact ho'
   . rw [AP (by omega)] at ho;(repeat' (refine wQ ?_<;>try simp only [B7 hlt,ho.w4,go_sem]));refine Run.Bg Xq ho.le ?_;simp only [WD,ho.plain,Ty.Bf,go_sem]
def o4 (args:List Ty) (ha:∀t∈args,t.size<=1000000) (t:Ty) (ht:t.size<=1000000) (Y:AH):AR Tzp 108 [tyA t,N5 args] Y (fun v σ'=>v=tyA (t.subst args)/\σ'=Y):=by
 have key:∀(n:Nat) (args:List Ty) (t:Ty) (Y:AH),(∀t∈args,t.size<=1000000)->t.size<=1000000->t.size+(if args=[] then 0 else 1000001)<=n->AR Tzp 108 [tyA t,N5 args] Y (fun v σ'=>v=tyA (t.subst args)/\σ'=Y):=by
  intro n
  induction n using Cc with
  |_ n ih=>
   intro args t Y ha ht hn;have hp:=uF t;refine AFW args t ht (fun u Y hu=>ih (n - 1) (by omega) args u Y ha (by omega) (by omega)) (fun u Y hu=>?_) Y;have:=ih (n - 1) (by omega) [] u Y (by simp) (ha u hu) (by have:=ha u hu;rw [if_neg (List.ne_nil_of_mem hu)] at hn;simp;omega)
   rwa [y8] at this
 exact key _ args t Y ha ht (AS _)
set_option maxRecDepth 100000
set_option maxHeartbeats 40000000
noncomputable section
noncomputable def Vm:Cx:=⟨Tzp,20,Tryz.f20,16,[300007,300012],[],[.t 6]⟩
instance cF:Good Vm:=⟨Tryz.func20,by kernel_rfl,mixed⟩
def AEX:Vm.rs=[.t 6]:=rfl
noncomputable def AH2:=BG Vm [] (G · [])
def AGF:C:=(AH2).1
def AHO:Inn Vm AGF 16:=inn [] cF Tryz.ntmps20
noncomputable def ZT:Cx:=⟨Tzp,45,Tryz.f45,21,[300007,300014],[],[.t 2]⟩
instance yB:Good ZT:=⟨Tryz.func45,by kernel_rfl,mixed⟩
def AI0:ZT.rs=[.t 2]:=rfl
noncomputable def yF:=BG ZT [] fun c a=>G c [a]
def zX:C:=lpC 0 (yF .skip)
def ALS:C:=(yF zX).1
def AMS:Inn ZT ALS 21:=inn [] yB Tryz.ntmps45
noncomputable def QI:Cx:=⟨Tzp,46,Tryz.f46,112,[300010,300013,300019,300028,300032,300043,300047,300056,300065,300079,300088,300105],[],[.t 6]⟩
instance IB:Good QI:=⟨Tryz.func46,by kernel_rfl,mixed⟩
def mJ:QI.rs=[.t 6]:=rfl
noncomputable def r5:=BG QI [] fun c a=>G c [a]
def aP:C:=lpC 0 (r5 .skip)
def AGG:C:=(r5 aP).1
def AHP:Inn QI AGG 112:=inn [] IB Tryz.ntmps46
attribute [go_sem] AEX AI0 mJ
end
def Run.tail {cx:Cx} {KK:AV->AH->Prop} {c:CI} {k:List CI} {L:Lm} {Y:AH} (R:Fm->Lm->AH->Prop) (ht:∀F L Y,R F L Y->Run cx KK k F L Y) (hc:∀k,(∀F L Y,R F L Y->Run cx KK k F L Y)->Run cx KK (c::k) F L Y):Run cx KK (c::k) F L Y:=hc k ht
def eqB {a b:Int} (h:a=b):(a != b)=false:=by simpa using h
def neB {a b:Int} (h:a≠b):(a != b)=true:=by simpa using h
def AIT:∀(n:Nat) (t:Ty) (Y:AH),t.size<=n->n<=1000000->AR Tzp 45 [tyA t] Y (fun v σ'=>v= .d (.int .i64 t.size)/\σ'=Y):=by
 intro n
 induction n using Cc with
 |_ n ih=>
  intro t Y hn hm;obtain ⟨kd,nm,l⟩:=t;refine AMS (by simp) ?_;rw [Bj];have hsz:(Ty.mk kd nm l).size=1+Ty.AQ l:=rfl;(repeat' (first|refine ctQ rfl ?_|((first|refine rgQ mxQ ?_|refine cdQ ?_|(refine Ae rfl (fun h=>?_) (fun h=>?_)<;>try (cases h;done)))<;>try simp only [go_sem])|(refine ⟨fun h=>?_,fun h=>?_⟩<;>first|(cases h;done)|try simp only [h])|fail));refine Run.BB ?_
  refine Run.BE ((fun (a1:AV)=>fun (y:Nat×Nat)=>put 1 a1 (put 3 (.d (.int .i64 (y.2:Int))) (put 4 (.d (.int .i64 y.1)) U))) _) (fun _=>At 1 [.d (.int .i64 kd),.d (.int .i64 nm),.d (.sl (Ty.HE l))] E) (fun _=>Y)
   (fun y=>y.1<=l.length/\y.2=1+Ty.AQ (l.take y.1)) (fun y=>l.length - y.1) ?_ (0,1) ⟨by simp,by simp [Ty.AQ]⟩
  rintro ⟨i,q⟩ ⟨hi,hq⟩ ih2;simp only at hi hq
  have hil:i<=n:=by
   have:=Ys (l.take i);have:=DB l i;simp at *;omega
  by_cases hlt:i < l.length
  . obtain ⟨t',ht⟩:=Ai hlt;have hs1:Ty.AQ (l.take (i+1))=Ty.AQ (l.take i)+t'.size:=by rw [A5 ht,Jw]
    have hs2:=DB l (i+1);obtain ⟨kd',nm',al⟩:=t';have he:=RU ht;have hw1:=wsu i;have hw2:=wrap_add (show q+(Ty.mk kd' nm' al).size<=9000000000000000000 by omega);have hcall:=ih ((Ty.mk kd' nm' al).size) (by omega) (.mk kd' nm' al) Y (AS _) (by omega);(repeat' (first|refine ctQ rfl ?_|((first|refine rgQ mxQ ?_|refine cdQ ?_|refine AI.det (hcall) ?_|(refine Ae rfl (fun h=>?_) (fun h=>?_)<;>try (cases h;done)))<;>try simp only [D0,Ap hlt,he,hw1,hw2,go_sem])|(refine ⟨fun h=>?_,fun h=>?_⟩<;>first|(cases h;done)|try simp only [h])|fail));exact ih2 (i+1,q+(Ty.mk kd' nm' al).size) ⟨by simp only;omega,by simp only;omega⟩ (by simp only;omega)
  . (repeat' (first|refine ctQ rfl ?_|((first|refine rgQ mxQ ?_|refine cdQ ?_|refine Run.qP yB ?_|(refine Ae rfl (fun h=>?_) (fun h=>?_)<;>try (cases h;done)))<;>try simp only [D0,B7 hlt,go_sem])|(refine ⟨fun h=>?_,fun h=>?_⟩<;>first|(cases h;done)|try simp only [h])|fail));rw [AP (by omega)] at hq;rw [hsz,hq]
def leT {n:Nat} (h:¬p < n):decide ((n:Int)<=(p:Int))=true:=by simp;omega
def leF {n:Nat} (h:p < n):decide ((n:Int)<=(p:Int))=false:=by simp;omega
def eqN (a:Nat) (b:Nat):((a:Int)==(b:Int))=(a==b):=by
 rw [Ak];simp;omega
def AU6 (a:Nat):((a:Int)==0)=(a==0):=eqN a 0
def AEM (data:List Dat) (vars:Int):∀(n:Nat) (t:Ty) (Y:AH),t.size<=n->n<=1000000->AR Tzp 46 [dsA data,tyA t,.d (.int .i64 vars)] Y (fun v σ'=>v= .d (.bool (CH data vars t))/\σ'=Y):=by
 intro n
 induction n using Cc with
 |_ n ih=>
  intro t Y hn hm;obtain ⟨kd,nm,l⟩:=t;have hsz:(Ty.mk kd nm l).size=1+Ty.AQ l:=rfl;have hll:=Ys l;refine AHP (by simp) ?_;rw [DK,dsA]
  -- the arguments, once the shape is right
  have hloop:Cd data vars kd nm l.length=true->∀(k:List CI),k=[.code (.seq (.reg [⟨some 6,.mv (.c (.d (.bool true))),none⟩] [6]) .ret)]->
   Run QI (fun v σ'=>v= .d (.bool (CH data vars (.mk kd nm l)))/\σ'=Y) (.again aP::.blk 1::k) (put 0 (.d (.sl (data.map Dat.enc))) (put 2 (.d (.int .i64 vars)) (put 4 (.lp 4 0) (put 7 (.d (.int .i64 l.length)) (put 8 (.d (.int .i64 ((0:Nat):Int))) U))))) (At 4 [.d (.int .i64 kd),.d (.int .i64 nm),.d (.sl (Ty.HE l))] E) Y:=by
   rintro hs k rfl
   refine Run.BE (fun i:Nat=>put 0 (.d (.sl (data.map Dat.enc))) (put 2 (.d (.int .i64 vars)) (put 4 (.lp 4 0) (put 7 (.d (.int .i64 l.length)) (put 8 (.d (.int .i64 (i:Int))) U))))) (fun _=>At 4 [.d (.int .i64 kd),.d (.int .i64 nm),.d (.sl (Ty.HE l))] E) (fun _=>Y)
    (fun i=>i<=l.length/\Bo data vars (l.take i)=true) (fun i=>l.length - i) ?_ 0 ⟨by simp,by simp [Bo]⟩
   rintro i ⟨hi,hok⟩ ih2;by_cases hlt:i < l.length
   . obtain ⟨t',ht⟩:=Ai hlt;have hs1:Ty.AQ (l.take (i+1))=Ty.AQ (l.take i)+t'.size:=by rw [A5 ht,Jw]
     have hs2:=DB l (i+1);have hv1:Bo data vars (l.take (i+1))=(Bo data vars (l.take i)&&CH data vars t'):=by rw [A5 ht,Vd]
     have hbad:=Yw (data:=data) (vars:=vars) ht;obtain ⟨kd',nm',al⟩:=t';have he:=RU ht;have hw1:=wsu i;have hcall:=ih ((Ty.mk kd' nm' al).size) (by omega) (.mk kd' nm' al) Y (AS _) (by omega);cases hv:CH data vars (.mk kd' nm' al) with
     |true=>
      rw [hv] at hcall hv1;(repeat' (first|refine ctQ rfl ?_|((first|refine rgQ mxQ ?_|refine cdQ ?_|refine AI.det (hcall) ?_|(refine Ae rfl (fun h=>?_) (fun h=>?_)<;>try (cases h;done)))<;>try simp only [Ap hlt,he,hw1,go_sem])|(refine ⟨fun h=>?_,fun h=>?_⟩<;>first|(cases h;done)|try simp only [h])|fail));exact ih2 (i+1) ⟨by omega,by rw [hv1,hok];rfl⟩ (by omega)
     |false=>
      rw [hv] at hcall;(repeat' (first|refine ctQ rfl ?_|((first|refine rgQ mxQ ?_|refine cdQ ?_|refine Run.qP IB ?_|refine AI.det (hcall) ?_|(refine Ae rfl (fun h=>?_) (fun h=>?_)<;>try (cases h;done)))<;>try simp only [Ap hlt,he,hw1,go_sem])|(refine ⟨fun h=>?_,fun h=>?_⟩<;>first|(cases h;done)|try simp only [h])|fail));simp [CH,hbad hv]
   . rw [AP (by omega)] at hok;(repeat' (first|refine ctQ rfl ?_|((first|refine rgQ mxQ ?_|refine cdQ ?_|refine Run.qP IB ?_|(refine Ae rfl (fun h=>?_) (fun h=>?_)<;>try (cases h;done)))<;>try simp only [B7 hlt,go_sem])|(refine ⟨fun h=>?_,fun h=>?_⟩<;>first|(cases h;done)|try simp only [h])|fail));simp [CH,hs,hok]
  have hno:Cd data vars kd nm l.length=false->AV.d (.bool false)= .d (.bool (CH data vars (.mk kd nm l))):=fun h=>by simp [CH,h]
  (repeat' (first|refine Run.cb rfl ?_|((first|refine rgQ mxQ ?_|refine cdQ ?_|(refine Ae rfl (fun h=>?_) (fun h=>?_)<;>try (cases h;done)))<;>try simp only [D0,go_sem])|(refine ⟨fun h=>?_,fun h=>?_⟩<;>first|(cases h;done)|try simp only [h])|fail));refine Run.tail (fun F M τ=>Cd data vars kd nm l.length=true/\Gw [0,2,4,7] F=put 0 (.d (.sl (data.map Dat.enc))) (put 2 (.d (.int .i64 vars)) (put 4 (.lp 4 0) (put 7 (.d (.int .i64 l.length)) U)))/\Fp [0,2,4,7] M=At 4 [.d (.int .i64 kd),.d (.int .i64 nm),.d (.sl (Ty.HE l))] E/\τ=Y) ?_ ?_
  . rintro F M _ ⟨hs,hF,hM,rfl⟩;refine Run.JP [0,2,4,7] ?_;rw [hF,hM];(repeat' (first|refine ctQ rfl ?_|((first|refine rgQ mxQ ?_|refine cdQ ?_|(refine Ae rfl (fun h=>?_) (fun h=>?_)<;>try (cases h;done)))<;>try simp only [go_sem])|(refine ⟨fun h=>?_,fun h=>?_⟩<;>first|(cases h;done)|try simp only [h])|fail));refine Run.BB ?_;exact hloop hs _ rfl
  . intro k hT;have hT:=fun F M h1 h2 h3=>hT F M Y ⟨h1,h2,h3,rfl⟩;clear hloop ih;by_cases h9:1<=kd/\kd<=9
    . have h9:kd=5\/kd=1\/kd=2\/kd=3\/kd=4\/kd=6\/kd=7\/kd=8\/kd=9:=by omega
      rcases h9 with rfl|h9
      . by_cases hn:nm < 0
        . (repeat' (first|refine ctQ rfl ?_|((first|refine rgQ mxQ ?_|refine cdQ ?_|refine Run.qP IB ?_|(refine Ae rfl (fun h=>?_) (fun h=>?_)<;>try (cases h;done)))<;>try simp only [Aa,decide_eq_true hn,go_sem])|(refine ⟨fun h=>?_,fun h=>?_⟩<;>first|(cases h;done)|try simp only [h])|fail));exact hno (by simp [Cd,show ¬0<=nm by omega])
        obtain ⟨p,rfl⟩:∃p:Nat,nm=p:=⟨nm.toNat,by omega⟩;by_cases hp:p < data.length
        . obtain ⟨d,hd⟩:=Ai hp;have hd':=Um hd;by_cases q1:(l.length:Int)=d.vars
          . (repeat' (first|refine ctQ rfl ?_|((first|refine rgQ mxQ ?_|refine cdQ ?_|(refine Ae rfl (fun h=>?_) (fun h=>?_)<;>try (cases h;done)))<;>try simp only [Aa,decide_eq_false hn,AA,leF hp,hd',eqB q1,go_sem])|(refine ⟨fun h=>?_,fun h=>?_⟩<;>first|(cases h;done)|try simp only [h])|fail));exact hT _ _ (by simp [Cd,hd,q1]) (by simp only [go_sem]) (by simp only [go_sem])
          . (repeat' (first|refine ctQ rfl ?_|((first|refine rgQ mxQ ?_|refine cdQ ?_|refine Run.qP IB ?_|(refine Ae rfl (fun h=>?_) (fun h=>?_)<;>try (cases h;done)))<;>try simp only [Aa,decide_eq_false hn,AA,leF hp,hd',neB q1,go_sem])|(refine ⟨fun h=>?_,fun h=>?_⟩<;>first|(cases h;done)|try simp only [h])|fail));exact hno (by simp [Cd,hd,q1])
        . (repeat' (first|refine ctQ rfl ?_|((first|refine rgQ mxQ ?_|refine cdQ ?_|refine Run.qP IB ?_|(refine Ae rfl (fun h=>?_) (fun h=>?_)<;>try (cases h;done)))<;>try simp only [Aa,decide_eq_false hn,AA,leT hp,go_sem])|(refine ⟨fun h=>?_,fun h=>?_⟩<;>first|(cases h;done)|try simp only [h])|fail));have:data[p]?=none:=BM (by omega);exact hno (by simp [Cd,this])
      . rcases h9 with rfl|rfl|rfl|rfl|rfl|rfl|rfl|rfl
        all_goals (repeat' (first|refine ctQ rfl ?_|(refine QJ (by first|exact GV.t|exact GV.f|exact GV.st|exact GV.sf) ⟨?_,fun h=>?_,?_⟩;rotate_left;(focus ((try simp only [AO,N6] at h);simp only [Aa,go_sem];first|exact Is.mk|exact Is.pv (by simp only [h,UM,↓LA,↓WB,↓kR,Aa,go_sem];rfl)));(try simp only [gT,ABL,ABM,↓LA,↓WB,↓kR,Aa,mJ,go_sem]))|((first|refine rgQ mxQ ?_|refine cdQ ?_|refine Run.qP IB ?_|(refine Ae rfl (fun h=>?_) (fun h=>?_)<;>try (cases h;done)))<;>try simp only [gT,ABL,ABM,↓LA,↓WB,↓kR,Aa,go_sem])|(refine ⟨fun h=>?_,fun h=>?_⟩<;>first|(cases h;done)|try simp only [gT,ABL,ABM,↓LA,↓WB,↓kR,h])|fail))
        all_goals first
         |exact hT _ _ (by simp [Cd] at h ⊢;omega) (by simp only [go_sem]) (by simp only [go_sem])
         |exact hno (by rw [CX];intro hs;simp [Cd] at h hs;omega)
         |(by_cases hl0:l=[]
           . subst hl0;simp [CH,Cd,Bo]
           . have h0:(l.length==0)=false:=by simp [hl0]
             simp [CH,Cd,AU6,h0])
    . (repeat' (first|refine ctQ rfl ?_|((first|refine rgQ mxQ ?_|refine cdQ ?_|refine Run.qP IB ?_|(refine Ae rfl (fun h=>?_) (fun h=>?_)<;>try (cases h;done)))<;>try simp only [Cf (show kd≠1 by omega),Cf (show kd≠2 by omega),Cf (show kd≠3 by omega),Cf (show kd≠4 by omega),Cf (show kd≠5 by omega),Cf (show kd≠6 by omega),Cf (show kd≠7 by omega),Cf (show kd≠8 by omega),Cf (show kd≠9 by omega),go_sem])|(refine ⟨fun h=>?_,fun h=>?_⟩<;>first|(cases h;done)|try simp only [h])|fail));refine hno ?_;unfold Cd;rw [if_neg (by omega),if_neg (by omega),if_neg (by omega),if_neg (by omega),if_neg (by omega),if_neg (by omega)]
def AXG (n:Nat):decide ((n:Int)<=200)=decide (n<=200):=decide_eq_decide.2 (by omega)
def AEL (data:List Dat) (t:Ty) (vars:Int) (Y:AH) (ht:t.size<=1000):AR Tzp 20 [dsA data,tyA t,.d (.int .i64 vars)] Y (fun v σ'=>v= .d (.bool (decide (t.size<=200)&&CH data vars t))/\σ'=Y):=by
 obtain ⟨kd,nm,l⟩:=t;refine AHO (by simp) ?_;rw [DK];have hS:=AIT 1000 (.mk kd nm l) Y ht (by omega);have hv:=AEM data vars 1000 (.mk kd nm l) Y ht (by omega);cases h2:decide ((Ty.mk kd nm l).size<=200) with
 |true=>(repeat' (first|refine ctQ rfl ?_|((first|refine rgQ mxQ ?_|refine cdQ ?_|refine Run.qP cF ?_|refine AI.det (hS) ?_|refine AI.det (hv) ?_|(refine Ae rfl (fun h=>?_) (fun h=>?_)<;>try (cases h;done)))<;>try simp only [AXG,h2,go_sem])|(refine ⟨fun h=>?_,fun h=>?_⟩<;>first|(cases h;done)|try simp only [h])|fail))
 |false=>(repeat' (first|refine ctQ rfl ?_|((first|refine rgQ mxQ ?_|refine cdQ ?_|refine Run.qP cF ?_|refine AI.det (hS) ?_|refine AI.det (hv) ?_|(refine Ae rfl (fun h=>?_) (fun h=>?_)<;>try (cases h;done)))<;>try simp only [AXG,h2,go_sem])|(refine ⟨fun h=>?_,fun h=>?_⟩<;>first|(cases h;done)|try simp only [h])|fail))
def vb (data:List Dat) (vars left:Int):List AV:=[dsA data,.d (.int .i64 vars),.d (.int .i64 left)]
def VQ (data:List Dat) (vars:Int) (i L:Nat) (t:Ty) (Y:AH) (v:AV) (σ':AH):Prop:=
 ∃b L',v= .d (.bool b)/\σ'=Y.AL i (vb data vars L')/\b=(decide (t.size<=L)&&CH data vars t)/\(b=true->L'=((L - t.size:Nat):Int))
def VOK (data:List Dat) (vars:Int) (i L:Nat):Prop:=∀(t:Ty) (Y:AH),Y.blk i=some (vb data vars L)->AR Tzp 107 [.gp i 0,tyA t] Y (VQ data vars i L t Y)
def AGO {data:List Dat} {vars:Int} {i j:Nat} (hV:VOK data vars i L) (t:Ty) (Y:AH) (hi:Y.blk i=some (vb data vars L)) (hj:Y.blk j=some [.gp i 0]) (hij:j≠i):
 AR Tzp 170 [tyA t,.gp j 0] Y (fun v σ'=>∃b L',v= .d (.bool (!b))/\σ'=Y.AL i (vb data vars L')/\b=(decide (t.size<=L)&&CH data vars t)/\(b=true->L'=((L - t.size:Nat):Int))):=by
 obtain ⟨kd,nm,l⟩:=t;refine Ph (by simp) ?_;rw [BD];(repeat' (first|refine ctQ rfl ?_|((first|refine rgQ mxQ ?_|refine cdQ ?_|(refine AI.mk rfl (hV (.mk kd nm l) Y hi) ?_;rintro _ _ ⟨b,L',rfl,rfl,hb,hL⟩)|refine Run.qR IE ?_|(refine Ae rfl (fun h=>?_) (fun h=>?_)<;>try (cases h;done)))<;>try simp only [hj,go_sem])|(refine ⟨fun h=>?_,fun h=>?_⟩<;>first|(cases h;done)|try simp only [h])|fail));exact ⟨b,L',rfl,rfl,hb,hL⟩
def ALA {data:List Dat} {vars:Int} {i j:Nat} (hV:∀m,m<=L->VOK data vars i m) (l:List Ty) (Y:AH) (hL:L<=1000000) (hi:Y.blk i=some (vb data vars L)) (hj:Y.blk j=some [.gp i 0]) (hij:j≠i):
 AR Tzp 106 [N5 l,.fn 170 [] [.gp j 0]] Y (fun v σ'=>∃r L',v= .d (.int .i64 r)/\σ'=Y.AL i (vb data vars L')/\decide (0<=r)=!(decide (Ty.AQ l<=L)&&Bo data vars l)/\(r < 0->L'=((L - Ty.AQ l:Nat):Int))):=by
 refine Hn (by simp) ?_;rw [BD,N5];(repeat' (first|refine ctQ rfl ?_|((first|refine rgQ mxQ ?_|refine cdQ ?_|(refine Ae rfl (fun h=>?_) (fun h=>?_)<;>try (cases h;done)))<;>try simp only [D0,go_sem])|(refine ⟨fun h=>?_,fun h=>?_⟩<;>first|(cases h;done)|try simp only [h])|fail));refine Run.BB ?_;refine Run.AKB (FU hi) ?_;refine Run.BE ((fun (a0:AV) (a1:AV) (a7:AV)=>fun (y:Nat×Nat)=>put 0 a0 (put 1 a1 (put 7 a7 (put 8 (.d (.int .i64 y.1)) U)))) _ _ _) (fun _=>E) (fun y=>Y.AL i (vb data vars (y.2:Int))) (fun y=>y.1<=l.length/\Bo data vars (l.take y.1)=true/\y.2+Ty.AQ (l.take y.1)=L) (fun y=>l.length - y.1) ?_ (0,L) ⟨by simp,by simp [Bo],by simp [Ty.AQ]⟩;rintro ⟨k,q⟩ ⟨hk,hok,hq⟩ ih;simp only at hk hok hq
 have hkL:k<=L:=by
  have:=Ys (l.take k);simp at this;omega
 by_cases hlt:k < l.length
 . obtain ⟨t',ht⟩:=Ai hlt;have hs1:Ty.AQ (l.take (k+1))=Ty.AQ (l.take k)+t'.size:=by rw [A5 ht,Jw]
   have hs2:=DB l (k+1);have hv1:Bo data vars (l.take (k+1))=(Bo data vars (l.take k)&&CH data vars t'):=by rw [A5 ht,Vd]
   have hbad:=Yw (data:=data) (vars:=vars) ht;have hcall:=AGO (hV q (by omega)) t' (Y.AL i (vb data vars (q:Int))) (by simp only [AJ,if_true]) (by simp only [AJ,if_neg hij,hj]) hij;obtain ⟨kd',nm',al⟩:=t';have he:=RU ht;have hw1:=wsu k;cases hB:(decide ((Ty.mk kd' nm' al).size<=q)&&CH data vars (.mk kd' nm' al)) with
   |true=>
    have hc2:=hcall.mono (Q':=fun v σ'=>v= .d (.bool false)/\σ'=Y.AL i (vb data vars ((q - (Ty.mk kd' nm' al).size:Nat):Int))) (by
     rintro v σ' ⟨b,L',rfl,rfl,hb,h⟩;rw [hB] at hb;subst hb;rw [h rfl,Dr];exact ⟨rfl,rfl⟩)
    simp only [AO,decide_eq_true_eq] at hB;(repeat' (first|refine ctQ rfl ?_|((first|refine rgQ mxQ ?_|refine cdQ ?_|(refine ⟨_,[],[_],rfl,by kernel_rfl,?_⟩)|(refine AI.mk rfl hc2 ?_;rintro _ _ ⟨rfl,rfl⟩)|(refine Ae rfl (fun h=>?_) (fun h=>?_)<;>try (cases h;done)))<;>try simp only [Ap hlt,he,hw1,go_sem])|(refine ⟨fun h=>?_,fun h=>?_⟩<;>first|(cases h;done)|try simp only [h])|fail));exact ih (k+1,q - (Ty.mk kd' nm' al).size) ⟨by simp only;omega,by simp only;rw [hv1,hok,hB.2];rfl,by simp only;omega⟩ (by simp only;omega)
   |false=>
    have hc2:=hcall.mono (Q':=fun v σ'=>v= .d (.bool true)/\∃L',σ'=Y.AL i (vb data vars L')) (by
     rintro v σ' ⟨b,L',rfl,rfl,hb,h⟩;rw [hB] at hb;subst hb;exact ⟨rfl,L',by rw [Dr]⟩)
    (repeat' (first|refine ctQ rfl ?_|((first|refine rgQ mxQ ?_|refine cdQ ?_|(refine ⟨_,[],[_],rfl,by kernel_rfl,?_⟩)|(refine AI.mk rfl hc2 ?_;rintro _ _ ⟨rfl,L',rfl⟩)|refine Run.qR FC ?_|(refine Ae rfl (fun h=>?_) (fun h=>?_)<;>try (cases h;done)))<;>try simp only [Ap hlt,he,go_sem])|(refine ⟨fun h=>?_,fun h=>?_⟩<;>first|(cases h;done)|try simp only [h])|fail));refine ⟨(k:Int),L',rfl,rfl,?_,fun h=>by omega⟩;have hd0:decide ((0:Int)<=(k:Int))=true:=by simp
    rw [hd0]
    have:(decide (Ty.AQ l<=L)&&Bo data vars l)=false:=by
     rcases (Vo.1 hB) with h|h
     . have:¬Ty.AQ l<=L:=by simp only [decide_eq_false_iff_not] at h;omega
       simp [this]
     . rw [hbad h];simp
    rw [this];rfl
 . (repeat' (first|refine ctQ rfl ?_|((first|refine rgQ mxQ ?_|refine cdQ ?_|refine Run.qR FC ?_|(refine Ae rfl (fun h=>?_) (fun h=>?_)<;>try (cases h;done)))<;>try simp only [B7 hlt,go_sem])|(refine ⟨fun h=>?_,fun h=>?_⟩<;>first|(cases h;done)|try simp only [h])|fail));rw [AP (by omega)] at hok hq;refine ⟨-1,_,rfl,rfl,?_,fun _=>?_⟩
   . have:Ty.AQ l<=L:=by omega
     simp [this,hok]
   . congr 1;omega
def zI {data:List Dat} {vars:Int} {i j:Nat} (hV:∀m,m<=L->VOK data vars i m) (l:List Ty) (Y:AH) (hL:L<=1000000) (hi:Y.blk i=some (vb data vars L)) (hj:Y.blk j=some [.gp i 0]) (hij:j≠i):
 AR Tzp 63 [N5 l,.fn 170 [] [.gp j 0]] Y (fun v σ'=>∃L',v= .d (.bool (!(decide (Ty.AQ l<=L)&&Bo data vars l)))/\σ'=Y.AL i (vb data vars L')/\((decide (Ty.AQ l<=L)&&Bo data vars l)=true->L'=((L - Ty.AQ l:Nat):Int))):=by
 refine Gt (by simp) ?_;rw [BD,N5];(repeat' (first|refine ctQ rfl ?_|((first|refine rgQ mxQ ?_|refine cdQ ?_|(refine AI.mk rfl (ALA hV l Y hL hi hj hij) ?_;rintro _ _ ⟨r,L',rfl,rfl,hr,hL'⟩)|(refine Ae rfl (fun h=>?_) (fun h=>?_)<;>try (cases h;done)))<;>try simp only [go_sem])|(refine ⟨fun h=>?_,fun h=>?_⟩<;>first|(cases h;done)|try simp only [h])|fail));simp only [hr,go_sem];(repeat' (first|refine ctQ rfl ?_|((first|refine rgQ mxQ ?_|refine cdQ ?_|refine Run.qR Gn ?_|(refine Ae rfl (fun h=>?_) (fun h=>?_)<;>try (cases h;done)))<;>try simp only [go_sem])|(refine ⟨fun h=>?_,fun h=>?_⟩<;>first|(cases h;done)|try simp only [h])|fail))
 have hfin:(decide (Ty.AQ l<=L)&&Bo data vars l)=true->L'=((L - Ty.AQ l:Nat):Int):=fun h=>hL' (by
  rw [h] at hr;simp at hr;omega)
 first
 |exact ⟨L',rfl,rfl,hfin⟩
 |exact ⟨L',rfl,hfin⟩
 |exact ⟨L',hfin⟩
def zE {Y:AH} {i j:Nat} {x:List AV} (hj:Y.blk j=none) (hij:j≠i):(Y.AL i cs).le ((Y.AL j x).AL i cs):=
 ⟨fun q ds hq=>by
   simp only [AJ] at hq ⊢;split
   . rename_i e;rw [if_pos e] at hq;exact hq
   . rename_i e;rw [if_neg e] at hq;have:q≠j:=fun e'=>by rw [e',hj] at hq;cases hq
     rw [if_neg this];exact hq,fun _ h=>h,rfl,fun _ _ h=>h⟩
def ATE (data:List Dat) (vars:Int) (i:Nat) (L:Nat):L<=1000000->VOK data vars i L:=by
 induction L using Cc with
 |_ L ih=>
  intro hLm t Y hi;obtain ⟨kd,nm,l⟩:=t;have hpos:=uF (.mk kd nm l);have hsz:(Ty.mk kd nm l).size=1+Ty.AQ l:=rfl;refine Sb (by simp) ?_;rw [BD];unfold vb dsA at hi;(repeat' (first|refine ctQ rfl ?_|((first|refine rgQ mxQ ?_|refine cdQ ?_|(refine Ae rfl (fun h=>?_) (fun h=>?_)<;>try (cases h;done)))<;>try simp only [go_sem])|(refine ⟨fun h=>?_,fun h=>?_⟩<;>first|(cases h;done)|try simp only [h])|fail));intro j hj;have hij:j≠i:=fun e=>by rw [e,hi] at hj;cases hj
  have n1:(i=j)=False:=by simp;exact fun e=>hij e.symm
  have n2:(j=i)=False:=by simp;exact hij
  cases L with
  |zero=>
   have hw:IntKind.i64.wrap (((0:Nat):Int) - 1)=-1:=by decide
   have hc:decide ((-1:Int) < 0)=true:=by decide
   (repeat' (first|refine ctQ rfl ?_|((first|refine rgQ mxQ ?_|refine cdQ ?_|(refine Run.Bg CQ (zE hj hij) ?_)|(refine Ae rfl (fun h=>?_) (fun h=>?_)<;>try (cases h;done)))<;>try simp only [hi,n1,n2,hw,hc,go_sem])|(refine ⟨fun h=>?_,fun h=>?_⟩<;>first|(cases h;done)|try simp only [h])|fail));refine ⟨false,-1,rfl,rfl,?_,fun h=>by cases h⟩;have:¬(Ty.mk kd nm l).size<=0:=by omega
   simp [this]
  |succ L=>
  have hw:=M1 (show L<=9000000000000000000 by omega);have hc:decide ((L:Int) < 0)=false:=by simp
  have hV:∀m,m<=L->VOK data vars i m:=fun m hm=>ih m (by omega) (by omega);have hcall:=zI hV l ((Y.AL j [.gp i 0]).AL i (vb data vars (L:Int))) (j:=j) (by omega) (by simp only [AJ,if_true]) (by simp only [AJ,n2,if_false,if_true]) hij;simp only [Dr] at hcall
  have hno:∀L':Int,Cd data vars kd nm l.length=false->VQ data vars i (L+1) (.mk kd nm l) Y (.d (.bool false)) (Y.AL i (vb data vars L')):=fun L' h=>
   ⟨false,L',rfl,rfl,by simp [CH,h],fun h=>by cases h⟩
  have hyes:∀(b:Bool) (L':Int),Cd data vars kd nm l.length=true->b=(decide (Ty.AQ l<=L)&&Bo data vars l)->(b=true->L'=((L - Ty.AQ l:Nat):Int))->VQ data vars i (L+1) (.mk kd nm l) Y (.d (.bool b)) (Y.AL i (vb data vars L')):=fun b L' h hb hL'=>by
   refine ⟨b,L',rfl,rfl,?_,fun hbt=>?_⟩
   . rw [hb,CH,h,Bk,hsz];congr 1;simp;omega
   . rw [hL' hbt,hsz];congr 1;omega
  unfold vb dsA at hcall;(repeat' (first|refine Run.cb rfl ?_|((first|refine rgQ mxQ ?_|refine cdQ ?_|(refine Ae rfl (fun h=>?_) (fun h=>?_)<;>try (cases h;done)))<;>try simp only [hi,n1,n2,hw,hc,go_sem])|(refine ⟨fun h=>?_,fun h=>?_⟩<;>first|(cases h;done)|try simp only [h])|fail));refine Run.tail (fun F M τ=>∃lo hi:Int,Cd data vars kd nm l.length=(decide (kd=4\/kd=5\/nm=0)&&decide (lo<=(l.length:Int))&&decide ((l.length:Int)<=hi))/\Gw [2,3,5,6] F=put 2 (.gp j 0) (put 3 (.lp 3 0) (put 5 (.d (.int .i64 lo)) (put 6 (.d (.int .i64 hi)) U)))/\Fp [2,3,5,6] M=At 3 [.d (.int .i64 kd),.d (.int .i64 nm),.d (.sl (Ty.HE l))] E/\τ=(Y.AL j [.gp i 0]).AL i (vb data vars (L:Int))) ?_ ?_
  . rintro F M τ ⟨lo,hi',hs,hF,hM,rfl⟩;refine Run.JP [2,3,5,6] ?_;rw [hF,hM];unfold vb dsA;(repeat' (first|refine ctQ rfl ?_|(refine QJ (by first|exact GV.t|exact GV.f|exact GV.st|exact GV.sf) ⟨?_,fun h=>?_,?_⟩;rotate_left;(focus ((try simp only [AO] at h);simp only [go_sem];first|exact Is.mk|exact Is.pv (by simp only [h,UM,D0,go_sem];rfl)));(try simp only [↓LA,↓WB,go_sem]))|((first|refine rgQ mxQ ?_|refine cdQ ?_|(refine AI.mk rfl hcall ?_;rintro _ _ ⟨L',rfl,rfl,hL'⟩)|(refine Run.Bg CQ (zE hj hij) ?_)|(refine Ae rfl (fun h=>?_) (fun h=>?_)<;>try (cases h;done)))<;>try simp only [D0,go_sem])|(refine ⟨fun h=>?_,fun h=>?_⟩<;>first|(cases h;done)|try simp only [h])|fail))
    . refine hno _ ?_;simp only [AO,bne_iff_ne] at h;rw [hs];simp [h]
    . refine hno _ ?_;simp only [Cb,decide_eq_true_eq] at h;rw [hs];rcases h with h|h
      . simp [show ¬lo<=(l.length:Int) by omega]
      . simp [show ¬(l.length:Int)<=hi' by omega]
    . refine hyes _ L' ?_ rfl hL';have h1:(kd != 4&&kd != 5&&nm != 0)=false:=by assumption
      simp only [CY,decide_eq_false_iff_not] at h;rw [hs,decide_eq_true (show lo<=(l.length:Int) by omega),decide_eq_true (show (l.length:Int)<=hi' by omega)];simp only [Vo,bne_eq_false_iff_eq] at h1;simp;omega
  . intro k hT;by_cases h9:1<=kd/\kd<=9
    . have h9:kd=4\/kd=5\/kd=1\/kd=2\/kd=3\/kd=6\/kd=7\/kd=8\/kd=9:=by omega
      rcases h9 with rfl|rfl|h9
      . (repeat' (first|refine ctQ rfl ?_|(refine QJ (by first|exact GV.t|exact GV.f|exact GV.st|exact GV.sf) ⟨?_,fun h=>?_,?_⟩;rotate_left;(focus ((try simp only [AO,N6] at h);simp only [n2,go_sem];first|exact Is.mk|exact Is.pv (by simp only [h,UM,hi,n1,go_sem];rfl)));(try simp only [↓WB,go_sem]))|((first|refine rgQ mxQ ?_|refine cdQ ?_|(refine Run.Bg CQ (zE hj hij) ?_)|(refine Ae rfl (fun h=>?_) (fun h=>?_)<;>try (cases h;done)))<;>try simp only [Aa,go_sem])|(refine ⟨fun h=>?_,fun h=>?_⟩<;>first|(cases h;done)|try simp only [h])|fail))
        . refine hno _ ?_;simp only [Cb,decide_eq_true_eq] at h;rcases h with h|h
          . simp [Cd,show ¬0<=nm by omega]
          . simp [Cd,show ¬nm < vars by omega]
        . simp only [CY,decide_eq_false_iff_not] at h;refine hT _ _ _ ⟨0,0,?_,by simp only [go_sem],by simp only [go_sem],rfl⟩;rw [Ak];simp [Cd];omega
      . by_cases hn:nm < 0
        . (repeat' (first|refine ctQ rfl ?_|((first|refine rgQ mxQ ?_|refine cdQ ?_|(refine Run.Bg CQ (zE hj hij) ?_)|(refine Ae rfl (fun h=>?_) (fun h=>?_)<;>try (cases h;done)))<;>try simp only [Aa,decide_eq_true hn,go_sem])|(refine ⟨fun h=>?_,fun h=>?_⟩<;>first|(cases h;done)|try simp only [h])|fail));exact hno _ (by simp [Cd,show ¬0<=nm by omega])
        obtain ⟨p,rfl⟩:∃p:Nat,nm=p:=⟨nm.toNat,by omega⟩;by_cases hp:p < data.length
        . obtain ⟨d,hd⟩:=Ai hp;have hd':=Um hd;(repeat' (first|refine ctQ rfl ?_|((first|refine rgQ mxQ ?_|refine cdQ ?_|(refine Ae rfl (fun h=>?_) (fun h=>?_)<;>try (cases h;done)))<;>try simp only [hi,n1,n2,Aa,decide_eq_false hn,AA,leF hp,hd',go_sem])|(refine ⟨fun h=>?_,fun h=>?_⟩<;>first|(cases h;done)|try simp only [h])|fail));refine hT _ _ _ ⟨d.vars,d.vars,?_,by simp only [go_sem],by simp only [go_sem],rfl⟩;rw [Ak];simp [Cd,hd];omega
        . (repeat' (first|refine ctQ rfl ?_|((first|refine rgQ mxQ ?_|refine cdQ ?_|(refine Run.Bg CQ (zE hj hij) ?_)|(refine Ae rfl (fun h=>?_) (fun h=>?_)<;>try (cases h;done)))<;>try simp only [hi,n1,n2,Aa,decide_eq_false hn,AA,leT hp,go_sem])|(refine ⟨fun h=>?_,fun h=>?_⟩<;>first|(cases h;done)|try simp only [h])|fail));have:data[p]?=none:=BM (by omega);exact hno _ (by simp [Cd,this])
      . have hq:∀(lo hi:Int) F M τ,Gw [2,3,5,6] F=put 2 (.gp j 0) (put 3 (.lp 3 0) (put 5 (.d (.int .i64 lo)) (put 6 (.d (.int .i64 hi)) U)))->Fp [2,3,5,6] M=At 3 [.d (.int .i64 kd),.d (.int .i64 nm),.d (.sl (Ty.HE l))] E->τ=(Y.AL j [.gp i 0]).AL i (vb data vars (L:Int))->(kd=1\/kd=2\/kd=3->lo=0/\hi=0)->(kd=6->lo=2/\hi=6)->(kd=7\/kd=8->lo=1/\hi=1)->(kd=9->lo=1/\hi=7)->Run DO (VQ data vars i (L+1) (.mk kd nm l) Y) k F M τ:=fun lo hi F M τ p1 p2 p3 q1 q2 q3 q4=>by
         refine hT _ _ _ ⟨lo,hi,?_,p1,p2,p3⟩;rw [Ak];generalize l.length=n;rcases h9 with rfl|rfl|rfl|rfl|rfl|rfl|rfl<;>simp [Cd] at q1 q2 q3 q4 ⊢<;>omega
        rcases h9 with rfl|rfl|rfl|rfl|rfl|rfl|rfl
        all_goals
         (repeat' (first|refine ctQ rfl ?_|((first|refine rgQ mxQ ?_|refine cdQ ?_|(refine Ae rfl (fun h=>?_) (fun h=>?_)<;>try (cases h;done)))<;>try simp only [Aa,go_sem])|(refine ⟨fun h=>?_,fun h=>?_⟩<;>first|(cases h;done)|try simp only [h])|fail))
         first
          |exact hq 0 0 _ _ _ (by simp only [go_sem]) (by simp only [go_sem]) rfl (by decide) (by decide) (by decide) (by decide)
          |exact hq 1 1 _ _ _ (by simp only [go_sem]) (by simp only [go_sem]) rfl (by decide) (by decide) (by decide) (by decide)
          |exact hq 2 6 _ _ _ (by simp only [go_sem]) (by simp only [go_sem]) rfl (by decide) (by decide) (by decide) (by decide)
          |exact hq 1 7 _ _ _ (by simp only [go_sem]) (by simp only [go_sem]) rfl (by decide) (by decide) (by decide) (by decide)
    . (repeat' (first|refine ctQ rfl ?_|((first|refine rgQ mxQ ?_|refine cdQ ?_|(refine Run.Bg CQ (zE hj hij) ?_)|(refine Ae rfl (fun h=>?_) (fun h=>?_)<;>try (cases h;done)))<;>try simp only [Cf (show kd≠1 by omega),Cf (show kd≠2 by omega),Cf (show kd≠3 by omega),Cf (show kd≠4 by omega),Cf (show kd≠5 by omega),Cf (show kd≠6 by omega),Cf (show kd≠7 by omega),Cf (show kd≠8 by omega),Cf (show kd≠9 by omega),go_sem])|(refine ⟨fun h=>?_,fun h=>?_⟩<;>first|(cases h;done)|try simp only [h])|fail));refine hno _ ?_;unfold Cd;rw [if_neg (by omega),if_neg (by omega),if_neg (by omega),if_neg (by omega),if_neg (by omega),if_neg (by omega)]
def o5 (data:List Dat) (t:Ty) (vars:Int) (Y:AH):AR Tzp 65 [dsA data,tyA t,.d (.int .i64 vars)] Y (fun v σ'=>v= .d (.bool (decide (t.size<=200)&&CH data vars t))/\σ'=Y):=by
 obtain ⟨kd,nm,l⟩:=t;refine rU (by simp) ?_;rw [DK,dsA];(repeat' (first|refine ctQ rfl ?_|((first|refine rgQ mxQ ?_|refine cdQ ?_|(refine Ae rfl (fun h=>?_) (fun h=>?_)<;>try (cases h;done)))<;>try simp only [go_sem])|(refine ⟨fun h=>?_,fun h=>?_⟩<;>first|(cases h;done)|try simp only [h])|fail));intro j hj;have hcall:=ATE data vars j 200 (by omega) (.mk kd nm l) (Y.AL j (vb data vars (200:Nat))) (by simp only [AJ,if_true]);(repeat' (first|refine ctQ rfl ?_|((first|refine rgQ mxQ ?_|refine cdQ ?_|(refine AI.mk rfl hcall ?_;rintro _ _ ⟨b,L',rfl,rfl,hb,_⟩)|(refine Run.Bg Xr (σ2:=Y) (EC (AH.le_refl _) hj) ?_)|(refine Ae rfl (fun h=>?_) (fun h=>?_)<;>try (cases h;done)))<;>try simp only [go_sem])|(refine ⟨fun h=>?_,fun h=>?_⟩<;>first|(cases h;done)|try simp only [h])|fail));rw [hb]
def Fz (fs:List FE):Nat->List (Ex×List Str)->List (Nat×Int)
 |_,[]=>[]
 |k,x::l=>if x.1.op=4/\(x.1.name=[]\/x.1.name ∉ x.2) then (k,(match fs.findIdx? (fun f=>f.name==x.1.name) with|some i=>(i:Int)|none=>-1))::Fz fs (k+1) l else Fz fs (k+1) l
def kZ (fs:List FE):∀(l m:List (Ex×List Str)) (k:Nat),Fz fs k (l++m)=Fz fs k l++Fz fs (k+l.length) m
 |[],m,k=>rfl
 |x::l,m,k=>by
  simp only [AX,Fz,A0];rw [kZ fs l m (k+1),show k+1+l.length=k+(l.length+1) from by omega];split<;>rfl
def UB (fs:List FE):∀(l:List (Ex×List Str)) (k:Nat),(Fz fs k l).length<=l.length/\∀y∈Fz fs k l,k<=y.1/\y.1 < k+l.length
 |[],k=>⟨AS _,fun y hy=>by cases hy⟩
 |x::l,k=>by
  obtain ⟨h1,h2⟩:=UB fs l (k+1);simp only [Fz];split
  . refine ⟨by simp;omega,fun y hy=>?_⟩;rcases Az.1 hy with rfl|hy
    . simp
    . have:=h2 y hy;simp only [A0];omega
  . refine ⟨by simp;omega,fun y hy=>?_⟩;have:=h2 y hy;simp only [A0];omega
def tB (fs:List FE) (fe:FE):List (Nat×Int):=Fz fs 0 (Ca fe.body fe.params)
def oF (vs:List Nat) (k:Nat):List (Int×Int):=(vs.zipIdx k).map fun p=>((p.1:Int),(p.2:Int))
def Cg (vs:List Nat):List (Int×Int):=oF vs 0
def PN (v:Nat) (vs:List Nat) (k:Nat):oF (v::vs) k=((v:Int),(k:Int))::oF vs (k+1):=by simp [oF,List.zipIdx_cons]
def yM (v:Nat):∀(vs:List Nat) (k:Nat),oF (vs++[v]) k=oF vs k++[((v:Int),((k+vs.length:Nat):Int))]
 |[],k=>by simp [oF]
 |u::vs,k=>by
  rw [AX,PN,yM v vs (k+1),PN,AX];simp only [A0];rw [show k+1+vs.length=k+(vs.length+1) from by omega]
def ANX (v:Nat) (vs:List Nat):Cg (vs++[v])=Cg vs++[((v:Int),(vs.length:Int))]:=by
 rw [Cg,yM];simp [Cg]
def AEB (vs:List Nat):(Cg vs).length=vs.length:=by simp [Cg,oF]
def yL {v:Nat}:∀ {vs:List Nat} (k:Nat),v ∉ vs->(oF vs k).lookup (v:Int)=none
 |[],k,_=>rfl
 |u::vs,k,h=>by
  rw [PN,List.lookup_cons]
  have h1:((v:Int)==(u:Int))=false:=by
   have:v≠u:=fun e=>h (by rw [e];exact AW);rw [beq_eq_false_iff_ne];omega
  rw [h1];exact yL (k+1) fun hm=>h (AU _ hm)
def yN {n:Int} {x:Int}:∀ {vs:List Nat} {k:Nat},(oF vs k).lookup n=some x->∃i:Nat,x=((k+i:Nat):Int)/\∃v,vs[i]?=some v/\n=(v:Int)
 |[],k,h=>by simp [oF] at h
 |u::vs,k,h=>by
  rw [PN,List.lookup_cons] at h;by_cases e:n=(u:Int)
  . subst e;simp only [beq_self_eq_true,AM] at h;exact ⟨0,by omega,u,rfl,rfl⟩
  . have:(n==(u:Int))=false:=by simpa using e
    rw [this] at h;obtain ⟨i,h1,v,h2,h3⟩:=yN h;exact ⟨i+1,by omega,v,by simpa using h2,h3⟩
def kP {n x:Int} {vs:List Nat} (h:(Cg vs).lookup n=some x):∃i:Nat,x=(i:Int)/\∃v,vs[i]?=some v/\n=(v:Int):=by
 obtain ⟨i,h1,h2⟩:=yN h;exact ⟨i,by omega,h2⟩
def ANW {v:Nat} {vs:List Nat} (h:v ∉ vs):(Cg vs).lookup (v:Int)=none:=yL 0 h
structure UI (l:List Nd) (N:Nat) (s:List Bool×List Nat):Prop where
 nd:s.2.Nodup
 sn:∀r∈s.2,s.1[r]?=some true
 rt:∀r∈s.2,∃x,l[r]?=some x/\x.p=r/\x.k=0
 bd:s.2.length+fz s.1<=N
def AFC {l:List Nd} {N:Nat} (hg:ER l):∀(k:Nat) (s:List Bool×List Nat) (n:Nat),s.1.length=l.length->n < l.length->UI l N s->UI l N (I0 l k s n)/\(I0 l k s n).1.length=l.length
 |0,s,n,hl,_,h=>⟨h,hl⟩
 |k+1,s,n,hl,hn,h=>by
  rw [I0];obtain ⟨x,Z,hp⟩:=hg.root hn;split
  . rename_i h0;have hz:=AG8 h0;have hrl:rtN l n < s.1.length:=(AE.1 h0).1
    have hf:∀(us:List Nat) (q:List Bool×List Nat),(∀a∈us,a < l.length)->q.1.length=l.length->UI l N q->UI l N (us.foldl (fun s a=>I0 l k s a) q)/\(us.foldl (fun s a=>I0 l k s a) q).1.length=l.length:=by
     intro us
     induction us with
     |nil=>intro q _ hq h;exact ⟨h,hq⟩
     |cons a us ih=>
      intro q hu hq h;rw [Au];have:=AFC hg k q a hq (hu a (AW)) h;exact ih _ (fun b hb=>hu b (AU _ hb)) this.2 this.1
    simp only [Z,Ac,BA];refine hf _ _ (hg.ar _ x Z) (by simp [hl]) ?_
    have hset:∀r∈s.2,(s.1.set (rtN l n) true)[r]?=some true:=fun r hr=>by
     by_cases e:rtN l n=r
     . rw [<- e,BK hrl]
     . rw [BJ e];exact h.sn r hr
    split
    . rename_i hk;have hk:x.k=0:=by simpa using hk
      refine ⟨?_,fun r hr=>?_,fun r hr=>?_,by simp only [AY,Bm];have:=h.bd;omega⟩
      . refine G6.2 ⟨h.nd,by simp,fun a ha b hb=>?_⟩;simp only [A3] at hb;subst hb;intro e;subst e;have:=h.sn _ ha;rw [h0] at this;cases this
      . rcases AZ.1 hr with hr|hr
        . exact hset r hr
        . simp only [A3] at hr;subst hr;exact BK hrl
      . rcases AZ.1 hr with hr|hr
        . exact h.rt r hr
        . simp only [A3] at hr;subst hr;exact ⟨x,Z,hp,hk⟩
    . exact ⟨h.nd,hset,h.rt,by simp only;have:=h.bd;omega⟩
  . exact ⟨h,hl⟩
def gY {l:List Nd} (hg:ER l) {ts:List Nat} (ht:∀a∈ts,a < l.length):(AFB l ts).Nodup/\(AFB l ts).length<=l.length/\∀r∈AFB l ts,∃x,l[r]?=some x/\x.p=r/\x.k=0:=by
 have hf:∀(us:List Nat) (q:List Bool×List Nat),(∀a∈us,a < l.length)->q.1.length=l.length->UI l l.length q->UI l l.length (us.foldl (fun s a=>I0 l (l.length+1) s a) q):=by
  intro us
  induction us with
  |nil=>intro q _ _ h;exact h
  |cons a us ih=>
   intro q hu hq h;rw [Au];have:=AFC hg (l.length+1) q a hq (hu a (AW)) h;exact ih _ (fun b hb=>hu b (AU _ hb)) this.2 this.1
 have:=hf ts (AG l.length false,[]) ht (by simp) ⟨by simp,by simp,by simp,by have:=AG7 l.length;simp only [Bw];omega⟩;exact ⟨this.nd,by have:=this.bd;unfold AFB;omega,this.rt⟩
end Go.Ab
