/- Part Nc. Conditions: none. -/
import Derived.Test.YtfppaadffckcoaaGreatXVe
set_option linter.unusedSimpArgs false
set_option linter.unusedVariables false
set_option maxRecDepth 100000
set_option maxHeartbeats 40000000
open Go.Proofs.Tryz renaming prog→Tzp
open List renaming getElem?_cons_zero→Av,drop_length_add_append→HF,getElem?_eq_some_iff→AF,eq_nil_of_length_eq_zero→Ay,length_map→AA,take_zero→C7,mem_of_getElem?→AD,foldl_append→Cb,foldl_cons→An,take_of_length_le→AO,getElem?_map→Ao,mem_cons→As,cons_append→AX,length_cons→A0,take_append_drop→Ac,map_cons→AG,map_nil→AN,map_append→B2,take_length→BM,take_succ_cons→C3,drop_succ_cons→FD,drop_zero→Re,replicate→AE,replicate_succ→BV,flatten_cons→BK,range'→A8,append_nil→BX,set_cons_zero→K5,set_cons_succ→CH,countP_cons→Fk,range→Au,countP_le_length→UL,mem_cons_self→AW,mem_cons_of_mem→AU,getElem?_set→BZ,getElem?_set_self→BE,sum_cons→Et,map_congr_left→FF,getElem?_replicate→QE,length_append→A1,getElem?_append_left→BH,getElem?_append_right→At,take_length_add_append→YJ,mem_append→AY,mem_singleton→A3,getElem_of_mem→Bn,getElem_mem→HR,mem_map→Ck,mem_range'_1→Rf,getD_eq_getElem?_getD→A6
open Option.some renaming injEq→AK
open Ne renaming symm→A5
open Nat renaming le_refl→AR,le_trans→Ah,mul_one→A2,reduceEqDiff→HS,add_mul→CA,zero_mul→NO,zero_add→BU,lt_of_lt_of_le→CJ
open Int renaming eq_ofNat_of_zero_le→E4,toNat_natCast→Ca
open Option renaming bind_eq_bind→AP,bind_some→HT,map_some→Ad,getD_some→Az,isSome_none→Cm
open Bool renaming false_eq_true→AZ,not_false→JI,true_and→BW
namespace Go.Ab
open Go.Proofs
def UNQ (σ:AH) (i:Nat) (l:List Nd) (rest:List AV) (j:Nat) (s:SS) (σ':AH):Prop:=(∃j',SN σ' i s.1 s.2 rest j'/\Fr σ i l j σ' s.1 j')/\rts s.1<=rts l
theorem ER.root {l:List Nd} (h:ER l) {a:Nat} (ha:a < l.length):∃x,l[rtN l a]?=some x/\x.p=rtN l a:=by
 have hl:l[a]?=some l[a]:=by simp [ha]
 obtain ⟨z,hz,hp⟩:=h.p a _ hl;rw [LJ hl];exact ⟨z,hz,hp⟩
theorem y0:∀ {l:List Nd} {i:Nat} {x:Nd},l[i]?=some x->((ndC l).drop (i * 4)).take 3=[.d (.int .i64 x.k),.d (.int .i64 x.n),.d (.sl (x.ar.map CC))]
 |y::l,0,x,h=>by
  simp only [Av,AK] at h;subst h;rfl
 |y::l,i+1,x,h=>by
  have:=y0 (l:=l) (i:=i) (x:=x) (by simpa using h);rw [show ndC (y::l)=y.row++ndC l from by simp [ndC],show (i+1) * 4=y.row.length+i * 4 from by simp [Nd.row];omega,HF];exact this
theorem AHG {l:List Nd} {i:Nat} {x:Nd} (h:l[i]?=some x):(i * 4+3<=(ndC l).length)=True:=by
 have:=(AF.1 h).1;rw [Tb];simp;omega
theorem SN.uni {σ:AH} {i j a b:Nat} {l c:List Nd} {fl:Bool} {rest:List AV} {x y xc:Nd} (h:SN σ i l fl rest j) (hrep:Rep l c) (hbj:σ.blk j=some (ndC c)) (hji:j≠i) (hx:l[a]?=some x) (hxp:x.p=a) (hy:l[b]?=some y) (hyp:y.p=b) (hab:a≠b) (hxc:c[a]?=some xc):
 SN (σ.AM j (ndC (c.set a { xc with p:=b}))) i (OW a b l) fl rest j/\Fr σ i l j (σ.AM j (ndC (c.set a { xc with p:=b}))) (OW a b l) j:=by
 have hl0:l≠[]:=fun e=>by rw [e] at hx;simp at hx
 have hu0:OW a b l≠[]:=fun e=>hl0 (Ay (by rw [<- LO a b l,e];rfl));refine ⟨⟨?_,h.Gw.uni hy hyp hab,fun _=>⟨hji,_,hrep.uni hx hxp hy hyp hab hxc,BQ⟩⟩,⟨fun k _ hk _=>by rw [AI,if_neg (hk hl0)],fun hn=>by rw [AI,if_neg (A5 hji)];exact hn,fun _=>.inl ⟨hl0,rfl⟩,rfl,fun _ h=>h,fun _ _ h=>h⟩⟩;rw [AI,if_neg (A5 hji),h.blk,Eo hl0,Eo hu0,LO]
theorem SN.fail {σ:AH} {i j:Nat} {l:List Nd} {fl:Bool} {rest:List AV} (h:SN σ i l fl rest j):
 SN (σ.AM i (ndV l j::.d (.bool true)::rest)) i l true rest j/\Fr σ i l j (σ.AM i (ndV l j::.d (.bool true)::rest)) l j:=by
 refine ⟨⟨BQ,h.Gw,fun hl=>?_⟩,⟨fun k hk _ _=>by rw [AI,if_neg hk],fun _=>by simp [AI],fun hl=>.inl ⟨hl,rfl⟩,rfl,fun _ h=>h,fun _ _ h=>h⟩⟩;obtain ⟨hji,c,hr,hb⟩:=h.nd hl;exact ⟨hji,c,hr,by rw [AI,if_neg hji];exact hb⟩
theorem CL (i:Nat) (rest:List AV):∀(k:Nat) (l:List Nd) (fl:Bool) (j a b:Nat) (σ:AH),rts l<=k->SN σ i l fl rest j->a < l.length->b < l.length->l.length<=900000000->
 AS Tzp 58 [.gp i 0,nA a,nA b] σ (fun _ σ'=>UNQ σ i l rest j (K0 k (l,fl) a b) σ'):=by
 intro k
 induction k with
 |zero=>
  intro l fl j a b σ hk h ha hb hl;obtain ⟨x,hx,hp⟩:=h.Gw.root ha;have:=ALI hx hp;omega
 |succ k ihk=>
 intro l fl j a b σ hk h ha hb hl;have hl0:l≠[]:=fun e=>by rw [e] at ha;cases ha
 have hbi0:σ.blk i≠none:=by rw [h.blk];simp
 obtain ⟨x,hx,hxp⟩:=h.Gw.root ha;obtain ⟨y,hy,hyp⟩:=h.Gw.root hb;generalize hra:rtN l a=ra at hx hxp;generalize hrb:rtN l b=rb at hy hyp;generalize hQ:UNQ σ i l rest j (K0 (k+1) (l,fl) a b)=Q;refine Ul (by simp) ?_;rw [D6];simp only [nA];(repeat' (first|refine ctQ rfl ?_|((first|refine rgQ mxQ ?_|refine cdQ ?_|refine Run.qP B7 ?_|(refine A9 rfl (fun h=>?_) (fun h=>?_)<;>try (cases h;done)))<;>try simp only [go_sem])|(refine ⟨fun h=>?_,fun h=>?_⟩<;>first|(cases h;done)|try simp only [h])|fail));refine AJ.mk rfl (HB i j l fl rest σ a h ha hl) ?_;rintro _ σ1 ⟨rfl,j1,h1,f1⟩;simp only [nA,hra];simp only [go_sem];refine AJ.mk rfl (HB i j1 l fl rest σ1 b h1 hb hl) ?_;rintro _ σ2 ⟨rfl,j2,h2,f2⟩;simp only [nA,hrb];have f12:=f1.trans f2 hbi0;clear f1 f2 h1;simp only [go_sem];by_cases hab:ra=rb
 . subst hab;(repeat' (first|refine ctQ rfl ?_|((first|refine rgQ mxQ ?_|refine cdQ ?_|refine Run.qP B7 ?_|(refine A9 rfl (fun h=>?_) (fun h=>?_)<;>try (cases h;done)))<;>try simp only [beq_self_eq_true,go_sem])|(refine ⟨fun h=>?_,fun h=>?_⟩<;>first|(cases h;done)|try simp only [h])|fail));rw [<- hQ,K0,hra,hrb,if_pos rfl];exact ⟨⟨j2,h2,f12⟩,AR _⟩
 . have hbq:((ra:Int)==(rb:Int))=false:=by simpa using fun e=>hab (by omega)
   (repeat' (first|refine ctQ rfl ?_|((first|refine rgQ mxQ ?_|refine cdQ ?_|refine Run.qP B7 ?_|(refine A9 rfl (fun h=>?_) (fun h=>?_)<;>try (cases h;done)))<;>try simp only [hbq,go_sem])|(refine ⟨fun h=>?_,fun h=>?_⟩<;>first|(cases h;done)|try simp only [h])|fail));obtain ⟨hji,c,hrep,hbj⟩:=h2.nd hl0;have hbi:=h2.blk;rw [Eo hl0] at hbi;obtain ⟨xc,hxc,xk,xn,xa⟩:=hrep.at hx;obtain ⟨yc,hyc,yk,yn,ya⟩:=hrep.at hy;have hxt:=y0 hxc;have hyt:=y0 hyc;have hxl:=AHG hxc;have hyl:=AHG hyc;rw [xk,xn,xa] at hxt;rw [yk,yn,ya] at hyt;have hla:=ltT (AF.1 hx).1;have hlb:=ltT (AF.1 hy).1;refine Run.J5 mixed ?_;simp only [hbi,hbj,hxt,hyt,hxl,hyl,hla,hlb,go_sem];have hxw:=AAD hxc rb;have hyw:=AAD hyc ra;have hxs:(ra * 4+3+1<=(ndC c).length)=True:=by have:=(AF.1 hxc).1;rw [Tb];simp;omega
   have hys:(rb * 4+3+1<=(ndC c).length)=True:=by have:=(AF.1 hyc).1;rw [Tb];simp;omega
   obtain ⟨hu1,hu2⟩:=h2.uni hrep hbj hji hx hxp hy hyp hab hxc;obtain ⟨hv1,hv2⟩:=h2.uni hrep hbj hji hy hyp hx hxp (A5 hab) hyc;obtain ⟨hf1,hf2⟩:=h2.fail;rw [Eo hl0] at hf1 hf2;have hru:=ABJ hx hxp hy hyp hab;have hrv:=ABJ hy hyp hx hxp (A5 hab);rw [K0] at hQ;simp only [hra,hrb,if_neg hab,hx,hy] at hQ;by_cases hx0:x.k=0
   . have hb:(x.k==0)=true:=by simpa using hx0
     rw [if_pos hx0] at hQ;(repeat' (first|refine ctQ rfl ?_|((first|refine rgQ mxQ ?_|refine cdQ ?_|refine Run.qP B7 ?_|(refine A9 rfl (fun h=>?_) (fun h=>?_)<;>try (cases h;done)))<;>try simp only [hb,hbi,hbj,hla,hxs,hxw,go_sem])|(refine ⟨fun h=>?_,fun h=>?_⟩<;>first|(cases h;done)|try simp only [h])|fail));rw [<- hQ];exact ⟨⟨j2,hu1,f12.trans hu2 hbi0⟩,Nat.le_of_lt hru⟩
   have hb:(x.k==0)=false:=by simpa using hx0
   rw [if_neg hx0] at hQ;by_cases hy0:y.k=0
   . have hb':(y.k==0)=true:=by simpa using hy0
     rw [if_pos hy0] at hQ;(repeat' ((first|refine wQ mxQ rfl ?_|refine Run.qP B7 ?_|fail)<;>try simp only [hb,hb',hbi,hbj,hlb,hys,hyw,go_sem]));rw [<- hQ];exact ⟨⟨j2,hv1,f12.trans hv2 hbi0⟩,Nat.le_of_lt hrv⟩
   have hb':(y.k==0)=false:=by simpa using hy0
   rw [if_neg hy0] at hQ;by_cases hsm:x.k=y.k/\x.n=y.n/\x.ar.length=y.ar.length
   . obtain ⟨e1,e2,e3⟩:=hsm;have b1:(x.k != y.k)=false:=by simpa using e1
     have b2:(x.n != y.n)=false:=by simpa using e2
     have b3:((x.ar.length:Int) != (y.ar.length:Int))=false:=by simp [e3]
     rw [if_pos ⟨e1,e2,e3⟩] at hQ;(repeat' ((first|refine wQ mxQ rfl ?_|refine Run.qP B7 ?_|fail)<;>try simp only [hb,hb',b1,b2,b3,hbi,hbj,hla,hxs,hxw,AA,go_sem]));refine Run.cell 6 2 rfl rfl (fun hsl=>?_);simp only [AV.FU,AA] at hsl;refine Run.BB ?_;have hzl:(x.ar.zip y.ar).length=x.ar.length:=by simp [<- e3]
     have hlen:∀p,(((x.ar.zip y.ar).take p).foldl (fun s q=>K0 k s q.1 q.2) (OW ra rb l,fl)).1.length=l.length:=fun p=>by
      rw [bH (fun (s:SS) (x:Nat×Nat)=>K0 k s x.1 x.2) (fun s x=>cV k s x.1 x.2)];exact LO _ _ _
     refine Run.BG ((fun (a0:AV) (a6:AV) (a7:AV) (a93:AV)=>fun (z:Nat×AH)=>put 0 a0 (put 6 a6 (put 7 a7 (put 93 a93 (put 94 (.d (.int .i64 z.1)) U))))) _ _ _ _) (fun _=>Ar 6 [.d (.int .i64 x.k),.d (.int .i64 x.n),.d (.sl (x.ar.map CC))] (Ar 7 [.d (.int .i64 y.k),.d (.int .i64 y.n),.d (.sl (y.ar.map CC))] E)) (fun z=>z.2)
      (fun z=>z.1<=x.ar.length/\UNQ σ i l rest j (((x.ar.zip y.ar).take z.1).foldl (fun s q=>K0 k s q.1 q.2) (OW ra rb l,fl)) z.2/\rts (((x.ar.zip y.ar).take z.1).foldl (fun s q=>K0 k s q.1 q.2) (OW ra rb l,fl)).1<=k)
      (fun z=>x.ar.length - z.1) ?_ (0,_) ⟨by simp,⟨⟨j2,hu1,f12.trans hu2 hbi0⟩,Nat.le_of_lt hru⟩,by simp only [C7,List.foldl_nil];omega⟩
     rintro ⟨p,τ⟩ ⟨hp,hun,hkk⟩ ih;simp only at hp hun hkk;by_cases hlt:p < x.ar.length
     . obtain ⟨u,hu⟩:=Ak hlt;obtain ⟨v,hv⟩:=Ak (show p < y.ar.length by omega);have hur:=BR (enc:=CC) hu;have hvr:=BR (enc:=CC) hv;have hw1:IntKind.i64.wrap ((p:Int)+1)=((p+1:Nat):Int):=by rw [BP (by omega) (by omega)];omega
       have hul:=h.Gw.ar _ _ hx u (AD hu);have hvl:=h.Gw.ar _ _ hy v (AD hv);simp only [CC] at hur hvr;obtain ⟨⟨j3,h3,f3⟩,hr3⟩:=hun;(repeat' (first|refine ctQ rfl ?_|((first|refine rgQ mxQ ?_|refine cdQ ?_|(refine A9 rfl (fun h=>?_) (fun h=>?_)<;>try (cases h;done)))<;>try simp only [Ag hlt,hur,hvr,go_sem])|(refine ⟨fun h=>?_,fun h=>?_⟩<;>first|(cases h;done)|try simp only [h])|fail));refine AJ.mk rfl (ihk _ _ j3 u v τ hkk h3 (by rw [hlen];exact hul) (by rw [hlen];exact hvl) (by rw [hlen];exact hl)) ?_;rintro v' σ3 ⟨⟨j4,h4,f4⟩,hr4⟩;simp only [go_sem];(repeat' (first|refine ctQ rfl ?_|((first|refine rgQ mxQ ?_|refine cdQ ?_|(refine A9 rfl (fun h=>?_) (fun h=>?_)<;>try (cases h;done)))<;>try simp only [hw1,go_sem])|(refine ⟨fun h=>?_,fun h=>?_⟩<;>first|(cases h;done)|try simp only [h])|fail));have hz:(x.ar.zip y.ar)[p]?=some (u,v):=by rw [List.getElem?_zip_eq_some];exact ⟨hu,hv⟩
       have htk:=Ae hz;refine ih (p+1,σ3) ⟨hlt,?_,?_⟩ (by simp only;omega)
       . simp only [htk,Cb,An,List.foldl_nil];exact ⟨⟨j4,h4,f3.trans f4 hbi0⟩,Ah hr4 hr3⟩
       . simp only [htk,Cb,An,List.foldl_nil];exact Ah hr4 hkk
     . have hpe:p=x.ar.length:=by omega
       subst hpe;(repeat' ((first|refine wQ mxQ rfl ?_|refine Run.qP B7 ?_|fail)<;>try simp only [Bk hlt,go_sem]));rw [AO (by omega),hQ] at hun;exact Run.fin B7 rfl (fun _ _ h=>h) (AH.le_refl _) hun
   . rw [if_neg hsm] at hQ;have hfin:Q (σ2.AM i (.ms j2 l.length 4 tkN::.d (.bool true)::rest)):=by rw [<- hQ];exact ⟨⟨j2,hf1,f12.trans hf2 hbi0⟩,AR _⟩
     by_cases e1:x.k=y.k
     . have b1:(x.k != y.k)=false:=by simpa using e1
       by_cases e2:x.n=y.n
       . have b2:(x.n != y.n)=false:=by simpa using e2
         have b3:((x.ar.length:Int) != (y.ar.length:Int))=true:=by simpa using fun e=>hsm ⟨e1,e2,by omega⟩
         (repeat' ((first|refine wQ mxQ rfl ?_|refine Run.qP B7 ?_|fail)<;>try simp only [hb,hb',b1,b2,b3,hbi,hbj,AA,go_sem]));exact hfin
       . have b2:(x.n != y.n)=true:=by simpa using e2
         (repeat' ((first|refine wQ mxQ rfl ?_|refine Run.qP B7 ?_|fail)<;>try simp only [hb,hb',b1,b2,hbi,hbj,go_sem]));exact hfin
     . have b1:(x.k != y.k)=true:=by simpa using e1
       (repeat' ((first|refine wQ mxQ rfl ?_|refine Run.qP B7 ?_|fail)<;>try simp only [hb,hb',b1,hbi,hbj,go_sem]));exact hfin
end Go.Ab
namespace Go.Ab
def tkA:AV->Option Nat
 | .own t _ _ _=>some t
 |_=>none
def gG (v w:AV):Prop:=∀t,tkA v=some t->tkA w≠some t
theorem gG.symm {v w:AV} (h:gG v w):gG w v:=fun t h1 h2=>h t h2 h1
theorem wI (w:AV):gG .Af w:=fun t h=>by cases h
theorem C4.Ia {σ0 σ σ':AH} {e s:Nat} {rows:List (List DV)} {w:AV} (h:C4 σ0 e s rows w σ) (hle:σ0.le σ') (ht:∀t,tkA w=some t->σ.tok t=true->σ'.tok t=true):C4 σ0 e s rows w σ':=by
 obtain ⟨⟨σ1,ha,hl⟩,_,h1,h2,h3,h4,h5,h6,h7⟩:=h;refine ⟨?_,hle,h1,h2,h3,h4,h5,h6,h7⟩;unfold ZK at ha ⊢;split at ha
 . cases ha;exact ⟨σ',rfl,hle⟩
 . rename_i t e' s' rows';split at ha
   . rename_i hc;cases ha;obtain ⟨q1,q2,q3⟩:=hc;refine ⟨σ'.E7 t,by rw [if_pos ⟨q1,q2,ht t rfl q3⟩],⟨hle.blk,fun t' h'=>?_,hle.gt,hle.bt⟩⟩
     have hne:t'≠t:=fun e=>by
      have:=hl.tok t' h';simp [AH.E7,e] at this
     simp [AH.E7,hne,hle.tok t' h']
   . cases ha
 . cases ha
theorem E6.AQ9 {cx:Cx} {K:Fm->Lm->AH->Prop} {F:Fm} {L:Lm} {σ σ0:AH} {d:Option Nat} {e size bytes:Nat} {s x:AV} {rows srows:List (List DV)} (ho:C4 σ0 e size rows s σ) (h2:x.rows=some srows)
 (h3:∀r∈srows,r.length=size) (h4:rows.length+srows.length<=1000000000) (hb:bytes<=10000)
 (h:∀v σ',C4 σ0 e size (rows++srows) v σ'->(∀i,σ'.blk i=σ.blk i)->(∀e2 s2 rows2 w,C4 σ0 e2 s2 rows2 w σ->gG s w->C4 σ0 e2 s2 rows2 w σ'/\gG v w)->K (BI d v F) L σ'):E6 e size bytes s x d K F L σ:=by
 obtain ⟨σ1,ha,hl⟩:=ho.app
 have hblk:∀i,σ1.blk i=σ.blk i:=fun i=>by
  unfold ZK at ha;split at ha
  . cases ha;rfl
  . split at ha
    . cases ha;rfl
    . cases ha
  . cases ha
 have htok:∀t,tkA s≠some t->σ.tok t=true->σ1.tok t=true:=fun t hne ht=>by
  unfold ZK at ha;split at ha
  . cases ha;exact ht
  . rename_i ts e' s' rows';split at ha
    . cases ha;have:t≠ts:=fun e=>hne (by rw [e];rfl);simp [AH.E7,this,ht]
    . cases ha
  . cases ha
 refine E6.mk ha h2 h3 (by simp only [maxLen];omega) ?_ (fun t ht=>h _ _ (C4.own hl ho.le ht) (fun i=>by rw [Sv];exact hblk i) (fun e2 s2 rows2 w hw hap=>?_))
 . calc (rows.length+srows.length) * bytes<=1000000000 * 10000:=Nat.mul_le_mul h4 hb
    _<=140737488355328:=by decide
 . have hwt:∀t',tkA w=some t'->σ.tok t'=true:=fun t' h'=>by
    obtain ⟨_,hw1,_⟩:=hw.app;cases w<;>simp only [tkA] at h'<;>try cases h'
    simp only [ZK] at hw1;split at hw1
    . rename_i hc;exact hc.2.2
    . cases hw1
   have hown:=C4.own (e:=e) (s:=size) (rows:=rows++srows) hl ho.le ht;refine ⟨hw.Ia hown.le (fun t' h1 h2=>?_),fun t' h1 h3=>?_⟩
   . have:=htok t' (fun e=>hap t' e h1) h2;simp [AH.Cg,this]
   . simp only [tkA,AK] at h1;subst h1;rw [hwt _ h3] at ht;cases ht
end Go.Ab
namespace Go.Ab
open Go.Proofs
def nbH (σ:AH):AH:= { σ with blk:=fun _=>none}
theorem Fr.nb2 {σ τ τ':AH} {i j j':Nat} {l l':List Nd} (h:Fr τ i l j τ' l' j') (hn:(nbH σ).le τ):(nbH σ).le τ':=
 ⟨fun _ _ h=>(by cases h),fun t ht=>h.tok t (hn.tok t ht),hn.gt.trans h.gt.symm,fun i x hx=>h.bt i x (hn.bt i x hx)⟩
theorem IB (σ:AH):(nbH σ).le σ:=⟨fun _ _ h=>(by cases h),fun _ h=>h,rfl,fun _ _ h=>h⟩
theorem C4.fr {σ0 τ τ':AH} {i j j' e s:Nat} {l l':List Nd} {rows:List (List DV)} {v:AV} (ho:C4 (nbH σ0) e s rows v τ) (h:Fr τ i l j τ' l' j'):C4 (nbH σ0) e s rows v τ':=
 ho.Ia (h.nb2 ho.le) (fun t _ ht=>h.tok t ht)
theorem Fr.own {σ σ' σ'':AH} {i j j':Nat} {l l':List Nd} (h:Fr σ i l j σ' l' j') (hb:∀k,σ''.blk k=σ'.blk k) (hn:(nbH σ).le σ''):Fr σ i l j σ'' l' j':=
 ⟨fun k h1 h2 h3=>by rw [hb];exact h.blk k h1 h2 h3,fun h1=>by rw [hb];exact h.ii h1,h.nw,hn.gt.symm,fun t ht=>hn.tok t ht,fun k x hx=>hn.bt k x hx⟩
theorem SN.own {σ σ':AH} {i j:Nat} {l:List Nd} {fl:Bool} {rest:List AV} (h:SN σ i l fl rest j) (hb:∀k,σ'.blk k=σ.blk k):SN σ' i l fl rest j:=
 ⟨by rw [hb];exact h.blk,h.Gw,fun hl=>by obtain ⟨a,c,b,d⟩:=h.nd hl;exact ⟨a,c,b,by rw [hb];exact d⟩⟩
theorem AD9 {σ:AH} (e s:Nat):C4 (nbH σ) e s [] .Af σ:=⟨⟨σ,rfl,IB σ⟩,IB σ,rfl,rfl,rfl,rfl,fun _=>rfl,rfl,rfl⟩
theorem H0 {l:List Nat} {i a:Nat} (h:l[i]?=some a):(l.map CC)[i]?=some [.int .i64 (a:Int)]:=by rw [Ao,h];rfl
theorem C4.row {σ0 σ:AH} {e:Nat} {rows:List (List DV)} {v:AV} (h:C4 σ0 e 1 rows v σ):Qa v rows:=⟨h.dv,h.cell,h.BF,h.cells,h.BT⟩
def AAI (i:Nat) (rest:List AV) (ar:List Nat) (t:Ty):Prop:=∀(l:List Nd) (fl:Bool) (j:Nat) (σ:AH),(∀a∈ar,a < l.length)->l.length+t.size<=900000000->SN σ i l fl rest j->
 AS Tzp 124 [.gp i 0,tyA t,.d (.sl (ar.map CC))] σ (SNQ σ i l rest j ((Ey ar l t).2,fl) (nA (Ey ar l t).1))
theorem Ty.Ww {t:Ty}:∀ {ts:List Ty},t∈ts->t.size<=Ty.AT ts
 |u::ts,h=>by
  simp only [Ty.AT];rcases As.1 h with rfl|h
  . omega
  . have:=Ty.Ww h;omega
theorem Ty.KW (ts us:List Ty):Ty.AT (ts++us)=Ty.AT ts+Ty.AT us:=by
 induction ts with
 |nil=>simp [Ty.AT]
 |cons t ts ih=>simp only [AX,Ty.AT,ih];omega
theorem Ty.Bt:∀ts:List Ty,ts.length<=Ty.AT ts
 |[]=>AR _
 |t::ts=>by have:=Ty.Bt ts;have:=rU t;simp only [A0,Ty.AT];omega
theorem JH (i:Nat) (rest:List AV) (ar:List Nat) (ts:List Ty) (hT:∀t∈ts,AAI i rest ar t) (l:List Nd) (fl:Bool) (j:Nat) (σ:AH) (ha:∀a∈ar,a < l.length) (hl:l.length+Ty.AT ts<=900000000) (h:SN σ i l fl rest j):
 AS Tzp 123 [.gp i 0,.d (.sl (ts.map Ty.enc)),.d (.sl (ar.map CC))] σ (fun v σ'=>C4 (nbH σ) 3 1 ((Ba ar l ts).1.map CC) v σ'/\∃j',SN σ' i (Ba ar l ts).2 fl rest j'/\Fr σ i l j σ' (Ba ar l ts).2 j'):=by
 have hbi0:σ.blk i≠none:=by rw [h.blk];simp
 have htl:=Ty.Bt ts;refine Pm (by simp) ?_;rw [D6];(repeat' (refine wQ mxQ rfl ?_<;>try simp only [AA,go_sem]));refine Run.BB ?_
 refine Run.BG ((fun (a0:AV) (a2:AV) (a10:AV) (a11:AV)=>fun (z:Nat×AV×AH)=>put 0 a0 (put 2 a2 (put 7 (z.2.1) (put 10 a10 (put 11 a11 (put 12 (.d (.int .i64 z.1)) U)))))) _ _ _ _) (fun _=>E) (fun z=>z.2.2)
  (fun z=>z.1<=ts.length/\C4 (nbH σ) 3 1 ((Ba ar l (ts.take z.1)).1.map CC) z.2.1 z.2.2/\∃j',SN z.2.2 i (Ba ar l (ts.take z.1)).2 fl rest j'/\Fr σ i l j z.2.2 (Ba ar l (ts.take z.1)).2 j')
  (fun z=>ts.length - z.1) ?_ (0,.Af,σ) ⟨by simp,by simpa [Ba] using AD9 3 1,j,by simpa [Ba] using h,by simpa [Ba] using Fr.refl σ i l j⟩
 rintro ⟨p,v,τ⟩ ⟨hp,ho,j',hs,hf⟩ ih;simp only at hp ho hs hf;by_cases hlt:p < ts.length
 . obtain ⟨t,ht⟩:=Ak hlt;have he:=BR (enc:=Ty.enc) ht;have hw1:=A7 (show p+1<=9000000000000000000 by omega);have hle:=MC ar l (ts.take p)
   have hsp:Ty.AT (ts.take p)+t.size<=Ty.AT ts:=by
    have h2:Ty.AT (ts.take p++[t])<=Ty.AT ts:=by
     rw [<- Ae ht]
     conv=>rhs;rw [<- Ac (p+1) ts,Ty.KW]
     omega
    rw [Ty.KW] at h2;simpa [Ty.AT] using h2
   have hc:=hT t (AD ht) _ fl j' τ (fun a hm=>by have:=ha a hm;have:=hle.le;omega) (by have:=hle.hi;omega) hs;have hsn:=dF ar t (ts.take p) l;rw [<- Ae ht] at hsn;generalize hlq:(Ba ar l (ts.take p))=q at *;have hql:q.1.length=p:=by rw [<- hlq,MD];simp;omega
   generalize hrq:Ey ar q.2 t=r at *;obtain ⟨k,n,us⟩:=t;simp only [Ty.enc,tyA,AG,AN] at he hc;(repeat' (first|refine ctQ rfl ?_|((first|refine rgQ mxQ ?_|refine cdQ ?_|(refine A9 rfl (fun h=>?_) (fun h=>?_)<;>try (cases h;done)))<;>try simp only [Ag hlt,he,ho.w4,go_sem])|(refine ⟨fun h=>?_,fun h=>?_⟩<;>first|(cases h;done)|try simp only [h])|fail));refine AJ.mk rfl hc ?_;rintro _ τ1 ⟨rfl,j1,h1,f1⟩;simp only [nA];simp only [go_sem];refine E6.own (ho.fr f1) rfl (by simp) (by simp [hql];omega) (by omega) (fun v' τ2 ho' hb'=>?_);(repeat' (first|refine ctQ rfl ?_|((first|refine rgQ mxQ ?_|refine cdQ ?_|(refine A9 rfl (fun h=>?_) (fun h=>?_)<;>try (cases h;done)))<;>try simp only [hw1,ho'.BF,ho'.BT,ho'.cells,ho'.cell,go_sem])|(refine ⟨fun h=>?_,fun h=>?_⟩<;>first|(cases h;done)|try simp only [h])|fail));refine ih ⟨p+1,v',τ2⟩ ⟨hlt,?_,j1,?_,?_⟩ (by simp only;omega)
   . simp only [hsn];rw [B2];exact ho'
   . simp only [hsn];exact h1.own hb'
   . simp only [hsn];exact (hf.trans f1 hbi0).own hb' ho'.le
 . have hpe:p=ts.length:=by omega
   subst hpe;rw [BM] at ho hs hf;(repeat' ((first|refine wQ mxQ rfl ?_|refine Run.qR Ip ?_|fail)<;>try simp only [Bk hlt,ho.w4,go_sem]));exact ⟨ho,j',hs,hf⟩
theorem H3 (i:Nat) (rest:List AV) (ar:List Nat):∀(N:Nat) (t:Ty),t.size<=N->UA ar.length t=true->AAI i rest ar t:=by
 intro N
 induction N with
 |zero=>intro t h;have:=rU t;omega
 |succ N ihN=>
 rintro ⟨k,n,us⟩ hsz hv l fl j σ ha hl h;simp only [Ty.size] at hsz hl;refine RL (by simp) ?_;rw [D6];rw [UA] at hv;rw [Ey];by_cases hk:k=4
 . subst hk;rw [if_pos rfl] at hv ⊢;simp only [decide_eq_true_eq] at hv;obtain ⟨m,rfl⟩:=E4 hv.1;obtain ⟨u,hu⟩:=Ak (show m < ar.length by omega);have hur:=H0 hu;(repeat' ((first|refine wQ mxQ rfl ?_|refine Run.qP EU ?_|fail)<;>try simp only [hur,beq_self_eq_true,go_sem]));exact ⟨by simp [nA,hu],j,h,Fr.refl σ i l j⟩
 . have hbi0:σ.blk i≠none:=by rw [h.blk];simp
   have hb:(k==4)=false:=by simpa using hk
   rw [if_neg hk] at hv ⊢;(repeat' ((first|refine wQ mxQ rfl ?_|refine Run.qP EU ?_|fail)<;>try simp only [hb,go_sem]));rw [Ty.CM];have hvu:=Sm hv;refine AJ.mk rfl (JH i rest ar us (fun u hu=>ihN u (by have:=Ty.Ww hu;omega) (hvu u hu)) l fl j σ ha (by omega) h) ?_;rintro v σ1 ⟨ho,j1,h1,f1⟩;simp only [ho.w4,go_sem];have hle:=MC ar l us;refine AJ.mk (by simp [ho.BF,AV.BF]) (J9 i j1 _ fl rest σ1 k n _ _ h1 ho.row (Wo hv ha) (by have:=hle.hi;omega)) ?_;rintro _ σ2 ⟨rfl,j2,h2,f2⟩;simp only [nA];simp only [go_sem];(repeat' ((first|refine wQ mxQ rfl ?_|refine Run.qP EU ?_|fail)<;>try simp only [go_sem]));exact ⟨rfl,j2,h2,f1.trans f2 hbi0⟩
end Go.Ab
namespace Go.Ab
open Go.Proofs
def Co (ts:List Nat):List AV:=ts.map fun (t:Nat)=>.d (.int .i64 (t:Int))
theorem AAQ:∀ts:List Nat,dvs (Co ts)=some (ts.map fun (t:Nat)=>DV.int .i64 (t:Int))
 |[]=>rfl
 |x::l=>by
  have:=AAQ l;simp only [Co,AG,dvs,AV.dv,AP,HT] at this ⊢;rw [this];rfl
theorem nS:∀ts:List Nat,chunk 1 ts.length (ts.map fun (t:Nat)=>DV.int .i64 (t:Int))=ts.map CC
 |[]=>rfl
 |x::l=>by
  have:=nS l;simp only [A0,chunk,AG,CC,C3,C7,FD,Re] at this ⊢;rw [this]
theorem QW {l:List Nat} {i:Nat} {x:Nat} (h:l[i]?=some x):(Co l)[i]?=some (.d (.int .i64 (x:Int))):=by simp [Co,h]
def FzT (v w:AV) (F F':Fm):Prop:=∀s,F' s=F s\/(F s=v/\F' s=w)
theorem FzT.refl (v w:AV) (F:Fm):FzT v w F F:=fun _=>.inl rfl
theorem FzT.skip {v w:AV} {F F':Fm} (h:FzT v w F F') (s:Nat) (x:AV):FzT v w (put s x F) (put s x F'):=fun s'=>by
 by_cases e:s'=s
 . subst e;exact .inl (by simp [put])
 . rcases h s' with h|h
   . exact .inl (by simp [put,e,h])
   . exact .inr (by simp [put,e,h])
theorem FzT.here {v w:AV} {F F':Fm} (h:FzT v w F F') (s:Nat):FzT v w (put s v F) (put s w F'):=fun s'=>by
 by_cases e:s'=s
 . subst e;exact .inr (by simp [put])
 . rcases h s' with h|h
   . exact .inl (by simp [put,e,h])
   . exact .inr (by simp [put,e,h])
theorem Run.nrz {cx:Cx} {KK:AV->AH->Prop} {k:List CI} {F F':Fm} {L:Lm} {τ:AH} {j n:Nat} {ts:List Nat} (hn:ts.length=n) (hb:τ.blk j=some (Co ts)) (hl:n<=1000000000) (hF:FzT (.ms j n 1 3) (.d (.sl (ts.map CC))) F F') (hr:Run cx KK k F' L (τ.EI j)):Run cx KK k F L τ:=by
 refine Run.freeze (i:=j) (n:=n) (size:=1) (cs:=Co ts) (ds:=ts.map fun (t:Nat)=>DV.int .i64 (t:Int)) (σ':=τ.EI j) (L':=L) (F':=F') hb (AAQ ts) (by simp [Co,hn]) (Ah hl (show (1000000000:Nat)<=maxLen by decide+kernel)) (fun t=>?_) (fun k cs hk=>⟨cs,hk,.inl rfl⟩) (fun r cs' hr=>?_) (fun t h=>h) hr
 . rcases hF t with e|⟨e1,e2⟩
   . exact .inl e
   . right;rw [e1,e2,<- hn,nS];simp [frz]
 . rw [D8] at hr;split at hr
   . cases hr
   . rename_i hne;exact ⟨hne,cs',hr,.inl rfl⟩
theorem SN.del {σ:AH} {i j k:Nat} {l:List Nd} {fl:Bool} {rest:List AV} (h:SN σ i l fl rest j) (hi:k≠i) (hj:l≠[]->k≠j):SN (σ.EI k) i l fl rest j:=by
 refine ⟨by rw [D8,if_neg (A5 hi)];exact h.blk,h.Gw,fun hl=>?_⟩;obtain ⟨a,c,b,d⟩:=h.nd hl;exact ⟨a,c,b,by rw [D8,if_neg (A5 (hj hl))];exact d⟩
theorem SN.set {σ:AH} {i j k:Nat} {l:List Nd} {fl:Bool} {rest cs:List AV} (h:SN σ i l fl rest j) (hi:k≠i) (hj:l≠[]->k≠j):SN (σ.AM k cs) i l fl rest j:=by
 refine ⟨by rw [AI,if_neg (A5 hi)];exact h.blk,h.Gw,fun hl=>?_⟩;obtain ⟨a,c,b,d⟩:=h.nd hl;exact ⟨a,c,b,by rw [AI,if_neg (A5 (hj hl))];exact d⟩
theorem Fr.del {σ σ':AH} {i j j' k:Nat} {l l':List Nd} (h:Fr σ i l j σ' l' j') (hi:k≠i):Fr (σ.EI k) i l j (σ'.EI k) l' j':=by
 refine ⟨fun m h1 h2 h3=>?_,fun hn=>?_,fun hl=>?_,h.gt,h.tok,h.bt⟩
 . rw [D8] at h3 ⊢;rw [D8];split at h3
   . exact absurd rfl h3
   . rename_i hne;rw [if_neg hne,if_neg hne];exact h.blk m h1 h2 h3
 . rw [D8,if_neg (A5 hi)] at hn ⊢;exact h.ii hn
 . rcases h.nw hl with h1|h1
   . exact .inl h1
   . right;rw [D8];split
     . rfl
     . exact h1
theorem tE (σ:AH) (k:Nat) (cs:List AV):(σ.AM k cs).EI k=σ.EI k:=by
 unfold AH.AM AH.EI;simp only [AH.mk.injEq,and_true];funext m;by_cases h:m=k<;>simp [h]
theorem AH.ext' {σ τ:AH} (h1:σ.blk=τ.blk) (h2:σ.tok=τ.tok) (h3:σ.gt=τ.gt) (h4:σ.bt=τ.bt):σ=τ:=by
 cases σ;cases τ;simp_all
theorem AF6 {σ:AH} {k:Nat} (h:σ.blk k=none):σ.EI k=σ:=by
 refine AH.ext' ?_ rfl rfl rfl;funext m;rw [D8];split
 . rename_i e;rw [e,h]
 . rfl
theorem Fr.apart {σ σ':AH} {i j j' k:Nat} {l l':List Nd} (h:Fr σ i l j σ' l' j') (hk:l≠[]->k≠j) (hb:σ.blk k≠none):l'≠[]->k≠j':=fun hl e=>by
 rcases h.nw hl with ⟨h1,h2⟩|h1
 . exact hk h1 (e.trans h2)
 . rw [<- e] at h1;exact hb h1
theorem AKW (l:List Nat) (n p a:Nat) (hp:l.length=p) (hn:p < n):(Co (l++AE (n - p) 0)).take p++[.d (.int .i64 (a:Int))]++(Co (l++AE (n - p) 0)).drop (p+1)=Co ((l++[a])++AE (n - (p+1)) 0):=by
 subst hp;rw [show n - l.length=(n - (l.length+1))+1 from by omega,BV];simp [Co,B2,List.take_append,List.drop_append]
theorem Zs (n:Nat):(AE n [AV.d (.int .i64 0)]).flatten=Co (AE n 0):=by
 induction n with
 |zero=>rfl
 |succ n ih=>rw [BV,BK,ih,BV];rfl
theorem Dl (i j:Nat) (l:List Nd) (fl:Bool) (rest:List AV) (σ:AH) (n:Nat) (h:SN σ i l fl rest j) (hn:n<=1000000) (hl:l.length+n<=900000000):
 AS Tzp 54 [.gp i 0,nA n] σ (SNQ σ i l rest j (GG l n,fl) (.d (.sl ((A8 l.length n).map CC)))):=by
 have hbi0:σ.blk i≠none:=by rw [h.blk];simp
 refine Pl (by simp) ?_;rw [BS];simp only [nA];(repeat' (first|refine ctQ rfl ?_|((first|refine rgQ mxQ ?_|refine cdQ ?_|(refine A9 rfl (fun h=>?_) (fun h=>?_)<;>try (cases h;done)))<;>try simp only [go_sem])|(refine ⟨fun h=>?_,fun h=>?_⟩<;>first|(cases h;done)|try simp only [h])|fail));refine Nz.mk n (by omega) (by omega) (fun jo hjo=>?_);rw [Zs];have hoi:jo≠i:=fun e=>by rw [e] at hjo;exact hbi0 hjo
 (repeat' (first|refine ctQ rfl ?_|((first|refine rgQ mxQ ?_|refine cdQ ?_|(refine A9 rfl (fun h=>?_) (fun h=>?_)<;>try (cases h;done)))<;>try simp only [go_sem])|(refine ⟨fun h=>?_,fun h=>?_⟩<;>first|(cases h;done)|try simp only [h])|fail));refine Run.BB ?_
 refine Run.BG ((fun (a0:AV) (a5:AV) (a10:AV)=>fun (z:Nat×AH)=>put 0 a0 (put 5 a5 (put 10 a10 (put 11 (.d (.int .i64 z.1)) U)))) _ _ _) (fun _=>E) (fun z=>z.2)
  (fun z=>z.1<=n/\z.2.blk jo=some (Co (A8 l.length z.1++AE (n - z.1) 0))/\∃j',SN z.2 i (GG l z.1) fl rest j'/\Fr σ i l j (z.2.EI jo) (GG l z.1) j'/\(GG l z.1≠[]->jo≠j'))
  (fun z=>n - z.1) ?_ (0,σ.AM jo (Co (AE n 0))) ⟨by simp,?_,j,?_,?_,?_⟩
 rotate_left
 . simp only [AI,if_true];simp
 . refine h.set hoi (fun hl e=>?_);obtain ⟨_,c,_,d⟩:=h.nd hl;rw [<- e,hjo] at d;cases d
 . simp only;rw [tE,AF6 hjo];exact Fr.refl σ i l j
 . intro hl e;obtain ⟨_,c,_,d⟩:=h.nd hl;rw [<- e,hjo] at d;cases d
 rintro ⟨p,τ⟩ ⟨hp,hb,j',hs,hf,hjj⟩ ih;simp only at hp hb hs hf hjj;by_cases hlt:p < n
 . have hw1:=A7 (show p+1<=9000000000000000000 by omega);have hfl:=KH l p;(repeat' (first|refine ctQ rfl ?_|((first|refine rgQ mxQ ?_|refine cdQ ?_|(refine A9 rfl (fun h=>?_) (fun h=>?_)<;>try (cases h;done)))<;>try simp only [Ag hlt,go_sem])|(refine ⟨fun h=>?_,fun h=>?_⟩<;>first|(cases h;done)|try simp only [h])|fail));refine AJ.mk rfl (Fw i j' _ fl rest τ hs (by rw [hfl];omega)) ?_;rintro _ τ1 ⟨rfl,j1,h1,f1⟩;simp only [nA];have hb1:τ1.blk jo=some (Co (A8 l.length p++AE (n - p) 0)):=by rw [f1.blk jo hoi hjj (by rw [hb];simp),hb]
   have hle:(p+1<=(Co (A8 l.length p++AE (n - p) 0)).length)=True:=by simp [Co];omega
   have hwr:=AKW (A8 l.length p) n p (GG l p).length (by simp) hlt;have hpn:=ltT hlt;simp only [hb1,hpn,hle,hwr,A2,go_sem];(repeat' (first|refine ctQ rfl ?_|((first|refine rgQ mxQ ?_|refine cdQ ?_|(refine A9 rfl (fun h=>?_) (fun h=>?_)<;>try (cases h;done)))<;>try simp only [hw1,go_sem])|(refine ⟨fun h=>?_,fun h=>?_⟩<;>first|(cases h;done)|try simp only [h])|fail));have hrg:A8 l.length p++[(GG l p).length]=A8 l.length (p+1):=by rw [hfl,List.range'_concat];simp
   rw [hrg];have hj1:=f1.apart hjj (by rw [hb];simp);have hfd:=(hf.trans (f1.del hoi) hbi0);refine ih ⟨p+1,τ1.AM jo (Co (A8 l.length (p+1)++AE (n - (p+1)) 0))⟩ ⟨hlt,by simp only [AI,if_true],j1,?_,?_,hj1⟩ (by simp only;omega)
   . exact h1.set hoi hj1
   . simp only;rw [tE];exact hfd
 . have hpe:p=n:=by omega
   subst hpe;rw [Nat.sub_self,List.replicate_zero,BX] at hb;(repeat' (refine wQ mxQ rfl ?_<;>try simp only [Bk hlt,go_sem]));refine Run.nrz (j:=jo) (n:=p) (ts:=A8 l.length p) (by simp) hb (by omega) (FzT.here (FzT.refl _ _ _) 4) ?_;(repeat' ((first|refine wQ mxQ rfl ?_|refine Run.qP Io ?_|fail)<;>try simp only [go_sem]));exact ⟨rfl,j',hs.del hoi hjj,hf⟩
end Go.Ab
namespace Go.Ab
open Go.Proofs
structure SX (ext:Nat->Option (List AV)) (σ:AH) (i:Nat) (l:List Nd) (fl:Bool) (rest:List AV) (j js:Nat) (cs:List AV):Prop where
 sn:SN σ i l fl rest j
 row:σ.blk js=some cs
 x:∀k c,ext k=some c->σ.blk k=some c
 xi:ext i=none
 xj:l≠[]->ext j=none
 xs:ext js=none
 si:js≠i
 sj:l≠[]->js≠j
theorem SX.step {ext:Nat->Option (List AV)} {σ σ':AH} {i j j' js:Nat} {l:List Nd} {fl fl':Bool} {rest cs:List AV} (h:SX ext σ i l fl rest j js cs) (sn:SN σ' i l fl' rest j') (fr:Fr σ i l j σ' l j'):SX ext σ' i l fl' rest j' js cs:=by
 have hk:∀k c,k≠i->(l≠[]->k≠j)->σ.blk k=some c->σ'.blk k=some c/\(l≠[]->k≠j'):=fun k c h1 h2 h3=>
  ⟨by rw [fr.blk k h1 h2 (by rw [h3];simp),h3],fr.apart h2 (by rw [h3];simp)⟩
 have hx:∀k c,ext k=some c->σ'.blk k=some c/\(l≠[]->k≠j'):=fun k c he=>
  hk k c (fun e=>by rw [e,h.xi] at he;cases he) (fun hl e=>by rw [e,h.xj hl] at he;cases he) (h.x k c he)
 obtain ⟨r1,r2⟩:=hk js cs h.si h.sj h.row;refine ⟨sn,r1,fun k c he=>(hx k c he).1,h.xi,fun hl=>?_,h.xs,h.si,r2⟩;cases he:ext j' with
 |none=>rfl
 |some c=>exact absurd rfl ((hx j' c he).2 hl)
theorem SX.set {ext:Nat->Option (List AV)} {σ:AH} {i j js:Nat} {l:List Nd} {fl:Bool} {rest cs:List AV} (h:SX ext σ i l fl rest j js cs) (cs':List AV):SX ext (σ.AM js cs') i l fl rest j js cs':=
 ⟨h.sn.set h.si h.sj,BQ,fun k c he=>by rw [AI,if_neg (fun e=>by rw [e,h.xs] at he;cases he)];exact h.x k c he,h.xi,h.xj,h.xs,h.si,h.sj⟩
def HH (l:List Nd):Nat->List Nat->Nat->Bool×List Nat
 |0,st,_=>(true,st)
 |k+1,st,n=>
  let r:=rtN l n
  if st[r]?=some 0 then
   let q:=(((l[r]?).map Nd.ar).getD []).foldl (fun (q:Bool×List Nat) a=>if q.1 then HH l k q.2 a else q) (true,st.set r 1)
   (q.1,if q.1 then q.2.set r 2 else q.2)
     else (decide (st[r]?=some 2),st)
def zs (st:List Nat):Nat:=st.countP (·==0)
theorem AAH {st:List Nat} {r v:Nat} (h:st[r]?=some 0) (hv:v≠0):zs (st.set r v)+1=zs st:=by
 induction st generalizing r with
 |nil=>simp at h
 |cons x st ih=>
  cases r with
  |zero=>
   simp only [Av,AK] at h;subst h;simp [zs,K5,hv]
  |succ r=>
   have:=ih (r:=r) (by simpa using h);simp only [zs,CH,Fk] at this ⊢;omega
theorem AQW {st:List Nat} {r v:Nat} (hv:v≠0):zs (st.set r v)<=zs st:=by
 by_cases h:st[r]?=some 0
 . have:=AAH h hv;omega
 . induction st generalizing r with
   |nil=>simp [zs]
   |cons x st ih=>
    cases r with
    |zero=>
     have hb:(v==0)=false:=by simpa using hv
     simp only [zs,K5,Fk,hb,AZ,if_false];omega
    |succ r=>
     have:=ih (r:=r) (by simpa using h);simp only [zs,CH,Fk] at this ⊢;omega
def Qb (st st':List Nat):Prop:=st'.length=st.length/\zs st'<=zs st
theorem Qb.refl (st:List Nat):Qb st st:=⟨rfl,AR _⟩
theorem Qb.trans {a b c:List Nat} (h:Qb a b) (k:Qb b c):Qb a c:=⟨k.1.trans h.1,Ah k.2 h.2⟩
theorem Qb.set (st:List Nat) (r:Nat) {v:Nat} (hv:v≠0):Qb st (st.set r v):=⟨by simp,AQW hv⟩
theorem Z1 (l:List Nd):∀(k:Nat) (st:List Nat) (n:Nat),Qb st (HH l k st n).2
 |0,st,n=>Qb.refl st
 |k+1,st,n=>by
  rw [HH];simp only;split
  . have hf:∀(us:List Nat) (q:Bool×List Nat),Qb q.2 (us.foldl (fun (q:Bool×List Nat) a=>if q.1 then HH l k q.2 a else q) q).2:=by
     intro us
     induction us with
     |nil=>intro q;exact Qb.refl _
     |cons a us ih=>
      intro q;rw [An];refine Qb.trans ?_ (ih _);split
      . exact Z1 l k q.2 a
      . exact Qb.refl _
    have h1:=hf (((l[rtN l n]?).map Nd.ar).getD []) (true,st.set (rtN l n) 1);have h2:=(Qb.set st (rtN l n) (show (1:Nat)≠0 by decide)).trans h1;split
    . exact h2.trans (Qb.set _ _ (by decide))
    . exact h2
  . exact Qb.refl st
end Go.Ab
namespace Go.Ab
open Go.Proofs
theorem Zm (l:List Nat):(Co l).length=l.length:=by simp [Co]
theorem Zn {l:List Nat} {r v:Nat} (h:r < l.length):(Co l).take r++[.d (.int .i64 (v:Int))]++(Co l).drop (r+1)=Co (l.set r v):=by
 induction l generalizing r with
 |nil=>cases h
 |cons x l ih=>
  cases r with
  |zero=>simp [Co]
  |succ r=>
   have:=ih (r:=r) (by simpa using h);simp only [Co,AG,C3,FD,CH,AX] at this ⊢;rw [this]
theorem DW {σ τ υ:AH} (h:(nbH σ).le τ) (k:(nbH τ).le υ):(nbH σ).le υ:=
 ⟨fun _ _ h=>(by cases h),fun t ht=>k.tok t (h.tok t ht),h.gt.trans k.gt,fun i x hx=>k.bt i x (h.bt i x hx)⟩
theorem ACR (l:List Nd) (k:Nat) (q:Bool×List Nat) (us:List Nat) (a:Nat):(us++[a]).foldl (fun (q:Bool×List Nat) a=>if q.1 then HH l k q.2 a else q) q=
 if (us.foldl (fun (q:Bool×List Nat) a=>if q.1 then HH l k q.2 a else q) q).1 then HH l k (us.foldl (fun (q:Bool×List Nat) a=>if q.1 then HH l k q.2 a else q) q).2 a else us.foldl (fun (q:Bool×List Nat) a=>if q.1 then HH l k q.2 a else q) q:=by
 rw [Cb];rfl
theorem bF (l:List Nd) (k:Nat) (st:List Nat):∀us:List Nat,us.foldl (fun (q:Bool×List Nat) a=>if q.1 then HH l k q.2 a else q) (false,st)=(false,st)
 |[]=>rfl
 |a::us=>by rw [An];exact bF l k st us
theorem tJ (ext:Nat->Option (List AV)) (i:Nat) (rest:List AV) (l:List Nd) (fl:Bool) (j1 j3 j4 js:Nat) (hln:l.length<=900000000) (h1:ext j1=some [.gp i 0]) (h3:ext j3=some [.ms js l.length 1 3]) (h4:ext j4=some [.fn 59 [] [.gp j1 0,.gp j3 0,.gp j4 0]]):
 ∀(k:Nat) (st:List Nat) (j:Nat) (σ:AH) (n:Nat),zs st < k->st.length=l.length->n < l.length->SX ext σ i l fl rest j js (Co st)->
 AS Tzp 59 [nA n,.gp j1 0,.gp j3 0,.gp j4 0] σ (fun v σ'=>v= .d (.bool (HH l k st n).1)/\(nbH σ).le σ'/\∃j',SX ext σ' i l fl rest j' js (Co (HH l k st n).2)):=by
 intro k
 induction k with
 |zero=>intro st j σ n h;omega
 |succ k ihk=>
 intro st j σ n hz hst hn hs;have hl0:l≠[]:=fun e=>by rw [e] at hn;cases hn
 refine RJ (by simp) ?_;rw [aO];have hb1:=hs.x _ _ h1;have hb3:=hs.x _ _ h3;obtain ⟨x,hx,hxp⟩:=hs.sn.Gw.root hn;have hrl:=(AF.1 hx).1;rw [HH];simp only [nA];generalize hr:rtN l n=r at *;(repeat' (first|refine ctQ rfl ?_|((first|refine rgQ mxQ ?_|refine cdQ ?_|(refine A9 rfl (fun h=>?_) (fun h=>?_)<;>try (cases h;done)))<;>try simp only [hb1,go_sem])|(refine ⟨fun h=>?_,fun h=>?_⟩<;>first|(cases h;done)|try simp only [h])|fail));refine AJ.mk rfl (HB i j l fl rest σ n hs.sn hn hln) ?_;rintro _ σ1 ⟨rfl,j5,sn5,fr5⟩;rw [hr];simp only [nA];simp only [go_sem];have hs5:=hs.step sn5 fr5;have hnb5:=fr5.nb2 (IB σ);clear hs sn5 fr5 hb1 hb3;have hb1:=hs5.x _ _ h1;have hb3:=hs5.x _ _ h3;have hb4:=hs5.x _ _ h4;have hbs:=hs5.row;obtain ⟨v,hv⟩:=Ak (show r < st.length by omega);have hva:=QW hv;have hrT:=ltT hrl;have hle1:(r+1<=(Co st).length)=True:=by rw [Zm];simp;omega
 by_cases h0:v=0
 . subst h0;have hb:(((0:Nat):Int)==0)=true:=rfl;rw [if_pos hv];have hset:(Co st).take r++[.d (.int .i64 1)]++(Co st).drop (r+1)=Co (st.set r 1):=Zn (v:=1) (show r < st.length by omega);obtain ⟨hji,c,hrep,hbj⟩:=hs5.sn.nd hl0;have hbi:=hs5.sn.blk;rw [Eo hl0] at hbi;obtain ⟨y,hy,yk,yn,ya⟩:=hrep.at hx;obtain ⟨_,_,y3,_⟩:=RY hy;rw [ya] at y3;have d1:(j1=js)=False:=by simp only [eq_iff_iff,iff_false];intro e;rw [e,hs5.xs] at h1;cases h1
   have d3:(j3=js)=False:=by simp only [eq_iff_iff,iff_false];intro e;rw [e,hs5.xs] at h3;cases h3
   have di:(i=js)=False:=by simp only [eq_iff_iff,iff_false];exact fun e=>hs5.si e.symm
   have dj:(j5=js)=False:=by simp only [eq_iff_iff,iff_false];exact fun e=>hs5.sj hl0 e.symm
   have hs6:=hs5.set (Co (st.set r 1));have hnb6:(nbH σ).le (σ1.AM js (Co (st.set r 1))):=⟨fun _ _ h=>(by cases h),hnb5.tok,hnb5.gt,hnb5.bt⟩;(repeat' (first|refine ctQ rfl ?_|((first|refine rgQ mxQ ?_|refine cdQ ?_|(refine A9 rfl (fun h=>?_) (fun h=>?_)<;>try (cases h;done)))<;>try simp only [hb1,hb3,hbs,hva,hrT,A2,hb,hle1,hset,hbi,hbj,y3,d1,d3,di,dj,AA,go_sem])|(refine ⟨fun h=>?_,fun h=>?_⟩<;>first|(cases h;done)|try simp only [h])|fail));simp only [hx,Ad,Az];generalize σ1.AM js (Co (st.set r 1))=σ2 at hs6 hnb6 ⊢;clear hs5 hb1 hb3 hb4 hbs hbi hbj;have hz1:zs (st.set r 1) < k:=by have:=AAH hv (show (1:Nat)≠0 by decide);omega
   have hs1:(st.set r 1).length=l.length:=by simp [hst]
   generalize st.set r 1=st1 at *;refine Run.slot 32 (fun hsl=>?_);simp only [D0,reduceIte,HS,AV.FU,AA] at hsl;refine Run.BB ?_
   refine Run.BG ((fun (a0:AV) (a2:AV) (a3:AV) (a32:AV) (a33:AV)=>fun (z:Nat×AH)=>put 0 a0 (put 2 a2 (put 3 a3 (put 32 a32 (put 33 a33 (put 34 (.d (.int .i64 z.1)) U)))))) _ _ _ _ _) (fun _=>E) (fun z=>z.2)
    (fun z=>z.1<=x.ar.length/\(nbH σ).le z.2/\((x.ar.take z.1).foldl (fun (q:Bool×List Nat) a=>if q.1 then HH l k q.2 a else q) (true,st1)).1=true/\Qb st1 ((x.ar.take z.1).foldl (fun (q:Bool×List Nat) a=>if q.1 then HH l k q.2 a else q) (true,st1)).2/\
      ∃j',SX ext z.2 i l fl rest j' js (Co ((x.ar.take z.1).foldl (fun (q:Bool×List Nat) a=>if q.1 then HH l k q.2 a else q) (true,st1)).2))
    (fun z=>x.ar.length - z.1) ?_ (0,σ2) ⟨by simp,hnb6,rfl,Qb.refl _,j5,hs6⟩
   rintro ⟨p,τ⟩ ⟨hp,hnb,hok,hle,j6,hs7⟩ ih;simp only at hp hnb hok hle hs7;have hb4:=hs7.x _ _ h4;by_cases hlt:p < x.ar.length
   . obtain ⟨a,ha⟩:=Ak hlt;have har:=H0 ha;have hal:=hs7.sn.Gw.ar _ _ hx a (AD ha);have hst2:=ACR l k (true,st1) (x.ar.take p) a;rw [<- Ae ha] at hst2;have hw1:IntKind.i64.wrap ((p:Int)+1)=((p+1:Nat):Int):=by rw [BP (by omega) (by omega)];omega
     rw [if_pos hok] at hst2;have hcall:=ihk _ j6 τ a (Nat.lt_of_le_of_lt hle.2 hz1) (hle.1.trans hs1) hal hs7;have hfl:=Z1 l k ((x.ar.take p).foldl (fun (q:Bool×List Nat) a=>if q.1 then HH l k q.2 a else q) (true,st1)).2 a;generalize hq:(x.ar.take p).foldl (fun (q:Bool×List Nat) a=>if q.1 then HH l k q.2 a else q) (true,st1)=q at *;generalize hw:HH l k q.2 a=w at *;obtain ⟨wb,ws⟩:=w;cases wb with
     |true=>
      (repeat' (refine wQ mxQ rfl ?_<;>try simp only [Ag hlt,har,hb4,go_sem]));refine ⟨59,[],[.gp j1 0,.gp j3 0,.gp j4 0],rfl,by kernel_rfl,AJ.mk rfl hcall ?_⟩;rintro _ τ2 ⟨rfl,hn2,j8,hs8⟩;simp only [go_sem];(repeat' (refine wQ mxQ rfl ?_<;>try simp only [hw1,go_sem]));exact ih ⟨p+1,τ2⟩ ⟨hlt,DW hnb hn2,by simp only [hst2],by simp only [hst2];exact hle.trans hfl,j8,by simp only [hst2];exact hs8⟩ (by simp only;omega)
     |false=>
      (repeat' (refine wQ mxQ rfl ?_<;>try simp only [Ag hlt,har,hb4,go_sem]));refine ⟨59,[],[.gp j1 0,.gp j3 0,.gp j4 0],rfl,by kernel_rfl,AJ.mk rfl hcall ?_⟩;rintro _ τ2 ⟨rfl,hn2,j8,hs8⟩;simp only [go_sem];(repeat' ((first|refine wQ mxQ rfl ?_|refine Run.qP ET ?_|fail)<;>try simp only [go_sem]))
      have hall:x.ar.foldl (fun (q:Bool×List Nat) a=>if q.1 then HH l k q.2 a else q) (true,st1)=(false,ws):=by
       conv=>lhs;rw [<- Ac (p+1) x.ar,Cb,hst2]
       exact bF l k ws _
      simp only [hall];exact ⟨trivial,DW hnb hn2,j8,hs8⟩
   . have hpe:p=x.ar.length:=by omega
     subst hpe;rw [BM] at hok hle hs7;have hb3:=hs7.x _ _ h3;have hbs:=hs7.row;have hst7:=hle.1.trans hs1;generalize hq:x.ar.foldl (fun (q:Bool×List Nat) a=>if q.1 then HH l k q.2 a else q) (true,st1)=q at *;have hle2:(r+1<=(Co q.2).length)=True:=by rw [Zm];simp;omega
     have hset2:(Co q.2).take r++[.d (.int .i64 2)]++(Co q.2).drop (r+1)=Co (q.2.set r 2):=Zn (v:=2) (by omega);have hs9:=hs7.set (Co (q.2.set r 2));simp only [hok,if_true];(repeat' (first|refine ctQ rfl ?_|((first|refine rgQ mxQ ?_|refine cdQ ?_|refine Run.qP ET ?_|(refine A9 rfl (fun h=>?_) (fun h=>?_)<;>try (cases h;done)))<;>try simp only [Bk hlt,hb3,hrT,A2,hbs,hle2,hset2,go_sem])|(refine ⟨fun h=>?_,fun h=>?_⟩<;>first|(cases h;done)|try simp only [h])|fail));exact ⟨⟨fun _ _ h=>(by cases h),hnb.tok,hnb.gt,hnb.bt⟩,j6,hs9⟩
 . have hb:((v:Int) != 0)=true:=by simpa using h0
   rw [if_neg (by rw [hv];simpa using h0)]
   have h2:decide (st[r]?=some 2)=((v:Int)==2):=by
    rw [hv];by_cases e:v=2
    . subst e;rfl
    . have:((v:Int)==2)=false:=by simp;omega
      rw [this];simpa using e
   rw [h2];(repeat' (first|refine ctQ rfl ?_|((first|refine rgQ mxQ ?_|refine cdQ ?_|refine Run.qP ET ?_|(refine A9 rfl (fun h=>?_) (fun h=>?_)<;>try (cases h;done)))<;>try simp only [hb3,hbs,hva,hrT,A2,hb,go_sem])|(refine ⟨fun h=>?_,fun h=>?_⟩<;>first|(cases h;done)|try simp only [h])|fail));exact ⟨hnb5,j5,hs5⟩
def xS (l:List Nd):Nat->List Nat->List Nat->Bool
 |_,_,[]=>true
 |k,st,n::ns=>if (HH l k st n).1 then xS l k (HH l k st n).2 ns else false
def iI (l:List Nd):Bool:=xS l (l.length+1) (AE l.length 0) (Au l.length)
theorem AJD (n:Nat):zs (AE n 0)<=n:=by
 have:=UL (p:=fun x:Nat=>x==0) (l:=AE n 0);simpa [zs] using this
theorem Ib (σ:AH) (i:Nat) (x:Nat×TypeId) (k:Nat):(σ.Br i x).blk k=σ.blk k:=rfl
structure Mo (σ τ:AH):Prop where
 blk:∀k c,σ.blk k=some c->τ.blk k=some c
 nb:(nbH σ).le τ
theorem Mo.refl (σ:AH):Mo σ σ:=⟨fun _ _ h=>h,IB σ⟩
theorem Mo.new {σ τ:AH} (h:Mo σ τ) {j:Nat} (hj:τ.blk j=none) (cs:List AV):Mo σ (τ.AM j cs):=
 ⟨fun k c hk=>by have h1:=h.blk k c hk;rw [AI,if_neg (fun e=>by rw [e,hj] at h1;cases h1)];exact h1,⟨fun _ _ h=>(by cases h),h.nb.tok,h.nb.gt,h.nb.bt⟩⟩
theorem Mo.uK {σ τ:AH} (h:Mo σ τ) {j:Nat} (hj:τ.blk j=none/\τ.bt j=none) (cs cs':List AV) (x:Nat×TypeId):Mo σ (((τ.AM j cs).Br j x).AM j cs'):=
 ⟨fun k c hk=>by
   have h1:=h.blk k c hk;have hne:k≠j:=fun e=>by rw [e,hj.1] at h1;cases h1
   rw [AI,if_neg hne,Ib,AI,if_neg hne];exact h1,⟨fun _ _ h=>(by cases h),h.nb.tok,h.nb.gt,fun k y hy=>by
   have h2:=h.nb.bt k y hy;show (if k=j then some x else τ.bt k)=some y;rw [if_neg (fun e=>by rw [e,hj.2] at h2;cases h2)];exact h2⟩⟩
theorem Mo.AIK {σ τ:AH} (h:Mo σ τ) {j:Nat} (hj:σ.blk j=none) (cs:List AV):Mo σ (τ.AM j cs):=
 ⟨fun k c hk=>by rw [AI,if_neg (fun e=>by rw [e,hj] at hk;cases hk)];exact h.blk k c hk,⟨fun _ _ h=>(by cases h),h.nb.tok,h.nb.gt,h.nb.bt⟩⟩
theorem Mo.ne {σ τ:AH} (h:Mo σ τ) {j:Nat} (hj:τ.blk j=none):σ.blk j=none:=by
 cases hs:σ.blk j with
 |none=>rfl
 |some c=>rw [h.blk j c hs] at hj;cases hj
theorem Mo.trans {σ τ υ:AH} (h:Mo σ τ) (k:Mo τ υ):Mo σ υ:=⟨fun x c hx=>k.blk x c (h.blk x c hx),DW h.nb k.nb⟩
def exT (i j js:Nat) (τ:AH) (k:Nat):Option (List AV):=if k=i\/k=j\/k=js then none else τ.blk k
theorem JS {i j js k:Nat} {τ:AH} {c:List AV} (h:τ.blk k=some c) (h1:k≠i) (h2:k≠j) (h3:k≠js):exT i j js τ k=some c:=by
 unfold exT;rw [if_neg (by simp [h1,h2,h3])];exact h
theorem ANK {i j js k:Nat} {τ:AH} {c:List AV} (h:exT i j js τ k=some c):τ.blk k=some c:=by
 unfold exT at h;split at h
 . cases h
 . exact h
theorem SX.mk' {σ τ:AH} {i j js:Nat} {l:List Nd} {fl:Bool} {rest cs:List AV} (h:SN σ i l fl rest j) (hl:l≠[]) (m:Mo σ τ) (hs:τ.blk js=some cs) (hn:σ.blk js=none):SX (exT i j js τ) τ i l fl rest j js cs:=by
 obtain ⟨hji,c0,hc0,hbj⟩:=h.nd hl;have hsi:js≠i:=fun e=>by rw [e,h.blk] at hn;cases hn
 have hsj:js≠j:=fun e=>by rw [e,hbj] at hn;cases hn
 exact ⟨⟨m.blk _ _ h.blk,h.Gw,fun _=>⟨hji,c0,hc0,m.blk _ _ hbj⟩⟩,hs,fun k c hk=>ANK hk,by simp [exT],fun _=>by simp [exT],by simp [exT],hsi,fun _=>hsj⟩
theorem SX.out {σ τ τ':AH} {i j j' js:Nat} {l:List Nd} {fl:Bool} {rest cs:List AV} (hl:l≠[]) (m:Mo σ τ) (hn:σ.blk js=none) (h:SX (exT i j js τ) τ' i l fl rest j' js cs) (hnb:(nbH σ).le τ'):SN τ' i l fl rest j'/\Fr σ i l j τ' l j':=by
 refine ⟨h.sn,⟨fun k h1 h2 h3=>?_,fun _=>by rw [h.sn.blk];simp,fun _=>?_,hnb.gt.symm,hnb.tok,hnb.bt⟩⟩
 . cases hk:σ.blk k with
   |none=>exact absurd hk h3
   |some c=>exact h.x k c (JS (m.blk k c hk) h1 (h2 hl) (fun e=>by rw [e,hn] at hk;cases hk))
 . obtain ⟨hji,_⟩:=h.sn.nd hl;have hx:=h.xj hl;have hsj:=h.sj hl;by_cases e:j'=j
   . exact .inl ⟨hl,e⟩
   . right;unfold exT at hx;rw [if_neg (by simp [hji,e,A5 hsj])] at hx;exact m.ne hx
theorem cR (i:Nat) (rest:List AV) (l:List Nd) (fl:Bool) (j:Nat) (σ:AH) (hl0:l≠[]) (hln:l.length<=900000000) (h:SN σ i l fl rest j):
 AS Tzp 29 [.gp i 0] σ (SNQ σ i l rest j (l,fl) (.d (.bool (iI l)))):=by
 have hbi:=h.blk;rw [Eo hl0] at hbi;obtain ⟨hji,c0,hc0,hbj⟩:=h.nd hl0;refine TZ (by simp) ?_;rw [Bs];(repeat' (first|refine ctQ rfl ?_|((first|refine rgQ mxQ ?_|refine cdQ ?_|(refine A9 rfl (fun h=>?_) (fun h=>?_)<;>try (cases h;done)))<;>try simp only [go_sem])|(refine ⟨fun h=>?_,fun h=>?_⟩<;>first|(cases h;done)|try simp only [h])|fail));intro j1 hj1;have m1:=(Mo.refl σ).new hj1 [AV.gp i 0];have f1:(σ.AM j1 [AV.gp i 0]).blk j1=some [AV.gp i 0]:=BQ;generalize σ.AM j1 [AV.gp i 0]=τ1 at *;have hbi1:=m1.blk _ _ hbi;(repeat' (first|refine ctQ rfl ?_|((first|refine rgQ mxQ ?_|refine cdQ ?_|(refine A9 rfl (fun h=>?_) (fun h=>?_)<;>try (cases h;done)))<;>try simp only [hbi1,f1,go_sem])|(refine ⟨fun h=>?_,fun h=>?_⟩<;>first|(cases h;done)|try simp only [h])|fail));refine Nz.mk l.length (by omega) (by omega) (fun js hjs=>?_);rw [Zs];have m2:=(Mo.refl τ1).new hjs (Co (AE l.length 0));have f2:(τ1.AM js (Co (AE l.length 0))).blk js=some (Co (AE l.length 0)):=BQ;generalize τ1.AM js (Co (AE l.length 0))=τ2 at *;simp only [go_sem];intro j3 hj3;simp only [Ib,go_sem];have m3:=(Mo.refl τ2).uK hj3 [AV.Af] [AV.ms js l.length 1 3] (1,74)
 have f3:(((τ2.AM j3 [AV.Af]).Br j3 (1,74)).AM j3 [AV.ms js l.length 1 3]).blk j3=some [AV.ms js l.length 1 3]:=BQ;generalize ((τ2.AM j3 [AV.Af]).Br j3 (1,74)).AM j3 [AV.ms js l.length 1 3]=τ3 at *;(repeat' (first|refine ctQ rfl ?_|((first|refine rgQ mxQ ?_|refine cdQ ?_|(refine A9 rfl (fun h=>?_) (fun h=>?_)<;>try (cases h;done)))<;>try simp only [go_sem])|(refine ⟨fun h=>?_,fun h=>?_⟩<;>first|(cases h;done)|try simp only [h])|fail));intro j4 hj4;have m4:=(Mo.refl τ3).uK hj4 [AV.HK] [.fn 59 [] [.gp j1 0,.gp j3 0,.gp j4 0]] (1,139);have f4:(((τ3.AM j4 [AV.HK]).Br j4 (1,139)).AM j4 [.fn 59 [] [.gp j1 0,.gp j3 0,.gp j4 0]]).blk j4=some [.fn 59 [] [.gp j1 0,.gp j3 0,.gp j4 0]]:=BQ;have g1:=m3.blk _ _ (m2.blk _ _ f1);have b1:=m3.blk _ _ (m2.blk _ _ hbi1);have n1:j1≠j4:=fun e=>by rw [e,hj4.1] at g1;cases g1
 have n3:j3≠j4:=fun e=>by rw [e,hj4.1] at f3;cases f3
 have ni:i≠j4:=fun e=>by rw [e,hj4.1] at b1;cases b1
 have n1':(j1=j4)=False:=by simp [n1]
 have ni':(i=j4)=False:=by simp [ni]
 (repeat' (first|refine ctQ rfl ?_|((first|refine rgQ mxQ ?_|refine cdQ ?_|(refine A9 rfl (fun h=>?_) (fun h=>?_)<;>try (cases h;done)))<;>try simp only [Ib,n1',ni',g1,b1,go_sem])|(refine ⟨fun h=>?_,fun h=>?_⟩<;>first|(cases h;done)|try simp only [h])|fail));generalize ((τ3.AM j4 [AV.HK]).Br j4 (1,139)).AM j4 [.fn 59 [] [.gp j1 0,.gp j3 0,.gp j4 0]]=τ4 at *;have hmo:Mo σ τ4:=((m1.trans m2).trans m3).trans m4;have c1:=m4.blk _ _ g1;have c3:=m4.blk _ _ f3;have cs:=m4.blk _ _ (m3.blk _ _ f2);have hjsn:σ.blk js=none:=m1.ne hjs;have hs:=SX.mk' h hl0 hmo cs hjsn;have hne:∀k c,τ4.blk k=some c->σ.blk k=none->k≠i/\k≠j:=fun k c _ h2=>⟨fun e=>(by rw [e,h.blk] at h2;cases h2),fun e=>(by rw [e,hbj] at h2;cases h2)⟩;have j1n:σ.blk j1=none:=by assumption
 have j3n:σ.blk j3=none:=(m1.trans m2).ne hj3.1;have j4n:σ.blk j4=none:=((m1.trans m2).trans m3).ne hj4.1;have s1:j1≠js:=fun e=>by rw [e,hjs] at f1;cases f1
 have s3:j3≠js:=fun e=>by rw [<- e,hj3.1] at f2;cases f2
 have s4:j4≠js:=fun e=>by have:=m3.blk _ _ f2;rw [<- e,hj4.1] at this;cases this
 have x1:=JS (js:=js) c1 (hne _ _ c1 j1n).1 (hne _ _ c1 j1n).2 s1;have x3:=JS (js:=js) c3 (hne _ _ c3 j3n).1 (hne _ _ c3 j3n).2 s3;have x4:=JS (js:=js) f4 (hne _ _ f4 j4n).1 (hne _ _ f4 j4n).2 s4;have hvis:=tJ _ i rest l fl j1 j3 j4 js hln x1 x3 x4 (l.length+1);refine Run.BB ?_
 refine Run.BG ((fun (a4:AV) (a17:AV)=>fun (z:Nat×AH×List Nat)=>put 4 a4 (put 17 a17 (put 18 (.d (.int .i64 z.1)) U))) _ _) (fun _=>E) (fun z=>z.2.1)
  (fun z=>z.1<=l.length/\iI l=xS l (l.length+1) z.2.2 (A8 z.1 (l.length - z.1))/\Qb (AE l.length 0) z.2.2/\(nbH σ).le z.2.1/\∃j',SX (exT i j js τ4) z.2.1 i l fl rest j' js (Co z.2.2))
  (fun z=>l.length - z.1) ?_ (0,τ4,AE l.length 0) ⟨by simp,by simp [iI,List.range_eq_range'],Qb.refl _,hmo.nb,j,hs⟩
 rintro ⟨p,τ,st⟩ ⟨hp,hfp,hle,hnb,j6,hs6⟩ ih;simp only at hp hfp hle hnb hs6;have hb4:=hs6.x _ _ x4;by_cases hlt:p < l.length
 . have hw1:=A7 (show p+1<=9000000000000000000 by omega);rw [show l.length - p=(l.length - (p+1))+1 from by omega,List.range'_succ,xS] at hfp;have hz:=AJD l.length;have hlen:st.length=l.length:=by rw [hle.1];simp
   have hcall:=hvis st j6 τ p (by have:=hle.2;omega) hlen hlt hs6;have hfl:=Z1 l (l.length+1) st p;generalize HH l (l.length+1) st p=w at *;obtain ⟨wb,ws⟩:=w;cases wb with
   |true=>
    (repeat' (refine wQ mxQ rfl ?_<;>try simp only [Ag hlt,hb4,go_sem]));refine ⟨59,[],[.gp j1 0,.gp j3 0,.gp j4 0],rfl,by kernel_rfl,AJ.mk rfl hcall ?_⟩;rintro _ τ2 ⟨rfl,hn2,j8,hs8⟩;simp only [go_sem];(repeat' (refine wQ mxQ rfl ?_<;>try simp only [hw1,go_sem]));exact ih ⟨p+1,τ2,ws⟩ ⟨hlt,by simpa using hfp,hle.trans hfl,DW hnb hn2,j8,hs8⟩ (by simp only;omega)
   |false=>
    (repeat' (refine wQ mxQ rfl ?_<;>try simp only [Ag hlt,hb4,go_sem]));refine ⟨59,[],[.gp j1 0,.gp j3 0,.gp j4 0],rfl,by kernel_rfl,AJ.mk rfl hcall ?_⟩;rintro _ τ2 ⟨rfl,hn2,j8,hs8⟩;simp only [go_sem];(repeat' ((first|refine wQ mxQ rfl ?_|refine Run.qP HY ?_|fail)<;>try simp only [go_sem]));have hf:iI l=false:=by simpa using hfp
    exact ⟨by rw [hf],j8,hs8.out hl0 hmo hjsn (DW hnb hn2)⟩
 . have hpe:p=l.length:=by omega
   subst hpe;rw [Nat.sub_self,List.range'_zero,xS] at hfp;(repeat' ((first|refine wQ mxQ rfl ?_|refine Run.qP HY ?_|fail)<;>try simp only [Bk hlt,go_sem]));exact ⟨by rw [hfp],j6,hs6.out hl0 hmo hjsn hnb⟩
end Go.Ab
namespace Go.Ab
open Go.Proofs
structure FR (l:List Nd) (d:Nat->Nat):Prop where
 lt:∀r x,l[r]?=some x->x.p=r->∀a∈x.ar,d (rtN l a) < d r
 le:∀r,d r<=l.length
def szF (l:List Nd):Nat->Nat->Nat
 |0,_=>0
 |k+1,r=>(((l[r]?).map Nd.ar).getD []).foldl (fun s a=>min (s+szF l k (rtN l a)) 201) 1
theorem foldl_congr {α β:Type} {f g:β->α->β}:∀ {l:List α} {b:β},(∀a∈l,∀b,f b a=g b a)->l.foldl f b=l.foldl g b
 |[],b,_=>rfl
 |a::l,b,h=>by
  rw [An,An,h a (AW)];exact foldl_congr fun x hx=>h x (AU _ hx)
theorem lA {l:List Nd} {d:Nat->Nat} (hg:ER l) (h:FR l d):∀(n r k k':Nat),d r<=n->(∃x,l[r]?=some x/\x.p=r)->d r < k->d r < k'->szF l k r=szF l k' r:=by
 intro n
 induction n with
 |zero=>
  intro r k k' hn ⟨x,hx,hp⟩ hk hk';obtain ⟨k,rfl⟩:∃m,k=m+1:=⟨k - 1,by omega⟩;obtain ⟨k',rfl⟩:∃m,k'=m+1:=⟨k' - 1,by omega⟩;rw [szF,szF,hx];simp only [Ad,Az];refine foldl_congr fun a ha b=>?_;have:=h.lt r x hx hp a ha;omega
 |succ n ih=>
  intro r k k' hn ⟨x,hx,hp⟩ hk hk';obtain ⟨k,rfl⟩:∃m,k=m+1:=⟨k - 1,by omega⟩;obtain ⟨k',rfl⟩:∃m,k'=m+1:=⟨k' - 1,by omega⟩;rw [szF,szF,hx];simp only [Ad,Az];refine foldl_congr fun a ha b=>?_;have h1:=h.lt r x hx hp a ha;rw [ih (rtN l a) k k' (by omega) (hg.root (hg.ar r x hx a ha)) (by omega) (by omega)]
theorem rT {f:Nat->Nat}:∀ {us:List Nat} {s:Nat},1<=s->s<=201->1<=us.foldl (fun s a=>min (s+f a) 201) s/\us.foldl (fun s a=>min (s+f a) 201) s<=201
 |[],s,h1,h2=>⟨h1,h2⟩
 |a::us,s,h1,h2=>by rw [An];exact rT (by omega) (by omega)
theorem rR (l:List Nd) (k r:Nat):1<=szF l (k+1) r/\szF l (k+1) r<=201:=by
 rw [szF];exact rT (by omega) (by omega)
def szN (l:List Nd) (n:Nat):Nat:=szF l (l.length+1) (rtN l n)
def KN (l:List Nd) (kn:List Nat):Prop:=kn.length=l.length/\∀r v,kn[r]?=some v->v=0\/v=szF l (l.length+1) r
theorem zU (ext:Nat->Option (List AV)) (i:Nat) (rest:List AV) (l:List Nd) (d:Nat->Nat) (hd:FR l d) (fl:Bool) (j1 j3 j4 js:Nat) (hln:l.length<=900000000) (h1:ext j1=some [.gp i 0]) (h3:ext j3=some [.ms js l.length 1 3]) (h4:ext j4=some [.fn 61 [] [.gp j1 0,.gp j3 0,.gp j4 0]]):
 ∀(k:Nat) (kn:List Nat) (j:Nat) (σ:AH) (n:Nat),d (rtN l n) < k->KN l kn->n < l.length->SX ext σ i l fl rest j js (Co kn)->
 AS Tzp 61 [nA n,.gp j1 0,.gp j3 0,.gp j4 0] σ (fun v σ'=>v=nA (szN l n)/\(nbH σ).le σ'/\∃kn' j',KN l kn'/\SX ext σ' i l fl rest j' js (Co kn')):=by
 intro k
 induction k with
 |zero=>intro kn j σ n h;omega
 |succ k ihk=>
 intro kn j σ n hdk hkn hn hs;have hl0:l≠[]:=fun e=>by rw [e] at hn;cases hn
 refine SQ (by simp) ?_;rw [aO];have hb1:=hs.x _ _ h1;obtain ⟨x,hx,hxp⟩:=hs.sn.Gw.root hn;have hrl:=(AF.1 hx).1;rw [szN];simp only [nA];generalize hr:rtN l n=r at *;(repeat' (first|refine ctQ rfl ?_|((first|refine rgQ mxQ ?_|refine cdQ ?_|(refine A9 rfl (fun h=>?_) (fun h=>?_)<;>try (cases h;done)))<;>try simp only [hb1,go_sem])|(refine ⟨fun h=>?_,fun h=>?_⟩<;>first|(cases h;done)|try simp only [h])|fail));refine AJ.mk rfl (HB i j l fl rest σ n hs.sn hn hln) ?_;rintro _ σ1 ⟨rfl,j5,sn5,fr5⟩;rw [hr];simp only [nA];simp only [go_sem];have hs5:=hs.step sn5 fr5;have hnb5:=fr5.nb2 (IB σ);clear hs sn5 fr5 hb1;have hb1:=hs5.x _ _ h1;have hb3:=hs5.x _ _ h3;have hbs:=hs5.row;obtain ⟨v,hv⟩:=Ak (show r < kn.length by rw [hkn.1];exact hrl);have hva:=QW hv;have hrT:=ltT hrl;by_cases h0:v=0
 . subst h0;have hb:(((0:Nat):Int)==0)=true:=rfl;obtain ⟨hji,c,hrep,hbj⟩:=hs5.sn.nd hl0;have hbi:=hs5.sn.blk;rw [Eo hl0] at hbi;obtain ⟨y,hy,yk,yn,ya⟩:=hrep.at hx;obtain ⟨_,_,y3,_⟩:=RY hy;rw [ya] at y3;(repeat' (first|refine ctQ rfl ?_|((first|refine rgQ mxQ ?_|refine cdQ ?_|(refine A9 rfl (fun h=>?_) (fun h=>?_)<;>try (cases h;done)))<;>try simp only [hb1,hb3,hbs,hva,hrT,A2,hb,hbi,hbj,y3,AA,go_sem])|(refine ⟨fun h=>?_,fun h=>?_⟩<;>first|(cases h;done)|try simp only [h])|fail));refine Run.slot 25 (fun hsl=>?_);simp only [D0,reduceIte,HS,AV.FU,AA] at hsl;refine Run.BB ?_
   refine Run.BG ((fun (a0:AV) (a2:AV) (a3:AV) (a25:AV) (a26:AV)=>fun (z:Nat×AH)=>put 0 a0 (put 2 a2 (put 3 a3 (put 6 (.d (.int .i64 (((x.ar.take z.1).foldl (fun s a=>min (s+szF l (l.length+1) (rtN l a)) 201) 1:Nat):Int))) (put 25 a25 (put 26 a26 (put 27 (.d (.int .i64 z.1)) U))))))) _ _ _ _ _) (fun _=>E) (fun z=>z.2)
    (fun z=>z.1<=x.ar.length/\(nbH σ).le z.2/\∃kn' j',KN l kn'/\SX ext z.2 i l fl rest j' js (Co kn'))
    (fun z=>x.ar.length - z.1) ?_ (0,σ1) ⟨by simp,hnb5,kn,j5,hkn,hs5⟩
   clear hkn hv hva hb1 hb3 hbs hbi hbj hs5 hrep hy y3;rintro ⟨p,τ⟩ ⟨hp,hnb,kn',j6,hkn,hs7⟩ ih;simp only at hp hnb hs7;have hb4:=hs7.x _ _ h4;by_cases hlt:p < x.ar.length
   . obtain ⟨a,ha⟩:=Ak hlt;have har:=H0 ha;have ham:=AD ha;have hal:=hs7.sn.Gw.ar _ _ hx a ham;have hda:=hd.lt r x hx hxp a ham
     have hstep:(x.ar.take (p+1)).foldl (fun s a=>min (s+szF l (l.length+1) (rtN l a)) 201) 1=min ((x.ar.take p).foldl (fun s a=>min (s+szF l (l.length+1) (rtN l a)) 201) 1+szF l (l.length+1) (rtN l a)) 201:=by
      rw [Ae ha,Cb];rfl
     have hbd:=rT (f:=fun a=>szF l (l.length+1) (rtN l a)) (us:=x.ar.take p) (s:=1) (by omega) (by omega);have hsa:=rR l l.length (rtN l a);have hw1:IntKind.i64.wrap ((p:Int)+1)=((p+1:Nat):Int):=by rw [BP (by omega) (by omega)];omega
     have hcall:=ihk kn' j6 τ a (by omega) hkn hal hs7;rw [szN] at hcall;generalize hfs:(x.ar.take p).foldl (fun s a=>min (s+szF l (l.length+1) (rtN l a)) 201) 1=s at hbd hstep;generalize szF l (l.length+1) (rtN l a)=sa at hstep hsa hcall;have hw2:IntKind.i64.wrap ((s:Int)+(sa:Int))=((s+sa:Nat):Int):=by rw [BP (by omega) (by omega)];omega
     (repeat' (first|refine ctQ rfl ?_|((first|refine rgQ mxQ ?_|refine cdQ ?_|(refine A9 rfl (fun h=>?_) (fun h=>?_)<;>try (cases h;done)))<;>try simp only [Ag hlt,har,hb4,go_sem])|(refine ⟨fun h=>?_,fun h=>?_⟩<;>first|(cases h;done)|try simp only [h])|fail));refine ⟨61,[],[.gp j1 0,.gp j3 0,.gp j4 0],rfl,by kernel_rfl,AJ.mk rfl hcall ?_⟩;rintro _ τ2 ⟨rfl,hn2,kn2,j8,hkn2,hs8⟩;simp only [nA]
     have hmm:mmA false (.d (.int .i64 ((s+sa:Nat):Int))) (.d (.int .i64 201))=some (.d (.int .i64 ((min (s+sa) 201:Nat):Int))):=by
      simp [mmA];omega
     simp only [hfs,hw2,hmm,go_sem];(repeat' (first|refine ctQ rfl ?_|((first|refine rgQ mxQ ?_|refine cdQ ?_|(refine A9 rfl (fun h=>?_) (fun h=>?_)<;>try (cases h;done)))<;>try simp only [hw1,go_sem])|(refine ⟨fun h=>?_,fun h=>?_⟩<;>first|(cases h;done)|try simp only [h])|fail));have hi:=ih ⟨p+1,τ2⟩ ⟨hlt,DW hnb hn2,kn2,j8,hkn2,hs8⟩ (by simp only;omega);simp only [hstep] at hi;exact hi
   . have hpe:p=x.ar.length:=by omega
     subst hpe;have hb3:=hs7.x _ _ h3;have hbs:=hs7.row
     have hsz:szF l (l.length+1) r=x.ar.foldl (fun s a=>min (s+szF l (l.length+1) (rtN l a)) 201) 1:=by
      have h0:=hd.le r;rw [szF,hx];simp only [Ad,Az];refine foldl_congr fun a ha b=>?_;have h1:=hd.lt r x hx hxp a ha;rw [lA hs7.sn.Gw hd (d (rtN l a)) (rtN l a) l.length (l.length+1) (AR _) (hs7.sn.Gw.root (hs7.sn.Gw.ar r x hx a ha)) (by omega) (by omega)]
     have hle2:(r+1<=(Co kn').length)=True:=by rw [Zm,hkn.1];simp;omega
     have hset:=Zn (l:=kn') (v:=szF l (l.length+1) r) (show r < kn'.length by rw [hkn.1];exact hrl)
     have hk2:KN l (kn'.set r (szF l (l.length+1) r)):=by
      refine ⟨by simp [hkn.1],fun m v hm=>?_⟩;rw [BZ] at hm;split at hm
      . rename_i e;subst e;split at hm
        . cases hm;exact .inr rfl
        . cases hm
      . exact hkn.2 m v hm
     have hat:(Co (kn'.set r (szF l (l.length+1) r)))[r]?=some (.d (.int .i64 ((szF l (l.length+1) r:Nat):Int))):=QW (by rw [BE (by rw [hkn.1];exact hrl)]);have hs9:=hs7.set (Co (kn'.set r (szF l (l.length+1) r)));have d3:(j3=js)=False:=by simp only [eq_iff_iff,iff_false];intro e;rw [e,hs7.xs] at h3;cases h3
     simp only [BM,<- hsz];(repeat' (first|refine ctQ rfl ?_|((first|refine rgQ mxQ ?_|refine cdQ ?_|refine Run.qP Gv ?_|(refine A9 rfl (fun h=>?_) (fun h=>?_)<;>try (cases h;done)))<;>try simp only [Bk hlt,hb3,hrT,A2,hbs,hle2,hset,hat,d3,go_sem])|(refine ⟨fun h=>?_,fun h=>?_⟩<;>first|(cases h;done)|try simp only [h])|fail));exact ⟨⟨fun _ _ h=>(by cases h),hnb.tok,hnb.gt,hnb.bt⟩,_,j6,hk2,hs9⟩
 . have hb:((v:Int)==0)=false:=by simpa using h0
   have hvz:v=szF l (l.length+1) r:=(hkn.2 r v hv).resolve_left h0;(repeat' (first|refine ctQ rfl ?_|((first|refine rgQ mxQ ?_|refine cdQ ?_|refine Run.qP Gv ?_|(refine A9 rfl (fun h=>?_) (fun h=>?_)<;>try (cases h;done)))<;>try simp only [hb3,hbs,hva,hrT,A2,hb,go_sem])|(refine ⟨fun h=>?_,fun h=>?_⟩<;>first|(cases h;done)|try simp only [h])|fail));rw [<- hvz];exact ⟨rfl,hnb5,kn,j5,hkn,hs5⟩
end Go.Ab
namespace Go.Ab
theorem AMT {f:Nat->Nat}:∀ {us:List Nat} {s:Nat},s<=201->s<=us.foldl (fun s a=>min (s+f a) 201) s
 |[],s,_=>AR _
 |a::us,s,h=>by
  rw [An];exact Ah (by omega) (AMT (us:=us) (s:=min (s+f a) 201) (by omega))
theorem AIW {f:Nat->Nat}:∀ {us:List Nat} {s:Nat},s<=201->us.foldl (fun s a=>min (s+f a) 201) s<=200->s+(us.map f).sum<=200
 |[],s,_,h=>by simpa using h
 |a::us,s,hs,h=>by
  rw [An] at h;have h1:=AMT (f:=f) (us:=us) (s:=min (s+f a) 201) (by omega);have h2:=AIW (us:=us) (s:=min (s+f a) 201) (by omega) h;rw [AG,Et];omega
theorem ABN {f:Nat->Nat}:∀ {us:List Nat} {a:Nat},a∈us->f a<=(us.map f).sum
 |b::us,a,h=>by
  rw [AG,Et];rcases As.1 h with rfl|h
  . omega
  . have:=ABN (f:=f) h;omega
theorem ABM {f:Nat->Nat}:∀ {us:List Nat},(∀a∈us,1<=f a)->us.length<=(us.map f).sum
 |[],_=>AR _
 |b::us,h=>by
  rw [AG,Et,A0];have:=h b (AW);have:=ABM (f:=f) (us:=us) (fun a ha=>h a (AU _ ha));omega
theorem rS {l:List Nd} {d:Nat->Nat} (hg:ER l) (h:FR l d) {n:Nat} {x:Nd} (hx:l[rtN l n]?=some x) (hp:x.p=rtN l n) (hs:szN l n<=200):1+(x.ar.map (szN l)).sum<=200:=by
 rw [szN,szF,hx] at hs;simp only [Ad,Az] at hs;have h1:=AIW (by omega) hs
 have:x.ar.map (szN l)=x.ar.map (fun a=>szF l l.length (rtN l a)):=FF fun a ha=>by
  have h1:=h.lt _ x hx hp a ha;have h0:=h.le (rtN l n);exact lA hg h (d (rtN l a)) (rtN l a) (l.length+1) l.length (AR _) (hg.root (hg.ar _ x hx a ha)) (by omega) (by omega)
 rw [this];exact h1
theorem lB {l:List Nd} {d:Nat->Nat} (hg:ER l) (h:FR l d) {n:Nat} {x:Nd} (hx:l[rtN l n]?=some x) (hp:x.p=rtN l n) (hs:szN l n<=200):x.ar.length<=199/\∀a∈x.ar,szN l a<=200:=by
 have h1:=rS hg h hx hp hs;have h2:=ABM (f:=szN l) (us:=x.ar) (fun a _=>(rR l l.length (rtN l a)).1);exact ⟨by omega,fun a ha=>by have:=ABN (f:=szN l) ha;omega⟩
theorem AIV {l:List Nd} {d:Nat->Nat} (hg:ER l) (h:FR l d) {n:Nat} {x:Nd} (hx:l[rtN l n]?=some x) (hp:x.p=rtN l n) (hs:szN l n<=200):szN l n=1+(x.ar.map (szN l)).sum:=by
 have h1:=rS hg h hx hp hs
 have h4:szN l n=x.ar.foldl (fun s a=>min (s+szN l a) 201) 1:=by
  rw [szN,szF,hx];simp only [Ad,Az];refine foldl_congr fun a ha b=>?_;have h1:=h.lt _ x hx hp a ha;have h0:=h.le (rtN l n);rw [szN,lA hg h (d (rtN l a)) (rtN l a) l.length (l.length+1) (AR _) (hg.root (hg.ar _ x hx a ha)) (by omega) (by omega)]
 have h5:∀(us:List Nat) (s:Nat),s+(us.map (szN l)).sum<=200->us.foldl (fun s a=>min (s+szN l a) 201) s=s+(us.map (szN l)).sum:=by
  intro us
  induction us with
  |nil=>intro s _;simp
  |cons a us ih2=>
   intro s hs;rw [AG,Et] at hs ⊢;rw [An,show min (s+szN l a) 201=s+szN l a from by omega,ih2 _ (by omega)];omega
 rw [h4,h5 _ _ h1]
def rdF (l:List Nd) (es:List (Int×Int)):Nat->Nat->Ty
 |0,_=>.mk 3 0 []
 |k+1,r=>match l[r]? with
  |none=>.mk 3 0 []
  |some x=>if x.k=0 then (match es.lookup (r:Int) with
   |some i=>.mk 4 i []
   |none=>.mk 3 0 []) else .mk x.k x.n (x.ar.map fun a=>rdF l es k (rtN l a))
def rdN (l:List Nd) (es:List (Int×Int)) (n:Nat):Ty:=rdF l es (l.length+1) (rtN l n)
theorem AH7 {l:List Nd} {es:List (Int×Int)} {d:Nat->Nat} (hg:ER l) (h:FR l d):∀(n r k k':Nat),d r<=n->(∃x,l[r]?=some x/\x.p=r)->d r < k->d r < k'->rdF l es k r=rdF l es k' r:=by
 intro n
 induction n with
 |zero=>
  intro r k k' hn ⟨x,hx,hp⟩ hk hk';obtain ⟨k,rfl⟩:∃m,k=m+1:=⟨k - 1,by omega⟩;obtain ⟨k',rfl⟩:∃m,k'=m+1:=⟨k' - 1,by omega⟩;rw [rdF,rdF,hx];simp only;split
  . rfl
  . congr 1;refine FF fun a ha=>?_;have:=h.lt r x hx hp a ha;omega
 |succ n ih=>
  intro r k k' hn ⟨x,hx,hp⟩ hk hk';obtain ⟨k,rfl⟩:∃m,k=m+1:=⟨k - 1,by omega⟩;obtain ⟨k',rfl⟩:∃m,k'=m+1:=⟨k' - 1,by omega⟩;rw [rdF,rdF,hx];simp only;split
  . rfl
  . congr 1;refine FF fun a ha=>?_;have h1:=h.lt r x hx hp a ha;exact ih (rtN l a) k k' (by omega) (hg.root (hg.ar r x hx a ha)) (by omega) (by omega)
theorem cH {l:List Nd} {es:List (Int×Int)} {d:Nat->Nat} (hg:ER l) (h:FR l d) {n:Nat} {x:Nd} (hx:l[rtN l n]?=some x) (hp:x.p=rtN l n):
 rdN l es n=if x.k=0 then (match es.lookup (rtN l n:Int) with
  |some i=>.mk 4 i []
  |none=>.mk 3 0 []) else .mk x.k x.n (x.ar.map (rdN l es)):=by
 rw [rdN,rdF,hx];simp only;split
 . rfl
 . congr 1;refine FF fun a ha=>?_;have h1:=h.lt _ x hx hp a ha;have h0:=h.le (rtN l n);exact AH7 hg h (d (rtN l a)) (rtN l a) l.length (l.length+1) (AR _) (hg.root (hg.ar _ x hx a ha)) (by omega) (by omega)
theorem Ty.o7 {α:Type} (f:α->Ty):∀us:List α,Ty.AT (us.map f)=(us.map fun a=>(f a).size).sum
 |[]=>rfl
 |a::us=>by rw [AG,Ty.AT,Ty.o7 f us];rfl
theorem AIT {f g:Nat->Nat}:∀ {us:List Nat},(∀a∈us,f a<=g a)->(us.map f).sum<=(us.map g).sum
 |[],_=>AR _
 |b::us,h=>by
  rw [AG,AG,Et,Et];have:=h b (AW);have:=AIT (f:=f) (g:=g) (us:=us) (fun a ha=>h a (AU _ ha));omega
theorem uY {l:List Nd} {es:List (Int×Int)} {d:Nat->Nat} (hg:ER l) (h:FR l d):∀(N n:Nat),n < l.length->d (rtN l n)<=N->szN l n<=200->(rdN l es n).size<=szN l n:=by
 intro N
 induction N with
 |zero=>
  intro n hn hd hs;obtain ⟨x,hx,hp⟩:=hg.root hn;have hb:=rR l l.length (rtN l n);rw [cH hg h hx hp]
  have hk:x.ar=[]:=by
   cases hxa:x.ar with
   |nil=>rfl
   |cons a _=>have:=h.lt _ x hx hp a (by rw [hxa];exact AW);omega
  change 1<=szN l n/\_ at hb;split
  . split<;>(simp only [Ty.size,Ty.AT];omega)
  . rw [hk];simp only [AN,Ty.size,Ty.AT];omega
 |succ N ih=>
  intro n hn hd hs;obtain ⟨x,hx,hp⟩:=hg.root hn;have hb:=rR l l.length (rtN l n);change 1<=szN l n/\_ at hb;rw [cH hg h hx hp];split
  . split<;>(simp only [Ty.size,Ty.AT];omega)
  . have h1:=rS hg h hx hp hs;have h2:=(lB hg h hx hp hs).2;have h3:=AIV hg h hx hp hs;rw [h3,Ty.size,Ty.o7];have:=AIT (f:=fun a=>(rdN l es a).size) (g:=szN l) (us:=x.ar) (fun a ha=>ih a (hg.ar _ x hx a ha) (by have:=h.lt _ x hx hp a ha;omega) (h2 a ha));omega
end Go.Ab
namespace Go.Ab
open Go.Proofs
def szC (j1 j3 j4:Nat):AV:= .fn 61 [] [.gp j1 0,.gp j3 0,.gp j4 0]
theorem KN.zero (l:List Nd):KN l (AE l.length 0):=⟨by simp,fun r v h=>by
 rw [QE] at h;split at h
 . cases h;exact .inl rfl
 . cases h⟩
theorem fT (i:Nat) (rest:List AV) (l:List Nd) (fl:Bool) (j:Nat) (σ:AH) (hl0:l≠[]) (hln:l.length<=900000000) (h:SN σ i l fl rest j):
 AS Tzp 30 [.gp i 0] σ (fun v σ'=>∃j1 j3 j4 js,v=szC j1 j3 j4/\Mo σ σ'/\σ.blk js=none/\SX (exT i j js σ') σ' i l fl rest j js (Co (AE l.length 0))/\
  exT i j js σ' j1=some [.gp i 0]/\exT i j js σ' j3=some [.ms js l.length 1 3]/\exT i j js σ' j4=some [szC j1 j3 j4]):=by
 have hbi:=h.blk;rw [Eo hl0] at hbi;obtain ⟨hji,c0,hc0,hbj⟩:=h.nd hl0;refine Uk (by simp) ?_;rw [Bs];(repeat' (first|refine ctQ rfl ?_|((first|refine rgQ mxQ ?_|refine cdQ ?_|(refine A9 rfl (fun h=>?_) (fun h=>?_)<;>try (cases h;done)))<;>try simp only [go_sem])|(refine ⟨fun h=>?_,fun h=>?_⟩<;>first|(cases h;done)|try simp only [h])|fail));intro j1 hj1;have m1:=(Mo.refl σ).new hj1 [AV.gp i 0];have f1:(σ.AM j1 [AV.gp i 0]).blk j1=some [AV.gp i 0]:=BQ;generalize σ.AM j1 [AV.gp i 0]=τ1 at *;have hbi1:=m1.blk _ _ hbi;(repeat' (first|refine ctQ rfl ?_|((first|refine rgQ mxQ ?_|refine cdQ ?_|(refine A9 rfl (fun h=>?_) (fun h=>?_)<;>try (cases h;done)))<;>try simp only [hbi1,f1,go_sem])|(refine ⟨fun h=>?_,fun h=>?_⟩<;>first|(cases h;done)|try simp only [h])|fail));refine Nz.mk l.length (by omega) (by omega) (fun js hjs=>?_);rw [Zs];have m2:=(Mo.refl τ1).new hjs (Co (AE l.length 0));have f2:(τ1.AM js (Co (AE l.length 0))).blk js=some (Co (AE l.length 0)):=BQ;generalize τ1.AM js (Co (AE l.length 0))=τ2 at *;simp only [go_sem];intro j3 hj3;simp only [Ib,go_sem];have m3:=(Mo.refl τ2).uK hj3 [AV.Af] [AV.ms js l.length 1 3] (1,74)
 have f3:(((τ2.AM j3 [AV.Af]).Br j3 (1,74)).AM j3 [AV.ms js l.length 1 3]).blk j3=some [AV.ms js l.length 1 3]:=BQ;generalize ((τ2.AM j3 [AV.Af]).Br j3 (1,74)).AM j3 [AV.ms js l.length 1 3]=τ3 at *;(repeat' (first|refine ctQ rfl ?_|((first|refine rgQ mxQ ?_|refine cdQ ?_|(refine A9 rfl (fun h=>?_) (fun h=>?_)<;>try (cases h;done)))<;>try simp only [go_sem])|(refine ⟨fun h=>?_,fun h=>?_⟩<;>first|(cases h;done)|try simp only [h])|fail));intro j4 hj4;have m4:=(Mo.refl τ3).uK hj4 [AV.HK] [szC j1 j3 j4] (1,96);have f4:(((τ3.AM j4 [AV.HK]).Br j4 (1,96)).AM j4 [szC j1 j3 j4]).blk j4=some [szC j1 j3 j4]:=BQ;have g1:=m3.blk _ _ (m2.blk _ _ f1);(repeat' (first|refine ctQ rfl ?_|((first|refine rgQ mxQ ?_|refine cdQ ?_|refine Run.qP Le ?_|(refine A9 rfl (fun h=>?_) (fun h=>?_)<;>try (cases h;done)))<;>try simp only [Ib,go_sem])|(refine ⟨fun h=>?_,fun h=>?_⟩<;>first|(cases h;done)|try simp only [h])|fail));have he:(((τ3.AM j4 [AV.HK]).Br j4 (1,96)).AM j4 [.fn 61 [] [.gp j1 0,.gp j3 0,.gp j4 0]])=(((τ3.AM j4 [AV.HK]).Br j4 (1,96)).AM j4 [szC j1 j3 j4]):=rfl;rw [he];generalize ((τ3.AM j4 [AV.HK]).Br j4 (1,96)).AM j4 [szC j1 j3 j4]=τ4 at *;have hmo:Mo σ τ4:=((m1.trans m2).trans m3).trans m4
 have c1:=m4.blk _ _ g1;have c3:=m4.blk _ _ f3;have cs:=m4.blk _ _ (m3.blk _ _ f2);have hjsn:σ.blk js=none:=m1.ne hjs;have hs:=SX.mk' h hl0 hmo cs hjsn;have hne:∀k c,τ4.blk k=some c->σ.blk k=none->k≠i/\k≠j:=fun k c _ h2=>⟨fun e=>(by rw [e,h.blk] at h2;cases h2),fun e=>(by rw [e,hbj] at h2;cases h2)⟩;have j1n:σ.blk j1=none:=by assumption
 have j3n:σ.blk j3=none:=(m1.trans m2).ne hj3.1;have j4n:σ.blk j4=none:=((m1.trans m2).trans m3).ne hj4.1;have s1:j1≠js:=fun e=>by rw [e,hjs] at f1;cases f1
 have s3:j3≠js:=fun e=>by rw [<- e,hj3.1] at f2;cases f2
 have s4:j4≠js:=fun e=>by have:=m3.blk _ _ f2;rw [<- e,hj4.1] at this;cases this
 exact ⟨j1,j3,j4,js,rfl,hmo,hjsn,hs,JS (js:=js) c1 (hne _ _ c1 j1n).1 (hne _ _ c1 j1n).2 s1,JS (js:=js) c3 (hne _ _ c3 j3n).1 (hne _ _ c3 j3n).2 s3,JS (js:=js) f4 (hne _ _ f4 j4n).1 (hne _ _ f4 j4n).2 s4⟩
end Go.Ab
namespace Go.Ab
structure En where
 t:Nat
 f:Int
 ar:List Nat
structure Sch where
 vars:Int
 params:List Ty
 res:Ty
structure GC where
 fs:List FE
 dt:List Dat
 sch:List Sch
 mem:List Bool
 ps:List (List Nat)
 rs:List Nat
structure GS where
 s:SS
 en:List En
def GS.add (g:GS) (k n:Int) (ar:List Nat):GS:= { g with s:=(Kh g.s.1 k n ar,g.s.2)}
def GS.uni (g:GS) (a b:Nat):GS:= { g with s:=Go.Ab.uni g.s a b}
def GS.nx (g:GS):Nat:=g.s.1.length
def GS.frs (g:GS) (n:Nat):GS:= { g with s:=(GG g.s.1 n,g.s.2)}
def GS.Si (g:GS) (at_:Nat) (f:En->En):GS:= { g with en:=g.en.modify at_ f}
abbrev Env:=List (Str×Nat)
def Nq:Env->Str->Option Nat
 |[],_=>none
 |x::e,s=>if x.1=s then some x.2 else Nq e s
def C8:Env->List Str->List Nat->Env
 |e,s::ss,t::ts=>C8 (if s=[] then e else (s,t)::e) ss ts
 |e,_,_=>e
def ANT (ar:List Nat) (ps:List Ty) (r:Ty) (g:GS):Nat×GS:=
 let p:=Ba ar g.s.1 ps
 let q:=Ey ar p.2 r
 (q.2.length, { g with s:=(Kh q.2 9 0 (p.1++[q.1]),g.s.2)})
def AIB (G:GC) (f at_:Nat) (g:GS):Nat×GS:=
 if G.mem.getD f false then (g.nx,g.add 9 0 ((G.ps.getD f [])++[G.rs.getD f 0]))
                                               else match G.sch[f]? with
  |none=>(0,g)
  |some s=>ANT (A8 g.nx s.vars.toNat) s.params s.res ((g.frs s.vars.toNat).Si at_ fun e=> { e with ar:=A8 g.nx s.vars.toNat})
def ZA (G:GC) (env:Env) (nm:Str) (at_:Nat) (g:GS):Nat×GS:=
 match Nq env nm with
 |some t=>(t,g)
 |none=>AIB G ((DK (DN G.fs) nm).getD 0) at_ (g.Si at_ fun e=> { e with f:=(((DK (DN G.fs) nm).getD 0:Nat):Int)})
def l9 (o:Int):Int:=if o=2 then 2 else if o=3 then 1 else 3
def X8 (n:Int) (b:Nat):List Nat×Nat:=
 if n=1 then ([b,b+1],b+2) else if n=2 then ([b+2,b],b+1) else if n=3 then ([b+2,b,b+1],b+4) else if n=4 then ([b+2],b)
                                                                                                                else if n=5 then ([b+1],b+3) else if n=6 then ([b+3],b+1) else if n=7 then ([b+3,b+1],b+4) else ([],b+4)
mutual
def Bc (G:GC):Ex->Env->GS->Nat×GS
 | .mk o nm nu ns ks al,env,g0=>
  let at_:=g0.en.length
  let g:GS:= { g0 with en:=g0.en++[⟨0,-1,[]⟩]}
  let r:Nat×GS:=
   if o=4 then ZA G env nm at_ g
    else if o=1\/o=2\/o=3\/o=15 then (g.nx,g.add (l9 o) 0 [])
    else if o=5 then (let q:=C5 G ks env g;(q.2.nx,q.2.add 6 0 q.1))
    else if o=6 then (match Em G.dt nm with
    |none=>(0,g)
    |some (d,c)=>match G.dt[d]? with
     |none=>(0,g)
     |some D=>
      let ar:=A8 g.nx D.vars.toNat
      let g:=D7 G ks env 0 (fun i r s=>let q:=Ey ar s.1 (((D.cons[c]?).map Con.args).getD []|>.getD i (.mk 0 0 []));Go.Ab.uni (q.2,s.2) r q.1) (g.frs D.vars.toNat)
      (g.nx,g.add 5 d ar))
        else if o=10 then (match al with
    |[]=>(0,g)
    |a::_=>match Em G.dt a.con with
     |none=>(0,g)
     |some (d,_)=>match G.dt[d]? with
      |none=>(0,g)
      |some D=>
       let ar:=A8 g.nx D.vars.toNat
       let g:=Iv G ks env (g.frs D.vars.toNat)
       let r:=g.1
       let g:=(g.2.add 5 d ar).uni r g.2.nx
       let t:=g.nx
       (t,UN G al env D ar t (g.add 0 0 [])))
                               else if o=12 then
    (let q:=C5 G ks env g
     let t:=q.2.nx
     let g:=(q.2.add 0 0 []).add 9 0 (q.1.tail++[t])
     (t,g.uni (q.1.headD 0) (t+1)))
                              else if o=13 then
    (let g:=D7 G ks env 0 (fun _ r s=>Go.Ab.uni (Kh s.1 1 0 [],s.2) r s.1.length) g
     (g.nx,g.add (if 6<=nu/\nu<=8 then 2 else 1) 0 []))
                   else if o=14 then
    (let b:=g.nx
     let g:=((((g.add 1 0 []).add 0 0 []).add 7 0 [b+1]).add 8 0 [b+1]).add 3 0 []
     let g:=D7 G ks env 0 (fun i r s=>Go.Ab.uni s r ((X8 nu b).1.getD i 0)) g
     ((X8 nu b).2,g))
        else if o=16 then
    (let q:=Iv G ks env g
     let g:=(q.2.add 1 0 []).uni q.1 q.2.nx
     (g.nx,g.add 0 0 []))
       else if o=7 then (let q:=Iv G ks env g;S3 G ks (C8 env [nm] [q.1]) q.2)
       else if o=8 then
    (let parts:=A8 g.nx ns.length
     let q:=Iv G ks env (g.frs ns.length)
     S3 G ks (C8 env ns parts) ((q.2.add 6 0 parts).uni q.1 q.2.nx))
                                  else if o=9 then
    (let q:=Iv G ks env g
     let q1:=S3 G ks env ((q.2.add 2 0 []).uni q.1 q.2.nx)
     let q2:=oN G ks env q1.2
     (q1.1,q2.2.uni q2.1 q1.1))
       else if o=11 then
    (let params:=A8 g.nx ns.length
     let q:=Iv G ks (C8 env ns params) (g.frs ns.length)
     (q.2.nx,q.2.add 9 0 (params++[q.1])))
                           else
    (let q:=Iv G ks env g
     let r:=S3 G ks (C8 env [nm] [q.2.nx]) (q.2.add 1 0 [])
     (q.1,r.2.uni r.1 q.1))
  (r.1,r.2.Si at_ fun e=> { e with t:=r.1})
def C5 (G:GC):List Ex->Env->GS->List Nat×GS
 |[],_,g=>([],g)
 |k::ks,env,g=>let r:=Bc G k env g;let q:=C5 G ks env r.2;(r.1::q.1,q.2)
def Iv (G:GC):List Ex->Env->GS->Nat×GS
 |[],_,g=>(0,g)
 |k::_,env,g=>Bc G k env g
def S3 (G:GC):List Ex->Env->GS->Nat×GS
 |[],_,g=>(0,g)
 |_::ks,env,g=>Iv G ks env g
def oN (G:GC):List Ex->Env->GS->Nat×GS
 |[],_,g=>(0,g)
 |_::ks,env,g=>S3 G ks env g
def D7 (G:GC):List Ex->Env->Nat->(Nat->Nat->SS->SS)->GS->GS
 |[],_,_,_,g=>g
 |k::ks,env,i,f,g=>let r:=Bc G k env g;D7 G ks env (i+1) f { r.2 with s:=f i r.1 r.2.s}
def UN (G:GC):List Al->Env->Dat->List Nat->Nat->GS->GS
 |[],_,_,_,_,g=>g
 | .mk c vs b::al,env,D,ar,t,g=>
  let cc:=((Em G.dt c).map (·.2)).getD 0
  let q:=Ba ar g.s.1 (((D.cons[cc]?).map Con.args).getD [])
  let r:=Bc G b (C8 env vs q.1) { g with s:=(q.2,g.s.2)}
  UN G al env D ar t (r.2.uni r.1 t)
end
end Go.Ab
namespace Go.Ab
open Go.Proofs
def Ix:Env->DV
 |[]=>.GK
 |x::e=>.ptr [.str x.1,.int .i64 (x.2:Int),Ix e]
theorem oB (s:Str) (t:Nat) (e:Env):Ix ((s,t)::e)= .ptr [.str s,.int .i64 (t:Int),Ix e]:=rfl
structure PlV (x:AV) (v:DV):Prop where
 dv:x.dv=some v
 cell:x.B5=true
 BF:x.BF=true
 cells:x.cells=[x]
 BT:∀k,x.BT k=false
 plain:x.plain= .d v
theorem PlV.d (v:DV):PlV (.d v) v:=⟨rfl,rfl,rfl,rfl,fun _=>rfl,Jh v⟩
theorem PlV.GK:PlV .GK .GK:=⟨rfl,rfl,rfl,rfl,fun _=>rfl,Yo⟩
theorem pF:∀(ns:List Str) (ts:List Nat) (e:Env) (s:Str) (t:Nat),ns.length=ts.length->C8 e (ns++[s]) (ts++[t])=if s=[] then C8 e ns ts else (s,t)::C8 e ns ts
 |[],[],e,s,t,_=>rfl
 |[],_::_,_,_,_,h=>by simp at h
 |_::_,[],_,_,_,h=>by simp at h
 |n::ns,u::ts,e,s,t,h=>by
  simp only [AX,C8];exact pF ns ts _ s t (by simpa using h)
theorem J3 (x:AV) (env:Env) (hx:PlV x (Ix env)) (ns:List Str) (ts:List Nat) (hl:ns.length=ts.length) (σ:AH):
 AS Tzp 57 [x,.d (.sl (ns.map Bb)),.d (.sl (ts.map CC))] σ (fun v σ'=>v= .d (Ix (C8 env ns ts))/\σ'=σ):=by
 refine X0 (by simp) ?_;rw [D6];refine Run.slot 1 (fun hb0=>?_);simp only [D0,reduceIte,HS,AV.FU,AA] at hb0;(repeat' (refine wQ mxQ rfl ?_<;>try simp only [hx.cell,hx.BF,hx.cells,hx.BT,AA,go_sem]));refine Run.BB ?_;refine Run.BG ((fun (a2:AV) (a9:AV) (a10:AV)=>fun (z:Nat×AV)=>put 0 (z.2) (put 2 a2 (put 9 a9 (put 10 a10 (put 11 (.d (.int .i64 z.1)) U))))) _ _ _) (fun _=>E) (fun _=>σ) (fun z=>z.1<=ns.length/\PlV z.2 (Ix (C8 env (ns.take z.1) (ts.take z.1)))) (fun z=>ns.length - z.1) ?_ (0,x) ⟨by simp,by simpa [C8] using hx⟩;rintro ⟨p,y⟩ ⟨hp,hy⟩ ih;simp only at hp hy;by_cases hlt:p < ns.length
 . obtain ⟨s,hs⟩:=Ak hlt;obtain ⟨t,ht⟩:=Ak (show p < ts.length by omega);have hsr:(ns.map Bb)[p]?=some [.str s]:=by rw [Ao,hs];rfl
   have htr:=H0 ht;have hw1:IntKind.i64.wrap ((p:Int)+1)=((p+1:Nat):Int):=by rw [BP (by omega) (by omega)];omega
   have hstep:=pF (ns.take p) (ts.take p) env s t (by simp;omega);rw [<- Ae hs,<- Ae ht] at hstep;by_cases h0:s=[]
   . subst h0;rw [if_pos rfl] at hstep;(repeat' (first|((first|refine wQ mxQ rfl ?_|(refine A9 rfl (fun h=>?_) (fun h=>?_)<;>try (cases h;done))|fail)<;>try simp only [Ag hlt,hsr,htr,hw1,hy.dv,hy.cell,hy.BF,hy.cells,hy.BT,beq_self_eq_true,go_sem])|(refine ⟨fun h=>?_,fun h=>?_⟩<;>first|(cases h;done)|try simp only [h])|fail));exact ih (p+1,y) ⟨hlt,by simp only;rw [hstep];exact hy⟩ (by simp only;omega)
   . rw [if_neg h0] at hstep;have hb:(s==[])=false:=by simpa using h0
     (repeat' (first|refine ctQ rfl ?_|((first|refine rgQ mxQ ?_|refine cdQ ?_|(refine A9 rfl (fun h=>?_) (fun h=>?_)<;>try (cases h;done)))<;>try simp only [Ag hlt,hsr,htr,hw1,hb,hy.dv,hy.cell,hy.BF,hy.cells,hy.BT,go_sem])|(refine ⟨fun h=>?_,fun h=>?_⟩<;>first|(cases h;done)|try simp only [h])|fail));exact ih (p+1,_) ⟨hlt,by simp only;rw [hstep];exact PlV.d _⟩ (by simp only;omega)
 . have hpe:p=ns.length:=by omega
   rw [hpe,BM,hl,BM] at hy;(repeat' ((first|refine wQ mxQ rfl ?_|refine Run.qP Ni ?_|fail)<;>try simp only [Bk hlt,hy.dv,hy.cell,hy.BF,hy.cells,hy.BT,hy.plain,go_sem]))
def AG8:Option Nat->AV
 |some t=>.tup [.d (.int .i64 (t:Int)),.d (.bool true)]
 |none=>.tup [.d (.int .i64 0),.d (.bool false)]
theorem mT (env:Env) (s:Str) (σ:AH):
 AS Tzp 121 [.d (Ix env),.d (.str s)] σ (fun v σ'=>v=AG8 (Nq env s)/\σ'=σ):=by
 refine XZ (by simp) ?_;rw [BS];(repeat' (refine wQ mxQ rfl ?_<;>try simp only [go_sem]));refine Run.BB ?_;refine Run.BG ((fun (a1:AV)=>fun (e:Env)=>put 0 (.d (Ix e)) (put 1 a1 U)) _) (fun _=>E) (fun _=>σ) (fun e=>Nq e s=Nq env s) (fun e=>e.length) ?_ env rfl;rintro e he ih;cases e with
 |nil=>
  rw [<- he];(repeat' ((first|refine wQ mxQ rfl ?_|refine Run.qP Iz ?_|fail)<;>try simp only [Ix,go_sem]));rfl
 |cons x e=>
  obtain ⟨n,t⟩:=x;rw [Nq] at he;simp only at he;by_cases h:n=s
  . have hb:(n==s)=true:=by simpa using h
    rw [if_pos h] at he;rw [<- he];(repeat' (first|refine ctQ rfl ?_|((first|refine rgQ mxQ ?_|refine cdQ ?_|refine Run.qP Iz ?_|(refine A9 rfl (fun h=>?_) (fun h=>?_)<;>try (cases h;done)))<;>try simp only [oB,hb,go_sem])|(refine ⟨fun h=>?_,fun h=>?_⟩<;>first|(cases h;done)|try simp only [h])|fail));rfl
  . have hb:(n==s)=false:=by simpa using h
    rw [if_neg h] at he;(repeat' (first|refine ctQ rfl ?_|((first|refine rgQ mxQ ?_|refine cdQ ?_|(refine A9 rfl (fun h=>?_) (fun h=>?_)<;>try (cases h;done)))<;>try simp only [oB,hb,go_sem])|(refine ⟨fun h=>?_,fun h=>?_⟩<;>first|(cases h;done)|try simp only [h])|fail));exact ih e he (by simp)
end Go.Ab
namespace Go.Ab
open Go.Proofs
section rows
variable {α:Type} (r:α->List AV) (s:Nat) (hr:∀x,(r x).length=s)
def rwC (l:List α):List AV:=(l.map r).flatten
include hr
theorem OU (l:List α):(rwC r l).length=l.length * s:=by
 induction l with
 |nil=>simp [rwC]
 |cons x l ih=>
  simp only [rwC,AG,BK,A1,A0] at ih ⊢;rw [ih,hr,CA,Nat.one_mul];omega
omit hr in
theorem ALJ (l m:List α):rwC r (l++m)=rwC r l++rwC r m:=by simp [rwC]
omit hr in
theorem HA (x:α) (l:List α):rwC r (x::l)=r x++rwC r l:=by simp [rwC]
theorem AIH:∀ {l:List α} {i:Nat} {x:α} (o:Nat),l[i]?=some x->o < s->(rwC r l)[i * s+o]?=(r x)[o]?
 |y::l,0,x,o,h,ho=>by
  simp only [Av,AK] at h;subst h;rw [HA,NO,BU,BH (by rw [hr];exact ho)]
 |y::l,i+1,x,o,h,ho=>by
  have:=AIH (l:=l) (i:=i) (x:=x) o (by simpa using h) ho;rw [HA,At (by rw [hr,CA];omega),hr,<- this];congr 1;rw [CA];omega
theorem rI:∀ {l:List α} {i:Nat} {x:α},l[i]?=some x->((rwC r l).drop (i * s)).take s=r x
 |y::l,0,x,h=>by
  simp only [Av,AK] at h;subst h;rw [HA,NO,Re,List.take_left' (hr _)]
 |y::l,i+1,x,h=>by
  have:=rI (l:=l) (i:=i) (x:=x) (by simpa using h);rw [HA,show (i+1) * s=(r y).length+i * s from by rw [hr,CA];omega,HF];exact this
theorem rJ (o:Nat) (v:AV) (f:α->α):∀ {l:List α} {i:Nat} {x:α},l[i]?=some x->o < s->(r x).take o++[v]++(r x).drop (o+1)=r (f x)->(rwC r l).take (i * s+o)++[v]++(rwC r l).drop (i * s+o+1)=rwC r (l.modify i f)
 |y::l,0,x,h,ho,e=>by
  simp only [Av,AK] at h;subst h;rw [show (y::l).modify 0 f=f y::l from rfl,HA,HA,<- e,NO,BU,List.take_append_of_le_length (by rw [hr];omega),List.drop_append_of_le_length (by rw [hr];omega)];simp
 |y::l,i+1,x,h,ho,e=>by
  have:=rJ (l:=l) (i:=i) (x:=x) o v f (by simpa using h) ho e
  rw [show (y::l).modify (i+1) f=y::l.modify i f from rfl,HA,HA,<- this,show (i+1) * s+o=(r y).length+(i * s+o) from by rw [hr,CA];omega,YJ,
   show (r y).length+(i * s+o)+1=(r y).length+(i * s+o+1) from by omega,HF]
  simp
end rows
def En.row (x:En):List AV:=[.d (.int .i64 (x.t:Int)),.d (.int .i64 x.f),.d (.sl (x.ar.map CC))]
theorem En.F9 (x:En):x.row.length=3:=rfl
abbrev enC:=rwC En.row
abbrev tkE:Nat:=148
def enV (en:List En) (jc:Nat):AV:=match en with
 |[]=>.Af
 |_::_=>.ms jc en.length 3 tkE
theorem V7 {en:List En} (h:en≠[]) (j:Nat):enV en j= .ms j en.length 3 tkE:=by
 cases en with
 |nil=>exact absurd rfl h
 |cons x l=>rfl
theorem SB (l:List En) (j:Nat):(enV l j).B5=true/\(enV l j).BF=true/\(enV l j).cells=[enV l j]/\(∀k,(enV l j).BT k=false)/\S4 (enV l j)=some (.d (.int .i64 l.length)):=by
 cases l<;>exact ⟨rfl,rfl,rfl,fun _=>rfl,rfl⟩
def Sch.row (x:Sch):List AV:=[.d (.int .i64 x.vars),.d (.sl (x.params.map Ty.enc)),.d (.int .i64 x.res.kind),.d (.int .i64 x.res.num),.d (.sl (x.res.args.map Ty.enc))]
theorem Sch.F9 (x:Sch):x.row.length=5:=rfl
abbrev Tw:=rwC Sch.row
def psC (l:List (List Nat)):List AV:=l.map fun a=>.d (.sl (a.map CC))
abbrev eMm:Nat:=4
abbrev ePp:Nat:=74
abbrev eEe:Nat:=146
abbrev eSs:Nat:=48
structure GB where
 i:Nat
 je:Nat
 jm:Nat
 jp:Nat
 jr:Nat
 js:Nat
 ext:Nat->Option (List AV)
 G:GC
 ds:List DE
 cur:Nat
 es:List AV
def GB.rest (B:GB):List AV:=[.d (.sl (B.ds.map DE.enc)),.d (.sl (B.G.fs.map FE.enc)),dsA B.G.dt,.ms B.js B.G.sch.length 5 eSs,.ms B.jm B.G.mem.length 1 eMm,.ms B.jp B.G.ps.length 1 ePp,.ms B.jr B.G.rs.length 1 3,.ms B.je B.es.length 1 eEe,.d (.int .i64 (B.cur:Int))]
structure HP (B:GB):Prop where
 ie:B.i≠B.je
 xi:B.ext B.i=none
 xe:B.ext B.je=none
 m:B.ext B.jm=some (BL B.G.mem)
 p:B.ext B.jp=some (psC B.G.ps)
 r:B.ext B.jr=some (Co B.G.rs)
 s:B.ext B.js=some (Tw B.G.sch)
 cur:B.cur < B.es.length
 lm:B.G.mem.length=B.G.fs.length
 lp:B.G.ps.length=B.G.fs.length
 lr:B.G.rs.length=B.G.fs.length
 ls:B.G.sch.length=B.G.fs.length
 lf:B.G.fs.length<=100
structure GI (G:GC) (g:GS):Prop where
 pos:0 < g.nx
 en:∀x∈g.en,x.t < g.nx/\-1<=x.f/\x.f < (G.fs.length:Int)/\∀a∈x.ar,a < g.nx
 ps:∀l∈G.ps,∀a∈l,a < g.nx
 rs:∀a∈G.rs,a < g.nx
structure GX (B:GB) (σ:AH) (g:GS) (j jc:Nat):Prop where
 sn:SN σ B.i g.s.1 g.s.2 B.rest j
 e:σ.blk B.je=some (B.es.set B.cur (enV g.en jc))
 c:g.en≠[]->σ.blk jc=some (enC g.en)/\jc≠B.i/\jc≠B.je/\B.ext jc=none/\jc≠j
 x:∀k cs,B.ext k=some cs->σ.blk k=some cs
 jj:B.ext j=none/\j≠B.je
 gi:GI B.G g
theorem GX.ne {B:GB} {σ:AH} {g:GS} {j jc:Nat} (h:GX B σ g j jc):g.s.1≠[]:=fun e=>by have:=h.gi.pos;rw [GS.nx,e] at this;cases this
theorem GI.step {G:GC} {g:GS} (h:GI G g) {s:SS} (hl:g.nx<=s.1.length):GI G { g with s:=s}:=
 ⟨CJ h.pos hl,fun x hx=>by obtain ⟨a,b,c,d⟩:=h.en x hx;exact ⟨CJ a hl,b,c,fun y hy=>CJ (d y hy) hl⟩,fun l hm a ha=>CJ (h.ps l hm a ha) hl,fun a ha=>CJ (h.rs a ha) hl⟩
theorem GX.step {B:GB} (hB:HP B) {σ σ':AH} {g:GS} {j jc j':Nat} {s:SS} (h:GX B σ g j jc) (sn:SN σ' B.i s.1 s.2 B.rest j') (fr:Fr σ B.i g.s.1 j σ' s.1 j') (hl:g.nx<=s.1.length):GX B σ' { g with s:=s} j' jc:=by
 have hne:=h.ne;have hji:=(h.sn.nd hne).1;have hs0:s.1≠[]:=fun e=>by have:=h.gi.pos;rw [e] at hl;simp at hl;omega
 have hkeep:∀k cs,k≠B.i->k≠j->σ.blk k=some cs->σ'.blk k=some cs/\k≠j':=fun k cs h1 h2 h3=>by
  refine ⟨by rw [fr.blk k h1 (fun _=>h2) (by rw [h3];simp),h3],fun e=>?_⟩;rcases fr.nw hs0 with ⟨_,e'⟩|e'
  . exact h2 (e.trans e')
  . rw [<- e,h3] at e';cases e'
 have hxx:∀k cs,B.ext k=some cs->σ'.blk k=some cs/\k≠j':=fun k cs hk=>
  hkeep k cs (fun e=>by rw [e,hB.xi] at hk;cases hk) (fun e=>by rw [e,h.jj.1] at hk;cases hk) (h.x k cs hk)
 have hee:=hkeep B.je _ (A5 hB.ie) (A5 h.jj.2) h.e;refine ⟨sn,hee.1,fun hen=>?_,fun k cs hk=>(hxx k cs hk).1,⟨?_,A5 hee.2⟩,h.gi.step hl⟩
 . obtain ⟨c1,c2,c3,c4,c5⟩:=h.c hen;obtain ⟨d1,d2⟩:=hkeep jc _ c2 c5 c1;exact ⟨d1,c2,c3,c4,d2⟩
 . cases hx:B.ext j' with
   |none=>rfl
   |some cs=>exact absurd rfl (hxx j' cs hx).2
end Go.Ab
namespace Go.Ab
open Go.Proofs
theorem AOD {α:Type} {l:List α} {n:Nat} (h:n < l.length) (a b:α):(l.set n a).take n++[b]++(l.set n a).drop (n+1)=l.set n b:=by
 induction l generalizing n with
 |nil=>cases h
 |cons x l ih=>
  cases n with
  |zero=>simp
  |succ n=>
   have:=ih (n:=n) (by simpa using h);simp only [CH,C3,FD,AX];rw [this]
theorem O7.en {K:CO} {F:Fm} {L:Lm} {σ:AH} {d:Option Nat} {B:GB} (hB:HP B) {g:GS} {j jc bytes:Nat} {x:AV} {t:Nat} {f:Int} {ar:List Nat} (h:GX B σ g j jc)
 (hx:x.rows=some [[.int .i64 (t:Int),.int .i64 f,.sl (ar.map CC)]]) (hl:g.en.length<=900000000) (hb:bytes<=10000) (hn:t < g.nx/\-1<=f/\f < (B.G.fs.length:Int)/\∀a∈ar,a < g.nx)
 (hK:∀jc' τ,τ.blk B.i=σ.blk B.i->τ.blk B.je=σ.blk B.je->GX B (τ.AM B.je (B.es.set B.cur (.ms jc' (g.en.length+1) 3 tkE))) { g with en:=g.en++[⟨t,f,ar⟩]} j jc'->(nbH σ).le τ->
   K (BI d (.ms jc' (g.en.length+1) 3 tkE) F) L τ):O7 tkE 3 bytes (enV g.en jc) x d K F L σ:=by
 have hji:=(h.sn.nd h.ne).1;obtain ⟨c0,hc0,hbj⟩:=(h.sn.nd h.ne).2
 have hgi:GI B.G { g with en:=g.en++[⟨t,f,ar⟩]}:=⟨h.gi.pos,fun y hy=>by
  rcases AY.1 hy with hy|hy
  . exact h.gi.en y hy
  . simp only [A3] at hy;subst hy;exact hn,h.gi.ps,h.gi.rs⟩
 have hV:∀j',enV (g.en++[⟨t,f,ar⟩]) j'= .ms j' (g.en.length+1) 3 tkE:=fun j'=>by rw [V7 (by simp)];simp
 -- the old block j0 goes, jc' comes
 have key:∀(jc':Nat) (τ:AH),σ.blk jc'=none->(∀k,k≠jc'->(g.en≠[]->k≠jc)->τ.blk k=σ.blk k)->τ.blk jc'=some (enC (g.en++[⟨t,f,ar⟩]))->(nbH σ).le τ->K (BI d (.ms jc' (g.en.length+1) 3 tkE) F) L τ:=fun jc' τ hj hk hc hle=>by
  have hi:B.i≠jc':=fun e=>by rw [<- e,h.sn.blk] at hj;cases hj
  have hje:B.je≠jc':=fun e=>by rw [<- e,h.e] at hj;cases hj
  have hjj:j≠jc':=fun e=>by rw [<- e,hbj] at hj;cases hj
  have hxn:B.ext jc'=none:=by
   cases hx:B.ext jc' with
   |none=>rfl
   |some cs=>rw [h.x _ _ hx] at hj;cases hj
  have e1:τ.blk B.i=σ.blk B.i:=hk _ hi (fun hen=>A5 (h.c hen).2.1);have e2:τ.blk B.je=σ.blk B.je:=hk _ hje (fun hen=>A5 (h.c hen).2.2.1);have e3:τ.blk j=σ.blk j:=hk _ hjj (fun hen=>A5 (h.c hen).2.2.2.2);refine hK jc' τ e1 e2 ⟨⟨?_,h.sn.Gw,fun _=>⟨hji,c0,hc0,?_⟩⟩,?_,fun _=>⟨?_,A5 hi,A5 hje,hxn,A5 hjj⟩,fun k cs hx=>?_,h.jj,hgi⟩ hle
  . rw [AI,if_neg hB.ie,e1,h.sn.blk]
  . rw [AI,if_neg h.jj.2,e3,hbj]
  . rw [AI,if_pos rfl,hV]
  . rw [AI,if_neg (A5 hje),hc]
  . have h1:k≠B.je:=fun e=>by rw [e,hB.xe] at hx;cases hx
    have h2:k≠jc':=fun e=>by rw [e,hxn] at hx;cases hx
    rw [AI,if_neg h1,hk k h2 (fun hen e=>by rw [e,(h.c hen).2.2.2.1] at hx;cases hx),h.x k cs hx]
 have hnr:Ea [[.int .i64 (t:Int),.int .i64 f,.sl (ar.map CC)]]=enC [⟨t,f,ar⟩]:=by simp [Ea,rwC,En.row]
 by_cases he:g.en=[]
 . rw [he];refine O7.mk (n:=0) (cs:=[]) (σ1:=σ) rfl hx (by simp) (by simp) (by simp) hb (fun j' hj=>?_)
   have:=key j' (σ.AM j' ([]++Ea [[.int .i64 (t:Int),.int .i64 f,.sl (ar.map CC)]])) hj (fun k h1 _=>by rw [AI,if_neg h1]) (by rw [AI,if_pos rfl,he,hnr];rfl)
    ⟨fun _ _ h=>(by cases h),fun _ h=>h,rfl,fun _ _ h=>h⟩
   rw [he] at this;exact this
 . obtain ⟨c1,c2,c3,c4,c5⟩:=h.c he;rw [V7 he];refine O7.mk (n:=g.en.length) (cs:=enC g.en) (σ1:=σ.EI jc) (by simp [N8,c1,OU En.row 3 En.F9]) hx (by simp) (by simp) (by simp;omega) hb (fun j' hj=>?_);refine key j' ((σ.EI jc).AM j' (enC g.en++Ea [[.int .i64 (t:Int),.int .i64 f,.sl (ar.map CC)]])) hj (fun k h1 h2=>by rw [AI,if_neg h1,D8,if_neg (h2 he)]) (by rw [AI,if_pos rfl,hnr,<- ALJ]) ⟨fun _ _ h=>(by cases h),fun _ h=>h,rfl,fun _ _ h=>h⟩
theorem GX.mod {B:GB} (hB:HP B) {σ:AH} {g:GS} {j jc at_:Nat} (h:GX B σ g j jc) (f:En->En) {x:En} (hx:g.en[at_]?=some x) (hf:(f x).t < g.nx/\-1<=(f x).f/\(f x).f < (B.G.fs.length:Int)/\∀a∈(f x).ar,a < g.nx):
 GX B (σ.AM jc (enC (g.en.modify at_ f))) (g.Si at_ f) j jc:=by
 show GX B _ { g with en:=g.en.modify at_ f} j jc;have hen:g.en≠[]:=fun e=>by rw [e] at hx;simp at hx
 obtain ⟨c1,c2,c3,c4,c5⟩:=h.c hen;have hji:=(h.sn.nd h.ne).1;obtain ⟨c0,hc0,hbj⟩:=(h.sn.nd h.ne).2;have hlen:(g.en.modify at_ f).length=g.en.length:=by simp
 have hen':g.en.modify at_ f≠[]:=fun e=>hen (Ay (by rw [<- hlen,e];rfl))
 refine ⟨⟨?_,h.sn.Gw,fun _=>⟨hji,c0,hc0,?_⟩⟩,?_,fun _=>⟨?_,c2,c3,c4,c5⟩,fun k cs hk=>?_,h.jj,⟨h.gi.pos,fun y hy=>?_,h.gi.ps,h.gi.rs⟩⟩
 . rw [AI,if_neg (A5 c2),h.sn.blk]
 . rw [AI,if_neg (A5 c5),hbj]
 . rw [AI,if_neg (A5 c3),h.e,V7 hen,V7 hen',hlen]
 . rw [AI,if_pos rfl]
 . rw [AI,if_neg (fun e=>by rw [e,c4] at hk;cases hk),h.x k cs hk]
 . obtain ⟨m,hm,rfl⟩:=Bn hy;rw [List.getElem_modify];split
   . rename_i e;subst e
     have hxm:x=g.en[at_]:=by
      have:=(AF.1 hx).2;exact this.symm
     rw [<- hxm];exact hf
   . exact h.gi.en _ (HR _)
structure ES (sc:List Str) (env:Env) (g:GS):Prop where
 sc:∀s,s≠[]->((Nq env s).isSome=sc.contains s)
 lt:∀x∈env,x.2 < g.nx
theorem ES.le {sc:List Str} {env:Env} {g g':GS} (h:ES sc env g) (hl:g.nx<=g'.nx):ES sc env g':=⟨h.sc,fun x hx=>CJ (h.lt x hx) hl⟩
def OkE (G:GC) (e:Ex) (sc:List Str):Prop:=∀x∈Cu e sc,PV G.fs G.dt x.1 x.2=0/\nb1 x.1
structure GD (G:GC):Prop where
 dt:∀d∈G.dt,0<=d.vars/\d.vars<=1000/\d.cons.length<=1000000/\∀c∈d.cons,LP d.vars.toNat c.args=true/\Ty.AT c.args<=100000
 sch:∀s∈G.sch,0<=s.vars/\s.vars<=100000/\LP s.vars.toNat s.params=true/\UA s.vars.toNat s.res=true/\Ty.AT s.params<=100000/\s.res.size<=100000
 nn:∀l∈G.ps,l.length<=1000
structure RQ (B:GB) (σ:AH) (g:GS) (n c m:Nat) (g':GS) (σ':AH):Prop where
 nb:(nbH σ).le σ'
 gx:∃j jc,GX B σ' g' j jc
 lt:n < g'.nx
 le:g.nx<=g'.nx
 hi:g'.nx+500000<=g.nx+c
 en:g'.en.length=g.en.length+m
def ExC (B:GB) (e:Ex):Prop:=∀(sc:List Str) (env:Env) (g:GS) (σ:AH) (j jc:Nat),OkE B.G e sc->ES sc env g->g.nx+1000000 * e.size<=900000000->g.en.length+e.size<=900000000->GX B σ g j jc->
 AS Tzp 56 [.gp B.i 0,exA e,.d (Ix env)] σ (fun v σ'=>v=nA (Bc B.G e env g).1/\RQ B σ g (Bc B.G e env g).1 (1000000 * e.size) e.size (Bc B.G e env g).2 σ')
end Go.Ab
namespace Go.Ab
open Go.Proofs
theorem aH {fid:FuncId} {caps:List AV} (hb:CQ Tzp fid=true) (hcp:caps.all AV.BF=true) (p:Nat->Bool) (J:AH->Prop) (l:List Nat) (hf:∀x∈l,∀τ,J τ->AS Tzp fid (nA x::caps) τ (fun v σ'=>v= .d (.bool (p x))/\J σ')) (σ:AH) (hJ:J σ):
 AS Tzp 100 [.d (.sl (l.map CC)),.fn fid [] caps] σ (fun v σ'=>v= .d (.int .i64 (Hm (l.findIdx? p)))/\J σ'):=by
 refine TU (by simp) ?_;rw [BS];refine Run.slot 0 (fun hb0=>?_);simp only [D0,if_true,AV.FU,AA] at hb0;(repeat' (refine wQ mxQ rfl ?_<;>try simp only [AA,go_sem]));refine Run.BB ?_;refine Run.BG ((fun (a0:AV) (a1:AV) (a7:AV)=>fun (z:Nat×AH)=>put 0 a0 (put 1 a1 (put 7 a7 (put 8 (.d (.int .i64 z.1)) U)))) _ _ _) (fun _=>E) (fun z=>z.2) (fun z=>z.1<=l.length/\(∀x∈l.take z.1,p x=false)/\J z.2) (fun z=>l.length - z.1) ?_ (0,σ) ⟨by simp,by simp,hJ⟩;rintro ⟨i,τ⟩ ⟨hi,hno,hj⟩ ih;simp only at hi hno hj;by_cases hlt:i < l.length
 . obtain ⟨x,hx⟩:=Ak hlt;have he:=H0 hx;have hw1:IntKind.i64.wrap ((i:Int)+1)=((i+1:Nat):Int):=by rw [BP (by omega) (by omega)];omega
   have hc:=hf x (AD hx) τ hj;simp only [nA] at hc;cases hp:p x with
   |true=>
    rw [hp] at hc;(repeat' ((first|refine wQ mxQ rfl ?_|refine Run.qP FI ?_|fail)<;>try simp only [Ag hlt,he,hw1,go_sem]));refine ⟨fid,[],caps,rfl,hb,AJ.mk (by simp [hcp,Ep]) hc ?_⟩;rintro _ τ2 ⟨rfl,hj2⟩;simp only [go_sem];(repeat' ((first|refine wQ mxQ rfl ?_|refine Run.qP FI ?_|fail)<;>try simp only [go_sem]));exact ⟨by rw [EJ hno hx hp];rfl,hj2⟩
   |false=>
    rw [hp] at hc;(repeat' (refine wQ mxQ rfl ?_<;>try simp only [Ag hlt,he,hw1,go_sem]));refine ⟨fid,[],caps,rfl,hb,AJ.mk (by simp [hcp,Ep]) hc ?_⟩;rintro _ τ2 ⟨rfl,hj2⟩;simp only [go_sem];(repeat' (refine wQ mxQ rfl ?_<;>try simp only [hw1,go_sem]));exact ih ⟨i+1,τ2⟩ ⟨hlt,GO hno hx hp,hj2⟩ (by simp only;omega)
 . have hie:i=l.length:=by omega
   subst hie;rw [BM] at hno;(repeat' ((first|refine wQ mxQ rfl ?_|refine Run.qP FI ?_|fail)<;>try simp only [Bk hlt,go_sem]));exact ⟨by rw [EL hno];rfl,hj⟩
theorem N6 {fid:FuncId} {caps:List AV} (hb:CQ Tzp fid=true) (hcp:caps.all AV.BF=true) (p:Nat->Bool) (J:AH->Prop) (l:List Nat) (hf:∀x∈l,∀τ,J τ->AS Tzp fid (nA x::caps) τ (fun v σ'=>v= .d (.bool (p x))/\J σ')) (σ:AH) (hJ:J σ):
 AS Tzp 63 [.d (.sl (l.map CC)),.fn fid [] caps] σ (fun v σ'=>v= .d (.bool (l.any p))/\J σ'):=by
 refine Pe (by simp) ?_;rw [BS];(repeat' (refine wQ mxQ rfl ?_<;>try simp only [go_sem]));refine AJ.mk rfl (aH hb hcp p J l hf σ hJ) ?_;rintro _ τ ⟨rfl,hj⟩;simp only [go_sem];(repeat' ((first|refine wQ mxQ rfl ?_|refine Run.qP Ik ?_|fail)<;>try simp only [go_sem]));exact ⟨by rw [QQ,IK],hj⟩
def JZ (ext:Nat->Option (List AV)) (σ0:AH) (i:Nat) (rest:List AV) (l:List Nd) (fl:Bool) (js:Nat) (τ:AH):Prop:=(nbH σ0).le τ/\∃kn j',KN l kn/\SX ext τ i l fl rest j' js (Co kn)
structure JE (ext:Nat->Option (List AV)) (i:Nat) (l:List Nd) (d:Nat->Nat) (js j1 j3 j4:Nat):Prop where
 ln:l.length<=900000000
 fr:FR l d
 x1:ext j1=some [.gp i 0]
 x3:ext j3=some [.ms js l.length 1 3]
 x4:ext j4=some [szC j1 j3 j4]
variable {ext:Nat->Option (List AV)} {σ0:AH} {i:Nat} {rest:List AV} {l:List Nd} {d:Nat->Nat} {fl:Bool} {js j1 j3 j4:Nat}
theorem AET (he:JE ext i l d js j1 j3 j4) (n:Nat) (hn:n < l.length) (τ:AH) (hj:JZ ext σ0 i rest l fl js τ):
 AS Tzp 61 [nA n,.gp j1 0,.gp j3 0,.gp j4 0] τ (fun v σ'=>v=nA (szN l n)/\JZ ext σ0 i rest l fl js σ'):=by
 obtain ⟨hnb,kn,j',hk,hs⟩:=hj;refine (zU ext i rest l d he.fr fl j1 j3 j4 js he.ln he.x1 he.x3 he.x4 (d (rtN l n)+1) kn j' τ n (by omega) hk hn hs).mono ?_;rintro v σ' ⟨h1,h2,kn',j2,h3,h4⟩;exact ⟨h1,DW hnb h2,kn',j2,h3,h4⟩
def eY (l:List Nd) (n:Nat):Bool:=decide (200 < (szN l n:Int))
theorem OI (he:JE ext i l d js j1 j3 j4) {j5:Nat} (x5:ext j5=some [szC j1 j3 j4]) (n:Nat) (hn:n < l.length) (τ:AH) (hj:JZ ext σ0 i rest l fl js τ):
 AS Tzp 62 [nA n,.gp j5 0] τ (fun v σ'=>v= .d (.bool (eY l n))/\JZ ext σ0 i rest l fl js σ'):=by
 have hc:=AET he n hn τ hj;have h5:τ.blk j5=some [szC j1 j3 j4]:=by obtain ⟨_,_,_,_,hs⟩:=hj;exact hs.x _ _ x5
 refine RA (by simp) ?_;rw [BS];simp only [nA] at hc ⊢;(repeat' (refine wQ mxQ rfl ?_<;>try simp only [h5,go_sem]));refine ⟨61,[],[.gp j1 0,.gp j3 0,.gp j4 0],rfl,by kernel_rfl,AJ.mk rfl hc ?_⟩;rintro _ τ2 ⟨rfl,hj2⟩;simp only [go_sem];(repeat' ((first|refine wQ mxQ rfl ?_|refine Run.qP JV ?_|fail)<;>try simp only [go_sem]));exact ⟨rfl,hj2⟩
def AG1 (l:List Nd) (e:En):Bool:=eY l e.t||e.ar.any (eY l)
def enA (e:En):AV:= .agg e.row
theorem p7 (he:JE ext i l d js j1 j3 j4) {j5 j7:Nat} (x5:ext j5=some [szC j1 j3 j4]) (x7:ext j7=some [.fn 62 [] [.gp j5 0]]) (e:En) (ht:e.t < l.length) (ha:∀a∈e.ar,a < l.length) (τ:AH) (hj:JZ ext σ0 i rest l fl js τ):
 AS Tzp 65 [enA e,.gp j7 0] τ (fun v σ'=>v= .d (.bool (AG1 l e))/\JZ ext σ0 i rest l fl js σ'):=by
 have h7:∀τ,JZ ext σ0 i rest l fl js τ->τ.blk j7=some [.fn 62 [] [.gp j5 0]]:=fun τ hj=>by obtain ⟨_,_,_,_,hs⟩:=hj;exact hs.x _ _ x7
 have h70:=h7 τ hj;have hc:=OI he x5 e.t ht τ hj;refine RE (by simp) ?_;rw [BS];obtain ⟨t,f,ar⟩:=e;simp only [enA,En.row,nA] at ht ha hc ⊢;simp only [AG1];cases hl:eY l t with
 |true=>
  rw [hl] at hc;(repeat' (refine wQ mxQ rfl ?_<;>try simp only [h70,go_sem]));refine ⟨62,[],[.gp j5 0],rfl,by kernel_rfl,AJ.mk rfl hc ?_⟩;rintro _ τ2 ⟨rfl,hj2⟩;simp only [go_sem];(repeat' ((first|refine wQ mxQ rfl ?_|refine Run.qP G8 ?_|fail)<;>try simp only [go_sem]));exact hj2
 |false=>
  rw [hl] at hc;(repeat' (refine wQ mxQ rfl ?_<;>try simp only [h70,go_sem]));refine ⟨62,[],[.gp j5 0],rfl,by kernel_rfl,AJ.mk rfl hc ?_⟩;rintro _ τ2 ⟨rfl,hj2⟩;have h72:=h7 τ2 hj2;simp only [h72,go_sem];refine AJ.mk rfl (N6 (fid:=62) (caps:=[.gp j5 0]) (by kernel_rfl) rfl (eY l) (JZ ext σ0 i rest l fl js) ar (fun x hx τ hj=>OI he x5 x (ha x hx) τ hj) τ2 hj2) ?_;rintro _ τ3 ⟨rfl,hj3⟩;simp only [go_sem];(repeat' ((first|refine wQ mxQ rfl ?_|refine Run.qP G8 ?_|fail)<;>try simp only [go_sem]));exact hj3
theorem dU {fid:FuncId} {caps:List AV} (hb:CQ Tzp fid=true) (hcp:caps.all AV.BF=true) (p:En->Bool) (J:AH->Prop) (en:List En) (jc:Nat) (hjc:en≠[]->∀τ,J τ->τ.blk jc=some (enC en)) (hl:en.length<=900000000) (hf:∀x∈en,∀τ,J τ->AS Tzp fid (enA x::caps) τ (fun v σ'=>v= .d (.bool (p x))/\J σ')) (σ:AH) (hJ:J σ):
 AS Tzp 101 [enV en jc,.fn fid [] caps] σ (fun v σ'=>v= .d (.int .i64 (Hm (en.findIdx? p)))/\J σ'):=by
 refine L7 (by simp) ?_;rw [BS];obtain ⟨w1,w2,w3,w4,w5⟩:=SB en jc;(repeat' (refine wQ mxQ rfl ?_<;>try simp only [w1,w2,w3,w4,w5,go_sem]));refine Run.BB ?_;refine Run.BG ((fun (a0:AV) (a1:AV) (a7:AV)=>fun (z:Nat×AH)=>put 0 a0 (put 1 a1 (put 7 a7 (put 8 (.d (.int .i64 z.1)) U)))) _ _ _) (fun _=>E) (fun z=>z.2) (fun z=>z.1<=en.length/\(∀x∈en.take z.1,p x=false)/\J z.2) (fun z=>en.length - z.1) ?_ (0,σ) ⟨by simp,by simp,hJ⟩;rintro ⟨i,τ⟩ ⟨hi,hno,hj⟩ ih;simp only at hi hno hj;by_cases hlt:i < en.length
 . obtain ⟨x,hx⟩:=Ak hlt;have hen:en≠[]:=fun e=>by rw [e] at hlt;cases hlt
   rw [V7 hen] at ih ⊢;have hbj:=hjc hen τ hj;have hst:=rI En.row 3 En.F9 hx;have hsl:(i * 3+3<=(enC en).length)=True:=by rw [OU En.row 3 En.F9];simp;omega
   have hiT:=ltT hlt;have hw1:=A7 (show i+1<=9000000000000000000 by omega);have hc:=hf x (AD hx) τ hj;obtain ⟨t,f,ar⟩:=x;simp only [enA,En.row] at hc hst;cases hp:p ⟨t,f,ar⟩ with
   |true=>
    rw [hp] at hc;(repeat' ((first|refine wQ mxQ rfl ?_|refine Run.qP Cc ?_|fail)<;>try simp only [Ag hlt,hbj,hst,hsl,hiT,go_sem]));refine ⟨fid,[],caps,rfl,hb,AJ.mk (by simp [hcp,DX]) hc ?_⟩;rintro _ τ2 ⟨rfl,hj2⟩;simp only [go_sem];(repeat' ((first|refine wQ mxQ rfl ?_|refine Run.qP Cc ?_|fail)<;>try simp only [go_sem]));exact ⟨by rw [EJ hno hx hp];rfl,hj2⟩
   |false=>
    rw [hp] at hc;(repeat' (refine wQ mxQ rfl ?_<;>try simp only [Ag hlt,hbj,hst,hsl,hiT,go_sem]));refine ⟨fid,[],caps,rfl,hb,AJ.mk (by simp [hcp,DX]) hc ?_⟩;rintro _ τ2 ⟨rfl,hj2⟩;simp only [go_sem];(repeat' (refine wQ mxQ rfl ?_<;>try simp only [hw1,go_sem]));exact ih ⟨i+1,τ2⟩ ⟨hlt,GO hno hx hp,hj2⟩ (by simp only;omega)
 . have hie:i=en.length:=by omega
   subst hie;rw [BM] at hno;(repeat' ((first|refine wQ mxQ rfl ?_|refine Run.qP Cc ?_|fail)<;>try simp only [Bk hlt,w1,w2,w3,w4,go_sem]));exact ⟨by rw [EL hno];rfl,hj⟩
theorem YH {fid:FuncId} {caps:List AV} (hb:CQ Tzp fid=true) (hcp:caps.all AV.BF=true) (p:En->Bool) (J:AH->Prop) (en:List En) (jc:Nat) (hjc:en≠[]->∀τ,J τ->τ.blk jc=some (enC en)) (hl:en.length<=900000000) (hf:∀x∈en,∀τ,J τ->AS Tzp fid (enA x::caps) τ (fun v σ'=>v= .d (.bool (p x))/\J σ')) (σ:AH) (hJ:J σ):
 AS Tzp 64 [enV en jc,.fn fid [] caps] σ (fun v σ'=>v= .d (.bool (en.any p))/\J σ'):=by
 obtain ⟨w1,w2,w3,w4,w5⟩:=SB en jc;refine Jx (by simp) ?_;rw [BS];(repeat' (refine wQ mxQ rfl ?_<;>try simp only [w1,w2,w3,w4,w5,go_sem]));refine AJ.mk (by simp [w2,fZ]) (dU hb hcp p J en jc hjc hl hf σ hJ) ?_;rintro _ τ ⟨rfl,hj⟩;simp only [go_sem];(repeat' ((first|refine wQ mxQ rfl ?_|refine Run.qP FZ ?_|fail)<;>try simp only [go_sem]));exact ⟨by rw [QQ,IK],hj⟩
end Go.Ab
namespace Go.Ab
open Go.Proofs
theorem GX.nbo {B:GB} {σ σ':AH} {g:GS} {j jc:Nat} (h:GX B σ g j jc) (hb:∀k,σ'.blk k=σ.blk k):GX B σ' g j jc:=
 ⟨h.sn.own hb,by rw [hb];exact h.e,fun he=>by rw [hb];exact h.c he,fun k cs hk=>by rw [hb];exact h.x k cs hk,h.jj,h.gi⟩
theorem BA {σ τ υ:AH} (h:(nbH σ).le τ) (k:(nbH τ).le υ):(nbH σ).le υ:=
 ⟨fun _ _ h=>(by cases h),fun t ht=>k.tok t (h.tok t ht),h.gt.trans k.gt,fun i x hx=>k.bt i x (h.bt i x hx)⟩
theorem C4.nb {σ0 τ τ':AH} {e s:Nat} {rows:List (List DV)} {v:AV} (ho:C4 (nbH σ0) e s rows v τ) (h:(nbH τ).le τ'):C4 (nbH σ0) e s rows v τ':=
 ho.Ia (BA ho.le h) (fun t _ ht=>h.tok t ht)
theorem Y0 (G:GC):∀(ks:List Ex) (env:Env) (g:GS),(C5 G ks env g).1.length=ks.length
 |[],_,_=>rfl
 |k::ks,env,g=>by simp only [C5,A0,Y0 G ks]
theorem dC (G:GC) (k:Ex) (env:Env):∀(ks:List Ex) (g:GS),C5 G (ks++[k]) env g=((C5 G ks env g).1++[(Bc G k env (C5 G ks env g).2).1],(Bc G k env (C5 G ks env g).2).2)
 |[],g=>rfl
 |u::ks,g=>by
  rw [AX,C5];simp only [dC G k env ks];simp only [C5,AX]
theorem Ex.KW (a b:List Ex):Ex.AT (a++b)=Ex.AT a+Ex.AT b:=by
 induction a with
 |nil=>simp [Ex.AT]
 |cons x a ih=>simp only [AX,Ex.AT,ih];omega
theorem Ex.I4 {ks:List Ex} {p:Nat} {k:Ex} (h:ks[p]?=some k):Ex.AT (ks.take (p+1))=Ex.AT (ks.take p)+k.size/\Ex.AT (ks.take p)+k.size<=Ex.AT ks:=by
 have h1:Ex.AT (ks.take (p+1))=Ex.AT (ks.take p)+k.size:=by rw [Ae h,Ex.KW];simp [Ex.AT]
 refine ⟨h1,?_⟩;rw [<- h1]
 conv=>rhs;rw [<- Ac (p+1) ks,Ex.KW]
 omega
structure RSn (B:GB) (σ:AH) (g:GS) (l:List Nat) (ks:List Ex) (g':GS) (σ':AH):Prop where
 nb:(nbH σ).le σ'
 gx:∃j jc,GX B σ' g' j jc
 lt:∀a∈l,a < g'.nx
 le:g.nx<=g'.nx
 hi:g'.nx+500000 * ks.length<=g.nx+1000000 * Ex.AT ks
 en:g'.en.length=g.en.length+Ex.AT ks
theorem tI (B:GB) (ks:List Ex) (hk:∀k∈ks,ExC B k) (sc:List Str) (env:Env) (g:GS) (σ:AH) (j jc:Nat) (hok:∀k∈ks,OkE B.G k sc) (hes:ES sc env g) (hnx:g.nx+1000000 * Ex.AT ks<=900000000) (hen:g.en.length+Ex.AT ks<=900000000) (hg:GX B σ g j jc):
 AS Tzp 94 [.gp B.i 0,.d (.sl (ks.map Ex.enc)),.d (Ix env)] σ (fun v σ'=>C4 (nbH σ) 3 1 ((C5 B.G ks env g).1.map CC) v σ'/\RSn B σ g (C5 B.G ks env g).1 ks (C5 B.G ks env g).2 σ'):=by
 have hkl:=Ex.Bt ks;refine Vq (by simp) ?_;rw [D6];(repeat' (refine wQ mxQ rfl ?_<;>try simp only [AA,go_sem]));refine Run.BB ?_
 refine Run.BG ((fun (a0:AV) (a2:AV) (a10:AV) (a11:AV)=>fun (z:Nat×AV×AH)=>put 0 a0 (put 2 a2 (put 7 (z.2.1) (put 10 a10 (put 11 a11 (put 12 (.d (.int .i64 z.1)) U)))))) _ _ _ _) (fun _=>E) (fun z=>z.2.2)
  (fun z=>z.1<=ks.length/\C4 (nbH σ) 3 1 ((C5 B.G (ks.take z.1) env g).1.map CC) z.2.1 z.2.2/\RSn B σ g (C5 B.G (ks.take z.1) env g).1 (ks.take z.1) (C5 B.G (ks.take z.1) env g).2 z.2.2)
  (fun z=>ks.length - z.1) ?_ (0,.Af,σ) ⟨by simp,by simpa [C5] using AD9 3 1,by simp only [C7,C5];exact ⟨IB σ,⟨j,jc,hg⟩,by simp,AR _,by simp [Ex.AT],by simp [Ex.AT]⟩⟩
 rintro ⟨p,v,τ⟩ ⟨hp,ho,hr⟩ ih;simp only at hp ho hr;by_cases hlt:p < ks.length
 . obtain ⟨k,hke⟩:=Ak hlt;have he:=BR (enc:=Ex.enc) hke;have hw1:=A7 (show p+1<=9000000000000000000 by omega);obtain ⟨hz1,hz2⟩:=Ex.I4 hke;have hsn:=dC B.G k env (ks.take p) g;rw [<- Ae hke] at hsn;have hql:(C5 B.G (ks.take p) env g).1.length=p:=by rw [Y0];simp;omega
   generalize C5 B.G (ks.take p) env g=q at *;obtain ⟨j1,jc1,hg1⟩:=hr.gx;have hhi:=hr.hi;have hle:=hr.le;have hen1:=hr.en;have htl:(ks.take p).length=p:=by simp;omega
   rw [htl] at hhi;have hmem:=AD hke;have hc:=hk k hmem sc env q.2 τ j1 jc1 (hok k hmem) (hes.le hle) (by omega) (by omega) hg1;generalize Bc B.G k env q.2=r at *;obtain ⟨o,n,u,ns,kk,al⟩:=k;simp only [Ex.A4,exA,AG,AN] at he hc;(repeat' (first|refine ctQ rfl ?_|((first|refine rgQ mxQ ?_|refine cdQ ?_|(refine A9 rfl (fun h=>?_) (fun h=>?_)<;>try (cases h;done)))<;>try simp only [Ag hlt,he,ho.w4,go_sem])|(refine ⟨fun h=>?_,fun h=>?_⟩<;>first|(cases h;done)|try simp only [h])|fail));refine AJ.mk rfl hc ?_;rintro _ τ1 ⟨rfl,hq⟩;simp only [nA];simp only [go_sem];refine E6.own (ho.nb hq.nb) rfl (by simp) (by simp [hql];omega) (by omega) (fun v' τ2 ho' hb'=>?_);(repeat' (first|refine ctQ rfl ?_|((first|refine rgQ mxQ ?_|refine cdQ ?_|(refine A9 rfl (fun h=>?_) (fun h=>?_)<;>try (cases h;done)))<;>try simp only [hw1,ho'.BF,ho'.BT,ho'.cells,ho'.cell,go_sem])|(refine ⟨fun h=>?_,fun h=>?_⟩<;>first|(cases h;done)|try simp only [h])|fail));obtain ⟨j2,jc2,hg2⟩:=hq.gx;have hql':=hq.le;have hqh:=hq.hi;have hqe:=hq.en;refine ih ⟨p+1,v',τ2⟩ ⟨hlt,?_,?_⟩ (by simp only;omega)
   . simp only [hsn];rw [B2];exact ho'
   . simp only [hsn];refine ⟨ho'.le,⟨j2,jc2,hg2.nbo hb'⟩,fun a ha=>?_,Ah hle hql',?_,?_⟩
     . rcases AY.1 ha with ha|ha
       . exact CJ (hr.lt a ha) hql'
       . simp only [A3] at ha;subst ha;exact hq.lt
     . have e2:(ks.take (p+1)).length=p+1:=by simp;omega
       omega
     . omega
 . have hpe:p=ks.length:=by omega
   subst hpe;rw [BM] at ho hr;(repeat' ((first|refine wQ mxQ rfl ?_|refine Run.qR Mh ?_|fail)<;>try simp only [Bk hlt,ho.w4,go_sem]));exact ⟨ho,hr⟩
end Go.Ab
namespace Go.Ab
open Go.Proofs
theorem Sr (l:List Nat) (σ:AH) (hl:l.length<=1000000):AS Tzp 103 [.d (.sl (l.map CC))] σ (fun v σ'=>C4 (nbH σ) 3 1 (l.map CC) v σ'/\∀k,σ'.blk k=σ.blk k):=by
 refine Y7 (by simp) ?_;rw [Bs];(repeat' (refine wQ mxQ rfl ?_<;>try simp only [go_sem]));have hfin:∀t,σ.tok t=false->C4 (nbH σ) 3 1 [] (.own t 3 1 []) (σ.Cg t):=fun t ht=>C4.own (IB σ) (IB σ) ht;have hrow:∀r∈l.map CC,r.length=1:=fun r hr=>by obtain ⟨a,_,rfl⟩:=Ck.1 hr;rfl
 cases l with
 |nil=>
  refine XEx.AIO rfl rfl (fun b=>?_);cases b with
  |true=>
   (repeat' (first|((first|refine wQ mxQ rfl ?_|refine Run.qR HW ?_|(refine A9 rfl (fun h=>?_) (fun h=>?_)<;>try (cases h;done))|fail)<;>try simp only [go_sem])|(refine ⟨fun h=>?_,fun h=>?_⟩<;>first|(cases h;done)|try simp only [h])|fail));exact ⟨AD9 3 1,by simp⟩
  |false=>
   (repeat' (first|((first|refine wQ mxQ rfl ?_|(refine A9 rfl (fun h=>?_) (fun h=>?_)<;>try (cases h;done))|fail)<;>try simp only [go_sem])|(refine ⟨fun h=>?_,fun h=>?_⟩<;>first|(cases h;done)|try simp only [h])|fail));refine VH.own rfl trivial (fun t ht=>?_);simp only [go_sem];refine E6.own (hfin t ht) rfl hrow (by simp) (by omega) (fun v' τ ho' hb'=>?_);(repeat' ((first|refine wQ mxQ rfl ?_|refine Run.qR HW ?_|fail)<;>try simp only [ho'.BF,ho'.BT,ho'.cells,ho'.cell,go_sem]));exact ⟨ho',fun k=>(hb' k).trans rfl⟩
 |cons a l=>
  refine XEx.nG (b:=false) rfl rfl ?_;(repeat' (first|((first|refine wQ mxQ rfl ?_|(refine A9 rfl (fun h=>?_) (fun h=>?_)<;>try (cases h;done))|fail)<;>try simp only [go_sem])|(refine ⟨fun h=>?_,fun h=>?_⟩<;>first|(cases h;done)|try simp only [h])|fail));refine VH.own rfl trivial (fun t ht=>?_);simp only [go_sem];refine E6.own (hfin t ht) rfl hrow (by simp at hl ⊢;omega) (by omega) (fun v' τ ho' hb'=>?_);(repeat' ((first|refine wQ mxQ rfl ?_|refine Run.qR HW ?_|fail)<;>try simp only [ho'.BF,ho'.BT,ho'.cells,ho'.cell,go_sem]));exact ⟨ho',fun k=>(hb' k).trans rfl⟩
theorem Fr.nb {σ τ:AH} {i j j':Nat} {l l':List Nd} (h:Fr σ i l j τ l' j'):(nbH σ).le τ:=h.nb2 (IB σ)
theorem GX.bi {B:GB} {σ:AH} {g:GS} {j jc:Nat} (h:GX B σ g j jc):σ.blk B.i=some (.ms j g.s.1.length 4 tkN::.d (.bool g.s.2)::[.d (.sl (B.ds.map DE.enc)),.d (.sl (B.G.fs.map FE.enc)),dsA B.G.dt,.ms B.js B.G.sch.length 5 eSs,.ms B.jm B.G.mem.length 1 eMm,.ms B.jp B.G.ps.length 1 ePp,.ms B.jr B.G.rs.length 1 3,.ms B.je B.es.length 1 eEe,.d (.int .i64 (B.cur:Int))]):=by
 rw [h.sn.blk,Eo h.ne];rfl
theorem GX.add {B:GB} (hB:HP B) {σ σ':AH} {g:GS} {j jc:Nat} {k n:Int} {ar:List Nat} {v0 v:AV} (h:GX B σ g j jc) (q:SNQ σ B.i g.s.1 B.rest j (Kh g.s.1 k n ar,g.s.2) v0 v σ'):v=v0/\(nbH σ).le σ'/\∃j',GX B σ' (g.add k n ar) j' jc:=by
 obtain ⟨e,j',sn,fr⟩:=q;exact ⟨e,fr.nb,j',h.step hB (s:=(Kh g.s.1 k n ar,g.s.2)) sn fr (by simp [Hb,GS.nx])⟩
theorem Ci (g:GS) (k n:Int) (ar:List Nat):(g.add k n ar).nx=g.nx+1:=by simp [GS.add,GS.nx,Hb]
theorem p5 (g:GS) (k n:Int) (ar:List Nat):(g.add k n ar).en=g.en:=rfl
theorem MH (g:GS) (a b:Nat):(g.uni a b).nx=g.nx:=by simp [GS.uni,GS.nx,rW]
theorem AF9 (g:GS) (a b:Nat):(g.uni a b).en=g.en:=rfl
theorem Yl (g:GS) (n:Nat):(g.frs n).nx=g.nx+n:=by simp [GS.frs,GS.nx,KH]
theorem xP (g:GS) (n:Nat):(g.frs n).en=g.en:=rfl
theorem GX.frs {B:GB} (hB:HP B) {σ σ':AH} {g:GS} {j jc n:Nat} {v0 v:AV} (h:GX B σ g j jc) (q:SNQ σ B.i g.s.1 B.rest j (GG g.s.1 n,g.s.2) v0 v σ'):v=v0/\(nbH σ).le σ'/\∃j',GX B σ' (g.frs n) j' jc:=by
 obtain ⟨e,j',sn,fr⟩:=q;exact ⟨e,fr.nb,j',h.step hB (s:=(GG g.s.1 n,g.s.2)) sn fr (by simp [KH,GS.nx])⟩
theorem GX.uni {B:GB} (hB:HP B) {σ σ':AH} {g:GS} {j jc a b:Nat} (h:GX B σ g j jc) (q:UNQ σ B.i g.s.1 B.rest j (K0 g.s.1.length g.s a b) σ'):(nbH σ).le σ'/\∃j',GX B σ' (g.uni a b) j' jc:=by
 obtain ⟨⟨j',sn,fr⟩,_⟩:=q;exact ⟨fr.nb,j',h.step hB (s:=Go.Ab.uni g.s a b) sn fr (by rw [rW];exact AR _)⟩
theorem sZ (B:GB) (hB:HP B) (o:Int) (g:GS) (σ:AH) (j jc:Nat) (hnx:g.nx<=900000000) (hg:GX B σ g j jc):
 AS Tzp 92 [.gp B.i 0,.d (.int .i64 o)] σ (fun v σ'=>v=nA g.nx/\(nbH σ).le σ'/\∃j',GX B σ' (g.add (l9 o) 0 []) j' jc):=by
 have hc:=fun k=>Bm B.i j g.s.1 g.s.2 B.rest σ k .Af [] hg.sn Qa.Af (by simp) hnx;refine SK (by simp) ?_;rw [BS];have hfin:∀k,l9 o=k->∀v σ',SNQ σ B.i g.s.1 B.rest j (Kh g.s.1 k 0 [],g.s.2) (nA g.s.1.length) v σ'->v=nA g.nx/\(nbH σ).le σ'/\∃j',GX B σ' (g.add (l9 o) 0 []) j' jc:=fun k e v σ' q=>by rw [e];exact hg.add hB q
 by_cases h2:o=2
 . subst h2;(repeat' ((first|refine wQ mxQ rfl ?_|refine Run.qP CN ?_|fail)<;>try simp only [go_sem]));refine AJ.mk rfl (hc 2) ?_;intro v σ' q;have hv:=q.1;subst hv;have:=hfin 2 rfl _ _ q;simp only [nA];simp only [go_sem];(repeat' ((first|refine wQ mxQ rfl ?_|refine Run.qP CN ?_|fail)<;>try simp only [go_sem]));exact this
 by_cases h3:o=3
 . subst h3;(repeat' (first|((first|refine wQ mxQ rfl ?_|refine Run.qP CN ?_|(refine A9 rfl (fun h=>?_) (fun h=>?_)<;>try (cases h;done))|fail)<;>try simp only [go_sem])|(refine ⟨fun h=>?_,fun h=>?_⟩<;>first|(cases h;done)|try simp only [h])|fail));refine AJ.mk rfl (hc 1) ?_;intro v σ' q;have hv:=q.1;subst hv;have:=hfin 1 rfl _ _ q;simp only [nA];simp only [go_sem];(repeat' ((first|refine wQ mxQ rfl ?_|refine Run.qP CN ?_|fail)<;>try simp only [go_sem]));exact this
 . have b2:(o==2)=false:=by simpa using h2
   have b3:(o==3)=false:=by simpa using h3
   (repeat' ((first|refine wQ mxQ rfl ?_|refine Run.qP CN ?_|fail)<;>try simp only [b2,b3,go_sem]));refine AJ.mk rfl (hc 3) ?_;intro v σ' q;have hv:=q.1;subst hv;have:=hfin 3 (by simp [l9,h2,h3]) _ _ q;simp only [nA];simp only [go_sem];(repeat' ((first|refine wQ mxQ rfl ?_|refine Run.qP CN ?_|fail)<;>try simp only [go_sem]));exact this
end Go.Ab
namespace Go.Ab
open Go.Proofs
theorem nJ (f:FE) (s:Str) (j:Nat) (σ:AH) (hj:σ.blk j=some [.d (.str s)]):AS Tzp 122 [feA f,.gp j 0] σ (fun v σ'=>v= .d (.bool (f.name==s))/\σ'=σ):=by
 refine Pk (by simp) ?_;rw [BS];obtain ⟨nm,ps,o,n,u,ns,ks,al⟩:=f;simp only [FE.enc,Ex.A4,feA,AG,AN];(repeat' ((first|refine wQ mxQ rfl ?_|refine Run.qP Im ?_|fail)<;>try simp only [hj,Bh,go_sem]))
theorem oP:∀ {e:Env} {s:Str} {t:Nat},Nq e s=some t->(s,t)∈e
 |x::e,s,t,h=>by
  obtain ⟨n,u⟩:=x;rw [Nq] at h;split at h
  . rename_i e1;simp only at e1 h;cases h;rw [e1];exact AW
  . exact AU _ (oP h)
theorem AA4:∀ {l:List Str} {s:Str} {k:Nat},DK l s=some k->k < l.length
 |[],s,k,h=>by simp [DK] at h
 |x::l,s,k,h=>by
  rw [DK] at h;split at h
  . cases h;simp
  . cases hi:DK l s with
    |none=>rw [hi] at h;cases h
    |some m=>
     rw [hi] at h;simp only [Ad,AK] at h;subst h;have:=AA4 hi;simp;omega
theorem GX.new {B:GB} (hB:HP B) {σ:AH} {g:GS} {j jc k:Nat} {cs:List AV} (h:GX B σ g j jc) (hk:σ.blk k=none):GX B (σ.AM k cs) g j jc:=by
 obtain ⟨hji,c0,hc0,hbj⟩:=h.sn.nd h.ne;have hne:∀m x,σ.blk m=some x->m≠k:=fun m x hm e=>by rw [e,hk] at hm;cases hm
 refine ⟨⟨by rw [AI,if_neg (hne _ _ h.sn.blk),h.sn.blk],h.sn.Gw,fun _=>⟨hji,c0,hc0,by rw [AI,if_neg (hne _ _ hbj),hbj]⟩⟩,by rw [AI,if_neg (hne _ _ h.e),h.e],fun he=>?_,fun m x hx=>by rw [AI,if_neg (hne _ _ (h.x m x hx)),h.x m x hx],h.jj,h.gi⟩;obtain ⟨a,b⟩:=h.c he;exact ⟨by rw [AI,if_neg (hne _ _ a),a],b⟩
theorem gR {l:List Bool} {i:Nat} {b:Bool} (h:l[i]?=some b):(BL l)[i]?=some (.d (.bool b)):=by simp [BL,h]
theorem jX {l:List (List Nat)} {i:Nat} {x:List Nat} (h:l[i]?=some x):(psC l)[i]?=some (.d (.sl (x.map CC))):=by simp [psC,h]
theorem AIZ (k n:Int) (l:List Ty):tyA (.mk k n l)= .agg [.d (.int .i64 k),.d (.int .i64 n),.d (.sl (l.map Ty.enc))]:=by simp [tyA,Ty.enc,Ty.CM]
theorem vV (B:GB) (hB:HP B) (hD:GD B.G) (sc:List Str) (env:Env) (nm:Str) (at_:Nat) (g:GS) (σ:AH) (j jc:Nat) (hnm:nm≠[]) (hv:PV B.G.fs B.G.dt (.mk 4 nm 0 [] [] []) sc=0) (hes:ES sc env g) (hat:at_ < g.en.length) (hnx:g.nx+1000000<=900000000) (hg:GX B σ g j jc):
 AS Tzp 91 [.gp B.i 0,.d (.str nm),.d (Ix env),nA at_] σ (fun v σ'=>v=nA (ZA B.G env nm at_ g).1/\RQ B σ g (ZA B.G env nm at_ g).1 1000000 0 (ZA B.G env nm at_ g).2 σ'):=by
 have hbi:=hg.bi;refine SO (by simp) ?_;rw [aO];simp only [nA];(repeat' (refine wQ mxQ rfl ?_<;>try simp only [go_sem]));intro jn hjn;have hg1:=hg.new hB (k:=jn) (cs:=[AV.d (.str nm)]) hjn;have hnb1:(nbH σ).le (σ.AM jn [AV.d (.str nm)]):=⟨fun _ _ h=>(by cases h),fun _ h=>h,rfl,fun _ _ h=>h⟩;have hbn:(σ.AM jn [AV.d (.str nm)]).blk jn=some [AV.d (.str nm)]:=BQ;generalize σ.AM jn [AV.d (.str nm)]=σ1 at hg1 hnb1 hbn ⊢;have hf:=mT env nm σ1;cases hlk:Nq env nm with
 |some t=>
  rw [hlk] at hf;simp only [AG8] at hf;have hvar:ZA B.G env nm at_ g=(t,g):=by rw [ZA,hlk]
  rw [hvar];(repeat' ((first|refine wQ mxQ rfl ?_|refine Run.qP Ed ?_|refine AJ.det (hf) ?_|fail)<;>try simp only [hbn,go_sem]));exact ⟨hnb1,⟨j,jc,hg1⟩,hes.lt _ (oP hlk),AR _,by omega,rfl⟩
 |none=>
  rw [hlk] at hf;simp only [AG8] at hf;have hsc:=hes.sc nm hnm;rw [hlk] at hsc;rw [PV,if_pos (show (Ex.mk 4 nm 0 [] [] []).op=4 from rfl)] at hv;simp only [Ex.name,<- hsc,Cm,JI,BW] at hv
  obtain ⟨f,hfi⟩:∃f,DK (DN B.G.fs) nm=some f:=by
   cases h:DK (DN B.G.fs) nm with
   |none=>rw [h] at hv;simp at hv
   |some f=>exact ⟨f,rfl⟩
  have hfl:f < B.G.fs.length:=by have:=AA4 hfi;simpa [DN] using this
  have hbi1:=hg1.bi;have hix:=JJ (fid:=122) (caps:=[.gp jn 0]) (by kernel_rfl) rfl (fun x=>x.name==nm) B.G.fs σ1 (fun x _=>nJ x nm jn _ hbn);rw [dE,hfi] at hix;simp only [Hm] at hix;have hen:g.en≠[]:=fun e=>by rw [e] at hat;cases hat
  obtain ⟨c1,c2,c3,c4,c5⟩:=hg1.c hen;have hje:=hg1.e;rw [V7 hen] at hje;have hcu:=ltT hB.cur;have hcg:(B.es.set B.cur (AV.ms jc g.en.length 3 tkE))[B.cur]?=some (AV.ms jc g.en.length 3 tkE):=by simp [hB.cur]
  have hatT:=ltT hat;obtain ⟨x,hx⟩:=Ak hat;have hle:(at_ * 3+1+1<=(enC g.en).length)=True:=by rw [OU En.row 3 En.F9];simp;omega
  have hwr:=rJ En.row 3 En.F9 1 (.d (.int .i64 (f:Int))) (fun e=> { e with f:=(f:Int)}) hx (by omega) rfl;obtain ⟨q1,q2,q3,q4⟩:=hg1.gi.en x (AD hx);have hg2:=hg1.mod hB (at_:=at_) (fun e=> { e with f:=(f:Int)}) hx ⟨q1,by simp only;omega,by simp only;omega,q4⟩;have hmem:=Ak (show f < B.G.mem.length by rw [hB.lm];exact hfl);obtain ⟨b,hb⟩:=hmem;have hbb:=gR hb
  have hjm:∀cs,(σ1.AM jc cs).blk B.jm=some (BL B.G.mem):=fun cs=>by
   rw [AI,if_neg (fun e=>by rw [<- e,hB.m] at c4;cases c4),hg1.x _ _ hB.m]
  have hjb:∀cs,(σ1.AM jc cs).blk B.i=σ1.blk B.i:=fun cs=>by rw [AI,if_neg (A5 c2)]
  have hfm:=ltT (show f < B.G.mem.length by rw [hB.lm];exact hfl)
  have hvp:ZA B.G env nm at_ g=AIB B.G f at_ (g.Si at_ fun e=> { e with f:=(f:Int)}):=by
   rw [ZA,hlk,hfi];rfl
  rw [hvp];clear hvp;have hnx2:(g.Si at_ fun e=> { e with f:=(f:Int)}).nx=g.nx:=rfl;have hen2:(g.Si at_ fun e=> { e with f:=(f:Int)}).en.length=g.en.length:=by simp [GS.Si]
  generalize (g.Si at_ fun e=> { e with f:=(f:Int)})=g2 at hg2 hnx2 hen2 ⊢;have hmg:B.G.mem.getD f false=b:=by simp [hb]
  rw [AIB,hmg];cases b
  . simp only [AZ,if_false];have hfs:=ltT (show f < B.G.sch.length by rw [hB.ls];exact hfl);obtain ⟨s,hs⟩:=Ak (show f < B.G.sch.length by rw [hB.ls];exact hfl)
    have hjs:∀cs,(σ1.AM jc cs).blk B.js=some (Tw B.G.sch):=fun cs=>by
     rw [AI,if_neg (fun e=>by rw [<- e,hB.s] at c4;cases c4),hg1.x _ _ hB.s]
    have hst:=rI Sch.row 5 Sch.F9 hs;have hsl:(f * 5+5<=(Tw B.G.sch).length)=True:=by have:=(AF.1 hs).1;rw [OU Sch.row 5 Sch.F9];simp;omega
    (repeat' (first|refine ctQ rfl ?_|((first|refine rgQ mxQ ?_|refine cdQ ?_|refine AJ.det (hf) ?_|refine AJ.det (hix) ?_|(refine A9 rfl (fun h=>?_) (fun h=>?_)<;>try (cases h;done)))<;>try simp only [hbn,hbi1,hje,hcu,hcg,A2,hatT,c1,hle,hwr,hjb,hjm,hfm,hbb,hfs,hjs,hst,hsl,Sch.row,go_sem])|(refine ⟨fun h=>?_,fun h=>?_⟩<;>first|(cases h;done)|try simp only [h])|fail));have hnb2:(nbH σ).le (σ1.AM jc (enC (g.en.modify at_ fun e=> { e with f:=(f:Int)}))):=⟨fun _ _ h=>(by cases h),hnb1.tok,hnb1.gt,hnb1.bt⟩;generalize σ1.AM jc (enC (g.en.modify at_ fun e=> { e with f:=(f:Int)}))=τ at hg2 hnb2 ⊢;obtain ⟨s1,s2,s3,s4,s5,s6⟩:=hD.sch s (AD hs);obtain ⟨vs,ps,rs⟩:=s;obtain ⟨n,rfl⟩:=E4 s1;obtain ⟨rk,rn,ra⟩:=rs;simp only [hs,Ca] at s2 s3 s4 s5 s6 ⊢;simp only [Ty.kind,Ty.num,Ty.args];have hnl:n<=100000:=by omega
    have hn2:g2.s.1.length=g2.nx:=rfl;refine AJ.mk rfl (Dl B.i j g2.s.1 g2.s.2 B.rest τ n hg2.sn (by omega) (by omega)) ?_;intro v3 τ1 q;obtain ⟨rfl,hnb3,j3,hg3⟩:=hg2.frs hB q;clear q;rw [hn2];have hat2:at_ < g2.en.length:=by rw [hen2];exact hat
    obtain ⟨y,hy⟩:=Ak hat2;obtain ⟨d1,d2,d3,d4,d5⟩:=hg3.c (fun e=>by rw [show (g2.frs n).en=g2.en from rfl] at e;rw [e] at hat2;cases hat2);rw [xP] at d1;have hle2:(at_ * 3+2+1<=(enC g2.en).length)=True:=by rw [OU En.row 3 En.F9];simp;omega
    have hwr2:=rJ En.row 3 En.F9 2 (.d (.sl ((A8 g2.nx n).map CC))) (fun e=> { e with ar:=A8 g2.nx n}) hy (by omega) rfl;have hra:∀a∈A8 g2.nx n,a < g2.nx+n:=fun a ha=>by rw [Rf] at ha;omega
    obtain ⟨y1,y2,y3,y4⟩:=hg2.gi.en y (AD hy);have hg4:=hg3.mod hB (at_:=at_) (fun e=> { e with ar:=A8 g2.nx n}) (x:=y) hy ⟨by rw [Yl];simp only;omega,y2,y3,fun a ha=>by rw [Yl];exact hra a ha⟩;rw [xP] at hg4;simp only [d1,hle2,hwr2,go_sem];(repeat' (first|refine ctQ rfl ?_|((first|refine rgQ mxQ ?_|refine cdQ ?_|(refine A9 rfl (fun h=>?_) (fun h=>?_)<;>try (cases h;done)))<;>try simp only [go_sem])|(refine ⟨fun h=>?_,fun h=>?_⟩<;>first|(cases h;done)|try simp only [h])|fail))
    have hnb4:(nbH σ).le (τ1.AM jc (enC (g2.en.modify at_ fun e=> { e with ar:=A8 g2.nx n}))):=by
     have h0:=BA hnb2 hnb3;exact ⟨fun _ _ h=>(by cases h),h0.tok,h0.gt,h0.bt⟩
    generalize τ1.AM jc (enC (g2.en.modify at_ fun e=> { e with ar:=A8 g2.nx n}))=τ2 at hg4 hnb4 ⊢
    have hy4:((g2.frs n).Si at_ fun e=> { e with ar:=A8 g2.nx n}).en[at_]?=some { y with ar:=A8 g2.nx n}:=by
     show (g2.en.modify at_ _)[at_]?=_;rw [List.getElem?_modify_eq,hy];rfl
    have hnx4:((g2.frs n).Si at_ fun e=> { e with ar:=A8 g2.nx n}).nx=g2.nx+n:=Yl g2 n;have hen4:((g2.frs n).Si at_ fun e=> { e with ar:=A8 g2.nx n}).en.length=g.en.length:=by simp [GS.Si,xP,hen2]
    generalize ((g2.frs n).Si at_ fun e=> { e with ar:=A8 g2.nx n})=g4 at hg4 hy4 hnx4 hen4 ⊢;have hea:(enC g4.en)[at_ * 3+2]?=some (.d (.sl ((A8 g2.nx n).map CC))):=AIH En.row 3 En.F9 2 hy4 (by omega);have he4:g4.en≠[]:=fun e=>by rw [e] at hy4;simp at hy4
    have f1:=(hg4.c he4).1;have hrl:(A8 g2.nx n).length=n:=by simp
    have hn4:g4.s.1.length=g2.nx+n:=hnx4;generalize har:A8 g2.nx n=ar at *;have hinT:∀t∈ps,AAI B.i B.rest ar t:=fun t ht=>H3 B.i B.rest ar t.size t (AR _) (by rw [hrl];exact Sm s3 t ht);have hal:∀a∈ar,a < g4.s.1.length:=fun a ha=>by rw [hn4];exact hra a ha
    have hli:=MC ar g4.s.1 ps;have hli2:=Zb ar (Ba ar g4.s.1 ps).2 (.mk rk rn ra);have hlt1:=Wo (ar:=ar) (l:=g4.s.1) (ts:=ps) (by rw [hrl];exact s3) hal;have hlt2:=iY (ar:=ar) (l:=(Ba ar g4.s.1 ps).2) (t:= .mk rk rn ra) (by rw [hrl];exact s4) (fun a ha=>CJ (hal a ha) hli.le);have hplen:=Ty.Bt ps;have hll:=MD ar g4.s.1 ps;rw [ANT];simp only;refine Run.J5 mixed ?_;simp only [f1,hea,go_sem];refine ⟨?_,?_⟩<;>
    . refine AJ.mk rfl (JH B.i B.rest ar ps hinT g4.s.1 g4.s.2 j3 τ2 hal (by omega) hg4.sn) ?_;rintro cv τ3 ⟨ho,j5,sn5,fr5⟩;have hg5:=hg4.step hB (s:=((Ba ar g4.s.1 ps).2,g4.s.2)) sn5 fr5 hli.le;have f5:=(hg5.c he4).1;simp only [ho.w4,f5,hea,go_sem];have hic:=H3 B.i B.rest ar _ (.mk rk rn ra) (AR _) (by rw [hrl];exact s4) (Ba ar g4.s.1 ps).2 g4.s.2 j5 τ3 (fun a ha=>CJ (hal a ha) hli.le) (by have:=hli.hi;omega) sn5;rw [AIZ] at hic;refine AJ.mk rfl hic ?_;rintro _ τ4 ⟨rfl,j6,sn6,fr6⟩;simp only [nA];simp only [ho.w4,go_sem];refine E6.own (ho.fr fr6) rfl (by simp) (by simp [hll];omega) (by omega) (fun v2 τ5 ho2 hb2=>?_);simp only [ho2.w4,go_sem];have ho3:C4 (nbH τ2) 3 1 (((Ba ar g4.s.1 ps).1++[(Ey ar (Ba ar g4.s.1 ps).2 (.mk rk rn ra)).1]).map CC) v2 τ5:=by rw [B2];exact ho2
      have hg6:=(hg5.step hB (s:=((Ey ar (Ba ar g4.s.1 ps).2 (.mk rk rn ra)).2,g4.s.2)) sn6 fr6 hli2.le).nbo hb2;refine AJ.mk (by simp [ho2.BF,Tc,Ep]) (Bm B.i j6 _ g4.s.2 B.rest τ5 9 v2 _ hg6.sn ho3.row (fun a ha=>?_) (by have:=hli.hi;have:=hli2.hi;simp only;omega)) ?_
      . rcases AY.1 ha with ha|ha
        . exact CJ (hlt1 a ha) hli2.le
        . simp only [A3] at ha;subst ha;exact hlt2
      intro v7 τ7 q;obtain ⟨e,h1,j7,h2⟩:=hg6.add hB q;clear q;subst e;simp only [nA];simp only [go_sem];(repeat' ((first|refine wQ mxQ rfl ?_|refine Run.qP Ed ?_|fail)<;>try simp only [go_sem]));refine ⟨BA (BA hnb4 ho2.le) h1,⟨j7,jc,h2⟩,?_,?_,?_,hen4⟩
      . show _ < (Kh _ 9 0 _).length;rw [Hb];omega
      . show _<=(Kh _ 9 0 _).length;rw [Hb];have:=hli.le;have:=hli2.le;omega
      . show (Kh _ 9 0 _).length+500000<=_;rw [Hb];have:=hli.hi;have:=hli2.hi;omega
  . simp only [if_true];(repeat' (first|refine ctQ rfl ?_|((first|refine rgQ mxQ ?_|refine cdQ ?_|refine AJ.det (hf) ?_|refine AJ.det (hix) ?_|(refine A9 rfl (fun h=>?_) (fun h=>?_)<;>try (cases h;done)))<;>try simp only [hbn,hbi1,hje,hcu,hcg,A2,hatT,c1,hle,hwr,hjb,hjm,hfm,hbb,go_sem])|(refine ⟨fun h=>?_,fun h=>?_⟩<;>first|(cases h;done)|try simp only [h])|fail));have hnb2:(nbH σ).le (σ1.AM jc (enC (g.en.modify at_ fun e=> { e with f:=(f:Int)}))):=⟨fun _ _ h=>(by cases h),hnb1.tok,hnb1.gt,hnb1.bt⟩;generalize σ1.AM jc (enC (g.en.modify at_ fun e=> { e with f:=(f:Int)}))=τ at hg2 hnb2 ⊢;have hbi2:=hg2.bi;obtain ⟨pl,hpl⟩:=Ak (show f < B.G.ps.length by rw [hB.lp];exact hfl);obtain ⟨rf,hrf⟩:=Ak (show f < B.G.rs.length by rw [hB.lr];exact hfl);have hp2:=hg2.x _ _ hB.p;have hr2:=hg2.x _ _ hB.r;have hpa:=jX hpl;have hra:=QW hrf;have hfp:=ltT (show f < B.G.ps.length by rw [hB.lp];exact hfl);have hfr:=ltT (show f < B.G.rs.length by rw [hB.lr];exact hfl);have hplm:=AD hpl;have hpln:=hD.nn pl hplm;simp only [A6,hpl,hrf,Az]
    have hfin:∀(cv:AV) (τ1:AH) (v:AV) (τ2:AH),(∀k,τ1.blk k=τ.blk k)->C4 (nbH τ) 3 1 ((pl++[rf]).map CC) cv τ1->SNQ τ1 B.i g2.s.1 B.rest j (Kh g2.s.1 9 0 (pl++[rf]),g2.s.2) (nA g2.s.1.length) v τ2->RQ B σ g g2.nx 1000000 0 (g2.add 9 0 (pl++[rf])) τ2:=fun cv τ1 v τ2 hb1 ho q=>by
     obtain ⟨_,h1,j',h2⟩:=(hg2.nbo hb1).add hB q;exact ⟨BA (BA hnb2 ho.le) h1,⟨j',jc,h2⟩,by rw [Ci];omega,by rw [Ci];omega,by rw [Ci];omega,by rw [p5,hen2];rfl⟩
    refine Run.J5 mixed ?_;simp only [hbi2,hp2,hr2,hpa,hra,hfp,hfr,A2,go_sem];refine ⟨?_,?_,?_⟩<;>
    . refine AJ.mk rfl (Sr pl τ (by omega)) ?_;rintro cv τ1 ⟨ho,hb1⟩;simp only [ho.w4,hb1,hbi2,hr2,hra,hfr,A2,go_sem];refine E6.own ho rfl (by simp) (by simp;omega) (by omega) (fun v2 τ2 ho2 hb2=>?_);simp only [ho2.w4,go_sem];have hg3:=(hg2.nbo hb1).nbo hb2;have hb3:∀k,τ2.blk k=τ.blk k:=fun k=>(hb2 k).trans (hb1 k);have ho3:C4 (nbH τ) 3 1 ((pl++[rf]).map CC) v2 τ2:=by rw [B2];exact ho2
      refine AJ.mk (by simp [ho2.BF,Tc,Ep]) (Bm B.i j g2.s.1 g2.s.2 B.rest τ2 9 v2 (pl++[rf]) hg3.sn ho3.row (fun a ha=>?_) (by have:g2.s.1.length=g2.nx:=rfl;omega)) ?_
      . rcases AY.1 ha with ha|ha
        . exact hg2.gi.ps pl hplm a ha
        . simp only [A3] at ha;subst ha;exact hg2.gi.rs _ (AD hrf)
      intro v3 τ3 q;have hq:=hfin v2 τ2 v3 τ3 hb3 ho3 q;obtain ⟨e,_⟩:=q;subst e;simp only [nA];simp only [go_sem];(repeat' ((first|refine wQ mxQ rfl ?_|refine Run.qP Ed ?_|fail)<;>try simp only [go_sem]));exact ⟨rfl,hq⟩
end Go.Ab
namespace Go.Ab
open Go.Proofs
theorem SX.AFA {ext ext':Nat->Option (List AV)} {σ:AH} {i j js:Nat} {l:List Nd} {fl:Bool} {rest cs:List AV} (h:SX ext' σ i l fl rest j js cs) (hx:∀k c,ext k=some c->ext' k=some c):SX ext σ i l fl rest j js cs:=by
 have hn:∀k,ext' k=none->ext k=none:=fun k hk=>by
  cases he:ext k with
  |none=>rfl
  |some c=>rw [hx k c he] at hk;cases hk
 exact ⟨h.sn,h.row,fun k c hk=>h.x k c (hx k c hk),hn _ h.xi,fun hl=>hn _ (h.xj hl),hn _ h.xs,h.si,h.sj⟩
def Hc (ext:Nat->Option (List AV)) (m:Nat) (cs:List AV) (k:Nat):Option (List AV):=if k=m then some cs else ext k
theorem SX.AP7 {ext:Nat->Option (List AV)} {σ τ:AH} {i j js m:Nat} {l:List Nd} {fl:Bool} {rest cs cm:List AV} (hl:l≠[]) (h:SX ext σ i l fl rest j js cs) (mo:Mo σ τ) (hm:σ.blk m=none) (hmb:τ.blk m=some cm):SX (Hc ext m cm) τ i l fl rest j js cs/\∀k c,ext k=some c->Hc ext m cm k=some c:=by
 obtain ⟨hji,c0,hc0,hbj⟩:=h.sn.nd hl;have hi:i≠m:=fun e=>by rw [<- e,h.sn.blk] at hm;cases hm
 have hj:j≠m:=fun e=>by rw [<- e,hbj] at hm;cases hm
 have hs:js≠m:=fun e=>by rw [<- e,h.row] at hm;cases hm
 have hk:∀k c,ext k=some c->k≠m:=fun k c hk e=>by have:=h.x k c hk;rw [e,hm] at this;cases this
 refine ⟨⟨⟨mo.blk _ _ h.sn.blk,h.sn.Gw,fun _=>⟨hji,c0,hc0,mo.blk _ _ hbj⟩⟩,mo.blk _ _ h.row,fun k c hx=>?_,by rw [Hc,if_neg hi];exact h.xi,fun hl=>by rw [Hc,if_neg hj];exact h.xj hl,by rw [Hc,if_neg hs];exact h.xs,h.si,h.sj⟩,fun k c hx=>by rw [Hc,if_neg (hk k c hx)];exact hx⟩;unfold Hc at hx;split at hx
 . rename_i e;subst e;cases hx;exact hmb
 . exact mo.blk _ _ (h.x k c hx)
theorem iG (ext:Nat->Option (List AV)) (m:Nat) (cs:List AV):Hc ext m cs m=some cs:=by simp [Hc]
def YZ (l:List Nd) (pl:List Nat) (rf:Nat) (en:List En):Bool:=(pl.any (eY l)||eY l rf)||en.any (AG1 l)
theorem xR (B:GB) (ext:Nat->Option (List AV)) (σ0:AH) (l:List Nd) (d:Nat->Nat) (fl:Bool) (js j1 j3 j4:Nat) (hl0:l≠[]) (he:JE ext B.i l d js j1 j3 j4) (f jc:Nat) (es:List AV) (pl:List Nat) (rf:Nat) (en:List En)
 (xp:ext B.jp=some (psC B.G.ps)) (xr:ext B.jr=some (Co B.G.rs)) (xe:ext B.je=some es) (hes:es.length=B.es.length) (xc:en≠[]->ext jc=some (enC en))
 (hpl:B.G.ps[f]?=some pl) (hrf:B.G.rs[f]?=some rf) (hen:es[f]?=some (enV en jc)) (hln:en.length<=900000000)
 (hp:∀a∈pl,a < l.length) (hr:rf < l.length) (ht:∀x∈en,x.t < l.length/\∀a∈x.ar,a < l.length) (τ:AH) (hj:JZ ext σ0 B.i B.rest l fl js τ):
 AS Tzp 31 [.gp B.i 0,.d (.int .i64 (f:Int)),szC j1 j3 j4] τ (fun v σ'=>v= .d (.bool (YZ l pl rf en))/\JZ ext σ0 B.i B.rest l fl js σ'):=by
 obtain ⟨hnb,kn,j0,hkn,hs⟩:=hj;refine TY (by simp) ?_;rw [D6];(repeat' (first|refine ctQ rfl ?_|((first|refine rgQ mxQ ?_|refine cdQ ?_|(refine A9 rfl (fun h=>?_) (fun h=>?_)<;>try (cases h;done)))<;>try simp only [szC,go_sem])|(refine ⟨fun h=>?_,fun h=>?_⟩<;>first|(cases h;done)|try simp only [h])|fail));intro j5 hj5;have m5:=(Mo.refl τ).new hj5 [szC j1 j3 j4];have f5:(τ.AM j5 [szC j1 j3 j4]).blk j5=some [szC j1 j3 j4]:=BQ;obtain ⟨hs5,w5⟩:=hs.AP7 hl0 m5 hj5 f5;have hs':τ.AM j5 [AV.fn 61 [] [.gp j1 0,.gp j3 0,.gp j4 0]]=τ.AM j5 [szC j1 j3 j4]:=rfl;rw [hs'];generalize τ.AM j5 [szC j1 j3 j4]=τ5 at *;(repeat' (first|refine ctQ rfl ?_|((first|refine rgQ mxQ ?_|refine cdQ ?_|(refine A9 rfl (fun h=>?_) (fun h=>?_)<;>try (cases h;done)))<;>try simp only [go_sem])|(refine ⟨fun h=>?_,fun h=>?_⟩<;>first|(cases h;done)|try simp only [h])|fail));intro j7 hj7;simp only [Ib,go_sem];have m7:=(Mo.refl τ5).uK hj7 [AV.HK] [.fn 62 [] [.gp j5 0]] (1,139);have f7:(((τ5.AM j7 [AV.HK]).Br j7 (1,139)).AM j7 [.fn 62 [] [.gp j5 0]]).blk j7=some [.fn 62 [] [.gp j5 0]]:=BQ;obtain ⟨hs7,w7⟩:=hs5.AP7 hl0 m7 hj7.1 f7;generalize ((τ5.AM j7 [AV.HK]).Br j7 (1,139)).AM j7 [.fn 62 [] [.gp j5 0]]=τ7 at *
 have w57:∀k c,ext k=some c->Hc (Hc ext j5 [szC j1 j3 j4]) j7 [.fn 62 [] [.gp j5 0]] k=some c:=fun k c h=>w7 k c (w5 k c h);have x5:Hc (Hc ext j5 [szC j1 j3 j4]) j7 [.fn 62 [] [.gp j5 0]] j5=some [szC j1 j3 j4]:=w7 _ _ (iG _ _ _);have x7:=iG (Hc ext j5 [szC j1 j3 j4]) j7 [.fn 62 [] [.gp j5 0]];generalize Hc (Hc ext j5 [szC j1 j3 j4]) j7 [.fn 62 [] [.gp j5 0]]=ext2 at *;have he2:JE ext2 B.i l d js j1 j3 j4:=⟨he.ln,he.fr,w57 _ _ he.x1,w57 _ _ he.x3,w57 _ _ he.x4⟩;have hj:JZ ext2 σ0 B.i B.rest l fl js τ7:=⟨DW (DW hnb m5.nb) m7.nb,kn,j0,hkn,hs7⟩;have hout:∀τ',JZ ext2 σ0 B.i B.rest l fl js τ'->JZ ext σ0 B.i B.rest l fl js τ':=fun τ' ⟨a,b,c,e,f⟩=>⟨a,b,c,e,f.AFA w57⟩;clear hs hs5 hs7 m5 m7 hnb hkn
 have look:∀τ',JZ ext2 σ0 B.i B.rest l fl js τ'->(∃j',τ'.blk B.i=some (.ms j' l.length 4 tkN::.d (.bool fl)::[.d (.sl (B.ds.map DE.enc)),.d (.sl (B.G.fs.map FE.enc)),dsA B.G.dt,.ms B.js B.G.sch.length 5 eSs,.ms B.jm B.G.mem.length 1 eMm,.ms B.jp B.G.ps.length 1 ePp,.ms B.jr B.G.rs.length 1 3,.ms B.je B.es.length 1 eEe,.d (.int .i64 (B.cur:Int))]))/\
  τ'.blk B.jp=some (psC B.G.ps)/\τ'.blk B.jr=some (Co B.G.rs)/\τ'.blk B.je=some es/\τ'.blk j7=some [.fn 62 [] [.gp j5 0]]:=fun τ' ⟨_,_,j',_,h⟩=>
  ⟨⟨j',by rw [h.sn.blk,Eo hl0];rfl⟩,h.x _ _ (w57 _ _ xp),h.x _ _ (w57 _ _ xr),h.x _ _ (w57 _ _ xe),h.x _ _ x7⟩
 obtain ⟨⟨jn,k1⟩,k2,k3,k4,k5⟩:=look τ7 hj;have hpa:=jX hpl;have hra:=QW hrf;have hfp:=ltT (AF.1 hpl).1;have hfr:=ltT (AF.1 hrf).1;have hfe:((f:Int) < (B.es.length:Int))=True:=by rw [<- hes];exact ltT (AF.1 hen).1
 obtain ⟨q1,q2,q3,q4,q5⟩:=SB en jc;have hcf:=fun (τ':AH) (hj':JZ ext2 σ0 B.i B.rest l fl js τ')=>N6 (fid:=62) (caps:=[.gp j5 0]) (by kernel_rfl) rfl (eY l) (JZ ext2 σ0 B.i B.rest l fl js) pl (fun x hx τ hj=>OI he2 x5 x (hp x hx) τ hj) τ' hj';have hce:=fun (τ':AH) (hj':JZ ext2 σ0 B.i B.rest l fl js τ')=>YH (fid:=65) (caps:=[.gp j7 0]) (by kernel_rfl) rfl (AG1 l) (JZ ext2 σ0 B.i B.rest l fl js) en jc (fun h τ ⟨_,_,_,_,hh⟩=>hh.x _ _ (w57 _ _ (xc h))) hln (fun x hx τ hj=>p7 he2 x5 x7 x (ht x hx).1 (ht x hx).2 τ hj) τ' hj';rw [YZ];(repeat' (refine wQ mxQ rfl ?_<;>try simp only [k1,k2,k5,hpa,hfp,A2,go_sem]));refine AJ.mk rfl (hcf τ7 hj) ?_;rintro _ τ8 ⟨rfl,hj8⟩;obtain ⟨⟨jn8,k1⟩,k2,k3,k4,k5⟩:=look τ8 hj8;cases hc1:pl.any (eY l) with
 |true=>
  simp only [k1,k3,k5,hra,hfr,A2,go_sem];(repeat' ((first|refine wQ mxQ rfl ?_|refine Run.qP FJ ?_|fail)<;>try simp only [go_sem]));exact hout _ hj8
 |false=>
  simp only [k1,k3,k5,hra,hfr,A2,go_sem];have hc2:=OI he2 x5 rf hr τ8 hj8;simp only [nA] at hc2;refine ⟨62,[],[.gp j5 0],rfl,by kernel_rfl,AJ.mk rfl hc2 ?_⟩;rintro _ τ9 ⟨rfl,hj9⟩;obtain ⟨⟨jn9,k1⟩,k2,k3,k4,k5⟩:=look τ9 hj9;cases hc3:eY l rf with
  |true=>
   simp only [go_sem];(repeat' ((first|refine wQ mxQ rfl ?_|refine Run.qP FJ ?_|fail)<;>try simp only [go_sem]));exact hout _ hj9
  |false=>
   simp only [go_sem];(repeat' (refine wQ mxQ rfl ?_<;>try simp only [k1,k4,hen,hfe,A2,q1,q2,q3,q4,go_sem]));refine AJ.mk (by simp [q2,fZ]) (hce τ9 hj9) ?_;rintro _ τ10 ⟨rfl,hj10⟩;simp only [go_sem];(repeat' ((first|refine wQ mxQ rfl ?_|refine Run.qP FJ ?_|fail)<;>try simp only [go_sem]));exact hout _ hj10
end Go.Ab
namespace Go.Ab
open Go.Proofs
def Ie (l:List Nd):Nat->List Bool×List Nat->Nat->List Bool×List Nat
 |0,s,_=>s
 |k+1,s,n=>
  let r:=rtN l n
  if s.1[r]?=some false then
   (((l[r]?).map Nd.ar).getD []).foldl (fun s a=>Ie l k s a) (s.1.set r true,if ((l[r]?).map Nd.k)=some 0 then s.2++[r] else s.2)
                                                                                   else s
def fz (sn:List Bool):Nat:=sn.countP (·==false)
theorem xV {sn:List Bool} {r:Nat} (h:sn[r]?=some false):fz (sn.set r true)+1=fz sn:=by
 induction sn generalizing r with
 |nil=>simp at h
 |cons x sn ih=>
  cases r with
  |zero=>
   simp only [Av,AK] at h;subst h;simp [fz,K5]
  |succ r=>
   have:=ih (r:=r) (by simpa using h);simp only [fz,CH,Fk] at this ⊢;omega
theorem gS {l:List Bool} {r:Nat} (b:Bool) (h:r < l.length):(BL l).take r++[.d (.bool b)]++(BL l).drop (r+1)=BL (l.set r b):=by
 induction l generalizing r with
 |nil=>cases h
 |cons x l ih=>
  cases r with
  |zero=>simp [BL]
  |succ r=>
   have:=ih (r:=r) (by simpa using h);simp only [BL,AG,C3,FD,CH,AX] at this ⊢;rw [this]
structure UX (ext:Nat->Option (List AV)) (σb σ:AH) (i:Nat) (l:List Nd) (fl:Bool) (rest:List AV) (j js j5:Nat) (s:List Bool×List Nat) (v:AV):Prop where
 sx:SX ext σ i l fl rest j js (BL s.1)
 row:σ.blk j5=some [v]
 x5:ext j5=none
 ei:j5≠i
 ej:l≠[]->j5≠j
 es:j5≠js
 own:C4 (nbH σb) 3 1 (s.2.map CC) v σ
 len:s.1.length=l.length
 bd:s.2.length+fz s.1<=l.length
theorem UX.step {ext:Nat->Option (List AV)} {σb σ σ':AH} {i j j' js j5:Nat} {l:List Nd} {fl:Bool} {rest:List AV} {s:List Bool×List Nat} {v:AV} (h:UX ext σb σ i l fl rest j js j5 s v) (sn:SN σ' i l fl rest j') (fr:Fr σ i l j σ' l j'):UX ext σb σ' i l fl rest j' js j5 s v:=
 ⟨h.sx.step sn fr,by rw [fr.blk j5 h.ei h.ej (by rw [h.row];simp),h.row],h.x5,h.ei,fr.apart h.ej (by rw [h.row];simp),h.es,h.own.fr fr,h.len,h.bd⟩
theorem UX.see {ext:Nat->Option (List AV)} {σb σ:AH} {i j js j5 r:Nat} {l:List Nd} {fl:Bool} {rest:List AV} {s:List Bool×List Nat} {v:AV} (h:UX ext σb σ i l fl rest j js j5 s v) (hr:s.1[r]?=some false):UX ext σb (σ.AM js (BL (s.1.set r true))) i l fl rest j js j5 (s.1.set r true,s.2) v:=by
 have:=xV hr;exact ⟨h.sx.set _,by rw [AI,if_neg h.es,h.row],h.x5,h.ei,h.ej,h.es,h.own.Ia ⟨fun _ _ h=>(by cases h),h.own.le.tok,h.own.le.gt,h.own.le.bt⟩ (fun _ _ h=>h),by simp [h.len],by have:=h.bd;simp only;omega⟩
theorem UX.put {ext:Nat->Option (List AV)} {σb σ σ':AH} {i j js j5 r:Nat} {l:List Nd} {fl:Bool} {rest:List AV} {sn:List Bool} {out:List Nat} {v v':AV} (h:UX ext σb σ i l fl rest j js j5 (sn,out) v) (hb:∀k,σ'.blk k=σ.blk k) (ho:C4 (nbH σb) 3 1 ((out++[r]).map CC) v' σ') (hd:out.length+1+fz sn<=l.length):UX ext σb (σ'.AM j5 [v']) i l fl rest j js j5 (sn,out++[r]) v':=by
 have hsx:=h.sx;have hxk:∀k c,ext k=some c->k≠j5:=fun k c hk e=>by rw [e,h.x5] at hk;cases hk
 refine ⟨⟨(hsx.sn.own hb).set h.ei h.ej,by rw [AI,if_neg (A5 h.es),hb];exact hsx.row,fun k c hk=>by rw [AI,if_neg (hxk k c hk),hb];exact hsx.x k c hk,hsx.xi,hsx.xj,hsx.xs,hsx.si,hsx.sj⟩,BQ,h.x5,h.ei,h.ej,h.es,ho.Ia ⟨fun _ _ h=>(by cases h),ho.le.tok,ho.le.gt,ho.le.bt⟩ (fun _ _ h=>h),h.len,by simp;omega⟩
theorem nI (ext:Nat->Option (List AV)) (σb:AH) (i:Nat) (rest:List AV) (l:List Nd) (fl:Bool) (j2 j6 j5 j7 js:Nat) (hln:l.length<=900000000) (h2:ext j2=some [.gp i 0]) (h6:ext j6=some [.ms js l.length 1 eMm]) (h7:ext j7=some [.fn 125 [] [.gp j2 0,.gp j6 0,.gp j5 0,.gp j7 0]]):
 ∀(k:Nat) (s:List Bool×List Nat) (v:AV) (j:Nat) (σ:AH) (n:Nat),fz s.1 < k->n < l.length->UX ext σb σ i l fl rest j js j5 s v->
 AS Tzp 125 [nA n,.gp j2 0,.gp j6 0,.gp j5 0,.gp j7 0] σ (fun _ σ'=>fz (Ie l k s n).1<=fz s.1/\∃v' j',UX ext σb σ' i l fl rest j' js j5 (Ie l k s n) v'):=by
 intro k
 induction k with
 |zero=>intro s v j σ n h;omega
 |succ k ihk=>
 intro s v j σ n hz hn hs;have hl0:l≠[]:=fun e=>by rw [e] at hn;cases hn
 obtain ⟨sn,out⟩:=s;refine Ox (by simp) ?_;rw [show VL [nA n,.gp j2 0,.gp j6 0,.gp j5 0,.gp j7 0]=put 0 (nA n) (put 1 (.gp j2 0) (put 2 (.gp j6 0) (put 3 (.gp j5 0) (put 4 (.gp j7 0) U)))) from wM _ _ _ _ _];have hb2:=hs.sx.x _ _ h2;obtain ⟨x,hx,hxp⟩:=hs.sx.sn.Gw.root hn;have hrl:=(AF.1 hx).1;rw [Ie];simp only [nA];generalize hr:rtN l n=r at *;(repeat' (first|refine ctQ rfl ?_|((first|refine rgQ mxQ ?_|refine cdQ ?_|(refine A9 rfl (fun h=>?_) (fun h=>?_)<;>try (cases h;done)))<;>try simp only [hb2,go_sem])|(refine ⟨fun h=>?_,fun h=>?_⟩<;>first|(cases h;done)|try simp only [h])|fail));refine AJ.mk rfl (HB i j l fl rest σ n hs.sx.sn hn hln) ?_;rintro _ σ1 ⟨rfl,j8,sn8,fr8⟩;rw [hr];simp only [nA];simp only [go_sem];have hs8:=hs.step sn8 fr8;clear hs sn8 fr8 hb2;have hb2:=hs8.sx.x _ _ h2;have hb6:=hs8.sx.x _ _ h6;have hbs:=hs8.sx.row;have hlen:sn.length=l.length:=hs8.len;obtain ⟨b,hb⟩:=Ak (show r < sn.length by omega);have hba:=gR hb;have hrT:=ltT hrl;cases b with
 |true=>
  rw [hb];simp only [AK,Bool.true_eq_false,if_false];(repeat' (first|refine ctQ rfl ?_|((first|refine rgQ mxQ ?_|refine cdQ ?_|refine Run.qP F2 ?_|(refine A9 rfl (fun h=>?_) (fun h=>?_)<;>try (cases h;done)))<;>try simp only [hb6,hbs,hba,hrT,A2,go_sem])|(refine ⟨fun h=>?_,fun h=>?_⟩<;>first|(cases h;done)|try simp only [h])|fail));exact ⟨v,j8,hs8⟩
 |false=>
  rw [if_pos hb];have hle1:(r+1<=(BL sn).length)=True:=by rw [O2];simp;omega
  have hset:=gS true (show r < sn.length by omega);have hs9:=hs8.see hb;have hz9:=xV hb;have d2:(j2=js)=False:=by simp only [eq_iff_iff,iff_false];intro e;rw [e,hs8.sx.xs] at h2;cases h2
  have di:(i=js)=False:=by simp only [eq_iff_iff,iff_false];exact fun e=>hs8.sx.si e.symm
  have dj:(j8=js)=False:=by simp only [eq_iff_iff,iff_false];exact fun e=>hs8.sx.sj hl0 e.symm
  have d5:(j5=js)=False:=by simp only [eq_iff_iff,iff_false];exact hs8.es
  obtain ⟨hji,c,hrep,hbj⟩:=hs8.sx.sn.nd hl0;have hbi:=hs8.sx.sn.blk;rw [Eo hl0] at hbi;obtain ⟨y,hy,yk,yn,ya⟩:=hrep.at hx;obtain ⟨y1,_,y3,_⟩:=RY hy;rw [yk] at y1;rw [ya] at y3;have hv5:=hs8.row;have hbd:=hs8.bd;simp only at hz hbd hs9;have hbs':σ1.blk js=some (BL sn):=hbs
  -- behind the test
  have hrest:∀(τ:AH) (v4:AV) (j9:Nat) (out4:List Nat),UX ext σb τ i l fl rest j9 js j5 (sn.set r true,out4) v4->
   Run Cj (fun _ σ'=>fz (x.ar.foldl (fun s a=>Ie l k s a) (sn.set r true,out4)).1<=fz sn/\∃v' j',UX ext σb σ' i l fl rest j' js j5 (x.ar.foldl (fun s a=>Ie l k s a) (sn.set r true,out4)) v')
    [.code (.loop HL),.blk 0] (put 4 (.gp j7 0) (put 40 (.d (.sl (x.ar.map CC))) (put 41 (.d (.int .i64 (x.ar.length:Int))) (put 42 (.d (.int .i64 0)) U)))) E τ:=by
   intro τ v4 j9 out4 hu;refine Run.slot 40 (fun hsl=>?_);simp only [D0,reduceIte,HS,AV.FU,AA] at hsl;refine Run.BB ?_
   refine Run.BG ((fun (a4:AV) (a40:AV) (a41:AV)=>fun (z:Nat×AH)=>put 4 a4 (put 40 a40 (put 41 a41 (put 42 (.d (.int .i64 z.1)) U)))) _ _ _) (fun _=>E) (fun z=>z.2)
    (fun z=>z.1<=x.ar.length/\fz ((x.ar.take z.1).foldl (fun s a=>Ie l k s a) (sn.set r true,out4)).1+1<=fz sn/\∃v' j',UX ext σb z.2 i l fl rest j' js j5 ((x.ar.take z.1).foldl (fun s a=>Ie l k s a) (sn.set r true,out4)) v')
    (fun z=>x.ar.length - z.1) ?_ (0,τ) ⟨by simp,by simp only [C7,List.foldl_nil];omega,v4,j9,hu⟩
   rintro ⟨p,τ5⟩ ⟨hp,hfz,v5,j10,hu5⟩ ih;simp only at hp hfz hu5;have hb7:=hu5.sx.x _ _ h7;by_cases hlt:p < x.ar.length
   . obtain ⟨a,ha⟩:=Ak hlt;have har:=H0 ha;have hal:=hu5.sx.sn.Gw.ar _ _ hx a (AD ha)
     have hst:(x.ar.take (p+1)).foldl (fun s a=>Ie l k s a) (sn.set r true,out4)=Ie l k ((x.ar.take p).foldl (fun s a=>Ie l k s a) (sn.set r true,out4)) a:=by
      rw [Ae ha,Cb];rfl
     have hw1:IntKind.i64.wrap ((p:Int)+1)=((p+1:Nat):Int):=by rw [BP (by omega) (by omega)];omega
     have hcall:=ihk _ v5 j10 τ5 a (by omega) hal hu5;simp only [nA] at hcall;(repeat' (first|refine ctQ rfl ?_|((first|refine rgQ mxQ ?_|refine cdQ ?_|(refine A9 rfl (fun h=>?_) (fun h=>?_)<;>try (cases h;done)))<;>try simp only [Ag hlt,har,hb7,go_sem])|(refine ⟨fun h=>?_,fun h=>?_⟩<;>first|(cases h;done)|try simp only [h])|fail));refine ⟨125,[],[.gp j2 0,.gp j6 0,.gp j5 0,.gp j7 0],rfl,by kernel_rfl,AJ.mk rfl hcall ?_⟩;rintro v6 τ6 ⟨hz6,v7,j11,hu6⟩;simp only [go_sem];(repeat' (first|refine ctQ rfl ?_|((first|refine rgQ mxQ ?_|refine cdQ ?_|(refine A9 rfl (fun h=>?_) (fun h=>?_)<;>try (cases h;done)))<;>try simp only [hw1,go_sem])|(refine ⟨fun h=>?_,fun h=>?_⟩<;>first|(cases h;done)|try simp only [h])|fail));exact ih ⟨p+1,τ6⟩ ⟨hlt,by simp only [hst];omega,v7,j11,by simp only [hst];exact hu6⟩ (by simp only;omega)
   . have hpe:p=x.ar.length:=by omega
     subst hpe;rw [BM] at hfz hu5;(repeat' (first|refine ctQ rfl ?_|((first|refine rgQ mxQ ?_|refine cdQ ?_|(refine A9 rfl (fun h=>?_) (fun h=>?_)<;>try (cases h;done)))<;>try simp only [Bk hlt,go_sem])|(refine ⟨fun h=>?_,fun h=>?_⟩<;>first|(cases h;done)|try simp only [h])|fail));exact Run.fin F2 rfl (fun _ _ h=>h) (AH.le_refl _) ⟨by omega,v5,j10,hu5⟩
  simp only [hx,Ad,Az,AK];by_cases hk0:x.k=0
  . rw [if_pos hk0];have hkb:(x.k==0)=true:=by simpa using hk0
    have how:=hs9.own;(repeat' (first|refine ctQ rfl ?_|((first|refine rgQ mxQ ?_|refine cdQ ?_|(refine A9 rfl (fun h=>?_) (fun h=>?_)<;>try (cases h;done)))<;>try simp only [hb6,hbs,hba,hrT,A2,hle1,hset,d2,di,dj,d5,hb2,hbi,hbj,y1,hkb,hv5,how.BF,how.BT,how.cells,how.cell,go_sem])|(refine ⟨fun h=>?_,fun h=>?_⟩<;>first|(cases h;done)|try simp only [h])|fail));refine E6.own how rfl (by simp) (by simp;omega) (by omega) (fun v' τ3 ho' hb'=>?_);have h35:τ3.blk j5=some [v]:=by rw [hb'];exact hs9.row
    simp only [ho'.BF,ho'.BT,ho'.cells,ho'.cell,h35,go_sem];have hu:=hs9.put (r:=r) hb' (by rw [B2];exact ho') (by omega);have hb2':=hu.sx.x _ _ h2;obtain ⟨_,c',hrep',hbj'⟩:=hu.sx.sn.nd hl0;have hbi':=hu.sx.sn.blk;rw [Eo hl0] at hbi';obtain ⟨y',hy',_,_,ya'⟩:=hrep'.at hx;obtain ⟨_,_,y3',_⟩:=RY hy';rw [ya'] at y3';have hre:=hrest _ v' j8 _ hu;generalize τ3.AM j5 [v']=τ4 at *;(repeat' (first|refine ctQ rfl ?_|((first|refine rgQ mxQ ?_|refine cdQ ?_|(refine A9 rfl (fun h=>?_) (fun h=>?_)<;>try (cases h;done)))<;>try simp only [hb2',hrT,hbi',hbj',y3',AA,go_sem])|(refine ⟨fun h=>?_,fun h=>?_⟩<;>first|(cases h;done)|try simp only [h])|fail));exact hre
  . rw [if_neg hk0];have hkb:(x.k==0)=false:=by simpa using hk0
    have how:=hs9.own;(repeat' (first|refine ctQ rfl ?_|((first|refine rgQ mxQ ?_|refine cdQ ?_|(refine A9 rfl (fun h=>?_) (fun h=>?_)<;>try (cases h;done)))<;>try simp only [hb6,hbs,hba,hrT,A2,hle1,hset,d2,di,dj,d5,hb2,hbi,hbj,y1,y3,hkb,hv5,AA,go_sem])|(refine ⟨fun h=>?_,fun h=>?_⟩<;>first|(cases h;done)|try simp only [h])|fail));exact hrest _ v j8 _ hs9
end Go.Ab
namespace Go.Ab
open Go.Proofs
theorem T9 (G:GC) (k:Ex) (env:Env) (f:Nat->Nat->SS->SS):∀(ks:List Ex) (i:Nat) (g:GS),D7 G (ks++[k]) env i f g= { (Bc G k env (D7 G ks env i f g)).2 with s:=f (i+ks.length) (Bc G k env (D7 G ks env i f g)).1 (Bc G k env (D7 G ks env i f g)).2.s}
 |[],i,g=>by simp [D7]
 |u::ks,i,g=>by
  rw [AX,D7];simp only [T9 G k env f ks];simp only [D7,A0];rw [show i+1+ks.length=i+(ks.length+1) from by omega]
structure KS (B:GB) (σ:AH) (g:GS) (ks:List Ex) (g':GS) (σ':AH):Prop where
 nb:(nbH σ).le σ'
 gx:∃j jc,GX B σ' g' j jc
 le:g.nx<=g'.nx
 hi:g'.nx<=g.nx+1000000 * Ex.AT ks
 en:g'.en.length=g.en.length+Ex.AT ks
theorem KS.nil {B:GB} {σ:AH} {g:GS} {j jc:Nat} (h:GX B σ g j jc):KS B σ g [] g σ:=⟨IB σ,⟨j,jc,h⟩,AR _,by simp [Ex.AT],by simp [Ex.AT]⟩
theorem KS.snoc {B:GB} {σ τ τ':AH} {g g1 g2 g3:GS} {ks:List Ex} {p n:Nat} {k:Ex} (hk:ks[p]?=some k) (h:KS B σ g (ks.take p) g1 τ) (q:RQ B τ g1 n (1000000 * k.size) k.size g2 τ') {τ2:AH} {j jc:Nat} (hn:(nbH τ').le τ2) (hg:GX B τ2 g3 j jc) (h1:g2.nx<=g3.nx) (h2:g3.nx<=g2.nx+500000) (h3:g3.en.length=g2.en.length):KS B σ g (ks.take (p+1)) g3 τ2:=by
 obtain ⟨hz1,hz2⟩:=Ex.I4 hk;have a1:=h.le;have a2:=h.hi;have a3:=h.en;have b1:=q.le;have b2:=q.hi;have b3:=q.en;exact ⟨BA (BA h.nb q.nb) hn,⟨j,jc,hg⟩,by omega,by omega,by omega⟩
def opF:Nat->Nat->SS->SS:=fun _ r s=>Go.Ab.uni (Kh s.1 1 0 [],s.2) r s.1.length
theorem uO (B:GB) (hB:HP B) (nm:Str) (nu:Int) (ns:List Str) (ks:List Ex) (al:List Al) (hk:∀k∈ks,ExC B k) (sc:List Str) (env:Env) (g:GS) (σ:AH) (j jc:Nat) (hok:∀k∈ks,OkE B.G k sc) (hes:ES sc env g) (hnx:g.nx+1000000 * (1+Ex.AT ks)<=900000000) (hen:g.en.length+Ex.AT ks<=900000000) (hg:GX B σ g j jc):
 AS Tzp 97 [.gp B.i 0,exA (.mk 13 nm nu ns ks al),.d (Ix env)] σ (fun v σ'=>v=nA (D7 B.G ks env 0 opF g).nx/\RQ B σ g (D7 B.G ks env 0 opF g).nx (1000000 * (1+Ex.AT ks)) (Ex.AT ks) ((D7 B.G ks env 0 opF g).add (if 6<=nu/\nu<=8 then 2 else 1) 0 []) σ'):=by
 have hkl:=Ex.Bt ks;refine SM (by simp) ?_;rw [D6];simp only [exA,Ex.A4,AG,AN];(repeat' (refine wQ mxQ rfl ?_<;>try simp only [AA,go_sem]));refine Run.BB ?_
 refine Run.BG ((fun (a0:AV) (a2:AV) (a4:AV) (a10:AV) (a11:AV)=>fun (z:Nat×AH)=>put 0 a0 (put 2 a2 (put 4 a4 (put 10 a10 (put 11 a11 (put 12 (.d (.int .i64 z.1)) U)))))) _ _ _ _ _) (fun _=>Ar 4 [.d (.int .i64 13),.d (.str nm),.d (.int .i64 nu),.d (.sl (ns.map Bb)),.d (.sl (ks.map Ex.enc)),.d (.sl (al.map Al.enc))] E) (fun z=>z.2)
  (fun z=>z.1<=ks.length/\KS B σ g (ks.take z.1) (D7 B.G (ks.take z.1) env 0 opF g) z.2)
  (fun z=>ks.length - z.1) ?_ (0,σ) ⟨by simp,by simp only [C7,D7];exact KS.nil hg⟩
 rintro ⟨p,τ⟩ ⟨hp,hr⟩ ih;simp only at hp hr;by_cases hlt:p < ks.length
 . obtain ⟨k,hke⟩:=Ak hlt;have he:=BR (enc:=Ex.enc) hke;have hw1:=A7 (show p+1<=9000000000000000000 by omega);obtain ⟨hz1,hz2⟩:=Ex.I4 hke;have hsn:=T9 B.G k env opF (ks.take p) 0 g;rw [<- Ae hke] at hsn;generalize D7 B.G (ks.take p) env 0 opF g=q at *;obtain ⟨j1,jc1,hg1⟩:=hr.gx;have hhi:=hr.hi;have hle:=hr.le;have hen1:=hr.en;have hmem:=AD hke;have hc:=hk k hmem sc env q τ j1 jc1 (hok k hmem) (hes.le hle) (by omega) (by omega) hg1;generalize Bc B.G k env q=r at *;have hke':=hke;obtain ⟨o,n,u,ns',kk,al'⟩:=k;simp only [Ex.A4,exA,AG,AN] at he hc;(repeat' (first|refine ctQ rfl ?_|((first|refine rgQ mxQ ?_|refine cdQ ?_|(refine A9 rfl (fun h=>?_) (fun h=>?_)<;>try (cases h;done)))<;>try simp only [Ag hlt,he,go_sem])|(refine ⟨fun h=>?_,fun h=>?_⟩<;>first|(cases h;done)|try simp only [h])|fail));refine AJ.mk rfl hc ?_;rintro _ τ1 ⟨rfl,hq⟩;simp only [nA];simp only [go_sem];obtain ⟨j2,jc2,hg2⟩:=hq.gx;have hql':=hq.le;have hqh:=hq.hi;have hrl:r.2.s.1.length=r.2.nx:=rfl;refine AJ.mk rfl (Bm B.i j2 r.2.s.1 r.2.s.2 B.rest τ1 1 .Af [] hg2.sn Qa.Af (by simp) (by omega)) ?_;intro v3 τ2 q3;obtain ⟨e3,hn3,j3,hg3⟩:=hg2.add hB q3;subst e3;simp only [nA];simp only [go_sem]
   refine AJ.mk rfl (CL B.i B.rest _ _ (r.2.add 1 0 []).s.2 j3 r.1 r.2.s.1.length τ2 (N4 (r.2.add 1 0 []).s.1) hg3.sn (by have:=hq.lt;have:=Ci r.2 1 0 [];simp only [GS.nx] at this ⊢;simp only [GS.nx] at *;omega) (by have:=Ci r.2 1 0 [];simp only [GS.nx] at this;omega) (by have:=Ci r.2 1 0 [];simp only [GS.nx] at this;omega)) ?_;intro v4 τ3 q4;obtain ⟨hn4,j4,hg4⟩:=hg3.uni hB q4;simp only [go_sem];(repeat' (first|refine ctQ rfl ?_|((first|refine rgQ mxQ ?_|refine cdQ ?_|(refine A9 rfl (fun h=>?_) (fun h=>?_)<;>try (cases h;done)))<;>try simp only [hw1,go_sem])|(refine ⟨fun h=>?_,fun h=>?_⟩<;>first|(cases h;done)|try simp only [h])|fail));refine ih ⟨p+1,τ3⟩ ⟨hlt,?_⟩ (by simp only;omega);simp only [hsn];exact hr.snoc hke' hq (BA hn3 hn4) hg4 (show _<=((r.2.add 1 0 []).uni r.1 r.2.s.1.length).nx from by rw [MH,Ci];omega) (show ((r.2.add 1 0 []).uni r.1 r.2.s.1.length).nx<=_ from by rw [MH,Ci];omega) rfl
 . have hpe:p=ks.length:=by omega
   subst hpe;rw [BM] at hr;obtain ⟨j1,jc1,hg1⟩:=hr.gx;have hhi:=hr.hi;have hle:=hr.le;have hen1:=hr.en;generalize D7 B.G ks env 0 opF g=q at *;have hql:q.s.1.length=q.nx:=rfl;have hfm:=fun k=>Bm B.i j1 q.s.1 q.s.2 B.rest τ k .Af [] hg1.sn Qa.Af (by simp) (by omega)
   have hfin:∀k v σ',SNQ τ B.i q.s.1 B.rest j1 (Kh q.s.1 k 0 [],q.s.2) (nA q.s.1.length) v σ'->RQ B σ g q.nx (1000000 * (1+Ex.AT ks)) (Ex.AT ks) (q.add k 0 []) σ':=fun k v σ' q3=>by
    obtain ⟨e3,hn3,j3,hg3⟩:=hg1.add hB q3;exact ⟨BA hr.nb hn3,⟨j3,jc1,hg3⟩,by rw [Ci];omega,by rw [Ci];omega,by rw [Ci];omega,hen1⟩
   by_cases hc:6<=nu/\nu<=8
   . rw [if_pos hc];have hcs:nu=6\/nu=7\/nu=8:=by omega
     rcases hcs with rfl|rfl|rfl<;>
     . (repeat' (first|((first|refine wQ mxQ rfl ?_|refine Run.qP DU ?_|(refine A9 rfl (fun h=>?_) (fun h=>?_)<;>try (cases h;done))|fail)<;>try simp only [Bk hlt,go_sem])|(refine ⟨fun h=>?_,fun h=>?_⟩<;>first|(cases h;done)|try simp only [h])|fail));refine AJ.mk rfl (hfm 2) ?_;intro v σ' q3;have hq:=hfin 2 v σ' q3;obtain ⟨e3,_⟩:=q3;subst e3;simp only [nA];simp only [go_sem];(repeat' ((first|refine wQ mxQ rfl ?_|refine Run.qP DU ?_|fail)<;>try simp only [go_sem]));exact ⟨rfl,hq⟩
   . rw [if_neg hc];have b6:(nu==6)=false:=by simp;omega
     have b7:(nu==7)=false:=by simp;omega
     have b8:(nu==8)=false:=by simp;omega
     (repeat' ((first|refine wQ mxQ rfl ?_|refine Run.qP DU ?_|fail)<;>try simp only [Bk hlt,b6,b7,b8,go_sem]));refine AJ.mk rfl (hfm 1) ?_;intro v σ' q3;have hq:=hfin 1 v σ' q3;obtain ⟨e3,_⟩:=q3;subst e3;simp only [nA];simp only [go_sem];(repeat' ((first|refine wQ mxQ rfl ?_|refine Run.qP DU ?_|fail)<;>try simp only [go_sem]));exact ⟨rfl,hq⟩
def prF (nu:Int) (b:Nat):Nat->Nat->SS->SS:=fun i r s=>Go.Ab.uni s r ((X8 nu b).1.getD i 0)
theorem ABG {nu:Int} {b:Nat}:(∀a∈(X8 nu b).1,a < b+5)/\(X8 nu b).2 < b+5:=by
 unfold X8
 repeat' split
 all_goals simp<;>omega
theorem AEH (B:GB) (hB:HP B) (nm:Str) (nu:Int) (ns:List Str) (ks:List Ex) (al:List Al) (hk:∀k∈ks,ExC B k) (sc:List Str) (env:Env) (b:Nat) (g:GS) (σ:AH) (j jc:Nat) (hb:g.nx=b+5) (hl:ks.length<=(X8 nu b).1.length) (hok:∀k∈ks,OkE B.G k sc) (hes:ES sc env g) (hnx:g.nx+1000000 * Ex.AT ks<=900000000) (hen:g.en.length+Ex.AT ks<=900000000) (hg:GX B σ g j jc)
 (Q:AV->AH->Prop) (hQ:∀σ',KS B σ g ks (D7 B.G ks env 0 (prF nu b) g) σ'->Q (nA (X8 nu b).2) σ'):
 Run DJ Q [.code (.loop Hu),.blk 1,.code (.seq (.reg [⟨some 100,.mv (.t 12),none⟩,⟨some 6,.mv (.t 100),none⟩] [6]) .ret)]
  (put 0 (.gp B.i 0) (put 2 (.d (Ix env)) (put 11 (.d (.sl ((X8 nu b).1.map CC))) (put 12 (nA (X8 nu b).2) (put 80 (.d (.sl (ks.map Ex.enc))) (put 81 (.d (.int .i64 (ks.length:Nat))) (put 82 (.d (.int .i64 0)) U))))))) E σ:=by
 have hkl:=Ex.Bt ks;refine Run.BB ?_
 refine Run.BG ((fun (a0:AV) (a2:AV) (a11:AV) (a12:AV) (a80:AV) (a81:AV)=>fun (z:Nat×AH)=>put 0 a0 (put 2 a2 (put 11 a11 (put 12 a12 (put 80 a80 (put 81 a81 (put 82 (.d (.int .i64 z.1)) U))))))) _ _ _ _ _ _) (fun _=>E) (fun z=>z.2)
  (fun z=>z.1<=ks.length/\KS B σ g (ks.take z.1) (D7 B.G (ks.take z.1) env 0 (prF nu b) g) z.2)
  (fun z=>ks.length - z.1) ?_ (0,σ) ⟨by simp,by simp only [C7,D7];exact KS.nil hg⟩
 rintro ⟨p,τ⟩ ⟨hp,hr⟩ ih;simp only at hp hr;by_cases hlt:p < ks.length
 . obtain ⟨k,hke⟩:=Ak hlt;have he:=BR (enc:=Ex.enc) hke;have hw1:=A7 (show p+1<=9000000000000000000 by omega);obtain ⟨hz1,hz2⟩:=Ex.I4 hke;have hsn:=T9 B.G k env (prF nu b) (ks.take p) 0 g;rw [<- Ae hke] at hsn;generalize D7 B.G (ks.take p) env 0 (prF nu b) g=q at *;obtain ⟨j1,jc1,hg1⟩:=hr.gx;have hhi:=hr.hi;have hle:=hr.le;have hen1:=hr.en;have hmem:=AD hke;have hc:=hk k hmem sc env q τ j1 jc1 (hok k hmem) (hes.le hle) (by omega) (by omega) hg1;generalize Bc B.G k env q=r at *;obtain ⟨u,hu⟩:=Ak (show p < (X8 nu b).1.length by omega);have hur:=H0 hu;have hul:=(ABG (nu:=nu) (b:=b)).1 u (AD hu);have hke':=hke;obtain ⟨o,n,u',ns',kk,al'⟩:=k;simp only [Ex.A4,exA,AG,AN] at he hc;simp only [nA] at ih ⊢;(repeat' (first|refine ctQ rfl ?_|((first|refine rgQ mxQ ?_|refine cdQ ?_|(refine A9 rfl (fun h=>?_) (fun h=>?_)<;>try (cases h;done)))<;>try simp only [Ag hlt,he,go_sem])|(refine ⟨fun h=>?_,fun h=>?_⟩<;>first|(cases h;done)|try simp only [h])|fail));refine Run.J5 mixed ?_;simp only [hur,go_sem];refine ⟨?_,?_⟩<;>
   . refine AJ.mk rfl hc ?_;rintro _ τ1 ⟨rfl,hq⟩;simp only [nA];simp only [hur,go_sem];obtain ⟨j2,jc2,hg2⟩:=hq.gx;have hql':=hq.le;have hqh:=hq.hi;have hrl:r.2.s.1.length=r.2.nx:=rfl;refine AJ.mk rfl (CL B.i B.rest _ _ r.2.s.2 j2 r.1 u τ1 (N4 r.2.s.1) hg2.sn hq.lt (by omega) (by omega)) ?_;intro v4 τ3 q4;obtain ⟨hn4,j4,hg4⟩:=hg2.uni hB q4;simp only [go_sem];(repeat' (refine wQ mxQ rfl ?_<;>try simp only [hw1,go_sem]));refine ih ⟨p+1,τ3⟩ ⟨hlt,?_⟩ (by simp only;omega)
     have hpf:prF nu b (0+(ks.take p).length) r.1 r.2.s=Go.Ab.uni r.2.s r.1 u:=by
      rw [prF,show 0+(ks.take p).length=p from by simp;omega,A6,hu];rfl
     simp only [hsn,hpf];exact hr.snoc hke' hq hn4 hg4 (show _<=(r.2.uni r.1 u).nx from by rw [MH];omega) (show (r.2.uni r.1 u).nx<=_ from by rw [MH];omega) rfl
 . have hpe:p=ks.length:=by omega
   subst hpe;rw [BM] at hr;have:=hQ τ hr;simp only [nA] at this ⊢;(repeat' ((first|refine wQ mxQ rfl ?_|refine Run.qP DF ?_|fail)<;>try simp only [Bk hlt,go_sem]));exact this
end Go.Ab
namespace Go.Ab
open Go.Proofs
def prG (g:GS):GS:=((((g.add 1 0 []).add 0 0 []).add 7 0 [g.nx+1]).add 8 0 [g.nx+1]).add 3 0 []
theorem AN1 (g:GS):(prG g).nx=g.nx+5:=by simp [prG,Ci]
def WK (G:GC) (nu:Int) (ks:List Ex) (env:Env) (g:GS):Nat×GS:=((X8 nu g.nx).2,D7 G ks env 0 (prF nu g.nx) (prG g))
theorem AAB (B:GB) (hB:HP B) (nm:Str) (nu:Int) (ns:List Str) (ks:List Ex) (al:List Al) (hk:∀k∈ks,ExC B k) (sc:List Str) (env:Env) (g:GS) (σ:AH) (j jc:Nat) (hnu:1<=nu/\nu<=7) (hl:ks.length=Xz nu) (hok:∀k∈ks,OkE B.G k sc) (hes:ES sc env g) (hnx:g.nx+1000000 * (1+Ex.AT ks)<=900000000) (hen:g.en.length+Ex.AT ks<=900000000) (hg:GX B σ g j jc):
 AS Tzp 98 [.gp B.i 0,exA (.mk 14 nm nu ns ks al),.d (Ix env)] σ (fun v σ'=>v=nA (WK B.G nu ks env g).1/\RQ B σ g (WK B.G nu ks env g).1 (1000000 * (1+Ex.AT ks)) (Ex.AT ks) (WK B.G nu ks env g).2 σ'):=by
 have hkl:=Ex.Bt ks;generalize hQ:(fun v σ'=>v=nA (WK B.G nu ks env g).1/\RQ B σ g (WK B.G nu ks env g).1 (1000000 * (1+Ex.AT ks)) (Ex.AT ks) (WK B.G nu ks env g).2 σ')=Q;have n1:=Ci g 1 0 [];have n2:=Ci (g.add 1 0 []) 0 0 [];have n3:=Ci ((g.add 1 0 []).add 0 0 []) 7 0 [g.nx+1];have n4:=Ci (((g.add 1 0 []).add 0 0 []).add 7 0 [g.nx+1]) 8 0 [g.nx+1];have l0:g.s.1.length=g.nx:=rfl;refine RG (by simp) ?_;rw [D6];simp only [exA,Ex.A4,AG,AN];(repeat' ((first|refine wQ mxQ rfl ?_|refine Run.qP DF ?_|fail)<;>try simp only [go_sem]));refine AJ.mk rfl (Bm B.i j g.s.1 g.s.2 B.rest σ 1 .Af [] hg.sn Qa.Af (by simp) (by omega)) ?_;intro v τ1 q;obtain ⟨rfl,h1,j1,hg1⟩:=hg.add hB q;clear q;rw [l0];simp only [nA];simp only [go_sem];have l1:(g.add 1 0 []).s.1.length=g.nx+1:=n1;refine AJ.mk rfl (Fw B.i j1 (g.add 1 0 []).s.1 (g.add 1 0 []).s.2 B.rest τ1 hg1.sn (by omega)) ?_;intro v τ2 q;obtain ⟨rfl,h2,j2,hg2⟩:=hg1.add hB q;clear q;rw [l1];simp only [nA];simp only [go_sem];(repeat' ((first|refine wQ mxQ rfl ?_|refine Run.qP DF ?_|fail)<;>try simp only [go_sem]));have l2:((g.add 1 0 []).add 0 0 []).s.1.length=g.nx+2:=n2.trans (by omega)
 have hrow:Qa (.d (.sl [[.int .i64 ((g.nx+1:Nat):Int)]])) ([g.nx+1].map CC):=Qa.d _;refine AJ.mk rfl (Bm B.i j2 _ ((g.add 1 0 []).add 0 0 []).s.2 B.rest τ2 7 _ [g.nx+1] hg2.sn hrow (by simp only [A3];intro a ha;subst ha;omega) (by omega)) ?_;intro v τ3 q;obtain ⟨rfl,h3,j3,hg3⟩:=hg2.add hB q;clear q;rw [l2];simp only [nA];simp only [go_sem];have l3:(((g.add 1 0 []).add 0 0 []).add 7 0 [g.nx+1]).s.1.length=g.nx+3:=by have:=n3;simp only [GS.nx] at this ⊢;omega
 refine AJ.mk rfl (Bm B.i j3 _ (((g.add 1 0 []).add 0 0 []).add 7 0 [g.nx+1]).s.2 B.rest τ3 8 _ [g.nx+1] hg3.sn hrow (by simp only [A3];intro a ha;subst ha;omega) (by omega)) ?_;intro v τ4 q;obtain ⟨rfl,h4,j4,hg4⟩:=hg3.add hB q;clear q;rw [l3];simp only [nA];simp only [go_sem];(repeat' ((first|refine wQ mxQ rfl ?_|refine Run.qP DF ?_|fail)<;>try simp only [go_sem]));have l4:((((g.add 1 0 []).add 0 0 []).add 7 0 [g.nx+1]).add 8 0 [g.nx+1]).s.1.length=g.nx+4:=by have:=n4;simp only [GS.nx] at this l3 ⊢;omega
 refine AJ.mk rfl (Bm B.i j4 _ ((((g.add 1 0 []).add 0 0 []).add 7 0 [g.nx+1]).add 8 0 [g.nx+1]).s.2 B.rest τ4 3 .Af [] hg4.sn Qa.Af (by simp) (by omega)) ?_;intro v τ5 q;obtain ⟨rfl,h5,j5,hg5⟩:=hg4.add hB q;clear q;rw [l4];simp only [nA];simp only [go_sem];have hnb:(nbH σ).le τ5:=BA (BA (BA (BA h1 h2) h3) h4) h5;have hg5':GX B τ5 (prG g) j5 jc:=hg5;have h5n:=AN1 g;have hlp:=fun h Q' hQ'=>AEH B hB nm nu ns ks al hk sc env g.nx (prG g) τ5 j5 jc h5n h hok (hes.le (by omega)) (by omega) hen hg5' Q' hQ'
 have hfin:∀σ',KS B τ5 (prG g) ks (D7 B.G ks env 0 (prF nu g.nx) (prG g)) σ'->Q (nA (X8 nu g.nx).2) σ':=fun σ' h=>by
  rw [<- hQ];have a1:=h.le;have a2:=h.hi;have a3:=(ABG (nu:=nu) (b:=g.nx)).2;exact ⟨rfl,BA hnb h.nb,h.gx,by simp only [WK];omega,by simp only [WK];omega,by simp only [WK];omega,h.en⟩
 have hcs:nu=1\/nu=2\/nu=3\/nu=4\/nu=5\/nu=6\/nu=7:=by omega
 rcases hcs with rfl|rfl|rfl|rfl|rfl|rfl|rfl<;>
 . have:=hlp (by rw [hl];simp [Xz,X8]) Q hfin;(repeat' (first|((first|refine wQ mxQ rfl ?_|(refine A9 rfl (fun h=>?_) (fun h=>?_)<;>try (cases h;done))|fail)<;>try simp only [AA,go_sem])|(refine ⟨fun h=>?_,fun h=>?_⟩<;>first|(cases h;done)|try simp only [h])|fail));exact this
end Go.Ab
