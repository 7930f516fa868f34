/- Part Nc. Conditions: none. -/
import Derived.Test.YtfppaadffckcoaaGreatXVe
set_option linter.unusedSimpArgs false
set_option linter.unusedVariables false
set_option maxRecDepth 100000
set_option maxHeartbeats 40000000
open Go.Proofs.Tryz renaming prog→Tzp
open List renaming getElem?_cons_zero→BM,drop_length_add_append→HX,getElem?_eq_some_iff→AG,eq_nil_of_length_eq_zero→BP,length_map→AA,take_zero→Cn,mem_of_getElem?→AE,foldl_append→Cq,foldl_cons→Ao,take_of_length_le→AM,getElem?_map→Aj,mem_cons→Ar,cons_append→AZ,length_cons→A1,take_append_drop→Ad,map_cons→AD,map_nil→AJ,map_append→Ay,take_length→BR,take_succ_cons→Cj,drop_succ_cons→FX,drop_zero→TC,replicate→AF,replicate_succ→B1,flatten_cons→BU,range'→Af,append_nil→BW,set_cons_zero→LL,set_cons_succ→CU,countP_cons→GH,range→BA,countP_le_length→V7,mem_cons_self→AS,mem_cons_of_mem→AR,getElem?_set→B3,getElem?_set_self→BI,sum_cons→FK,map_congr_left→DL,getElem?_replicate→R0,length_append→AX,getElem?_append_left→BQ,getElem?_append_right→BL,take_length_add_append→aC,mem_append→A0,mem_singleton→A6,getElem_of_mem→Bt,getElem_mem→H8,mem_map→Be,mem_range'_1→TD,getD_eq_getElem?_getD→Ac
open Option.some renaming injEq→AL
open Ne renaming symm→A9
open Nat renaming le_refl→AW,le_trans→Ap,mul_one→A5,reduceEqDiff→C4,add_mul→CK,zero_mul→OR,zero_add→BJ,lt_of_lt_of_le→CV
open Int renaming eq_ofNat_of_zero_le→Gr,toNat_natCast→DS
open Option renaming bind_eq_bind→AQ,bind_some→El,map_some→Ah,getD_some→BC,isSome_none→CW
open Bool renaming false_eq_true→A3,not_false→FL,true_and→BY
namespace Go.Ab
open Go.Proofs
def UNQ (σ:AI) (i:Nat) (l:List Nd) (rest:List AV) (j:Nat) (s:SS) (σ':AI):Prop:=(∃j',SN σ' i s.1 s.2 rest j'/\Fr σ i l j σ' s.1 j')/\rts s.1<=rts l
theorem FM.root {l:List Nd} (h:FM l) {a:Nat} (ha:a < l.length):∃x,l[rtN l a]?=some x/\x.p=rtN l a:=by
 have hl:l[a]?=some l[a]:=by simp [ha]
 obtain ⟨z,hz,hp⟩:=h.p a _ hl;rw [MA hl];exact ⟨z,hz,hp⟩
theorem AEZ:∀ {l:List Nd} {i:Nat} {x:Nd},l[i]?=some x->((ndC l).drop (i * 4)).take 3=[.d (.int .i64 x.k),.d (.int .i64 x.n),.d (.sl (x.ar.map By))]
 |y::l,0,x,h=>by
  simp only [BM,AL] at h;subst h;rfl
 |y::l,i+1,x,h=>by
  have:=AEZ (l:=l) (i:=i) (x:=x) (by simpa using h);rw [show ndC (y::l)=y.row++ndC l from by simp [ndC],show (i+1) * 4=y.row.length+i * 4 from by simp [Nd.row];omega,HX];exact this
theorem ANG {l:List Nd} {i:Nat} {x:Nd} (h:l[i]?=some x):(i * 4+3<=(ndC l).length)=True:=by
 have:=(AG.1 h).1;rw [VD];simp;omega
theorem SN.uni {σ:AI} {i j a b:Nat} {l c:List Nd} {fl:Bool} {rest:List AV} {x y xc:Nd} (h:SN σ i l fl rest j) (hrep:Rep l c) (hbj:σ.blk j=some (ndC c)) (hji:j≠i) (hx:l[a]?=some x) (hxp:x.p=a) (hy:l[b]?=some y) (hyp:y.p=b) (hab:a≠b) (hxc:c[a]?=some xc):
 SN (σ.AP j (ndC (c.set a { xc with p:=b}))) i (P6 a b l) fl rest j/\Fr σ i l j (σ.AP j (ndC (c.set a { xc with p:=b}))) (P6 a b l) j:=by
 have hl0:l≠[]:=fun e=>by rw [e] at hx;simp at hx
 have hu0:P6 a b l≠[]:=fun e=>hl0 (BP (by rw [<- MH a b l,e];rfl));refine ⟨⟨?_,h.HM.uni hy hyp hab,fun _=>⟨hji,_,hrep.uni hx hxp hy hyp hab hxc,B0⟩⟩,⟨fun k _ hk _=>by rw [AK,if_neg (hk hl0)],fun hn=>by rw [AK,if_neg (A9 hji)];exact hn,fun _=>.inl ⟨hl0,rfl⟩,rfl,fun _ h=>h,fun _ _ h=>h⟩⟩;rw [AK,if_neg (A9 hji),h.blk,FH hl0,FH hu0,MH]
theorem SN.fail {σ:AI} {i j:Nat} {l:List Nd} {fl:Bool} {rest:List AV} (h:SN σ i l fl rest j):
 SN (σ.AP i (ndV l j::.d (.bool true)::rest)) i l true rest j/\Fr σ i l j (σ.AP i (ndV l j::.d (.bool true)::rest)) l j:=by
 refine ⟨⟨B0,h.HM,fun hl=>?_⟩,⟨fun k hk _ _=>by rw [AK,if_neg hk],fun _=>by simp [AK],fun hl=>.inl ⟨hl,rfl⟩,rfl,fun _ h=>h,fun _ _ h=>h⟩⟩;obtain ⟨hji,c,hr,hb⟩:=h.nd hl;exact ⟨hji,c,hr,by rw [AK,if_neg hji];exact hb⟩
theorem C0 (i:Nat) (rest:List AV):∀(k:Nat) (l:List Nd) (fl:Bool) (j a b:Nat) (σ:AI),rts l<=k->SN σ i l fl rest j->a < l.length->b < l.length->l.length<=900000000->
 AT Tzp 58 [.gp i 0,nA a,nA b] σ (fun _ σ'=>UNQ σ i l rest j (LH k (l,fl) a b) σ'):=by
 intro k
 induction k with
 |zero=>
  intro l fl j a b σ hk h ha hb hl;obtain ⟨x,hx,hp⟩:=h.HM.root ha;have:=ARU hx hp;omega
 |succ k ihk=>
 intro l fl j a b σ hk h ha hb hl;have hl0:l≠[]:=fun e=>by rw [e] at ha;cases ha
 have hbi0:σ.blk i≠none:=by rw [h.blk];simp
 obtain ⟨x,hx,hxp⟩:=h.HM.root ha;obtain ⟨y,hy,hyp⟩:=h.HM.root hb;generalize hra:rtN l a=ra at hx hxp;generalize hrb:rtN l b=rb at hy hyp;generalize hQ:UNQ σ i l rest j (LH (k+1) (l,fl) a b)=Q;refine WK (by simp) ?_;rw [Dm];simp only [nA];(repeat' (first|refine ctQ rfl ?_|((first|refine rgQ mxQ ?_|refine cdQ ?_|refine Run.qP Ba ?_|(refine A7 rfl (fun h=>?_) (fun h=>?_)<;>try (cases h;done)))<;>try simp only [go_sem])|(refine ⟨fun h=>?_,fun h=>?_⟩<;>first|(cases h;done)|try simp only [h])|fail));refine AH.mk rfl (HS i j l fl rest σ a h ha hl) ?_;rintro _ σ1 ⟨rfl,j1,h1,f1⟩;simp only [nA,hra];simp only [go_sem];refine AH.mk rfl (HS i j1 l fl rest σ1 b h1 hb hl) ?_;rintro _ σ2 ⟨rfl,j2,h2,f2⟩;simp only [nA,hrb];have f12:=f1.trans f2 hbi0;clear f1 f2 h1;simp only [go_sem];by_cases hab:ra=rb
 . subst hab;(repeat' (first|refine ctQ rfl ?_|((first|refine rgQ mxQ ?_|refine cdQ ?_|refine Run.qP Ba ?_|(refine A7 rfl (fun h=>?_) (fun h=>?_)<;>try (cases h;done)))<;>try simp only [beq_self_eq_true,go_sem])|(refine ⟨fun h=>?_,fun h=>?_⟩<;>first|(cases h;done)|try simp only [h])|fail));rw [<- hQ,LH,hra,hrb,if_pos rfl];exact ⟨⟨j2,h2,f12⟩,AW _⟩
 . have hbq:((ra:Int)==(rb:Int))=false:=by simpa using fun e=>hab (by omega)
   (repeat' (first|refine ctQ rfl ?_|((first|refine rgQ mxQ ?_|refine cdQ ?_|refine Run.qP Ba ?_|(refine A7 rfl (fun h=>?_) (fun h=>?_)<;>try (cases h;done)))<;>try simp only [hbq,go_sem])|(refine ⟨fun h=>?_,fun h=>?_⟩<;>first|(cases h;done)|try simp only [h])|fail));obtain ⟨hji,c,hrep,hbj⟩:=h2.nd hl0;have hbi:=h2.blk;rw [FH hl0] at hbi;obtain ⟨xc,hxc,xk,xn,xa⟩:=hrep.at hx;obtain ⟨yc,hyc,yk,yn,ya⟩:=hrep.at hy;have hxt:=AEZ hxc;have hyt:=AEZ hyc;have hxl:=ANG hxc;have hyl:=ANG hyc;rw [xk,xn,xa] at hxt;rw [yk,yn,ya] at hyt;have hla:=ltT (AG.1 hx).1;have hlb:=ltT (AG.1 hy).1;refine Run.Jf mixed ?_;simp only [hbi,hbj,hxt,hyt,hxl,hyl,hla,hlb,go_sem];have hxw:=AF7 hxc rb;have hyw:=AF7 hyc ra;have hxs:(ra * 4+3+1<=(ndC c).length)=True:=by have:=(AG.1 hxc).1;rw [VD];simp;omega
   have hys:(rb * 4+3+1<=(ndC c).length)=True:=by have:=(AG.1 hyc).1;rw [VD];simp;omega
   obtain ⟨hu1,hu2⟩:=h2.uni hrep hbj hji hx hxp hy hyp hab hxc;obtain ⟨hv1,hv2⟩:=h2.uni hrep hbj hji hy hyp hx hxp (A9 hab) hyc;obtain ⟨hf1,hf2⟩:=h2.fail;rw [FH hl0] at hf1 hf2;have hru:=AG7 hx hxp hy hyp hab;have hrv:=AG7 hy hyp hx hxp (A9 hab);rw [LH] at hQ;simp only [hra,hrb,if_neg hab,hx,hy] at hQ;by_cases hx0:x.k=0
   . have hb:(x.k==0)=true:=by simpa using hx0
     rw [if_pos hx0] at hQ;(repeat' (first|refine ctQ rfl ?_|((first|refine rgQ mxQ ?_|refine cdQ ?_|refine Run.qP Ba ?_|(refine A7 rfl (fun h=>?_) (fun h=>?_)<;>try (cases h;done)))<;>try simp only [hb,hbi,hbj,hla,hxs,hxw,go_sem])|(refine ⟨fun h=>?_,fun h=>?_⟩<;>first|(cases h;done)|try simp only [h])|fail));rw [<- hQ];exact ⟨⟨j2,hu1,f12.trans hu2 hbi0⟩,Nat.le_of_lt hru⟩
   have hb:(x.k==0)=false:=by simpa using hx0
   rw [if_neg hx0] at hQ;by_cases hy0:y.k=0
   . have hb':(y.k==0)=true:=by simpa using hy0
     rw [if_pos hy0] at hQ;(repeat' ((first|refine wQ mxQ rfl ?_|refine Run.qP Ba ?_|fail)<;>try simp only [hb,hb',hbi,hbj,hlb,hys,hyw,go_sem]));rw [<- hQ];exact ⟨⟨j2,hv1,f12.trans hv2 hbi0⟩,Nat.le_of_lt hrv⟩
   have hb':(y.k==0)=false:=by simpa using hy0
   rw [if_neg hy0] at hQ;by_cases hsm:x.k=y.k/\x.n=y.n/\x.ar.length=y.ar.length
   . obtain ⟨e1,e2,e3⟩:=hsm;have b1:(x.k != y.k)=false:=by simpa using e1
     have b2:(x.n != y.n)=false:=by simpa using e2
     have b3:((x.ar.length:Int) != (y.ar.length:Int))=false:=by simp [e3]
     rw [if_pos ⟨e1,e2,e3⟩] at hQ;(repeat' ((first|refine wQ mxQ rfl ?_|refine Run.qP Ba ?_|fail)<;>try simp only [hb,hb',b1,b2,b3,hbi,hbj,hla,hxs,hxw,AA,go_sem]));refine Run.cell 6 2 rfl rfl (fun hsl=>?_);simp only [AV.DW,AA] at hsl;refine Run.At ?_;have hzl:(x.ar.zip y.ar).length=x.ar.length:=by simp [<- e3]
     have hlen:∀p,(((x.ar.zip y.ar).take p).foldl (fun s q=>LH k s q.1 q.2) (P6 ra rb l,fl)).1.length=l.length:=fun p=>by
      rw [gO (fun (s:SS) (x:Nat×Nat)=>LH k s x.1 x.2) (fun s x=>jC k s x.1 x.2)];exact MH _ _ _
     refine Run.Au ((fun (a0:AV) (a6:AV) (a7:AV) (a93:AV)=>fun (z:Nat×AI)=>put 0 a0 (put 6 a6 (put 7 a7 (put 93 a93 (put 94 (.d (.int .i64 z.1)) U))))) _ _ _ _) (fun _=>Am 6 [.d (.int .i64 x.k),.d (.int .i64 x.n),.d (.sl (x.ar.map By))] (Am 7 [.d (.int .i64 y.k),.d (.int .i64 y.n),.d (.sl (y.ar.map By))] E)) (fun z=>z.2)
      (fun z=>z.1<=x.ar.length/\UNQ σ i l rest j (((x.ar.zip y.ar).take z.1).foldl (fun s q=>LH k s q.1 q.2) (P6 ra rb l,fl)) z.2/\rts (((x.ar.zip y.ar).take z.1).foldl (fun s q=>LH k s q.1 q.2) (P6 ra rb l,fl)).1<=k)
      (fun z=>x.ar.length - z.1) ?_ (0,_) ⟨by simp,⟨⟨j2,hu1,f12.trans hu2 hbi0⟩,Nat.le_of_lt hru⟩,by simp only [Cn,List.foldl_nil];omega⟩
     rintro ⟨p,τ⟩ ⟨hp,hun,hkk⟩ ih;simp only at hp hun hkk;by_cases hlt:p < x.ar.length
     . obtain ⟨u,hu⟩:=Ai hlt;obtain ⟨v,hv⟩:=Ai (show p < y.ar.length by omega);have hur:=Av (enc:=By) hu;have hvr:=Av (enc:=By) hv;have hw1:IntKind.i64.wrap ((p:Int)+1)=((p+1:Nat):Int):=by rw [Ax (by omega) (by omega)];omega
       have hul:=h.HM.ar _ _ hx u (AE hu);have hvl:=h.HM.ar _ _ hy v (AE hv);simp only [By] at hur hvr;obtain ⟨⟨j3,h3,f3⟩,hr3⟩:=hun;(repeat' (first|refine ctQ rfl ?_|((first|refine rgQ mxQ ?_|refine cdQ ?_|(refine A7 rfl (fun h=>?_) (fun h=>?_)<;>try (cases h;done)))<;>try simp only [Ag hlt,hur,hvr,go_sem])|(refine ⟨fun h=>?_,fun h=>?_⟩<;>first|(cases h;done)|try simp only [h])|fail));refine AH.mk rfl (ihk _ _ j3 u v τ hkk h3 (by rw [hlen];exact hul) (by rw [hlen];exact hvl) (by rw [hlen];exact hl)) ?_;rintro v' σ3 ⟨⟨j4,h4,f4⟩,hr4⟩;simp only [go_sem];(repeat' (first|refine ctQ rfl ?_|((first|refine rgQ mxQ ?_|refine cdQ ?_|(refine A7 rfl (fun h=>?_) (fun h=>?_)<;>try (cases h;done)))<;>try simp only [hw1,go_sem])|(refine ⟨fun h=>?_,fun h=>?_⟩<;>first|(cases h;done)|try simp only [h])|fail));have hz:(x.ar.zip y.ar)[p]?=some (u,v):=by rw [List.getElem?_zip_eq_some];exact ⟨hu,hv⟩
       have htk:=Aa hz;refine ih (p+1,σ3) ⟨hlt,?_,?_⟩ (by simp only;omega)
       . simp only [htk,Cq,Ao,List.foldl_nil];exact ⟨⟨j4,h4,f3.trans f4 hbi0⟩,Ap hr4 hr3⟩
       . simp only [htk,Cq,Ao,List.foldl_nil];exact Ap hr4 hkk
     . have hpe:p=x.ar.length:=by omega
       subst hpe;(repeat' ((first|refine wQ mxQ rfl ?_|refine Run.qP Ba ?_|fail)<;>try simp only [B5 hlt,go_sem]));rw [AM (by omega),hQ] at hun;exact Run.fin Ba rfl (fun _ _ h=>h) (AI.le_refl _) hun
   . rw [if_neg hsm] at hQ;have hfin:Q (σ2.AP i (.ms j2 l.length 4 tkN::.d (.bool true)::rest)):=by rw [<- hQ];exact ⟨⟨j2,hf1,f12.trans hf2 hbi0⟩,AW _⟩
     by_cases e1:x.k=y.k
     . have b1:(x.k != y.k)=false:=by simpa using e1
       by_cases e2:x.n=y.n
       . have b2:(x.n != y.n)=false:=by simpa using e2
         have b3:((x.ar.length:Int) != (y.ar.length:Int))=true:=by simpa using fun e=>hsm ⟨e1,e2,by omega⟩
         (repeat' ((first|refine wQ mxQ rfl ?_|refine Run.qP Ba ?_|fail)<;>try simp only [hb,hb',b1,b2,b3,hbi,hbj,AA,go_sem]));exact hfin
       . have b2:(x.n != y.n)=true:=by simpa using e2
         (repeat' ((first|refine wQ mxQ rfl ?_|refine Run.qP Ba ?_|fail)<;>try simp only [hb,hb',b1,b2,hbi,hbj,go_sem]));exact hfin
     . have b1:(x.k != y.k)=true:=by simpa using e1
       (repeat' ((first|refine wQ mxQ rfl ?_|refine Run.qP Ba ?_|fail)<;>try simp only [hb,hb',b1,hbi,hbj,go_sem]));exact hfin
end Go.Ab
namespace Go.Ab
def tkA:AV->Option Nat
 | .own t _ _ _=>some t
 |_=>none
def mL (v w:AV):Prop:=∀t,tkA v=some t->tkA w≠some t
theorem mL.symm {v w:AV} (h:mL v w):mL w v:=fun t h1 h2=>h t h2 h1
theorem ACW (w:AV):mL .Ae w:=fun t h=>by cases h
theorem Bz.JK {σ0 σ σ':AI} {e s:Nat} {rows:List (List DV)} {w:AV} (h:Bz σ0 e s rows w σ) (hle:σ0.le σ') (ht:∀t,tkA w=some t->σ.tok t=true->σ'.tok t=true):Bz σ0 e s rows w σ':=by
 obtain ⟨⟨σ1,ha,hl⟩,_,h1,h2,h3,h4,h5,h6,h7⟩:=h;refine ⟨?_,hle,h1,h2,h3,h4,h5,h6,h7⟩;unfold aF at ha ⊢;split at ha
 . cases ha;exact ⟨σ',rfl,hle⟩
 . rename_i t e' s' rows';split at ha
   . rename_i hc;cases ha;obtain ⟨q1,q2,q3⟩:=hc;refine ⟨σ'.Eo t,by rw [if_pos ⟨q1,q2,ht t rfl q3⟩],⟨hle.blk,fun t' h'=>?_,hle.gt,hle.bt⟩⟩
     have hne:t'≠t:=fun e=>by
      have:=hl.tok t' h';simp [AI.Eo,e] at this
     simp [AI.Eo,hne,hle.tok t' h']
   . cases ha
 . cases ha
theorem DD.AXN {cx:Cx} {K:Fm->Lm->AI->Prop} {F:Fm} {L:Lm} {σ σ0:AI} {d:Option Nat} {e size bytes:Nat} {s x:AV} {rows srows:List (List DV)} (ho:Bz σ0 e size rows s σ) (h2:x.rows=some srows)
 (h3:∀r∈srows,r.length=size) (h4:rows.length+srows.length<=1000000000) (hb:bytes<=10000)
 (h:∀v σ',Bz σ0 e size (rows++srows) v σ'->(∀i,σ'.blk i=σ.blk i)->(∀e2 s2 rows2 w,Bz σ0 e2 s2 rows2 w σ->mL s w->Bz σ0 e2 s2 rows2 w σ'/\mL v w)->K (BS d v F) L σ'):DD e size bytes s x d K F L σ:=by
 obtain ⟨σ1,ha,hl⟩:=ho.app
 have hblk:∀i,σ1.blk i=σ.blk i:=fun i=>by
  unfold aF at ha;split at ha
  . cases ha;rfl
  . split at ha
    . cases ha;rfl
    . cases ha
  . cases ha
 have htok:∀t,tkA s≠some t->σ.tok t=true->σ1.tok t=true:=fun t hne ht=>by
  unfold aF at ha;split at ha
  . cases ha;exact ht
  . rename_i ts e' s' rows';split at ha
    . cases ha;have:t≠ts:=fun e=>hne (by rw [e];rfl);simp [AI.Eo,this,ht]
    . cases ha
  . cases ha
 refine DD.mk ha h2 h3 (by simp only [maxLen];omega) ?_ (fun t ht=>h _ _ (Bz.own hl ho.le ht) (fun i=>by rw [U0];exact hblk i) (fun e2 s2 rows2 w hw hap=>?_))
 . calc (rows.length+srows.length) * bytes<=1000000000 * 10000:=Nat.mul_le_mul h4 hb
    _<=140737488355328:=by decide
 . have hwt:∀t',tkA w=some t'->σ.tok t'=true:=fun t' h'=>by
    obtain ⟨_,hw1,_⟩:=hw.app;cases w<;>simp only [tkA] at h'<;>try cases h'
    simp only [aF] at hw1;split at hw1
    . rename_i hc;exact hc.2.2
    . cases hw1
   have hown:=Bz.own (e:=e) (s:=size) (rows:=rows++srows) hl ho.le ht;refine ⟨hw.JK hown.le (fun t' h1 h2=>?_),fun t' h1 h3=>?_⟩
   . have:=htok t' (fun e=>hap t' e h1) h2;simp [AI.Cw,this]
   . simp only [tkA,AL] at h1;subst h1;rw [hwt _ h3] at ht;cases ht
end Go.Ab
namespace Go.Ab
open Go.Proofs
def nbH (σ:AI):AI:= { σ with blk:=fun _=>none}
theorem Fr.nb2 {σ τ τ':AI} {i j j':Nat} {l l':List Nd} (h:Fr τ i l j τ' l' j') (hn:(nbH σ).le τ):(nbH σ).le τ':=
 ⟨fun _ _ h=>(by cases h),fun t ht=>h.tok t (hn.tok t ht),hn.gt.trans h.gt.symm,fun i x hx=>h.bt i x (hn.bt i x hx)⟩
theorem IZ (σ:AI):(nbH σ).le σ:=⟨fun _ _ h=>(by cases h),fun _ h=>h,rfl,fun _ _ h=>h⟩
theorem Bz.fr {σ0 τ τ':AI} {i j j' e s:Nat} {l l':List Nd} {rows:List (List DV)} {v:AV} (ho:Bz (nbH σ0) e s rows v τ) (h:Fr τ i l j τ' l' j'):Bz (nbH σ0) e s rows v τ':=
 ho.JK (h.nb2 ho.le) (fun t _ ht=>h.tok t ht)
theorem Fr.own {σ σ' σ'':AI} {i j j':Nat} {l l':List Nd} (h:Fr σ i l j σ' l' j') (hb:∀k,σ''.blk k=σ'.blk k) (hn:(nbH σ).le σ''):Fr σ i l j σ'' l' j':=
 ⟨fun k h1 h2 h3=>by rw [hb];exact h.blk k h1 h2 h3,fun h1=>by rw [hb];exact h.ii h1,h.nw,hn.gt.symm,fun t ht=>hn.tok t ht,fun k x hx=>hn.bt k x hx⟩
theorem SN.own {σ σ':AI} {i j:Nat} {l:List Nd} {fl:Bool} {rest:List AV} (h:SN σ i l fl rest j) (hb:∀k,σ'.blk k=σ.blk k):SN σ' i l fl rest j:=
 ⟨by rw [hb];exact h.blk,h.HM,fun hl=>by obtain ⟨a,c,b,d⟩:=h.nd hl;exact ⟨a,c,b,by rw [hb];exact d⟩⟩
theorem AJ0 {σ:AI} (e s:Nat):Bz (nbH σ) e s [] .Ae σ:=⟨⟨σ,rfl,IZ σ⟩,IZ σ,rfl,rfl,rfl,rfl,fun _=>rfl,rfl,rfl⟩
theorem Hf {l:List Nat} {i a:Nat} (h:l[i]?=some a):(l.map By)[i]?=some [.int .i64 (a:Int)]:=by rw [Aj,h];rfl
theorem Bz.row {σ0 σ:AI} {e:Nat} {rows:List (List DV)} {v:AV} (h:Bz σ0 e 1 rows v σ):SB v rows:=⟨h.dv,h.cell,h.BE,h.cells,h.BV⟩
def AGC (i:Nat) (rest:List AV) (ar:List Nat) (t:Ty):Prop:=∀(l:List Nd) (fl:Bool) (j:Nat) (σ:AI),(∀a∈ar,a < l.length)->l.length+t.size<=900000000->SN σ i l fl rest j->
 AT Tzp 124 [.gp i 0,tyA t,.d (.sl (ar.map By))] σ (SNQ σ i l rest j ((FU ar l t).2,fl) (nA (FU ar l t).1))
theorem Ty.Yk {t:Ty}:∀ {ts:List Ty},t∈ts->t.size<=Ty.AU ts
 |u::ts,h=>by
  simp only [Ty.AU];rcases Ar.1 h with rfl|h
  . omega
  . have:=Ty.Yk h;omega
theorem Ty.LB (ts us:List Ty):Ty.AU (ts++us)=Ty.AU ts+Ty.AU us:=by
 induction ts with
 |nil=>simp [Ty.AU]
 |cons t ts ih=>simp only [AZ,Ty.AU,ih];omega
theorem Ty.Bl:∀ts:List Ty,ts.length<=Ty.AU ts
 |[]=>AW _
 |t::ts=>by have:=Ty.Bl ts;have:=AF0 t;simp only [A1,Ty.AU];omega
theorem Jh (i:Nat) (rest:List AV) (ar:List Nat) (ts:List Ty) (hT:∀t∈ts,AGC i rest ar t) (l:List Nd) (fl:Bool) (j:Nat) (σ:AI) (ha:∀a∈ar,a < l.length) (hl:l.length+Ty.AU ts<=900000000) (h:SN σ i l fl rest j):
 AT Tzp 123 [.gp i 0,.d (.sl (ts.map Ty.enc)),.d (.sl (ar.map By))] σ (fun v σ'=>Bz (nbH σ) 3 1 ((Bh ar l ts).1.map By) v σ'/\∃j',SN σ' i (Bh ar l ts).2 fl rest j'/\Fr σ i l j σ' (Bh ar l ts).2 j'):=by
 have hbi0:σ.blk i≠none:=by rw [h.blk];simp
 have htl:=Ty.Bl ts;refine RE (by simp) ?_;rw [Dm];(repeat' (refine wQ mxQ rfl ?_<;>try simp only [AA,go_sem]));refine Run.At ?_
 refine Run.Au ((fun (a0:AV) (a2:AV) (a10:AV) (a11:AV)=>fun (z:Nat×AV×AI)=>put 0 a0 (put 2 a2 (put 7 (z.2.1) (put 10 a10 (put 11 a11 (put 12 (.d (.int .i64 z.1)) U)))))) _ _ _ _) (fun _=>E) (fun z=>z.2.2)
  (fun z=>z.1<=ts.length/\Bz (nbH σ) 3 1 ((Bh ar l (ts.take z.1)).1.map By) z.2.1 z.2.2/\∃j',SN z.2.2 i (Bh ar l (ts.take z.1)).2 fl rest j'/\Fr σ i l j z.2.2 (Bh ar l (ts.take z.1)).2 j')
  (fun z=>ts.length - z.1) ?_ (0,.Ae,σ) ⟨by simp,by simpa [Bh] using AJ0 3 1,j,by simpa [Bh] using h,by simpa [Bh] using Fr.refl σ i l j⟩
 rintro ⟨p,v,τ⟩ ⟨hp,ho,j',hs,hf⟩ ih;simp only at hp ho hs hf;by_cases hlt:p < ts.length
 . obtain ⟨t,ht⟩:=Ai hlt;have he:=Av (enc:=Ty.enc) ht;have hw1:=A4 (show p+1<=9000000000000000000 by omega);have hle:=Mv ar l (ts.take p)
   have hsp:Ty.AU (ts.take p)+t.size<=Ty.AU ts:=by
    have h2:Ty.AU (ts.take p++[t])<=Ty.AU ts:=by
     rw [<- Aa ht]
     conv=>rhs;rw [<- Ad (p+1) ts,Ty.LB]
     omega
    rw [Ty.LB] at h2;simpa [Ty.AU] using h2
   have hc:=hT t (AE ht) _ fl j' τ (fun a hm=>by have:=ha a hm;have:=hle.le;omega) (by have:=hle.hi;omega) hs;have hsn:=jS ar t (ts.take p) l;rw [<- Aa ht] at hsn;generalize hlq:(Bh ar l (ts.take p))=q at *;have hql:q.1.length=p:=by rw [<- hlq,Mw];simp;omega
   generalize hrq:FU ar q.2 t=r at *;obtain ⟨k,n,us⟩:=t;simp only [Ty.enc,tyA,AD,AJ] at he hc;(repeat' (first|refine ctQ rfl ?_|((first|refine rgQ mxQ ?_|refine cdQ ?_|(refine A7 rfl (fun h=>?_) (fun h=>?_)<;>try (cases h;done)))<;>try simp only [Ag hlt,he,ho.w4,go_sem])|(refine ⟨fun h=>?_,fun h=>?_⟩<;>first|(cases h;done)|try simp only [h])|fail));refine AH.mk rfl hc ?_;rintro _ τ1 ⟨rfl,j1,h1,f1⟩;simp only [nA];simp only [go_sem];refine DD.own (ho.fr f1) rfl (by simp) (by simp [hql];omega) (by omega) (fun v' τ2 ho' hb'=>?_);(repeat' (first|refine ctQ rfl ?_|((first|refine rgQ mxQ ?_|refine cdQ ?_|(refine A7 rfl (fun h=>?_) (fun h=>?_)<;>try (cases h;done)))<;>try simp only [hw1,ho'.BE,ho'.BV,ho'.cells,ho'.cell,go_sem])|(refine ⟨fun h=>?_,fun h=>?_⟩<;>first|(cases h;done)|try simp only [h])|fail));refine ih ⟨p+1,v',τ2⟩ ⟨hlt,?_,j1,?_,?_⟩ (by simp only;omega)
   . simp only [hsn];rw [Ay];exact ho'
   . simp only [hsn];exact h1.own hb'
   . simp only [hsn];exact (hf.trans f1 hbi0).own hb' ho'.le
 . have hpe:p=ts.length:=by omega
   subst hpe;rw [BR] at ho hs hf;(repeat' ((first|refine wQ mxQ rfl ?_|refine Run.qR J2 ?_|fail)<;>try simp only [B5 hlt,ho.w4,go_sem]));exact ⟨ho,j',hs,hf⟩
theorem Hh (i:Nat) (rest:List AV) (ar:List Nat):∀(N:Nat) (t:Ty),t.size<=N->VY ar.length t=true->AGC i rest ar t:=by
 intro N
 induction N with
 |zero=>intro t h;have:=AF0 t;omega
 |succ N ihN=>
 rintro ⟨k,n,us⟩ hsz hv l fl j σ ha hl h;simp only [Ty.size] at hsz hl;refine Sb (by simp) ?_;rw [Dm];rw [VY] at hv;rw [FU];by_cases hk:k=4
 . subst hk;rw [if_pos rfl] at hv ⊢;simp only [decide_eq_true_eq] at hv;obtain ⟨m,rfl⟩:=Gr hv.1;obtain ⟨u,hu⟩:=Ai (show m < ar.length by omega);have hur:=Hf hu;(repeat' ((first|refine wQ mxQ rfl ?_|refine Run.qP E9 ?_|fail)<;>try simp only [hur,beq_self_eq_true,go_sem]));exact ⟨by simp [nA,hu],j,h,Fr.refl σ i l j⟩
 . have hbi0:σ.blk i≠none:=by rw [h.blk];simp
   have hb:(k==4)=false:=by simpa using hk
   rw [if_neg hk] at hv ⊢;(repeat' ((first|refine wQ mxQ rfl ?_|refine Run.qP E9 ?_|fail)<;>try simp only [hb,go_sem]));rw [Ty.C1];have hvu:=UP hv;refine AH.mk rfl (Jh i rest ar us (fun u hu=>ihN u (by have:=Ty.Yk hu;omega) (hvu u hu)) l fl j σ ha (by omega) h) ?_;rintro v σ1 ⟨ho,j1,h1,f1⟩;simp only [ho.w4,go_sem];have hle:=Mv ar l us;refine AH.mk (by simp [ho.BE,AV.BE]) (KI i j1 _ fl rest σ1 k n _ _ h1 ho.row (Yc hv ha) (by have:=hle.hi;omega)) ?_;rintro _ σ2 ⟨rfl,j2,h2,f2⟩;simp only [nA];simp only [go_sem];(repeat' ((first|refine wQ mxQ rfl ?_|refine Run.qP E9 ?_|fail)<;>try simp only [go_sem]));exact ⟨rfl,j2,h2,f1.trans f2 hbi0⟩
end Go.Ab
namespace Go.Ab
open Go.Proofs
def DF (ts:List Nat):List AV:=ts.map fun (t:Nat)=>.d (.int .i64 (t:Int))
theorem AGI:∀ts:List Nat,dvs (DF ts)=some (ts.map fun (t:Nat)=>DV.int .i64 (t:Int))
 |[]=>rfl
 |x::l=>by
  have:=AGI l;simp only [DF,AD,dvs,AV.dv,AQ,El] at this ⊢;rw [this];rfl
theorem tQ:∀ts:List Nat,chunk 1 ts.length (ts.map fun (t:Nat)=>DV.int .i64 (t:Int))=ts.map By
 |[]=>rfl
 |x::l=>by
  have:=tQ l;simp only [A1,chunk,AD,By,Cj,Cn,FX,TC] at this ⊢;rw [this]
theorem Rk {l:List Nat} {i:Nat} {x:Nat} (h:l[i]?=some x):(DF l)[i]?=some (.d (.int .i64 (x:Int))):=by simp [DF,h]
def FzT (v w:AV) (F F':Fm):Prop:=∀s,F' s=F s\/(F s=v/\F' s=w)
theorem FzT.refl (v w:AV) (F:Fm):FzT v w F F:=fun _=>.inl rfl
theorem FzT.skip {v w:AV} {F F':Fm} (h:FzT v w F F') (s:Nat) (x:AV):FzT v w (put s x F) (put s x F'):=fun s'=>by
 by_cases e:s'=s
 . subst e;exact .inl (by simp [put])
 . rcases h s' with h|h
   . exact .inl (by simp [put,e,h])
   . exact .inr (by simp [put,e,h])
theorem FzT.here {v w:AV} {F F':Fm} (h:FzT v w F F') (s:Nat):FzT v w (put s v F) (put s w F'):=fun s'=>by
 by_cases e:s'=s
 . subst e;exact .inr (by simp [put])
 . rcases h s' with h|h
   . exact .inl (by simp [put,e,h])
   . exact .inr (by simp [put,e,h])
theorem Run.nrz {cx:Cx} {KK:AV->AI->Prop} {k:List CI} {F F':Fm} {L:Lm} {τ:AI} {j n:Nat} {ts:List Nat} (hn:ts.length=n) (hb:τ.blk j=some (DF ts)) (hl:n<=1000000000) (hF:FzT (.ms j n 1 3) (.d (.sl (ts.map By))) F F') (hr:Run cx KK k F' L (τ.E1 j)):Run cx KK k F L τ:=by
 refine Run.freeze (i:=j) (n:=n) (size:=1) (cs:=DF ts) (ds:=ts.map fun (t:Nat)=>DV.int .i64 (t:Int)) (σ':=τ.E1 j) (L':=L) (F':=F') hb (AGI ts) (by simp [DF,hn]) (Ap hl (show (1000000000:Nat)<=maxLen by decide+kernel)) (fun t=>?_) (fun k cs hk=>⟨cs,hk,.inl rfl⟩) (fun r cs' hr=>?_) (fun t h=>h) hr
 . rcases hF t with e|⟨e1,e2⟩
   . exact .inl e
   . right;rw [e1,e2,<- hn,tQ];simp [frz]
 . rw [Dp] at hr;split at hr
   . cases hr
   . rename_i hne;exact ⟨hne,cs',hr,.inl rfl⟩
theorem SN.del {σ:AI} {i j k:Nat} {l:List Nd} {fl:Bool} {rest:List AV} (h:SN σ i l fl rest j) (hi:k≠i) (hj:l≠[]->k≠j):SN (σ.E1 k) i l fl rest j:=by
 refine ⟨by rw [Dp,if_neg (A9 hi)];exact h.blk,h.HM,fun hl=>?_⟩;obtain ⟨a,c,b,d⟩:=h.nd hl;exact ⟨a,c,b,by rw [Dp,if_neg (A9 (hj hl))];exact d⟩
theorem SN.set {σ:AI} {i j k:Nat} {l:List Nd} {fl:Bool} {rest cs:List AV} (h:SN σ i l fl rest j) (hi:k≠i) (hj:l≠[]->k≠j):SN (σ.AP k cs) i l fl rest j:=by
 refine ⟨by rw [AK,if_neg (A9 hi)];exact h.blk,h.HM,fun hl=>?_⟩;obtain ⟨a,c,b,d⟩:=h.nd hl;exact ⟨a,c,b,by rw [AK,if_neg (A9 (hj hl))];exact d⟩
theorem Fr.del {σ σ':AI} {i j j' k:Nat} {l l':List Nd} (h:Fr σ i l j σ' l' j') (hi:k≠i):Fr (σ.E1 k) i l j (σ'.E1 k) l' j':=by
 refine ⟨fun m h1 h2 h3=>?_,fun hn=>?_,fun hl=>?_,h.gt,h.tok,h.bt⟩
 . rw [Dp] at h3 ⊢;rw [Dp];split at h3
   . exact absurd rfl h3
   . rename_i hne;rw [if_neg hne,if_neg hne];exact h.blk m h1 h2 h3
 . rw [Dp,if_neg (A9 hi)] at hn ⊢;exact h.ii hn
 . rcases h.nw hl with h1|h1
   . exact .inl h1
   . right;rw [Dp];split
     . rfl
     . exact h1
theorem z7 (σ:AI) (k:Nat) (cs:List AV):(σ.AP k cs).E1 k=σ.E1 k:=by
 unfold AI.AP AI.E1;simp only [AI.mk.injEq,and_true];funext m;by_cases h:m=k<;>simp [h]
theorem AI.ext' {σ τ:AI} (h1:σ.blk=τ.blk) (h2:σ.tok=τ.tok) (h3:σ.gt=τ.gt) (h4:σ.bt=τ.bt):σ=τ:=by
 cases σ;cases τ;simp_all
theorem AL1 {σ:AI} {k:Nat} (h:σ.blk k=none):σ.E1 k=σ:=by
 refine AI.ext' ?_ rfl rfl rfl;funext m;rw [Dp];split
 . rename_i e;rw [e,h]
 . rfl
theorem Fr.apart {σ σ':AI} {i j j' k:Nat} {l l':List Nd} (h:Fr σ i l j σ' l' j') (hk:l≠[]->k≠j) (hb:σ.blk k≠none):l'≠[]->k≠j':=fun hl e=>by
 rcases h.nw hl with ⟨h1,h2⟩|h1
 . exact hk h1 (e.trans h2)
 . rw [<- e] at h1;exact hb h1
theorem AQ6 (l:List Nat) (n p a:Nat) (hp:l.length=p) (hn:p < n):(DF (l++AF (n - p) 0)).take p++[.d (.int .i64 (a:Int))]++(DF (l++AF (n - p) 0)).drop (p+1)=DF ((l++[a])++AF (n - (p+1)) 0):=by
 subst hp;rw [show n - l.length=(n - (l.length+1))+1 from by omega,B1];simp [DF,Ay,List.take_append,List.drop_append]
theorem eU (n:Nat):(AF n [AV.d (.int .i64 0)]).flatten=DF (AF n 0):=by
 induction n with
 |zero=>rfl
 |succ n ih=>rw [B1,BU,ih,B1];rfl
theorem EC (i j:Nat) (l:List Nd) (fl:Bool) (rest:List AV) (σ:AI) (n:Nat) (h:SN σ i l fl rest j) (hn:n<=1000000) (hl:l.length+n<=900000000):
 AT Tzp 54 [.gp i 0,nA n] σ (SNQ σ i l rest j (G2 l n,fl) (.d (.sl ((Af l.length n).map By)))):=by
 have hbi0:σ.blk i≠none:=by rw [h.blk];simp
 refine RA (by simp) ?_;rw [BK];simp only [nA];(repeat' (first|refine ctQ rfl ?_|((first|refine rgQ mxQ ?_|refine cdQ ?_|(refine A7 rfl (fun h=>?_) (fun h=>?_)<;>try (cases h;done)))<;>try simp only [go_sem])|(refine ⟨fun h=>?_,fun h=>?_⟩<;>first|(cases h;done)|try simp only [h])|fail));refine PC.mk n (by omega) (by omega) (fun jo hjo=>?_);rw [eU];have hoi:jo≠i:=fun e=>by rw [e] at hjo;exact hbi0 hjo
 (repeat' (first|refine ctQ rfl ?_|((first|refine rgQ mxQ ?_|refine cdQ ?_|(refine A7 rfl (fun h=>?_) (fun h=>?_)<;>try (cases h;done)))<;>try simp only [go_sem])|(refine ⟨fun h=>?_,fun h=>?_⟩<;>first|(cases h;done)|try simp only [h])|fail));refine Run.At ?_
 refine Run.Au ((fun (a0:AV) (a5:AV) (a10:AV)=>fun (z:Nat×AI)=>put 0 a0 (put 5 a5 (put 10 a10 (put 11 (.d (.int .i64 z.1)) U)))) _ _ _) (fun _=>E) (fun z=>z.2)
  (fun z=>z.1<=n/\z.2.blk jo=some (DF (Af l.length z.1++AF (n - z.1) 0))/\∃j',SN z.2 i (G2 l z.1) fl rest j'/\Fr σ i l j (z.2.E1 jo) (G2 l z.1) j'/\(G2 l z.1≠[]->jo≠j'))
  (fun z=>n - z.1) ?_ (0,σ.AP jo (DF (AF n 0))) ⟨by simp,?_,j,?_,?_,?_⟩
 rotate_left
 . simp only [AK,if_true];simp
 . refine h.set hoi (fun hl e=>?_);obtain ⟨_,c,_,d⟩:=h.nd hl;rw [<- e,hjo] at d;cases d
 . simp only;rw [z7,AL1 hjo];exact Fr.refl σ i l j
 . intro hl e;obtain ⟨_,c,_,d⟩:=h.nd hl;rw [<- e,hjo] at d;cases d
 rintro ⟨p,τ⟩ ⟨hp,hb,j',hs,hf,hjj⟩ ih;simp only at hp hb hs hf hjj;by_cases hlt:p < n
 . have hw1:=A4 (show p+1<=9000000000000000000 by omega);have hfl:=Kq l p;(repeat' (first|refine ctQ rfl ?_|((first|refine rgQ mxQ ?_|refine cdQ ?_|(refine A7 rfl (fun h=>?_) (fun h=>?_)<;>try (cases h;done)))<;>try simp only [Ag hlt,go_sem])|(refine ⟨fun h=>?_,fun h=>?_⟩<;>first|(cases h;done)|try simp only [h])|fail));refine AH.mk rfl (GR i j' _ fl rest τ hs (by rw [hfl];omega)) ?_;rintro _ τ1 ⟨rfl,j1,h1,f1⟩;simp only [nA];have hb1:τ1.blk jo=some (DF (Af l.length p++AF (n - p) 0)):=by rw [f1.blk jo hoi hjj (by rw [hb];simp),hb]
   have hle:(p+1<=(DF (Af l.length p++AF (n - p) 0)).length)=True:=by simp [DF];omega
   have hwr:=AQ6 (Af l.length p) n p (G2 l p).length (by simp) hlt;have hpn:=ltT hlt;simp only [hb1,hpn,hle,hwr,A5,go_sem];(repeat' (first|refine ctQ rfl ?_|((first|refine rgQ mxQ ?_|refine cdQ ?_|(refine A7 rfl (fun h=>?_) (fun h=>?_)<;>try (cases h;done)))<;>try simp only [hw1,go_sem])|(refine ⟨fun h=>?_,fun h=>?_⟩<;>first|(cases h;done)|try simp only [h])|fail));have hrg:Af l.length p++[(G2 l p).length]=Af l.length (p+1):=by rw [hfl,List.range'_concat];simp
   rw [hrg];have hj1:=f1.apart hjj (by rw [hb];simp);have hfd:=(hf.trans (f1.del hoi) hbi0);refine ih ⟨p+1,τ1.AP jo (DF (Af l.length (p+1)++AF (n - (p+1)) 0))⟩ ⟨hlt,by simp only [AK,if_true],j1,?_,?_,hj1⟩ (by simp only;omega)
   . exact h1.set hoi hj1
   . simp only;rw [z7];exact hfd
 . have hpe:p=n:=by omega
   subst hpe;rw [Nat.sub_self,List.replicate_zero,BW] at hb;(repeat' (refine wQ mxQ rfl ?_<;>try simp only [B5 hlt,go_sem]));refine Run.nrz (j:=jo) (n:=p) (ts:=Af l.length p) (by simp) hb (by omega) (FzT.here (FzT.refl _ _ _) 4) ?_;(repeat' ((first|refine wQ mxQ rfl ?_|refine Run.qP J1 ?_|fail)<;>try simp only [go_sem]));exact ⟨rfl,j',hs.del hoi hjj,hf⟩
end Go.Ab
namespace Go.Ab
open Go.Proofs
structure SX (ext:Nat->Option (List AV)) (σ:AI) (i:Nat) (l:List Nd) (fl:Bool) (rest:List AV) (j js:Nat) (cs:List AV):Prop where
 sn:SN σ i l fl rest j
 row:σ.blk js=some cs
 x:∀k c,ext k=some c->σ.blk k=some c
 xi:ext i=none
 xj:l≠[]->ext j=none
 xs:ext js=none
 si:js≠i
 sj:l≠[]->js≠j
theorem SX.step {ext:Nat->Option (List AV)} {σ σ':AI} {i j j' js:Nat} {l:List Nd} {fl fl':Bool} {rest cs:List AV} (h:SX ext σ i l fl rest j js cs) (sn:SN σ' i l fl' rest j') (fr:Fr σ i l j σ' l j'):SX ext σ' i l fl' rest j' js cs:=by
 have hk:∀k c,k≠i->(l≠[]->k≠j)->σ.blk k=some c->σ'.blk k=some c/\(l≠[]->k≠j'):=fun k c h1 h2 h3=>
  ⟨by rw [fr.blk k h1 h2 (by rw [h3];simp),h3],fr.apart h2 (by rw [h3];simp)⟩
 have hx:∀k c,ext k=some c->σ'.blk k=some c/\(l≠[]->k≠j'):=fun k c he=>
  hk k c (fun e=>by rw [e,h.xi] at he;cases he) (fun hl e=>by rw [e,h.xj hl] at he;cases he) (h.x k c he)
 obtain ⟨r1,r2⟩:=hk js cs h.si h.sj h.row;refine ⟨sn,r1,fun k c he=>(hx k c he).1,h.xi,fun hl=>?_,h.xs,h.si,r2⟩;cases he:ext j' with
 |none=>rfl
 |some c=>exact absurd rfl ((hx j' c he).2 hl)
theorem SX.set {ext:Nat->Option (List AV)} {σ:AI} {i j js:Nat} {l:List Nd} {fl:Bool} {rest cs:List AV} (h:SX ext σ i l fl rest j js cs) (cs':List AV):SX ext (σ.AP js cs') i l fl rest j js cs':=
 ⟨h.sn.set h.si h.sj,B0,fun k c he=>by rw [AK,if_neg (fun e=>by rw [e,h.xs] at he;cases he)];exact h.x k c he,h.xi,h.xj,h.xs,h.si,h.sj⟩
def HY (l:List Nd):Nat->List Nat->Nat->Bool×List Nat
 |0,st,_=>(true,st)
 |k+1,st,n=>
  let r:=rtN l n
  if st[r]?=some 0 then
   let q:=(((l[r]?).map Nd.ar).getD []).foldl (fun (q:Bool×List Nat) a=>if q.1 then HY l k q.2 a else q) (true,st.set r 1)
   (q.1,if q.1 then q.2.set r 2 else q.2)
     else (decide (st[r]?=some 2),st)
def zs (st:List Nat):Nat:=st.countP (·==0)
theorem AGB {st:List Nat} {r v:Nat} (h:st[r]?=some 0) (hv:v≠0):zs (st.set r v)+1=zs st:=by
 induction st generalizing r with
 |nil=>simp at h
 |cons x st ih=>
  cases r with
  |zero=>
   simp only [BM,AL] at h;subst h;simp [zs,LL,hv]
  |succ r=>
   have:=ih (r:=r) (by simpa using h);simp only [zs,CU,GH] at this ⊢;omega
theorem AW9 {st:List Nat} {r v:Nat} (hv:v≠0):zs (st.set r v)<=zs st:=by
 by_cases h:st[r]?=some 0
 . have:=AGB h hv;omega
 . induction st generalizing r with
   |nil=>simp [zs]
   |cons x st ih=>
    cases r with
    |zero=>
     have hb:(v==0)=false:=by simpa using hv
     simp only [zs,LL,GH,hb,A3,if_false];omega
    |succ r=>
     have:=ih (r:=r) (by simpa using h);simp only [zs,CU,GH] at this ⊢;omega
def SC (st st':List Nat):Prop:=st'.length=st.length/\zs st'<=zs st
theorem SC.refl (st:List Nat):SC st st:=⟨rfl,AW _⟩
theorem SC.trans {a b c:List Nat} (h:SC a b) (k:SC b c):SC a c:=⟨k.1.trans h.1,Ap k.2 h.2⟩
theorem SC.set (st:List Nat) (r:Nat) {v:Nat} (hv:v≠0):SC st (st.set r v):=⟨by simp,AW9 hv⟩
theorem dL (l:List Nd):∀(k:Nat) (st:List Nat) (n:Nat),SC st (HY l k st n).2
 |0,st,n=>SC.refl st
 |k+1,st,n=>by
  rw [HY];simp only;split
  . have hf:∀(us:List Nat) (q:Bool×List Nat),SC q.2 (us.foldl (fun (q:Bool×List Nat) a=>if q.1 then HY l k q.2 a else q) q).2:=by
     intro us
     induction us with
     |nil=>intro q;exact SC.refl _
     |cons a us ih=>
      intro q;rw [Ao];refine SC.trans ?_ (ih _);split
      . exact dL l k q.2 a
      . exact SC.refl _
    have h1:=hf (((l[rtN l n]?).map Nd.ar).getD []) (true,st.set (rtN l n) 1);have h2:=(SC.set st (rtN l n) (show (1:Nat)≠0 by decide)).trans h1;split
    . exact h2.trans (SC.set _ _ (by decide))
    . exact h2
  . exact SC.refl st
end Go.Ab
namespace Go.Ab
open Go.Proofs
theorem eO (l:List Nat):(DF l).length=l.length:=by simp [DF]
theorem eP {l:List Nat} {r v:Nat} (h:r < l.length):(DF l).take r++[.d (.int .i64 (v:Int))]++(DF l).drop (r+1)=DF (l.set r v):=by
 induction l generalizing r with
 |nil=>cases h
 |cons x l ih=>
  cases r with
  |zero=>simp [DF]
  |succ r=>
   have:=ih (r:=r) (by simpa using h);simp only [DF,AD,Cj,FX,CU,AZ] at this ⊢;rw [this]
theorem D8 {σ τ υ:AI} (h:(nbH σ).le τ) (k:(nbH τ).le υ):(nbH σ).le υ:=
 ⟨fun _ _ h=>(by cases h),fun t ht=>k.tok t (h.tok t ht),h.gt.trans k.gt,fun i x hx=>k.bt i x (h.bt i x hx)⟩
theorem AIJ (l:List Nd) (k:Nat) (q:Bool×List Nat) (us:List Nat) (a:Nat):(us++[a]).foldl (fun (q:Bool×List Nat) a=>if q.1 then HY l k q.2 a else q) q=
 if (us.foldl (fun (q:Bool×List Nat) a=>if q.1 then HY l k q.2 a else q) q).1 then HY l k (us.foldl (fun (q:Bool×List Nat) a=>if q.1 then HY l k q.2 a else q) q).2 a else us.foldl (fun (q:Bool×List Nat) a=>if q.1 then HY l k q.2 a else q) q:=by
 rw [Cq];rfl
theorem gM (l:List Nd) (k:Nat) (st:List Nat):∀us:List Nat,us.foldl (fun (q:Bool×List Nat) a=>if q.1 then HY l k q.2 a else q) (false,st)=(false,st)
 |[]=>rfl
 |a::us=>by rw [Ao];exact gM l k st us
theorem AAE (ext:Nat->Option (List AV)) (i:Nat) (rest:List AV) (l:List Nd) (fl:Bool) (j1 j3 j4 js:Nat) (hln:l.length<=900000000) (h1:ext j1=some [.gp i 0]) (h3:ext j3=some [.ms js l.length 1 3]) (h4:ext j4=some [.fn 59 [] [.gp j1 0,.gp j3 0,.gp j4 0]]):
 ∀(k:Nat) (st:List Nat) (j:Nat) (σ:AI) (n:Nat),zs st < k->st.length=l.length->n < l.length->SX ext σ i l fl rest j js (DF st)->
 AT Tzp 59 [nA n,.gp j1 0,.gp j3 0,.gp j4 0] σ (fun v σ'=>v= .d (.bool (HY l k st n).1)/\(nbH σ).le σ'/\∃j',SX ext σ' i l fl rest j' js (DF (HY l k st n).2)):=by
 intro k
 induction k with
 |zero=>intro st j σ n h;omega
 |succ k ihk=>
 intro st j σ n hz hst hn hs;have hl0:l≠[]:=fun e=>by rw [e] at hn;cases hn
 refine Sa (by simp) ?_;rw [fR];have hb1:=hs.x _ _ h1;have hb3:=hs.x _ _ h3;obtain ⟨x,hx,hxp⟩:=hs.sn.HM.root hn;have hrl:=(AG.1 hx).1;rw [HY];simp only [nA];generalize hr:rtN l n=r at *;(repeat' (first|refine ctQ rfl ?_|((first|refine rgQ mxQ ?_|refine cdQ ?_|(refine A7 rfl (fun h=>?_) (fun h=>?_)<;>try (cases h;done)))<;>try simp only [hb1,go_sem])|(refine ⟨fun h=>?_,fun h=>?_⟩<;>first|(cases h;done)|try simp only [h])|fail));refine AH.mk rfl (HS i j l fl rest σ n hs.sn hn hln) ?_;rintro _ σ1 ⟨rfl,j5,sn5,fr5⟩;rw [hr];simp only [nA];simp only [go_sem];have hs5:=hs.step sn5 fr5;have hnb5:=fr5.nb2 (IZ σ);clear hs sn5 fr5 hb1 hb3;have hb1:=hs5.x _ _ h1;have hb3:=hs5.x _ _ h3;have hb4:=hs5.x _ _ h4;have hbs:=hs5.row;obtain ⟨v,hv⟩:=Ai (show r < st.length by omega);have hva:=Rk hv;have hrT:=ltT hrl;have hle1:(r+1<=(DF st).length)=True:=by rw [eO];simp;omega
 by_cases h0:v=0
 . subst h0;have hb:(((0:Nat):Int)==0)=true:=rfl;rw [if_pos hv];have hset:(DF st).take r++[.d (.int .i64 1)]++(DF st).drop (r+1)=DF (st.set r 1):=eP (v:=1) (show r < st.length by omega);obtain ⟨hji,c,hrep,hbj⟩:=hs5.sn.nd hl0;have hbi:=hs5.sn.blk;rw [FH hl0] at hbi;obtain ⟨y,hy,yk,yn,ya⟩:=hrep.at hx;obtain ⟨_,_,y3,_⟩:=Sl hy;rw [ya] at y3;have d1:(j1=js)=False:=by simp only [eq_iff_iff,iff_false];intro e;rw [e,hs5.xs] at h1;cases h1
   have d3:(j3=js)=False:=by simp only [eq_iff_iff,iff_false];intro e;rw [e,hs5.xs] at h3;cases h3
   have di:(i=js)=False:=by simp only [eq_iff_iff,iff_false];exact fun e=>hs5.si e.symm
   have dj:(j5=js)=False:=by simp only [eq_iff_iff,iff_false];exact fun e=>hs5.sj hl0 e.symm
   have hs6:=hs5.set (DF (st.set r 1));have hnb6:(nbH σ).le (σ1.AP js (DF (st.set r 1))):=⟨fun _ _ h=>(by cases h),hnb5.tok,hnb5.gt,hnb5.bt⟩;(repeat' (first|refine ctQ rfl ?_|((first|refine rgQ mxQ ?_|refine cdQ ?_|(refine A7 rfl (fun h=>?_) (fun h=>?_)<;>try (cases h;done)))<;>try simp only [hb1,hb3,hbs,hva,hrT,A5,hb,hle1,hset,hbi,hbj,y3,d1,d3,di,dj,AA,go_sem])|(refine ⟨fun h=>?_,fun h=>?_⟩<;>first|(cases h;done)|try simp only [h])|fail));simp only [hx,Ah,BC];generalize σ1.AP js (DF (st.set r 1))=σ2 at hs6 hnb6 ⊢;clear hs5 hb1 hb3 hb4 hbs hbi hbj;have hz1:zs (st.set r 1) < k:=by have:=AGB hv (show (1:Nat)≠0 by decide);omega
   have hs1:(st.set r 1).length=l.length:=by simp [hst]
   generalize st.set r 1=st1 at *;refine Run.slot 32 (fun hsl=>?_);simp only [CR,reduceIte,C4,AV.DW,AA] at hsl;refine Run.At ?_
   refine Run.Au ((fun (a0:AV) (a2:AV) (a3:AV) (a32:AV) (a33:AV)=>fun (z:Nat×AI)=>put 0 a0 (put 2 a2 (put 3 a3 (put 32 a32 (put 33 a33 (put 34 (.d (.int .i64 z.1)) U)))))) _ _ _ _ _) (fun _=>E) (fun z=>z.2)
    (fun z=>z.1<=x.ar.length/\(nbH σ).le z.2/\((x.ar.take z.1).foldl (fun (q:Bool×List Nat) a=>if q.1 then HY l k q.2 a else q) (true,st1)).1=true/\SC st1 ((x.ar.take z.1).foldl (fun (q:Bool×List Nat) a=>if q.1 then HY l k q.2 a else q) (true,st1)).2/\
      ∃j',SX ext z.2 i l fl rest j' js (DF ((x.ar.take z.1).foldl (fun (q:Bool×List Nat) a=>if q.1 then HY l k q.2 a else q) (true,st1)).2))
    (fun z=>x.ar.length - z.1) ?_ (0,σ2) ⟨by simp,hnb6,rfl,SC.refl _,j5,hs6⟩
   rintro ⟨p,τ⟩ ⟨hp,hnb,hok,hle,j6,hs7⟩ ih;simp only at hp hnb hok hle hs7;have hb4:=hs7.x _ _ h4;by_cases hlt:p < x.ar.length
   . obtain ⟨a,ha⟩:=Ai hlt;have har:=Hf ha;have hal:=hs7.sn.HM.ar _ _ hx a (AE ha);have hst2:=AIJ l k (true,st1) (x.ar.take p) a;rw [<- Aa ha] at hst2;have hw1:IntKind.i64.wrap ((p:Int)+1)=((p+1:Nat):Int):=by rw [Ax (by omega) (by omega)];omega
     rw [if_pos hok] at hst2;have hcall:=ihk _ j6 τ a (Nat.lt_of_le_of_lt hle.2 hz1) (hle.1.trans hs1) hal hs7;have hfl:=dL l k ((x.ar.take p).foldl (fun (q:Bool×List Nat) a=>if q.1 then HY l k q.2 a else q) (true,st1)).2 a;generalize hq:(x.ar.take p).foldl (fun (q:Bool×List Nat) a=>if q.1 then HY l k q.2 a else q) (true,st1)=q at *;generalize hw:HY l k q.2 a=w at *;obtain ⟨wb,ws⟩:=w;cases wb with
     |true=>
      (repeat' (refine wQ mxQ rfl ?_<;>try simp only [Ag hlt,har,hb4,go_sem]));refine ⟨59,[],[.gp j1 0,.gp j3 0,.gp j4 0],rfl,by kernel_rfl,AH.mk rfl hcall ?_⟩;rintro _ τ2 ⟨rfl,hn2,j8,hs8⟩;simp only [go_sem];(repeat' (refine wQ mxQ rfl ?_<;>try simp only [hw1,go_sem]));exact ih ⟨p+1,τ2⟩ ⟨hlt,D8 hnb hn2,by simp only [hst2],by simp only [hst2];exact hle.trans hfl,j8,by simp only [hst2];exact hs8⟩ (by simp only;omega)
     |false=>
      (repeat' (refine wQ mxQ rfl ?_<;>try simp only [Ag hlt,har,hb4,go_sem]));refine ⟨59,[],[.gp j1 0,.gp j3 0,.gp j4 0],rfl,by kernel_rfl,AH.mk rfl hcall ?_⟩;rintro _ τ2 ⟨rfl,hn2,j8,hs8⟩;simp only [go_sem];(repeat' ((first|refine wQ mxQ rfl ?_|refine Run.qP E8 ?_|fail)<;>try simp only [go_sem]))
      have hall:x.ar.foldl (fun (q:Bool×List Nat) a=>if q.1 then HY l k q.2 a else q) (true,st1)=(false,ws):=by
       conv=>lhs;rw [<- Ad (p+1) x.ar,Cq,hst2]
       exact gM l k ws _
      simp only [hall];exact ⟨trivial,D8 hnb hn2,j8,hs8⟩
   . have hpe:p=x.ar.length:=by omega
     subst hpe;rw [BR] at hok hle hs7;have hb3:=hs7.x _ _ h3;have hbs:=hs7.row;have hst7:=hle.1.trans hs1;generalize hq:x.ar.foldl (fun (q:Bool×List Nat) a=>if q.1 then HY l k q.2 a else q) (true,st1)=q at *;have hle2:(r+1<=(DF q.2).length)=True:=by rw [eO];simp;omega
     have hset2:(DF q.2).take r++[.d (.int .i64 2)]++(DF q.2).drop (r+1)=DF (q.2.set r 2):=eP (v:=2) (by omega);have hs9:=hs7.set (DF (q.2.set r 2));simp only [hok,if_true];(repeat' (first|refine ctQ rfl ?_|((first|refine rgQ mxQ ?_|refine cdQ ?_|refine Run.qP E8 ?_|(refine A7 rfl (fun h=>?_) (fun h=>?_)<;>try (cases h;done)))<;>try simp only [B5 hlt,hb3,hrT,A5,hbs,hle2,hset2,go_sem])|(refine ⟨fun h=>?_,fun h=>?_⟩<;>first|(cases h;done)|try simp only [h])|fail));exact ⟨⟨fun _ _ h=>(by cases h),hnb.tok,hnb.gt,hnb.bt⟩,j6,hs9⟩
 . have hb:((v:Int) != 0)=true:=by simpa using h0
   rw [if_neg (by rw [hv];simpa using h0)]
   have h2:decide (st[r]?=some 2)=((v:Int)==2):=by
    rw [hv];by_cases e:v=2
    . subst e;rfl
    . have:((v:Int)==2)=false:=by simp;omega
      rw [this];simpa using e
   rw [h2];(repeat' (first|refine ctQ rfl ?_|((first|refine rgQ mxQ ?_|refine cdQ ?_|refine Run.qP E8 ?_|(refine A7 rfl (fun h=>?_) (fun h=>?_)<;>try (cases h;done)))<;>try simp only [hb3,hbs,hva,hrT,A5,hb,go_sem])|(refine ⟨fun h=>?_,fun h=>?_⟩<;>first|(cases h;done)|try simp only [h])|fail));exact ⟨hnb5,j5,hs5⟩
def ADY (l:List Nd):Nat->List Nat->List Nat->Bool
 |_,_,[]=>true
 |k,st,n::ns=>if (HY l k st n).1 then ADY l k (HY l k st n).2 ns else false
def nZ (l:List Nd):Bool:=ADY l (l.length+1) (AF l.length 0) (BA l.length)
theorem APG (n:Nat):zs (AF n 0)<=n:=by
 have:=V7 (p:=fun x:Nat=>x==0) (l:=AF n 0);simpa [zs] using this
theorem JL (σ:AI) (i:Nat) (x:Nat×TypeId) (k:Nat):(σ.CH i x).blk k=σ.blk k:=rfl
structure Mo (σ τ:AI):Prop where
 blk:∀k c,σ.blk k=some c->τ.blk k=some c
 nb:(nbH σ).le τ
theorem Mo.refl (σ:AI):Mo σ σ:=⟨fun _ _ h=>h,IZ σ⟩
theorem Mo.new {σ τ:AI} (h:Mo σ τ) {j:Nat} (hj:τ.blk j=none) (cs:List AV):Mo σ (τ.AP j cs):=
 ⟨fun k c hk=>by have h1:=h.blk k c hk;rw [AK,if_neg (fun e=>by rw [e,hj] at h1;cases h1)];exact h1,⟨fun _ _ h=>(by cases h),h.nb.tok,h.nb.gt,h.nb.bt⟩⟩
theorem Mo.ABA {σ τ:AI} (h:Mo σ τ) {j:Nat} (hj:τ.blk j=none/\τ.bt j=none) (cs cs':List AV) (x:Nat×TypeId):Mo σ (((τ.AP j cs).CH j x).AP j cs'):=
 ⟨fun k c hk=>by
   have h1:=h.blk k c hk;have hne:k≠j:=fun e=>by rw [e,hj.1] at h1;cases h1
   rw [AK,if_neg hne,JL,AK,if_neg hne];exact h1,⟨fun _ _ h=>(by cases h),h.nb.tok,h.nb.gt,fun k y hy=>by
   have h2:=h.nb.bt k y hy;show (if k=j then some x else τ.bt k)=some y;rw [if_neg (fun e=>by rw [e,hj.2] at h2;cases h2)];exact h2⟩⟩
theorem Mo.AOK {σ τ:AI} (h:Mo σ τ) {j:Nat} (hj:σ.blk j=none) (cs:List AV):Mo σ (τ.AP j cs):=
 ⟨fun k c hk=>by rw [AK,if_neg (fun e=>by rw [e,hj] at hk;cases hk)];exact h.blk k c hk,⟨fun _ _ h=>(by cases h),h.nb.tok,h.nb.gt,h.nb.bt⟩⟩
theorem Mo.ne {σ τ:AI} (h:Mo σ τ) {j:Nat} (hj:τ.blk j=none):σ.blk j=none:=by
 cases hs:σ.blk j with
 |none=>rfl
 |some c=>rw [h.blk j c hs] at hj;cases hj
theorem Mo.trans {σ τ υ:AI} (h:Mo σ τ) (k:Mo τ υ):Mo σ υ:=⟨fun x c hx=>k.blk x c (h.blk x c hx),D8 h.nb k.nb⟩
def exT (i j js:Nat) (τ:AI) (k:Nat):Option (List AV):=if k=i\/k=j\/k=js then none else τ.blk k
theorem Jr {i j js k:Nat} {τ:AI} {c:List AV} (h:τ.blk k=some c) (h1:k≠i) (h2:k≠j) (h3:k≠js):exT i j js τ k=some c:=by
 unfold exT;rw [if_neg (by simp [h1,h2,h3])];exact h
theorem ATW {i j js k:Nat} {τ:AI} {c:List AV} (h:exT i j js τ k=some c):τ.blk k=some c:=by
 unfold exT at h;split at h
 . cases h
 . exact h
theorem SX.mk' {σ τ:AI} {i j js:Nat} {l:List Nd} {fl:Bool} {rest cs:List AV} (h:SN σ i l fl rest j) (hl:l≠[]) (m:Mo σ τ) (hs:τ.blk js=some cs) (hn:σ.blk js=none):SX (exT i j js τ) τ i l fl rest j js cs:=by
 obtain ⟨hji,c0,hc0,hbj⟩:=h.nd hl;have hsi:js≠i:=fun e=>by rw [e,h.blk] at hn;cases hn
 have hsj:js≠j:=fun e=>by rw [e,hbj] at hn;cases hn
 exact ⟨⟨m.blk _ _ h.blk,h.HM,fun _=>⟨hji,c0,hc0,m.blk _ _ hbj⟩⟩,hs,fun k c hk=>ATW hk,by simp [exT],fun _=>by simp [exT],by simp [exT],hsi,fun _=>hsj⟩
theorem SX.out {σ τ τ':AI} {i j j' js:Nat} {l:List Nd} {fl:Bool} {rest cs:List AV} (hl:l≠[]) (m:Mo σ τ) (hn:σ.blk js=none) (h:SX (exT i j js τ) τ' i l fl rest j' js cs) (hnb:(nbH σ).le τ'):SN τ' i l fl rest j'/\Fr σ i l j τ' l j':=by
 refine ⟨h.sn,⟨fun k h1 h2 h3=>?_,fun _=>by rw [h.sn.blk];simp,fun _=>?_,hnb.gt.symm,hnb.tok,hnb.bt⟩⟩
 . cases hk:σ.blk k with
   |none=>exact absurd hk h3
   |some c=>exact h.x k c (Jr (m.blk k c hk) h1 (h2 hl) (fun e=>by rw [e,hn] at hk;cases hk))
 . obtain ⟨hji,_⟩:=h.sn.nd hl;have hx:=h.xj hl;have hsj:=h.sj hl;by_cases e:j'=j
   . exact .inl ⟨hl,e⟩
   . right;unfold exT at hx;rw [if_neg (by simp [hji,e,A9 hsj])] at hx;exact m.ne hx
theorem iX (i:Nat) (rest:List AV) (l:List Nd) (fl:Bool) (j:Nat) (σ:AI) (hl0:l≠[]) (hln:l.length<=900000000) (h:SN σ i l fl rest j):
 AT Tzp 29 [.gp i 0] σ (SNQ σ i l rest j (l,fl) (.d (.bool (nZ l)))):=by
 have hbi:=h.blk;rw [FH hl0] at hbi;obtain ⟨hji,c0,hc0,hbj⟩:=h.nd hl0;refine Ut (by simp) ?_;rw [Bq];(repeat' (first|refine ctQ rfl ?_|((first|refine rgQ mxQ ?_|refine cdQ ?_|(refine A7 rfl (fun h=>?_) (fun h=>?_)<;>try (cases h;done)))<;>try simp only [go_sem])|(refine ⟨fun h=>?_,fun h=>?_⟩<;>first|(cases h;done)|try simp only [h])|fail));intro j1 hj1;have m1:=(Mo.refl σ).new hj1 [AV.gp i 0];have f1:(σ.AP j1 [AV.gp i 0]).blk j1=some [AV.gp i 0]:=B0;generalize σ.AP j1 [AV.gp i 0]=τ1 at *;have hbi1:=m1.blk _ _ hbi;(repeat' (first|refine ctQ rfl ?_|((first|refine rgQ mxQ ?_|refine cdQ ?_|(refine A7 rfl (fun h=>?_) (fun h=>?_)<;>try (cases h;done)))<;>try simp only [hbi1,f1,go_sem])|(refine ⟨fun h=>?_,fun h=>?_⟩<;>first|(cases h;done)|try simp only [h])|fail));refine PC.mk l.length (by omega) (by omega) (fun js hjs=>?_);rw [eU];have m2:=(Mo.refl τ1).new hjs (DF (AF l.length 0));have f2:(τ1.AP js (DF (AF l.length 0))).blk js=some (DF (AF l.length 0)):=B0;generalize τ1.AP js (DF (AF l.length 0))=τ2 at *;simp only [go_sem];intro j3 hj3;simp only [JL,go_sem];have m3:=(Mo.refl τ2).ABA hj3 [AV.Ae] [AV.ms js l.length 1 3] (1,74)
 have f3:(((τ2.AP j3 [AV.Ae]).CH j3 (1,74)).AP j3 [AV.ms js l.length 1 3]).blk j3=some [AV.ms js l.length 1 3]:=B0;generalize ((τ2.AP j3 [AV.Ae]).CH j3 (1,74)).AP j3 [AV.ms js l.length 1 3]=τ3 at *;(repeat' (first|refine ctQ rfl ?_|((first|refine rgQ mxQ ?_|refine cdQ ?_|(refine A7 rfl (fun h=>?_) (fun h=>?_)<;>try (cases h;done)))<;>try simp only [go_sem])|(refine ⟨fun h=>?_,fun h=>?_⟩<;>first|(cases h;done)|try simp only [h])|fail));intro j4 hj4;have m4:=(Mo.refl τ3).ABA hj4 [AV.H0] [.fn 59 [] [.gp j1 0,.gp j3 0,.gp j4 0]] (1,139);have f4:(((τ3.AP j4 [AV.H0]).CH j4 (1,139)).AP j4 [.fn 59 [] [.gp j1 0,.gp j3 0,.gp j4 0]]).blk j4=some [.fn 59 [] [.gp j1 0,.gp j3 0,.gp j4 0]]:=B0;have g1:=m3.blk _ _ (m2.blk _ _ f1);have b1:=m3.blk _ _ (m2.blk _ _ hbi1);have n1:j1≠j4:=fun e=>by rw [e,hj4.1] at g1;cases g1
 have n3:j3≠j4:=fun e=>by rw [e,hj4.1] at f3;cases f3
 have ni:i≠j4:=fun e=>by rw [e,hj4.1] at b1;cases b1
 have n1':(j1=j4)=False:=by simp [n1]
 have ni':(i=j4)=False:=by simp [ni]
 (repeat' (first|refine ctQ rfl ?_|((first|refine rgQ mxQ ?_|refine cdQ ?_|(refine A7 rfl (fun h=>?_) (fun h=>?_)<;>try (cases h;done)))<;>try simp only [JL,n1',ni',g1,b1,go_sem])|(refine ⟨fun h=>?_,fun h=>?_⟩<;>first|(cases h;done)|try simp only [h])|fail));generalize ((τ3.AP j4 [AV.H0]).CH j4 (1,139)).AP j4 [.fn 59 [] [.gp j1 0,.gp j3 0,.gp j4 0]]=τ4 at *;have hmo:Mo σ τ4:=((m1.trans m2).trans m3).trans m4;have c1:=m4.blk _ _ g1;have c3:=m4.blk _ _ f3;have cs:=m4.blk _ _ (m3.blk _ _ f2);have hjsn:σ.blk js=none:=m1.ne hjs;have hs:=SX.mk' h hl0 hmo cs hjsn;have hne:∀k c,τ4.blk k=some c->σ.blk k=none->k≠i/\k≠j:=fun k c _ h2=>⟨fun e=>(by rw [e,h.blk] at h2;cases h2),fun e=>(by rw [e,hbj] at h2;cases h2)⟩;have j1n:σ.blk j1=none:=by assumption
 have j3n:σ.blk j3=none:=(m1.trans m2).ne hj3.1;have j4n:σ.blk j4=none:=((m1.trans m2).trans m3).ne hj4.1;have s1:j1≠js:=fun e=>by rw [e,hjs] at f1;cases f1
 have s3:j3≠js:=fun e=>by rw [<- e,hj3.1] at f2;cases f2
 have s4:j4≠js:=fun e=>by have:=m3.blk _ _ f2;rw [<- e,hj4.1] at this;cases this
 have x1:=Jr (js:=js) c1 (hne _ _ c1 j1n).1 (hne _ _ c1 j1n).2 s1;have x3:=Jr (js:=js) c3 (hne _ _ c3 j3n).1 (hne _ _ c3 j3n).2 s3;have x4:=Jr (js:=js) f4 (hne _ _ f4 j4n).1 (hne _ _ f4 j4n).2 s4;have hvis:=AAE _ i rest l fl j1 j3 j4 js hln x1 x3 x4 (l.length+1);refine Run.At ?_
 refine Run.Au ((fun (a4:AV) (a17:AV)=>fun (z:Nat×AI×List Nat)=>put 4 a4 (put 17 a17 (put 18 (.d (.int .i64 z.1)) U))) _ _) (fun _=>E) (fun z=>z.2.1)
  (fun z=>z.1<=l.length/\nZ l=ADY l (l.length+1) z.2.2 (Af z.1 (l.length - z.1))/\SC (AF l.length 0) z.2.2/\(nbH σ).le z.2.1/\∃j',SX (exT i j js τ4) z.2.1 i l fl rest j' js (DF z.2.2))
  (fun z=>l.length - z.1) ?_ (0,τ4,AF l.length 0) ⟨by simp,by simp [nZ,List.range_eq_range'],SC.refl _,hmo.nb,j,hs⟩
 rintro ⟨p,τ,st⟩ ⟨hp,hfp,hle,hnb,j6,hs6⟩ ih;simp only at hp hfp hle hnb hs6;have hb4:=hs6.x _ _ x4;by_cases hlt:p < l.length
 . have hw1:=A4 (show p+1<=9000000000000000000 by omega);rw [show l.length - p=(l.length - (p+1))+1 from by omega,List.range'_succ,ADY] at hfp;have hz:=APG l.length;have hlen:st.length=l.length:=by rw [hle.1];simp
   have hcall:=hvis st j6 τ p (by have:=hle.2;omega) hlen hlt hs6;have hfl:=dL l (l.length+1) st p;generalize HY l (l.length+1) st p=w at *;obtain ⟨wb,ws⟩:=w;cases wb with
   |true=>
    (repeat' (refine wQ mxQ rfl ?_<;>try simp only [Ag hlt,hb4,go_sem]));refine ⟨59,[],[.gp j1 0,.gp j3 0,.gp j4 0],rfl,by kernel_rfl,AH.mk rfl hcall ?_⟩;rintro _ τ2 ⟨rfl,hn2,j8,hs8⟩;simp only [go_sem];(repeat' (refine wQ mxQ rfl ?_<;>try simp only [hw1,go_sem]));exact ih ⟨p+1,τ2,ws⟩ ⟨hlt,by simpa using hfp,hle.trans hfl,D8 hnb hn2,j8,hs8⟩ (by simp only;omega)
   |false=>
    (repeat' (refine wQ mxQ rfl ?_<;>try simp only [Ag hlt,hb4,go_sem]));refine ⟨59,[],[.gp j1 0,.gp j3 0,.gp j4 0],rfl,by kernel_rfl,AH.mk rfl hcall ?_⟩;rintro _ τ2 ⟨rfl,hn2,j8,hs8⟩;simp only [go_sem];(repeat' ((first|refine wQ mxQ rfl ?_|refine Run.qP Hc ?_|fail)<;>try simp only [go_sem]));have hf:nZ l=false:=by simpa using hfp
    exact ⟨by rw [hf],j8,hs8.out hl0 hmo hjsn (D8 hnb hn2)⟩
 . have hpe:p=l.length:=by omega
   subst hpe;rw [Nat.sub_self,List.range'_zero,ADY] at hfp;(repeat' ((first|refine wQ mxQ rfl ?_|refine Run.qP Hc ?_|fail)<;>try simp only [B5 hlt,go_sem]));exact ⟨by rw [hfp],j6,hs6.out hl0 hmo hjsn hnb⟩
end Go.Ab
namespace Go.Ab
open Go.Proofs
structure FR (l:List Nd) (d:Nat->Nat):Prop where
 lt:∀r x,l[r]?=some x->x.p=r->∀a∈x.ar,d (rtN l a) < d r
 le:∀r,d r<=l.length
def szF (l:List Nd):Nat->Nat->Nat
 |0,_=>0
 |k+1,r=>(((l[r]?).map Nd.ar).getD []).foldl (fun s a=>min (s+szF l k (rtN l a)) 201) 1
theorem foldl_congr {α β:Type} {f g:β->α->β}:∀ {l:List α} {b:β},(∀a∈l,∀b,f b a=g b a)->l.foldl f b=l.foldl g b
 |[],b,_=>rfl
 |a::l,b,h=>by
  rw [Ao,Ao,h a (AS)];exact foldl_congr fun x hx=>h x (AR _ hx)
theorem qV {l:List Nd} {d:Nat->Nat} (hg:FM l) (h:FR l d):∀(n r k k':Nat),d r<=n->(∃x,l[r]?=some x/\x.p=r)->d r < k->d r < k'->szF l k r=szF l k' r:=by
 intro n
 induction n with
 |zero=>
  intro r k k' hn ⟨x,hx,hp⟩ hk hk';obtain ⟨k,rfl⟩:∃m,k=m+1:=⟨k - 1,by omega⟩;obtain ⟨k',rfl⟩:∃m,k'=m+1:=⟨k' - 1,by omega⟩;rw [szF,szF,hx];simp only [Ah,BC];refine foldl_congr fun a ha b=>?_;have:=h.lt r x hx hp a ha;omega
 |succ n ih=>
  intro r k k' hn ⟨x,hx,hp⟩ hk hk';obtain ⟨k,rfl⟩:∃m,k=m+1:=⟨k - 1,by omega⟩;obtain ⟨k',rfl⟩:∃m,k'=m+1:=⟨k' - 1,by omega⟩;rw [szF,szF,hx];simp only [Ah,BC];refine foldl_congr fun a ha b=>?_;have h1:=h.lt r x hx hp a ha;rw [ih (rtN l a) k k' (by omega) (hg.root (hg.ar r x hx a ha)) (by omega) (by omega)]
theorem yJ {f:Nat->Nat}:∀ {us:List Nat} {s:Nat},1<=s->s<=201->1<=us.foldl (fun s a=>min (s+f a) 201) s/\us.foldl (fun s a=>min (s+f a) 201) s<=201
 |[],s,h1,h2=>⟨h1,h2⟩
 |a::us,s,h1,h2=>by rw [Ao];exact yJ (by omega) (by omega)
theorem yH (l:List Nd) (k r:Nat):1<=szF l (k+1) r/\szF l (k+1) r<=201:=by
 rw [szF];exact yJ (by omega) (by omega)
def szN (l:List Nd) (n:Nat):Nat:=szF l (l.length+1) (rtN l n)
def KN (l:List Nd) (kn:List Nat):Prop:=kn.length=l.length/\∀r v,kn[r]?=some v->v=0\/v=szF l (l.length+1) r
theorem AFQ (ext:Nat->Option (List AV)) (i:Nat) (rest:List AV) (l:List Nd) (d:Nat->Nat) (hd:FR l d) (fl:Bool) (j1 j3 j4 js:Nat) (hln:l.length<=900000000) (h1:ext j1=some [.gp i 0]) (h3:ext j3=some [.ms js l.length 1 3]) (h4:ext j4=some [.fn 61 [] [.gp j1 0,.gp j3 0,.gp j4 0]]):
 ∀(k:Nat) (kn:List Nat) (j:Nat) (σ:AI) (n:Nat),d (rtN l n) < k->KN l kn->n < l.length->SX ext σ i l fl rest j js (DF kn)->
 AT Tzp 61 [nA n,.gp j1 0,.gp j3 0,.gp j4 0] σ (fun v σ'=>v=nA (szN l n)/\(nbH σ).le σ'/\∃kn' j',KN l kn'/\SX ext σ' i l fl rest j' js (DF kn')):=by
 intro k
 induction k with
 |zero=>intro kn j σ n h;omega
 |succ k ihk=>
 intro kn j σ n hdk hkn hn hs;have hl0:l≠[]:=fun e=>by rw [e] at hn;cases hn
 refine Tm (by simp) ?_;rw [fR];have hb1:=hs.x _ _ h1;obtain ⟨x,hx,hxp⟩:=hs.sn.HM.root hn;have hrl:=(AG.1 hx).1;rw [szN];simp only [nA];generalize hr:rtN l n=r at *;(repeat' (first|refine ctQ rfl ?_|((first|refine rgQ mxQ ?_|refine cdQ ?_|(refine A7 rfl (fun h=>?_) (fun h=>?_)<;>try (cases h;done)))<;>try simp only [hb1,go_sem])|(refine ⟨fun h=>?_,fun h=>?_⟩<;>first|(cases h;done)|try simp only [h])|fail));refine AH.mk rfl (HS i j l fl rest σ n hs.sn hn hln) ?_;rintro _ σ1 ⟨rfl,j5,sn5,fr5⟩;rw [hr];simp only [nA];simp only [go_sem];have hs5:=hs.step sn5 fr5;have hnb5:=fr5.nb2 (IZ σ);clear hs sn5 fr5 hb1;have hb1:=hs5.x _ _ h1;have hb3:=hs5.x _ _ h3;have hbs:=hs5.row;obtain ⟨v,hv⟩:=Ai (show r < kn.length by rw [hkn.1];exact hrl);have hva:=Rk hv;have hrT:=ltT hrl;by_cases h0:v=0
 . subst h0;have hb:(((0:Nat):Int)==0)=true:=rfl;obtain ⟨hji,c,hrep,hbj⟩:=hs5.sn.nd hl0;have hbi:=hs5.sn.blk;rw [FH hl0] at hbi;obtain ⟨y,hy,yk,yn,ya⟩:=hrep.at hx;obtain ⟨_,_,y3,_⟩:=Sl hy;rw [ya] at y3;(repeat' (first|refine ctQ rfl ?_|((first|refine rgQ mxQ ?_|refine cdQ ?_|(refine A7 rfl (fun h=>?_) (fun h=>?_)<;>try (cases h;done)))<;>try simp only [hb1,hb3,hbs,hva,hrT,A5,hb,hbi,hbj,y3,AA,go_sem])|(refine ⟨fun h=>?_,fun h=>?_⟩<;>first|(cases h;done)|try simp only [h])|fail));refine Run.slot 25 (fun hsl=>?_);simp only [CR,reduceIte,C4,AV.DW,AA] at hsl;refine Run.At ?_
   refine Run.Au ((fun (a0:AV) (a2:AV) (a3:AV) (a25:AV) (a26:AV)=>fun (z:Nat×AI)=>put 0 a0 (put 2 a2 (put 3 a3 (put 6 (.d (.int .i64 (((x.ar.take z.1).foldl (fun s a=>min (s+szF l (l.length+1) (rtN l a)) 201) 1:Nat):Int))) (put 25 a25 (put 26 a26 (put 27 (.d (.int .i64 z.1)) U))))))) _ _ _ _ _) (fun _=>E) (fun z=>z.2)
    (fun z=>z.1<=x.ar.length/\(nbH σ).le z.2/\∃kn' j',KN l kn'/\SX ext z.2 i l fl rest j' js (DF kn'))
    (fun z=>x.ar.length - z.1) ?_ (0,σ1) ⟨by simp,hnb5,kn,j5,hkn,hs5⟩
   clear hkn hv hva hb1 hb3 hbs hbi hbj hs5 hrep hy y3;rintro ⟨p,τ⟩ ⟨hp,hnb,kn',j6,hkn,hs7⟩ ih;simp only at hp hnb hs7;have hb4:=hs7.x _ _ h4;by_cases hlt:p < x.ar.length
   . obtain ⟨a,ha⟩:=Ai hlt;have har:=Hf ha;have ham:=AE ha;have hal:=hs7.sn.HM.ar _ _ hx a ham;have hda:=hd.lt r x hx hxp a ham
     have hstep:(x.ar.take (p+1)).foldl (fun s a=>min (s+szF l (l.length+1) (rtN l a)) 201) 1=min ((x.ar.take p).foldl (fun s a=>min (s+szF l (l.length+1) (rtN l a)) 201) 1+szF l (l.length+1) (rtN l a)) 201:=by
      rw [Aa ha,Cq];rfl
     have hbd:=yJ (f:=fun a=>szF l (l.length+1) (rtN l a)) (us:=x.ar.take p) (s:=1) (by omega) (by omega);have hsa:=yH l l.length (rtN l a);have hw1:IntKind.i64.wrap ((p:Int)+1)=((p+1:Nat):Int):=by rw [Ax (by omega) (by omega)];omega
     have hcall:=ihk kn' j6 τ a (by omega) hkn hal hs7;rw [szN] at hcall;generalize hfs:(x.ar.take p).foldl (fun s a=>min (s+szF l (l.length+1) (rtN l a)) 201) 1=s at hbd hstep;generalize szF l (l.length+1) (rtN l a)=sa at hstep hsa hcall;have hw2:IntKind.i64.wrap ((s:Int)+(sa:Int))=((s+sa:Nat):Int):=by rw [Ax (by omega) (by omega)];omega
     (repeat' (first|refine ctQ rfl ?_|((first|refine rgQ mxQ ?_|refine cdQ ?_|(refine A7 rfl (fun h=>?_) (fun h=>?_)<;>try (cases h;done)))<;>try simp only [Ag hlt,har,hb4,go_sem])|(refine ⟨fun h=>?_,fun h=>?_⟩<;>first|(cases h;done)|try simp only [h])|fail));refine ⟨61,[],[.gp j1 0,.gp j3 0,.gp j4 0],rfl,by kernel_rfl,AH.mk rfl hcall ?_⟩;rintro _ τ2 ⟨rfl,hn2,kn2,j8,hkn2,hs8⟩;simp only [nA]
     have hmm:mmA false (.d (.int .i64 ((s+sa:Nat):Int))) (.d (.int .i64 201))=some (.d (.int .i64 ((min (s+sa) 201:Nat):Int))):=by
      simp [mmA];omega
     simp only [hfs,hw2,hmm,go_sem];(repeat' (first|refine ctQ rfl ?_|((first|refine rgQ mxQ ?_|refine cdQ ?_|(refine A7 rfl (fun h=>?_) (fun h=>?_)<;>try (cases h;done)))<;>try simp only [hw1,go_sem])|(refine ⟨fun h=>?_,fun h=>?_⟩<;>first|(cases h;done)|try simp only [h])|fail));have hi:=ih ⟨p+1,τ2⟩ ⟨hlt,D8 hnb hn2,kn2,j8,hkn2,hs8⟩ (by simp only;omega);simp only [hstep] at hi;exact hi
   . have hpe:p=x.ar.length:=by omega
     subst hpe;have hb3:=hs7.x _ _ h3;have hbs:=hs7.row
     have hsz:szF l (l.length+1) r=x.ar.foldl (fun s a=>min (s+szF l (l.length+1) (rtN l a)) 201) 1:=by
      have h0:=hd.le r;rw [szF,hx];simp only [Ah,BC];refine foldl_congr fun a ha b=>?_;have h1:=hd.lt r x hx hxp a ha;rw [qV hs7.sn.HM hd (d (rtN l a)) (rtN l a) l.length (l.length+1) (AW _) (hs7.sn.HM.root (hs7.sn.HM.ar r x hx a ha)) (by omega) (by omega)]
     have hle2:(r+1<=(DF kn').length)=True:=by rw [eO,hkn.1];simp;omega
     have hset:=eP (l:=kn') (v:=szF l (l.length+1) r) (show r < kn'.length by rw [hkn.1];exact hrl)
     have hk2:KN l (kn'.set r (szF l (l.length+1) r)):=by
      refine ⟨by simp [hkn.1],fun m v hm=>?_⟩;rw [B3] at hm;split at hm
      . rename_i e;subst e;split at hm
        . cases hm;exact .inr rfl
        . cases hm
      . exact hkn.2 m v hm
     have hat:(DF (kn'.set r (szF l (l.length+1) r)))[r]?=some (.d (.int .i64 ((szF l (l.length+1) r:Nat):Int))):=Rk (by rw [BI (by rw [hkn.1];exact hrl)]);have hs9:=hs7.set (DF (kn'.set r (szF l (l.length+1) r)));have d3:(j3=js)=False:=by simp only [eq_iff_iff,iff_false];intro e;rw [e,hs7.xs] at h3;cases h3
     simp only [BR,<- hsz];(repeat' (first|refine ctQ rfl ?_|((first|refine rgQ mxQ ?_|refine cdQ ?_|refine Run.qP HL ?_|(refine A7 rfl (fun h=>?_) (fun h=>?_)<;>try (cases h;done)))<;>try simp only [B5 hlt,hb3,hrT,A5,hbs,hle2,hset,hat,d3,go_sem])|(refine ⟨fun h=>?_,fun h=>?_⟩<;>first|(cases h;done)|try simp only [h])|fail));exact ⟨⟨fun _ _ h=>(by cases h),hnb.tok,hnb.gt,hnb.bt⟩,_,j6,hk2,hs9⟩
 . have hb:((v:Int)==0)=false:=by simpa using h0
   have hvz:v=szF l (l.length+1) r:=(hkn.2 r v hv).resolve_left h0;(repeat' (first|refine ctQ rfl ?_|((first|refine rgQ mxQ ?_|refine cdQ ?_|refine Run.qP HL ?_|(refine A7 rfl (fun h=>?_) (fun h=>?_)<;>try (cases h;done)))<;>try simp only [hb3,hbs,hva,hrT,A5,hb,go_sem])|(refine ⟨fun h=>?_,fun h=>?_⟩<;>first|(cases h;done)|try simp only [h])|fail));rw [<- hvz];exact ⟨rfl,hnb5,kn,j5,hkn,hs5⟩
end Go.Ab
namespace Go.Ab
theorem AS4 {f:Nat->Nat}:∀ {us:List Nat} {s:Nat},s<=201->s<=us.foldl (fun s a=>min (s+f a) 201) s
 |[],s,_=>AW _
 |a::us,s,h=>by
  rw [Ao];exact Ap (by omega) (AS4 (us:=us) (s:=min (s+f a) 201) (by omega))
theorem AOX {f:Nat->Nat}:∀ {us:List Nat} {s:Nat},s<=201->us.foldl (fun s a=>min (s+f a) 201) s<=200->s+(us.map f).sum<=200
 |[],s,_,h=>by simpa using h
 |a::us,s,hs,h=>by
  rw [Ao] at h;have h1:=AS4 (f:=f) (us:=us) (s:=min (s+f a) 201) (by omega);have h2:=AOX (us:=us) (s:=min (s+f a) 201) (by omega) h;rw [AD,FK];omega
theorem AHC {f:Nat->Nat}:∀ {us:List Nat} {a:Nat},a∈us->f a<=(us.map f).sum
 |b::us,a,h=>by
  rw [AD,FK];rcases Ar.1 h with rfl|h
  . omega
  . have:=AHC (f:=f) h;omega
theorem AHB {f:Nat->Nat}:∀ {us:List Nat},(∀a∈us,1<=f a)->us.length<=(us.map f).sum
 |[],_=>AW _
 |b::us,h=>by
  rw [AD,FK,A1];have:=h b (AS);have:=AHB (f:=f) (us:=us) (fun a ha=>h a (AR _ ha));omega
theorem yI {l:List Nd} {d:Nat->Nat} (hg:FM l) (h:FR l d) {n:Nat} {x:Nd} (hx:l[rtN l n]?=some x) (hp:x.p=rtN l n) (hs:szN l n<=200):1+(x.ar.map (szN l)).sum<=200:=by
 rw [szN,szF,hx] at hs;simp only [Ah,BC] at hs;have h1:=AOX (by omega) hs
 have:x.ar.map (szN l)=x.ar.map (fun a=>szF l l.length (rtN l a)):=DL fun a ha=>by
  have h1:=h.lt _ x hx hp a ha;have h0:=h.le (rtN l n);exact qV hg h (d (rtN l a)) (rtN l a) (l.length+1) l.length (AW _) (hg.root (hg.ar _ x hx a ha)) (by omega) (by omega)
 rw [this];exact h1
theorem qW {l:List Nd} {d:Nat->Nat} (hg:FM l) (h:FR l d) {n:Nat} {x:Nd} (hx:l[rtN l n]?=some x) (hp:x.p=rtN l n) (hs:szN l n<=200):x.ar.length<=199/\∀a∈x.ar,szN l a<=200:=by
 have h1:=yI hg h hx hp hs;have h2:=AHB (f:=szN l) (us:=x.ar) (fun a _=>(yH l l.length (rtN l a)).1);exact ⟨by omega,fun a ha=>by have:=AHC (f:=szN l) ha;omega⟩
theorem AOW {l:List Nd} {d:Nat->Nat} (hg:FM l) (h:FR l d) {n:Nat} {x:Nd} (hx:l[rtN l n]?=some x) (hp:x.p=rtN l n) (hs:szN l n<=200):szN l n=1+(x.ar.map (szN l)).sum:=by
 have h1:=yI hg h hx hp hs
 have h4:szN l n=x.ar.foldl (fun s a=>min (s+szN l a) 201) 1:=by
  rw [szN,szF,hx];simp only [Ah,BC];refine foldl_congr fun a ha b=>?_;have h1:=h.lt _ x hx hp a ha;have h0:=h.le (rtN l n);rw [szN,qV hg h (d (rtN l a)) (rtN l a) l.length (l.length+1) (AW _) (hg.root (hg.ar _ x hx a ha)) (by omega) (by omega)]
 have h5:∀(us:List Nat) (s:Nat),s+(us.map (szN l)).sum<=200->us.foldl (fun s a=>min (s+szN l a) 201) s=s+(us.map (szN l)).sum:=by
  intro us
  induction us with
  |nil=>intro s _;simp
  |cons a us ih2=>
   intro s hs;rw [AD,FK] at hs ⊢;rw [Ao,show min (s+szN l a) 201=s+szN l a from by omega,ih2 _ (by omega)];omega
 rw [h4,h5 _ _ h1]
def rdF (l:List Nd) (es:List (Int×Int)):Nat->Nat->Ty
 |0,_=>.mk 3 0 []
 |k+1,r=>match l[r]? with
  |none=>.mk 3 0 []
  |some x=>if x.k=0 then (match es.lookup (r:Int) with
   |some i=>.mk 4 i []
   |none=>.mk 3 0 []) else .mk x.k x.n (x.ar.map fun a=>rdF l es k (rtN l a))
def rdN (l:List Nd) (es:List (Int×Int)) (n:Nat):Ty:=rdF l es (l.length+1) (rtN l n)
theorem AN8 {l:List Nd} {es:List (Int×Int)} {d:Nat->Nat} (hg:FM l) (h:FR l d):∀(n r k k':Nat),d r<=n->(∃x,l[r]?=some x/\x.p=r)->d r < k->d r < k'->rdF l es k r=rdF l es k' r:=by
 intro n
 induction n with
 |zero=>
  intro r k k' hn ⟨x,hx,hp⟩ hk hk';obtain ⟨k,rfl⟩:∃m,k=m+1:=⟨k - 1,by omega⟩;obtain ⟨k',rfl⟩:∃m,k'=m+1:=⟨k' - 1,by omega⟩;rw [rdF,rdF,hx];simp only;split
  . rfl
  . congr 1;refine DL fun a ha=>?_;have:=h.lt r x hx hp a ha;omega
 |succ n ih=>
  intro r k k' hn ⟨x,hx,hp⟩ hk hk';obtain ⟨k,rfl⟩:∃m,k=m+1:=⟨k - 1,by omega⟩;obtain ⟨k',rfl⟩:∃m,k'=m+1:=⟨k' - 1,by omega⟩;rw [rdF,rdF,hx];simp only;split
  . rfl
  . congr 1;refine DL fun a ha=>?_;have h1:=h.lt r x hx hp a ha;exact ih (rtN l a) k k' (by omega) (hg.root (hg.ar r x hx a ha)) (by omega) (by omega)
theorem xQ {l:List Nd} {es:List (Int×Int)} {d:Nat->Nat} (hg:FM l) (h:FR l d) {n:Nat} {x:Nd} (hx:l[rtN l n]?=some x) (hp:x.p=rtN l n):
 rdN l es n=if x.k=0 then (match es.lookup (rtN l n:Int) with
  |some i=>.mk 4 i []
  |none=>.mk 3 0 []) else .mk x.k x.n (x.ar.map (rdN l es)):=by
 rw [rdN,rdF,hx];simp only;split
 . rfl
 . congr 1;refine DL fun a ha=>?_;have h1:=h.lt _ x hx hp a ha;have h0:=h.le (rtN l n);exact AN8 hg h (d (rtN l a)) (rtN l a) l.length (l.length+1) (AW _) (hg.root (hg.ar _ x hx a ha)) (by omega) (by omega)
theorem Ty.vH {α:Type} (f:α->Ty):∀us:List α,Ty.AU (us.map f)=(us.map fun a=>(f a).size).sum
 |[]=>rfl
 |a::us=>by rw [AD,Ty.AU,Ty.vH f us];rfl
theorem AOT {f g:Nat->Nat}:∀ {us:List Nat},(∀a∈us,f a<=g a)->(us.map f).sum<=(us.map g).sum
 |[],_=>AW _
 |b::us,h=>by
  rw [AD,AD,FK,FK];have:=h b (AS);have:=AOT (f:=f) (g:=g) (us:=us) (fun a ha=>h a (AR _ ha));omega
theorem AN9 {l:List Nd} {es:List (Int×Int)} {d:Nat->Nat} (hg:FM l) (h:FR l d):∀(N n:Nat),n < l.length->d (rtN l n)<=N->szN l n<=200->(rdN l es n).size<=szN l n:=by
 intro N
 induction N with
 |zero=>
  intro n hn hd hs;obtain ⟨x,hx,hp⟩:=hg.root hn;have hb:=yH l l.length (rtN l n);rw [xQ hg h hx hp]
  have hk:x.ar=[]:=by
   cases hxa:x.ar with
   |nil=>rfl
   |cons a _=>have:=h.lt _ x hx hp a (by rw [hxa];exact AS);omega
  change 1<=szN l n/\_ at hb;split
  . split<;>(simp only [Ty.size,Ty.AU];omega)
  . rw [hk];simp only [AJ,Ty.size,Ty.AU];omega
 |succ N ih=>
  intro n hn hd hs;obtain ⟨x,hx,hp⟩:=hg.root hn;have hb:=yH l l.length (rtN l n);change 1<=szN l n/\_ at hb;rw [xQ hg h hx hp];split
  . split<;>(simp only [Ty.size,Ty.AU];omega)
  . have h1:=yI hg h hx hp hs;have h2:=(qW hg h hx hp hs).2;have h3:=AOW hg h hx hp hs;rw [h3,Ty.size,Ty.vH];have:=AOT (f:=fun a=>(rdN l es a).size) (g:=szN l) (us:=x.ar) (fun a ha=>ih a (hg.ar _ x hx a ha) (by have:=h.lt _ x hx hp a ha;omega) (h2 a ha));omega
end Go.Ab
namespace Go.Ab
open Go.Proofs
def szC (j1 j3 j4:Nat):AV:= .fn 61 [] [.gp j1 0,.gp j3 0,.gp j4 0]
theorem KN.zero (l:List Nd):KN l (AF l.length 0):=⟨by simp,fun r v h=>by
 rw [R0] at h;split at h
 . cases h;exact .inl rfl
 . cases h⟩
theorem l8 (i:Nat) (rest:List AV) (l:List Nd) (fl:Bool) (j:Nat) (σ:AI) (hl0:l≠[]) (hln:l.length<=900000000) (h:SN σ i l fl rest j):
 AT Tzp 30 [.gp i 0] σ (fun v σ'=>∃j1 j3 j4 js,v=szC j1 j3 j4/\Mo σ σ'/\σ.blk js=none/\SX (exT i j js σ') σ' i l fl rest j js (DF (AF l.length 0))/\
  exT i j js σ' j1=some [.gp i 0]/\exT i j js σ' j3=some [.ms js l.length 1 3]/\exT i j js σ' j4=some [szC j1 j3 j4]):=by
 have hbi:=h.blk;rw [FH hl0] at hbi;obtain ⟨hji,c0,hc0,hbj⟩:=h.nd hl0;refine WJ (by simp) ?_;rw [Bq];(repeat' (first|refine ctQ rfl ?_|((first|refine rgQ mxQ ?_|refine cdQ ?_|(refine A7 rfl (fun h=>?_) (fun h=>?_)<;>try (cases h;done)))<;>try simp only [go_sem])|(refine ⟨fun h=>?_,fun h=>?_⟩<;>first|(cases h;done)|try simp only [h])|fail));intro j1 hj1;have m1:=(Mo.refl σ).new hj1 [AV.gp i 0];have f1:(σ.AP j1 [AV.gp i 0]).blk j1=some [AV.gp i 0]:=B0;generalize σ.AP j1 [AV.gp i 0]=τ1 at *;have hbi1:=m1.blk _ _ hbi;(repeat' (first|refine ctQ rfl ?_|((first|refine rgQ mxQ ?_|refine cdQ ?_|(refine A7 rfl (fun h=>?_) (fun h=>?_)<;>try (cases h;done)))<;>try simp only [hbi1,f1,go_sem])|(refine ⟨fun h=>?_,fun h=>?_⟩<;>first|(cases h;done)|try simp only [h])|fail));refine PC.mk l.length (by omega) (by omega) (fun js hjs=>?_);rw [eU];have m2:=(Mo.refl τ1).new hjs (DF (AF l.length 0));have f2:(τ1.AP js (DF (AF l.length 0))).blk js=some (DF (AF l.length 0)):=B0;generalize τ1.AP js (DF (AF l.length 0))=τ2 at *;simp only [go_sem];intro j3 hj3;simp only [JL,go_sem];have m3:=(Mo.refl τ2).ABA hj3 [AV.Ae] [AV.ms js l.length 1 3] (1,74)
 have f3:(((τ2.AP j3 [AV.Ae]).CH j3 (1,74)).AP j3 [AV.ms js l.length 1 3]).blk j3=some [AV.ms js l.length 1 3]:=B0;generalize ((τ2.AP j3 [AV.Ae]).CH j3 (1,74)).AP j3 [AV.ms js l.length 1 3]=τ3 at *;(repeat' (first|refine ctQ rfl ?_|((first|refine rgQ mxQ ?_|refine cdQ ?_|(refine A7 rfl (fun h=>?_) (fun h=>?_)<;>try (cases h;done)))<;>try simp only [go_sem])|(refine ⟨fun h=>?_,fun h=>?_⟩<;>first|(cases h;done)|try simp only [h])|fail));intro j4 hj4;have m4:=(Mo.refl τ3).ABA hj4 [AV.H0] [szC j1 j3 j4] (1,96);have f4:(((τ3.AP j4 [AV.H0]).CH j4 (1,96)).AP j4 [szC j1 j3 j4]).blk j4=some [szC j1 j3 j4]:=B0;have g1:=m3.blk _ _ (m2.blk _ _ f1);(repeat' (first|refine ctQ rfl ?_|((first|refine rgQ mxQ ?_|refine cdQ ?_|refine Run.qP M9 ?_|(refine A7 rfl (fun h=>?_) (fun h=>?_)<;>try (cases h;done)))<;>try simp only [JL,go_sem])|(refine ⟨fun h=>?_,fun h=>?_⟩<;>first|(cases h;done)|try simp only [h])|fail));have he:(((τ3.AP j4 [AV.H0]).CH j4 (1,96)).AP j4 [.fn 61 [] [.gp j1 0,.gp j3 0,.gp j4 0]])=(((τ3.AP j4 [AV.H0]).CH j4 (1,96)).AP j4 [szC j1 j3 j4]):=rfl;rw [he];generalize ((τ3.AP j4 [AV.H0]).CH j4 (1,96)).AP j4 [szC j1 j3 j4]=τ4 at *;have hmo:Mo σ τ4:=((m1.trans m2).trans m3).trans m4
 have c1:=m4.blk _ _ g1;have c3:=m4.blk _ _ f3;have cs:=m4.blk _ _ (m3.blk _ _ f2);have hjsn:σ.blk js=none:=m1.ne hjs;have hs:=SX.mk' h hl0 hmo cs hjsn;have hne:∀k c,τ4.blk k=some c->σ.blk k=none->k≠i/\k≠j:=fun k c _ h2=>⟨fun e=>(by rw [e,h.blk] at h2;cases h2),fun e=>(by rw [e,hbj] at h2;cases h2)⟩;have j1n:σ.blk j1=none:=by assumption
 have j3n:σ.blk j3=none:=(m1.trans m2).ne hj3.1;have j4n:σ.blk j4=none:=((m1.trans m2).trans m3).ne hj4.1;have s1:j1≠js:=fun e=>by rw [e,hjs] at f1;cases f1
 have s3:j3≠js:=fun e=>by rw [<- e,hj3.1] at f2;cases f2
 have s4:j4≠js:=fun e=>by have:=m3.blk _ _ f2;rw [<- e,hj4.1] at this;cases this
 exact ⟨j1,j3,j4,js,rfl,hmo,hjsn,hs,Jr (js:=js) c1 (hne _ _ c1 j1n).1 (hne _ _ c1 j1n).2 s1,Jr (js:=js) c3 (hne _ _ c3 j3n).1 (hne _ _ c3 j3n).2 s3,Jr (js:=js) f4 (hne _ _ f4 j4n).1 (hne _ _ f4 j4n).2 s4⟩
end Go.Ab
namespace Go.Ab
structure En where
 t:Nat
 f:Int
 ar:List Nat
structure Sch where
 vars:Int
 params:List Ty
 res:Ty
structure GC where
 fs:List FE
 dt:List Dat
 sch:List Sch
 mem:List Bool
 ps:List (List Nat)
 rs:List Nat
structure GS where
 s:SS
 en:List En
def GS.add (g:GS) (k n:Int) (ar:List Nat):GS:= { g with s:=(LY g.s.1 k n ar,g.s.2)}
def GS.uni (g:GS) (a b:Nat):GS:= { g with s:=Go.Ab.uni g.s a b}
def GS.nx (g:GS):Nat:=g.s.1.length
def GS.frs (g:GS) (n:Nat):GS:= { g with s:=(G2 g.s.1 n,g.s.2)}
def GS.Sx (g:GS) (at_:Nat) (f:En->En):GS:= { g with en:=g.en.modify at_ f}
abbrev Env:=List (Str×Nat)
def Lr:Env->Str->Option Nat
 |[],_=>none
 |x::e,s=>if x.1=s then some x.2 else Lr e s
def CN:Env->List Str->List Nat->Env
 |e,s::ss,t::ts=>CN (if s=[] then e else (s,t)::e) ss ts
 |e,_,_=>e
def AT5 (ar:List Nat) (ps:List Ty) (r:Ty) (g:GS):Nat×GS:=
 let p:=Bh ar g.s.1 ps
 let q:=FU ar p.2 r
 (q.2.length, { g with s:=(LY q.2 9 0 (p.1++[q.1]),g.s.2)})
def AOC (G:GC) (f at_:Nat) (g:GS):Nat×GS:=
 if G.mem.getD f false then (g.nx,g.add 9 0 ((G.ps.getD f [])++[G.rs.getD f 0]))
                                               else match G.sch[f]? with
  |none=>(0,g)
  |some s=>AT5 (Af g.nx s.vars.toNat) s.params s.res ((g.frs s.vars.toNat).Sx at_ fun e=> { e with ar:=Af g.nx s.vars.toNat})
def W9 (G:GC) (env:Env) (nm:Str) (at_:Nat) (g:GS):Nat×GS:=
 match Lr env nm with
 |some t=>(t,g)
 |none=>AOC G ((C9 (Bo G.fs) nm).getD 0) at_ (g.Sx at_ fun e=> { e with f:=(((C9 (Bo G.fs) nm).getD 0:Nat):Int)})
def r6 (o:Int):Int:=if o=2 then 2 else if o=3 then 1 else 3
def Z2 (n:Int) (b:Nat):List Nat×Nat:=
 if n=1 then ([b,b+1],b+2) else if n=2 then ([b+2,b],b+1) else if n=3 then ([b+2,b,b+1],b+4) else if n=4 then ([b+2],b)
                                                                                                                else if n=5 then ([b+1],b+3) else if n=6 then ([b+3],b+1) else if n=7 then ([b+3,b+1],b+4) else ([],b+4)
mutual
def Bg (G:GC):Ex->Env->GS->Nat×GS
 | .mk o nm nu ns ks al,env,g0=>
  let at_:=g0.en.length
  let g:GS:= { g0 with en:=g0.en++[⟨0,-1,[]⟩]}
  let r:Nat×GS:=
   if o=4 then W9 G env nm at_ g
    else if o=1\/o=2\/o=3\/o=15 then (g.nx,g.add (r6 o) 0 [])
    else if o=5 then (let q:=CO G ks env g;(q.2.nx,q.2.add 6 0 q.1))
    else if o=6 then (match EV G.dt nm with
    |none=>(0,g)
    |some (d,c)=>match G.dt[d]? with
     |none=>(0,g)
     |some D=>
      let ar:=Af g.nx D.vars.toNat
      let g:=DC G ks env 0 (fun i r s=>let q:=FU ar s.1 (((D.cons[c]?).map Con.args).getD []|>.getD i (.mk 0 0 []));Go.Ab.uni (q.2,s.2) r q.1) (g.frs D.vars.toNat)
      (g.nx,g.add 5 d ar))
        else if o=10 then (match al with
    |[]=>(0,g)
    |a::_=>match EV G.dt a.con with
     |none=>(0,g)
     |some (d,_)=>match G.dt[d]? with
      |none=>(0,g)
      |some D=>
       let ar:=Af g.nx D.vars.toNat
       let g:=Gw G ks env (g.frs D.vars.toNat)
       let r:=g.1
       let g:=(g.2.add 5 d ar).uni r g.2.nx
       let t:=g.nx
       (t,M3 G al env D ar t (g.add 0 0 [])))
                               else if o=12 then
    (let q:=CO G ks env g
     let t:=q.2.nx
     let g:=(q.2.add 0 0 []).add 9 0 (q.1.tail++[t])
     (t,g.uni (q.1.headD 0) (t+1)))
                              else if o=13 then
    (let g:=DC G ks env 0 (fun _ r s=>Go.Ab.uni (LY s.1 1 0 [],s.2) r s.1.length) g
     (g.nx,g.add (if 6<=nu/\nu<=8 then 2 else 1) 0 []))
                   else if o=14 then
    (let b:=g.nx
     let g:=((((g.add 1 0 []).add 0 0 []).add 7 0 [b+1]).add 8 0 [b+1]).add 3 0 []
     let g:=DC G ks env 0 (fun i r s=>Go.Ab.uni s r ((Z2 nu b).1.getD i 0)) g
     ((Z2 nu b).2,g))
        else if o=16 then
    (let q:=Gw G ks env g
     let g:=(q.2.add 1 0 []).uni q.1 q.2.nx
     (g.nx,g.add 0 0 []))
       else if o=7 then (let q:=Gw G ks env g;Lq G ks (CN env [nm] [q.1]) q.2)
       else if o=8 then
    (let parts:=Af g.nx ns.length
     let q:=Gw G ks env (g.frs ns.length)
     Lq G ks (CN env ns parts) ((q.2.add 6 0 parts).uni q.1 q.2.nx))
                                  else if o=9 then
    (let q:=Gw G ks env g
     let q1:=Lq G ks env ((q.2.add 2 0 []).uni q.1 q.2.nx)
     let q2:=Vk G ks env q1.2
     (q1.1,q2.2.uni q2.1 q1.1))
       else if o=11 then
    (let params:=Af g.nx ns.length
     let q:=Gw G ks (CN env ns params) (g.frs ns.length)
     (q.2.nx,q.2.add 9 0 (params++[q.1])))
                           else
    (let q:=Gw G ks env g
     let r:=Lq G ks (CN env [nm] [q.2.nx]) (q.2.add 1 0 [])
     (q.1,r.2.uni r.1 q.1))
  (r.1,r.2.Sx at_ fun e=> { e with t:=r.1})
def CO (G:GC):List Ex->Env->GS->List Nat×GS
 |[],_,g=>([],g)
 |k::ks,env,g=>let r:=Bg G k env g;let q:=CO G ks env r.2;(r.1::q.1,q.2)
def Gw (G:GC):List Ex->Env->GS->Nat×GS
 |[],_,g=>(0,g)
 |k::_,env,g=>Bg G k env g
def Lq (G:GC):List Ex->Env->GS->Nat×GS
 |[],_,g=>(0,g)
 |_::ks,env,g=>Gw G ks env g
def Vk (G:GC):List Ex->Env->GS->Nat×GS
 |[],_,g=>(0,g)
 |_::ks,env,g=>Lq G ks env g
def DC (G:GC):List Ex->Env->Nat->(Nat->Nat->SS->SS)->GS->GS
 |[],_,_,_,g=>g
 |k::ks,env,i,f,g=>let r:=Bg G k env g;DC G ks env (i+1) f { r.2 with s:=f i r.1 r.2.s}
def M3 (G:GC):List Al->Env->Dat->List Nat->Nat->GS->GS
 |[],_,_,_,_,g=>g
 | .mk c vs b::al,env,D,ar,t,g=>
  let cc:=((EV G.dt c).map (·.2)).getD 0
  let q:=Bh ar g.s.1 (((D.cons[cc]?).map Con.args).getD [])
  let r:=Bg G b (CN env vs q.1) { g with s:=(q.2,g.s.2)}
  M3 G al env D ar t (r.2.uni r.1 t)
end
end Go.Ab
namespace Go.Ab
open Go.Proofs
def J9:Env->DV
 |[]=>.G4
 |x::e=>.ptr [.str x.1,.int .i64 (x.2:Int),J9 e]
theorem uC (s:Str) (t:Nat) (e:Env):J9 ((s,t)::e)= .ptr [.str s,.int .i64 (t:Int),J9 e]:=rfl
structure PlV (x:AV) (v:DV):Prop where
 dv:x.dv=some v
 cell:x.B8=true
 BE:x.BE=true
 cells:x.cells=[x]
 BV:∀k,x.BV k=false
 plain:x.plain= .d v
theorem PlV.d (v:DV):PlV (.d v) v:=⟨rfl,rfl,rfl,rfl,fun _=>rfl,G6 v⟩
theorem PlV.G4:PlV .G4 .G4:=⟨rfl,rfl,rfl,rfl,fun _=>rfl,bU⟩
theorem vQ:∀(ns:List Str) (ts:List Nat) (e:Env) (s:Str) (t:Nat),ns.length=ts.length->CN e (ns++[s]) (ts++[t])=if s=[] then CN e ns ts else (s,t)::CN e ns ts
 |[],[],e,s,t,_=>rfl
 |[],_::_,_,_,_,h=>by simp at h
 |_::_,[],_,_,_,h=>by simp at h
 |n::ns,u::ts,e,s,t,h=>by
  simp only [AZ,CN];exact vQ ns ts _ s t (by simpa using h)
theorem KD (x:AV) (env:Env) (hx:PlV x (J9 env)) (ns:List Str) (ts:List Nat) (hl:ns.length=ts.length) (σ:AI):
 AT Tzp 57 [x,.d (.sl (ns.map BF)),.d (.sl (ts.map By))] σ (fun v σ'=>v= .d (J9 (CN env ns ts))/\σ'=σ):=by
 refine ZS (by simp) ?_;rw [Dm];refine Run.slot 1 (fun hb0=>?_);simp only [CR,reduceIte,C4,AV.DW,AA] at hb0;(repeat' (refine wQ mxQ rfl ?_<;>try simp only [hx.cell,hx.BE,hx.cells,hx.BV,AA,go_sem]));refine Run.At ?_;refine Run.Au ((fun (a2:AV) (a9:AV) (a10:AV)=>fun (z:Nat×AV)=>put 0 (z.2) (put 2 a2 (put 9 a9 (put 10 a10 (put 11 (.d (.int .i64 z.1)) U))))) _ _ _) (fun _=>E) (fun _=>σ) (fun z=>z.1<=ns.length/\PlV z.2 (J9 (CN env (ns.take z.1) (ts.take z.1)))) (fun z=>ns.length - z.1) ?_ (0,x) ⟨by simp,by simpa [CN] using hx⟩;rintro ⟨p,y⟩ ⟨hp,hy⟩ ih;simp only at hp hy;by_cases hlt:p < ns.length
 . obtain ⟨s,hs⟩:=Ai hlt;obtain ⟨t,ht⟩:=Ai (show p < ts.length by omega);have hsr:(ns.map BF)[p]?=some [.str s]:=by rw [Aj,hs];rfl
   have htr:=Hf ht;have hw1:IntKind.i64.wrap ((p:Int)+1)=((p+1:Nat):Int):=by rw [Ax (by omega) (by omega)];omega
   have hstep:=vQ (ns.take p) (ts.take p) env s t (by simp;omega);rw [<- Aa hs,<- Aa ht] at hstep;by_cases h0:s=[]
   . subst h0;rw [if_pos rfl] at hstep;(repeat' (first|((first|refine wQ mxQ rfl ?_|(refine A7 rfl (fun h=>?_) (fun h=>?_)<;>try (cases h;done))|fail)<;>try simp only [Ag hlt,hsr,htr,hw1,hy.dv,hy.cell,hy.BE,hy.cells,hy.BV,beq_self_eq_true,go_sem])|(refine ⟨fun h=>?_,fun h=>?_⟩<;>first|(cases h;done)|try simp only [h])|fail));exact ih (p+1,y) ⟨hlt,by simp only;rw [hstep];exact hy⟩ (by simp only;omega)
   . rw [if_neg h0] at hstep;have hb:(s==[])=false:=by simpa using h0
     (repeat' (first|refine ctQ rfl ?_|((first|refine rgQ mxQ ?_|refine cdQ ?_|(refine A7 rfl (fun h=>?_) (fun h=>?_)<;>try (cases h;done)))<;>try simp only [Ag hlt,hsr,htr,hw1,hb,hy.dv,hy.cell,hy.BE,hy.cells,hy.BV,go_sem])|(refine ⟨fun h=>?_,fun h=>?_⟩<;>first|(cases h;done)|try simp only [h])|fail));exact ih (p+1,_) ⟨hlt,by simp only;rw [hstep];exact PlV.d _⟩ (by simp only;omega)
 . have hpe:p=ns.length:=by omega
   rw [hpe,BR,hl,BR] at hy;(repeat' ((first|refine wQ mxQ rfl ?_|refine Run.qP Oi ?_|fail)<;>try simp only [B5 hlt,hy.dv,hy.cell,hy.BE,hy.cells,hy.BV,hy.plain,go_sem]))
def AM5:Option Nat->AV
 |some t=>.tup [.d (.int .i64 (t:Int)),.d (.bool true)]
 |none=>.tup [.d (.int .i64 0),.d (.bool false)]
theorem sS (env:Env) (s:Str) (σ:AI):
 AT Tzp 121 [.d (J9 env),.d (.str s)] σ (fun v σ'=>v=AM5 (Lr env s)/\σ'=σ):=by
 refine ZR (by simp) ?_;rw [BK];(repeat' (refine wQ mxQ rfl ?_<;>try simp only [go_sem]));refine Run.At ?_;refine Run.Au ((fun (a1:AV)=>fun (e:Env)=>put 0 (.d (J9 e)) (put 1 a1 U)) _) (fun _=>E) (fun _=>σ) (fun e=>Lr e s=Lr env s) (fun e=>e.length) ?_ env rfl;rintro e he ih;cases e with
 |nil=>
  rw [<- he];(repeat' ((first|refine wQ mxQ rfl ?_|refine Run.qP Jb ?_|fail)<;>try simp only [J9,go_sem]));rfl
 |cons x e=>
  obtain ⟨n,t⟩:=x;rw [Lr] at he;simp only at he;by_cases h:n=s
  . have hb:(n==s)=true:=by simpa using h
    rw [if_pos h] at he;rw [<- he];(repeat' (first|refine ctQ rfl ?_|((first|refine rgQ mxQ ?_|refine cdQ ?_|refine Run.qP Jb ?_|(refine A7 rfl (fun h=>?_) (fun h=>?_)<;>try (cases h;done)))<;>try simp only [uC,hb,go_sem])|(refine ⟨fun h=>?_,fun h=>?_⟩<;>first|(cases h;done)|try simp only [h])|fail));rfl
  . have hb:(n==s)=false:=by simpa using h
    rw [if_neg h] at he;(repeat' (first|refine ctQ rfl ?_|((first|refine rgQ mxQ ?_|refine cdQ ?_|(refine A7 rfl (fun h=>?_) (fun h=>?_)<;>try (cases h;done)))<;>try simp only [uC,hb,go_sem])|(refine ⟨fun h=>?_,fun h=>?_⟩<;>first|(cases h;done)|try simp only [h])|fail));exact ih e he (by simp)
end Go.Ab
namespace Go.Ab
open Go.Proofs
section rows
variable {α:Type} (r:α->List AV) (s:Nat) (hr:∀x,(r x).length=s)
def rwC (l:List α):List AV:=(l.map r).flatten
include hr
theorem P3 (l:List α):(rwC r l).length=l.length * s:=by
 induction l with
 |nil=>simp [rwC]
 |cons x l ih=>
  simp only [rwC,AD,BU,AX,A1] at ih ⊢;rw [ih,hr,CK,Nat.one_mul];omega
omit hr in
theorem ARV (l m:List α):rwC r (l++m)=rwC r l++rwC r m:=by simp [rwC]
omit hr in
theorem HR (x:α) (l:List α):rwC r (x::l)=r x++rwC r l:=by simp [rwC]
theorem AOI:∀ {l:List α} {i:Nat} {x:α} (o:Nat),l[i]?=some x->o < s->(rwC r l)[i * s+o]?=(r x)[o]?
 |y::l,0,x,o,h,ho=>by
  simp only [BM,AL] at h;subst h;rw [HR,OR,BJ,BQ (by rw [hr];exact ho)]
 |y::l,i+1,x,o,h,ho=>by
  have:=AOI (l:=l) (i:=i) (x:=x) o (by simpa using h) ho;rw [HR,BL (by rw [hr,CK];omega),hr,<- this];congr 1;rw [CK];omega
theorem xZ:∀ {l:List α} {i:Nat} {x:α},l[i]?=some x->((rwC r l).drop (i * s)).take s=r x
 |y::l,0,x,h=>by
  simp only [BM,AL] at h;subst h;rw [HR,OR,TC,List.take_left' (hr _)]
 |y::l,i+1,x,h=>by
  have:=xZ (l:=l) (i:=i) (x:=x) (by simpa using h);rw [HR,show (i+1) * s=(r y).length+i * s from by rw [hr,CK];omega,HX];exact this
theorem x8 (o:Nat) (v:AV) (f:α->α):∀ {l:List α} {i:Nat} {x:α},l[i]?=some x->o < s->(r x).take o++[v]++(r x).drop (o+1)=r (f x)->(rwC r l).take (i * s+o)++[v]++(rwC r l).drop (i * s+o+1)=rwC r (l.modify i f)
 |y::l,0,x,h,ho,e=>by
  simp only [BM,AL] at h;subst h;rw [show (y::l).modify 0 f=f y::l from rfl,HR,HR,<- e,OR,BJ,List.take_append_of_le_length (by rw [hr];omega),List.drop_append_of_le_length (by rw [hr];omega)];simp
 |y::l,i+1,x,h,ho,e=>by
  have:=x8 (l:=l) (i:=i) (x:=x) o v f (by simpa using h) ho e
  rw [show (y::l).modify (i+1) f=y::l.modify i f from rfl,HR,HR,<- this,show (i+1) * s+o=(r y).length+(i * s+o) from by rw [hr,CK];omega,aC,
   show (r y).length+(i * s+o)+1=(r y).length+(i * s+o+1) from by omega,HX]
  simp
end rows
def En.row (x:En):List AV:=[.d (.int .i64 (x.t:Int)),.d (.int .i64 x.f),.d (.sl (x.ar.map By))]
theorem En.Ft (x:En):x.row.length=3:=rfl
abbrev enC:=rwC En.row
abbrev tkE:Nat:=148
def enV (en:List En) (jc:Nat):AV:=match en with
 |[]=>.Ae
 |_::_=>.ms jc en.length 3 tkE
theorem XJ {en:List En} (h:en≠[]) (j:Nat):enV en j= .ms j en.length 3 tkE:=by
 cases en with
 |nil=>exact absurd rfl h
 |cons x l=>rfl
theorem T4 (l:List En) (j:Nat):(enV l j).B8=true/\(enV l j).BE=true/\(enV l j).cells=[enV l j]/\(∀k,(enV l j).BV k=false)/\Tx (enV l j)=some (.d (.int .i64 l.length)):=by
 cases l<;>exact ⟨rfl,rfl,rfl,fun _=>rfl,rfl⟩
def Sch.row (x:Sch):List AV:=[.d (.int .i64 x.vars),.d (.sl (x.params.map Ty.enc)),.d (.int .i64 x.res.kind),.d (.int .i64 x.res.num),.d (.sl (x.res.args.map Ty.enc))]
theorem Sch.Ft (x:Sch):x.row.length=5:=rfl
abbrev VW:=rwC Sch.row
def psC (l:List (List Nat)):List AV:=l.map fun a=>.d (.sl (a.map By))
abbrev eMm:Nat:=4
abbrev ePp:Nat:=74
abbrev eEe:Nat:=146
abbrev eSs:Nat:=48
structure GB where
 i:Nat
 je:Nat
 jm:Nat
 jp:Nat
 jr:Nat
 js:Nat
 ext:Nat->Option (List AV)
 G:GC
 ds:List DE
 cur:Nat
 es:List AV
def GB.rest (B:GB):List AV:=[.d (.sl (B.ds.map DE.enc)),.d (.sl (B.G.fs.map FE.enc)),dsA B.G.dt,.ms B.js B.G.sch.length 5 eSs,.ms B.jm B.G.mem.length 1 eMm,.ms B.jp B.G.ps.length 1 ePp,.ms B.jr B.G.rs.length 1 3,.ms B.je B.es.length 1 eEe,.d (.int .i64 (B.cur:Int))]
structure H7 (B:GB):Prop where
 ie:B.i≠B.je
 xi:B.ext B.i=none
 xe:B.ext B.je=none
 m:B.ext B.jm=some (BX B.G.mem)
 p:B.ext B.jp=some (psC B.G.ps)
 r:B.ext B.jr=some (DF B.G.rs)
 s:B.ext B.js=some (VW B.G.sch)
 cur:B.cur < B.es.length
 lm:B.G.mem.length=B.G.fs.length
 lp:B.G.ps.length=B.G.fs.length
 lr:B.G.rs.length=B.G.fs.length
 ls:B.G.sch.length=B.G.fs.length
 lf:B.G.fs.length<=100
structure GI (G:GC) (g:GS):Prop where
 pos:0 < g.nx
 en:∀x∈g.en,x.t < g.nx/\-1<=x.f/\x.f < (G.fs.length:Int)/\∀a∈x.ar,a < g.nx
 ps:∀l∈G.ps,∀a∈l,a < g.nx
 rs:∀a∈G.rs,a < g.nx
structure GX (B:GB) (σ:AI) (g:GS) (j jc:Nat):Prop where
 sn:SN σ B.i g.s.1 g.s.2 B.rest j
 e:σ.blk B.je=some (B.es.set B.cur (enV g.en jc))
 c:g.en≠[]->σ.blk jc=some (enC g.en)/\jc≠B.i/\jc≠B.je/\B.ext jc=none/\jc≠j
 x:∀k cs,B.ext k=some cs->σ.blk k=some cs
 jj:B.ext j=none/\j≠B.je
 gi:GI B.G g
theorem GX.ne {B:GB} {σ:AI} {g:GS} {j jc:Nat} (h:GX B σ g j jc):g.s.1≠[]:=fun e=>by have:=h.gi.pos;rw [GS.nx,e] at this;cases this
theorem GI.step {G:GC} {g:GS} (h:GI G g) {s:SS} (hl:g.nx<=s.1.length):GI G { g with s:=s}:=
 ⟨CV h.pos hl,fun x hx=>by obtain ⟨a,b,c,d⟩:=h.en x hx;exact ⟨CV a hl,b,c,fun y hy=>CV (d y hy) hl⟩,fun l hm a ha=>CV (h.ps l hm a ha) hl,fun a ha=>CV (h.rs a ha) hl⟩
theorem GX.step {B:GB} (hB:H7 B) {σ σ':AI} {g:GS} {j jc j':Nat} {s:SS} (h:GX B σ g j jc) (sn:SN σ' B.i s.1 s.2 B.rest j') (fr:Fr σ B.i g.s.1 j σ' s.1 j') (hl:g.nx<=s.1.length):GX B σ' { g with s:=s} j' jc:=by
 have hne:=h.ne;have hji:=(h.sn.nd hne).1;have hs0:s.1≠[]:=fun e=>by have:=h.gi.pos;rw [e] at hl;simp at hl;omega
 have hkeep:∀k cs,k≠B.i->k≠j->σ.blk k=some cs->σ'.blk k=some cs/\k≠j':=fun k cs h1 h2 h3=>by
  refine ⟨by rw [fr.blk k h1 (fun _=>h2) (by rw [h3];simp),h3],fun e=>?_⟩;rcases fr.nw hs0 with ⟨_,e'⟩|e'
  . exact h2 (e.trans e')
  . rw [<- e,h3] at e';cases e'
 have hxx:∀k cs,B.ext k=some cs->σ'.blk k=some cs/\k≠j':=fun k cs hk=>
  hkeep k cs (fun e=>by rw [e,hB.xi] at hk;cases hk) (fun e=>by rw [e,h.jj.1] at hk;cases hk) (h.x k cs hk)
 have hee:=hkeep B.je _ (A9 hB.ie) (A9 h.jj.2) h.e;refine ⟨sn,hee.1,fun hen=>?_,fun k cs hk=>(hxx k cs hk).1,⟨?_,A9 hee.2⟩,h.gi.step hl⟩
 . obtain ⟨c1,c2,c3,c4,c5⟩:=h.c hen;obtain ⟨d1,d2⟩:=hkeep jc _ c2 c5 c1;exact ⟨d1,c2,c3,c4,d2⟩
 . cases hx:B.ext j' with
   |none=>rfl
   |some cs=>exact absurd rfl (hxx j' cs hx).2
end Go.Ab
namespace Go.Ab
open Go.Proofs
theorem AUQ {α:Type} {l:List α} {n:Nat} (h:n < l.length) (a b:α):(l.set n a).take n++[b]++(l.set n a).drop (n+1)=l.set n b:=by
 induction l generalizing n with
 |nil=>cases h
 |cons x l ih=>
  cases n with
  |zero=>simp
  |succ n=>
   have:=ih (n:=n) (by simpa using h);simp only [CU,Cj,FX,AZ];rw [this]
theorem Pm.en {K:C6} {F:Fm} {L:Lm} {σ:AI} {d:Option Nat} {B:GB} (hB:H7 B) {g:GS} {j jc bytes:Nat} {x:AV} {t:Nat} {f:Int} {ar:List Nat} (h:GX B σ g j jc)
 (hx:x.rows=some [[.int .i64 (t:Int),.int .i64 f,.sl (ar.map By)]]) (hl:g.en.length<=900000000) (hb:bytes<=10000) (hn:t < g.nx/\-1<=f/\f < (B.G.fs.length:Int)/\∀a∈ar,a < g.nx)
 (hK:∀jc' τ,τ.blk B.i=σ.blk B.i->τ.blk B.je=σ.blk B.je->GX B (τ.AP B.je (B.es.set B.cur (.ms jc' (g.en.length+1) 3 tkE))) { g with en:=g.en++[⟨t,f,ar⟩]} j jc'->(nbH σ).le τ->
   K (BS d (.ms jc' (g.en.length+1) 3 tkE) F) L τ):Pm tkE 3 bytes (enV g.en jc) x d K F L σ:=by
 have hji:=(h.sn.nd h.ne).1;obtain ⟨c0,hc0,hbj⟩:=(h.sn.nd h.ne).2
 have hgi:GI B.G { g with en:=g.en++[⟨t,f,ar⟩]}:=⟨h.gi.pos,fun y hy=>by
  rcases A0.1 hy with hy|hy
  . exact h.gi.en y hy
  . simp only [A6] at hy;subst hy;exact hn,h.gi.ps,h.gi.rs⟩
 have hV:∀j',enV (g.en++[⟨t,f,ar⟩]) j'= .ms j' (g.en.length+1) 3 tkE:=fun j'=>by rw [XJ (by simp)];simp
 -- the old block j0 goes, jc' comes
 have key:∀(jc':Nat) (τ:AI),σ.blk jc'=none->(∀k,k≠jc'->(g.en≠[]->k≠jc)->τ.blk k=σ.blk k)->τ.blk jc'=some (enC (g.en++[⟨t,f,ar⟩]))->(nbH σ).le τ->K (BS d (.ms jc' (g.en.length+1) 3 tkE) F) L τ:=fun jc' τ hj hk hc hle=>by
  have hi:B.i≠jc':=fun e=>by rw [<- e,h.sn.blk] at hj;cases hj
  have hje:B.je≠jc':=fun e=>by rw [<- e,h.e] at hj;cases hj
  have hjj:j≠jc':=fun e=>by rw [<- e,hbj] at hj;cases hj
  have hxn:B.ext jc'=none:=by
   cases hx:B.ext jc' with
   |none=>rfl
   |some cs=>rw [h.x _ _ hx] at hj;cases hj
  have e1:τ.blk B.i=σ.blk B.i:=hk _ hi (fun hen=>A9 (h.c hen).2.1);have e2:τ.blk B.je=σ.blk B.je:=hk _ hje (fun hen=>A9 (h.c hen).2.2.1);have e3:τ.blk j=σ.blk j:=hk _ hjj (fun hen=>A9 (h.c hen).2.2.2.2);refine hK jc' τ e1 e2 ⟨⟨?_,h.sn.HM,fun _=>⟨hji,c0,hc0,?_⟩⟩,?_,fun _=>⟨?_,A9 hi,A9 hje,hxn,A9 hjj⟩,fun k cs hx=>?_,h.jj,hgi⟩ hle
  . rw [AK,if_neg hB.ie,e1,h.sn.blk]
  . rw [AK,if_neg h.jj.2,e3,hbj]
  . rw [AK,if_pos rfl,hV]
  . rw [AK,if_neg (A9 hje),hc]
  . have h1:k≠B.je:=fun e=>by rw [e,hB.xe] at hx;cases hx
    have h2:k≠jc':=fun e=>by rw [e,hxn] at hx;cases hx
    rw [AK,if_neg h1,hk k h2 (fun hen e=>by rw [e,(h.c hen).2.2.2.1] at hx;cases hx),h.x k cs hx]
 have hnr:Es [[.int .i64 (t:Int),.int .i64 f,.sl (ar.map By)]]=enC [⟨t,f,ar⟩]:=by simp [Es,rwC,En.row]
 by_cases he:g.en=[]
 . rw [he];refine Pm.mk (n:=0) (cs:=[]) (σ1:=σ) rfl hx (by simp) (by simp) (by simp) hb (fun j' hj=>?_)
   have:=key j' (σ.AP j' ([]++Es [[.int .i64 (t:Int),.int .i64 f,.sl (ar.map By)]])) hj (fun k h1 _=>by rw [AK,if_neg h1]) (by rw [AK,if_pos rfl,he,hnr];rfl)
    ⟨fun _ _ h=>(by cases h),fun _ h=>h,rfl,fun _ _ h=>h⟩
   rw [he] at this;exact this
 . obtain ⟨c1,c2,c3,c4,c5⟩:=h.c he;rw [XJ he];refine Pm.mk (n:=g.en.length) (cs:=enC g.en) (σ1:=σ.E1 jc) (by simp [Oc,c1,P3 En.row 3 En.Ft]) hx (by simp) (by simp) (by simp;omega) hb (fun j' hj=>?_);refine key j' ((σ.E1 jc).AP j' (enC g.en++Es [[.int .i64 (t:Int),.int .i64 f,.sl (ar.map By)]])) hj (fun k h1 h2=>by rw [AK,if_neg h1,Dp,if_neg (h2 he)]) (by rw [AK,if_pos rfl,hnr,<- ARV]) ⟨fun _ _ h=>(by cases h),fun _ h=>h,rfl,fun _ _ h=>h⟩
theorem GX.mod {B:GB} (hB:H7 B) {σ:AI} {g:GS} {j jc at_:Nat} (h:GX B σ g j jc) (f:En->En) {x:En} (hx:g.en[at_]?=some x) (hf:(f x).t < g.nx/\-1<=(f x).f/\(f x).f < (B.G.fs.length:Int)/\∀a∈(f x).ar,a < g.nx):
 GX B (σ.AP jc (enC (g.en.modify at_ f))) (g.Sx at_ f) j jc:=by
 show GX B _ { g with en:=g.en.modify at_ f} j jc;have hen:g.en≠[]:=fun e=>by rw [e] at hx;simp at hx
 obtain ⟨c1,c2,c3,c4,c5⟩:=h.c hen;have hji:=(h.sn.nd h.ne).1;obtain ⟨c0,hc0,hbj⟩:=(h.sn.nd h.ne).2;have hlen:(g.en.modify at_ f).length=g.en.length:=by simp
 have hen':g.en.modify at_ f≠[]:=fun e=>hen (BP (by rw [<- hlen,e];rfl))
 refine ⟨⟨?_,h.sn.HM,fun _=>⟨hji,c0,hc0,?_⟩⟩,?_,fun _=>⟨?_,c2,c3,c4,c5⟩,fun k cs hk=>?_,h.jj,⟨h.gi.pos,fun y hy=>?_,h.gi.ps,h.gi.rs⟩⟩
 . rw [AK,if_neg (A9 c2),h.sn.blk]
 . rw [AK,if_neg (A9 c5),hbj]
 . rw [AK,if_neg (A9 c3),h.e,XJ hen,XJ hen',hlen]
 . rw [AK,if_pos rfl]
 . rw [AK,if_neg (fun e=>by rw [e,c4] at hk;cases hk),h.x k cs hk]
 . obtain ⟨m,hm,rfl⟩:=Bt hy;rw [List.getElem_modify];split
   . rename_i e;subst e
     have hxm:x=g.en[at_]:=by
      have:=(AG.1 hx).2;exact this.symm
     rw [<- hxm];exact hf
   . exact h.gi.en _ (H8 _)
structure ES (sc:List Str) (env:Env) (g:GS):Prop where
 sc:∀s,s≠[]->((Lr env s).isSome=sc.contains s)
 lt:∀x∈env,x.2 < g.nx
theorem ES.le {sc:List Str} {env:Env} {g g':GS} (h:ES sc env g) (hl:g.nx<=g'.nx):ES sc env g':=⟨h.sc,fun x hx=>CV (h.lt x hx) hl⟩
def OkE (G:GC) (e:Ex) (sc:List Str):Prop:=∀x∈Bj e sc,EY G.fs G.dt x.1 x.2=0/\nb1 x.1
structure GD (G:GC):Prop where
 dt:∀d∈G.dt,0<=d.vars/\d.vars<=1000/\d.cons.length<=1000000/\∀c∈d.cons,MJ d.vars.toNat c.args=true/\Ty.AU c.args<=100000
 sch:∀s∈G.sch,0<=s.vars/\s.vars<=100000/\MJ s.vars.toNat s.params=true/\VY s.vars.toNat s.res=true/\Ty.AU s.params<=100000/\s.res.size<=100000
 nn:∀l∈G.ps,l.length<=1000
structure RQ (B:GB) (σ:AI) (g:GS) (n c m:Nat) (g':GS) (σ':AI):Prop where
 nb:(nbH σ).le σ'
 gx:∃j jc,GX B σ' g' j jc
 lt:n < g'.nx
 le:g.nx<=g'.nx
 hi:g'.nx+500000<=g.nx+c
 en:g'.en.length=g.en.length+m
def ExC (B:GB) (e:Ex):Prop:=∀(sc:List Str) (env:Env) (g:GS) (σ:AI) (j jc:Nat),OkE B.G e sc->ES sc env g->g.nx+1000000 * e.size<=900000000->g.en.length+e.size<=900000000->GX B σ g j jc->
 AT Tzp 56 [.gp B.i 0,exA e,.d (J9 env)] σ (fun v σ'=>v=nA (Bg B.G e env g).1/\RQ B σ g (Bg B.G e env g).1 (1000000 * e.size) e.size (Bg B.G e env g).2 σ')
end Go.Ab
namespace Go.Ab
open Go.Proofs
theorem fL {fid:FuncId} {caps:List AV} (hb:Ca Tzp fid=true) (hcp:caps.all AV.BE=true) (p:Nat->Bool) (J:AI->Prop) (l:List Nat) (hf:∀x∈l,∀τ,J τ->AT Tzp fid (nA x::caps) τ (fun v σ'=>v= .d (.bool (p x))/\J σ')) (σ:AI) (hJ:J σ):
 AT Tzp 100 [.d (.sl (l.map By)),.fn fid [] caps] σ (fun v σ'=>v= .d (.int .i64 (Fi (l.findIdx? p)))/\J σ'):=by
 refine Up (by simp) ?_;rw [BK];refine Run.slot 0 (fun hb0=>?_);simp only [CR,if_true,AV.DW,AA] at hb0;(repeat' (refine wQ mxQ rfl ?_<;>try simp only [AA,go_sem]));refine Run.At ?_;refine Run.Au ((fun (a0:AV) (a1:AV) (a7:AV)=>fun (z:Nat×AI)=>put 0 a0 (put 1 a1 (put 7 a7 (put 8 (.d (.int .i64 z.1)) U)))) _ _ _) (fun _=>E) (fun z=>z.2) (fun z=>z.1<=l.length/\(∀x∈l.take z.1,p x=false)/\J z.2) (fun z=>l.length - z.1) ?_ (0,σ) ⟨by simp,by simp,hJ⟩;rintro ⟨i,τ⟩ ⟨hi,hno,hj⟩ ih;simp only at hi hno hj;by_cases hlt:i < l.length
 . obtain ⟨x,hx⟩:=Ai hlt;have he:=Hf hx;have hw1:IntKind.i64.wrap ((i:Int)+1)=((i+1:Nat):Int):=by rw [Ax (by omega) (by omega)];omega
   have hc:=hf x (AE hx) τ hj;simp only [nA] at hc;cases hp:p x with
   |true=>
    rw [hp] at hc;(repeat' ((first|refine wQ mxQ rfl ?_|refine Run.qP FZ ?_|fail)<;>try simp only [Ag hlt,he,hw1,go_sem]));refine ⟨fid,[],caps,rfl,hb,AH.mk (by simp [hcp,FI]) hc ?_⟩;rintro _ τ2 ⟨rfl,hj2⟩;simp only [go_sem];(repeat' ((first|refine wQ mxQ rfl ?_|refine Run.qP FZ ?_|fail)<;>try simp only [go_sem]));exact ⟨by rw [D3 hno hx hp];rfl,hj2⟩
   |false=>
    rw [hp] at hc;(repeat' (refine wQ mxQ rfl ?_<;>try simp only [Ag hlt,he,hw1,go_sem]));refine ⟨fid,[],caps,rfl,hb,AH.mk (by simp [hcp,FI]) hc ?_⟩;rintro _ τ2 ⟨rfl,hj2⟩;simp only [go_sem];(repeat' (refine wQ mxQ rfl ?_<;>try simp only [hw1,go_sem]));exact ih ⟨i+1,τ2⟩ ⟨hlt,F2 hno hx hp,hj2⟩ (by simp only;omega)
 . have hie:i=l.length:=by omega
   subst hie;rw [BR] at hno;(repeat' ((first|refine wQ mxQ rfl ?_|refine Run.qP FZ ?_|fail)<;>try simp only [B5 hlt,go_sem]));exact ⟨by rw [D4 hno];rfl,hj⟩
theorem Oa {fid:FuncId} {caps:List AV} (hb:Ca Tzp fid=true) (hcp:caps.all AV.BE=true) (p:Nat->Bool) (J:AI->Prop) (l:List Nat) (hf:∀x∈l,∀τ,J τ->AT Tzp fid (nA x::caps) τ (fun v σ'=>v= .d (.bool (p x))/\J σ')) (σ:AI) (hJ:J σ):
 AT Tzp 63 [.d (.sl (l.map By)),.fn fid [] caps] σ (fun v σ'=>v= .d (.bool (l.any p))/\J σ'):=by
 refine Qv (by simp) ?_;rw [BK];(repeat' (refine wQ mxQ rfl ?_<;>try simp only [go_sem]));refine AH.mk rfl (fL hb hcp p J l hf σ hJ) ?_;rintro _ τ ⟨rfl,hj⟩;simp only [go_sem];(repeat' ((first|refine wQ mxQ rfl ?_|refine Run.qP JX ?_|fail)<;>try simp only [go_sem]));exact ⟨by rw [Rf,I9],hj⟩
def JZ (ext:Nat->Option (List AV)) (σ0:AI) (i:Nat) (rest:List AV) (l:List Nd) (fl:Bool) (js:Nat) (τ:AI):Prop:=(nbH σ0).le τ/\∃kn j',KN l kn/\SX ext τ i l fl rest j' js (DF kn)
structure JE (ext:Nat->Option (List AV)) (i:Nat) (l:List Nd) (d:Nat->Nat) (js j1 j3 j4:Nat):Prop where
 ln:l.length<=900000000
 fr:FR l d
 x1:ext j1=some [.gp i 0]
 x3:ext j3=some [.ms js l.length 1 3]
 x4:ext j4=some [szC j1 j3 j4]
variable {ext:Nat->Option (List AV)} {σ0:AI} {i:Nat} {rest:List AV} {l:List Nd} {d:Nat->Nat} {fl:Bool} {js j1 j3 j4:Nat}
theorem AKJ (he:JE ext i l d js j1 j3 j4) (n:Nat) (hn:n < l.length) (τ:AI) (hj:JZ ext σ0 i rest l fl js τ):
 AT Tzp 61 [nA n,.gp j1 0,.gp j3 0,.gp j4 0] τ (fun v σ'=>v=nA (szN l n)/\JZ ext σ0 i rest l fl js σ'):=by
 obtain ⟨hnb,kn,j',hk,hs⟩:=hj;refine (AFQ ext i rest l d he.fr fl j1 j3 j4 js he.ln he.x1 he.x3 he.x4 (d (rtN l n)+1) kn j' τ n (by omega) hk hn hs).mono ?_;rintro v σ' ⟨h1,h2,kn',j2,h3,h4⟩;exact ⟨h1,D8 hnb h2,kn',j2,h3,h4⟩
def lJ (l:List Nd) (n:Nat):Bool:=decide (200 < (szN l n:Int))
theorem PQ (he:JE ext i l d js j1 j3 j4) {j5:Nat} (x5:ext j5=some [szC j1 j3 j4]) (n:Nat) (hn:n < l.length) (τ:AI) (hj:JZ ext σ0 i rest l fl js τ):
 AT Tzp 62 [nA n,.gp j5 0] τ (fun v σ'=>v= .d (.bool (lJ l n))/\JZ ext σ0 i rest l fl js σ'):=by
 have hc:=AKJ he n hn τ hj;have h5:τ.blk j5=some [szC j1 j3 j4]:=by obtain ⟨_,_,_,_,hs⟩:=hj;exact hs.x _ _ x5
 refine S6 (by simp) ?_;rw [BK];simp only [nA] at hc ⊢;(repeat' (refine wQ mxQ rfl ?_<;>try simp only [h5,go_sem]));refine ⟨61,[],[.gp j1 0,.gp j3 0,.gp j4 0],rfl,by kernel_rfl,AH.mk rfl hc ?_⟩;rintro _ τ2 ⟨rfl,hj2⟩;simp only [go_sem];(repeat' ((first|refine wQ mxQ rfl ?_|refine Run.qP Ju ?_|fail)<;>try simp only [go_sem]));exact ⟨rfl,hj2⟩
def AMY (l:List Nd) (e:En):Bool:=lJ l e.t||e.ar.any (lJ l)
def enA (e:En):AV:= .agg e.row
theorem wN (he:JE ext i l d js j1 j3 j4) {j5 j7:Nat} (x5:ext j5=some [szC j1 j3 j4]) (x7:ext j7=some [.fn 62 [] [.gp j5 0]]) (e:En) (ht:e.t < l.length) (ha:∀a∈e.ar,a < l.length) (τ:AI) (hj:JZ ext σ0 i rest l fl js τ):
 AT Tzp 65 [enA e,.gp j7 0] τ (fun v σ'=>v= .d (.bool (AMY l e))/\JZ ext σ0 i rest l fl js σ'):=by
 have h7:∀τ,JZ ext σ0 i rest l fl js τ->τ.blk j7=some [.fn 62 [] [.gp j5 0]]:=fun τ hj=>by obtain ⟨_,_,_,_,hs⟩:=hj;exact hs.x _ _ x7
 have h70:=h7 τ hj;have hc:=PQ he x5 e.t ht τ hj;refine S7 (by simp) ?_;rw [BK];obtain ⟨t,f,ar⟩:=e;simp only [enA,En.row,nA] at ht ha hc ⊢;simp only [AMY];cases hl:lJ l t with
 |true=>
  rw [hl] at hc;(repeat' (refine wQ mxQ rfl ?_<;>try simp only [h70,go_sem]));refine ⟨62,[],[.gp j5 0],rfl,by kernel_rfl,AH.mk rfl hc ?_⟩;rintro _ τ2 ⟨rfl,hj2⟩;simp only [go_sem];(repeat' ((first|refine wQ mxQ rfl ?_|refine Run.qP Gn ?_|fail)<;>try simp only [go_sem]));exact hj2
 |false=>
  rw [hl] at hc;(repeat' (refine wQ mxQ rfl ?_<;>try simp only [h70,go_sem]));refine ⟨62,[],[.gp j5 0],rfl,by kernel_rfl,AH.mk rfl hc ?_⟩;rintro _ τ2 ⟨rfl,hj2⟩;have h72:=h7 τ2 hj2;simp only [h72,go_sem];refine AH.mk rfl (Oa (fid:=62) (caps:=[.gp j5 0]) (by kernel_rfl) rfl (lJ l) (JZ ext σ0 i rest l fl js) ar (fun x hx τ hj=>PQ he x5 x (ha x hx) τ hj) τ2 hj2) ?_;rintro _ τ3 ⟨rfl,hj3⟩;simp only [go_sem];(repeat' ((first|refine wQ mxQ rfl ?_|refine Run.qP Gn ?_|fail)<;>try simp only [go_sem]));exact hj3
theorem kH {fid:FuncId} {caps:List AV} (hb:Ca Tzp fid=true) (hcp:caps.all AV.BE=true) (p:En->Bool) (J:AI->Prop) (en:List En) (jc:Nat) (hjc:en≠[]->∀τ,J τ->τ.blk jc=some (enC en)) (hl:en.length<=900000000) (hf:∀x∈en,∀τ,J τ->AT Tzp fid (enA x::caps) τ (fun v σ'=>v= .d (.bool (p x))/\J σ')) (σ:AI) (hJ:J σ):
 AT Tzp 101 [enV en jc,.fn fid [] caps] σ (fun v σ'=>v= .d (.int .i64 (Fi (en.findIdx? p)))/\J σ'):=by
 refine M0 (by simp) ?_;rw [BK];obtain ⟨w1,w2,w3,w4,w5⟩:=T4 en jc;(repeat' (refine wQ mxQ rfl ?_<;>try simp only [w1,w2,w3,w4,w5,go_sem]));refine Run.At ?_;refine Run.Au ((fun (a0:AV) (a1:AV) (a7:AV)=>fun (z:Nat×AI)=>put 0 a0 (put 1 a1 (put 7 a7 (put 8 (.d (.int .i64 z.1)) U)))) _ _ _) (fun _=>E) (fun z=>z.2) (fun z=>z.1<=en.length/\(∀x∈en.take z.1,p x=false)/\J z.2) (fun z=>en.length - z.1) ?_ (0,σ) ⟨by simp,by simp,hJ⟩;rintro ⟨i,τ⟩ ⟨hi,hno,hj⟩ ih;simp only at hi hno hj;by_cases hlt:i < en.length
 . obtain ⟨x,hx⟩:=Ai hlt;have hen:en≠[]:=fun e=>by rw [e] at hlt;cases hlt
   rw [XJ hen] at ih ⊢;have hbj:=hjc hen τ hj;have hst:=xZ En.row 3 En.Ft hx;have hsl:(i * 3+3<=(enC en).length)=True:=by rw [P3 En.row 3 En.Ft];simp;omega
   have hiT:=ltT hlt;have hw1:=A4 (show i+1<=9000000000000000000 by omega);have hc:=hf x (AE hx) τ hj;obtain ⟨t,f,ar⟩:=x;simp only [enA,En.row] at hc hst;cases hp:p ⟨t,f,ar⟩ with
   |true=>
    rw [hp] at hc;(repeat' ((first|refine wQ mxQ rfl ?_|refine Run.qP Cr ?_|fail)<;>try simp only [Ag hlt,hbj,hst,hsl,hiT,go_sem]));refine ⟨fid,[],caps,rfl,hb,AH.mk (by simp [hcp,D9]) hc ?_⟩;rintro _ τ2 ⟨rfl,hj2⟩;simp only [go_sem];(repeat' ((first|refine wQ mxQ rfl ?_|refine Run.qP Cr ?_|fail)<;>try simp only [go_sem]));exact ⟨by rw [D3 hno hx hp];rfl,hj2⟩
   |false=>
    rw [hp] at hc;(repeat' (refine wQ mxQ rfl ?_<;>try simp only [Ag hlt,hbj,hst,hsl,hiT,go_sem]));refine ⟨fid,[],caps,rfl,hb,AH.mk (by simp [hcp,D9]) hc ?_⟩;rintro _ τ2 ⟨rfl,hj2⟩;simp only [go_sem];(repeat' (refine wQ mxQ rfl ?_<;>try simp only [hw1,go_sem]));exact ih ⟨i+1,τ2⟩ ⟨hlt,F2 hno hx hp,hj2⟩ (by simp only;omega)
 . have hie:i=en.length:=by omega
   subst hie;rw [BR] at hno;(repeat' ((first|refine wQ mxQ rfl ?_|refine Run.qP Cr ?_|fail)<;>try simp only [B5 hlt,w1,w2,w3,w4,go_sem]));exact ⟨by rw [D4 hno];rfl,hj⟩
theorem aA {fid:FuncId} {caps:List AV} (hb:Ca Tzp fid=true) (hcp:caps.all AV.BE=true) (p:En->Bool) (J:AI->Prop) (en:List En) (jc:Nat) (hjc:en≠[]->∀τ,J τ->τ.blk jc=some (enC en)) (hl:en.length<=900000000) (hf:∀x∈en,∀τ,J τ->AT Tzp fid (enA x::caps) τ (fun v σ'=>v= .d (.bool (p x))/\J σ')) (σ:AI) (hJ:J σ):
 AT Tzp 64 [enV en jc,.fn fid [] caps] σ (fun v σ'=>v= .d (.bool (en.any p))/\J σ'):=by
 obtain ⟨w1,w2,w3,w4,w5⟩:=T4 en jc;refine Kd (by simp) ?_;rw [BK];(repeat' (refine wQ mxQ rfl ?_<;>try simp only [w1,w2,w3,w4,w5,go_sem]));refine AH.mk (by simp [w2,mD]) (kH hb hcp p J en jc hjc hl hf σ hJ) ?_;rintro _ τ ⟨rfl,hj⟩;simp only [go_sem];(repeat' ((first|refine wQ mxQ rfl ?_|refine Run.qP Ff ?_|fail)<;>try simp only [go_sem]));exact ⟨by rw [Rf,I9],hj⟩
end Go.Ab
namespace Go.Ab
open Go.Proofs
theorem GX.nbo {B:GB} {σ σ':AI} {g:GS} {j jc:Nat} (h:GX B σ g j jc) (hb:∀k,σ'.blk k=σ.blk k):GX B σ' g j jc:=
 ⟨h.sn.own hb,by rw [hb];exact h.e,fun he=>by rw [hb];exact h.c he,fun k cs hk=>by rw [hb];exact h.x k cs hk,h.jj,h.gi⟩
theorem BD {σ τ υ:AI} (h:(nbH σ).le τ) (k:(nbH τ).le υ):(nbH σ).le υ:=
 ⟨fun _ _ h=>(by cases h),fun t ht=>k.tok t (h.tok t ht),h.gt.trans k.gt,fun i x hx=>k.bt i x (h.bt i x hx)⟩
theorem Bz.nb {σ0 τ τ':AI} {e s:Nat} {rows:List (List DV)} {v:AV} (ho:Bz (nbH σ0) e s rows v τ) (h:(nbH τ).le τ'):Bz (nbH σ0) e s rows v τ':=
 ho.JK (BD ho.le h) (fun t _ ht=>h.tok t ht)
theorem aW (G:GC):∀(ks:List Ex) (env:Env) (g:GS),(CO G ks env g).1.length=ks.length
 |[],_,_=>rfl
 |k::ks,env,g=>by simp only [CO,A1,aW G ks]
theorem jN (G:GC) (k:Ex) (env:Env):∀(ks:List Ex) (g:GS),CO G (ks++[k]) env g=((CO G ks env g).1++[(Bg G k env (CO G ks env g).2).1],(Bg G k env (CO G ks env g).2).2)
 |[],g=>rfl
 |u::ks,g=>by
  rw [AZ,CO];simp only [jN G k env ks];simp only [CO,AZ]
theorem Ex.LB (a b:List Ex):Ex.AU (a++b)=Ex.AU a+Ex.AU b:=by
 induction a with
 |nil=>simp [Ex.AU]
 |cons x a ih=>simp only [AZ,Ex.AU,ih];omega
theorem Ex.Iz {ks:List Ex} {p:Nat} {k:Ex} (h:ks[p]?=some k):Ex.AU (ks.take (p+1))=Ex.AU (ks.take p)+k.size/\Ex.AU (ks.take p)+k.size<=Ex.AU ks:=by
 have h1:Ex.AU (ks.take (p+1))=Ex.AU (ks.take p)+k.size:=by rw [Aa h,Ex.LB];simp [Ex.AU]
 refine ⟨h1,?_⟩;rw [<- h1]
 conv=>rhs;rw [<- Ad (p+1) ks,Ex.LB]
 omega
structure RSn (B:GB) (σ:AI) (g:GS) (l:List Nat) (ks:List Ex) (g':GS) (σ':AI):Prop where
 nb:(nbH σ).le σ'
 gx:∃j jc,GX B σ' g' j jc
 lt:∀a∈l,a < g'.nx
 le:g.nx<=g'.nx
 hi:g'.nx+500000 * ks.length<=g.nx+1000000 * Ex.AU ks
 en:g'.en.length=g.en.length+Ex.AU ks
theorem AAD (B:GB) (ks:List Ex) (hk:∀k∈ks,ExC B k) (sc:List Str) (env:Env) (g:GS) (σ:AI) (j jc:Nat) (hok:∀k∈ks,OkE B.G k sc) (hes:ES sc env g) (hnx:g.nx+1000000 * Ex.AU ks<=900000000) (hen:g.en.length+Ex.AU ks<=900000000) (hg:GX B σ g j jc):
 AT Tzp 94 [.gp B.i 0,.d (.sl (ks.map Ex.enc)),.d (J9 env)] σ (fun v σ'=>Bz (nbH σ) 3 1 ((CO B.G ks env g).1.map By) v σ'/\RSn B σ g (CO B.G ks env g).1 ks (CO B.G ks env g).2 σ'):=by
 have hkl:=Ex.Bl ks;refine Xa (by simp) ?_;rw [Dm];(repeat' (refine wQ mxQ rfl ?_<;>try simp only [AA,go_sem]));refine Run.At ?_
 refine Run.Au ((fun (a0:AV) (a2:AV) (a10:AV) (a11:AV)=>fun (z:Nat×AV×AI)=>put 0 a0 (put 2 a2 (put 7 (z.2.1) (put 10 a10 (put 11 a11 (put 12 (.d (.int .i64 z.1)) U)))))) _ _ _ _) (fun _=>E) (fun z=>z.2.2)
  (fun z=>z.1<=ks.length/\Bz (nbH σ) 3 1 ((CO B.G (ks.take z.1) env g).1.map By) z.2.1 z.2.2/\RSn B σ g (CO B.G (ks.take z.1) env g).1 (ks.take z.1) (CO B.G (ks.take z.1) env g).2 z.2.2)
  (fun z=>ks.length - z.1) ?_ (0,.Ae,σ) ⟨by simp,by simpa [CO] using AJ0 3 1,by simp only [Cn,CO];exact ⟨IZ σ,⟨j,jc,hg⟩,by simp,AW _,by simp [Ex.AU],by simp [Ex.AU]⟩⟩
 rintro ⟨p,v,τ⟩ ⟨hp,ho,hr⟩ ih;simp only at hp ho hr;by_cases hlt:p < ks.length
 . obtain ⟨k,hke⟩:=Ai hlt;have he:=Av (enc:=Ex.enc) hke;have hw1:=A4 (show p+1<=9000000000000000000 by omega);obtain ⟨hz1,hz2⟩:=Ex.Iz hke;have hsn:=jN B.G k env (ks.take p) g;rw [<- Aa hke] at hsn;have hql:(CO B.G (ks.take p) env g).1.length=p:=by rw [aW];simp;omega
   generalize CO B.G (ks.take p) env g=q at *;obtain ⟨j1,jc1,hg1⟩:=hr.gx;have hhi:=hr.hi;have hle:=hr.le;have hen1:=hr.en;have htl:(ks.take p).length=p:=by simp;omega
   rw [htl] at hhi;have hmem:=AE hke;have hc:=hk k hmem sc env q.2 τ j1 jc1 (hok k hmem) (hes.le hle) (by omega) (by omega) hg1;generalize Bg B.G k env q.2=r at *;obtain ⟨o,n,u,ns,kk,al⟩:=k;simp only [Ex.A2,exA,AD,AJ] at he hc;(repeat' (first|refine ctQ rfl ?_|((first|refine rgQ mxQ ?_|refine cdQ ?_|(refine A7 rfl (fun h=>?_) (fun h=>?_)<;>try (cases h;done)))<;>try simp only [Ag hlt,he,ho.w4,go_sem])|(refine ⟨fun h=>?_,fun h=>?_⟩<;>first|(cases h;done)|try simp only [h])|fail));refine AH.mk rfl hc ?_;rintro _ τ1 ⟨rfl,hq⟩;simp only [nA];simp only [go_sem];refine DD.own (ho.nb hq.nb) rfl (by simp) (by simp [hql];omega) (by omega) (fun v' τ2 ho' hb'=>?_);(repeat' (first|refine ctQ rfl ?_|((first|refine rgQ mxQ ?_|refine cdQ ?_|(refine A7 rfl (fun h=>?_) (fun h=>?_)<;>try (cases h;done)))<;>try simp only [hw1,ho'.BE,ho'.BV,ho'.cells,ho'.cell,go_sem])|(refine ⟨fun h=>?_,fun h=>?_⟩<;>first|(cases h;done)|try simp only [h])|fail));obtain ⟨j2,jc2,hg2⟩:=hq.gx;have hql':=hq.le;have hqh:=hq.hi;have hqe:=hq.en;refine ih ⟨p+1,v',τ2⟩ ⟨hlt,?_,?_⟩ (by simp only;omega)
   . simp only [hsn];rw [Ay];exact ho'
   . simp only [hsn];refine ⟨ho'.le,⟨j2,jc2,hg2.nbo hb'⟩,fun a ha=>?_,Ap hle hql',?_,?_⟩
     . rcases A0.1 ha with ha|ha
       . exact CV (hr.lt a ha) hql'
       . simp only [A6] at ha;subst ha;exact hq.lt
     . have e2:(ks.take (p+1)).length=p+1:=by simp;omega
       omega
     . omega
 . have hpe:p=ks.length:=by omega
   subst hpe;rw [BR] at ho hr;(repeat' ((first|refine wQ mxQ rfl ?_|refine Run.qR Nk ?_|fail)<;>try simp only [B5 hlt,ho.w4,go_sem]));exact ⟨ho,hr⟩
end Go.Ab
namespace Go.Ab
open Go.Proofs
theorem UW (l:List Nat) (σ:AI) (hl:l.length<=1000000):AT Tzp 103 [.d (.sl (l.map By))] σ (fun v σ'=>Bz (nbH σ) 3 1 (l.map By) v σ'/\∀k,σ'.blk k=σ.blk k):=by
 refine bD (by simp) ?_;rw [Bq];(repeat' (refine wQ mxQ rfl ?_<;>try simp only [go_sem]));have hfin:∀t,σ.tok t=false->Bz (nbH σ) 3 1 [] (.own t 3 1 []) (σ.Cw t):=fun t ht=>Bz.own (IZ σ) (IZ σ) ht;have hrow:∀r∈l.map By,r.length=1:=fun r hr=>by obtain ⟨a,_,rfl⟩:=Be.1 hr;rfl
 cases l with
 |nil=>
  refine XEx.AOO rfl rfl (fun b=>?_);cases b with
  |true=>
   (repeat' (first|((first|refine wQ mxQ rfl ?_|refine Run.qR Ha ?_|(refine A7 rfl (fun h=>?_) (fun h=>?_)<;>try (cases h;done))|fail)<;>try simp only [go_sem])|(refine ⟨fun h=>?_,fun h=>?_⟩<;>first|(cases h;done)|try simp only [h])|fail));exact ⟨AJ0 3 1,by simp⟩
  |false=>
   (repeat' (first|((first|refine wQ mxQ rfl ?_|(refine A7 rfl (fun h=>?_) (fun h=>?_)<;>try (cases h;done))|fail)<;>try simp only [go_sem])|(refine ⟨fun h=>?_,fun h=>?_⟩<;>first|(cases h;done)|try simp only [h])|fail));refine We.own rfl trivial (fun t ht=>?_);simp only [go_sem];refine DD.own (hfin t ht) rfl hrow (by simp) (by omega) (fun v' τ ho' hb'=>?_);(repeat' ((first|refine wQ mxQ rfl ?_|refine Run.qR Ha ?_|fail)<;>try simp only [ho'.BE,ho'.BV,ho'.cells,ho'.cell,go_sem]));exact ⟨ho',fun k=>(hb' k).trans rfl⟩
 |cons a l=>
  refine XEx.tC (b:=false) rfl rfl ?_;(repeat' (first|((first|refine wQ mxQ rfl ?_|(refine A7 rfl (fun h=>?_) (fun h=>?_)<;>try (cases h;done))|fail)<;>try simp only [go_sem])|(refine ⟨fun h=>?_,fun h=>?_⟩<;>first|(cases h;done)|try simp only [h])|fail));refine We.own rfl trivial (fun t ht=>?_);simp only [go_sem];refine DD.own (hfin t ht) rfl hrow (by simp at hl ⊢;omega) (by omega) (fun v' τ ho' hb'=>?_);(repeat' ((first|refine wQ mxQ rfl ?_|refine Run.qR Ha ?_|fail)<;>try simp only [ho'.BE,ho'.BV,ho'.cells,ho'.cell,go_sem]));exact ⟨ho',fun k=>(hb' k).trans rfl⟩
theorem Fr.nb {σ τ:AI} {i j j':Nat} {l l':List Nd} (h:Fr σ i l j τ l' j'):(nbH σ).le τ:=h.nb2 (IZ σ)
theorem GX.bi {B:GB} {σ:AI} {g:GS} {j jc:Nat} (h:GX B σ g j jc):σ.blk B.i=some (.ms j g.s.1.length 4 tkN::.d (.bool g.s.2)::[.d (.sl (B.ds.map DE.enc)),.d (.sl (B.G.fs.map FE.enc)),dsA B.G.dt,.ms B.js B.G.sch.length 5 eSs,.ms B.jm B.G.mem.length 1 eMm,.ms B.jp B.G.ps.length 1 ePp,.ms B.jr B.G.rs.length 1 3,.ms B.je B.es.length 1 eEe,.d (.int .i64 (B.cur:Int))]):=by
 rw [h.sn.blk,FH h.ne];rfl
theorem GX.add {B:GB} (hB:H7 B) {σ σ':AI} {g:GS} {j jc:Nat} {k n:Int} {ar:List Nat} {v0 v:AV} (h:GX B σ g j jc) (q:SNQ σ B.i g.s.1 B.rest j (LY g.s.1 k n ar,g.s.2) v0 v σ'):v=v0/\(nbH σ).le σ'/\∃j',GX B σ' (g.add k n ar) j' jc:=by
 obtain ⟨e,j',sn,fr⟩:=q;exact ⟨e,fr.nb,j',h.step hB (s:=(LY g.s.1 k n ar,g.s.2)) sn fr (by simp [Hp,GS.nx])⟩
theorem Cz (g:GS) (k n:Int) (ar:List Nat):(g.add k n ar).nx=g.nx+1:=by simp [GS.add,GS.nx,Hp]
theorem wL (g:GS) (k n:Int) (ar:List Nat):(g.add k n ar).en=g.en:=rfl
theorem NC (g:GS) (a b:Nat):(g.uni a b).nx=g.nx:=by simp [GS.uni,GS.nx,yL]
theorem AL4 (g:GS) (a b:Nat):(g.uni a b).en=g.en:=rfl
theorem bR (g:GS) (n:Nat):(g.frs n).nx=g.nx+n:=by simp [GS.frs,GS.nx,Kq]
theorem ADU (g:GS) (n:Nat):(g.frs n).en=g.en:=rfl
theorem GX.frs {B:GB} (hB:H7 B) {σ σ':AI} {g:GS} {j jc n:Nat} {v0 v:AV} (h:GX B σ g j jc) (q:SNQ σ B.i g.s.1 B.rest j (G2 g.s.1 n,g.s.2) v0 v σ'):v=v0/\(nbH σ).le σ'/\∃j',GX B σ' (g.frs n) j' jc:=by
 obtain ⟨e,j',sn,fr⟩:=q;exact ⟨e,fr.nb,j',h.step hB (s:=(G2 g.s.1 n,g.s.2)) sn fr (by simp [Kq,GS.nx])⟩
theorem GX.uni {B:GB} (hB:H7 B) {σ σ':AI} {g:GS} {j jc a b:Nat} (h:GX B σ g j jc) (q:UNQ σ B.i g.s.1 B.rest j (LH g.s.1.length g.s a b) σ'):(nbH σ).le σ'/\∃j',GX B σ' (g.uni a b) j' jc:=by
 obtain ⟨⟨j',sn,fr⟩,_⟩:=q;exact ⟨fr.nb,j',h.step hB (s:=Go.Ab.uni g.s a b) sn fr (by rw [yL];exact AW _)⟩
theorem zU (B:GB) (hB:H7 B) (o:Int) (g:GS) (σ:AI) (j jc:Nat) (hnx:g.nx<=900000000) (hg:GX B σ g j jc):
 AT Tzp 92 [.gp B.i 0,.d (.int .i64 o)] σ (fun v σ'=>v=nA g.nx/\(nbH σ).le σ'/\∃j',GX B σ' (g.add (r6 o) 0 []) j' jc):=by
 have hc:=fun k=>Bs B.i j g.s.1 g.s.2 B.rest σ k .Ae [] hg.sn SB.Ae (by simp) hnx;refine Tg (by simp) ?_;rw [BK];have hfin:∀k,r6 o=k->∀v σ',SNQ σ B.i g.s.1 B.rest j (LY g.s.1 k 0 [],g.s.2) (nA g.s.1.length) v σ'->v=nA g.nx/\(nbH σ).le σ'/\∃j',GX B σ' (g.add (r6 o) 0 []) j' jc:=fun k e v σ' q=>by rw [e];exact hg.add hB q
 by_cases h2:o=2
 . subst h2;(repeat' ((first|refine wQ mxQ rfl ?_|refine Run.qP C2 ?_|fail)<;>try simp only [go_sem]));refine AH.mk rfl (hc 2) ?_;intro v σ' q;have hv:=q.1;subst hv;have:=hfin 2 rfl _ _ q;simp only [nA];simp only [go_sem];(repeat' ((first|refine wQ mxQ rfl ?_|refine Run.qP C2 ?_|fail)<;>try simp only [go_sem]));exact this
 by_cases h3:o=3
 . subst h3;(repeat' (first|((first|refine wQ mxQ rfl ?_|refine Run.qP C2 ?_|(refine A7 rfl (fun h=>?_) (fun h=>?_)<;>try (cases h;done))|fail)<;>try simp only [go_sem])|(refine ⟨fun h=>?_,fun h=>?_⟩<;>first|(cases h;done)|try simp only [h])|fail));refine AH.mk rfl (hc 1) ?_;intro v σ' q;have hv:=q.1;subst hv;have:=hfin 1 rfl _ _ q;simp only [nA];simp only [go_sem];(repeat' ((first|refine wQ mxQ rfl ?_|refine Run.qP C2 ?_|fail)<;>try simp only [go_sem]));exact this
 . have b2:(o==2)=false:=by simpa using h2
   have b3:(o==3)=false:=by simpa using h3
   (repeat' ((first|refine wQ mxQ rfl ?_|refine Run.qP C2 ?_|fail)<;>try simp only [b2,b3,go_sem]));refine AH.mk rfl (hc 3) ?_;intro v σ' q;have hv:=q.1;subst hv;have:=hfin 3 (by simp [r6,h2,h3]) _ _ q;simp only [nA];simp only [go_sem];(repeat' ((first|refine wQ mxQ rfl ?_|refine Run.qP C2 ?_|fail)<;>try simp only [go_sem]));exact this
end Go.Ab
namespace Go.Ab
open Go.Proofs
theorem tF (f:FE) (s:Str) (j:Nat) (σ:AI) (hj:σ.blk j=some [.d (.str s)]):AT Tzp 122 [feA f,.gp j 0] σ (fun v σ'=>v= .d (.bool (f.name==s))/\σ'=σ):=by
 refine Qz (by simp) ?_;rw [BK];obtain ⟨nm,ps,o,n,u,ns,ks,al⟩:=f;simp only [FE.enc,Ex.A2,feA,AD,AJ];(repeat' ((first|refine wQ mxQ rfl ?_|refine Run.qP J0 ?_|fail)<;>try simp only [hj,Bd,go_sem]))
theorem uV:∀ {e:Env} {s:Str} {t:Nat},Lr e s=some t->(s,t)∈e
 |x::e,s,t,h=>by
  obtain ⟨n,u⟩:=x;rw [Lr] at h;split at h
  . rename_i e1;simp only at e1 h;cases h;rw [e1];exact AS
  . exact AR _ (uV h)
theorem AGR:∀ {l:List Str} {s:Str} {k:Nat},C9 l s=some k->k < l.length
 |[],s,k,h=>by simp [C9] at h
 |x::l,s,k,h=>by
  rw [C9] at h;split at h
  . cases h;simp
  . cases hi:C9 l s with
    |none=>rw [hi] at h;cases h
    |some m=>
     rw [hi] at h;simp only [Ah,AL] at h;subst h;have:=AGR hi;simp;omega
theorem GX.new {B:GB} (hB:H7 B) {σ:AI} {g:GS} {j jc k:Nat} {cs:List AV} (h:GX B σ g j jc) (hk:σ.blk k=none):GX B (σ.AP k cs) g j jc:=by
 obtain ⟨hji,c0,hc0,hbj⟩:=h.sn.nd h.ne;have hne:∀m x,σ.blk m=some x->m≠k:=fun m x hm e=>by rw [e,hk] at hm;cases hm
 refine ⟨⟨by rw [AK,if_neg (hne _ _ h.sn.blk),h.sn.blk],h.sn.HM,fun _=>⟨hji,c0,hc0,by rw [AK,if_neg (hne _ _ hbj),hbj]⟩⟩,by rw [AK,if_neg (hne _ _ h.e),h.e],fun he=>?_,fun m x hx=>by rw [AK,if_neg (hne _ _ (h.x m x hx)),h.x m x hx],h.jj,h.gi⟩;obtain ⟨a,b⟩:=h.c he;exact ⟨by rw [AK,if_neg (hne _ _ a),a],b⟩
theorem mY {l:List Bool} {i:Nat} {b:Bool} (h:l[i]?=some b):(BX l)[i]?=some (.d (.bool b)):=by simp [BX,h]
theorem pU {l:List (List Nat)} {i:Nat} {x:List Nat} (h:l[i]?=some x):(psC l)[i]?=some (.d (.sl (x.map By))):=by simp [psC,h]
theorem AO0 (k n:Int) (l:List Ty):tyA (.mk k n l)= .agg [.d (.int .i64 k),.d (.int .i64 n),.d (.sl (l.map Ty.enc))]:=by simp [tyA,Ty.enc,Ty.C1]
theorem ACI (B:GB) (hB:H7 B) (hD:GD B.G) (sc:List Str) (env:Env) (nm:Str) (at_:Nat) (g:GS) (σ:AI) (j jc:Nat) (hnm:nm≠[]) (hv:EY B.G.fs B.G.dt (.mk 4 nm 0 [] [] []) sc=0) (hes:ES sc env g) (hat:at_ < g.en.length) (hnx:g.nx+1000000<=900000000) (hg:GX B σ g j jc):
 AT Tzp 91 [.gp B.i 0,.d (.str nm),.d (J9 env),nA at_] σ (fun v σ'=>v=nA (W9 B.G env nm at_ g).1/\RQ B σ g (W9 B.G env nm at_ g).1 1000000 0 (W9 B.G env nm at_ g).2 σ'):=by
 have hbi:=hg.bi;refine Tj (by simp) ?_;rw [fR];simp only [nA];(repeat' (refine wQ mxQ rfl ?_<;>try simp only [go_sem]));intro jn hjn;have hg1:=hg.new hB (k:=jn) (cs:=[AV.d (.str nm)]) hjn;have hnb1:(nbH σ).le (σ.AP jn [AV.d (.str nm)]):=⟨fun _ _ h=>(by cases h),fun _ h=>h,rfl,fun _ _ h=>h⟩;have hbn:(σ.AP jn [AV.d (.str nm)]).blk jn=some [AV.d (.str nm)]:=B0;generalize σ.AP jn [AV.d (.str nm)]=σ1 at hg1 hnb1 hbn ⊢;have hf:=sS env nm σ1;cases hlk:Lr env nm with
 |some t=>
  rw [hlk] at hf;simp only [AM5] at hf;have hvar:W9 B.G env nm at_ g=(t,g):=by rw [W9,hlk]
  rw [hvar];(repeat' ((first|refine wQ mxQ rfl ?_|refine Run.qP Ew ?_|refine AH.det (hf) ?_|fail)<;>try simp only [hbn,go_sem]));exact ⟨hnb1,⟨j,jc,hg1⟩,hes.lt _ (uV hlk),AW _,by omega,rfl⟩
 |none=>
  rw [hlk] at hf;simp only [AM5] at hf;have hsc:=hes.sc nm hnm;rw [hlk] at hsc;rw [EY,if_pos (show (Ex.mk 4 nm 0 [] [] []).op=4 from rfl)] at hv;simp only [Ex.name,<- hsc,CW,FL,BY] at hv
  obtain ⟨f,hfi⟩:∃f,C9 (Bo B.G.fs) nm=some f:=by
   cases h:C9 (Bo B.G.fs) nm with
   |none=>rw [h] at hv;simp at hv
   |some f=>exact ⟨f,rfl⟩
  have hfl:f < B.G.fs.length:=by have:=AGR hfi;simpa [Bo] using this
  have hbi1:=hg1.bi;have hix:=Jj (fid:=122) (caps:=[.gp jn 0]) (by kernel_rfl) rfl (fun x=>x.name==nm) B.G.fs σ1 (fun x _=>tF x nm jn _ hbn);rw [jQ,hfi] at hix;simp only [Fi] at hix;have hen:g.en≠[]:=fun e=>by rw [e] at hat;cases hat
  obtain ⟨c1,c2,c3,c4,c5⟩:=hg1.c hen;have hje:=hg1.e;rw [XJ hen] at hje;have hcu:=ltT hB.cur;have hcg:(B.es.set B.cur (AV.ms jc g.en.length 3 tkE))[B.cur]?=some (AV.ms jc g.en.length 3 tkE):=by simp [hB.cur]
  have hatT:=ltT hat;obtain ⟨x,hx⟩:=Ai hat;have hle:(at_ * 3+1+1<=(enC g.en).length)=True:=by rw [P3 En.row 3 En.Ft];simp;omega
  have hwr:=x8 En.row 3 En.Ft 1 (.d (.int .i64 (f:Int))) (fun e=> { e with f:=(f:Int)}) hx (by omega) rfl;obtain ⟨q1,q2,q3,q4⟩:=hg1.gi.en x (AE hx);have hg2:=hg1.mod hB (at_:=at_) (fun e=> { e with f:=(f:Int)}) hx ⟨q1,by simp only;omega,by simp only;omega,q4⟩;have hmem:=Ai (show f < B.G.mem.length by rw [hB.lm];exact hfl);obtain ⟨b,hb⟩:=hmem;have hbb:=mY hb
  have hjm:∀cs,(σ1.AP jc cs).blk B.jm=some (BX B.G.mem):=fun cs=>by
   rw [AK,if_neg (fun e=>by rw [<- e,hB.m] at c4;cases c4),hg1.x _ _ hB.m]
  have hjb:∀cs,(σ1.AP jc cs).blk B.i=σ1.blk B.i:=fun cs=>by rw [AK,if_neg (A9 c2)]
  have hfm:=ltT (show f < B.G.mem.length by rw [hB.lm];exact hfl)
  have hvp:W9 B.G env nm at_ g=AOC B.G f at_ (g.Sx at_ fun e=> { e with f:=(f:Int)}):=by
   rw [W9,hlk,hfi];rfl
  rw [hvp];clear hvp;have hnx2:(g.Sx at_ fun e=> { e with f:=(f:Int)}).nx=g.nx:=rfl;have hen2:(g.Sx at_ fun e=> { e with f:=(f:Int)}).en.length=g.en.length:=by simp [GS.Sx]
  generalize (g.Sx at_ fun e=> { e with f:=(f:Int)})=g2 at hg2 hnx2 hen2 ⊢;have hmg:B.G.mem.getD f false=b:=by simp [hb]
  rw [AOC,hmg];cases b
  . simp only [A3,if_false];have hfs:=ltT (show f < B.G.sch.length by rw [hB.ls];exact hfl);obtain ⟨s,hs⟩:=Ai (show f < B.G.sch.length by rw [hB.ls];exact hfl)
    have hjs:∀cs,(σ1.AP jc cs).blk B.js=some (VW B.G.sch):=fun cs=>by
     rw [AK,if_neg (fun e=>by rw [<- e,hB.s] at c4;cases c4),hg1.x _ _ hB.s]
    have hst:=xZ Sch.row 5 Sch.Ft hs;have hsl:(f * 5+5<=(VW B.G.sch).length)=True:=by have:=(AG.1 hs).1;rw [P3 Sch.row 5 Sch.Ft];simp;omega
    (repeat' (first|refine ctQ rfl ?_|((first|refine rgQ mxQ ?_|refine cdQ ?_|refine AH.det (hf) ?_|refine AH.det (hix) ?_|(refine A7 rfl (fun h=>?_) (fun h=>?_)<;>try (cases h;done)))<;>try simp only [hbn,hbi1,hje,hcu,hcg,A5,hatT,c1,hle,hwr,hjb,hjm,hfm,hbb,hfs,hjs,hst,hsl,Sch.row,go_sem])|(refine ⟨fun h=>?_,fun h=>?_⟩<;>first|(cases h;done)|try simp only [h])|fail));have hnb2:(nbH σ).le (σ1.AP jc (enC (g.en.modify at_ fun e=> { e with f:=(f:Int)}))):=⟨fun _ _ h=>(by cases h),hnb1.tok,hnb1.gt,hnb1.bt⟩;generalize σ1.AP jc (enC (g.en.modify at_ fun e=> { e with f:=(f:Int)}))=τ at hg2 hnb2 ⊢;obtain ⟨s1,s2,s3,s4,s5,s6⟩:=hD.sch s (AE hs);obtain ⟨vs,ps,rs⟩:=s;obtain ⟨n,rfl⟩:=Gr s1;obtain ⟨rk,rn,ra⟩:=rs;simp only [hs,DS] at s2 s3 s4 s5 s6 ⊢;simp only [Ty.kind,Ty.num,Ty.args];have hnl:n<=100000:=by omega
    have hn2:g2.s.1.length=g2.nx:=rfl;refine AH.mk rfl (EC B.i j g2.s.1 g2.s.2 B.rest τ n hg2.sn (by omega) (by omega)) ?_;intro v3 τ1 q;obtain ⟨rfl,hnb3,j3,hg3⟩:=hg2.frs hB q;clear q;rw [hn2];have hat2:at_ < g2.en.length:=by rw [hen2];exact hat
    obtain ⟨y,hy⟩:=Ai hat2;obtain ⟨d1,d2,d3,d4,d5⟩:=hg3.c (fun e=>by rw [show (g2.frs n).en=g2.en from rfl] at e;rw [e] at hat2;cases hat2);rw [ADU] at d1;have hle2:(at_ * 3+2+1<=(enC g2.en).length)=True:=by rw [P3 En.row 3 En.Ft];simp;omega
    have hwr2:=x8 En.row 3 En.Ft 2 (.d (.sl ((Af g2.nx n).map By))) (fun e=> { e with ar:=Af g2.nx n}) hy (by omega) rfl;have hra:∀a∈Af g2.nx n,a < g2.nx+n:=fun a ha=>by rw [TD] at ha;omega
    obtain ⟨y1,y2,y3,y4⟩:=hg2.gi.en y (AE hy);have hg4:=hg3.mod hB (at_:=at_) (fun e=> { e with ar:=Af g2.nx n}) (x:=y) hy ⟨by rw [bR];simp only;omega,y2,y3,fun a ha=>by rw [bR];exact hra a ha⟩;rw [ADU] at hg4;simp only [d1,hle2,hwr2,go_sem];(repeat' (first|refine ctQ rfl ?_|((first|refine rgQ mxQ ?_|refine cdQ ?_|(refine A7 rfl (fun h=>?_) (fun h=>?_)<;>try (cases h;done)))<;>try simp only [go_sem])|(refine ⟨fun h=>?_,fun h=>?_⟩<;>first|(cases h;done)|try simp only [h])|fail))
    have hnb4:(nbH σ).le (τ1.AP jc (enC (g2.en.modify at_ fun e=> { e with ar:=Af g2.nx n}))):=by
     have h0:=BD hnb2 hnb3;exact ⟨fun _ _ h=>(by cases h),h0.tok,h0.gt,h0.bt⟩
    generalize τ1.AP jc (enC (g2.en.modify at_ fun e=> { e with ar:=Af g2.nx n}))=τ2 at hg4 hnb4 ⊢
    have hy4:((g2.frs n).Sx at_ fun e=> { e with ar:=Af g2.nx n}).en[at_]?=some { y with ar:=Af g2.nx n}:=by
     show (g2.en.modify at_ _)[at_]?=_;rw [List.getElem?_modify_eq,hy];rfl
    have hnx4:((g2.frs n).Sx at_ fun e=> { e with ar:=Af g2.nx n}).nx=g2.nx+n:=bR g2 n;have hen4:((g2.frs n).Sx at_ fun e=> { e with ar:=Af g2.nx n}).en.length=g.en.length:=by simp [GS.Sx,ADU,hen2]
    generalize ((g2.frs n).Sx at_ fun e=> { e with ar:=Af g2.nx n})=g4 at hg4 hy4 hnx4 hen4 ⊢;have hea:(enC g4.en)[at_ * 3+2]?=some (.d (.sl ((Af g2.nx n).map By))):=AOI En.row 3 En.Ft 2 hy4 (by omega);have he4:g4.en≠[]:=fun e=>by rw [e] at hy4;simp at hy4
    have f1:=(hg4.c he4).1;have hrl:(Af g2.nx n).length=n:=by simp
    have hn4:g4.s.1.length=g2.nx+n:=hnx4;generalize har:Af g2.nx n=ar at *;have hinT:∀t∈ps,AGC B.i B.rest ar t:=fun t ht=>Hh B.i B.rest ar t.size t (AW _) (by rw [hrl];exact UP s3 t ht);have hal:∀a∈ar,a < g4.s.1.length:=fun a ha=>by rw [hn4];exact hra a ha
    have hli:=Mv ar g4.s.1 ps;have hli2:=dZ ar (Bh ar g4.s.1 ps).2 (.mk rk rn ra);have hlt1:=Yc (ar:=ar) (l:=g4.s.1) (ts:=ps) (by rw [hrl];exact s3) hal;have hlt2:=oT (ar:=ar) (l:=(Bh ar g4.s.1 ps).2) (t:= .mk rk rn ra) (by rw [hrl];exact s4) (fun a ha=>CV (hal a ha) hli.le);have hplen:=Ty.Bl ps;have hll:=Mw ar g4.s.1 ps;rw [AT5];simp only;refine Run.Jf mixed ?_;simp only [f1,hea,go_sem];refine ⟨?_,?_⟩<;>
    . refine AH.mk rfl (Jh B.i B.rest ar ps hinT g4.s.1 g4.s.2 j3 τ2 hal (by omega) hg4.sn) ?_;rintro cv τ3 ⟨ho,j5,sn5,fr5⟩;have hg5:=hg4.step hB (s:=((Bh ar g4.s.1 ps).2,g4.s.2)) sn5 fr5 hli.le;have f5:=(hg5.c he4).1;simp only [ho.w4,f5,hea,go_sem];have hic:=Hh B.i B.rest ar _ (.mk rk rn ra) (AW _) (by rw [hrl];exact s4) (Bh ar g4.s.1 ps).2 g4.s.2 j5 τ3 (fun a ha=>CV (hal a ha) hli.le) (by have:=hli.hi;omega) sn5;rw [AO0] at hic;refine AH.mk rfl hic ?_;rintro _ τ4 ⟨rfl,j6,sn6,fr6⟩;simp only [nA];simp only [ho.w4,go_sem];refine DD.own (ho.fr fr6) rfl (by simp) (by simp [hll];omega) (by omega) (fun v2 τ5 ho2 hb2=>?_);simp only [ho2.w4,go_sem];have ho3:Bz (nbH τ2) 3 1 (((Bh ar g4.s.1 ps).1++[(FU ar (Bh ar g4.s.1 ps).2 (.mk rk rn ra)).1]).map By) v2 τ5:=by rw [Ay];exact ho2
      have hg6:=(hg5.step hB (s:=((FU ar (Bh ar g4.s.1 ps).2 (.mk rk rn ra)).2,g4.s.2)) sn6 fr6 hli2.le).nbo hb2;refine AH.mk (by simp [ho2.BE,VE,FI]) (Bs B.i j6 _ g4.s.2 B.rest τ5 9 v2 _ hg6.sn ho3.row (fun a ha=>?_) (by have:=hli.hi;have:=hli2.hi;simp only;omega)) ?_
      . rcases A0.1 ha with ha|ha
        . exact CV (hlt1 a ha) hli2.le
        . simp only [A6] at ha;subst ha;exact hlt2
      intro v7 τ7 q;obtain ⟨e,h1,j7,h2⟩:=hg6.add hB q;clear q;subst e;simp only [nA];simp only [go_sem];(repeat' ((first|refine wQ mxQ rfl ?_|refine Run.qP Ew ?_|fail)<;>try simp only [go_sem]));refine ⟨BD (BD hnb4 ho2.le) h1,⟨j7,jc,h2⟩,?_,?_,?_,hen4⟩
      . show _ < (LY _ 9 0 _).length;rw [Hp];omega
      . show _<=(LY _ 9 0 _).length;rw [Hp];have:=hli.le;have:=hli2.le;omega
      . show (LY _ 9 0 _).length+500000<=_;rw [Hp];have:=hli.hi;have:=hli2.hi;omega
  . simp only [if_true];(repeat' (first|refine ctQ rfl ?_|((first|refine rgQ mxQ ?_|refine cdQ ?_|refine AH.det (hf) ?_|refine AH.det (hix) ?_|(refine A7 rfl (fun h=>?_) (fun h=>?_)<;>try (cases h;done)))<;>try simp only [hbn,hbi1,hje,hcu,hcg,A5,hatT,c1,hle,hwr,hjb,hjm,hfm,hbb,go_sem])|(refine ⟨fun h=>?_,fun h=>?_⟩<;>first|(cases h;done)|try simp only [h])|fail));have hnb2:(nbH σ).le (σ1.AP jc (enC (g.en.modify at_ fun e=> { e with f:=(f:Int)}))):=⟨fun _ _ h=>(by cases h),hnb1.tok,hnb1.gt,hnb1.bt⟩;generalize σ1.AP jc (enC (g.en.modify at_ fun e=> { e with f:=(f:Int)}))=τ at hg2 hnb2 ⊢;have hbi2:=hg2.bi;obtain ⟨pl,hpl⟩:=Ai (show f < B.G.ps.length by rw [hB.lp];exact hfl);obtain ⟨rf,hrf⟩:=Ai (show f < B.G.rs.length by rw [hB.lr];exact hfl);have hp2:=hg2.x _ _ hB.p;have hr2:=hg2.x _ _ hB.r;have hpa:=pU hpl;have hra:=Rk hrf;have hfp:=ltT (show f < B.G.ps.length by rw [hB.lp];exact hfl);have hfr:=ltT (show f < B.G.rs.length by rw [hB.lr];exact hfl);have hplm:=AE hpl;have hpln:=hD.nn pl hplm;simp only [Ac,hpl,hrf,BC]
    have hfin:∀(cv:AV) (τ1:AI) (v:AV) (τ2:AI),(∀k,τ1.blk k=τ.blk k)->Bz (nbH τ) 3 1 ((pl++[rf]).map By) cv τ1->SNQ τ1 B.i g2.s.1 B.rest j (LY g2.s.1 9 0 (pl++[rf]),g2.s.2) (nA g2.s.1.length) v τ2->RQ B σ g g2.nx 1000000 0 (g2.add 9 0 (pl++[rf])) τ2:=fun cv τ1 v τ2 hb1 ho q=>by
     obtain ⟨_,h1,j',h2⟩:=(hg2.nbo hb1).add hB q;exact ⟨BD (BD hnb2 ho.le) h1,⟨j',jc,h2⟩,by rw [Cz];omega,by rw [Cz];omega,by rw [Cz];omega,by rw [wL,hen2];rfl⟩
    refine Run.Jf mixed ?_;simp only [hbi2,hp2,hr2,hpa,hra,hfp,hfr,A5,go_sem];refine ⟨?_,?_,?_⟩<;>
    . refine AH.mk rfl (UW pl τ (by omega)) ?_;rintro cv τ1 ⟨ho,hb1⟩;simp only [ho.w4,hb1,hbi2,hr2,hra,hfr,A5,go_sem];refine DD.own ho rfl (by simp) (by simp;omega) (by omega) (fun v2 τ2 ho2 hb2=>?_);simp only [ho2.w4,go_sem];have hg3:=(hg2.nbo hb1).nbo hb2;have hb3:∀k,τ2.blk k=τ.blk k:=fun k=>(hb2 k).trans (hb1 k);have ho3:Bz (nbH τ) 3 1 ((pl++[rf]).map By) v2 τ2:=by rw [Ay];exact ho2
      refine AH.mk (by simp [ho2.BE,VE,FI]) (Bs B.i j g2.s.1 g2.s.2 B.rest τ2 9 v2 (pl++[rf]) hg3.sn ho3.row (fun a ha=>?_) (by have:g2.s.1.length=g2.nx:=rfl;omega)) ?_
      . rcases A0.1 ha with ha|ha
        . exact hg2.gi.ps pl hplm a ha
        . simp only [A6] at ha;subst ha;exact hg2.gi.rs _ (AE hrf)
      intro v3 τ3 q;have hq:=hfin v2 τ2 v3 τ3 hb3 ho3 q;obtain ⟨e,_⟩:=q;subst e;simp only [nA];simp only [go_sem];(repeat' ((first|refine wQ mxQ rfl ?_|refine Run.qP Ew ?_|fail)<;>try simp only [go_sem]));exact ⟨rfl,hq⟩
end Go.Ab
namespace Go.Ab
open Go.Proofs
theorem SX.AK3 {ext ext':Nat->Option (List AV)} {σ:AI} {i j js:Nat} {l:List Nd} {fl:Bool} {rest cs:List AV} (h:SX ext' σ i l fl rest j js cs) (hx:∀k c,ext k=some c->ext' k=some c):SX ext σ i l fl rest j js cs:=by
 have hn:∀k,ext' k=none->ext k=none:=fun k hk=>by
  cases he:ext k with
  |none=>rfl
  |some c=>rw [hx k c he] at hk;cases hk
 exact ⟨h.sn,h.row,fun k c hk=>h.x k c (hx k c hk),hn _ h.xi,fun hl=>hn _ (h.xj hl),hn _ h.xs,h.si,h.sj⟩
def Hq (ext:Nat->Option (List AV)) (m:Nat) (cs:List AV) (k:Nat):Option (List AV):=if k=m then some cs else ext k
theorem SX.AWJ {ext:Nat->Option (List AV)} {σ τ:AI} {i j js m:Nat} {l:List Nd} {fl:Bool} {rest cs cm:List AV} (hl:l≠[]) (h:SX ext σ i l fl rest j js cs) (mo:Mo σ τ) (hm:σ.blk m=none) (hmb:τ.blk m=some cm):SX (Hq ext m cm) τ i l fl rest j js cs/\∀k c,ext k=some c->Hq ext m cm k=some c:=by
 obtain ⟨hji,c0,hc0,hbj⟩:=h.sn.nd hl;have hi:i≠m:=fun e=>by rw [<- e,h.sn.blk] at hm;cases hm
 have hj:j≠m:=fun e=>by rw [<- e,hbj] at hm;cases hm
 have hs:js≠m:=fun e=>by rw [<- e,h.row] at hm;cases hm
 have hk:∀k c,ext k=some c->k≠m:=fun k c hk e=>by have:=h.x k c hk;rw [e,hm] at this;cases this
 refine ⟨⟨⟨mo.blk _ _ h.sn.blk,h.sn.HM,fun _=>⟨hji,c0,hc0,mo.blk _ _ hbj⟩⟩,mo.blk _ _ h.row,fun k c hx=>?_,by rw [Hq,if_neg hi];exact h.xi,fun hl=>by rw [Hq,if_neg hj];exact h.xj hl,by rw [Hq,if_neg hs];exact h.xs,h.si,h.sj⟩,fun k c hx=>by rw [Hq,if_neg (hk k c hx)];exact hx⟩;unfold Hq at hx;split at hx
 . rename_i e;subst e;cases hx;exact hmb
 . exact mo.blk _ _ (h.x k c hx)
theorem nW (ext:Nat->Option (List AV)) (m:Nat) (cs:List AV):Hq ext m cs m=some cs:=by simp [Hq]
def aV (l:List Nd) (pl:List Nat) (rf:Nat) (en:List En):Bool:=(pl.any (lJ l)||lJ l rf)||en.any (AMY l)
theorem ADX (B:GB) (ext:Nat->Option (List AV)) (σ0:AI) (l:List Nd) (d:Nat->Nat) (fl:Bool) (js j1 j3 j4:Nat) (hl0:l≠[]) (he:JE ext B.i l d js j1 j3 j4) (f jc:Nat) (es:List AV) (pl:List Nat) (rf:Nat) (en:List En)
 (xp:ext B.jp=some (psC B.G.ps)) (xr:ext B.jr=some (DF B.G.rs)) (xe:ext B.je=some es) (hes:es.length=B.es.length) (xc:en≠[]->ext jc=some (enC en))
 (hpl:B.G.ps[f]?=some pl) (hrf:B.G.rs[f]?=some rf) (hen:es[f]?=some (enV en jc)) (hln:en.length<=900000000)
 (hp:∀a∈pl,a < l.length) (hr:rf < l.length) (ht:∀x∈en,x.t < l.length/\∀a∈x.ar,a < l.length) (τ:AI) (hj:JZ ext σ0 B.i B.rest l fl js τ):
 AT Tzp 31 [.gp B.i 0,.d (.int .i64 (f:Int)),szC j1 j3 j4] τ (fun v σ'=>v= .d (.bool (aV l pl rf en))/\JZ ext σ0 B.i B.rest l fl js σ'):=by
 obtain ⟨hnb,kn,j0,hkn,hs⟩:=hj;refine Us (by simp) ?_;rw [Dm];(repeat' (first|refine ctQ rfl ?_|((first|refine rgQ mxQ ?_|refine cdQ ?_|(refine A7 rfl (fun h=>?_) (fun h=>?_)<;>try (cases h;done)))<;>try simp only [szC,go_sem])|(refine ⟨fun h=>?_,fun h=>?_⟩<;>first|(cases h;done)|try simp only [h])|fail));intro j5 hj5;have m5:=(Mo.refl τ).new hj5 [szC j1 j3 j4];have f5:(τ.AP j5 [szC j1 j3 j4]).blk j5=some [szC j1 j3 j4]:=B0;obtain ⟨hs5,w5⟩:=hs.AWJ hl0 m5 hj5 f5;have hs':τ.AP j5 [AV.fn 61 [] [.gp j1 0,.gp j3 0,.gp j4 0]]=τ.AP j5 [szC j1 j3 j4]:=rfl;rw [hs'];generalize τ.AP j5 [szC j1 j3 j4]=τ5 at *;(repeat' (first|refine ctQ rfl ?_|((first|refine rgQ mxQ ?_|refine cdQ ?_|(refine A7 rfl (fun h=>?_) (fun h=>?_)<;>try (cases h;done)))<;>try simp only [go_sem])|(refine ⟨fun h=>?_,fun h=>?_⟩<;>first|(cases h;done)|try simp only [h])|fail));intro j7 hj7;simp only [JL,go_sem];have m7:=(Mo.refl τ5).ABA hj7 [AV.H0] [.fn 62 [] [.gp j5 0]] (1,139);have f7:(((τ5.AP j7 [AV.H0]).CH j7 (1,139)).AP j7 [.fn 62 [] [.gp j5 0]]).blk j7=some [.fn 62 [] [.gp j5 0]]:=B0;obtain ⟨hs7,w7⟩:=hs5.AWJ hl0 m7 hj7.1 f7;generalize ((τ5.AP j7 [AV.H0]).CH j7 (1,139)).AP j7 [.fn 62 [] [.gp j5 0]]=τ7 at *
 have w57:∀k c,ext k=some c->Hq (Hq ext j5 [szC j1 j3 j4]) j7 [.fn 62 [] [.gp j5 0]] k=some c:=fun k c h=>w7 k c (w5 k c h);have x5:Hq (Hq ext j5 [szC j1 j3 j4]) j7 [.fn 62 [] [.gp j5 0]] j5=some [szC j1 j3 j4]:=w7 _ _ (nW _ _ _);have x7:=nW (Hq ext j5 [szC j1 j3 j4]) j7 [.fn 62 [] [.gp j5 0]];generalize Hq (Hq ext j5 [szC j1 j3 j4]) j7 [.fn 62 [] [.gp j5 0]]=ext2 at *;have he2:JE ext2 B.i l d js j1 j3 j4:=⟨he.ln,he.fr,w57 _ _ he.x1,w57 _ _ he.x3,w57 _ _ he.x4⟩;have hj:JZ ext2 σ0 B.i B.rest l fl js τ7:=⟨D8 (D8 hnb m5.nb) m7.nb,kn,j0,hkn,hs7⟩;have hout:∀τ',JZ ext2 σ0 B.i B.rest l fl js τ'->JZ ext σ0 B.i B.rest l fl js τ':=fun τ' ⟨a,b,c,e,f⟩=>⟨a,b,c,e,f.AK3 w57⟩;clear hs hs5 hs7 m5 m7 hnb hkn
 have look:∀τ',JZ ext2 σ0 B.i B.rest l fl js τ'->(∃j',τ'.blk B.i=some (.ms j' l.length 4 tkN::.d (.bool fl)::[.d (.sl (B.ds.map DE.enc)),.d (.sl (B.G.fs.map FE.enc)),dsA B.G.dt,.ms B.js B.G.sch.length 5 eSs,.ms B.jm B.G.mem.length 1 eMm,.ms B.jp B.G.ps.length 1 ePp,.ms B.jr B.G.rs.length 1 3,.ms B.je B.es.length 1 eEe,.d (.int .i64 (B.cur:Int))]))/\
  τ'.blk B.jp=some (psC B.G.ps)/\τ'.blk B.jr=some (DF B.G.rs)/\τ'.blk B.je=some es/\τ'.blk j7=some [.fn 62 [] [.gp j5 0]]:=fun τ' ⟨_,_,j',_,h⟩=>
  ⟨⟨j',by rw [h.sn.blk,FH hl0];rfl⟩,h.x _ _ (w57 _ _ xp),h.x _ _ (w57 _ _ xr),h.x _ _ (w57 _ _ xe),h.x _ _ x7⟩
 obtain ⟨⟨jn,k1⟩,k2,k3,k4,k5⟩:=look τ7 hj;have hpa:=pU hpl;have hra:=Rk hrf;have hfp:=ltT (AG.1 hpl).1;have hfr:=ltT (AG.1 hrf).1;have hfe:((f:Int) < (B.es.length:Int))=True:=by rw [<- hes];exact ltT (AG.1 hen).1
 obtain ⟨q1,q2,q3,q4,q5⟩:=T4 en jc;have hcf:=fun (τ':AI) (hj':JZ ext2 σ0 B.i B.rest l fl js τ')=>Oa (fid:=62) (caps:=[.gp j5 0]) (by kernel_rfl) rfl (lJ l) (JZ ext2 σ0 B.i B.rest l fl js) pl (fun x hx τ hj=>PQ he2 x5 x (hp x hx) τ hj) τ' hj';have hce:=fun (τ':AI) (hj':JZ ext2 σ0 B.i B.rest l fl js τ')=>aA (fid:=65) (caps:=[.gp j7 0]) (by kernel_rfl) rfl (AMY l) (JZ ext2 σ0 B.i B.rest l fl js) en jc (fun h τ ⟨_,_,_,_,hh⟩=>hh.x _ _ (w57 _ _ (xc h))) hln (fun x hx τ hj=>wN he2 x5 x7 x (ht x hx).1 (ht x hx).2 τ hj) τ' hj';rw [aV];(repeat' (refine wQ mxQ rfl ?_<;>try simp only [k1,k2,k5,hpa,hfp,A5,go_sem]));refine AH.mk rfl (hcf τ7 hj) ?_;rintro _ τ8 ⟨rfl,hj8⟩;obtain ⟨⟨jn8,k1⟩,k2,k3,k4,k5⟩:=look τ8 hj8;cases hc1:pl.any (lJ l) with
 |true=>
  simp only [k1,k3,k5,hra,hfr,A5,go_sem];(repeat' ((first|refine wQ mxQ rfl ?_|refine Run.qP F1 ?_|fail)<;>try simp only [go_sem]));exact hout _ hj8
 |false=>
  simp only [k1,k3,k5,hra,hfr,A5,go_sem];have hc2:=PQ he2 x5 rf hr τ8 hj8;simp only [nA] at hc2;refine ⟨62,[],[.gp j5 0],rfl,by kernel_rfl,AH.mk rfl hc2 ?_⟩;rintro _ τ9 ⟨rfl,hj9⟩;obtain ⟨⟨jn9,k1⟩,k2,k3,k4,k5⟩:=look τ9 hj9;cases hc3:lJ l rf with
  |true=>
   simp only [go_sem];(repeat' ((first|refine wQ mxQ rfl ?_|refine Run.qP F1 ?_|fail)<;>try simp only [go_sem]));exact hout _ hj9
  |false=>
   simp only [go_sem];(repeat' (refine wQ mxQ rfl ?_<;>try simp only [k1,k4,hen,hfe,A5,q1,q2,q3,q4,go_sem]));refine AH.mk (by simp [q2,mD]) (hce τ9 hj9) ?_;rintro _ τ10 ⟨rfl,hj10⟩;simp only [go_sem];(repeat' ((first|refine wQ mxQ rfl ?_|refine Run.qP F1 ?_|fail)<;>try simp only [go_sem]));exact hout _ hj10
end Go.Ab
namespace Go.Ab
open Go.Proofs
def JO (l:List Nd):Nat->List Bool×List Nat->Nat->List Bool×List Nat
 |0,s,_=>s
 |k+1,s,n=>
  let r:=rtN l n
  if s.1[r]?=some false then
   (((l[r]?).map Nd.ar).getD []).foldl (fun s a=>JO l k s a) (s.1.set r true,if ((l[r]?).map Nd.k)=some 0 then s.2++[r] else s.2)
                                                                                   else s
def fz (sn:List Bool):Nat:=sn.countP (·==false)
theorem AD1 {sn:List Bool} {r:Nat} (h:sn[r]?=some false):fz (sn.set r true)+1=fz sn:=by
 induction sn generalizing r with
 |nil=>simp at h
 |cons x sn ih=>
  cases r with
  |zero=>
   simp only [BM,AL] at h;subst h;simp [fz,LL]
  |succ r=>
   have:=ih (r:=r) (by simpa using h);simp only [fz,CU,GH] at this ⊢;omega
theorem mZ {l:List Bool} {r:Nat} (b:Bool) (h:r < l.length):(BX l).take r++[.d (.bool b)]++(BX l).drop (r+1)=BX (l.set r b):=by
 induction l generalizing r with
 |nil=>cases h
 |cons x l ih=>
  cases r with
  |zero=>simp [BX]
  |succ r=>
   have:=ih (r:=r) (by simpa using h);simp only [BX,AD,Cj,FX,CU,AZ] at this ⊢;rw [this]
structure UX (ext:Nat->Option (List AV)) (σb σ:AI) (i:Nat) (l:List Nd) (fl:Bool) (rest:List AV) (j js j5:Nat) (s:List Bool×List Nat) (v:AV):Prop where
 sx:SX ext σ i l fl rest j js (BX s.1)
 row:σ.blk j5=some [v]
 x5:ext j5=none
 ei:j5≠i
 ej:l≠[]->j5≠j
 es:j5≠js
 own:Bz (nbH σb) 3 1 (s.2.map By) v σ
 len:s.1.length=l.length
 bd:s.2.length+fz s.1<=l.length
theorem UX.step {ext:Nat->Option (List AV)} {σb σ σ':AI} {i j j' js j5:Nat} {l:List Nd} {fl:Bool} {rest:List AV} {s:List Bool×List Nat} {v:AV} (h:UX ext σb σ i l fl rest j js j5 s v) (sn:SN σ' i l fl rest j') (fr:Fr σ i l j σ' l j'):UX ext σb σ' i l fl rest j' js j5 s v:=
 ⟨h.sx.step sn fr,by rw [fr.blk j5 h.ei h.ej (by rw [h.row];simp),h.row],h.x5,h.ei,fr.apart h.ej (by rw [h.row];simp),h.es,h.own.fr fr,h.len,h.bd⟩
theorem UX.see {ext:Nat->Option (List AV)} {σb σ:AI} {i j js j5 r:Nat} {l:List Nd} {fl:Bool} {rest:List AV} {s:List Bool×List Nat} {v:AV} (h:UX ext σb σ i l fl rest j js j5 s v) (hr:s.1[r]?=some false):UX ext σb (σ.AP js (BX (s.1.set r true))) i l fl rest j js j5 (s.1.set r true,s.2) v:=by
 have:=AD1 hr;exact ⟨h.sx.set _,by rw [AK,if_neg h.es,h.row],h.x5,h.ei,h.ej,h.es,h.own.JK ⟨fun _ _ h=>(by cases h),h.own.le.tok,h.own.le.gt,h.own.le.bt⟩ (fun _ _ h=>h),by simp [h.len],by have:=h.bd;simp only;omega⟩
theorem UX.put {ext:Nat->Option (List AV)} {σb σ σ':AI} {i j js j5 r:Nat} {l:List Nd} {fl:Bool} {rest:List AV} {sn:List Bool} {out:List Nat} {v v':AV} (h:UX ext σb σ i l fl rest j js j5 (sn,out) v) (hb:∀k,σ'.blk k=σ.blk k) (ho:Bz (nbH σb) 3 1 ((out++[r]).map By) v' σ') (hd:out.length+1+fz sn<=l.length):UX ext σb (σ'.AP j5 [v']) i l fl rest j js j5 (sn,out++[r]) v':=by
 have hsx:=h.sx;have hxk:∀k c,ext k=some c->k≠j5:=fun k c hk e=>by rw [e,h.x5] at hk;cases hk
 refine ⟨⟨(hsx.sn.own hb).set h.ei h.ej,by rw [AK,if_neg (A9 h.es),hb];exact hsx.row,fun k c hk=>by rw [AK,if_neg (hxk k c hk),hb];exact hsx.x k c hk,hsx.xi,hsx.xj,hsx.xs,hsx.si,hsx.sj⟩,B0,h.x5,h.ei,h.ej,h.es,ho.JK ⟨fun _ _ h=>(by cases h),ho.le.tok,ho.le.gt,ho.le.bt⟩ (fun _ _ h=>h),h.len,by simp;omega⟩
theorem tE (ext:Nat->Option (List AV)) (σb:AI) (i:Nat) (rest:List AV) (l:List Nd) (fl:Bool) (j2 j6 j5 j7 js:Nat) (hln:l.length<=900000000) (h2:ext j2=some [.gp i 0]) (h6:ext j6=some [.ms js l.length 1 eMm]) (h7:ext j7=some [.fn 125 [] [.gp j2 0,.gp j6 0,.gp j5 0,.gp j7 0]]):
 ∀(k:Nat) (s:List Bool×List Nat) (v:AV) (j:Nat) (σ:AI) (n:Nat),fz s.1 < k->n < l.length->UX ext σb σ i l fl rest j js j5 s v->
 AT Tzp 125 [nA n,.gp j2 0,.gp j6 0,.gp j5 0,.gp j7 0] σ (fun _ σ'=>fz (JO l k s n).1<=fz s.1/\∃v' j',UX ext σb σ' i l fl rest j' js j5 (JO l k s n) v'):=by
 intro k
 induction k with
 |zero=>intro s v j σ n h;omega
 |succ k ihk=>
 intro s v j σ n hz hn hs;have hl0:l≠[]:=fun e=>by rw [e] at hn;cases hn
 obtain ⟨sn,out⟩:=s;refine QL (by simp) ?_;rw [show Wh [nA n,.gp j2 0,.gp j6 0,.gp j5 0,.gp j7 0]=put 0 (nA n) (put 1 (.gp j2 0) (put 2 (.gp j6 0) (put 3 (.gp j5 0) (put 4 (.gp j7 0) U)))) from AC0 _ _ _ _ _];have hb2:=hs.sx.x _ _ h2;obtain ⟨x,hx,hxp⟩:=hs.sx.sn.HM.root hn;have hrl:=(AG.1 hx).1;rw [JO];simp only [nA];generalize hr:rtN l n=r at *;(repeat' (first|refine ctQ rfl ?_|((first|refine rgQ mxQ ?_|refine cdQ ?_|(refine A7 rfl (fun h=>?_) (fun h=>?_)<;>try (cases h;done)))<;>try simp only [hb2,go_sem])|(refine ⟨fun h=>?_,fun h=>?_⟩<;>first|(cases h;done)|try simp only [h])|fail));refine AH.mk rfl (HS i j l fl rest σ n hs.sx.sn hn hln) ?_;rintro _ σ1 ⟨rfl,j8,sn8,fr8⟩;rw [hr];simp only [nA];simp only [go_sem];have hs8:=hs.step sn8 fr8;clear hs sn8 fr8 hb2;have hb2:=hs8.sx.x _ _ h2;have hb6:=hs8.sx.x _ _ h6;have hbs:=hs8.sx.row;have hlen:sn.length=l.length:=hs8.len;obtain ⟨b,hb⟩:=Ai (show r < sn.length by omega);have hba:=mY hb;have hrT:=ltT hrl;cases b with
 |true=>
  rw [hb];simp only [AL,Bool.true_eq_false,if_false];(repeat' (first|refine ctQ rfl ?_|((first|refine rgQ mxQ ?_|refine cdQ ?_|refine Run.qP Fh ?_|(refine A7 rfl (fun h=>?_) (fun h=>?_)<;>try (cases h;done)))<;>try simp only [hb6,hbs,hba,hrT,A5,go_sem])|(refine ⟨fun h=>?_,fun h=>?_⟩<;>first|(cases h;done)|try simp only [h])|fail));exact ⟨v,j8,hs8⟩
 |false=>
  rw [if_pos hb];have hle1:(r+1<=(BX sn).length)=True:=by rw [Pd];simp;omega
  have hset:=mZ true (show r < sn.length by omega);have hs9:=hs8.see hb;have hz9:=AD1 hb;have d2:(j2=js)=False:=by simp only [eq_iff_iff,iff_false];intro e;rw [e,hs8.sx.xs] at h2;cases h2
  have di:(i=js)=False:=by simp only [eq_iff_iff,iff_false];exact fun e=>hs8.sx.si e.symm
  have dj:(j8=js)=False:=by simp only [eq_iff_iff,iff_false];exact fun e=>hs8.sx.sj hl0 e.symm
  have d5:(j5=js)=False:=by simp only [eq_iff_iff,iff_false];exact hs8.es
  obtain ⟨hji,c,hrep,hbj⟩:=hs8.sx.sn.nd hl0;have hbi:=hs8.sx.sn.blk;rw [FH hl0] at hbi;obtain ⟨y,hy,yk,yn,ya⟩:=hrep.at hx;obtain ⟨y1,_,y3,_⟩:=Sl hy;rw [yk] at y1;rw [ya] at y3;have hv5:=hs8.row;have hbd:=hs8.bd;simp only at hz hbd hs9;have hbs':σ1.blk js=some (BX sn):=hbs
  -- behind the test
  have hrest:∀(τ:AI) (v4:AV) (j9:Nat) (out4:List Nat),UX ext σb τ i l fl rest j9 js j5 (sn.set r true,out4) v4->
   Run DB (fun _ σ'=>fz (x.ar.foldl (fun s a=>JO l k s a) (sn.set r true,out4)).1<=fz sn/\∃v' j',UX ext σb σ' i l fl rest j' js j5 (x.ar.foldl (fun s a=>JO l k s a) (sn.set r true,out4)) v')
    [.code (.loop H3),.blk 0] (put 4 (.gp j7 0) (put 40 (.d (.sl (x.ar.map By))) (put 41 (.d (.int .i64 (x.ar.length:Int))) (put 42 (.d (.int .i64 0)) U)))) E τ:=by
   intro τ v4 j9 out4 hu;refine Run.slot 40 (fun hsl=>?_);simp only [CR,reduceIte,C4,AV.DW,AA] at hsl;refine Run.At ?_
   refine Run.Au ((fun (a4:AV) (a40:AV) (a41:AV)=>fun (z:Nat×AI)=>put 4 a4 (put 40 a40 (put 41 a41 (put 42 (.d (.int .i64 z.1)) U)))) _ _ _) (fun _=>E) (fun z=>z.2)
    (fun z=>z.1<=x.ar.length/\fz ((x.ar.take z.1).foldl (fun s a=>JO l k s a) (sn.set r true,out4)).1+1<=fz sn/\∃v' j',UX ext σb z.2 i l fl rest j' js j5 ((x.ar.take z.1).foldl (fun s a=>JO l k s a) (sn.set r true,out4)) v')
    (fun z=>x.ar.length - z.1) ?_ (0,τ) ⟨by simp,by simp only [Cn,List.foldl_nil];omega,v4,j9,hu⟩
   rintro ⟨p,τ5⟩ ⟨hp,hfz,v5,j10,hu5⟩ ih;simp only at hp hfz hu5;have hb7:=hu5.sx.x _ _ h7;by_cases hlt:p < x.ar.length
   . obtain ⟨a,ha⟩:=Ai hlt;have har:=Hf ha;have hal:=hu5.sx.sn.HM.ar _ _ hx a (AE ha)
     have hst:(x.ar.take (p+1)).foldl (fun s a=>JO l k s a) (sn.set r true,out4)=JO l k ((x.ar.take p).foldl (fun s a=>JO l k s a) (sn.set r true,out4)) a:=by
      rw [Aa ha,Cq];rfl
     have hw1:IntKind.i64.wrap ((p:Int)+1)=((p+1:Nat):Int):=by rw [Ax (by omega) (by omega)];omega
     have hcall:=ihk _ v5 j10 τ5 a (by omega) hal hu5;simp only [nA] at hcall;(repeat' (first|refine ctQ rfl ?_|((first|refine rgQ mxQ ?_|refine cdQ ?_|(refine A7 rfl (fun h=>?_) (fun h=>?_)<;>try (cases h;done)))<;>try simp only [Ag hlt,har,hb7,go_sem])|(refine ⟨fun h=>?_,fun h=>?_⟩<;>first|(cases h;done)|try simp only [h])|fail));refine ⟨125,[],[.gp j2 0,.gp j6 0,.gp j5 0,.gp j7 0],rfl,by kernel_rfl,AH.mk rfl hcall ?_⟩;rintro v6 τ6 ⟨hz6,v7,j11,hu6⟩;simp only [go_sem];(repeat' (first|refine ctQ rfl ?_|((first|refine rgQ mxQ ?_|refine cdQ ?_|(refine A7 rfl (fun h=>?_) (fun h=>?_)<;>try (cases h;done)))<;>try simp only [hw1,go_sem])|(refine ⟨fun h=>?_,fun h=>?_⟩<;>first|(cases h;done)|try simp only [h])|fail));exact ih ⟨p+1,τ6⟩ ⟨hlt,by simp only [hst];omega,v7,j11,by simp only [hst];exact hu6⟩ (by simp only;omega)
   . have hpe:p=x.ar.length:=by omega
     subst hpe;rw [BR] at hfz hu5;(repeat' (first|refine ctQ rfl ?_|((first|refine rgQ mxQ ?_|refine cdQ ?_|(refine A7 rfl (fun h=>?_) (fun h=>?_)<;>try (cases h;done)))<;>try simp only [B5 hlt,go_sem])|(refine ⟨fun h=>?_,fun h=>?_⟩<;>first|(cases h;done)|try simp only [h])|fail));exact Run.fin Fh rfl (fun _ _ h=>h) (AI.le_refl _) ⟨by omega,v5,j10,hu5⟩
  simp only [hx,Ah,BC,AL];by_cases hk0:x.k=0
  . rw [if_pos hk0];have hkb:(x.k==0)=true:=by simpa using hk0
    have how:=hs9.own;(repeat' (first|refine ctQ rfl ?_|((first|refine rgQ mxQ ?_|refine cdQ ?_|(refine A7 rfl (fun h=>?_) (fun h=>?_)<;>try (cases h;done)))<;>try simp only [hb6,hbs,hba,hrT,A5,hle1,hset,d2,di,dj,d5,hb2,hbi,hbj,y1,hkb,hv5,how.BE,how.BV,how.cells,how.cell,go_sem])|(refine ⟨fun h=>?_,fun h=>?_⟩<;>first|(cases h;done)|try simp only [h])|fail));refine DD.own how rfl (by simp) (by simp;omega) (by omega) (fun v' τ3 ho' hb'=>?_);have h35:τ3.blk j5=some [v]:=by rw [hb'];exact hs9.row
    simp only [ho'.BE,ho'.BV,ho'.cells,ho'.cell,h35,go_sem];have hu:=hs9.put (r:=r) hb' (by rw [Ay];exact ho') (by omega);have hb2':=hu.sx.x _ _ h2;obtain ⟨_,c',hrep',hbj'⟩:=hu.sx.sn.nd hl0;have hbi':=hu.sx.sn.blk;rw [FH hl0] at hbi';obtain ⟨y',hy',_,_,ya'⟩:=hrep'.at hx;obtain ⟨_,_,y3',_⟩:=Sl hy';rw [ya'] at y3';have hre:=hrest _ v' j8 _ hu;generalize τ3.AP j5 [v']=τ4 at *;(repeat' (first|refine ctQ rfl ?_|((first|refine rgQ mxQ ?_|refine cdQ ?_|(refine A7 rfl (fun h=>?_) (fun h=>?_)<;>try (cases h;done)))<;>try simp only [hb2',hrT,hbi',hbj',y3',AA,go_sem])|(refine ⟨fun h=>?_,fun h=>?_⟩<;>first|(cases h;done)|try simp only [h])|fail));exact hre
  . rw [if_neg hk0];have hkb:(x.k==0)=false:=by simpa using hk0
    have how:=hs9.own;(repeat' (first|refine ctQ rfl ?_|((first|refine rgQ mxQ ?_|refine cdQ ?_|(refine A7 rfl (fun h=>?_) (fun h=>?_)<;>try (cases h;done)))<;>try simp only [hb6,hbs,hba,hrT,A5,hle1,hset,d2,di,dj,d5,hb2,hbi,hbj,y1,y3,hkb,hv5,AA,go_sem])|(refine ⟨fun h=>?_,fun h=>?_⟩<;>first|(cases h;done)|try simp only [h])|fail));exact hrest _ v j8 _ hs9
end Go.Ab
namespace Go.Ab
open Go.Proofs
theorem VB (G:GC) (k:Ex) (env:Env) (f:Nat->Nat->SS->SS):∀(ks:List Ex) (i:Nat) (g:GS),DC G (ks++[k]) env i f g= { (Bg G k env (DC G ks env i f g)).2 with s:=f (i+ks.length) (Bg G k env (DC G ks env i f g)).1 (Bg G k env (DC G ks env i f g)).2.s}
 |[],i,g=>by simp [DC]
 |u::ks,i,g=>by
  rw [AZ,DC];simp only [VB G k env f ks];simp only [DC,A1];rw [show i+1+ks.length=i+(ks.length+1) from by omega]
structure KS (B:GB) (σ:AI) (g:GS) (ks:List Ex) (g':GS) (σ':AI):Prop where
 nb:(nbH σ).le σ'
 gx:∃j jc,GX B σ' g' j jc
 le:g.nx<=g'.nx
 hi:g'.nx<=g.nx+1000000 * Ex.AU ks
 en:g'.en.length=g.en.length+Ex.AU ks
theorem KS.nil {B:GB} {σ:AI} {g:GS} {j jc:Nat} (h:GX B σ g j jc):KS B σ g [] g σ:=⟨IZ σ,⟨j,jc,h⟩,AW _,by simp [Ex.AU],by simp [Ex.AU]⟩
theorem KS.snoc {B:GB} {σ τ τ':AI} {g g1 g2 g3:GS} {ks:List Ex} {p n:Nat} {k:Ex} (hk:ks[p]?=some k) (h:KS B σ g (ks.take p) g1 τ) (q:RQ B τ g1 n (1000000 * k.size) k.size g2 τ') {τ2:AI} {j jc:Nat} (hn:(nbH τ').le τ2) (hg:GX B τ2 g3 j jc) (h1:g2.nx<=g3.nx) (h2:g3.nx<=g2.nx+500000) (h3:g3.en.length=g2.en.length):KS B σ g (ks.take (p+1)) g3 τ2:=by
 obtain ⟨hz1,hz2⟩:=Ex.Iz hk;have a1:=h.le;have a2:=h.hi;have a3:=h.en;have b1:=q.le;have b2:=q.hi;have b3:=q.en;exact ⟨BD (BD h.nb q.nb) hn,⟨j,jc,hg⟩,by omega,by omega,by omega⟩
def opF:Nat->Nat->SS->SS:=fun _ r s=>Go.Ab.uni (LY s.1 1 0 [],s.2) r s.1.length
theorem ABD (B:GB) (hB:H7 B) (nm:Str) (nu:Int) (ns:List Str) (ks:List Ex) (al:List Al) (hk:∀k∈ks,ExC B k) (sc:List Str) (env:Env) (g:GS) (σ:AI) (j jc:Nat) (hok:∀k∈ks,OkE B.G k sc) (hes:ES sc env g) (hnx:g.nx+1000000 * (1+Ex.AU ks)<=900000000) (hen:g.en.length+Ex.AU ks<=900000000) (hg:GX B σ g j jc):
 AT Tzp 97 [.gp B.i 0,exA (.mk 13 nm nu ns ks al),.d (J9 env)] σ (fun v σ'=>v=nA (DC B.G ks env 0 opF g).nx/\RQ B σ g (DC B.G ks env 0 opF g).nx (1000000 * (1+Ex.AU ks)) (Ex.AU ks) ((DC B.G ks env 0 opF g).add (if 6<=nu/\nu<=8 then 2 else 1) 0 []) σ'):=by
 have hkl:=Ex.Bl ks;refine Ti (by simp) ?_;rw [Dm];simp only [exA,Ex.A2,AD,AJ];(repeat' (refine wQ mxQ rfl ?_<;>try simp only [AA,go_sem]));refine Run.At ?_
 refine Run.Au ((fun (a0:AV) (a2:AV) (a4:AV) (a10:AV) (a11:AV)=>fun (z:Nat×AI)=>put 0 a0 (put 2 a2 (put 4 a4 (put 10 a10 (put 11 a11 (put 12 (.d (.int .i64 z.1)) U)))))) _ _ _ _ _) (fun _=>Am 4 [.d (.int .i64 13),.d (.str nm),.d (.int .i64 nu),.d (.sl (ns.map BF)),.d (.sl (ks.map Ex.enc)),.d (.sl (al.map Al.enc))] E) (fun z=>z.2)
  (fun z=>z.1<=ks.length/\KS B σ g (ks.take z.1) (DC B.G (ks.take z.1) env 0 opF g) z.2)
  (fun z=>ks.length - z.1) ?_ (0,σ) ⟨by simp,by simp only [Cn,DC];exact KS.nil hg⟩
 rintro ⟨p,τ⟩ ⟨hp,hr⟩ ih;simp only at hp hr;by_cases hlt:p < ks.length
 . obtain ⟨k,hke⟩:=Ai hlt;have he:=Av (enc:=Ex.enc) hke;have hw1:=A4 (show p+1<=9000000000000000000 by omega);obtain ⟨hz1,hz2⟩:=Ex.Iz hke;have hsn:=VB B.G k env opF (ks.take p) 0 g;rw [<- Aa hke] at hsn;generalize DC B.G (ks.take p) env 0 opF g=q at *;obtain ⟨j1,jc1,hg1⟩:=hr.gx;have hhi:=hr.hi;have hle:=hr.le;have hen1:=hr.en;have hmem:=AE hke;have hc:=hk k hmem sc env q τ j1 jc1 (hok k hmem) (hes.le hle) (by omega) (by omega) hg1;generalize Bg B.G k env q=r at *;have hke':=hke;obtain ⟨o,n,u,ns',kk,al'⟩:=k;simp only [Ex.A2,exA,AD,AJ] at he hc;(repeat' (first|refine ctQ rfl ?_|((first|refine rgQ mxQ ?_|refine cdQ ?_|(refine A7 rfl (fun h=>?_) (fun h=>?_)<;>try (cases h;done)))<;>try simp only [Ag hlt,he,go_sem])|(refine ⟨fun h=>?_,fun h=>?_⟩<;>first|(cases h;done)|try simp only [h])|fail));refine AH.mk rfl hc ?_;rintro _ τ1 ⟨rfl,hq⟩;simp only [nA];simp only [go_sem];obtain ⟨j2,jc2,hg2⟩:=hq.gx;have hql':=hq.le;have hqh:=hq.hi;have hrl:r.2.s.1.length=r.2.nx:=rfl;refine AH.mk rfl (Bs B.i j2 r.2.s.1 r.2.s.2 B.rest τ1 1 .Ae [] hg2.sn SB.Ae (by simp) (by omega)) ?_;intro v3 τ2 q3;obtain ⟨e3,hn3,j3,hg3⟩:=hg2.add hB q3;subst e3;simp only [nA];simp only [go_sem]
   refine AH.mk rfl (C0 B.i B.rest _ _ (r.2.add 1 0 []).s.2 j3 r.1 r.2.s.1.length τ2 (O7 (r.2.add 1 0 []).s.1) hg3.sn (by have:=hq.lt;have:=Cz r.2 1 0 [];simp only [GS.nx] at this ⊢;simp only [GS.nx] at *;omega) (by have:=Cz r.2 1 0 [];simp only [GS.nx] at this;omega) (by have:=Cz r.2 1 0 [];simp only [GS.nx] at this;omega)) ?_;intro v4 τ3 q4;obtain ⟨hn4,j4,hg4⟩:=hg3.uni hB q4;simp only [go_sem];(repeat' (first|refine ctQ rfl ?_|((first|refine rgQ mxQ ?_|refine cdQ ?_|(refine A7 rfl (fun h=>?_) (fun h=>?_)<;>try (cases h;done)))<;>try simp only [hw1,go_sem])|(refine ⟨fun h=>?_,fun h=>?_⟩<;>first|(cases h;done)|try simp only [h])|fail));refine ih ⟨p+1,τ3⟩ ⟨hlt,?_⟩ (by simp only;omega);simp only [hsn];exact hr.snoc hke' hq (BD hn3 hn4) hg4 (show _<=((r.2.add 1 0 []).uni r.1 r.2.s.1.length).nx from by rw [NC,Cz];omega) (show ((r.2.add 1 0 []).uni r.1 r.2.s.1.length).nx<=_ from by rw [NC,Cz];omega) rfl
 . have hpe:p=ks.length:=by omega
   subst hpe;rw [BR] at hr;obtain ⟨j1,jc1,hg1⟩:=hr.gx;have hhi:=hr.hi;have hle:=hr.le;have hen1:=hr.en;generalize DC B.G ks env 0 opF g=q at *;have hql:q.s.1.length=q.nx:=rfl;have hfm:=fun k=>Bs B.i j1 q.s.1 q.s.2 B.rest τ k .Ae [] hg1.sn SB.Ae (by simp) (by omega)
   have hfin:∀k v σ',SNQ τ B.i q.s.1 B.rest j1 (LY q.s.1 k 0 [],q.s.2) (nA q.s.1.length) v σ'->RQ B σ g q.nx (1000000 * (1+Ex.AU ks)) (Ex.AU ks) (q.add k 0 []) σ':=fun k v σ' q3=>by
    obtain ⟨e3,hn3,j3,hg3⟩:=hg1.add hB q3;exact ⟨BD hr.nb hn3,⟨j3,jc1,hg3⟩,by rw [Cz];omega,by rw [Cz];omega,by rw [Cz];omega,hen1⟩
   by_cases hc:6<=nu/\nu<=8
   . rw [if_pos hc];have hcs:nu=6\/nu=7\/nu=8:=by omega
     rcases hcs with rfl|rfl|rfl<;>
     . (repeat' (first|((first|refine wQ mxQ rfl ?_|refine Run.qP D7 ?_|(refine A7 rfl (fun h=>?_) (fun h=>?_)<;>try (cases h;done))|fail)<;>try simp only [B5 hlt,go_sem])|(refine ⟨fun h=>?_,fun h=>?_⟩<;>first|(cases h;done)|try simp only [h])|fail));refine AH.mk rfl (hfm 2) ?_;intro v σ' q3;have hq:=hfin 2 v σ' q3;obtain ⟨e3,_⟩:=q3;subst e3;simp only [nA];simp only [go_sem];(repeat' ((first|refine wQ mxQ rfl ?_|refine Run.qP D7 ?_|fail)<;>try simp only [go_sem]));exact ⟨rfl,hq⟩
   . rw [if_neg hc];have b6:(nu==6)=false:=by simp;omega
     have b7:(nu==7)=false:=by simp;omega
     have b8:(nu==8)=false:=by simp;omega
     (repeat' ((first|refine wQ mxQ rfl ?_|refine Run.qP D7 ?_|fail)<;>try simp only [B5 hlt,b6,b7,b8,go_sem]));refine AH.mk rfl (hfm 1) ?_;intro v σ' q3;have hq:=hfin 1 v σ' q3;obtain ⟨e3,_⟩:=q3;subst e3;simp only [nA];simp only [go_sem];(repeat' ((first|refine wQ mxQ rfl ?_|refine Run.qP D7 ?_|fail)<;>try simp only [go_sem]));exact ⟨rfl,hq⟩
def prF (nu:Int) (b:Nat):Nat->Nat->SS->SS:=fun i r s=>Go.Ab.uni s r ((Z2 nu b).1.getD i 0)
theorem AG5 {nu:Int} {b:Nat}:(∀a∈(Z2 nu b).1,a < b+5)/\(Z2 nu b).2 < b+5:=by
 unfold Z2
 repeat' split
 all_goals simp<;>omega
theorem AJ8 (B:GB) (hB:H7 B) (nm:Str) (nu:Int) (ns:List Str) (ks:List Ex) (al:List Al) (hk:∀k∈ks,ExC B k) (sc:List Str) (env:Env) (b:Nat) (g:GS) (σ:AI) (j jc:Nat) (hb:g.nx=b+5) (hl:ks.length<=(Z2 nu b).1.length) (hok:∀k∈ks,OkE B.G k sc) (hes:ES sc env g) (hnx:g.nx+1000000 * Ex.AU ks<=900000000) (hen:g.en.length+Ex.AU ks<=900000000) (hg:GX B σ g j jc)
 (Q:AV->AI->Prop) (hQ:∀σ',KS B σ g ks (DC B.G ks env 0 (prF nu b) g) σ'->Q (nA (Z2 nu b).2) σ'):
 Run D0 Q [.code (.loop IQ),.blk 1,.code (.seq (.reg [⟨some 100,.mv (.t 12),none⟩,⟨some 6,.mv (.t 100),none⟩] [6]) .ret)]
  (put 0 (.gp B.i 0) (put 2 (.d (J9 env)) (put 11 (.d (.sl ((Z2 nu b).1.map By))) (put 12 (nA (Z2 nu b).2) (put 80 (.d (.sl (ks.map Ex.enc))) (put 81 (.d (.int .i64 (ks.length:Nat))) (put 82 (.d (.int .i64 0)) U))))))) E σ:=by
 have hkl:=Ex.Bl ks;refine Run.At ?_
 refine Run.Au ((fun (a0:AV) (a2:AV) (a11:AV) (a12:AV) (a80:AV) (a81:AV)=>fun (z:Nat×AI)=>put 0 a0 (put 2 a2 (put 11 a11 (put 12 a12 (put 80 a80 (put 81 a81 (put 82 (.d (.int .i64 z.1)) U))))))) _ _ _ _ _ _) (fun _=>E) (fun z=>z.2)
  (fun z=>z.1<=ks.length/\KS B σ g (ks.take z.1) (DC B.G (ks.take z.1) env 0 (prF nu b) g) z.2)
  (fun z=>ks.length - z.1) ?_ (0,σ) ⟨by simp,by simp only [Cn,DC];exact KS.nil hg⟩
 rintro ⟨p,τ⟩ ⟨hp,hr⟩ ih;simp only at hp hr;by_cases hlt:p < ks.length
 . obtain ⟨k,hke⟩:=Ai hlt;have he:=Av (enc:=Ex.enc) hke;have hw1:=A4 (show p+1<=9000000000000000000 by omega);obtain ⟨hz1,hz2⟩:=Ex.Iz hke;have hsn:=VB B.G k env (prF nu b) (ks.take p) 0 g;rw [<- Aa hke] at hsn;generalize DC B.G (ks.take p) env 0 (prF nu b) g=q at *;obtain ⟨j1,jc1,hg1⟩:=hr.gx;have hhi:=hr.hi;have hle:=hr.le;have hen1:=hr.en;have hmem:=AE hke;have hc:=hk k hmem sc env q τ j1 jc1 (hok k hmem) (hes.le hle) (by omega) (by omega) hg1;generalize Bg B.G k env q=r at *;obtain ⟨u,hu⟩:=Ai (show p < (Z2 nu b).1.length by omega);have hur:=Hf hu;have hul:=(AG5 (nu:=nu) (b:=b)).1 u (AE hu);have hke':=hke;obtain ⟨o,n,u',ns',kk,al'⟩:=k;simp only [Ex.A2,exA,AD,AJ] at he hc;simp only [nA] at ih ⊢;(repeat' (first|refine ctQ rfl ?_|((first|refine rgQ mxQ ?_|refine cdQ ?_|(refine A7 rfl (fun h=>?_) (fun h=>?_)<;>try (cases h;done)))<;>try simp only [Ag hlt,he,go_sem])|(refine ⟨fun h=>?_,fun h=>?_⟩<;>first|(cases h;done)|try simp only [h])|fail));refine Run.Jf mixed ?_;simp only [hur,go_sem];refine ⟨?_,?_⟩<;>
   . refine AH.mk rfl hc ?_;rintro _ τ1 ⟨rfl,hq⟩;simp only [nA];simp only [hur,go_sem];obtain ⟨j2,jc2,hg2⟩:=hq.gx;have hql':=hq.le;have hqh:=hq.hi;have hrl:r.2.s.1.length=r.2.nx:=rfl;refine AH.mk rfl (C0 B.i B.rest _ _ r.2.s.2 j2 r.1 u τ1 (O7 r.2.s.1) hg2.sn hq.lt (by omega) (by omega)) ?_;intro v4 τ3 q4;obtain ⟨hn4,j4,hg4⟩:=hg2.uni hB q4;simp only [go_sem];(repeat' (refine wQ mxQ rfl ?_<;>try simp only [hw1,go_sem]));refine ih ⟨p+1,τ3⟩ ⟨hlt,?_⟩ (by simp only;omega)
     have hpf:prF nu b (0+(ks.take p).length) r.1 r.2.s=Go.Ab.uni r.2.s r.1 u:=by
      rw [prF,show 0+(ks.take p).length=p from by simp;omega,Ac,hu];rfl
     simp only [hsn,hpf];exact hr.snoc hke' hq hn4 hg4 (show _<=(r.2.uni r.1 u).nx from by rw [NC];omega) (show (r.2.uni r.1 u).nx<=_ from by rw [NC];omega) rfl
 . have hpe:p=ks.length:=by omega
   subst hpe;rw [BR] at hr;have:=hQ τ hr;simp only [nA] at this ⊢;(repeat' ((first|refine wQ mxQ rfl ?_|refine Run.qP DU ?_|fail)<;>try simp only [B5 hlt,go_sem]));exact this
end Go.Ab
namespace Go.Ab
open Go.Proofs
def prG (g:GS):GS:=((((g.add 1 0 []).add 0 0 []).add 7 0 [g.nx+1]).add 8 0 [g.nx+1]).add 3 0 []
theorem AUE (g:GS):(prG g).nx=g.nx+5:=by simp [prG,Cz]
def Xv (G:GC) (nu:Int) (ks:List Ex) (env:Env) (g:GS):Nat×GS:=((Z2 nu g.nx).2,DC G ks env 0 (prF nu g.nx) (prG g))
theorem AF1 (B:GB) (hB:H7 B) (nm:Str) (nu:Int) (ns:List Str) (ks:List Ex) (al:List Al) (hk:∀k∈ks,ExC B k) (sc:List Str) (env:Env) (g:GS) (σ:AI) (j jc:Nat) (hnu:1<=nu/\nu<=7) (hl:ks.length=Zr nu) (hok:∀k∈ks,OkE B.G k sc) (hes:ES sc env g) (hnx:g.nx+1000000 * (1+Ex.AU ks)<=900000000) (hen:g.en.length+Ex.AU ks<=900000000) (hg:GX B σ g j jc):
 AT Tzp 98 [.gp B.i 0,exA (.mk 14 nm nu ns ks al),.d (J9 env)] σ (fun v σ'=>v=nA (Xv B.G nu ks env g).1/\RQ B σ g (Xv B.G nu ks env g).1 (1000000 * (1+Ex.AU ks)) (Ex.AU ks) (Xv B.G nu ks env g).2 σ'):=by
 have hkl:=Ex.Bl ks;generalize hQ:(fun v σ'=>v=nA (Xv B.G nu ks env g).1/\RQ B σ g (Xv B.G nu ks env g).1 (1000000 * (1+Ex.AU ks)) (Ex.AU ks) (Xv B.G nu ks env g).2 σ')=Q;have n1:=Cz g 1 0 [];have n2:=Cz (g.add 1 0 []) 0 0 [];have n3:=Cz ((g.add 1 0 []).add 0 0 []) 7 0 [g.nx+1];have n4:=Cz (((g.add 1 0 []).add 0 0 []).add 7 0 [g.nx+1]) 8 0 [g.nx+1];have l0:g.s.1.length=g.nx:=rfl;refine S8 (by simp) ?_;rw [Dm];simp only [exA,Ex.A2,AD,AJ];(repeat' ((first|refine wQ mxQ rfl ?_|refine Run.qP DU ?_|fail)<;>try simp only [go_sem]));refine AH.mk rfl (Bs B.i j g.s.1 g.s.2 B.rest σ 1 .Ae [] hg.sn SB.Ae (by simp) (by omega)) ?_;intro v τ1 q;obtain ⟨rfl,h1,j1,hg1⟩:=hg.add hB q;clear q;rw [l0];simp only [nA];simp only [go_sem];have l1:(g.add 1 0 []).s.1.length=g.nx+1:=n1;refine AH.mk rfl (GR B.i j1 (g.add 1 0 []).s.1 (g.add 1 0 []).s.2 B.rest τ1 hg1.sn (by omega)) ?_;intro v τ2 q;obtain ⟨rfl,h2,j2,hg2⟩:=hg1.add hB q;clear q;rw [l1];simp only [nA];simp only [go_sem];(repeat' ((first|refine wQ mxQ rfl ?_|refine Run.qP DU ?_|fail)<;>try simp only [go_sem]));have l2:((g.add 1 0 []).add 0 0 []).s.1.length=g.nx+2:=n2.trans (by omega)
 have hrow:SB (.d (.sl [[.int .i64 ((g.nx+1:Nat):Int)]])) ([g.nx+1].map By):=SB.d _;refine AH.mk rfl (Bs B.i j2 _ ((g.add 1 0 []).add 0 0 []).s.2 B.rest τ2 7 _ [g.nx+1] hg2.sn hrow (by simp only [A6];intro a ha;subst ha;omega) (by omega)) ?_;intro v τ3 q;obtain ⟨rfl,h3,j3,hg3⟩:=hg2.add hB q;clear q;rw [l2];simp only [nA];simp only [go_sem];have l3:(((g.add 1 0 []).add 0 0 []).add 7 0 [g.nx+1]).s.1.length=g.nx+3:=by have:=n3;simp only [GS.nx] at this ⊢;omega
 refine AH.mk rfl (Bs B.i j3 _ (((g.add 1 0 []).add 0 0 []).add 7 0 [g.nx+1]).s.2 B.rest τ3 8 _ [g.nx+1] hg3.sn hrow (by simp only [A6];intro a ha;subst ha;omega) (by omega)) ?_;intro v τ4 q;obtain ⟨rfl,h4,j4,hg4⟩:=hg3.add hB q;clear q;rw [l3];simp only [nA];simp only [go_sem];(repeat' ((first|refine wQ mxQ rfl ?_|refine Run.qP DU ?_|fail)<;>try simp only [go_sem]));have l4:((((g.add 1 0 []).add 0 0 []).add 7 0 [g.nx+1]).add 8 0 [g.nx+1]).s.1.length=g.nx+4:=by have:=n4;simp only [GS.nx] at this l3 ⊢;omega
 refine AH.mk rfl (Bs B.i j4 _ ((((g.add 1 0 []).add 0 0 []).add 7 0 [g.nx+1]).add 8 0 [g.nx+1]).s.2 B.rest τ4 3 .Ae [] hg4.sn SB.Ae (by simp) (by omega)) ?_;intro v τ5 q;obtain ⟨rfl,h5,j5,hg5⟩:=hg4.add hB q;clear q;rw [l4];simp only [nA];simp only [go_sem];have hnb:(nbH σ).le τ5:=BD (BD (BD (BD h1 h2) h3) h4) h5;have hg5':GX B τ5 (prG g) j5 jc:=hg5;have h5n:=AUE g;have hlp:=fun h Q' hQ'=>AJ8 B hB nm nu ns ks al hk sc env g.nx (prG g) τ5 j5 jc h5n h hok (hes.le (by omega)) (by omega) hen hg5' Q' hQ'
 have hfin:∀σ',KS B τ5 (prG g) ks (DC B.G ks env 0 (prF nu g.nx) (prG g)) σ'->Q (nA (Z2 nu g.nx).2) σ':=fun σ' h=>by
  rw [<- hQ];have a1:=h.le;have a2:=h.hi;have a3:=(AG5 (nu:=nu) (b:=g.nx)).2;exact ⟨rfl,BD hnb h.nb,h.gx,by simp only [Xv];omega,by simp only [Xv];omega,by simp only [Xv];omega,h.en⟩
 have hcs:nu=1\/nu=2\/nu=3\/nu=4\/nu=5\/nu=6\/nu=7:=by omega
 rcases hcs with rfl|rfl|rfl|rfl|rfl|rfl|rfl<;>
 . have:=hlp (by rw [hl];simp [Zr,Z2]) Q hfin;(repeat' (first|((first|refine wQ mxQ rfl ?_|(refine A7 rfl (fun h=>?_) (fun h=>?_)<;>try (cases h;done))|fail)<;>try simp only [AA,go_sem])|(refine ⟨fun h=>?_,fun h=>?_⟩<;>first|(cases h;done)|try simp only [h])|fail));exact this
end Go.Ab
