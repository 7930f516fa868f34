/- Part Ve. Conditions: none. -/
import Derived.Test.YtfppaadffckcoaaGreatXSv
set_option linter.unusedSimpArgs false
set_option linter.unusedVariables false
set_option maxRecDepth 100000
set_option maxHeartbeats 40000000
open Go.Proofs.Tryz renaming prog→Tzp
open Except.ok renaming injEq→Db
open Except renaming map→C3
open List renaming mem_cons→Ar,getElem?_eq_some_iff→AG,length_map→AA,take_append_drop→Ad,mem_of_getElem?→AE,length_nil→CG,replicate→AF,length_cons→A1,length_replicate→V8,length_pos_iff→Ji,contains_iff_mem→Ak,take_of_length_le→AM,getElem?_map→Aj,map_cons→AD,map_nil→AJ,getElem?_take→B2,getElem?_drop→BT,all_cons→Bk,all_nil→GM,drop_of_length_le→TB,nil_append→As,cons_append→AZ,mem_cons_self→AS,mem_cons_of_mem→AR,getD_eq_getElem?_getD→Ac,flatMap_cons→EE,mem_append→A0,getElem?_append_left→BQ,length_drop→Cm,getElem?_append_right→BL,getElem?_cons_zero→BM,append_nil→BW,append_assoc→Az,length_append→AX,mem_singleton→A6,take→Ek,drop→EG,eq_nil_of_length_eq_zero→BP,drop_zero→TC,drop_drop→FN,all_eq_true→A8,length_take→B4,mem_of_mem_take→D5,sum_cons→FK,foldlM_cons→OP,mem_map_of_mem→Zd,getElem?_set→B3,ext_getElem?→FO,set_eq_take_append_cons_drop→AK9,replicate_succ→B1,flatten_cons→BU,range→BA,filter_append→Qh,length_filter_le→MW,length_set→LW,map_append→Ay,length_singleton→EH,getElem?_set_self→BI,getElem?_set_ne→BG,countP_cons→GH,countP_le_length→V7,mem_range→CJ,foldl_cons→Ao,getElem?_eq_getElem→BB,getElem_mem→H8,set_cons_succ→CU,take_length_add_append→aC,drop_length_add_append→HX
open Nat renaming zero_add→BJ,mul_one→A5,strongRecOn→Qe,lt_or_ge→C7,le_refl→AW,add_sub_cancel_left→R3,zero_mul→OR,min_eq_left→Dd,le_trans→Ap,add_zero→CC
open Bool renaming and_false→CT,not_false→FL,and_true→B7,true_or→ON,false_and→Bp,true_and→BY,and_self→Wa,and_eq_true→AO,not_not→OM,eq_iff_iff→An,or_eq_true→DI,false_or→EU,false_eq_true→A3,or_false→H2
open Option renaming map_eq_some_iff→AN,isSome_some→CX,isSome_none→CW,bind_eq_bind→AQ,bind_eq_some_iff→AB,isSome_iff_exists→JI,map_some→Ah,getD_some→BC
open Int renaming reduceBEq→AY,reduceToNat→E0
open Ne renaming symm→A9
open Option.some renaming injEq→AL
open Prod.mk renaming injEq→Bb
namespace Go.Ab
open Go.Proofs
def tG (dt:List Dat) (σ:AI) (xs:List (Nat×Nat)) (v:AV) (τ:AI):Prop:=
 (xs=[]/\v= .Ae/\τ=σ)\/(xs≠[]/\∃k e,σ.blk k=none/\v= .ms k (IY dt (Dk xs)) 1 e/\τ=σ.AP k (BX (flg xs (Dk xs) (IY dt (Dk xs)))))
theorem tG.le {dt:List Dat} {σ τ:AI} {xs:List (Nat×Nat)} {v:AV} (h:tG dt σ xs v τ):σ.le τ:=by
 rcases h with ⟨_,_,rfl⟩|⟨_,k,e,hk,_,rfl⟩
 . exact AI.le_refl _
 . exact CQ hk
theorem pH {dt:List Dat} {d:Nat} {x:Dat} (h:dt[d]?=some x):IY dt d=x.cons.length:=by simp [IY,h]
theorem Y2 {dt:List Dat}:∀ {l:List Al} {xs:List (Nat×Nat)},CY dt l= .ok xs->∀x∈xs,x.2 < IY dt x.1
 |[],xs,h=>by simp only [CY,Db] at h;subst h;simp
 | .mk c vs b::l,xs,h=>by
  rw [CY] at h;cases hc:EV dt c with
  |none=>rw [hc] at h;cases h
  |some x=>
   rw [hc] at h;simp only at h;split at h
   . cases h
   . split at h
     . cases h
     . cases hl:CY dt l with
       |error e=>rw [hl] at h;cases h
       |ok ys=>
        rw [hl] at h;simp only [C3,Db] at h;subst h;intro y hy;rcases Ar.1 hy with rfl|hy
        . obtain ⟨d,cc,h1,h2,_⟩:=Pf hc;rw [pH h1];exact (AG.1 h2).1
        . exact Y2 hl y hy
theorem AQB:exB []=true:=rfl
theorem XR {xs:List (Nat×Nat)} (h:xs≠[]) (y:Nat×Nat):Dk (xs++[y])=Dk xs:=by
 cases xs with
 |nil=>exact absurd rfl h
 |cons x l=>rfl
theorem APM (ds:List DE) (fs:List FE) (dt:List Dat) (hdt:cJ dt) (al:List Al) (σ:AI) (hal:al.length<=1000000):
 AT Tzp 80 [.agg [.d (.sl (ds.map DE.enc)),.d (.sl (fs.map FE.enc)),.d (.sl (dt.map Dat.enc))],.d (.sl (al.map Al.enc))] σ (fun v σ'=>v= .d (.int .i64 (Jm dt al))/\σ'=σ):=by
 refine X4 (by simp) ?_;rw [BK];(repeat' (refine wQ mxQ rfl ?_<;>try simp only [AA,go_sem]));refine Run.At ?_
 refine Run.Au ((fun (a2:AV) (a13:AV) (a14:AV)=>fun (y:Nat×List (Nat×Nat)×AV×AI)=>put 2 a2 (put 5 (.d (.bool (exB y.2.1))) (put 6 (.d (.int .i64 (Dk y.2.1))) (put 7 (y.2.2.1) (put 13 a13 (put 14 a14 (put 15 (.d (.int .i64 y.1)) U))))))) _ _ _) (fun _=>Am 2 [.d (.sl (ds.map DE.enc)),.d (.sl (fs.map FE.enc)),.d (.sl (dt.map Dat.enc))] E) (fun y=>y.2.2.2)
  (fun y=>y.1<=al.length/\y.2.1.length=y.1/\CY dt (al.take y.1)= .ok y.2.1/\tG dt σ y.2.1 y.2.2.1 y.2.2.2) (fun y=>al.length - y.1) ?_ (0,[],.Ae,σ) ⟨by simp,rfl,rfl,.inl ⟨rfl,rfl,rfl⟩⟩
 rintro ⟨i,xs,sv,τ⟩ ⟨hi,hlx,hok,hseen⟩ ih;simp only at hi hlx hok hseen;by_cases hlt:i < al.length
 . obtain ⟨a,ha⟩:=Ai hlt;have he:=Av (enc:=Al.enc) ha;have hw1:=A4 (show i+1<=9000000000000000000 by omega)
   have hall:CY dt al=(CY dt (a::al.drop (i+1))).map (xs++·):=by
    conv=>lhs;rw [<- Ad i al,Bu ha]
    exact Pn dt _ hok
   have hsn:CY dt (al.take (i+1))=(CY dt [a]).map (xs++·):=by
    rw [Aa ha];exact Pn dt _ hok
   obtain ⟨c,vs,o,n,u,ns,ks,aa⟩:=a;rw [CY] at hall hsn;simp only [Al.A2] at he;have hctr:=LV dt hdt c τ;rw [dsA] at hctr;have herr:∀e:Int,CY dt al= .error e->Jm dt al=e:=fun e h=>by rw [Jm,h]
   cases hc:EV dt c with
   |none=>
    rw [hc] at hctr hall;simp only [ZK] at hctr;(repeat' ((first|refine wQ mxQ rfl ?_|(refine Run.Bf C8 hseen.le ?_)|refine AH.det (hctr) ?_|fail)<;>try simp only [Ag hlt,he,go_sem]));rw [herr 3 (by rw [hall];rfl)]
   |some x=>
   rw [hc] at hctr hall hsn;simp only [ZK] at hctr hall hsn;obtain ⟨d,cc,h1,h2,_⟩:=Pf hc;have har:=Uj (s:=[]) h1 h2;have hn:=pH h1;have hdl:=hdt d (AE h1);have hkn:x.2 < d.cons.length:=(AG.1 h2).1;have hd:=PN h1;have hcc:=PM h2;rw [har] at hall hsn;have hix:Xs (.d (.int .i64 (x.1:Int)))=some x.1:=by simp [Xs]
   by_cases hA:vs.length≠cc.args.length
   . rw [if_pos hA] at hall;have hA':((vs.length:Int) != (cc.args.length:Int))=true:=by rw [rN];simpa using hA
     (repeat' ((first|refine wQ mxQ rfl ?_|(refine Run.Bf C8 hseen.le ?_)|refine AH.det (hctr) ?_|fail)<;>try simp only [Ag hlt,he,hd,hcc,AA,FQ,hA',go_sem]));rw [herr 5 (by rw [hall];rfl)]
   rw [if_neg hA] at hall hsn;have hA':((vs.length:Int) != (cc.args.length:Int))=false:=by rw [rN];simpa using hA
   have hrep:=Rp vs τ;cases hB:CP vs with
   |true=>
    rw [hB] at hrep hall;rw [if_pos rfl] at hall;(repeat' ((first|refine wQ mxQ rfl ?_|(refine Run.Bf C8 hseen.le ?_)|refine AH.det (hctr) ?_|refine AH.det (hrep) ?_|fail)<;>try simp only [Ag hlt,he,hd,hcc,AA,FQ,hA',go_sem]));rw [herr 4 (by rw [hall];rfl)]
   |false=>
   rw [hB] at hrep hsn;rw [if_neg (by simp)] at hsn;simp only [CY,C3] at hsn;rw [show xs++[x]=xs++[(x.1,x.2)] from rfl] at hsn;have hgo:∀(sv':AV) (τ':AI),tG dt σ (xs++[(x.1,x.2)]) sv' τ'->_:=fun sv' τ' h=>ih (i+1,xs++[(x.1,x.2)],sv',τ') ⟨by simp only;omega,by simp [hlx],hsn,h⟩ (by simp only;omega);simp only at hgo;have hx2:((x.2:Int) < ((d.cons.length:Nat):Int))=True:=by simp only [eq_iff_iff,iff_true];omega
   rcases hseen with ⟨rfl,rfl,rfl⟩|⟨hne,k,e,hk,rfl,rfl⟩
   . -- the first alternative
     have h0:((i:Int)==0)=true:=by
      simp only [CG] at hlx;subst hlx;rfl
     have hself:((x.1:Int) != (x.1:Int))=false:=by simp
     have hget:=HH (l:=AF d.cons.length false) (k:=x.2) (x:=false) (by simp [hkn]);have w1:=cS (l:=AF d.cons.length false) (k:=x.2) true (by simpa using hkn);simp only [wr,A1,CG,BJ] at w1;have d1:(x.2+(0+1)<=(BX (AF d.cons.length false)).length)=True:=by rw [Pd,V8];simp;omega
     have hlast:∀k e,τ.blk k=none->tG dt τ ([]++[(x.1,x.2)]) (.ms k d.cons.length 1 e) (τ.AP k (BX ((AF d.cons.length false).set x.2 true))):=fun k e hk=>by
      refine .inr ⟨by simp,k,e,hk,by rw [show Dk ([]++[(x.1,x.2)])=x.1 from rfl,hn],?_⟩;rw [show Dk ([]++[(x.1,x.2)])=x.1 from rfl,hn,<- AQP x.1,AGN hkn]
     have e1:exB ([]++[(x.1,x.2)])=true:=by simp [exB]
     rw [e1,show Dk ([]++[(x.1,x.2)])=x.1 from rfl] at hgo;clear hall hsn ih herr;(repeat' ((first|refine wQ mxQ rfl ?_|(refine PC.mk d.cons.length (by omega) (by omega) (fun k hk=>?_))|refine AH.det (hctr) ?_|refine AH.det (hrep) ?_|fail)<;>try simp only [Ag hlt,he,hd,hcc,hw1,AA,FQ,hA',h0,hself,hx2,hget,w1,d1,A5,Y3,AQB,go_sem]));exact hgo _ _ (hlast _ _ (by assumption))
   . have h0:((i:Int)==0)=false:=by
      have:=Ji.2 hne;simp only [beq_eq_false_iff_ne,ne_eq];omega
     have hex:=AAA hne x.1 x.2;rw [XR hne,hex] at hgo
     have hsame:(x.1≠Dk xs\/(Dk xs,x.2)∈xs)->tG dt σ (xs++[(x.1,x.2)]) (.ms k (IY dt (Dk xs)) 1 e) (σ.AP k (BX (flg xs (Dk xs) (IY dt (Dk xs))))):=fun h=>by
      refine .inr ⟨by simp,k,e,hk,by rw [XR hne],?_⟩;rw [XR hne,AMJ h]
     clear hall hsn ih herr;by_cases hf:x.1=Dk xs
     . have hself:((x.1:Int) != (Dk xs:Int))=false:=by simp [hf]
       have hself':(x.1 != Dk xs)=false:=by simpa using hf
       have hnf:IY dt (Dk xs)=d.cons.length:=by rw [<- hf];exact hn
       rw [hnf] at hsame hctr hrep ⊢;have hget:=HH (mC xs (f:=Dk xs) hkn);cases hfl:xs.contains (Dk xs,x.2) with
       |true=>
        rw [hfl] at hget;rw [hself',hfl,Bool.or_true,Bool.not_true,CT] at hgo;(repeat' ((first|refine wQ mxQ rfl ?_|refine AH.det (hctr) ?_|refine AH.det (hrep) ?_|fail)<;>try simp only [Ag hlt,he,hd,hcc,hw1,AA,FQ,hA',h0,hself,hx2,hget,A5,go_sem]));exact hgo _ _ (hsame (.inr (Ak.1 hfl)))
       |false=>
        rw [hfl] at hget;rw [hself',hfl,Bool.or_self,FL,B7] at hgo;have w1:=cS (l:=flg xs (Dk xs) d.cons.length) (k:=x.2) true (by rw [Rc];exact hkn);simp only [wr,A1,CG,BJ] at w1;have d1:(x.2+(0+1)<=(BX (flg xs (Dk xs) d.cons.length)).length)=True:=by rw [Pd,Rc];simp;omega
        (repeat' ((first|refine wQ mxQ rfl ?_|refine AH.det (hctr) ?_|refine AH.det (hrep) ?_|fail)<;>try simp only [Ag hlt,he,hd,hcc,hw1,AA,FQ,hA',h0,hself,hx2,hget,w1,d1,A5,go_sem]));refine hgo _ _ (.inr ⟨by simp,k,e,hk,by rw [XR hne,hnf],?_⟩);rw [XR hne,hnf,AGN hkn,<- hf]
     . have hself:((x.1:Int) != (Dk xs:Int))=true:=by simp only [bne_iff_ne,ne_eq];omega
       have hself':(x.1 != Dk xs)=true:=by simpa using hf
       rw [hself',ON,Bool.not_true,CT] at hgo;(repeat' ((first|refine wQ mxQ rfl ?_|refine AH.det (hctr) ?_|refine AH.det (hrep) ?_|fail)<;>try simp only [Ag hlt,he,hd,hcc,hw1,AA,FQ,hA',h0,hself,A5,go_sem]));exact hgo _ _ (hsame (.inl hf))
 . rw [AM (by omega)] at hok;have hres:Jm dt al=if gL dt xs then 0 else 7:=by rw [Jm,hok]
   rcases hseen with ⟨rfl,rfl,rfl⟩|⟨hne,k,e,hk,rfl,rfl⟩
   . (repeat' ((first|refine wQ mxQ rfl ?_|refine Run.qP C8 ?_|refine AH.det (kG false _) ?_|fail)<;>try simp only [B5 hlt,show exB []=true from rfl,go_sem]));rw [hres];rfl
   . have hbd:=Y2 hok;have hend:=AIB (dt:=dt) hne (fun x hx h=>by rw [<- h];exact hbd x hx)
     have hnl:IY dt (Dk xs)<=1000000:=by
      unfold IY;split
      . rename_i d hd;exact hdt d (AE hd)
      . omega
     have hcb:=fJ (flg xs (Dk xs) (IY dt (Dk xs))) false k e (σ.AP k (BX (flg xs (Dk xs) (IY dt (Dk xs))))) (by simp only [AK,if_true]) (by rw [Rc];omega);rw [Rc] at hcb;cases hB:exB xs with
     |false=>
      rw [hB,Bp] at hend;(repeat' ((first|refine wQ mxQ rfl ?_|(refine Run.Bf C8 (CQ hk) ?_)|fail)<;>try simp only [B5 hlt,hB,go_sem]));rw [hres,hend];rfl
     |true=>
      rw [hB,BY] at hend;cases hC:(flg xs (Dk xs) (IY dt (Dk xs))).any (fun x=>false==x) with
      |true=>
       rw [hC] at hcb hend;(repeat' ((first|refine wQ mxQ rfl ?_|(refine Run.Bf C8 (CQ hk) ?_)|refine AH.det (hcb) ?_|fail)<;>try simp only [B5 hlt,hB,go_sem]));rw [hres,hend];rfl
      |false=>
       rw [hC] at hcb hend;(repeat' ((first|refine wQ mxQ rfl ?_|(refine Run.Bf C8 (CQ hk) ?_)|refine AH.det (hcb) ?_|fail)<;>try simp only [B5 hlt,hB,go_sem]));rw [hres,hend];rfl
end Go.Ab
namespace Go.Ab
open Go.Proofs
def Oj (e:Ex):Prop:=(e.op=4->e.name≠[])/\(e.op=12->∃h t,e.kids=h::t/\(h.op=4->h.name≠[]))/\e.alts.length<=1000000/\e.kids.length<=1000000
theorem AGQ (o:Option Nat):decide (Fi o < 0)=o.isNone:=by
 cases o with
 |none=>rfl
 |some i=>exact decide_eq_false (by simp only [Fi];omega)
theorem Pj {s:Str}:∀ {l:List Str} {i:Nat},C9 l s=some i->l[i]?=some s
 |[],i,h=>by simp [C9] at h
 |x::l,i,h=>by
  rw [C9] at h;split at h
  . rename_i hx;cases h;simpa using hx
  . simp only [AN] at h;obtain ⟨k,hk,rfl⟩:=h;simpa using Pj hk
theorem gN {fs:List FE} {s:Str} {i:Nat} (h:C9 (Bo fs) s=some i):∃g,fs[i]?=some g/\g.name=s:=by
 have:=Pj h;rw [Bo,Aj,AN] at this;exact this
theorem sR:((0:Int)<=0)=True:=by simp
theorem NP (fs:List FE) (dt:List Dat) (o:Int) (n:Str) (u:Int) (ns:List Str) (ks:List Ex) (al:List Al) (sc:List Str):EY fs dt (.mk o n u ns ks al) sc=
 if o=4 then (if !sc.contains n&&(C9 (Bo fs) n).isNone then 3 else 0)
                                       else if o=6 then
  match EV dt n with
  |none=>3
  |some x=>if ks.length≠arity dt x then 5 else 0
            else if o=8\/o=11 then (if CP ns then 4 else 0)
            else if o=10 then Jm dt al
            else if o=12 then
  match ks.head? with
  |none=>0
  |some h=>if h.op=4&& !sc.contains h.name then
   (match C9 (Bo fs) h.name with
   |none=>0
   |some f=>match fs[f]? with
    |some g=>if g.params.length+1≠ks.length then 5 else 0
    |none=>0) else 0
            else 0:=rfl
theorem APB (ds:List DE) (fs:List FE) (dt:List Dat) (hdt:cJ dt) (e:Ex) (sc:List Str) (hg:Oj e) (σ:AI):
 AT Tzp 49 [.agg [.d (.sl (ds.map DE.enc)),.d (.sl (fs.map FE.enc)),.d (.sl (dt.map Dat.enc))],exA e,.d (bdL sc)] σ (fun v σ'=>v= .d (.int .i64 (EY fs dt e sc))/\σ'=σ):=by
 obtain ⟨o,n,u,ns,ks,al⟩:=e;obtain ⟨hg4,hg12,hgal,hgk⟩:=hg;simp only [Ex.op,Ex.name,Ex.kids,Ex.alts] at hg4 hg12 hgal hgk;refine WB (by simp) ?_;rw [Dm,exA,Ex.A2];have hfun:=fun s=>XS ⟨ds,fs⟩ s σ;simp only [pgA,Pg.enc,AD,AJ] at hfun;have hctr:=LV dt hdt n σ;rw [dsA] at hctr;by_cases h4:o=4
 . subst h4
   have hv:EY fs dt (.mk 4 n u ns ks al) sc=if !sc.contains n&&(C9 (Bo fs) n).isNone then 3 else 0:=by
    rw [NP,if_pos rfl]
   have hh:=wR sc n (hg4 rfl) σ;have hf:=hfun n;cases h1:sc.contains n with
   |true=>
    rw [h1] at hh;(repeat' ((first|refine wQ mxQ rfl ?_|refine Run.qP BH ?_|refine AH.det (hh) ?_|fail)<;>try simp only [AY,go_sem]));rw [hv,h1];rfl
   |false=>
    rw [h1] at hh;cases h2:(C9 (Bo fs) n).isNone with
    |true=>
     (repeat' ((first|refine wQ mxQ rfl ?_|refine Run.qP BH ?_|refine AH.det (hh) ?_|refine AH.det (hf) ?_|fail)<;>try simp only [AY,AGQ,h2,go_sem]));rw [hv,h1,h2];rfl
    |false=>
     (repeat' ((first|refine wQ mxQ rfl ?_|refine Run.qP BH ?_|refine AH.det (hh) ?_|refine AH.det (hf) ?_|fail)<;>try simp only [AY,AGQ,h2,go_sem]));rw [hv,h1,h2];rfl
 by_cases h6:o=6
 . subst h6
   have hv:EY fs dt (.mk 6 n u ns ks al) sc=match EV dt n with|none=>3|some x=>if ks.length≠arity dt x then 5 else 0:=by
    rw [NP,if_neg (show ¬(6:Int)=4 by decide),if_pos rfl]
    all_goals rfl
   cases hc:EV dt n with
   |none=>
    rw [hc] at hctr hv;simp only [ZK] at hctr;(repeat' ((first|refine wQ mxQ rfl ?_|refine Run.qP BH ?_|refine AH.det (hctr) ?_|fail)<;>try simp only [AY,go_sem]));rw [hv]
   |some x=>
    rw [hc] at hctr hv;simp only [ZK] at hctr;obtain ⟨d,cc,h1,h2,_⟩:=Pf hc;have har:=Uj (s:=[]) h1 h2;have hd:=PN h1;have hcc:=PM h2;have hb:=rN ks.length cc.args.length;cases hne:(ks.length != cc.args.length) with
    |true=>
     rw [hne] at hb;(repeat' ((first|refine wQ mxQ rfl ?_|refine Run.qP BH ?_|refine AH.det (hctr) ?_|fail)<;>try simp only [AY,hd,hcc,AA,FQ,hb,go_sem]));rw [hv];simp only;rw [if_pos (by rw [har];simpa using hne)]
    |false=>
     rw [hne] at hb;(repeat' ((first|refine wQ mxQ rfl ?_|refine Run.qP BH ?_|refine AH.det (hctr) ?_|fail)<;>try simp only [AY,hd,hcc,AA,FQ,hb,go_sem]));rw [hv];simp only;rw [if_neg (by rw [har];simpa using hne)]
 by_cases h8:o=8\/o=11
 . have hv:EY fs dt (.mk o n u ns ks al) sc=if CP ns then 4 else 0:=by
    rw [NP,if_neg (show ¬o=4 from h4),if_neg (show ¬o=6 from h6),if_pos (show o=8\/o=11 from h8)]
    all_goals rfl
   have hrep:=Rp ns σ;cases hB:CP ns with
   |true=>
    rw [hB] at hrep hv;rcases h8 with rfl|rfl
    all_goals (repeat' ((first|refine wQ mxQ rfl ?_|refine Run.qP BH ?_|refine AH.det (hrep) ?_|fail)<;>try simp only [AY,go_sem]))
    all_goals (rw [hv];rfl)
   |false=>
    rw [hB] at hrep hv;rcases h8 with rfl|rfl
    all_goals (repeat' ((first|refine wQ mxQ rfl ?_|refine Run.qP BH ?_|refine AH.det (hrep) ?_|fail)<;>try simp only [AY,go_sem]))
    all_goals (rw [hv];rfl)
 by_cases h10:o=10
 . subst h10
   have hv:EY fs dt (.mk 10 n u ns ks al) sc=Jm dt al:=by
    rw [NP,if_neg (show ¬(10:Int)=4 by decide),if_neg (show ¬(10:Int)=6 by decide),if_neg (show ¬((10:Int)=8\/(10:Int)=11) by decide),if_pos rfl]
    all_goals rfl
   (repeat' ((first|refine wQ mxQ rfl ?_|refine Run.qP BH ?_|refine AH.det (APM ds fs dt hdt al σ hgal) ?_|fail)<;>try simp only [AY,go_sem]));rw [hv]
 by_cases h12:o=12
 . subst h12;obtain ⟨h,t,rfl,hh4⟩:=hg12 rfl;have hlen:(h::t).length=t.length+1:=rfl;obtain ⟨xo,xn,xu,xs,xk,xa⟩:=h
   have hv:EY fs dt (.mk 12 n u ns (.mk xo xn xu xs xk xa::t) al) sc=if decide (xo=4)&& !sc.contains xn then (match C9 (Bo fs) xn with|none=>0|some f=>match fs[f]? with|some g=>if g.params.length+1≠t.length+1 then 5 else 0|none=>0) else 0:=by
    rw [NP,if_neg (show ¬(12:Int)=4 by decide),if_neg (show ¬(12:Int)=6 by decide),if_neg (show ¬((12:Int)=8\/(12:Int)=11) by decide),if_neg (show ¬(12:Int)=10 by decide),if_pos rfl]
    all_goals rfl
   simp only [Ex.op,Ex.name] at hh4;generalize hw:EY fs dt (.mk 12 n u ns (.mk xo xn xu xs xk xa::t) al) sc=w at hv ⊢;clear hw;have hf:=hfun xn;by_cases hx4:xo=4
   . subst hx4;have hh:=wR sc xn (hh4 rfl) σ;cases h1:sc.contains xn with
     |true=>
      rw [h1] at hh hv;(repeat' ((first|refine wQ mxQ rfl ?_|refine Run.qP BH ?_|refine AH.det (hh) ?_|fail)<;>try simp only [AY,AD,Ex.A2,E0,sR,go_sem]));rw [hv];rfl
     |false=>
      rw [h1] at hh hv;cases hi:C9 (Bo fs) xn with
      |none=>
       rw [hi] at hf hv;simp only [Fi] at hf;have hneg:decide ((0:Int)<=-1)=false:=by decide
       (repeat' ((first|refine wQ mxQ rfl ?_|refine Run.qP BH ?_|refine AH.det (hh) ?_|refine AH.det (hf) ?_|fail)<;>try simp only [AY,AD,Ex.A2,E0,sR,hneg,go_sem]));rw [hv];rfl
      |some f=>
       rw [hi] at hf hv;simp only [Fi] at hf;obtain ⟨g,hgf,_⟩:=gN hi;have hge:=Av (enc:=FE.enc) hgf;simp only at hv;rw [hgf] at hv;obtain ⟨gn,gp,go,gn2,gu,gns,gk,ga⟩:=g;simp only [FE.enc,Ex.A2] at hge;have hpos:decide ((0:Int)<=(f:Int))=true:=by simp
       have hsub:IntKind.i64.wrap (((t.length+1:Nat):Int) - 1)=(t.length:Int):=NI (by simp only [A1] at hgk;omega);have hb:=rN t.length gp.length;simp only [FL,B7,decide_true,if_true] at hv;cases hne:(t.length != gp.length) with
       |true=>
        rw [hne] at hb;(repeat' ((first|refine wQ mxQ rfl ?_|refine Run.qP BH ?_|refine AH.det (hh) ?_|refine AH.det (hf) ?_|fail)<;>try simp only [AY,AD,Ex.A2,E0,sR,hpos,hge,A1,AA,hsub,hb,go_sem]));rw [hv,if_pos (by simp only [bne_iff_ne,ne_eq] at hne;omega)]
       |false=>
        rw [hne] at hb;(repeat' ((first|refine wQ mxQ rfl ?_|refine Run.qP BH ?_|refine AH.det (hh) ?_|refine AH.det (hf) ?_|fail)<;>try simp only [AY,AD,Ex.A2,E0,sR,hpos,hge,A1,AA,hsub,hb,go_sem]));rw [hv,if_neg (by simp only [bne_eq_false_iff_eq] at hne;omega)]
   . have hxf:=Cp hx4;(repeat' ((first|refine wQ mxQ rfl ?_|refine Run.qP BH ?_|fail)<;>try simp only [AY,AD,Ex.A2,E0,sR,hxf,go_sem]));rw [hv,decide_eq_false hx4];rfl
 . have hv:EY fs dt (.mk o n u ns ks al) sc=0:=by
    rw [NP,if_neg (show ¬o=4 from h4),if_neg (show ¬o=6 from h6),if_neg (show ¬(o=8\/o=11) from h8),if_neg (show ¬o=10 from h10),if_neg (show ¬o=12 from h12)]
   simp only [not_or] at h8;(repeat' ((first|refine wQ mxQ rfl ?_|refine Run.qP BH ?_|fail)<;>try simp only [Cp h4,Cp h6,Cp h8.1,Cp h8.2,Cp h10,Cp h12,go_sem]));rw [hv]
end Go.Ab
namespace Go.Ab
open Go.Proofs
def SlV (v:AV) (rows:List (List DV)):Prop:=v= .d (.sl rows)\/(∃t e s,v= .own t e s rows)\/(rows=[]/\v= .Ae)
theorem SlV.BE {v:AV} {rows:List (List DV)} (h:SlV v rows):v.BE=true:=by
 rcases h with rfl|⟨t,e,s,rfl⟩|⟨rfl,rfl⟩<;>rfl
theorem SlV.cell {v:AV} {rows:List (List DV)} (h:SlV v rows):v.B8=true:=by
 rcases h with rfl|⟨t,e,s,rfl⟩|⟨rfl,rfl⟩<;>rfl
theorem SlV.len {v:AV} {rows:List (List DV)} (h:SlV v rows):Tx v=some (.d (.int .i64 rows.length)):=by
 rcases h with rfl|⟨t,e,s,rfl⟩|⟨rfl,rfl⟩<;>rfl
theorem SlV.ix {v:AV} {rows:List (List DV)} (h:SlV v rows) {i:Nat} {r:List DV} (hr:rows[i]?=some r):ixA v (.d (.int .i64 (i:Int))) r.length=some (.ep r 0):=by
 rcases h with rfl|⟨t,e,s,rfl⟩|⟨rfl,rfl⟩
 . simp [ixA,ixR,hr]
 . simp [ixA,ixR,hr]
 . simp at hr
theorem SlV.plain {v:AV} {rows:List (List DV)} (h:SlV v rows):v.plain= .d (.sl rows):=by
 rcases h with rfl|⟨t,e,s,rfl⟩|⟨rfl,rfl⟩<;>simp only [AV.plain]
theorem SlV.dv {v:AV} {rows:List (List DV)} (h:SlV v rows):v.dv=some (.sl rows):=by
 rcases h with rfl|⟨t,e,s,rfl⟩|⟨rfl,rfl⟩<;>rfl
def LX (cs:List AV) (dl:List Dat):Prop:=cs.length=dl.length * 3/\∀i d,dl[i]?=some d->∃cv,(cs.drop (i * 3)).take 3=[.d (.str d.name),.d (.int .i64 d.vars),cv]/\SlV cv (d.cons.map Con.enc)
theorem LX.at {cs:List AV} {dl:List Dat} (h:LX cs dl) {i:Nat} {d:Dat} (hd:dl[i]?=some d):
 ∃cv,(cs.drop (i * 3)).take 3=[.d (.str d.name),.d (.int .i64 d.vars),cv]/\SlV cv (d.cons.map Con.enc)/\cs[i * 3]?=some (.d (.str d.name))/\cs[i * 3+1]?=some (.d (.int .i64 d.vars))/\cs[i * 3+2]?=some cv/\(i * 3+3<=cs.length)=True:=by
 obtain ⟨cv,h1,h2⟩:=h.2 i d hd;have hi:=(AG.1 hd).1
 have g:∀k,k < 3->cs[i * 3+k]?=([.d (.str d.name),.d (.int .i64 d.vars),cv]:List AV)[k]?:=fun k hk=>by
  rw [<- h1,B2,if_pos hk,BT]
 refine ⟨cv,h1,h2,g 0 (by omega),g 1 (by omega),g 2 (by omega),?_⟩;rw [h.1];simp;omega
def DlS (τ:AI) (dl:List Dat) (v:AV):Prop:=(dl=[]/\v= .Ae)\/(∃jd e cs,v= .ms jd dl.length 3 e/\τ.blk jd=some cs/\LX cs dl)
theorem DlS.len {τ:AI} {dl:List Dat} {v:AV} (h:DlS τ dl v):Tx v=some (.d (.int .i64 dl.length)):=by
 rcases h with ⟨rfl,rfl⟩|⟨jd,e,cs,rfl,_,_⟩<;>rfl
theorem DlS.BE {τ:AI} {dl:List Dat} {v:AV} (h:DlS τ dl v):v.BE=true:=by
 rcases h with ⟨rfl,rfl⟩|⟨jd,e,cs,rfl,_,_⟩<;>rfl
theorem DlS.le {τ τ':AI} {dl:List Dat} {v:AV} (h:DlS τ dl v) (hl:τ.le τ'):DlS τ' dl v:=by
 rcases h with ⟨rfl,rfl⟩|⟨jd,e,cs,rfl,hb,hr⟩
 . exact .inl ⟨rfl,rfl⟩
 . exact .inr ⟨jd,e,cs,rfl,hl.blk _ _ hb,hr⟩
theorem cL {fid:FuncId} {caps:List AV} (hb:Ca Tzp fid=true) (hcp:caps.all AV.BE=true) (p:Dat->Bool) (l:List Dat) (v:AV) (σ:AI) (hl:l.length<=1000000) (hv:DlS σ l v)
 (hf:∀d∈l,∀cv,cv.BE=true->cv.B8=true->AT Tzp fid (.agg [.d (.str d.name),.d (.int .i64 d.vars),cv]::caps) σ (fun v σ'=>v= .d (.bool (p d))/\σ'=σ)):
 AT Tzp 118 [v,.fn fid [] caps] σ (fun v σ'=>v= .d (.int .i64 (Fi (l.findIdx? p)))/\σ'=σ):=by
 refine PU (by simp) ?_;rw [BK];have hlen:=hv.len;rcases hv with ⟨rfl,rfl⟩|⟨jd,e,cs,rfl,hbk,hrows⟩
 . have h0:decide ((0:Int) < 0)=false:=by decide
   (repeat' ((first|refine wQ mxQ rfl ?_|refine Run.qP De ?_|(refine Run.loop ?_)|fail)<;>try simp only [h0,go_sem]));rfl
 (repeat' (refine wQ mxQ rfl ?_<;>try simp only [go_sem]));refine Run.At ?_;refine Run.Au ((fun (a0:AV) (a1:AV) (a7:AV)=>fun (i:Nat)=>put 0 a0 (put 1 a1 (put 7 a7 (put 8 (.d (.int .i64 i)) U)))) _ _ _) (fun _=>E) (fun _=>σ) (fun i=>i<=l.length/\∀x∈l.take i,p x=false) (fun i=>l.length - i) ?_ 0 ⟨by simp,by simp⟩;rintro i ⟨hi,hno⟩ ih;by_cases hlt:i < l.length
 . obtain ⟨x,hx⟩:=Ai hlt;obtain ⟨cv,h1,h2,_,_,_,h3⟩:=hrows.at hx;have hix:((i:Int) < (l.length:Int))=True:=by simp;omega
   have hw1:=A4 (show i+1<=9000000000000000000 by omega);have hc:=hf x (AE hx) cv h2.BE h2.cell;cases hp:p x with
   |true=>
    rw [hp] at hc;(repeat' ((first|refine wQ mxQ rfl ?_|refine Run.qP De ?_|(refine ⟨fid,[],caps,rfl,hb,AH.det hc ?_ (by simp [hcp,FI,D9])⟩)|fail)<;>try simp only [Ag hlt,hix,hbk,h1,h3,hw1,go_sem]));rw [D3 hno hx hp];rfl
   |false=>
    rw [hp] at hc;(repeat' ((first|refine wQ mxQ rfl ?_|(refine ⟨fid,[],caps,rfl,hb,AH.det hc ?_ (by simp [hcp,FI,D9])⟩)|fail)<;>try simp only [Ag hlt,hix,hbk,h1,h3,hw1,go_sem]));exact ih (i+1) ⟨by omega,F2 hno hx hp⟩ (by omega)
 . (repeat' ((first|refine wQ mxQ rfl ?_|refine Run.qP De ?_|fail)<;>try simp only [B5 hlt,go_sem]));rw [AM (by omega)] at hno;rw [D4 hno];rfl
theorem AIK (s nm:Str) (n:Int) (cv:AV) (hcv:cv.B8=true) (j:Nat) (σ:AI) (hj:σ.blk j=some [.d (.str s)]):AT Tzp 119 [.agg [.d (.str nm),.d (.int .i64 n),cv],.gp j 0] σ (fun v σ'=>v= .d (.bool (nm==s))/\σ'=σ):=by
 refine Tf (by simp) ?_;rw [BK];(repeat' ((first|refine wQ mxQ rfl ?_|refine Run.qP Kr ?_|fail)<;>try simp only [hj,Bd,hcv,go_sem]))
def Ml (l:List Dat):List Str:=l.map (·.name)
theorem AAP (l:List Dat) (s:Str):l.findIdx? (fun x=>x.name==s)=C9 (Ml l) s:=by
 rw [<- Ph,Ml,List.findIdx?_map];rfl
theorem AGM (l:List Dat) (dv:AV) (rest:List AV) (jr:Nat) (s:Str) (σ:AI) (hl:l.length<=1000000) (hb:σ.blk jr=some (dv::rest)) (hv:DlS σ l dv):
 AT Tzp 85 [.gp jr 0,.d (.str s)] σ (fun v σ'=>v= .d (.int .i64 (Fi (C9 (Ml l) s)))/\σ'=σ):=by
 refine WC (by simp) ?_;rw [BK];(repeat' (first|refine ctQ rfl ?_|((first|refine rgQ mxQ ?_|refine cdQ ?_)<;>try simp only [go_sem])|fail));intro j hj;have hle:=CQ (cs:=[AV.d (.str s)]) hj;have hcell:dv.B8=true:=by rcases hv with ⟨_,rfl⟩|⟨jd,e,cs,rfl,_,_⟩<;>rfl
 have hne:jr≠j:=fun e=>by rw [e,hj] at hb;cases hb
 have hc:=cL (fid:=119) (caps:=[.gp j 0]) (by kernel_rfl) rfl (fun x=>x.name==s) l dv (σ.AP j [.d (.str s)]) hl (hv.le hle) (fun d _ cv _ h2=>AIK s d.name d.vars cv h2 j _ (by simp only [AK,if_true]));rw [AAP] at hc;have hnl:=hv.BE;(repeat' ((first|refine wQ mxQ rfl ?_|(refine AH.mk (by simp only [Bk,GM,hnl,mD,Wa]) hc ?_;rintro _ _ ⟨rfl,rfl⟩)|(refine Run.Bf M6 (σ2:=σ) hle ?_)|fail)<;>try simp only [hne,hb,hcell,go_sem]))
def oV (t:TE) (s:Str):Bool:=match t with| .mk k n _=>k==4&&n==s
theorem lL (t:TE) (s:Str) (σ:AI):AT Tzp 148 [teA t,.d (.str s)] σ (fun v σ'=>v= .d (.bool (oV t s))/\σ'=σ):=by
 refine No (by simp) ?_;rw [BK];obtain ⟨k,n,l⟩:=t;simp only [TE.A2,teA,AD,AJ];(repeat' (first|refine ctQ rfl ?_|(refine cH (by first|exact GV.t|exact GV.f|exact GV.st|exact GV.sf) ⟨?_,fun h=>?_,?_⟩;rotate_left;(focus ((try simp only [AO,OM] at h);simp only [Bd,go_sem];first|exact Is.mk|exact Is.pv (by simp only [h,Zv,↓Ds,↓G5,↓Dt,Bd,go_sem];rfl)));(try simp only [EJ,GP,GQ,↓Ds,↓G5,↓Dt,Bd,HQ,go_sem]))|((first|refine rgQ mxQ ?_|refine cdQ ?_|refine Run.qP H5 ?_)<;>try simp only [EJ,GP,GQ,↓Ds,↓G5,↓Dt,Bd,go_sem])|fail));rfl
theorem Lv (t:TE) (l:List TE) (s:Str) (vs:List Str):Eb (t::l) (s::vs)=(oV t s&&Eb l vs):=by cases t;rfl
theorem jX:∀ {l:List TE} {vs:List Str},l.length≠vs.length->Eb l vs=false
 |[],[],h=>absurd rfl h
 |[],v::vs,_=>rfl
 |t::l,[],_=>by cases t;rfl
 |t::l,v::vs,h=>by rw [Lv,jX (by simpa using h),CT]
theorem vV (l:List TE) (vs:List Str) (σ:AI) (hl:l.length<=1000000):AT Tzp 147 [.d (.sl (l.map TE.enc)),.d (.sl (vs.map BF)),.fn 148 [] []] σ (fun v σ'=>v= .d (.bool (Eb l vs))/\σ'=σ):=by
 refine Qw (by simp) ?_;rw [Dm];have hb:=rN l.length vs.length;cases hne:(l.length != vs.length) with
 |true=>
  rw [hne] at hb;(repeat' ((first|refine wQ mxQ rfl ?_|refine Run.qP EI ?_|fail)<;>try simp only [AA,hb,go_sem]));rw [jX (by simpa using hne)]
 |false=>
 rw [hne] at hb;have hlen:l.length=vs.length:=by simpa using hne
 (repeat' (refine wQ mxQ rfl ?_<;>try simp only [AA,hb,go_sem]));refine Run.At ?_;refine Run.Au ((fun (a1:AV) (a2:AV) (a15:AV) (a16:AV)=>fun (i:Nat)=>put 1 a1 (put 2 a2 (put 15 a15 (put 16 a16 (put 17 (.d (.int .i64 i)) U))))) _ _ _ _) (fun _=>E) (fun _=>σ) (fun i=>i<=l.length/\Eb l vs=Eb (l.drop i) (vs.drop i)) (fun i=>l.length - i) ?_ 0 ⟨by simp,rfl⟩;rintro i ⟨hi,hok⟩ ih;by_cases hlt:i < l.length
 . obtain ⟨x,hx⟩:=Ai hlt;obtain ⟨s,hs⟩:=Ai (show i < vs.length by omega);have he:=Av (enc:=TE.enc) hx;have he2:=Av (enc:=BF) hs;simp only [BF] at he2;have hw1:=A4 (show i+1<=9000000000000000000 by omega);have hc:=lL x s σ;rw [Bu hx,Bu hs,Lv] at hok;cases hp:oV x s with
   |true=>
    rw [hp] at hc hok;obtain ⟨xk,xn,xl⟩:=x;simp only [TE.A2,teA,AD,AJ] at he hc;(repeat' ((first|refine wQ mxQ rfl ?_|(refine ⟨_,[],[],rfl,by kernel_rfl,AH.det hc ?_⟩)|fail)<;>try simp only [Ag hlt,he,he2,hw1,go_sem]));exact ih (i+1) ⟨by omega,hok⟩ (by omega)
   |false=>
    rw [hp] at hc hok;obtain ⟨xk,xn,xl⟩:=x;simp only [TE.A2,teA,AD,AJ] at he hc;(repeat' ((first|refine wQ mxQ rfl ?_|refine Run.qP EI ?_|(refine ⟨_,[],[],rfl,by kernel_rfl,AH.det hc ?_⟩)|fail)<;>try simp only [Ag hlt,he,he2,hw1,go_sem]));rw [hok];rfl
 . (repeat' ((first|refine wQ mxQ rfl ?_|refine Run.qP EI ?_|fail)<;>try simp only [B5 hlt,go_sem]));rw [TB (by omega),TB (by omega)] at hok;rw [hok];rfl
theorem sU (l:List TE) (dv:AV) (nm:Str) (vs:List Str) (cs:List CE) (jr:Nat) (σ:AI) (hl:l.length<=1000000) (hb:σ.blk jr=some [dv,.d (.str nm),.d (.sl (vs.map BF)),.d (.sl (cs.map CE.enc))]):
 AT Tzp 120 [.gp jr 0,.d (.sl (l.map TE.enc))] σ (fun v σ'=>v= .d (.bool (Eb l vs))/\σ'=σ):=by
 refine PS (by simp) ?_;rw [BK];(repeat' ((first|refine wQ mxQ rfl ?_|refine Run.qP IU ?_|refine AH.det (vV l vs σ hl) ?_|fail)<;>try simp only [hb,go_sem]))
end Go.Ab
namespace Go.Ab
open Go.Proofs
def YA:Except Int Ty->AV
 | .ok t=>.tup [tyA t,.d (.int .i64 0)]
 | .error e=>.tup [.agg [.d (.int .i64 0),.d (.int .i64 0),.d (.sl [])],.d (.int .i64 e)]
theorem UB (ds:List (Str×Nat)) (vars:List Str) (m:List TE):∀ {l:List TE} {us:List Ty},Co ds vars l= .ok us->Co ds vars (l++m)=(Co ds vars m).map (us++·)
 |[],us,h=>by
  simp only [Co,Db] at h;subst h;simp only [As];cases Co ds vars m<;>rfl
 |t::l,us,h=>by
  rw [Co] at h;rw [AZ,Co];cases ht:II ds vars false t with
  |error e=>rw [ht] at h;cases h
  |ok u=>
   rw [ht] at h;simp only at h ⊢;cases hl:Co ds vars l with
   |error e=>rw [hl] at h;cases h
   |ok ys=>
    rw [hl] at h;simp only [C3,Db] at h;subst h;rw [UB ds vars m hl];cases Co ds vars m<;>rfl
theorem eV {ds:List (Str×Nat)} {vars:List Str}:(∀(t:TE) (whole:Bool) (e:Int),II ds vars whole t= .error e->e≠0):=by
 intro t
 induction h:t.size using Qe generalizing t with
 |_ N ih=>
 subst h;obtain ⟨k,n,l⟩:=t
 have hl:∀(l':List TE),(∀x∈l',x.size < (TE.mk k n l).size)->∀e,Co ds vars l'= .error e->e≠0:=by
  intro l'
  induction l' with
  |nil=>intro _ e h;cases h
  |cons x l' ihl=>
   intro hx e h;rw [Co] at h;cases hxe:II ds vars false x with
   |error e'=>rw [hxe] at h;cases h;exact ih x.size (hx x (AS ..)) x rfl false _ hxe
   |ok u=>
    rw [hxe] at h;cases hle:Co ds vars l' with
    |error e'=>rw [hle] at h;cases h;exact ihl (fun y hy=>hx y (AR _ hy)) _ hle
    |ok us=>rw [hle] at h;cases h
 have hsz:∀x∈l,x.size < (TE.mk k n l).size:=fun x hx=>by
  have:=TE.Fj hx;simp only [TE.size];omega
 have hmap:∀(num:Int) e,(Co ds vars l).map (Ty.mk k num)= .error e->e≠0:=fun num e h=>by
  cases hle:Co ds vars l with
  |error e'=>rw [hle] at h;cases h;exact hl l hsz _ hle
  |ok us=>rw [hle] at h;cases h
 intro whole e h;rw [II] at h;split at h
 . split at h
   . cases h;decide
   . exact hmap _ _ h
 . split at h
   . split at h
     . cases h;decide
     . split at h
       . cases h;decide
       . split at h
         . cases h;decide
         . exact hmap _ _ h
   . exact hmap _ _ h
def GJ (dl:List Dat):List (Str×Nat):=dl.map fun d=>(d.name,d.vars.toNat)
def RB (τ:AI) (jr:Nat) (dl:List Dat) (nm:Str) (vars:List Str) (cs:List CE):Prop:=∃dv,τ.blk jr=some [dv,.d (.str nm),.d (.sl (vars.map BF)),.d (.sl (cs.map CE.enc))]/\DlS τ dl dv
theorem RB.le {τ τ':AI} {jr:Nat} {dl:List Dat} {nm:Str} {vars:List Str} {cs:List CE} (h:RB τ jr dl nm vars cs) (hl:τ.le τ'):RB τ' jr dl nm vars cs:=by
 obtain ⟨dv,h1,h2⟩:=h;exact ⟨dv,hl.blk _ _ h1,h2.le hl⟩
theorem xS (jr:Nat) (dl:List Dat) (nm:Str) (vars:List Str) (cs:List CE) (k num:Int) (l:List TE) (τ:AI) (hrb:RB τ jr dl nm vars cs) (hll:l.length<=1000000)
 (ih:∀x∈l,∀τ',RB τ' jr dl nm vars cs->AT Tzp 86 [.gp jr 0,teA x,.d (.bool false)] τ' (fun v σ'=>v=YA (II (GJ dl) vars false x)/\σ'=τ')):
 Run DZ (fun v σ'=>v=YA ((Co (GJ dl) vars l).map (Ty.mk k num))/\σ'=τ) [.code (.loop IM),.blk 1,.code (.seq (.reg [⟨some 102,.ldl (.t 8) (some 3),none⟩,⟨none,.st (.t 6) (.t 102) 3,none⟩,⟨some 7,.mv (.c (.d (.int .i64 0))),none⟩] [6,7]) .ret)]
  (put 0 (.gp jr 0) (put 6 (.lp 6 0) (put 8 (.lp 8 0) (put 79 (.d (.sl (l.map TE.enc))) (put 80 (.d (.int .i64 l.length)) (put 81 (.d (.int .i64 0)) U)))))) (Am 6 [.d (.int .i64 0),.d (.int .i64 0),.Ae] (Am 8 [.d (.int .i64 k),.d (.int .i64 num),.Ae] E)) τ:=by
 refine Run.At ?_
 refine Run.Au ((fun (a0:AV) (a6:AV) (a8:AV) (a79:AV) (a80:AV)=>fun (y:Nat×List Ty×AV×AI)=>put 0 a0 (put 6 a6 (put 8 a8 (put 79 a79 (put 80 a80 (put 81 (.d (.int .i64 y.1)) U)))))) _ _ _ _ _) (fun y=>Am 6 [.d (.int .i64 0),.d (.int .i64 0),.Ae] (Am 8 [.d (.int .i64 k),.d (.int .i64 num),y.2.2.1] E)) (fun y=>y.2.2.2)
  (fun y=>y.1<=l.length/\y.2.1.length=y.1/\Co (GJ dl) vars (l.take y.1)= .ok y.2.1/\Bz τ 46 3 (y.2.1.map Ty.enc) y.2.2.1 y.2.2.2) (fun y=>l.length - y.1) ?_ (0,[],.Ae,τ) ⟨by simp,rfl,rfl,Bz.nil _ _ _⟩
 rintro ⟨i,us,uv,τ1⟩ ⟨hi,hlu,hok,ho⟩ ih2;simp only at hi hlu hok ho;by_cases hlt:i < l.length
 . obtain ⟨x,hx⟩:=Ai hlt;have he:=Av (enc:=TE.enc) hx;have hw1:=A4 (show i+1<=9000000000000000000 by omega)
   have hall:Co (GJ dl) vars l=(Co (GJ dl) vars (x::l.drop (i+1))).map (us++·):=by
    conv=>lhs;rw [<- Ad i l,Bu hx]
    exact UB _ _ _ hok
   have hsn:Co (GJ dl) vars (l.take (i+1))=(Co (GJ dl) vars [x]).map (us++·):=by
    rw [Aa hx];exact UB _ _ _ hok
   rw [Co] at hall;rw [Co,Co] at hsn;have hc:=ih x (AE hx) τ1 (hrb.le ho.le);cases hr:II (GJ dl) vars false x with
   |error e=>
    rw [hr] at hc hall;have hne:=eV x false e hr;have hne':(e != 0)=true:=by simpa using hne
    obtain ⟨xk,xn,xl⟩:=x;simp only [TE.A2,teA,AD,AJ,YA] at he hc;(repeat' ((first|refine wQ mxQ rfl ?_|(refine Run.Bf Bx ho.le ?_)|refine AH.det (hc) ?_|fail)<;>try simp only [Ag hlt,he,hne',ho.cell,go_sem]));rw [hall];rfl
   |ok u=>
    rw [hr] at hc hsn;simp only [C3] at hsn;obtain ⟨uk,un,ul⟩:=u;obtain ⟨xk,xn,xl⟩:=x;simp only [TE.A2,teA,AD,AJ,YA,tyA,Ty.enc] at he hc;have h00:((0:Int) != 0)=false:=by decide
    (repeat' ((first|refine wQ mxQ rfl ?_|(refine DD.own ho rfl (by simp) (by simp;omega) (by decide) (fun v2 σ2 ho2 hbk=>?_))|refine AH.det (hc) ?_|fail)<;>try simp only [Ag hlt,he,hw1,h00,ho.w4,go_sem]));simp only [ho2.cells,ho2.cell,go_sem];(repeat' (refine wQ mxQ rfl ?_<;>try simp only [hw1,ho2.cell,ho2.cells,go_sem]));exact ih2 (i+1,us++[.mk uk un ul],v2,σ2) ⟨by simp only;omega,by simp [hlu],hsn,by simpa [Ty.enc] using ho2⟩ (by simp only;omega)
 . rw [AM (by omega)] at hok;(repeat' ((first|refine wQ mxQ rfl ?_|(refine Run.Bf Bx ho.le ?_)|fail)<;>try simp only [B5 hlt,ho.cell,ho.cells,go_sem]));rw [ho.plain,hok];simp [YA,tyA,Ty.enc,Ty.C1,C3]
theorem AP2 {dl:List Dat} {i:Nat} {d:Dat} (h:dl[i]?=some d):(GJ dl).getD i ([],0)=(d.name,d.vars.toNat):=by
 rw [Ac,GJ,Aj,h];rfl
theorem nT (dl:List Dat):(GJ dl).map (·.1)=Ml dl:=by simp [GJ,Ml]
theorem AH8 {dl:List Dat} {s:Str} {i:Nat} (h:C9 (Ml dl) s=some i):∃d,dl[i]?=some d:=by
 have:=Pj h;rw [Ml,Aj,AN] at this;obtain ⟨d,hd,_⟩:=this;exact ⟨d,hd⟩
theorem AFJ (jr:Nat) (dl:List Dat) (hdl:dl.length<=1000000) (hnn:∀d∈dl,0<=d.vars) (nm:Str) (vars:List Str) (cs:List CE):
 ∀(N:Nat) (t:TE) (whole:Bool) (τ:AI),t.size<=N->t.size<=1000000->RB τ jr dl nm vars cs->AT Tzp 86 [.gp jr 0,teA t,.d (.bool whole)] τ (fun v σ'=>v=YA (II (GJ dl) vars whole t)/\σ'=τ):=by
 intro N
 induction N with
 |zero=>intro t whole τ h;have:=TE.size_pos t;omega
 |succ N ihN=>
 rintro ⟨k,n,l⟩ whole τ hN hsz hrb;simp only [TE.size] at hN hsz;have hlen:=TE.Bl l
 have hloop:=fun num=>xS jr dl nm vars cs k num l τ hrb (by omega) (fun x hx τ' h=>by
  have:=TE.Fj hx;exact ihN x false τ' (by omega) (by omega) h)
 clear ihN;obtain ⟨dv,hb,hdv⟩:=hrb;refine S3 (by simp) ?_;rw [Dm,teA,TE.A2];by_cases h4:k=4
 . subst h4
   have hres:II (GJ dl) vars whole (.mk 4 n l)=match C9 vars n with|none=>.error 3|some i=>(Co (GJ dl) vars l).map (Ty.mk 4 i):=by
    rw [II,if_pos rfl];rfl
   have hi:=V6 vars n τ;cases hix:C9 vars n with
   |none=>
    rw [hix] at hi hres;simp only [Fi] at hi hres;have hneg:decide ((-1:Int) < 0)=true:=by decide
    (repeat' ((first|refine wQ mxQ rfl ?_|refine Run.qP Bx ?_|refine AH.det (hi) ?_|fail)<;>try simp only [AY,hb,hneg,go_sem]));rw [hres];rfl
   |some i=>
    rw [hix] at hi hres;simp only [Fi] at hi hres;have hneg:decide ((i:Int) < 0)=false:=decide_eq_false (by omega);rw [hres];(repeat' ((first|refine wQ mxQ rfl ?_|refine AH.det (hi) ?_|fail)<;>try simp only [AY,hb,hneg,AA,go_sem]));exact hloop i
 by_cases h5:k=5
 . subst h5
   have hres:II (GJ dl) vars whole (.mk 5 n l)=match C9 (Ml dl) n with|none=>.error 3|some i=>if l.length≠((GJ dl).getD i ([],0)).2 then .error 5 else if i+1=(GJ dl).length/\¬(whole=true/\Eb l vars=true) then .error 7 else (Co (GJ dl) vars l).map (Ty.mk 5 i):=by
    rw [II,if_neg h4,if_pos rfl,nT];rfl
   have hf:=AGM dl dv _ jr n τ hdl hb hdv;have hpar:=sU l dv nm vars cs jr τ (by omega) hb;cases hix:C9 (Ml dl) n with
   |none=>
    rw [hix] at hf hres;simp only [Fi] at hf hres;have hneg:decide ((-1:Int) < 0)=true:=by decide
    (repeat' ((first|refine wQ mxQ rfl ?_|refine Run.qP Bx ?_|refine AH.det (hf) ?_|fail)<;>try simp only [AY,hneg,go_sem]));rw [hres];rfl
   |some i=>
    obtain ⟨d,hd⟩:=AH8 hix;have hil:=(AG.1 hd).1;have hdn:=hnn d (AE hd);rw [hix] at hf hres;simp only [Fi] at hf hres;rw [AP2 hd] at hres;have hneg:decide ((i:Int) < 0)=false:=decide_eq_false (by omega);rcases hdv with ⟨rfl,_⟩|⟨jd,e,cells,rfl,hbd,hrows⟩
    . simp at hil
    obtain ⟨cv,_,_,_,g1,_,_⟩:=hrows.at hd;have hixx:((i:Int) < (dl.length:Int))=True:=by simp;omega
    have hcmp:((l.length:Int) != d.vars)=decide (l.length≠d.vars.toNat):=by
     rw [An];simp only [bne_iff_ne,ne_eq,decide_eq_true_eq];omega
    by_cases hA:l.length≠d.vars.toNat
    . rw [decide_eq_true hA] at hcmp;rw [if_pos hA] at hres;(repeat' ((first|refine wQ mxQ rfl ?_|refine Run.qP Bx ?_|refine AH.det (hf) ?_|fail)<;>try simp only [AY,hb,hneg,AA,hixx,hbd,g1,hcmp,go_sem]));rw [hres];rfl
    . rw [decide_eq_false hA] at hcmp;rw [if_neg hA] at hres;have hw1:IntKind.i64.wrap ((dl.length:Int) - 1)=((dl.length - 1:Nat):Int):=by rw [Ax (by omega) (by omega)];omega
      have hlast:((i:Int)==((dl.length - 1:Nat):Int))=decide (i+1=(GJ dl).length):=by
       rw [An];simp only [beq_iff_eq,decide_eq_true_eq,GJ,AA];omega
      by_cases hB:i+1=(GJ dl).length
      . rw [decide_eq_true hB] at hlast;cases whole with
        |false=>
         rw [if_pos ⟨hB,by simp⟩] at hres;(repeat' ((first|refine wQ mxQ rfl ?_|refine Run.qP Bx ?_|refine AH.det (hf) ?_|fail)<;>try simp only [AY,hb,hneg,AA,hixx,hbd,g1,hcmp,hw1,hlast,go_sem]));rw [hres];rfl
        |true=>
         cases hC:Eb l vars with
         |false=>
          rw [hC] at hpar;rw [if_pos ⟨hB,by simp [hC]⟩] at hres;(repeat' ((first|refine wQ mxQ rfl ?_|refine Run.qP Bx ?_|refine AH.det (hf) ?_|refine AH.det (hpar) ?_|fail)<;>try simp only [AY,hb,hneg,AA,hixx,hbd,g1,hcmp,hw1,hlast,go_sem]));rw [hres];rfl
         |true=>
          rw [hC] at hpar;rw [if_neg (by simp [hC])] at hres;rw [hres];(repeat' ((first|refine wQ mxQ rfl ?_|refine AH.det (hf) ?_|refine AH.det (hpar) ?_|fail)<;>try simp only [AY,hb,hneg,AA,hixx,hbd,g1,hcmp,hw1,hlast,go_sem]));exact hloop i
      . rw [decide_eq_false hB] at hlast;rw [if_neg (fun h=>hB h.1)] at hres;rw [hres];(repeat' ((first|refine wQ mxQ rfl ?_|refine AH.det (hf) ?_|fail)<;>try simp only [AY,hb,hneg,AA,hixx,hbd,g1,hcmp,hw1,hlast,go_sem]));exact hloop i
 . have hres:II (GJ dl) vars whole (.mk k n l)=(Co (GJ dl) vars l).map (Ty.mk k 0):=by rw [II,if_neg h4,if_neg h5]
   rw [hres];(repeat' (refine wQ mxQ rfl ?_<;>try simp only [Cp h4,Cp h5,AA,go_sem]));exact hloop 0
end Go.Ab
namespace Go.Ab
open Go.Proofs
theorem Bz.up {σ τ τ':AI} {e s:Nat} {rows:List (List DV)} {v:AV} (h:Bz σ e s rows v τ) (hl:τ.le τ'):Bz σ e s rows v τ':=by
 obtain ⟨σ1,ha,hle⟩:=h.app;refine ⟨?_,AI.le_trans h.le hl,h.plain,h.len,h.cell,h.BE,h.BV,h.dv,h.cells⟩;unfold aF at ha ⊢;split at ha
 . cases ha;exact ⟨τ',rfl,AI.le_trans hle hl⟩
 . rename_i t e' s' rows';split at ha
   . rename_i hc;cases ha;refine ⟨τ'.Eo t,if_pos ⟨hc.1,hc.2.1,hl.tok t hc.2.2⟩,?_⟩;refine ⟨fun i cs hi=>hl.blk i cs (hle.blk i cs hi),fun t' ht'=>?_,hle.gt.trans hl.gt,fun i x hx=>hl.bt i x (hle.bt i x hx)⟩;have h1:=hle.tok t' ht';by_cases he:t'=t
     . subst he;simp [AI.Eo] at h1
     . simp only [AI.Eo,if_neg he] at h1 ⊢;exact hl.tok t' h1
   . cases ha
 . cases ha
theorem Bz.set {σ τ:AI} {e s:Nat} {rows:List (List DV)} {v:AV} (h:Bz σ e s rows v τ) {j:Nat} (hj:σ.blk j=none) (cs:List AV):Bz σ e s rows v (τ.AP j cs):=by
 obtain ⟨σ1,ha,hle⟩:=h.app;refine ⟨?_,E6 h.le hj,h.plain,h.len,h.cell,h.BE,h.BV,h.dv,h.cells⟩;unfold aF at ha ⊢;split at ha
 . cases ha;exact ⟨_,rfl,E6 hle hj⟩
 . rename_i t e' s' rows';split at ha
   . rename_i hc;cases ha;exact ⟨(τ.AP j cs).Eo t,if_pos hc,E6 hle hj⟩
   . cases ha
 . cases ha
theorem Bz.slv {σ τ:AI} {e s:Nat} {rows:List (List DV)} {v:AV} (h:Bz σ e s rows v τ):SlV v rows:=by
 obtain ⟨σ1,ha,hle⟩:=h.app;unfold aF at ha;split at ha
 . cases ha;exact .inr (.inr ⟨rfl,rfl⟩)
 . split at ha
   . cases ha;exact .inr (.inl ⟨_,_,_,rfl⟩)
   . cases ha
 . cases ha
theorem cI (dl:List Dat) (hdt:cJ dl) (hl:dl.length<=1000000) (jd e:Nat) (cells:List AV) (s:Str) (σ:AI) (hb:σ.blk jd=some cells) (hrows:LX cells dl):
 AT Tzp 79 [.ms jd dl.length 3 e,.d (.str s)] σ (fun v σ'=>v=ZK (EV dl s)/\σ'=σ):=by
 refine Ok (by simp) ?_;rw [BK];(repeat' (refine wQ mxQ rfl ?_<;>try simp only [AA,go_sem]));refine Run.At ?_;refine Run.Au ((fun (a0:AV) (a1:AV) (a10:AV)=>fun (i:Nat)=>put 0 a0 (put 1 a1 (put 10 a10 (put 11 (.d (.int .i64 i)) U)))) _ _ _) (fun _=>E) (fun _=>σ) (fun i=>i<=dl.length/\∀d∈dl.take i,IT d.cons s=none) (fun i=>dl.length - i) ?_ 0 ⟨by simp,by simp⟩;rintro i ⟨hi,hno⟩ ih;by_cases hlt:i < dl.length
 . obtain ⟨d,hd⟩:=Ai hlt;obtain ⟨cv,_,hsl,_,_,g2,_⟩:=hrows.at hd;have hix:((i:Int) < (dl.length:Int))=True:=by simp;omega
   have hw1:IntKind.i64.wrap ((i:Int)+1)=((i+1:Nat):Int):=by rw [Ax (by omega) (by omega)];omega
   have hdl:=hdt d (AE hd);have hat:=fun k=>wJ (k:=k) hno hd;rw [<- Ib] at hat;have hnext:=fun (h:IT d.cons s=none)=>F2 (p:=fun d:Dat=>(IT d.cons s).isSome) (i:=i) (fun y hy=>by simp [hno y hy]) hd (by rw [h];rfl);obtain ⟨dn,dv,cs⟩:=d;simp only at *;have hlen:=hsl.len;rw [AA] at hlen;have hcell:=hsl.cell;(repeat' (refine wQ mxQ rfl ?_<;>try simp only [Ag hlt,hix,hb,g2,hcell,hlen,go_sem]));refine Run.At ?_;refine Run.Au ((fun (a0:AV) (a1:AV) (a7:AV) (a10:AV) (a11:AV) (a19:AV)=>fun (k:Nat)=>put 0 a0 (put 1 a1 (put 7 a7 (put 10 a10 (put 11 a11 (put 19 a19 (put 20 (.d (.int .i64 k)) U))))))) _ _ _ _ _ _) (fun _=>E) (fun _=>σ) (fun k=>k<=cs.length/\∀c∈cs.take k,(c.name==s)=false) (fun k=>cs.length - k) ?_ 0 ⟨by simp,by simp⟩;rintro k ⟨hk,hnk⟩ ih2;by_cases hkl:k < cs.length
   . obtain ⟨c,hc⟩:=Ai hkl;have hec:=PM hc;have hwk:=A4 (show k+1<=9000000000000000000 by omega)
     have hne:List.map Con.enc cs≠[]:=by
      intro h;rw [h] at hec;simp at hec
     cases hs:(c.name==s) with
     |true=>
      have hfin:=hat k (D3 (p:=fun c:Con=>c.name==s) hnk hc hs);clear hat hnext ih ih2;rcases hsl with rfl|⟨t',e',s',rfl⟩|⟨h0,_⟩
      . (repeat' ((first|refine wQ mxQ rfl ?_|refine Run.qP EB ?_|fail)<;>try simp only [Ag hkl,hix,hb,g2,hec,Bd,hs,go_sem]));rw [hfin];rfl
      . (repeat' ((first|refine wQ mxQ rfl ?_|refine Run.qP EB ?_|fail)<;>try simp only [Ag hkl,hix,hb,g2,hec,Bd,hs,go_sem]));rw [hfin];rfl
      . exact absurd h0 hne
     |false=>
      have hgo:=ih2 (k+1) ⟨by omega,F2 (p:=fun c:Con=>c.name==s) hnk hc hs⟩ (by omega);clear hat hnext ih ih2;rcases hsl with rfl|⟨t',e',s',rfl⟩|⟨h0,_⟩
      . (repeat' (refine wQ mxQ rfl ?_<;>try simp only [Ag hkl,hix,hb,g2,hec,hwk,Bd,hs,go_sem]));exact hgo
      . (repeat' (refine wQ mxQ rfl ?_<;>try simp only [Ag hkl,hix,hb,g2,hec,hwk,Bd,hs,go_sem]));exact hgo
      . exact absurd h0 hne
   . rw [AM (by omega)] at hnk;(repeat' (refine wQ mxQ rfl ?_<;>try simp only [B5 hkl,hw1,go_sem]));refine ih (i+1) ⟨by omega,fun y hy=>?_⟩ (by omega);have:=hnext (by rw [<- Ib,D4 (p:=fun c:Con=>c.name==s) hnk]) y hy;simpa using this
 . (repeat' ((first|refine wQ mxQ rfl ?_|refine Run.qP EB ?_|fail)<;>try simp only [B5 hlt,go_sem]));rw [AM (by omega)] at hno;rw [wK hno];rfl
def KO (dl:List Dat):List Str:=dl.flatMap fun d=>d.cons.map (·.name)
theorem ADN (l:List Con) (s:Str):(IT l s).isSome=(l.map (·.name)).contains s:=by
 rw [<- Io,<- Ib,<- Ph,List.findIdx?_map];rfl
theorem tY (s:Str):∀dl:List Dat,(EV dl s).isSome=(KO dl).contains s
 |[]=>rfl
 |d::l=>by
  have h1:=ADN d.cons s;have h2:=tY s l
  have h3:(KO (d::l)).contains s=((d.cons.map (·.name)).contains s||(KO l).contains s):=by
   simp only [KO,EE];rw [An];simp only [Ak,A0,DI]
  rw [h3,<- h1,<- h2,EV];cases IT d.cons s<;>simp
end Go.Ab
namespace Go.Ab
open Go.Proofs
theorem XEx.AVR {K:C6} {F:Fm} {L:Lm} {σ σ1:AI} {d:Option Nat} {e s i n n2 e2:Nat} {p:AV} {cs cs2:List AV} (hb:σ.blk i=some cs2) (h1:cs2.length=n2 * s) (hn2:n2≠0) (hbd:n+n2<=1000000000)
 (hpa:Oc σ e s p=some (n,cs,σ1)) (hnp:p.BE=true) (h:∀j,σ.blk j=none->K (BS d (.ms j (n+n2) s e) F) L (σ1.AP j (cs++cs2))):XEx (.y6 e s) [p,.ms i n2 s e2] d K F L σ:=
 ⟨by simp [hnp,AG0],by cases p<;>exact ⟨rfl,cs2,n,cs,σ1,hb,h1,hn2,hbd,hpa,h⟩⟩
abbrev eD:Nat:=110
def DlX (σ0:AI) (jr:Nat) (τ:AI) (dl:List Dat) (v:AV):Prop:=(dl=[]/\v= .Ae)\/(∃jd cs,v= .ms jd dl.length 3 eD/\σ0.blk jd=none/\jd≠jr/\τ.blk jd=some cs/\LX cs dl)
theorem DlX.dls {σ0 τ:AI} {jr:Nat} {dl:List Dat} {v:AV} (h:DlX σ0 jr τ dl v):DlS τ dl v:=by
 rcases h with h|⟨jd,cs,h1,_,_,h2,h3⟩
 . exact .inl h
 . exact .inr ⟨jd,_,cs,h1,h2,h3⟩
theorem DlX.app {σ0 τ:AI} {jr:Nat} {dl:List Dat} {v:AV} (h:DlX σ0 jr τ dl v) (hle:σ0.le τ) (hjr:τ.blk jr≠none) (row:List AV):
 ∃cs,LX cs dl/\∀i,τ.blk i=none->∃σ1,Oc (τ.AP i row) eD 3 v=some (dl.length,cs,σ1)/\σ0.le σ1/\σ1.blk jr=τ.blk jr:=by
 have hi0:∀i,τ.blk i=none->σ0.blk i=none/\i≠jr:=fun i hi=>by
  refine ⟨?_,fun e=>hjr (e ▸ hi)⟩;cases hc:σ0.blk i with
  |none=>rfl
  |some c=>rw [hle.blk i c hc] at hi;cases hi
 rcases h with ⟨rfl,rfl⟩|⟨jd,cs,rfl,h0,hne,hb,hr⟩
 . refine ⟨[],⟨rfl,by simp⟩,fun i hi=>⟨_,rfl,E6 hle (hi0 i hi).1,?_⟩⟩;rw [AK,if_neg (A9 (hi0 i hi).2)]
 . refine ⟨cs,hr,fun i hi=>⟨(τ.AP i row).E1 jd,?_,?_,?_⟩⟩
   . have hji:jd≠i:=fun e=>by rw [e,hi] at hb;cases hb
     simp [Oc,AK,hji,hb,hr.1]
   . refine ⟨fun q c hq=>?_,hle.tok,hle.gt,hle.bt⟩;have hq1:q≠jd:=fun e=>by rw [e,h0] at hq;cases hq
     have hq2:q≠i:=fun e=>by rw [e,(hi0 i hi).1] at hq;cases hq
     simp only [AI.E1,if_neg hq1,AK,if_neg hq2];exact hle.blk q c hq
   . simp only [AI.E1,if_neg (A9 hne),AK,if_neg (A9 (hi0 i hi).2)]
structure APS (σ0:AI) (jr:Nat) (dl:List Dat) (nm:Str) (k:Int) (cv x1 x2 x3:AV) (jd:Nat) (cs:List AV) (τ:AI):Prop where
 res:τ.blk jr=some [.ms jd (dl.length+1) 3 eD,x1,x2,x3]
 nb:σ0.blk jd=none
 ne:jd≠jr
 row:τ.blk jd=some (cs++[.d (.str nm),.d (.int .i64 k),cv])
 ok:LX cs dl
 le:σ0.le τ
theorem LX.snoc {cs:List AV} {dl:List Dat} (h:LX cs dl) (nm:Str) (k:Int) (cv:AV) (cons:List Con) (hcv:SlV cv (cons.map Con.enc)):LX (cs++[.d (.str nm),.d (.int .i64 k),cv]) (dl++[⟨nm,k,cons⟩]):=by
 refine ⟨by simp [h.1];omega,fun i d hd=>?_⟩;rcases C7 i dl.length with hi|hi
 . rw [BQ hi] at hd;obtain ⟨cv',h1,h2⟩:=h.2 i d hd;refine ⟨cv',?_,h2⟩;rw [List.drop_append_of_le_length (by rw [h.1];omega),List.take_append_of_le_length (by rw [Cm,h.1];omega)];exact h1
 . have:i=dl.length:=by
    have:=(AG.1 hd).1;simp at this;omega
   subst this;rw [BL (AW _),Nat.sub_self] at hd;simp only [BM,AL] at hd;subst hd;refine ⟨cv,?_,hcv⟩;rw [<- h.1,List.drop_left];rfl
theorem TG (ds:List (Str×Nat)) (vars:List Str) (m:List TE):∀ {l:List TE} {us:List Ty},D2 ds vars l= .ok us->D2 ds vars (l++m)=(D2 ds vars m).map (us++·)
 |[],us,h=>by
  simp only [D2,Db] at h;subst h;simp only [As];cases D2 ds vars m<;>rfl
 |t::l,us,h=>by
  rw [D2] at h;rw [AZ,D2];cases ht:II ds vars true t with
  |error e=>rw [ht] at h;cases h
  |ok u=>
   rw [ht] at h;simp only at h ⊢;cases hl:D2 ds vars l with
   |error e=>rw [hl] at h;cases h
   |ok ys=>
    rw [hl] at h;simp only [C3,Db] at h;subst h;rw [TG ds vars m hl];cases D2 ds vars m<;>rfl
theorem Pe (ds:List (Str×Nat)) (vars:List Str) (m:List CE):∀ {l:List CE} {used:List Str} {us:List Con},Em ds vars used l= .ok us->Em ds vars used (l++m)=(Em ds vars (used++l.map (·.name)) m).map (us++·)/\us.map (·.name)=l.map (·.name)
 |[],used,us,h=>by
  simp only [Em,Db] at h;subst h;simp only [As,AJ,BW,and_true];cases Em ds vars used m<;>rfl
 |c::l,used,us,h=>by
  rw [Em] at h;rw [AZ,Em];split at h
  . cases h
  . rename_i hu;rw [if_neg hu];cases ht:D2 ds vars c.args with
    |error e=>rw [ht] at h;cases h
    |ok ts=>
     rw [ht] at h;simp only at h ⊢;cases hl:Em ds vars (used++[c.name]) l with
     |error e=>rw [hl] at h;cases h
     |ok ys=>
      rw [hl] at h;simp only [C3,Db] at h;subst h;obtain ⟨h1,h2⟩:=Pe ds vars m hl;rw [h1,Az];refine ⟨?_,by simp [h2]⟩;simp only [AD,List.singleton_append];cases Em ds vars (used++c.name::l.map (·.name)) m<;>rfl
end Go.Ab
namespace Go.Ab
open Go.Proofs
theorem z6 (σ0:AI) (jr:Nat) (dl:List Dat) (hdl:dl.length<=1000) (nm:Str) (vs:List Str) (cs:List CE) (τ:AI) (dv x1 x2 x3:AV) (hb:τ.blk jr=some [dv,x1,x2,x3]) (hx:x1.B8=true/\x2.B8=true/\x3.B8=true)
 (hv:DlX σ0 jr τ dl dv) (hle:σ0.le τ) (hjr:σ0.blk jr=none) (K:C6)
 (hK:∀F' L' σ' jd cells,JK [0,3] F'=put 0 (.gp jr 0) (put 3 (.lp 3 0) U)->Hs [0,3] L'=Am 3 [.d (.str nm),.d (.sl (vs.map BF)),.d (.sl (cs.map CE.enc))] E->APS σ0 jr dl nm vs.length .Ae x1 x2 x3 jd cells σ'->K F' L' σ'):
 XT Tzp K false (.one ⟨some 26,.mv (.t 0),none⟩ (.one ⟨some 27,.mv (.t 0),none⟩ (.one ⟨some 28,.nck (.t 27),none⟩ (.one ⟨some 29,.fld (.t 28) 0,none⟩ (.one ⟨some 31,.fld (.t 3) 0,none⟩ (.one ⟨some 32,.ldl (.t 31) none,none⟩ (.one ⟨some 33,.fld (.t 3) 1,none⟩ (.one ⟨some 34,.ldl (.t 33) none,none⟩ (.one ⟨some 35,.len (.t 34),none⟩ (.one ⟨some 36,.bld [(.d (.str [])),(.d (.int .i64 0)),.Ae] [(0,1,(.t 32)),(1,1,(.t 35))],none⟩ (.alt ⟨some 30,.ld (.t 29) none,none⟩ (.one ⟨some 37,.kJ 110 3 1 [(.d (.str [])),(.d (.int .i64 0)),.Ae] [(0,3,(.t 36))],none⟩ (.one ⟨some 38,.ex (.y6 110 3) [(.t 30),(.t 37)],none⟩ (.one ⟨some 39,.nck (.t 26),none⟩ (.one ⟨some 40,.fld (.t 39) 0,none⟩ (.one ⟨none,.st (.t 40) (.t 38) 1,none⟩ .done))))) (.alt ⟨some 37,.kJ 110 3 1 [(.d (.str [])),(.d (.int .i64 0)),.Ae] [(0,3,(.t 36))],none⟩ (.one ⟨some 30,.ld (.t 29) none,none⟩ (.one ⟨some 38,.ex (.y6 110 3) [(.t 30),(.t 37)],none⟩ (.one ⟨some 39,.nck (.t 26),none⟩ (.one ⟨some 40,.fld (.t 39) 0,none⟩ (.one ⟨none,.st (.t 40) (.t 38) 1,none⟩ .done))))) .done)))))))))))) (put 0 (.gp jr 0) (put 3 (.lp 3 0) (put 25 (.d (.bool false)) U))) (Am 3 [.d (.str nm),.d (.sl (vs.map BF)),.d (.sl (cs.map CE.enc))] E) τ:=by
 have hcell:dv.B8=true:=by rcases hv with ⟨_,rfl⟩|⟨jd,cs,rfl,_⟩<;>rfl
 have hnl:dv.BE=true:=by rcases hv with ⟨_,rfl⟩|⟨jd,cs,rfl,_⟩<;>rfl
 have hjn:∀i,τ.blk i=none->i≠jr:=fun i hi e=>by rw [e,hb] at hi;cases hi
 have hi0:∀i,τ.blk i=none->σ0.blk i=none:=fun i hi=>by
  cases hc:σ0.blk i with
  |none=>rfl
  |some c=>rw [hle.blk i c hc] at hi;cases hi
 obtain ⟨cells,hrows,happ⟩:=hv.app hle (by rw [hb];simp) [.d (.str nm),.d (.int .i64 (vs.length:Int)),.Ae]
 -- what both orders end with
 have hend:∀(i:Nat) (σ1:AI) (j:Nat),τ.blk i=none->Oc (τ.AP i [.d (.str nm),.d (.int .i64 (vs.length:Int)),.Ae]) eD 3 dv=some (dl.length,cells,σ1)->σ0.le σ1->σ1.blk jr=τ.blk jr->(τ.AP i [.d (.str nm),.d (.int .i64 (vs.length:Int)),.Ae]).blk j=none->
  APS σ0 jr dl nm vs.length .Ae x1 x2 x3 j cells ((σ1.AP j (cells++[.d (.str nm),.d (.int .i64 (vs.length:Int)),.Ae])).AP jr [.ms j (dl.length+1) 3 eD,x1,x2,x3]):=fun i σ1 j hi _ hl1 hb1 hj=>by
  have hji:j≠i:=fun e=>by rw [e,AK,if_pos rfl] at hj;cases hj
  rw [AK,if_neg hji] at hj;have hjr':=hjn j hj;refine ⟨B0,hi0 j hj,hjr',by rw [AK,if_neg hjr',AK,if_pos rfl],hrows,E6 (E6 hl1 (hi0 j hj)) hjr⟩
 simp only [hb,hcell,AA,go_sem];refine ⟨We.mk (fun i hi=>?_),We.mk (fun i hi=>?_)⟩
 . obtain ⟨σ1,ha,hl1,hb1⟩:=happ i hi;have hij:=hjn i hi;have hji:(jr=i)=False:=by simp only [eq_iff_iff,iff_false];exact fun e=>hij e.symm
   simp only [hb,hcell,hji,go_sem];refine XEx.AVR (cs2:=[.d (.str nm),.d (.int .i64 (vs.length:Int)),.Ae]) (by simp only [AK,if_true]) rfl (by simp) (by omega) ha hnl (fun j hj=>?_)
   have hjj:(jr=j)=False:=by
    simp only [eq_iff_iff,iff_false];intro e;rw [<- e,AK,if_neg (fun e=>hij e.symm),hb] at hj;cases hj
   have hfin:=hend i σ1 j hi ha hl1 hb1 hj;rw [hb] at hb1;simp only [hjj,hb1,go_sem];exact hK _ _ _ j cells (by simp only [go_sem]) (by simp only [go_sem]) hfin
 . obtain ⟨σ1,ha,hl1,hb1⟩:=happ i hi;have hij:=hjn i hi;have hji:(jr=i)=False:=by simp only [eq_iff_iff,iff_false];exact fun e=>hij e.symm
   simp only [hb,hcell,hji,go_sem];refine XEx.AVR (cs2:=[.d (.str nm),.d (.int .i64 (vs.length:Int)),.Ae]) (by simp only [AK,if_true]) rfl (by simp) (by omega) ha hnl (fun j hj=>?_)
   have hjj:(jr=j)=False:=by
    simp only [eq_iff_iff,iff_false];intro e;rw [<- e,AK,if_neg (fun e=>hij e.symm),hb] at hj;cases hj
   have hfin:=hend i σ1 j hi ha hl1 hb1 hj;rw [hb] at hb1;simp only [hjj,hb1,go_sem];exact hK _ _ _ j cells (by simp only [go_sem]) (by simp only [go_sem]) hfin
end Go.Ab
namespace Go.Ab
open Go.Proofs
def DQ (σ0:AI) (jr:Nat) (dl:List Dat) (r:Except Int Dat) (v:AV) (σ':AI):Prop:=match r with
 | .error e=>v= .d (.int .i64 e)/\e≠0/\σ0.le σ'
 | .ok x=>v= .d (.int .i64 0)/\σ0.le σ'/\∃dv y1 y2 y3,σ'.blk jr=some [dv,y1,y2,y3]/\(y1.B8=true/\y2.B8=true/\y3.B8=true)/\DlX σ0 jr σ' (dl++[x]) dv
theorem y7 {ds:List (Str×Nat)} {vars:List Str}:∀ {l:List TE} {e:Int},D2 ds vars l= .error e->e≠0
 |[],e,h=>by cases h
 |t::l,e,h=>by
  rw [D2] at h;cases ht:II ds vars true t with
  |error e'=>rw [ht] at h;cases h;exact eV t true _ ht
  |ok u=>
   rw [ht] at h;cases hl:D2 ds vars l with
   |error e'=>rw [hl] at h;cases h;exact y7 hl
   |ok us=>rw [hl] at h;cases h
theorem AK0 (l m:List Dat):KO (l++m)=KO l++KO m:=by simp [KO]
abbrev eC:Nat:=112
def AVL (σ0:AI) (jr:Nat) (dl:List Dat) (nm:Str) (vs:List Str) (cs:List CE) (jd:Nat) (cells:List AV) (p:Nat) (us:List Con) (F':Fm) (L':Lm) (σ':AI):Prop:=
 JK [0,5,52,53,54] F'=put 0 (.gp jr 0) (put 5 (.d (.int .i64 (dl.length:Int))) (put 52 (.d (.sl (cs.map CE.enc))) (put 53 (.d (.int .i64 cs.length)) (put 54 (.d (.int .i64 p)) U))))/\Hs [0,5,52,53,54] L'=E/\
  ∃cv',APS σ0 jr dl nm vs.length cv' (.d (.str nm)) (.d (.sl (vs.map BF))) (.d (.sl (cs.map CE.enc))) jd cells σ'/\Bz σ0 eC 2 (us.map Con.enc) cv' σ'
theorem ADQ (σ0:AI) (jr:Nat) (dl:List Dat) (hdl:dl.length<=1000) (hnn:∀d∈dl,0<=d.vars) (hdt:cJ dl) (nm:Str) (vs:List Str) (cs:List CE) (hcs:cs.length<=1000) (hsm:∀c∈cs,Yl c/\c.args.length<=1000)
 (τ:AI) (jd:Nat) (cells:List AV) (hjr:σ0.blk jr=none) (haps:APS σ0 jr dl nm vs.length .Ae (.d (.str nm)) (.d (.sl (vs.map BF))) (.d (.sl (cs.map CE.enc))) jd cells τ):
 Run DY (DQ σ0 jr dl ((Em (GJ dl++[(nm,vs.length)]) vs (KO dl) cs).map (⟨nm,vs.length,·⟩))) [.code (.loop IL),.blk 0,.code (.seq (.reg [⟨some 4,.mv (.c (.d (.int .i64 0))),none⟩] [4]) .ret)]
  (put 0 (.gp jr 0) (put 5 (.d (.int .i64 (dl.length:Int))) (put 52 (.d (.sl (cs.map CE.enc))) (put 53 (.d (.int .i64 cs.length)) (put 54 (.d (.int .i64 0)) U))))) E τ:=by
 generalize hQ:DQ σ0 jr dl ((Em (GJ dl++[(nm,vs.length)]) vs (KO dl) cs).map (⟨nm,vs.length,·⟩))=Q
 have herr:∀(e:Int) (σ':AI),Em (GJ dl++[(nm,vs.length)]) vs (KO dl) cs= .error e->e≠0->σ0.le σ'->Q (.d (.int .i64 e)) σ':=fun e σ' h hne hl=>by
  rw [<- hQ,h];exact ⟨rfl,hne,hl⟩
 have hfin:∀(us:List Con) (cv:AV) (σ':AI),Em (GJ dl++[(nm,vs.length)]) vs (KO dl) cs= .ok us->SlV cv (us.map Con.enc)->APS σ0 jr dl nm vs.length cv (.d (.str nm)) (.d (.sl (vs.map BF))) (.d (.sl (cs.map CE.enc))) jd cells σ'->Q (.d (.int .i64 0)) σ':=fun us cv σ' h hsl ha=>by
  rw [<- hQ,h];refine ⟨rfl,ha.le,_,_,_,_,ha.res,⟨rfl,rfl,rfl⟩,.inr ⟨jd,_,by rw [AX];rfl,ha.nb,ha.ne,ha.row,ha.ok.snoc nm _ cv us hsl⟩⟩
 clear hQ;refine Run.At ?_
 refine Run.Au ((fun (a0:AV) (a5:AV) (a52:AV) (a53:AV)=>fun (y:Nat×List Con×AV×AI)=>put 0 a0 (put 5 a5 (put 52 a52 (put 53 a53 (put 54 (.d (.int .i64 y.1)) U))))) _ _ _ _) (fun _=>E) (fun y=>y.2.2.2)
  (fun y=>y.1<=cs.length/\y.2.1.length=y.1/\Em (GJ dl++[(nm,vs.length)]) vs (KO dl) (cs.take y.1)= .ok y.2.1/\APS σ0 jr dl nm vs.length y.2.2.1 (.d (.str nm)) (.d (.sl (vs.map BF))) (.d (.sl (cs.map CE.enc))) jd cells y.2.2.2/\Bz σ0 eC 2 (y.2.1.map Con.enc) y.2.2.1 y.2.2.2)
  (fun y=>cs.length - y.1) ?_ (0,[],.Ae,τ) ⟨by simp,rfl,rfl,haps,⟨⟨τ,rfl,haps.le⟩,haps.le,rfl,rfl,rfl,rfl,fun _=>rfl,rfl,rfl⟩⟩
 rintro ⟨p,us,cv,τ1⟩ ⟨hp,hlu,hok,haps,hown⟩ ih;simp only at hp hlu hok haps hown;by_cases hlt:p < cs.length
 . obtain ⟨c,hc⟩:=Ai hlt;have he:=Av (enc:=CE.enc) hc;have hw1:=A4 (show p+1<=9000000000000000000 by omega);obtain ⟨hall,hnames⟩:=Pe (GJ dl++[(nm,vs.length)]) vs (cs.drop p) hok;rw [Ad,Bu hc] at hall;obtain ⟨hsn,_⟩:=Pe (GJ dl++[(nm,vs.length)]) vs [c] hok;rw [<- Aa hc] at hsn;obtain ⟨hcsm,hcal⟩:=hsm c (AE hc)
   -- the rows with the partial declaration
   have hrows:=haps.ok.snoc nm (vs.length:Int) cv us hown.slv;have hlp:(dl++[(⟨nm,(vs.length:Int),us⟩:Dat)]).length=dl.length+1:=by simp
   have husl:us.length<=1000000:=by omega
   have hdtp:cJ (dl++[⟨nm,(vs.length:Int),us⟩]):=fun d hd=>by
    rcases A0.1 hd with h|h
    . exact hdt d h
    . simp only [A6] at h;subst h;exact husl
   have hnnp:∀d∈dl++[(⟨nm,(vs.length:Int),us⟩:Dat)],0<=d.vars:=fun d hd=>by
    rcases A0.1 hd with h|h
    . exact hnn d h
    . simp only [A6] at h;subst h;simp
   have hdsp:GJ (dl++[⟨nm,(vs.length:Int),us⟩])=GJ dl++[(nm,vs.length)]:=by simp [GJ]
   have hudp:KO (dl++[⟨nm,(vs.length:Int),us⟩])=KO dl++(cs.take p).map (·.name):=by
    rw [AK0,<- hnames];simp [KO]
   have hctr:=cI (dl++[⟨nm,(vs.length:Int),us⟩]) hdtp (by rw [hlp];omega) jd eD _ c.name τ1 haps.row hrows;have hcu:=tY c.name (dl++[⟨nm,(vs.length:Int),us⟩]);rw [hudp] at hcu;rw [hlp] at hctr;have hRB:RB τ1 jr (dl++[⟨nm,(vs.length:Int),us⟩]) nm vs cs:=⟨_,haps.res,.inr ⟨jd,eD,_,by rw [hlp],haps.row,hrows⟩⟩;have hres:=haps.res;generalize hdlp:dl++[(⟨nm,(vs.length:Int),us⟩:Dat)]=dlp at *;rw [Em] at hall hsn;obtain ⟨cn,ar⟩:=c;simp only [CE.enc] at he hcu hall hsn hctr hcal hcsm;cases hct:EV dlp cn with
   |some x=>
    rw [hct] at hctr hcu;simp only [ZK,CX] at hctr hcu;rw [<- hcu,if_pos rfl] at hall;(repeat' ((first|refine wQ mxQ rfl ?_|refine Run.qR Cg ?_|refine AH.det (hctr) ?_|fail)<;>try simp only [Ag hlt,he,hres,go_sem]));exact herr 4 _ hall (by decide) haps.le
   |none=>
   rw [hct] at hctr hcu;simp only [ZK,CW] at hctr hcu;rw [<- hcu,if_neg (by simp)] at hall hsn;(repeat' ((first|refine wQ mxQ rfl ?_|refine AH.det (hctr) ?_|fail)<;>try simp only [Ag hlt,he,hres,AA,go_sem]));refine Run.At ?_
   refine Run.Au ((fun (a0:AV) (a5:AV) (a11:AV) (a52:AV) (a53:AV) (a54:AV) (a74:AV) (a75:AV)=>fun (z:Nat×List Ty×AV×AI)=>put 0 a0 (put 5 a5 (put 11 a11 (put 52 a52 (put 53 a53 (put 54 a54 (put 74 a74 (put 75 a75 (put 76 (.d (.int .i64 z.1)) U))))))))) _ _ _ _ _ _ _ _) (fun z=>Am 11 [.d (.str cn),z.2.2.1] E) (fun z=>z.2.2.2)
    (fun z=>z.1<=ar.length/\z.2.1.length=z.1/\D2 (GJ dl++[(nm,vs.length)]) vs (ar.take z.1)= .ok z.2.1/\Bz τ1 46 3 (z.2.1.map Ty.enc) z.2.2.1 z.2.2.2)
    (fun z=>ar.length - z.1) ?_ (0,[],.Ae,τ1) ⟨by simp,rfl,rfl,Bz.nil _ _ _⟩
   rintro ⟨a,ts,uv,τ2⟩ ⟨ha,hlt',hoka,ho⟩ ih2;simp only at ha hlt' hoka ho;by_cases hal:a < ar.length
   . obtain ⟨x,hx⟩:=Ai hal;have hex:=Av (enc:=TE.enc) hx;have hwa:=A4 (show a+1<=9000000000000000000 by omega);have hxs:=hcsm x (AE hx);have hra:=AFJ jr dlp (by omega) hnnp nm vs cs x.size x true τ2 (AW _) hxs (hRB.le ho.le);rw [hdsp] at hra
     have hall2:D2 (GJ dl++[(nm,vs.length)]) vs ar=(D2 (GJ dl++[(nm,vs.length)]) vs (x::ar.drop (a+1))).map (ts++·):=by
      conv=>lhs;rw [<- Ad a ar,Bu hx]
      exact TG _ _ _ hoka
     have hsn2:D2 (GJ dl++[(nm,vs.length)]) vs (ar.take (a+1))=(D2 (GJ dl++[(nm,vs.length)]) vs [x]).map (ts++·):=by
      rw [Aa hx];exact TG _ _ _ hoka
     rw [D2] at hall2;rw [D2,D2] at hsn2;cases hr:II (GJ dl++[(nm,vs.length)]) vs true x with
     |error e=>
      rw [hr] at hra hall2;simp only [C3] at hall2;rw [hall2] at hall;have hne:=eV x true e hr;have hne':(e != 0)=true:=by simpa using hne
      obtain ⟨xk,xn,xl⟩:=x;simp only [TE.A2,teA,AD,AJ,YA] at hex hra;have hxe:=herr e τ2 hall hne (AI.le_trans haps.le ho.le);(repeat' ((first|refine wQ mxQ rfl ?_|refine Run.qR Cg ?_|refine AH.det (hra) ?_|fail)<;>try simp only [Ag hal,hex,hne',ho.cell,go_sem]));exact hxe
     |ok u=>
      rw [hr] at hra hsn2;simp only [C3] at hsn2;obtain ⟨uk,un,ul⟩:=u;obtain ⟨xk,xn,xl⟩:=x;simp only [TE.A2,teA,AD,AJ,YA,tyA,Ty.enc] at hex hra;have h00:((0:Int) != 0)=false:=by decide
      (repeat' ((first|refine wQ mxQ rfl ?_|(refine DD.own ho rfl (by simp) (by simp;omega) (by decide) (fun v2 σ2 ho2 hbk=>?_))|refine AH.det (hra) ?_|fail)<;>try simp only [Ag hal,hex,hwa,h00,ho.w4,go_sem]));simp only [ho2.cells,ho2.cell,go_sem];(repeat' (refine wQ mxQ rfl ?_<;>try simp only [hwa,ho2.cell,ho2.cells,go_sem]));exact ih2 (a+1,ts++[.mk uk un ul],v2,σ2) ⟨by simp only;omega,by simp [hlt'],hsn2,by simpa [Ty.enc] using ho2⟩ (by simp only;omega)
   . rw [AM (by omega)] at hoka;rw [hoka] at hall hsn;simp only [Em,C3] at hall hsn;have haps2:APS σ0 jr dl nm vs.length cv (.d (.str nm)) (.d (.sl (vs.map BF))) (.d (.sl (cs.map CE.enc))) jd cells τ2:=⟨ho.le.blk _ _ hres,haps.nb,haps.ne,ho.le.blk _ _ haps.row,haps.ok,AI.le_trans haps.le ho.le⟩;have hown2:=hown.up ho.le;(repeat' (first|refine ctQ rfl ?_|((first|refine rgQ mxQ ?_|refine cdQ ?_)<;>try simp only [B5 hal,go_sem])|fail));have hcl:=haps.ok.1;have hixl:((dl.length:Int) < ((dl.length+1:Nat):Int))=True:=by simp only [eq_iff_iff,iff_true];omega
     have hget:(cells++[AV.d (.str nm),.d (.int .i64 (vs.length:Int)),cv])[dl.length * 3+2]?=some cv:=by
      rw [BL (by omega),hcl,R3];rfl
     have htk:Ek (dl.length * 3+2) (cells++[AV.d (.str nm),.d (.int .i64 (vs.length:Int)),cv])=cells++[AV.d (.str nm),.d (.int .i64 (vs.length:Int))]:=by
      rw [List.take_append,AM (by omega),hcl,R3];rfl
     have hdr:EG (dl.length * 3+2+1) (cells++[AV.d (.str nm),.d (.int .i64 (vs.length:Int)),cv])=[]:=by
      rw [TB (by simp;omega)]
     have hlen3:(dl.length * 3+2+1<=(cells++[AV.d (.str nm),.d (.int .i64 (vs.length:Int)),cv]).length)=True:=by simp;omega
     have hend:∀(v3:AV) (σ3:AI) (F':Fm) (L':Lm),JK [0,5,52,53,54] F'=put 0 (.gp jr 0) (put 5 (.d (.int .i64 (dl.length:Int))) (put 52 (.d (.sl (cs.map CE.enc))) (put 53 (.d (.int .i64 cs.length)) (put 54 (.d (.int .i64 p)) U))))->Hs [0,5,52,53,54] L'=E->
      Bz σ0 eC 2 (us.map Con.enc++[[.str cn,.sl (ts.map Ty.enc)]]) v3 σ3->σ3.blk jr=some [.ms jd (dl.length+1) 3 eD,.d (.str nm),.d (.sl (vs.map BF)),.d (.sl (cs.map CE.enc))]->
      AVL σ0 jr dl nm vs cs jd cells p (us++[(⟨cn,ts⟩:Con)]) F' L' (σ3.AP jd (cells++[AV.d (.str nm),.d (.int .i64 (vs.length:Int)),v3])):=fun v3 σ3 F' L' h1 h2 ho3 hr3=>by
      refine ⟨h1,h2,v3,⟨by rw [AK,if_neg (A9 haps.ne)];exact hr3,haps.nb,haps.ne,B0,haps.ok,E6 ho3.le haps.nb⟩,?_⟩;have:=ho3.set haps.nb (cells++[AV.d (.str nm),.d (.int .i64 (vs.length:Int)),v3]);simpa [Con.enc,Ty.C1] using this
     refine Run.eT mixed (AVL σ0 jr dl nm vs cs jd cells p (us++[(⟨cn,ts⟩:Con)])) ?_ ?_
     . simp only [haps2.res,haps2.row,hixl,hget,hown2.cell,hown.cell,ho.dv,ho.cell,go_sem];refine ⟨?_,?_⟩
       . refine DD.own hown2 rfl (by simp) (by simp;omega) (by decide) (fun v3 σ3 ho3 hbk3=>?_);have hb3:=(hbk3 jd).trans haps2.row;have hr3:=(hbk3 jr).trans haps2.res;simp only [hb3,hr3,hixl,ho3.cells,ho3.cell,hlen3,htk,hdr,go_sem];rw [Az];refine hend v3 σ3 _ _ ?_ ?_ ho3 hr3
         . simp only [go_sem]
         . simp only [go_sem]
       . refine DD.own hown2 rfl (by simp) (by simp;omega) (by decide) (fun v3 σ3 ho3 hbk3=>?_);have hb3:=(hbk3 jd).trans haps2.row;have hr3:=(hbk3 jr).trans haps2.res;simp only [hb3,hr3,hixl,ho3.cells,ho3.cell,hlen3,htk,hdr,go_sem];rw [Az];refine hend v3 σ3 _ _ ?_ ?_ ho3 hr3
         . simp only [go_sem]
         . simp only [go_sem]
     . rintro F' L' σ' ⟨h1,h2,cv',h3,h4⟩;rw [h1,h2];(repeat' (refine wQ mxQ rfl ?_<;>try simp only [hw1,go_sem]));exact ih (p+1,us++[(⟨cn,ts⟩:Con)],cv',σ') ⟨by simp only;omega,by simp [hlu],hsn,h3,h4⟩ (by simp only;omega)
 . rw [AM (by omega)] at hok;(repeat' ((first|refine wQ mxQ rfl ?_|refine Run.qR Cg ?_|fail)<;>try simp only [B5 hlt,go_sem]));exact hfin us cv _ hok hown.slv haps
end Go.Ab
namespace Go.Ab
open Go.Proofs
def AVM (σ0:AI) (jr:Nat) (dl:List Dat) (nm:Str) (vs:List Str) (cs:List CE) (x1 x2 x3:AV) (F':Fm) (L':Lm) (σ':AI):Prop:=
 ∃jd cells,JK [0,3] F'=put 0 (.gp jr 0) (put 3 (.lp 3 0) U)/\Hs [0,3] L'=Am 3 [.d (.str nm),.d (.sl (vs.map BF)),.d (.sl (cs.map CE.enc))] E/\APS σ0 jr dl nm vs.length .Ae x1 x2 x3 jd cells σ'
theorem APS.st {σ0 τ:AI} {jr:Nat} {dl:List Dat} {nm:Str} {k:Int} {cv x1 x2 x3:AV} {jd:Nat} {cs:List AV} (h:APS σ0 jr dl nm k cv x1 x2 x3 jd cs τ) (hjr:σ0.blk jr=none) (y1 y2 y3:AV):
 APS σ0 jr dl nm k cv y1 y2 y3 jd cs (τ.AP jr [.ms jd (dl.length+1) 3 eD,y1,y2,y3]):=
 ⟨B0,h.nb,h.ne,by rw [AK,if_neg h.ne];exact h.row,h.ok,E6 h.le hjr⟩
theorem ADR (σ0:AI) (jr:Nat) (dl:List Dat) (hdl:dl.length<=1000) (hnn:∀d∈dl,0<=d.vars) (hdt:cJ dl) (nm:Str) (vs:List Str) (cs:List CE) (hcs:cs.length<=1000) (hsm:∀c∈cs,Yl c/\c.args.length<=1000)
 (τ:AI) (dv x1 x2 x3:AV) (hb:τ.blk jr=some [dv,x1,x2,x3]) (hx:x1.B8=true/\x2.B8=true/\x3.B8=true) (hv:DlX σ0 jr τ dl dv) (hle:σ0.le τ) (hjr:σ0.blk jr=none):
 AT Tzp 51 [.gp jr 0,deA ⟨nm,vs,cs⟩] τ (DQ σ0 jr dl (Lc (GJ dl) (KO dl) ⟨nm,vs,cs⟩)):=by
 refine S2 (by simp [deA]) ?_;rw [BK];simp only [DE.enc,deA,AD,AJ];have hfi:=AGM dl dv [x1,x2,x3] jr nm τ (by omega) hb hv.dls;have hrep:=Rp vs τ;have hap:=fun K=>z6 σ0 jr dl hdl nm vs cs τ dv x1 x2 x3 hb hx hv hle hjr K;have hds:(GJ dl).map (·.1)=Ml dl:=nT dl;unfold Lc;simp only [hds];have hin:(C9 (Ml dl) nm).isSome=(Ml dl).contains nm:=Io _ _;cases hc:C9 (Ml dl) nm with
 |some i=>
  rw [hc] at hin hfi;simp only [CX] at hin;have hge:decide ((0:Int)<=(i:Int))=true:=by simp
  rw [<- hin];simp only [ON,if_true];simp only [Fi] at hfi;(repeat' ((first|refine wQ mxQ rfl ?_|refine Run.qR Cg ?_|refine AH.det (hfi) ?_|fail)<;>try simp only [hge,go_sem]));exact ⟨rfl,by decide,hle⟩
 |none=>
 rw [hc] at hin hfi;simp only [CW] at hin;rw [<- hin];simp only [Fi] at hfi;have hge:decide ((0:Int)<=-1)=false:=by decide
 cases ht:CP vs with
 |true=>
  rw [ht] at hrep;simp only [EU,if_true];(repeat' ((first|refine wQ mxQ rfl ?_|refine Run.qR Cg ?_|refine AH.det (hfi) ?_|refine AH.det (hrep) ?_|fail)<;>try simp only [hge,go_sem]));exact ⟨rfl,by decide,hle⟩
 |false=>
 rw [ht] at hrep;simp only [EU,A3,if_false];(repeat' (first|refine ctQ rfl ?_|((first|refine rgQ mxQ ?_|refine cdQ ?_|refine AH.det (hfi) ?_|refine AH.det (hrep) ?_)<;>try simp only [hge,go_sem])|fail));refine Run.eT mixed (AVM σ0 jr dl nm vs cs x1 x2 x3) (hap _ (fun F' L' σ' jd cells h1 h2 h3=>⟨jd,cells,h1,h2,h3⟩)) ?_;rintro F' L' σ' ⟨jd,cells,h1,h2,h3⟩;rw [h1,h2];have hres:=h3.res;have h4:=h3.st hjr (.d (.str nm)) (.d (.sl (vs.map BF))) (.d (.sl (cs.map CE.enc)));have hres4:=h4.res
 have hw:IntKind.i64.wrap (((dl.length+1:Nat):Int) - 1)=(dl.length:Int):=by
  exact NI (by omega)
 (repeat' (refine wQ mxQ rfl ?_<;>try simp only [hres,hres4,hw,AA,go_sem]));exact ADQ σ0 jr dl hdl hnn hdt nm vs cs hcs hsm _ jd cells hjr h4
end Go.Ab
namespace Go.Ab
open Go.Proofs
theorem LX.enc:∀ {dl:List Dat} {cs:List AV},LX cs dl->∃ds,dvs cs=some ds/\chunk 3 dl.length ds=dl.map Dat.enc
 |[],cs,h=>by
  have:cs=[]:=BP (by simpa using h.1);subst this;exact ⟨[],rfl,rfl⟩
 |d::dl,cs,h=>by
  obtain ⟨cv,h1,h2⟩:=h.2 0 d rfl;simp only [OR,TC] at h1
  have hcs:cs= .d (.str d.name)::.d (.int .i64 d.vars)::cv::cs.drop 3:=by
   conv=>lhs;rw [<- Ad 3 cs,h1]
   rfl
  have ht:LX (cs.drop 3) dl:=by
   refine ⟨by rw [Cm,h.1];simp;omega,fun i x hx=>?_⟩;obtain ⟨cv',h3,h4⟩:=h.2 (i+1) x hx;refine ⟨cv',?_,h4⟩;rw [FN,<- h3];congr 2;omega
  obtain ⟨ds,h5,h6⟩:=LX.enc ht;refine ⟨.str d.name::.int .i64 d.vars::.sl (d.cons.map Con.enc)::ds,?_,?_⟩
  . rw [hcs];have hcv:=h2.dv;have e1:(AV.d (.str d.name)).dv=some (.str d.name):=rfl;have e2:(AV.d (.int .i64 d.vars)).dv=some (.int .i64 d.vars):=rfl;simp [dvs,hcv,h5,e1,e2]
  . simp [chunk,h6,Dat.enc]
def dgA (d:Dg):AV:= .agg [.d (.int .i64 d.1),.d (.int .i64 d.2.1),.d (.int .i64 d.2.2)]
def dE:Except Dg (List Dat)->AV
 | .ok dt=>.tup [dsA dt,dgA (0,0,0)]
 | .error d=>.tup [dsA [],dgA d]
theorem z5 {ds:List (Str×Nat)} {used:List Str} {d:DE} {x:Dat} (h:Lc ds used d= .ok x):x.name=d.name/\x.vars=d.vars.length/\x.cons.map (·.name)=d.cons.map (·.name):=by
 unfold Lc at h;split at h
 . cases h
 . cases hc:Em (ds++[(d.name,d.vars.length)]) d.vars used d.cons with
   |error e=>rw [hc] at h;cases h
   |ok us=>
    rw [hc] at h;cases h;exact ⟨rfl,rfl,(Pe _ _ [] hc).2⟩
theorem T2 (m:List DE):∀ {l done:List DE} {xs:List Dat},DJ done l= .ok xs->DJ done (l++m)=(DJ (done++l) m).map (xs++·)
 |[],done,xs,h=>by
  cases h;simp only [As,BW];cases DJ done m<;>rfl
 |d::l,done,xs,h=>by
  rw [DJ] at h;rw [AZ,DJ];cases hd:Lc (CZ done) (JA done) d with
  |error e=>rw [hd] at h;cases h
  |ok x=>
   rw [hd] at h;simp only at h ⊢;cases hl:DJ (done++[d]) l with
   |error e=>rw [hl] at h;cases h
   |ok ys=>
    rw [hl] at h;cases h;rw [T2 m hl,Az];simp only [AZ,As];cases DJ (done++d::l) m<;>rfl
theorem N9:∀ {l done:List DE} {xs:List Dat},DJ done l= .ok xs->GJ xs=CZ l/\KO xs=JA l/\xs.length=l.length/\(∀x∈xs,0<=x.vars)/\(∀n,(∀d∈l,d.cons.length<=n)->∀x∈xs,x.cons.length<=n)
 |[],done,xs,h=>by cases h;simp [GJ,CZ,KO,JA]
 |d::l,done,xs,h=>by
  rw [DJ] at h;cases hd:Lc (CZ done) (JA done) d with
  |error e=>rw [hd] at h;cases h
  |ok x=>
   rw [hd] at h;simp only at h;cases hl:DJ (done++[d]) l with
   |error e=>rw [hl] at h;cases h
   |ok ys=>
    rw [hl] at h;cases h;obtain ⟨f1,f2,f3⟩:=z5 hd;obtain ⟨g1,g2,g3,g4,g5⟩:=N9 hl;have f4:x.cons.length=d.cons.length:=by simpa using congrArg List.length f3
    refine ⟨?_,?_,by simp [g3],?_,?_⟩
    . simp [GJ,CZ,f1,f2] at g1 ⊢;exact g1
    . simp only [KO,JA,EE,f3] at g2 ⊢;rw [g2]
    . intro y hy;rcases Ar.1 hy with rfl|hy
      . rw [f2];omega
      . exact g4 y hy
    . intro n hn y hy;rcases Ar.1 hy with rfl|hy
      . rw [f4];exact hn d (AS ..)
      . exact g5 n (fun z hz=>hn z (AR _ hz)) y hy
end Go.Ab
namespace Go.Ab
open Go.Proofs
theorem Ym {p:Pg} (hv:Cl p=true) (h:∀d∈p.data,KV d):p.data.length<=12/\∀d∈p.data,d.cons.length<=1000/\∀c∈d.cons,Yl c/\c.args.length<=1000:=by
 simp only [Cl,AO,decide_eq_true_eq,A8] at hv;obtain ⟨⟨⟨h1,_⟩,h2⟩,_⟩:=hv;refine ⟨h1,fun d hd=>?_⟩;have:=h2 d hd;simp only [Km,AO,decide_eq_true_eq,A8] at this;obtain ⟨⟨_,h3⟩,h4⟩:=this;refine ⟨by omega,fun c hc=>⟨h d hd c hc,?_⟩⟩;have:=h4 c hc;simp only [ZJ,AO,decide_eq_true_eq] at this;omega
theorem AEP {σ τ:AI} (h:σ.le τ):σ.le { τ with blk:=fun j=>if (σ.blk j).isSome then τ.blk j else none}:=
 ⟨fun i cs hi=>by simp only [hi,CX,if_true];exact h.blk i cs hi,h.tok,h.gt,h.bt⟩
theorem Zu (p:Pg) (σ:AI) (h:∀d∈p.data,KV d):AT Tzp 25 [pgA p] σ (fun v σ'=>v=dE (H4 p)/\σ'=σ):=by
 have hval:=l9 p σ h;refine wV (by simp) ?_;rw [Bq];unfold H4;cases hvb:Cl p with
 |false=>
  rw [hvb] at hval;obtain ⟨ds,fs⟩:=p;simp only [pgA,Pg.enc,AD,AJ] at hval ⊢;(repeat' ((first|refine wQ mxQ rfl ?_|(refine Run.Bf Lf (σ2:=σ) (AI.le_refl _) ?_)|refine AH.det (hval) ?_|fail)<;>try simp only [go_sem]));rfl
 |true=>
 rw [hvb] at hval;obtain ⟨hpl,hps⟩:=Ym hvb h;obtain ⟨ds,fs⟩:=p;simp only [pgA,Pg.enc,AD,AJ] at hval hpl hps ⊢;(repeat' ((first|refine wQ mxQ rfl ?_|refine AH.det (hval) ?_|fail)<;>try simp only [AA,go_sem]));intro jr hj;generalize hQ:(fun (v:AV) (σ':AI)=>v=dE (match DJ [] ds with| .error (e,i)=>.error (e,-1,(i:Int))| .ok l=>.ok l)/\σ'=σ)=Q
 have herr:∀(e:Int) (i:Nat),DJ [] ds= .error (e,i)->Q (.tup [.d (.sl []),.agg [.d (.int .i64 e),.d (.int .i64 (-1)),.d (.int .i64 i)]]) σ:=fun e i hd=>by
  rw [<- hQ,hd];exact ⟨rfl,rfl⟩
 have hok:∀(l:List Dat),DJ [] ds= .ok l->Q (.tup [dsA l,.agg [.d (.int .i64 0),.d (.int .i64 0),.d (.int .i64 0)]]) σ:=fun l hd=>by
  rw [<- hQ,hd];exact ⟨rfl,rfl⟩
 clear hQ;have hle0:=CQ (cs:=[AV.Ae,.d (.str []),.Ae,.Ae]) hj;(repeat' (refine wQ mxQ rfl ?_<;>try simp only [AA,go_sem]));refine Run.At ?_
 refine Run.Au ((fun (a3:AV) (a4:AV) (a15:AV) (a16:AV)=>fun (y:Nat×List Dat×AI)=>put 3 a3 (put 4 a4 (put 15 a15 (put 16 a16 (put 17 (.d (.int .i64 y.1)) U))))) _ _ _ _) (fun _=>Am 3 [.d (.int .i64 0),.d (.int .i64 0),.d (.int .i64 0)] E) (fun y=>y.2.2)
  (fun y=>y.1<=ds.length/\DJ [] (ds.take y.1)= .ok y.2.1/\∃dv y1 y2 y3,y.2.2.blk jr=some [dv,y1,y2,y3]/\(y1.B8=true/\y2.B8=true/\y3.B8=true)/\DlX σ jr y.2.2 y.2.1 dv/\σ.le y.2.2)
  (fun y=>ds.length - y.1) ?_ (0,[],_) ⟨by simp,rfl,.Ae,.d (.str []),.Ae,.Ae,by simp only [AK,if_true],⟨rfl,rfl,rfl⟩,.inl ⟨rfl,rfl⟩,hle0⟩
 rintro ⟨i,dl,τ⟩ ⟨hi,hgo,dv,y1,y2,y3,hb,hx,hv,hle⟩ ih;simp only at hi hgo hb hv hle;obtain ⟨f1,f2,f3,f4,f5⟩:=N9 hgo;have hlen:dl.length=i:=by rw [f3,B4];omega
 by_cases hlt:i < ds.length
 . obtain ⟨d,hd⟩:=Ai hlt;have he:=Av (enc:=DE.enc) hd;have hw1:=A4 (show i+1<=9000000000000000000 by omega);have hdt:cJ dl:=f5 1000000 (fun d hd=>by have:=(hps d (D5 hd)).1;omega);obtain ⟨hc1,hc2⟩:=hps d (AE hd);obtain ⟨nm,vs,cs⟩:=d;have hc:=ADR σ jr dl (by omega) f4 hdt nm vs cs hc1 hc2 τ dv y1 y2 y3 hb hx hv hle hj
   have hall:DJ [] ds=(DJ (ds.take i) (⟨nm,vs,cs⟩::ds.drop (i+1))).map (dl++·):=by
    conv=>lhs;rw [<- Ad i ds,Bu hd]
    exact T2 _ hgo
   have hsn:DJ [] (ds.take (i+1))=(DJ (ds.take i) [⟨nm,vs,cs⟩]).map (dl++·):=by
    rw [Aa hd];exact T2 _ hgo
   rw [DJ,<- f1,<- f2] at hall hsn;simp only [DE.enc,deA,AD,AJ] at he hc;cases hr:Lc (GJ dl) (KO dl) ⟨nm,vs,cs⟩ with
   |error e=>
    rw [hr] at hc hall;simp only [C3,B4,Dd hi] at hall;have hc':=AT.mono hc (Q':=fun v σ'=>v= .d (.int .i64 e)/\e≠0/\σ.le σ') (fun v σ' h=>h);(repeat' (first|((first|refine wQ mxQ rfl ?_|(refine AH.mk rfl hc' ?_;rintro _ τ' ⟨rfl,hne,hle'⟩)|fail)<;>try simp only [Ag hlt,he,go_sem])|(refine ⟨fun h=>?_,fun h=>?_⟩<;>first|(cases h;done)|try simp only [h])|fail))
    case refine_2=>exact absurd ‹(e != 0)=false› (by simp [hne])
    (repeat' ((first|refine wQ mxQ rfl ?_|(refine Run.Bf Lf (σ2:=σ) hle' ?_)|fail)<;>try simp only [go_sem]));exact herr e i hall
   |ok x=>
    rw [hr] at hc hsn;simp only [DJ,C3] at hsn;have hc':=AT.mono hc (Q':=fun v σ'=>v= .d (.int .i64 0)/\σ.le σ'/\∃dv y1 y2 y3,σ'.blk jr=some [dv,y1,y2,y3]/\(y1.B8=true/\y2.B8=true/\y3.B8=true)/\DlX σ jr σ' (dl++[x]) dv) (fun v σ' h=>h);have h00:((0:Int) != 0)=false:=by decide
    (repeat' (first|((first|refine wQ mxQ rfl ?_|(refine AH.mk rfl hc' ?_;rintro _ τ' ⟨rfl,hle',dv',z1,z2,z3,hb',hx',hv'⟩)|fail)<;>try simp only [Ag hlt,he,hw1,go_sem])|(refine ⟨fun h=>?_,fun h=>?_⟩<;>first|(cases h;done)|try simp only [h])|fail));(repeat' (refine wQ mxQ rfl ?_<;>try simp only [h00,hw1,go_sem]));exact ih (i+1,dl++[x],τ') ⟨by simp only;omega,hsn,dv',z1,z2,z3,hb',hx',hv',hle'⟩ (by simp only;omega)
 . rw [AM (by omega)] at hgo;have hfin:=hok dl hgo;rcases hv with ⟨rfl,rfl⟩|⟨jd,cells,rfl,hn,hne,hbd,hrows⟩
   . (repeat' ((first|refine wQ mxQ rfl ?_|(refine Run.Bf Lf (σ2:=σ) hle ?_)|fail)<;>try simp only [B5 hlt,hb,go_sem]));exact hfin
   . obtain ⟨dvl,hdv,hch⟩:=hrows.enc;(repeat' (refine wQ mxQ rfl ?_<;>try simp only [B5 hlt,hb,go_sem]));refine Run.freeze (F':=put 2 (dsA dl) (put 3 (.lp 3 0) U)) (σ':= { τ with blk:=fun j=>if (σ.blk j).isSome then τ.blk j else none}) hbd hdv hrows.1 (Ap (show dl.length<=12 by omega) (by decide)) (fun s=>?_) (fun k cs' hk=>⟨cs',hk,.inl rfl⟩) (fun j cs' hj'=>?_) (fun _ h=>h) ?_
     . by_cases h2:s=2
       . subst h2;right;simp only [CR,if_true,frz,and_self,dsA,hch]
       . left;simp only [CR,if_neg h2]
     . simp only at hj';cases hs:σ.blk j with
       |none=>rw [hs] at hj';cases hj'
       |some c=>
        rw [hs] at hj';exact ⟨(fun e=>by rw [e,hn] at hs;cases hs),cs',hj',.inl rfl⟩
     . refine Run.Bf Lf (σ2:=σ) (AEP hle) ?_;simp only [Zt,dsA,go_sem];exact hfin
end Go.Ab
namespace Go.Ab
open Go.Proofs
theorem o6 {a:Nat}:∀ {l:List Nat},a∈l->a<=l.sum
 |x::l,h=>by
  rw [FK];rcases Ar.1 h with rfl|h
  . omega
  . have:=o6 h;omega
def nb1 (e:Ex):Prop:=Lu e.op e.name e.num e.names e.kids.length e.alts=true
def NB (e:Ex):Prop:=nb1 e/\∀k∈e.kids,nb1 k
theorem T6 {α:Type} {f:Nat->α->Option Nat} {sz:α->Nat} {Q:α->Prop}:∀(l:List α) (q r:Nat),(∀x∈l,∀a b,f a x=some b->sz x+b=a/\Q x)->l.foldlM f q=some r->(l.map sz).sum+r=q/\∀x∈l,Q x
 |[],q,r,_,h=>by simp at h;simp [h]
 |x::l,q,r,hf,h=>by
  rw [OP,AQ,AB] at h;obtain ⟨b,hb,h⟩:=h;obtain ⟨h1,h2⟩:=hf x (AS ..) q b hb;obtain ⟨h3,h4⟩:=T6 l b r (fun y hy=>hf y (AR _ hy)) h;refine ⟨by simp;omega,fun y hy=>?_⟩;rcases Ar.1 hy with rfl|hy
  . exact h2
  . exact h4 y hy
theorem Ex.JN:∀l:List Ex,Ex.AU l=(l.map Ex.size).sum
 |[]=>rfl
 |x::l=>by simp [Ex.AU,Ex.JN l]
theorem Al.JN:∀l:List Al,Al.AU l=(l.map Al.size).sum
 |[]=>rfl
 |x::l=>by simp [Al.AU,Al.JN l]
theorem iB {o:Int} {n:Str} {ns sc:List Str} {x:Ex×List Str}:∀ {l:List Ex} {i:Nat},x∈Bn o n ns sc i l->∃k∈l,∃sc',x∈Bj k sc'
 |[],i,h=>by simp [Bn] at h
 |k::l,i,h=>by
  rw [Bn,A0] at h;rcases h with h|h
  . exact ⟨k,AS ..,_,h⟩
  . obtain ⟨k',h1,h2⟩:=iB h;exact ⟨k',AR _ h1,h2⟩
theorem Yf {sc:List Str} {x:Ex×List Str}:∀ {l:List Al},x∈CD sc l->∃a∈l,x∈VI a sc
 |[],h=>by simp [CD] at h
 |k::l,h=>by
  rw [CD,A0] at h;rcases h with h|h
  . exact ⟨k,AS ..,h⟩
  . obtain ⟨k',h1,h2⟩:=Yf h;exact ⟨k',AR _ h1,h2⟩
theorem YY:∀(d q:Nat) (e:Ex) (r:Nat),vEx d q e=some r->e.size+r=q/\(nb1 e/\∀sc x,x∈Bj e sc->NB x.1)
 |0,q,e,r,h=>by simp [vEx] at h
 |d+1,0,.mk ..,r,h=>by cases h
 |d+1,q+1,.mk o n u ns ks al,r,h=>by
  simp only [vEx] at h;split at h
  . rename_i hn;rw [AB] at h;obtain ⟨c,hc,h⟩:=h;obtain ⟨h1,h2⟩:=T6 (sz:=Ex.size) (Q:=fun e=>nb1 e/\∀sc x,x∈Bj e sc->NB x.1) ks q c (fun x _ a b hab=>YY d a x b hab) hc
    obtain ⟨h3,h4⟩:=T6 (sz:=Al.size) (Q:=fun a=>∀sc x,x∈VI a sc->NB x.1) al c r (fun x _ a b hab=>by
     cases x with
     |mk cc vs bd=>
      obtain ⟨g1,g2⟩:=YY d a _ b hab;exact ⟨g1,fun sc x hx=>g2.2 _ x (by rw [VI] at hx;exact hx)⟩) h
    have hnb:nb1 (.mk o n u ns ks al):=hn;refine ⟨by rw [Ex.size,Ex.JN,Al.JN];omega,hnb,fun sc x hx=>?_⟩;rw [Bj,Ar,A0] at hx;rcases hx with rfl|hx|hx
    . exact ⟨hnb,fun k hk=>(h2 k hk).1⟩
    . obtain ⟨k,hk,sc',hx⟩:=iB hx;exact (h2 k hk).2 sc' x hx
    . obtain ⟨a,ha,hx⟩:=Yf hx;exact h4 a ha _ x hx
  . simp at h
theorem pI {s:Str} (h:Dl s=true):s≠[]:=by
 rintro rfl;revert h;decide
theorem AA7 {e:Ex} (h:nb1 e) (ho:e.op=4):e.name≠[]:=by
 unfold nb1 Lu nmB at h;simp only [ho,AO,if_true] at h;exact pI h.1.1.1.1
theorem NB.HM {e:Ex} (h:NB e) (hs:e.size<=1000000):Oj e:=by
 obtain ⟨h1,h2⟩:=h;obtain ⟨o,n,u,ns,ks,al⟩:=e;simp only [Ex.size] at hs;have hkl:=Ex.Bl ks;have hal:=Al.Bl al;refine ⟨AA7 h1,fun ho=>?_,by simp only [Ex.alts];omega,by simp only [Ex.kids];omega⟩;simp only [Ex.op] at ho;subst ho;unfold nb1 Lu nkB at h1;simp only [Ex.op,Ex.kids,AO] at h1;have h3:=h1.2;simp at h3;cases ks with
 |nil=>simp at h3
 |cons k ks=>exact ⟨k,ks,rfl,fun hk=>AA7 (h2 k (AS ..)) hk⟩
theorem pE:∀(N:Nat) (e:Ex) (sc:List Str) (x:Ex×List Str),e.size<=N->x∈Bj e sc->x.1.size<=e.size
 |0,e,sc,x,h,_=>by have:=Ex.size_pos e;omega
 |N+1,.mk o n u ns ks al,sc,x,h,hx=>by
  rw [Bj,Ar,A0] at hx;rw [Ex.size] at h ⊢
  have hmk:∀k∈ks,k.size<=Ex.AU ks:=fun k hk=>by
   rw [Ex.JN];exact o6 (Zd hk)
  have hma:∀k∈al,k.size<=Al.AU al:=fun k hk=>by
   rw [Al.JN];exact o6 (Zd hk)
  rcases hx with rfl|hx|hx
  . rw [Ex.size];omega
  . obtain ⟨k,hk,sc',hx⟩:=iB hx;have:=pE N k sc' x (by have:=hmk k hk;omega) hx;have:=hmk k hk;omega
  . obtain ⟨a,ha,hx⟩:=Yf hx;have h1:=hma a ha;cases a with
    |mk c vs b=>
     rw [VI] at hx;rw [Al.size] at h1;have:=pE N b _ x (by omega) hx;omega
theorem Um:∀(l:List FE) (q r:Nat),l.foldlM Qc q=some r->∀f∈l,f.body.size<=q/\f.params.length<=6/\∀sc x,x∈Bj f.body sc->NB x.1
 |[],q,r,_,f,hf=>by simp at hf
 |g::l,q,r,h,f,hf=>by
  rw [OP,AQ,AB] at h;obtain ⟨b,hb,h⟩:=h;unfold Qc at hb;split at hb
  . rename_i hh;obtain ⟨h1,h2,h3⟩:=YY _ _ _ _ hb;rcases Ar.1 hf with rfl|hf
    . simp only [uK,AO,decide_eq_true_eq] at hh;exact ⟨by omega,hh.1.2,h3⟩
    . have:=Um l b r h f hf;exact ⟨by omega,this.2⟩
  . cases hb
theorem JB {p:Pg} (h:Cl p=true):p.Ev.length<=24/\∀f∈p.Ev,f.body.size<=600/\f.params.length<=6/\∀sc x,x∈Bj f.body sc->Oj x.1:=by
 simp only [Cl,AO,decide_eq_true_eq] at h;obtain ⟨⟨⟨_,h1⟩,_⟩,h2⟩:=h;obtain ⟨r,hr⟩:=JI.1 h2;refine ⟨h1,fun f hf=>?_⟩;obtain ⟨g1,g2,g3⟩:=Um _ _ _ hr f hf;exact ⟨g1,g2,fun sc x hx=>(g3 sc x hx).HM (by have:=pE _ _ _ _ (AW _) hx;omega)⟩
theorem qF (vis:Ex->List Str->Int):∀l:List (Ex×List Str),Jg (fun (_:Unit) x=>(vis x.1 x.2,())) l ()=(Eu vis l,())
 |[]=>rfl
 |x::l=>by
  rw [Jg,Eu,qF vis l];split<;>rfl
end Go.Ab
namespace Go.Ab
open Go.Proofs
theorem Kn {p:Pg} {dt:List Dat} (hv:H4 p= .ok dt):Cl p=true/\DJ [] p.data= .ok dt:=by
 unfold H4 at hv;split at hv
 . rename_i h;split at hv
   . cases hv
   . rename_i l hl;cases hv;exact ⟨h,hl⟩
 . cases hv
theorem zS {ds:List (Str×Nat)} {vars:List Str}:∀ {l:List CE} {used:List Str} {e:Int},Em ds vars used l= .error e->e≠0
 |[],used,e,h=>by cases h
 |c::l,used,e,h=>by
  rw [Em] at h;split at h
  . cases h;decide
  . cases ha:D2 ds vars c.args with
    |error e'=>rw [ha] at h;cases h;exact y7 ha
    |ok ts=>
     rw [ha] at h;cases hl:Em ds vars (used++[c.name]) l with
     |error e'=>rw [hl] at h;cases h;exact zS hl
     |ok us=>rw [hl] at h;cases h
theorem AL0 {ds:List (Str×Nat)} {used:List Str} {d:DE} {e:Int} (h:Lc ds used d= .error e):e≠0:=by
 unfold Lc at h;split at h
 . cases h;decide
 . cases hl:Em (ds++[(d.name,d.vars.length)]) d.vars used d.cons with
   |error e'=>rw [hl] at h;cases h;exact zS hl
   |ok us=>rw [hl] at h;cases h
theorem zX:∀ {l done:List DE} {e:Int} {i:Nat},DJ done l= .error (e,i)->e≠0
 |[],done,e,i,h=>by cases h
 |d::l,done,e,i,h=>by
  rw [DJ] at h;cases hd:Lc (CZ done) (JA done) d with
  |error e'=>rw [hd] at h;cases h;exact AL0 hd
  |ok x=>
   rw [hd] at h;cases hl:DJ (done++[d]) l with
   |error e'=>rw [hl] at h;cases h;exact zX hl
   |ok us=>rw [hl] at h;cases h
theorem XH {p:Pg} {c a b:Int} (h:H4 p= .error (c,a,b)):c≠0:=by
 unfold H4 at h;split at h
 . cases hl:DJ [] p.data with
   |error x=>obtain ⟨e,i⟩:=x;rw [hl] at h;cases h;exact zX hl
   |ok us=>rw [hl] at h;cases h
 . cases h;decide
theorem AH2 (ds:List DE) (fs:List FE) (dt:List Dat) (hdt:cJ dt) (f:FE) (hsz:f.body.size<=600) (hg:∀sc x,x∈Bj f.body sc->Oj x.1) (σ:AI):
 AT Tzp 48 [feA f,.fn 49 [.agg [.d (.sl (ds.map DE.enc)),.d (.sl (fs.map FE.enc)),.d (.sl (dt.map Dat.enc))]] []] σ
  (fun v σ'=>v=(match Eu (EY fs dt) (Bj f.body f.params) with
    |none=>.tup [.d (.int .i64 ((f.body.size - 1:Nat):Int)),.d (.int .i64 0)]
    |some (k,c)=>.tup [.d (.int .i64 (k:Nat)),.d (.int .i64 c)])/\σ'=σ):=by
 refine (rD (S:=Unit) (fun _ x=>(EY fs dt x.1 x.2,())) (fun _=>σ) 49 [.agg [.d (.sl (ds.map DE.enc)),.d (.sl (fs.map FE.enc)),.d (.sl (dt.map Dat.enc))]] [] (by kernel_rfl) rfl rfl f () (by omega) (fun _ _ h=>h) (fun j hj x hx s n=>?_)).mono (fun v σ' h=>?_)
 . have:=APB ds fs dt hdt x.1 x.2 (hg _ _ hx) (WH (fun _=>σ) j (.fn 49 [.agg [.d (.sl (ds.map DE.enc)),.d (.sl (fs.map FE.enc)),.d (.sl (dt.map Dat.enc))]] []) n s);exact this
 . rw [qF] at h;split at h
   . rename_i hh;simp only [Bb] at hh;rw [hh.1];exact h
   . rename_i hh;simp only [Bb] at hh;rw [hh.1];exact h
theorem dI {vis:Ex->List Str->Int} {l:List (Ex×List Str)} {q:Nat} {c:Int} (h:Eu vis l=some (q,c)):c≠0:=
 mH l () () (q,c) (by rw [qF,h])
theorem T1 (fs:List FE) (dt:List Dat) (m:List FE):∀(l:List FE) (i:Nat),(∀k f,l[k]?=some f->XF fs dt (i+k) f=none)->Gt fs dt i (l++m)=Gt fs dt (i+l.length) m
 |[],i,_=>rfl
 |f::l,i,h=>by
  have h0:=h 0 f rfl;rw [CC] at h0;rw [AZ,Gt,h0];simp only;rw [T1 fs dt m l (i+1) (fun k g hg=>by have:=h (k+1) g (by simpa using hg);rwa [show i+(k+1)=i+1+k by omega] at this)];congr 1;simp;omega
theorem wX {s:Str}:∀ {l:List Str} {i:Nat},l[i]?=some s->∃k,C9 l s=some k/\k<=i
 |[],i,h=>by simp at h
 |x::l,i,h=>by
  rw [C9];split
  . exact ⟨0,rfl,by omega⟩
  . rename_i hne;cases i with
    |zero=>simp at h;simp [h] at hne
    |succ i=>
     obtain ⟨k,h1,h2⟩:=wX (l:=l) (i:=i) (by simpa using h);exact ⟨k+1,by rw [h1];rfl,by omega⟩
theorem YN (p:Pg) (σ:AI) (h:∀d∈p.data,KV d):AT Tzp 24 [pgA p] σ (fun v σ'=>v=dgA (K9 p)/\σ'=σ):=by
 have hdat:=Zu p σ h;refine sC (by simp) ?_;rw [Bq];unfold K9;cases hdp:H4 p with
 |error d=>
  rw [hdp] at hdat;obtain ⟨c,a,b⟩:=d;obtain ⟨ds,fs⟩:=p;simp only [pgA,Pg.enc,AD,AJ,dE,dgA,dsA] at hdat ⊢;have hne:(c != 0)=true:=by simpa using XH hdp
  (repeat' ((first|refine wQ mxQ rfl ?_|refine Run.qR Hv ?_|refine AH.det (hdat) ?_|fail)<;>try simp only [hne,go_sem]))
 |ok dt=>
 rw [hdp] at hdat;obtain ⟨hval,hgo⟩:=Kn hdp;obtain ⟨hfl,hgood⟩:=JB hval;obtain ⟨ds,fs⟩:=p;have hfun:=fun s=>XS ⟨ds,fs⟩ s σ;simp only [pgA,Pg.enc,AD,AJ,dE,dgA,dsA] at hdat hfun hfl hgood ⊢;have h00:((0:Int) != 0)=false:=by decide
 (repeat' ((first|refine wQ mxQ rfl ?_|refine AH.det (hdat) ?_|fail)<;>try simp only [h00,AA,go_sem]));have hdt:cJ dt:=(N9 hgo).2.2.2.2 1000000 (fun d hd=>by have:=((Ym hval h).2 d hd).1;omega);have hrep:=fun l=>Rp l σ;have hbody:=fun f hf=>AH2 ds fs dt hdt f (hgood f hf).1 (hgood f hf).2.2 σ;refine Run.At ?_
 refine Run.Au ((fun (a1:AV) (a2:AV) (a5:AV) (a23:AV) (a24:AV)=>fun (i:Nat)=>put 1 a1 (put 2 a2 (put 5 a5 (put 23 a23 (put 24 a24 (put 25 (.d (.int .i64 i)) U)))))) _ _ _ _ _) (fun _=>Am 1 [.d (.sl (ds.map DE.enc)),.d (.sl (fs.map FE.enc))] (Am 2 [.d (.int .i64 0),.d (.int .i64 0),.d (.int .i64 0)] (Am 5 [.d (.sl (ds.map DE.enc)),.d (.sl (fs.map FE.enc)),.d (.sl (dt.map Dat.enc))] E))) (fun _=>σ)
  (fun i=>i<=fs.length/\∀k f,fs[k]?=some f->k < i->XF fs dt k f=none) (fun i=>fs.length - i) ?_ 0 ⟨by simp,fun k f _ hk=>by omega⟩
 rintro i ⟨hi,hno⟩ ih;by_cases hlt:i < fs.length
 . obtain ⟨f,hf⟩:=Ai hlt;have he:=Av (enc:=FE.enc) hf;have hw1:=A4 (show i+1<=9000000000000000000 by omega)
   have hgo2:Gt fs dt 0 fs=Gt fs dt i (f::fs.drop (i+1)):=by
    conv=>lhs;rw [show Gt fs dt 0 fs=Gt fs dt 0 (fs.take i++fs.drop i) by rw [Ad],Bu hf]
    rw [T1 fs dt _ _ 0 (fun k g hg=>?_),BJ,B4,Dd hi];rw [BJ];rw [B2] at hg;split at hg
    . exact hno k g hg (by assumption)
    . cases hg
   rw [Gt] at hgo2;have hfn:=hfun f.name;have hrp:=hrep f.params;have hbd:=hbody f (AE hf);obtain ⟨k,hk,hki⟩:=wX (l:=Bo fs) (s:=f.name) (i:=i) (by rw [Bo,Aj,hf];rfl);rw [hk] at hfn;simp only [Fi] at hfn
   have hF:XF fs dt i f=if k < i\/CP f.params=true then some (4,(i:Int),0) else match Eu (EY fs dt) (Bj f.body f.params) with
    |some (k,c)=>some (c,(i:Int),(k:Int))
    |none=>none:=by
    unfold XF;rw [hk]
    have:(some k≠some i\/CP f.params=true)↔(k < i\/CP f.params=true):=by
     simp only [ne_eq,AL];constructor
     . rintro (h|h)
       . exact .inl (by omega)
       . exact .inr h
     . rintro (h|h)
       . exact .inl (by omega)
       . exact .inr h
    simp only [this];split
    . rfl
    . cases Eu (EY fs dt) (Bj f.body f.params)<;>rfl
   rw [hF] at hgo2
   have hnx:XF fs dt i f=none->∀k g,fs[k]?=some g->k < i+1->XF fs dt k g=none:=fun h0 k g hg hk=>by
    rcases C7 k i with h|h
    . exact hno k g hg h
    . have:k=i:=by omega
      subst this;rw [hf] at hg;cases hg;exact h0
   rw [hF] at hnx;clear hF;obtain ⟨nm,ps,o,n,u,ns,ks,al⟩:=f;simp only [FE.enc,Ex.A2,feA,AD,AJ] at he hfn hrp hbd hgo2 hnx;by_cases hki2:k < i
   . have hd:decide ((k:Int) < (i:Int))=true:=by simpa using hki2
     rw [if_pos (.inl hki2)] at hgo2;simp only at hgo2;rw [hgo2];(repeat' ((first|refine wQ mxQ rfl ?_|refine Run.qR Hv ?_|refine AH.det (hfn) ?_|fail)<;>try simp only [Ag hlt,he,hd,go_sem]))
   have hd:decide ((k:Int) < (i:Int))=false:=by simpa using hki2
   cases htw:CP ps with
   |true=>
    rw [htw] at hgo2 hrp;rw [if_pos (.inr rfl)] at hgo2;simp only at hgo2;rw [hgo2];(repeat' ((first|refine wQ mxQ rfl ?_|refine Run.qR Hv ?_|refine AH.det (hfn) ?_|refine AH.det (hrp) ?_|fail)<;>try simp only [Ag hlt,he,hd,go_sem]))
   |false=>
   rw [htw] at hgo2 hrp hnx;rw [if_neg (by simp;omega)] at hgo2 hnx;cases her:Eu (EY fs dt) (Bj (.mk o n u ns ks al) ps) with
   |some y=>
    obtain ⟨q,c⟩:=y;rw [her] at hgo2 hbd;simp only at hgo2 hbd;rw [hgo2];have hcn:(c != 0)=true:=by simpa using dI her
    (repeat' ((first|refine wQ mxQ rfl ?_|refine Run.qR Hv ?_|refine AH.det (hfn) ?_|refine AH.det (hrp) ?_|refine AH.det (hbd) ?_|fail)<;>try simp only [Ag hlt,he,hd,hcn,go_sem]))
   |none=>
    rw [her] at hbd hnx;simp only at hbd hnx;(repeat' ((first|refine wQ mxQ rfl ?_|refine AH.det (hfn) ?_|refine AH.det (hrp) ?_|refine AH.det (hbd) ?_|fail)<;>try simp only [Ag hlt,he,hd,h00,hw1,go_sem]));exact ih (i+1) ⟨by omega,hnx trivial⟩ (by omega)
 . have hall:Gt fs dt 0 fs=(0,0,0):=by
    have:=T1 fs dt [] fs 0 (fun k g hg=>by rw [BJ];exact hno k g hg (by have:=(AG.1 hg).1;omega));rw [BW] at this;rw [this];rfl
   rw [hall];(repeat' ((first|refine wQ mxQ rfl ?_|refine Run.qR Hv ?_|fail)<;>try simp only [B5 hlt,go_sem]))
end Go.Ab
namespace Go.Ab
open Go.Proofs
def jO (fs:List FE) (x:Ex×List Str) (fl:List Bool):List Bool:=
 if x.1.op=4&& !x.2.contains x.1.name then (match C9 (Bo fs) x.1.name with|some g=>fl.set g true|none=>fl) else fl
theorem uH (fs:List FE) (x:Ex×List Str) (fl:List Bool):(jO fs x fl).length=fl.length:=by
 unfold jO;split
 . split<;>simp
 . rfl
theorem ACQ (ds:List DE) (fs:List FE) (e:Ex) (sc:List Str) (fl:List Bool) (hfl:fl.length=fs.length) (hfs:fs.length<=24) (jm jf jp eM:Nat) (σ:AI) (hm:σ.blk jm=some (BX fl)) (hf:σ.blk jf=some [.ms jm fl.length 1 eM])
 (hp:σ.blk jp=some [.d (.sl (ds.map DE.enc)),.d (.sl (fs.map FE.enc))]) (hn:e.op=4->e.name≠[]) (hidx:e.op=4->sc.contains e.name=false->(C9 (Bo fs) e.name).isSome=true):
 AT Tzp 89 [exA e,.d (bdL sc),.gp jf 0,.gp jp 0] σ (fun v σ'=>v= .d (.int .i64 0)/\σ'=σ.AP jm (BX (jO fs (e,sc) fl))):=by
 obtain ⟨o,n,u,ns,ks,al⟩:=e;simp only [Ex.op,Ex.name] at hn hidx;refine kZ (by simp) ?_;rw [fR,exA,Ex.A2];have hfun:=XS ⟨ds,fs⟩ n σ;simp only [pgA,Pg.enc,AD,AJ] at hfun;have hid:=Ix hm;have hT:jO fs (.mk o n u ns ks al,sc) fl=if decide (o=4)&& !sc.contains n then (match C9 (Bo fs) n with|some g=>fl.set g true|none=>fl) else fl:=rfl
 by_cases h4:o=4
 . subst h4;have hh:=wR sc n (hn rfl) σ;cases hc:sc.contains n with
   |true=>
    rw [hc] at hh hT;simp only [Bool.not_true,CT,A3,if_false] at hT;rw [hT,hid];(repeat' ((first|refine wQ mxQ rfl ?_|refine Run.qP KT ?_|refine AH.det (hh) ?_|fail)<;>try simp only [AY,go_sem]))
   |false=>
    rw [hc] at hh;obtain ⟨g,hg⟩:=JI.1 (hidx rfl hc);obtain ⟨f,hff,_⟩:=gN hg;have hgl:g < fl.length:=by rw [hfl];exact (AG.1 hff).1
    rw [hc,hg] at hT;rw [hg] at hfun;simp only [Fi,FL,B7,decide_true,if_true] at hfun hT;rw [hT];(repeat' (first|refine ctQ rfl ?_|((first|refine rgQ mxQ ?_|refine cdQ ?_|refine AH.det (hh) ?_|refine AH.det (hfun) ?_)<;>try simp only [AY,hf,hp,hm,go_sem])|fail));have hixl:((g:Int) < (fl.length:Int))=True:=by simp only [eq_iff_iff,iff_true];omega
    have hbl:(g+1<=(BX fl).length)=True:=by rw [Pd];simp only [eq_iff_iff,iff_true];omega
    have hwr:Ek g (BX fl)++[AV.d (.bool true)]++EG (g+1) (BX fl)=BX (fl.set g true):=by
     rw [<- cS true hgl];rfl
    refine Run.eT mixed (fun F' L' σ'=>σ'=σ.AP jm (BX (fl.set g true))) ?_ ?_
    . simp only [hf,hp,hm,go_sem];refine ⟨?_,?_⟩
      . skip;refine AH.mk rfl hfun ?_;rintro _ _ ⟨rfl,rfl⟩;simp only [hf,hp,hm,hixl,hbl,A5,hwr,go_sem]
      . skip;refine AH.mk rfl hfun ?_;rintro _ _ ⟨rfl,rfl⟩;simp only [hf,hp,hm,hixl,hbl,A5,hwr,go_sem]
    . rintro F' L' σ' rfl;(repeat' ((first|refine wQ mxQ rfl ?_|refine Run.qP KT ?_|fail)<;>try simp only [go_sem]))
 . have hb:=Cp h4;simp only [h4,decide_false,Bp,A3,if_false] at hT;rw [hT,hid];(repeat' ((first|refine wQ mxQ rfl ?_|refine Run.qP KT ?_|fail)<;>try simp only [hb,go_sem]))
end Go.Ab
namespace Go.Ab
open Go.Proofs
theorem AB4 (σ:AI) {i j:Nat} (h:i≠j) (a b c:List AV):((σ.AP i a).AP j b).AP i c=(σ.AP i c).AP j b:=by
 unfold AI.AP;simp only [AI.mk.injEq,and_true];funext k;by_cases h1:k=i
 . subst h1;simp [h]
 . simp [h1]
def aU (fs:List FE):List (Ex×List Str)->List Bool->List Bool
 |[],fl=>fl
 |x::l,fl=>aU fs l (jO fs x fl)
theorem nV (fs:List FE):∀(l:List (Ex×List Str)) (fl:List Bool),(aU fs l fl).length=fl.length
 |[],fl=>rfl
 |x::l,fl=>by rw [aU,nV fs l,uH]
theorem AIM (fs:List FE) (x:Ex×List Str) (fl:List Bool) (g:Nat):(jO fs x fl)[g]?=fl[g]?.map (·||IH fs g x):=by
 unfold jO IH;by_cases h:x.1.op=4
 . cases hc:x.2.contains x.1.name with
   |true=>
    simp [h,hc]
   |false=>
    simp only [h,hc,decide_true,FL,B7,if_true,beq_self_eq_true,BY];cases hi:C9 (Bo fs) x.1.name with
    |none=>simp
    |some k=>
     by_cases hk:k=g
     . subst hk;rw [B3];by_cases hl:k < fl.length
       . simp [hl]
       . simp [hl]
     . rw [B3,if_neg hk];have hkg:(k==g)=false:=by simpa using hk
       simp [hkg]
 . have hb:=Cp h;simp only [h,decide_false,Bp,A3,if_false,hb,H2];simp
theorem z8 (fs:List FE) (g:Nat):∀(l:List (Ex×List Str)) (fl:List Bool),(aU fs l fl)[g]?=fl[g]?.map (·||l.any (IH fs g))
 |[],fl=>by simp [aU]
 |x::l,fl=>by
  rw [aU,z8 fs g l,AIM];cases fl[g]? with
  |none=>rfl
  |some b=>simp [Bool.or_assoc]
abbrev FlS (fs:List FE):= { fl:List Bool // fl.length=fs.length}
def AO9 (fs:List FE) (s:FlS fs) (x:Ex×List Str):Int×FlS fs:=(0,⟨jO fs x s.1,by rw [uH];exact s.2⟩)
theorem vF (fs:List FE):∀(l:List (Ex×List Str)) (s:FlS fs),Jg (AO9 fs) l s=(none,⟨aU fs l s.1,by rw [nV];exact s.2⟩)
 |[],s=>rfl
 |x::l,s=>by
  rw [Jg];have:=vF fs l (AO9 fs s x).2;rw [if_pos (show (AO9 fs s x).1=0 from rfl),this];rfl
theorem zJ (ds:List DE) (fs:List FE) (f:FE) (hsz:f.body.size<=600) (hfs:fs.length<=24) (jm jf jp eM:Nat) (τ:AI) (fl:List Bool) (hfl:fl.length=fs.length) (hm:τ.blk jm=some (BX fl)) (hf:τ.blk jf=some [.ms jm fl.length 1 eM])
 (hp:τ.blk jp=some [.d (.sl (ds.map DE.enc)),.d (.sl (fs.map FE.enc))]) (hne1:jf≠jm) (hne2:jp≠jm)
 (hx:∀x∈Bj f.body f.params,(x.1.op=4->x.1.name≠[])/\(x.1.op=4->x.2.contains x.1.name=false->(C9 (Bo fs) x.1.name).isSome=true)):
 AT Tzp 48 [feA f,.fn 89 [] [.gp jf 0,.gp jp 0]] τ
  (fun v σ'=>v= .tup [.d (.int .i64 ((f.body.size - 1:Nat):Int)),.d (.int .i64 0)]/\σ'=τ.AP jm (BX (aU fs (Bj f.body f.params) fl))):=by
 have hw:=rD (S:=FlS fs) (AO9 fs) (fun s=>τ.AP jm (BX s.1)) 89 [] [.gp jf 0,.gp jp 0] (by kernel_rfl) rfl rfl f ⟨fl,hfl⟩ (by omega)
  (fun t j hj=>by
    simp only [AK] at hj ⊢;split
    . rename_i e;rw [if_pos e] at hj;cases hj
    . rename_i e;rwa [if_neg e] at hj)
  (fun j hj x hxm s n=>by
    have hjm:j≠jm:=fun e=>by rw [e,AK,if_pos rfl] at hj;cases hj
    have hj0:τ.blk j=none:=by rw [AK,if_neg hjm] at hj;exact hj
    have hjf:jf≠j:=fun e=>by rw [<- e,hf] at hj0;cases hj0
    have hjp:jp≠j:=fun e=>by rw [<- e,hp] at hj0;cases hj0
    have:=ACQ ds fs x.1 x.2 s.1 s.2 hfs jm jf jp eM (WH (fun s:FlS fs=>τ.AP jm (BX s.1)) j (.fn 89 [] [.gp jf 0,.gp jp 0]) n s)
     (by simp only [WH,AK,if_neg (A9 hjm),if_true]) (by rw [WH,AK,if_neg hjf,AK,if_neg hne1,hf,hfl,s.2]) (by rw [WH,AK,if_neg hjp,AK,if_neg hne2,hp]) (hx x hxm).1 (hx x hxm).2
    refine this.mono (fun v σ' h=>⟨h.1,?_⟩);rw [h.2];simp only [WH,AO9];exact AB4 τ (A9 hjm) _ _ _)
 simp only [Ix hm] at hw;refine hw.mono (fun v σ' h=>?_);rw [vF] at h;exact h
theorem aT {fs:List FE} {dt:List Dat}:∀(l:List FE) (i:Nat),(Gt fs dt i l).1=0->∀f∈l,Eu (EY fs dt) (Bj f.body f.params)=none
 |[],i,_,f,hf=>by simp at hf
 |g::l,i,h,f,hf=>by
  rw [Gt] at h
  have hF:XF fs dt i g=none/\Eu (EY fs dt) (Bj g.body g.params)=none:=by
   unfold XF at h ⊢;split at h
   . rename_i d hd;exfalso;split at hd
     . cases hd;simp at h
     . split at hd
       . rename_i k c hk;cases hd;exact dI hk h
       . cases hd
   . rename_i hd;split at hd
     . cases hd
     . split at hd
       . cases hd
       . rename_i hk;exact ⟨by rename_i h1 _;rw [if_neg h1],hk⟩
  rw [hF.1] at h;rcases Ar.1 hf with rfl|hf
  . exact hF.2
  . exact aT l (i+1) h f hf
theorem gK {vis:Ex->List Str->Int}:∀ {l:List (Ex×List Str)},Eu vis l=none->∀x∈l,vis x.1 x.2=0
 |[],_,x,hx=>by simp at hx
 |y::l,h,x,hx=>by
  rw [Eu] at h;split at h
  . rename_i h0;rcases Ar.1 hx with rfl|hx
    . exact h0
    . exact gK (by simpa using h) x hx
  . cases h
theorem Ui {p:Pg} (h:(K9 p).1=0):p.Ev.length<=24/\∀f∈p.Ev,f.body.size<=600/\∀x∈Bj f.body f.params,(x.1.op=4->x.1.name≠[])/\(x.1.op=4->x.2.contains x.1.name=false->(C9 (Bo p.Ev) x.1.name).isSome=true):=by
 unfold K9 at h;cases hd:H4 p with
 |error d=>obtain ⟨c,a,b⟩:=d;rw [hd] at h;exact absurd h (XH hd)
 |ok dt=>
  rw [hd] at h;simp only at h;obtain ⟨hv,_⟩:=Kn hd;obtain ⟨hl,hg⟩:=JB hv;refine ⟨hl,fun f hf=>⟨(hg f hf).1,fun x hx=>⟨((hg f hf).2.2 _ x hx).1,fun h4 hc=>?_⟩⟩⟩;have h0:=gK (aT _ _ h f hf) x hx;obtain ⟨⟨o,n,u,ns,ks,al⟩,sc⟩:=x;simp only [Ex.op,Ex.name] at h4 hc ⊢;subst h4;rw [NP,if_pos rfl,hc] at h0;cases hi:C9 (Bo p.Ev) n with
  |none=>rw [hi] at h0;simp at h0
  |some k=>rfl
end Go.Ab
namespace Go.Ab
open Go.Proofs
def By (n:Nat):List DV:=[.int .i64 (n:Int)]
def Py (l:List (List Nat)):AV:= .d (.sl (l.map fun r=>[.sl (r.map By)]))
theorem eH {σ τ:AI} (h:σ.le τ) {i:Nat} {x:Nat×TypeId} (hb:τ.bt i=none):σ.le (τ.CH i x):=
 ⟨h.blk,h.tok,h.gt,fun k y hk=>by
   have:=h.bt k y hk;show (if k=i then some x else τ.bt k)=some y;rw [if_neg (fun e=>by rw [e,hb] at this;cases this)];exact this⟩
theorem AOJ {α:Type} {l:List α} {i:Nat} {x:α} (h:l[i]?=some x):l.set i x=l:=by
 apply FO;intro k;rw [B3];split
 . rename_i e;subst e;rw [h,if_pos (AG.1 h).1]
 . rfl
theorem wr1 {α:Type} {l:List α} {i:Nat} (x:α) (h:i < l.length):Ek i l++[x]++EG (i+1) l=l.set i x:=by
 rw [AK9,if_pos h];simp
theorem AG3 {r:FE->List (List DV)}:∀ {l:List FE} {cells:List AV},cells.length=l.length->(∀(k:Nat) (f:FE),l[k]?=some f->∃cv,cells[k]?=some cv/\SlV cv (r f))->∃ds,dvs cells=some ds/\chunk 1 l.length ds=l.map fun f=>[DV.sl (r f)]
 |[],[],_,_=>⟨[],rfl,rfl⟩
 |f::l,[],h,_=>by simp at h
 |[],c::cells,h,_=>by simp at h
 |f::l,c::cells,h,hk=>by
  obtain ⟨cv,h1,h2⟩:=hk 0 f rfl;simp only [BM,AL] at h1;subst h1;obtain ⟨ds,h3,h4⟩:=AG3 (r:=r) (l:=l) (cells:=cells) (by simpa using h) (fun k g hg=>hk (k+1) g hg);have hcv:=h2.dv;exact ⟨.sl (r f)::ds,by simp [dvs,hcv,h3],by simp [chunk,h4]⟩
structure CS (σ:AI) (jp jo:Nat) (ds:List DE) (fs:List FE) (cells:List AV) (τ:AI):Prop where
 prog:τ.blk jp=some [.d (.sl (ds.map DE.enc)),.d (.sl (fs.map FE.enc))]
 out:τ.blk jo=some cells
 ne:jo≠jp
 no:σ.blk jo=none
 np:σ.blk jp=none
 le:σ.le τ
 len:cells.length=fs.length
theorem CS.new {σ τ:AI} {jp jo:Nat} {ds:List DE} {fs:List FE} {cells:List AV} (h:CS σ jp jo ds fs cells τ) {j:Nat} (hj:τ.blk j=none) (cs:List AV):CS σ jp jo ds fs cells (τ.AP j cs):=by
 have h1:jp≠j:=fun e=>by rw [<- e,h.prog] at hj;cases hj
 have h2:jo≠j:=fun e=>by rw [<- e,h.out] at hj;cases hj
 have h3:σ.blk j=none:=by
  cases hc:σ.blk j with
  |none=>rfl
  |some c=>rw [h.le.blk j c hc] at hj;cases hj
 exact ⟨by rw [AK,if_neg h1];exact h.prog,by rw [AK,if_neg h2];exact h.out,h.ne,h.no,h.np,E6 h.le h3,h.len⟩
theorem qK (p:Pg) (σ:AI) (h:∀d∈p.data,KV d):AT Tzp 53 [pgA p] σ (fun v σ'=>v=Py (Hz p)/\σ'=σ):=by
 have hchk:=fun σ=>YN p σ h;refine sB (by simp) ?_;rw [Bq];unfold Hz;by_cases hc0:(K9 p).1=0
 case neg=>
  rw [if_neg hc0];have hne:((K9 p).1 != 0)=true:=by simpa using hc0
  obtain ⟨ds,fs⟩:=p;simp only [pgA,Pg.enc,AD,AJ,dgA] at hchk ⊢;(repeat' (refine wQ mxQ rfl ?_<;>try simp only [go_sem]));intro jp hjp;have hle0:=CQ (cs:=[AV.d (.sl (ds.map DE.enc)),.d (.sl (fs.map FE.enc))]) hjp;(repeat' ((first|refine wQ mxQ rfl ?_|(refine Run.Bf S0 (σ2:=σ) hle0 ?_)|refine AH.det (hchk _) ?_|fail)<;>try simp only [hne,go_sem]));rfl
 rw [if_pos hc0];have hne:((K9 p).1 != 0)=false:=by simpa using hc0
 obtain ⟨ds,fs⟩:=p;simp only [pgA,Pg.enc,AD,AJ,dgA] at hchk ⊢;(repeat' (refine wQ mxQ rfl ?_<;>try simp only [go_sem]));intro jp hjp;have hle0:=CQ (cs:=[AV.d (.sl (ds.map DE.enc)),.d (.sl (fs.map FE.enc))]) hjp;(repeat' (first|refine ctQ rfl ?_|((first|refine rgQ mxQ ?_|refine cdQ ?_|refine AH.det (hchk _) ?_)<;>try simp only [hne,AA,go_sem])|fail));obtain ⟨hbig,hfacts⟩:=Ui hc0;simp only at hbig hfacts;generalize hQ:(fun (v:AV) (σ':AI)=>v=Py (fs.map (TZ fs))/\σ'=σ)=Q;have hok:Q (Py (fs.map (TZ fs))) σ:=by rw [<- hQ];exact ⟨rfl,rfl⟩
 clear hQ;refine PC.mk (n:=fs.length) (by omega) (by omega) (fun jo hjo=>?_);have hne0:jo≠jp:=fun e=>by rw [e,AK,if_pos rfl] at hjo;cases hjo
 have hjo':σ.blk jo=none:=by rw [AK,if_neg hne0] at hjo;exact hjo
 have hflat:(AF fs.length [AV.Ae]).flatten=AF fs.length AV.Ae:=by
  induction fs.length with
  |zero=>rfl
  |succ n ih=>rw [B1,BU,ih];rfl
 rw [hflat]
 have hcs0:CS σ jp jo ds fs (AF fs.length AV.Ae) ((σ.AP jp [AV.d (.sl (ds.map DE.enc)),.d (.sl (fs.map FE.enc))]).AP jo (AF fs.length AV.Ae)):=
  ⟨by rw [AK,if_neg (A9 hne0),AK,if_pos rfl],B0,hne0,hjo',hjp,E6 hle0 hjo',by simp⟩
 generalize (σ.AP jp [AV.d (.sl (ds.map DE.enc)),.d (.sl (fs.map FE.enc))]).AP jo (AF fs.length AV.Ae)=τ0 at hcs0;have hp0:=hcs0.prog;(repeat' (first|refine ctQ rfl ?_|((first|refine rgQ mxQ ?_|refine cdQ ?_)<;>try simp only [hp0,AA,go_sem])|fail));refine Run.At ?_
 refine Run.Au ((fun (a1:AV) (a3:AV) (a18:AV) (a19:AV)=>fun (y:Nat×List AV×AI)=>put 1 a1 (put 3 a3 (put 18 a18 (put 19 a19 (put 20 (.d (.int .i64 y.1)) U))))) _ _ _ _) (fun _=>E) (fun y=>y.2.2)
  (fun y=>y.1<=fs.length/\CS σ jp jo ds fs y.2.1 y.2.2/\(∀k f,k < y.1->fs[k]?=some f->∃cv,y.2.1[k]?=some cv/\SlV cv ((TZ fs f).map By))/\∀k,y.1<=k->k < fs.length->y.2.1[k]?=some .Ae)
  (fun y=>fs.length - y.1) ?_ (0,AF fs.length AV.Ae,τ0) ⟨by simp,hcs0,fun k f hk=>by simp only at hk;omega,fun k _ hk=>by simp [hk]⟩
 rintro ⟨i,cells,τ⟩ ⟨hi,hcs,hdone,hrest⟩ ih;simp only at hi hcs hdone hrest;by_cases hlt:i < fs.length
 . obtain ⟨f,hf⟩:=Ai hlt;have he:=Av (enc:=FE.enc) hf;have hw1:=A4 (show i+1<=9000000000000000000 by omega);obtain ⟨hsz,hx⟩:=hfacts f (AE hf);have hp1:=hcs.prog;obtain ⟨nm,ps,o,n,u,ns,ks,al⟩:=f;simp only [FE.enc,Ex.A2,AD,AJ] at he;(repeat' ((first|refine wQ mxQ rfl ?_|(refine PC.mk (n:=fs.length) (by omega) (by omega) (fun jm hjm=>?_))|fail)<;>try simp only [Ag hlt,he,hp1,AA,go_sem]));rw [Y3];have hcs1:=hcs.new hjm (BX (AF fs.length false));rintro jf ⟨hjf,hjb⟩;have hj0:(τ.AP jm (BX (AF fs.length false))).blk jf=none:=by rw [AK];exact hjf
   have hbm:(τ.AP jm (BX (AF fs.length false))).blk jm=some (BX (AF fs.length false)):=B0;generalize τ.AP jm (BX (AF fs.length false))=τ1 at hcs1 hbm hj0 hjb ⊢;have hfm:jm≠jf:=fun e=>by rw [<- e,hbm] at hj0;cases hj0
   have hfp:jp≠jf:=fun e=>by rw [<- e,hcs1.prog] at hj0;cases hj0
   have hfo:jo≠jf:=fun e=>by rw [<- e,hcs1.out] at hj0;cases hj0
   have hsb:∀(τ:AI) (i:Nat) (x:Nat×TypeId) (j:Nat),(τ.CH i x).blk j=τ.blk j:=fun _ _ _ _=>rfl;simp only [hsb,go_sem]
   have hm0:σ.blk jm=none:=by
    cases hc:σ.blk jm with
    |none=>rfl
    |some c=>rw [hcs.le.blk jm c hc] at hjm;cases hjm
   have hf0:σ.blk jf=none:=by
    cases hc:σ.blk jf with
    |none=>rfl
    |some c=>rw [hcs1.le.blk jf c hc] at hj0;cases hj0
   have hmp:jp≠jm:=fun e=>by rw [<- e,hcs.prog] at hjm;cases hjm
   have hmo:jo≠jm:=fun e=>by rw [<- e,hcs.out] at hjm;cases hjm
   have hcs2:CS σ jp jo ds fs cells (((τ1.AP jf [AV.Ae]).CH jf (1,92)).AP jf [AV.ms jm fs.length 1 4]):=
    ⟨by rw [AK,if_neg hfp,hsb,AK,if_neg hfp];exact hcs1.prog,by rw [AK,if_neg hfo,hsb,AK,if_neg hfo];exact hcs1.out,hcs1.ne,hcs1.no,hcs1.np,E6 (eH (E6 hcs1.le hf0) hjb) hf0,hcs1.len⟩
   have hbm2:(((τ1.AP jf [AV.Ae]).CH jf (1,92)).AP jf [AV.ms jm fs.length 1 4]).blk jm=some (BX (AF fs.length false)):=by rw [AK,if_neg hfm,hsb,AK,if_neg hfm];exact hbm
   have hbf2:(((τ1.AP jf [AV.Ae]).CH jf (1,92)).AP jf [AV.ms jm fs.length 1 4]).blk jf=some [AV.ms jm fs.length 1 4]:=B0;generalize ((τ1.AP jf [AV.Ae]).CH jf (1,92)).AP jf [AV.ms jm fs.length 1 4]=τ2 at hcs2 hbm2 hbf2;have hcb:=zJ ds fs ⟨nm,ps,.mk o n u ns ks al⟩ hsz hbig jm jf jp 4 τ2 (AF fs.length false) (by simp) hbm2 (by rw [V8];exact hbf2) hcs2.prog (A9 hfm) hmp hx
   have hcs3:CS σ jp jo ds fs cells (τ2.AP jm (BX (aU fs (Bj (.mk o n u ns ks al) ps) (AF fs.length false)))):=
    ⟨by rw [AK,if_neg hmp];exact hcs2.prog,by rw [AK,if_neg hmo];exact hcs2.out,hcs2.ne,hcs2.no,hcs2.np,E6 hcs2.le hm0,hcs2.len⟩
   have hbf3:(τ2.AP jm (BX (aU fs (Bj (.mk o n u ns ks al) ps) (AF fs.length false)))).blk jf=some [AV.ms jm fs.length 1 4]:=by rw [AK,if_neg (A9 hfm)];exact hbf2
   have hbm3:(τ2.AP jm (BX (aU fs (Bj (.mk o n u ns ks al) ps) (AF fs.length false)))).blk jm=some (BX (aU fs (Bj (.mk o n u ns ks al) ps) (AF fs.length false))):=B0;simp only at hcb
   have hfg:∀g,g < fs.length->(aU fs (Bj (.mk o n u ns ks al) ps) (AF fs.length false))[g]?=some ((Bj (.mk o n u ns ks al) ps).any (IH fs g)):=fun g hg=>by
    rw [z8];simp [hg]
   have hfln:(aU fs (Bj (.mk o n u ns ks al) ps) (AF fs.length false)).length=fs.length:=by rw [nV];simp
   generalize aU fs (Bj (.mk o n u ns ks al) ps) (AF fs.length false)=fin at hcb hcs3 hbf3 hbm3 hfg hfln;generalize τ2.AP jm (BX fin)=τ3 at hcb hcs3 hbf3 hbm3;simp only [feA,FE.enc,Ex.A2,AD,AJ] at hcb;(repeat' ((first|refine wQ mxQ rfl ?_|(refine AH.mk rfl hcb ?_;rintro _ τ3 ⟨rfl,rfl⟩)|fail)<;>try simp only [hbf3,hfln,go_sem]));refine Run.At ?_;have hci:=hrest i (AW _) hlt;have hcl:=hcs.len
   refine Run.Au ((fun (a1:AV) (a3:AV) (a4:AV) (a18:AV) (a19:AV) (a20:AV) (a32:AV) (a33:AV)=>fun (z:Nat×AV×AI)=>put 1 a1 (put 3 a3 (put 4 a4 (put 18 a18 (put 19 a19 (put 20 a20 (put 32 a32 (put 33 a33 (put 34 (.d (.int .i64 z.1)) U))))))))) _ _ _ _ _ _ _ _) (fun _=>E) (fun z=>z.2.2)
    (fun z=>z.1<=fs.length/\CS σ jp jo ds fs (cells.set i z.2.1) z.2.2/\z.2.2.blk jm=some (BX fin)/\Bz σ 3 1 (((BA z.1).filter fun g=>(Bj (.mk o n u ns ks al) ps).any (IH fs g)).map By) z.2.1 z.2.2)
    (fun z=>fs.length - z.1) ?_ (0,.Ae,τ3) ⟨by simp,by rw [show cells.set i .Ae=cells from AOJ hci];exact hcs3,hbm3,⟨⟨τ3,rfl,hcs3.le⟩,hcs3.le,rfl,rfl,rfl,rfl,fun _=>rfl,rfl,rfl⟩⟩
   rintro ⟨g,cv,τ4⟩ ⟨hg,hcs4,hbm4,hown⟩ ih2;simp only at hg hcs4 hbm4 hown;by_cases hgl:g < fs.length
   . have hbg:=HH (hfg g hgl);have hwg:=A4 (show g+1<=9000000000000000000 by omega);have ho4:=hcs4.out;have hgi:(cells.set i cv)[i]?=some cv:=by rw [B3];simp;omega
     have hll:((i:Int) < (fs.length:Int))=True:=by simp only [eq_iff_iff,iff_true];omega
     have hll2:((g:Int) < (fs.length:Int))=True:=by simp only [eq_iff_iff,iff_true];omega
     cases hb:(Bj (.mk o n u ns ks al) ps).any (IH fs g) with
     |false=>
      rw [hb] at hbg
      have hrg:(BA (g+1)).filter (fun g=>(Bj (.mk o n u ns ks al) ps).any (IH fs g))=(BA g).filter (fun g=>(Bj (.mk o n u ns ks al) ps).any (IH fs g)):=by
       rw [List.range_succ,Qh];simp [hb]
      (repeat' (refine wQ mxQ rfl ?_<;>try simp only [Ag hgl,hbm4,hbg,hwg,hll2,A5,go_sem]));exact ih2 (g+1,cv,τ4) ⟨by simp only;omega,hcs4,hbm4,by simp only [hrg];exact hown⟩ (by simp only;omega)
     |true=>
      rw [hb] at hbg
      have hrg:(BA (g+1)).filter (fun g=>(Bj (.mk o n u ns ks al) ps).any (IH fs g))=(BA g).filter (fun g=>(Bj (.mk o n u ns ks al) ps).any (IH fs g))++[g]:=by
       rw [List.range_succ,Qh];simp [hb]
      have hlenR:(((BA g).filter fun g=>(Bj (.mk o n u ns ks al) ps).any (IH fs g)).map By).length<=1000:=by
       have:=MW (fun g=>(Bj (.mk o n u ns ks al) ps).any (IH fs g)) (BA g);rw [List.length_range] at this;rw [AA];omega
      have hset:∀v2,Ek i (cells.set i cv)++[v2]++EG (i+1) (cells.set i cv)=cells.set i v2:=fun v2=>by
       rw [wr1 _ (by rw [LW];omega),List.set_set]
      have hlen1:(i+1<=(cells.set i cv).length)=True:=by simp;omega
      (repeat' ((first|refine wQ mxQ rfl ?_|(refine DD.own hown rfl (by simp) (by simp only [A1,CG];omega) (by decide) (fun v2 σ2 ho2 hbk=>?_))|fail)<;>try simp only [Ag hgl,hbm4,hbg,hwg,hll2,A5,ho4,hll,hgi,hown.cell,go_sem]));have hb2:=(hbk jo).trans ho4;have hbm5:=(hbk jm).trans hbm4;have hp5:=(hbk jp).trans hcs4.prog;simp only [hll,hb2,ho2.cell,ho2.cells,hlen1,hset,A5,go_sem];(repeat' (refine wQ mxQ rfl ?_<;>try simp only [hwg,go_sem]));have ho3:=ho2.set hcs4.no (cells.set i v2);exact ih2 (g+1,v2,σ2.AP jo (cells.set i v2)) ⟨by simp only;omega,⟨by rw [AK,if_neg (A9 hcs4.ne)];exact hp5,B0,hcs4.ne,hcs4.no,hcs4.np,ho3.le,by simp [hcl]⟩,by rw [AK,if_neg (A9 hmo)];exact hbm5,by simp only [hrg,Ay];exact ho3⟩ (by simp only;omega)
   . have hgn:g=fs.length:=by omega
     subst hgn;(repeat' (refine wQ mxQ rfl ?_<;>try simp only [B5 hgl,hw1,go_sem]));refine ih (i+1,cells.set i cv,τ4) ⟨by simp only;omega,hcs4,fun k f hk hfk=>?_,fun k hk hkl=>?_⟩ (by simp only;omega)
     . simp only at hk ⊢;by_cases hki:k=i
       . subst hki;rw [hf] at hfk;cases hfk;exact ⟨cv,by rw [B3];simp;omega,hown.slv⟩
       . rw [B3,if_neg (fun e=>hki e.symm)];exact hdone k f (by omega) hfk
     . simp only at hk ⊢;rw [B3,if_neg (by omega)];exact hrest k (by omega) hkl
 . have hin:i=fs.length:=by omega
   subst hin;obtain ⟨dvl,hdv,hch⟩:=AG3 (r:=fun f=>(TZ fs f).map By) hcs.len (fun k f hk=>hdone k f (AG.1 hk).1 hk);(repeat' (refine wQ mxQ rfl ?_<;>try simp only [B5 hlt,go_sem]));refine Run.freeze (F':=put 2 (Py (fs.map (TZ fs))) U) (σ':= { τ with blk:=fun j=>if (σ.blk j).isSome then τ.blk j else none}) hcs.out hdv (by rw [hcs.len,A5]) (Ap hbig (by decide)) (fun s=>?_) (fun k cs' hk=>⟨cs',hk,.inl rfl⟩) (fun j cs' hj'=>?_) (fun _ h=>h) ?_
   . by_cases h2:s=2
     . subst h2;right;simp only [CR,if_true,frz,and_self,Py,hch,List.map_map];rfl
     . left;simp only [CR,if_neg h2]
   . simp only at hj';cases hs:σ.blk j with
     |none=>rw [hs] at hj';cases hj'
     |some c=>
      rw [hs] at hj';exact ⟨(fun e=>by rw [e,hcs.no] at hs;cases hs),cs',hj',.inl rfl⟩
   . refine Run.Bf S0 (σ2:=σ) (AEP hcs.le) ?_;simp only [YD,Py,go_sem];exact hok
end Go.Ab
namespace Go.Ab
open Go.Proofs
set_option maxRecDepth 100000
set_option maxHeartbeats 40000000
noncomputable section
def YU:List (Nat×PT):=[(3,(pO [0] (.alt 1 (pO [2,3] .done) (.alt 2 (pO [1,3] .done) .done)))),(5,(pL [9] (pO [0,1,2,4,5,6] (.alt 3 (pO [7,8,10] .done) (.alt 7 (pO [3,8,10] .done) .done))))),(16,(pO [0,1,2] (.alt 3 (pO [4,5,6] .done) (.alt 5 (pO [3,4,6] .done) .done)))),(27,(pO [0,1,2,3,5,6,7] (.alt 4 (pO [8,9,10,11,12,13,14,15] .done) (.alt 8 (pO [9,10,11,12] (.alt 4 (pO [13,14,15] .done) (.alt 13 (pO [4,14,15] .done) .done))) .done))))]
noncomputable def Bi:Cx:=⟨Tzp,8,Tryz.f8,121,[300018,300021,300024,300026,300031,300035,300039,300046,300049,300105,300108,300119],[],[.c 2 (some 2),.c 3 (some 3)]⟩
theorem Li:Good Bi:=⟨Tryz.func8,by kernel_rfl⟩
theorem KU:Bi.rs=[.c 2 (some 2),.c 3 (some 3)]:=rfl
noncomputable def Ir:=BO Bi YU fun c a b d e=>G c [a,b,d,e]
def GY:C:=lpC 0 (Ir .skip .skip .skip .skip)
def IN:C:=lpC 1 (Ir GY .skip .skip .skip)
def L8:C:=lpC 2 (Ir GY IN .skip .skip)
def IP:C:=lpC 3 (Ir GY IN L8 .skip)
def nQ:C:=(Ir GY IN L8 IP).1
theorem oS:Inn Bi nQ 121:=inn YU Li Tryz.ntmps8
def Rt:List (Nat×PT):=[(2,(pO [0,1,2,3,5,7,9] (.alt 4 (.alt 6 (.alt 8 (pO [10,11,12,13] .done) (.alt 10 (pO [8,11,12,13] .done) .done)) (.alt 8 (.alt 6 (pO [10,11,12,13] .done) (.alt 10 (pO [6,11,12,13] .done) .done)) (.alt 10 (.alt 6 (pO [8,11,12,13] .done) (.alt 8 (pO [6,11,12,13] .done) .done)) .done))) (.alt 6 (.alt 4 (.alt 8 (pO [10,11,12,13] .done) (.alt 10 (pO [8,11,12,13] .done) .done)) (.alt 8 (.alt 4 (pO [10,11,12,13] .done) (.alt 10 (pO [4,11,12,13] .done) .done)) (.alt 10 (.alt 4 (pO [8,11,12,13] .done) (.alt 8 (pO [4,11,12,13] .done) .done)) .done))) (.alt 8 (.alt 4 (.alt 6 (pO [10,11,12,13] .done) (.alt 10 (pO [6,11,12,13] .done) .done)) (.alt 6 (.alt 4 (pO [10,11,12,13] .done) (.alt 10 (pO [4,11,12,13] .done) .done)) (.alt 10 (.alt 4 (pO [6,11,12,13] .done) (.alt 6 (pO [4,11,12,13] .done) .done)) .done))) (.alt 10 (.alt 4 (.alt 6 (pO [8,11,12,13] .done) (.alt 8 (pO [6,11,12,13] .done) .done)) (.alt 6 (.alt 4 (pO [8,11,12,13] .done) (.alt 8 (pO [4,11,12,13] .done) .done)) (.alt 8 (.alt 4 (pO [6,11,12,13] .done) (.alt 6 (pO [4,11,12,13] .done) .done)) .done))) .done)))))),(7,(pO [0,1,2,4,5,6,7,8,9,10,11,12,13,14] (.alt 3 (pO [15,16,17] .done) (.alt 15 (pO [3,16,17] .done) .done)))),(8,(pO [0,1,2,4,5,6,7] (.alt 3 (pO [8,9,10] .done) (.alt 8 (pO [3,9,10] .done) .done))))]
noncomputable def Gj:Cx:=⟨Tzp,27,Tryz.f27,70,[28,300014,300016,300050],[],[.t 8]⟩
theorem Re:Good Gj:=⟨Tryz.func27,by kernel_rfl⟩
theorem cC:Gj.rs=[.t 8]:=rfl
noncomputable def Rg:=BO Gj Rt fun c a=>G c [a]
def XA:C:=lpC 0 (Rg .skip)
def L9:C:=(Rg XA).1
theorem dW:Inn Gj L9 70:=inn Rt Re Tryz.ntmps27
def LD:List (Nat×PT):=[(2,(pO [0,1,2,3,4,6,10,11,12,13,14,15,16,17,18,19,20,21,22,23,24,25,26] (.alt 5 (pO [7,8] (.alt 9 (pO [27,28,29] .done) (.alt 27 (pO [9,28,29] .done) .done))) (.alt 27 (pO [5,7,8,9,28,29] .done) .done))))]
noncomputable def FB:Cx:=⟨Tzp,28,Tryz.f28,51,[],[],[]⟩
theorem Ks:Good FB:=⟨Tryz.func28,by kernel_rfl⟩
theorem Sr:FB.rs=[]:=rfl
noncomputable def Tv:=BO FB LD (G · [])
def TR:C:=(Tv).1
theorem Th:Inn FB TR 51:=inn LD Ks Tryz.ntmps28
noncomputable def F8:Cx:=⟨Tzp,29,Tryz.f29,26,[1,3,4],[],[.t 2]⟩
theorem Hc:Good F8:=⟨Tryz.func29,by kernel_rfl⟩
theorem UH:F8.rs=[.t 2]:=rfl
noncomputable def Lp:=BO F8 [] fun c a=>G c [a]
def Qr:C:=lpC 0 (Lp .skip)
def Uf:C:=(Lp Qr).1
theorem Ut:Inn F8 Uf 26:=inn [] Hc Tryz.ntmps29
noncomputable def GF:Cx:=⟨Tzp,30,Tryz.f30,13,[1,3,4],[],[.t 2]⟩
theorem M9:Good GF:=⟨Tryz.func30,by kernel_rfl⟩
theorem VT:GF.rs=[.t 2]:=rfl
noncomputable def WT:=BO GF [] (G · [])
def Vz:C:=(WT).1
theorem WJ:Inn GF Vz 13:=inn [] M9 Tryz.ntmps30
noncomputable def F7:Cx:=⟨Tzp,31,Tryz.f31,38,[5,7],[],[.t 6]⟩
theorem F1:Good F7:=⟨Tryz.func31,by kernel_rfl⟩
theorem UG:F7.rs=[.t 6]:=rfl
noncomputable def VA:=BO F7 [] (G · [])
def Uc:C:=(VA).1
theorem Us:Inn F7 Uc 38:=inn [] F1 Tryz.ntmps31
def Mf:List (Nat×PT):=[(7,(pL [27] (pO [0,2,3,4,5,6,7,9,12,14,15,16,17,18,19,21,24] (.alt 1 (pO [8,10,11] (.alt 13 (pO [20,22,23,25,26,28] .done) (.alt 20 (pO [22] (.alt 13 (pO [23,25,26,28] .done) (.alt 23 (pO [13,25,26,28] .done) .done))) .done))) (.alt 8 (pO [10] (.alt 1 (pO [11] (.alt 13 (pO [20,22,23,25,26,28] .done) (.alt 20 (pO [22] (.alt 13 (pO [23,25,26,28] .done) (.alt 23 (pO [13,25,26,28] .done) .done))) .done))) (.alt 11 (.alt 1 (.alt 13 (pO [20,22,23,25,26,28] .done) (.alt 20 (pO [22] (.alt 13 (pO [23,25,26,28] .done) (.alt 23 (pO [13,25,26,28] .done) .done))) .done)) (.alt 20 (pO [22] (.alt 1 (.alt 13 (pO [23,25,26,28] .done) (.alt 23 (pO [13,25,26,28] .done) .done)) (.alt 23 (pO [1,13,25,26,28] .done) .done))) .done)) (.alt 20 (pO [22] (.alt 1 (pO [11] (.alt 13 (pO [23,25,26,28] .done) (.alt 23 (pO [13,25,26,28] .done) .done))) (.alt 11 (.alt 1 (.alt 13 (pO [23,25,26,28] .done) (.alt 23 (pO [13,25,26,28] .done) .done)) (.alt 23 (pO [1,13,25,26,28] .done) .done)) (.alt 23 (.alt 1 (pO [11,13,25,26,28] .done) (.alt 11 (pO [1,13,25,26,28] .done) .done)) .done)))) .done)))) (.alt 20 (pO [22] (.alt 1 (pO [8,10,11] (.alt 13 (pO [23,25,26,28] .done) (.alt 23 (pO [13,25,26,28] .done) .done))) (.alt 8 (pO [10] (.alt 1 (pO [11] (.alt 13 (pO [23,25,26,28] .done) (.alt 23 (pO [13,25,26,28] .done) .done))) (.alt 11 (.alt 1 (.alt 13 (pO [23,25,26,28] .done) (.alt 23 (pO [13,25,26,28] .done) .done)) (.alt 23 (pO [1,13,25,26,28] .done) .done)) (.alt 23 (.alt 1 (pO [11,13,25,26,28] .done) (.alt 11 (pO [1,13,25,26,28] .done) .done)) .done)))) (.alt 23 (.alt 1 (pO [8,10,11,13,25,26,28] .done) (.alt 8 (pO [10] (.alt 1 (pO [11,13,25,26,28] .done) (.alt 11 (pO [1,13,25,26,28] .done) .done))) .done)) .done)))) .done)))))),(15,(pO [0,1,2,3,4,5,6,8,9,10,11,12,7,13,14,15,16,17] .done))]
noncomputable def EZ:Cx:=⟨Tzp,32,Tryz.f32,106,[300068,300070,300078,300084,300091,300104],[],[.c 4 (some 5),.t 5]⟩
theorem M8:Good EZ:=⟨Tryz.func32,by kernel_rfl⟩
theorem VQ:EZ.rs=[.c 4 (some 5),.t 5]:=rfl
noncomputable def IF:=BO EZ Mf fun c a b=>G c [a,b]
def Jp:C:=lpC 0 (IF .skip .skip)
def Jq:C:=lpC 1 (IF Jp .skip)
def Vx:C:=(IF Jp Jq).1
theorem WG:Inn EZ Vx 106:=inn Mf M8 Tryz.ntmps32
noncomputable def ER:Cx:=⟨Tzp,54,Tryz.f54,21,[],[],[.t 4]⟩
theorem J1:Good ER:=⟨Tryz.func54,by kernel_rfl⟩
theorem Q6:ER.rs=[.t 4]:=rfl
noncomputable def J5:=BO ER [] fun c a=>G c [a]
def OV:C:=lpC 0 (J5 .skip)
def Qs:C:=(J5 OV).1
theorem RA:Inn ER Qs 21:=inn [] J1 Tryz.ntmps54
noncomputable def GA:Cx:=⟨Tzp,55,Tryz.f55,6,[],[],[.t 2]⟩
theorem IC:Good GA:=⟨Tryz.func55,by kernel_rfl⟩
theorem VS:GA.rs=[.t 2]:=rfl
noncomputable def WR:=BO GA [] (G · [])
def Vy:C:=(WR).1
theorem WI:Inn GA Vy 6:=inn [] IC Tryz.ntmps55
def Ox:List (Nat×PT):=[(2,(pO [0,1,2,4,5,6,8,9,10,11,12,13,14,15,16,17,18,19] (.alt 3 (.alt 7 (pO [20,21,22] .done) (.alt 20 (pO [7,21,22] .done) .done)) (.alt 7 (.alt 3 (pO [20,21,22] .done) (.alt 20 (pO [3,21,22] .done) .done)) (.alt 20 (pO [3,7,21,22] .done) .done))))),(28,(pO [0,1,2,3,4,5,6,7,8,10,11,12,9,13,14] .done))]
noncomputable def Ci:Cx:=⟨Tzp,56,Tryz.f56,170,[42,300045,300054,300065,300074,300081,300087,300094,300101,300125,300131,300141,300047],[],[.t 6]⟩
theorem Oh:Good Ci:=⟨Tryz.func56,by kernel_rfl⟩
theorem YJ:Ci.rs=[.t 6]:=rfl
noncomputable def ZW:=BO Ci Ox (G · [])
def BZ:C:=(ZW).1
theorem ZQ:Inn Ci BZ 170:=inn Ox Oh Tryz.ntmps56
noncomputable def HF:Cx:=⟨Tzp,57,Tryz.f57,28,[100025],[],[.t 6]⟩
theorem Oi:Good HF:=⟨Tryz.func57,by kernel_rfl⟩
theorem YL:HF.rs=[.t 6]:=rfl
noncomputable def Ot:=BO HF [] fun c a=>G c [a]
def Ue:C:=lpC 0 (Ot .skip)
def ZH:C:=(Ot Ue).1
theorem ZS:Inn HF ZH 28:=inn [] Oi Tryz.ntmps57
def Mg:List (Nat×PT):=[(2,(pL [16,17] (pO [0,1,2,3,4,5,6,7,8,9,10,12] (.alt 11 (pO [13,14] (.alt 15 (pO [18,19] .done) (.alt 18 (pO [15,19] .done) .done))) (.alt 18 (pO [11,13,14,15,19] .done) .done)))))]
noncomputable def GG:Cx:=⟨Tzp,58,Tryz.f58,110,[300036,300048,300060,300062,300066,300068,300073,300076,300092,300099,300104],[],[]⟩
theorem Ba:Good GG:=⟨Tryz.func58,by kernel_rfl⟩
theorem VU:GG.rs=[]:=rfl
noncomputable def Mc:=BO GG Mg fun c a=>G c [a]
def SU:C:=lpC 0 (Mc .skip)
def WA:C:=(Mc SU).1
theorem WK:Inn GG WA 110:=inn Mg Ba Tryz.ntmps58
noncomputable def Eh:Cx:=⟨Tzp,59,Tryz.f59,46,[],[],[.t 5]⟩
theorem E8:Good Eh:=⟨Tryz.func59,by kernel_rfl⟩
theorem RW:Eh.rs=[.t 5]:=rfl
noncomputable def Jz:=BO Eh [] fun c a=>G c [a]
def PJ:C:=lpC 0 (Jz .skip)
def SQ:C:=(Jz PJ).1
theorem Sa:Inn Eh SQ 46:=inn [] E8 Tryz.ntmps59
noncomputable def Gk:Cx:=⟨Tzp,60,Tryz.f60,46,[],[],[.t 4]⟩
theorem Nm:Good Gk:=⟨Tryz.func60,by kernel_rfl⟩
theorem W3:Gk.rs=[.t 4]:=rfl
noncomputable def OC:=BO Gk [] fun c a=>G c [a]
def TV:C:=lpC 0 (OC .skip)
def XB:C:=(OC TV).1
theorem Xc:Inn Gk XB 46:=inn [] Nm Tryz.ntmps60
noncomputable def FG:Cx:=⟨Tzp,61,Tryz.f61,46,[],[],[.t 5]⟩
theorem HL:Good FG:=⟨Tryz.func61,by kernel_rfl⟩
theorem Sw:FG.rs=[.t 5]:=rfl
noncomputable def Kw:=BO FG [] fun c a=>G c [a]
def Pw:C:=lpC 0 (Kw .skip)
def TY:C:=(Kw Pw).1
theorem Tm:Inn FG TY 46:=inn [] HL Tryz.ntmps61
noncomputable def Ee:Cx:=⟨Tzp,62,Tryz.f62,8,[],[],[.t 3]⟩
theorem Ju:Good Ee:=⟨Tryz.func62,by kernel_rfl⟩
theorem RP:Ee.rs=[.t 3]:=rfl
noncomputable def Sh:=BO Ee [] (G · [])
def SL:C:=(Sh).1
theorem S6:Inn Ee SL 8:=inn [] Ju Tryz.ntmps62
noncomputable def EL:Cx:=⟨Tzp,63,Tryz.f63,9,[],[],[.t 4]⟩
theorem JX:Good EL:=⟨Tryz.func63,by kernel_rfl⟩
theorem Q1:EL.rs=[.t 4]:=rfl
noncomputable def RG:=BO EL [] (G · [])
def Qj:C:=(RG).1
theorem Qv:Inn EL Qj 9:=inn [] JX Tryz.ntmps63
noncomputable def Ce:Cx:=⟨Tzp,64,Tryz.f64,9,[],[],[.t 4]⟩
theorem Ff:Good Ce:=⟨Tryz.func64,by kernel_rfl⟩
theorem KG:Ce.rs=[.t 4]:=rfl
noncomputable def Kg:=BO Ce [] (G · [])
def K6:C:=(Kg).1
theorem Kd:Inn Ce K6 9:=inn [] Ff Tryz.ntmps64
noncomputable def Ef:Cx:=⟨Tzp,65,Tryz.f65,14,[300006,300010],[],[.t 3]⟩
theorem Gn:Good Ef:=⟨Tryz.func65,by kernel_rfl⟩
theorem RR:Ef.rs=[.t 3]:=rfl
noncomputable def Si:=BO Ef [] (G · [])
def SM:C:=(Si).1
theorem S7:Inn Ef SM 14:=inn [] Gn Tryz.ntmps65
def KM:List (Nat×PT):=[(1,(pO [0,1,2,3,4,5,6,7,8,9,11,12,13,15] (.alt 10 (pO [14,16,17,18,19,20,21] .done) (.alt 14 (pO [16] (.alt 10 (pO [17,18,19,20,21] .done) (.alt 17 (pO [18,10,19,20,21] .done) .done))) .done))))]
noncomputable def Eg:Cx:=⟨Tzp,66,Tryz.f66,26,[],[],[.t 4]⟩
theorem Jv:Good Eg:=⟨Tryz.func66,by kernel_rfl⟩
theorem RU:Eg.rs=[.t 4]:=rfl
noncomputable def Sj:=BO Eg KM (G · [])
def SP:C:=(Sj).1
theorem S9:Inn Eg SP 26:=inn KM Jv Tryz.ntmps66
noncomputable def FF:Cx:=⟨Tzp,67,Tryz.f67,25,[],[],[.t 6]⟩
theorem Kt:Good FF:=⟨Tryz.func67,by kernel_rfl⟩
theorem Sv:FF.rs=[.t 6]:=rfl
noncomputable def Kv:=BO FF [] fun c a=>G c [a]
def Pv:C:=lpC 0 (Kv .skip)
def TW:C:=(Kv Pv).1
theorem Tl:Inn FF TW 25:=inn [] Kt Tryz.ntmps67
noncomputable def Gm:Cx:=⟨Tzp,68,Tryz.f68,44,[300022,300035,300037,300040],[],[.c 6 (some 3)]⟩
theorem G3:Good Gm:=⟨Tryz.func68,by kernel_rfl⟩
theorem W5:Gm.rs=[.c 6 (some 3)]:=rfl
noncomputable def Xr:=BO Gm [] (G · [])
def XD:C:=(Xr).1
theorem Xe:Inn Gm XD 44:=inn [] G3 Tryz.ntmps68
noncomputable def HG:Cx:=⟨Tzp,90,Tryz.f90,24,[20,300016],[],[.t 4]⟩
theorem Jc:Good HG:=⟨Tryz.func90,by kernel_rfl⟩
theorem YM:HG.rs=[.t 4]:=rfl
noncomputable def ZX:=BO HG [] (G · [])
def ZI:C:=(ZX).1
theorem ZT:Inn HG ZI 24:=inn [] Jc Tryz.ntmps90
def LG:List (Nat×PT):=[(8,(pO [0,1,2,3,4,5,6,7,8,9,11,12,13,15] (.alt 10 (pO [14,16,17,18,19,20,21] .done) (.alt 14 (pO [16] (.alt 10 (pO [17,18,19,20,21] .done) (.alt 17 (pO [18,10,19,20,21] .done) .done))) .done)))),(11,(pO [0,1,2,3,4,5,6,7,8,9,10,11,13,14,15,16,17,18,19,20] (.alt 12 (pO [21,22,23,24,25,26] .done) (.alt 21 (pO [12,22,23,24,25,26] .done) .done))))]
noncomputable def FD:Cx:=⟨Tzp,91,Tryz.f91,115,[5,300085,300096,300106],[],[.t 8]⟩
theorem Ew:Good FD:=⟨Tryz.func91,by kernel_rfl⟩
theorem Su:FD.rs=[.t 8]:=rfl
noncomputable def Tw:=BO FD LG (G · [])
def TU:C:=(Tw).1
theorem Tj:Inn FD TU 115:=inn LG Ew Tryz.ntmps91
noncomputable def FA:Cx:=⟨Tzp,92,Tryz.f92,22,[],[],[.t 4]⟩
theorem C2:Good FA:=⟨Tryz.func92,by kernel_rfl⟩
theorem Sq:FA.rs=[.t 4]:=rfl
noncomputable def Tt:=BO FA [] (G · [])
def TP:C:=(Tt).1
theorem Tg:Inn FA TP 22:=inn [] C2 Tryz.ntmps92
noncomputable def Gl:Cx:=⟨Tzp,93,Tryz.f93,12,[],[],[.t 6]⟩
theorem Im:Good Gl:=⟨Tryz.func93,by kernel_rfl⟩
theorem W4:Gl.rs=[.t 6]:=rfl
noncomputable def Xq:=BO Gl [] (G · [])
def XC:C:=(Xq).1
theorem Xd:Inn Gl XC 12:=inn [] Im Tryz.ntmps93
noncomputable def Gg:Cx:=⟨Tzp,94,Tryz.f94,25,[300018],[],[.t 6]⟩
theorem Nk:Good Gg:=⟨Tryz.func94,by kernel_rfl⟩
theorem W1:Gg.rs=[.t 6]:=rfl
noncomputable def OA:=BO Gg [] fun c a=>G c [a]
def TQ:C:=lpC 0 (OA .skip)
def Wy:C:=(OA TQ).1
theorem Xa:Inn Gg Wy 25:=inn [] Nk Tryz.ntmps94
def Ov:List (Nat×PT):=[(6,(pO [0,1,2,3,4,5,7,8,9,10,11,12,14,18,22,25] (.alt 6 (pO [13,15,16,17,19,20,21,23,24,26,27] .done) (.alt 13 (pO [15,16] (.alt 6 (pO [17,19,20,21,23,24,26,27] .done) (.alt 17 (pO [19,20] (.alt 6 (pO [21,23,24,26,27] .done) (.alt 21 (pO [23] (.alt 6 (pO [24,26,27] .done) (.alt 24 (pO [6,26,27] .done) .done))) .done))) .done))) .done))))]
noncomputable def HD:Cx:=⟨Tzp,95,Tryz.f95,80,[300019,300037,300048],[],[.t 6]⟩
theorem Og:Good HD:=⟨Tryz.func95,by kernel_rfl⟩
theorem YI:HD.rs=[.t 6]:=rfl
noncomputable def Oo:=BO HD Ov fun c a=>G c [a]
def Ub:C:=lpC 0 (Oo .skip)
def ZF:C:=(Oo Ub).1
theorem ZP:Inn HD ZF 80:=inn Ov Og Tryz.ntmps95
def OL:List (Nat×PT):=[(3,(pO [0,1,2,3,4,5,6,7,8,10,11,12,13,14,15,9,16,17] .done)),(10,(pO [0,1,2,3,4,5,6,7,8,9,12,10,11,13] .done))]
noncomputable def Gi:Cx:=⟨Tzp,96,Tryz.f96,117,[300024,300049,300067,300079,300106,300109],[],[.t 6]⟩
theorem Nl:Good Gi:=⟨Tryz.func96,by kernel_rfl⟩
theorem W2:Gi.rs=[.t 6]:=rfl
noncomputable def OB:=BO Gi OL fun c a=>G c [a]
def TS:C:=lpC 0 (OB .skip)
def Wz:C:=(OB TS).1
theorem Xb:Inn Gi Wz 117:=inn OL Nl Tryz.ntmps96
def LF:List (Nat×PT):=[(4,(pO [0,1,2,3,4,5,7,8,9,6,10,11] .done))]
noncomputable def FC:Cx:=⟨Tzp,97,Tryz.f97,43,[300010,300020,300030],[],[.t 6]⟩
theorem D7:Good FC:=⟨Tryz.func97,by kernel_rfl⟩
theorem Ss:FC.rs=[.t 6]:=rfl
noncomputable def Ku:=BO FC LF fun c a=>G c [a]
def Pu:C:=lpC 0 (Ku .skip)
def TT:C:=(Ku Pu).1
theorem Ti:Inn FC TT 43:=inn LF D7 Tryz.ntmps97
def KL:List (Nat×PT):=[(1,(pO [0,1,2,4,5,6,3,7,8,9] .done)),(2,(pO [0,1,2,3,4,6,7,8,9,10,5,11,12,13] .done)),(23,(pO [0,1,2,3,4,5,7,8,9] (.alt 6 (pO [10,11] .done) (.alt 10 (pO [6,11] .done) .done))))]
noncomputable def D0:Cx:=⟨Tzp,98,Tryz.f98,101,[300040,300080,300091],[],[.t 6]⟩
theorem DU:Good D0:=⟨Tryz.func98,by kernel_rfl⟩
theorem RT:D0.rs=[.t 6]:=rfl
noncomputable def Jy:=BO D0 KL fun c a=>G c [a]
def IQ:C:=lpC 0 (Jy .skip)
def SO:C:=(Jy IQ).1
theorem S8:Inn D0 SO 101:=inn KL DU Tryz.ntmps98
def Me:List (Nat×PT):=[(4,(pO [0,1,2,3,5,6,7,8,9,10] (.alt 4 (pO [11,12,13] .done) (.alt 11 (pO [4,12,13] .done) .done)))),(7,(pO [0,1,2,3,4,5,6,7,8,10,11,12,13,9,14,15] .done)),(8,(pO [0,1,2,3,5,6,7,8] (.alt 4 (pO [9,10,11] .done) (.alt 9 (pO [4,10,11] .done) .done)))),(10,(pO [0,1,2,3,4,5,6,7,8,10,11,12,9,13,14] .done)),(12,(pO [0,1,2,3,4,5,6,7,8,10,9,11] .done)),(16,(pO [0,1,2,3,5,6,7,8] (.alt 4 (pO [9,10,11] .done) (.alt 9 (pO [4,10,11] .done) .done)))),(17,(pO [0,1,2,3,5,6,4,7,8,9] .done)),(19,(pO [0,1,2,3,4,5,6,8,9,10,11,12,13,14,19] (.alt 7 (pO [15,16,17,18,20] .done) (.alt 15 (pO [16] (.alt 7 (pO [17,18,20] .done) (.alt 17 (pO [7,18,20] .done) .done))) .done))))]
noncomputable def Fz:Cx:=⟨Tzp,99,Tryz.f99,168,[300014,300019,300026,300031,300043,300051,300064,300069,300080,300092,300102,300116,300121,300126,300141,300151,300156],[],[.t 6]⟩
theorem DP:Good Fz:=⟨Tryz.func99,by kernel_rfl⟩
theorem VP:Fz.rs=[.t 6]:=rfl
noncomputable def WO:=BO Fz Me (G · [])
def Vw:C:=(WO).1
theorem EW:Inn Fz Vw 168:=inn Me DP Tryz.ntmps99
noncomputable def F4:Cx:=⟨Tzp,100,Tryz.f100,19,[],[],[.t 4]⟩
theorem FZ:Good F4:=⟨Tryz.func100,by kernel_rfl⟩
theorem UD:F4.rs=[.t 4]:=rfl
noncomputable def Lo:=BO F4 [] fun c a=>G c [a]
def Ql:C:=lpC 0 (Lo .skip)
def U7:C:=(Lo Ql).1
theorem Up:Inn F4 U7 19:=inn [] FZ Tryz.ntmps100
noncomputable def Ct:Cx:=⟨Tzp,101,Tryz.f101,19,[],[],[.t 4]⟩
theorem Cr:Good Ct:=⟨Tryz.func101,by kernel_rfl⟩
theorem Ly:Ct.rs=[.t 4]:=rfl
noncomputable def Gv:=BO Ct [] fun c a=>G c [a]
def K8:C:=lpC 0 (Gv .skip)
def MY:C:=(Gv K8).1
theorem M0:Inn Ct MY 19:=inn [] Cr Tryz.ntmps101
noncomputable def Ej:Cx:=⟨Tzp,102,Tryz.f102,28,[2,5,6,7],[],[.t 4]⟩
theorem Jw:Good Ej:=⟨Tryz.func102,by kernel_rfl⟩
theorem RY:Ej.rs=[.t 4]:=rfl
noncomputable def KB:=BO Ej [] fun c a=>G c [a]
def PK:C:=lpC 0 (KB .skip)
def SW:C:=(KB PK).1
theorem Sc:Inn Ej SW 28:=inn [] Jw Tryz.ntmps102
noncomputable def Hj:Cx:=⟨Tzp,103,Tryz.f103,8,[5],[],[.t 2]⟩
theorem Ha:Good Hj:=⟨Tryz.func103,by kernel_rfl⟩
theorem Z6:Hj.rs=[.t 2]:=rfl
noncomputable def bK:=BO Hj [] (G · [])
def aM:C:=(bK).1
theorem bD:Inn Hj aM 8:=inn [] Ha Tryz.ntmps103
noncomputable def HE:Cx:=⟨Tzp,121,Tryz.f121,22,[],[],[.t 4,.t 5]⟩
theorem Jb:Good HE:=⟨Tryz.func121,by kernel_rfl⟩
theorem YK:HE.rs=[.t 4,.t 5]:=rfl
noncomputable def Oq:=BO HE [] fun c a=>G c [a]
def Ud:C:=lpC 0 (Oq .skip)
def ZG:C:=(Oq Ud).1
theorem ZR:Inn HE ZG 22:=inn [] Jb Tryz.ntmps121
noncomputable def EP:Cx:=⟨Tzp,122,Tryz.f122,8,[300005],[],[.t 3]⟩
theorem J0:Good EP:=⟨Tryz.func122,by kernel_rfl⟩
theorem Q5:EP.rs=[.t 3]:=rfl
noncomputable def RJ:=BO EP [] (G · [])
def Qq:C:=(RJ).1
theorem Qz:Inn EP Qq 8:=inn [] J0 Tryz.ntmps122
noncomputable def ET:Cx:=⟨Tzp,123,Tryz.f123,25,[300018],[],[.t 6]⟩
theorem J2:Good ET:=⟨Tryz.func123,by kernel_rfl⟩
theorem Q7:ET.rs=[.t 6]:=rfl
noncomputable def J6:=BO ET [] fun c a=>G c [a]
def OW:C:=lpC 0 (J6 .skip)
def Qt:C:=(J6 OW).1
theorem RE:Inn ET Qt 25:=inn [] J2 Tryz.ntmps123
noncomputable def Ei:Cx:=⟨Tzp,124,Tryz.f124,27,[300008,300012,300017,300019,300022],[],[.t 6]⟩
theorem E9:Good Ei:=⟨Tryz.func124,by kernel_rfl⟩
theorem RX:Ei.rs=[.t 6]:=rfl
noncomputable def Sk:=BO Ei [] (G · [])
def SR:C:=(Sk).1
theorem Sb:Inn Ei SR 27:=inn [] E9 Tryz.ntmps124
noncomputable def DB:Cx:=⟨Tzp,125,Tryz.f125,50,[],[],[]⟩
theorem Fh:Good DB:=⟨Tryz.func125,by kernel_rfl⟩
theorem P2:DB.rs=[]:=rfl
noncomputable def It:=BO DB [] fun c a=>G c [a]
def H3:C:=lpC 0 (It .skip)
def Px:C:=(It H3).1
theorem QL:Inn DB Px 50:=inn [] Fh Tryz.ntmps125
attribute [go_sem] KU cC Sr UH VT UG VQ Q6 VS YJ YL VU RW W3 Sw RP Q1 KG RR RU Sv W5 YM Su Sq W4 W1 YI W2 Ss RT VP UD Ly RY Z6 YK Q5 Q7 RX P2
end
end Go.Ab
namespace Go.Ab
open Go.Proofs
structure Nd where
 k:Int
 n:Int
 ar:List Nat
 p:Nat
def Nd.row (x:Nd):List AV:=[.d (.int .i64 x.k),.d (.int .i64 x.n),.d (.sl (x.ar.map By)),.d (.int .i64 (x.p:Int))]
def ndC (l:List Nd):List AV:=(l.map Nd.row).flatten
abbrev tkN:Nat:=143
def ndV (l:List Nd) (j:Nat):AV:=match l with
 |[]=>.Ae
 |_::_=>.ms j l.length 4 tkN
theorem FH {l:List Nd} (h:l≠[]) (j:Nat):ndV l j= .ms j l.length 4 tkN:=by
 cases l with
 |nil=>exact absurd rfl h
 |cons x l=>rfl
theorem AQ7 (l m:List Nd):ndC (l++m)=ndC l++ndC m:=by simp [ndC]
theorem VD:∀l:List Nd,(ndC l).length=l.length * 4
 |[]=>rfl
 |x::l=>by
  have:=VD l;simp only [ndC,AD,BU,AX,A1] at this ⊢;rw [this];simp [Nd.row];omega
theorem Sl:∀ {l:List Nd} {i:Nat} {x:Nd},l[i]?=some x->(ndC l)[i * 4]?=some (.d (.int .i64 x.k))/\(ndC l)[i * 4+1]?=some (.d (.int .i64 x.n))/\(ndC l)[i * 4+2]?=some (.d (.sl (x.ar.map By)))/\(ndC l)[i * 4+3]?=some (.d (.int .i64 (x.p:Int)))
 |y::l,0,x,h=>by
  simp only [BM,AL] at h;subst h;exact ⟨rfl,rfl,rfl,rfl⟩
 |y::l,i+1,x,h=>by
  have:=Sl (l:=l) (i:=i) (x:=x) (by simpa using h)
  have hk:∀j,(ndC (y::l))[(i+1) * 4+j]?=(ndC l)[i * 4+j]?:=fun j=>by
   rw [show (i+1) * 4+j=4+(i * 4+j) from by omega];simp only [ndC,AD,BU];rw [BL (by simp [Nd.row])];simp [Nd.row]
  have h0:=hk 0;simp only [CC] at h0;rw [h0,hk,hk,hk];exact this
def RK (d:Nat->Nat) (l c:List Nd):Prop:=∀(i:Nat) (x y:Nd),l[i]?=some x->c[i]?=some y->(y.p=i/\x.p=i)\/(y.p≠i/\x.p≠i/\d y.p < d i/\∃z,l[y.p]?=some z/\z.p=x.p)
structure Rep (l c:List Nd):Prop where
 len:c.length=l.length
 sh:∀(i:Nat) (x y:Nd),l[i]?=some x->c[i]?=some y->y.k=x.k/\y.n=x.n/\y.ar=x.ar
 rk:∃d,RK d l c
structure FM (l:List Nd):Prop where
 p:∀(i:Nat) (x:Nd),l[i]?=some x->∃z,l[x.p]?=some z/\z.p=x.p
 ar:∀(i:Nat) (x:Nd),l[i]?=some x->∀a∈x.ar,a < l.length
theorem Rep.at {l c:List Nd} (h:Rep l c) {i:Nat} {x:Nd} (hi:l[i]?=some x):∃y,c[i]?=some y/\y.k=x.k/\y.n=x.n/\y.ar=x.ar:=by
 have:i < c.length:=by rw [h.len];exact (AG.1 hi).1
 exact ⟨c[i],by simp [this],h.sh i x _ hi (by simp [this])⟩
theorem Rep.nil:Rep [] []:=⟨rfl,fun i x y h=>by simp at h,fun _=>0,fun i x y h=>by simp at h⟩
theorem FM.nil:FM []:=⟨fun i x h=>by simp at h,fun i x h=>by simp at h⟩
theorem Nn {α:Type} {l:List α} {a x:α} {i:Nat} (h:(l++[a])[i]?=some x):l[i]?=some x\/(i=l.length/\x=a):=by
 by_cases hi:i < l.length
 . rw [BQ hi] at h;exact .inl h
 . rw [BL (by omega)] at h;have:=(AG.1 h).1;simp at this;have e:i=l.length:=by omega
   subst e;simp at h;exact .inr ⟨rfl,h.symm⟩
theorem AAI {α:Type} {l:List α} {x:α} {i:Nat} (h:l[i]?=some x) (m:List α):(l++m)[i]?=some x:=by
 rw [BQ (AG.1 h).1];exact h
theorem AMN {α:Type} (l:List α) (x:α):(l++[x])[l.length]?=some x:=by simp
theorem FM.add {l:List Nd} (h:FM l) (k n:Int) (ar:List Nat) (ha:∀a∈ar,a < l.length):FM (l++[⟨k,n,ar,l.length⟩]):=by
 refine ⟨fun i x hi=>?_,fun i x hi a hm=>?_⟩
 . rcases Nn hi with hi|⟨rfl,rfl⟩
   . obtain ⟨z,hz,e⟩:=h.p i x hi;exact ⟨z,AAI hz _,e⟩
   . exact ⟨_,AMN _ _,rfl⟩
 . simp only [AX,EH];rcases Nn hi with hi|⟨rfl,rfl⟩
   . have:=h.ar i x hi a hm;omega
   . have:=ha a hm;omega
theorem Rep.add {l c:List Nd} (h:Rep l c) (k n:Int) (ar:List Nat):Rep (l++[⟨k,n,ar,l.length⟩]) (c++[⟨k,n,ar,l.length⟩]):=by
 obtain ⟨d,hd⟩:=h.rk;refine ⟨by simp [h.len],fun i x y hi hy=>?_,d,fun i x y hi hy=>?_⟩
 . rcases Nn hi with hi|⟨rfl,rfl⟩
   . rcases Nn hy with hy|⟨rfl,rfl⟩
     . exact h.sh i x y hi hy
     . have:=(AG.1 hi).1;have:=h.len;omega
   . rcases Nn hy with hy|⟨_,rfl⟩
     . have:=(AG.1 hy).1;have:=h.len;omega
     . exact ⟨rfl,rfl,rfl⟩
 . rcases Nn hi with hi|⟨rfl,rfl⟩
   . rcases Nn hy with hy|⟨rfl,rfl⟩
     . rcases hd i x y hi hy with h1|⟨a,b,e,z,hz,hp⟩
       . exact .inl h1
       . exact .inr ⟨a,b,e,z,AAI hz _,hp⟩
     . have:=(AG.1 hi).1;have:=h.len;omega
   . rcases Nn hy with hy|⟨_,rfl⟩
     . have:=(AG.1 hy).1;have:=h.len;omega
     . exact .inl ⟨rfl,rfl⟩
theorem RK.AGO {d:Nat->Nat} {l c:List Nd} (hd:RK d l c) {i:Nat} {y z:Nd} (hy:c[i]?=some y) (hne:y.p≠i) (hz:c[y.p]?=some z):RK d l (c.set i { y with p:=z.p}):=by
 have hil:i < c.length:=(AG.1 hy).1;intro j x w hx hw;by_cases e:i=j
 . subst e;rw [BI hil] at hw;cases hw;rcases hd i x y hx hy with ⟨h1,_⟩|⟨_,hb,hc,u,hu,hp⟩
   . exact absurd h1 hne
   . rcases hd _ u z hu hz with ⟨h1,h2⟩|⟨_,_,h3,u',hu',hp'⟩
     . refine .inr ⟨?_,hb,?_,?_⟩
       . simp only;rw [h1];exact hne
       . simp only;rw [h1];exact hc
       . simp only;rw [h1];exact ⟨u,hu,hp⟩
     . refine .inr ⟨fun e=>?_,hb,by simp only;omega,u',hu',by rw [hp',hp]⟩;simp only at e;rw [e] at h3;omega
 . rw [BG e] at hw;exact hd j x w hx hw
theorem Rep.AGO {l c:List Nd} (h:Rep l c) {i:Nat} {y z:Nd} (hy:c[i]?=some y) (hne:y.p≠i) (hz:c[y.p]?=some z):Rep l (c.set i { y with p:=z.p}):=by
 obtain ⟨d,hd⟩:=h.rk;have hil:i < c.length:=(AG.1 hy).1;refine ⟨by simp [h.len],fun j x w hx hw=>?_,d,hd.AGO hy hne hz⟩;by_cases e:i=j
 . subst e;rw [BI hil] at hw;cases hw;exact h.sh i x y hx hy
 . rw [BG e] at hw;exact h.sh j x w hx hw
def P6 (a b:Nat) (l:List Nd):List Nd:=l.map fun x=>if x.p=a then { x with p:=b} else x
theorem MH (a b:Nat) (l:List Nd):(P6 a b l).length=l.length:=by simp [P6]
theorem mJ {a b:Nat} {l:List Nd} {i:Nat} {x:Nd} (h:(P6 a b l)[i]?=some x):∃y,l[i]?=some y/\x.k=y.k/\x.n=y.n/\x.ar=y.ar/\x.p=if y.p=a then b else y.p:=by
 unfold P6 at h;rw [Aj] at h;cases hl:l[i]? with
 |none=>rw [hl] at h;cases h
 |some y=>
  rw [hl] at h;simp only [Ah,AL] at h;refine ⟨y,rfl,?_⟩;subst h;split<;>simp_all
theorem AR4 {a b:Nat} {l:List Nd} {i:Nat} {y:Nd} (h:l[i]?=some y):(P6 a b l)[i]?=some (if y.p=a then { y with p:=b} else y):=by
 unfold P6;rw [Aj,h];rfl
theorem UO {a b:Nat} {l:List Nd} {i:Nat} {y:Nd} (h:l[i]?=some y):∃z,(P6 a b l)[i]?=some z/\z.k=y.k/\z.n=y.n/\z.ar=y.ar/\z.p=if y.p=a then b else y.p:=by
 refine ⟨_,AR4 h,?_⟩;split<;>simp_all
theorem FM.uni {l:List Nd} (h:FM l) {a b:Nat} {x:Nd} (hb:l[b]?=some x) (hx:x.p=b) (hab:a≠b):FM (P6 a b l):=by
 refine ⟨fun i y hi=>?_,fun i y hi c hc=>?_⟩
 . obtain ⟨z,hz,_,_,_,hp⟩:=mJ hi;by_cases e:z.p=a
   . rw [if_pos e] at hp;rw [hp];obtain ⟨u,hu,_,_,_,hup⟩:=UO (a:=a) (b:=b) hb;exact ⟨u,hu,by rw [hup,hx,if_neg (A9 hab)]⟩
   . rw [if_neg e] at hp;rw [hp];obtain ⟨w,hw,hwp⟩:=h.p i z hz;obtain ⟨u,hu,_,_,_,hup⟩:=UO (a:=a) (b:=b) hw;exact ⟨u,hu,by rw [hup,hwp,if_neg e]⟩
 . obtain ⟨z,hz,_,_,har,_⟩:=mJ hi;rw [MH];exact h.ar i z hz c (har ▸ hc)
theorem Rep.uni {l c:List Nd} (h:Rep l c) {a b:Nat} {x xb y:Nd} (ha:l[a]?=some x) (hx:x.p=a) (hb:l[b]?=some xb) (hxb:xb.p=b) (hab:a≠b) (hy:c[a]?=some y):Rep (P6 a b l) (c.set a { y with p:=b}):=by
 obtain ⟨d,hd⟩:=h.rk;have hil:a < c.length:=(AG.1 hy).1;refine ⟨by simp [h.len,MH],fun j u w hu hw=>?_,fun j=>(if (l[j]?.map Nd.p)=some a then d j+d b+1 else d j),fun j u w hu hw=>?_⟩
 . obtain ⟨v,hv,h1,h2,h3,_⟩:=mJ hu;rw [h1,h2,h3];by_cases e:a=j
   . subst e;rw [BI hil] at hw;cases hw;exact h.sh a v y hv hy
   . rw [BG e] at hw;exact h.sh j v w hv hw
 . obtain ⟨v,hv,_,_,_,hup⟩:=mJ hu;by_cases e:a=j
   . subst e;rw [BI hil] at hw;cases hw;rw [ha] at hv;cases hv;rw [if_pos hx] at hup;right;obtain ⟨u',hu',_,_,_,hup'⟩:=UO (a:=a) (b:=b) hb;refine ⟨A9 hab,by rw [hup];exact A9 hab,?_,u',hu',by rw [hup',hxb,if_neg (A9 hab),hup]⟩;simp only [ha,hb,Ah,AL,hx,hxb,if_true,if_neg (A9 hab)];omega
   . rw [BG e] at hw;rcases hd j v w hv hw with ⟨h1,h2⟩|⟨h1,h2,h3,z,hz,hzp⟩
     . left;have:¬v.p=a:=fun e'=>e (by omega);rw [hup,if_neg this];exact ⟨h1,h2⟩
     . right;obtain ⟨u',hu',_,_,_,hup'⟩:=UO (a:=a) (b:=b) hz;refine ⟨h1,?_,?_,u',hu',by rw [hup',hup,hzp]⟩
       . rw [hup];split
         . rename_i e';intro eb;subst eb;rw [hb] at hv;cases hv;omega
         . exact h2
       . simp only [hv,hz,Ah,AL,hzp];split<;>omega
theorem Rep.root {l c:List Nd} (h:Rep l c) {i:Nat} {x y:Nd} (hx:l[i]?=some x) (hy:c[i]?=some y) (e:x.p=i):y.p=i:=by
 obtain ⟨d,hd⟩:=h.rk;rcases hd i x y hx hy with ⟨h1,_⟩|⟨_,h2,_⟩
 . exact h1
 . exact absurd e h2
structure SN (σ:AI) (i:Nat) (l:List Nd) (fl:Bool) (rest:List AV) (j:Nat):Prop where
 blk:σ.blk i=some (ndV l j::.d (.bool fl)::rest)
 HM:FM l
 nd:l≠[]->j≠i/\∃c,Rep l c/\σ.blk j=some (ndC c)
structure Fr (σ:AI) (i:Nat) (l:List Nd) (j:Nat) (σ':AI) (l':List Nd) (j':Nat):Prop where
 blk:∀k,k≠i->(l≠[]->k≠j)->σ.blk k≠none->σ'.blk k=σ.blk k
 ii:σ.blk i≠none->σ'.blk i≠none
 nw:l'≠[]->(l≠[]/\j'=j)\/σ.blk j'=none
 gt:σ'.gt=σ.gt
 tok:∀t,σ.tok t=true->σ'.tok t=true
 bt:∀k x,σ.bt k=some x->σ'.bt k=some x
theorem Fr.refl (σ:AI) (i:Nat) (l:List Nd) (j:Nat):Fr σ i l j σ l j:=⟨fun _ _ _ _=>rfl,fun h=>h,fun h=>.inl ⟨h,rfl⟩,rfl,fun _ h=>h,fun _ _ h=>h⟩
theorem Fr.trans {σ σ' σ'':AI} {i j j' j'':Nat} {l l' l'':List Nd} (h:Fr σ i l j σ' l' j') (k:Fr σ' i l' j' σ'' l'' j'') (hi:σ.blk i≠none):Fr σ i l j σ'' l'' j'':=by
 have hk:∀x,x≠i->(l≠[]->x≠j)->σ.blk x≠none->(l'≠[]->x≠j'):=fun x hx hxj hn hl e=>by
  rcases h.nw hl with ⟨a,b⟩|a
  . exact hxj a (e.trans b)
  . rw [<- e] at a;exact hn a
 refine ⟨fun x hx hxj hn=>?_,fun h'=>k.ii (h.ii h'),fun hl=>?_,k.gt.trans h.gt,fun t ht=>k.tok t (h.tok t ht),fun y z hz=>k.bt y z (h.bt y z hz)⟩
 . have e:=h.blk x hx hxj hn;rw [k.blk x hx (hk x hx hxj hn) (by rw [e];exact hn),e]
 . rcases k.nw hl with ⟨a,rfl⟩|a
   . exact h.nw a
   . by_cases hl0:l≠[]/\j''=j
     . exact .inl hl0
     . right;cases hb:σ.blk j'' with
       |none=>rfl
       |some cs=>
        exfalso;by_cases e:j''=i
        . subst e;exact h.ii hi a
        . have:=h.blk j'' e (fun hl' e'=>hl0 ⟨hl',e'⟩) (by rw [hb];simp);rw [a,hb] at this;cases this
end Go.Ab
namespace Go.Ab
def rtN (l:List Nd) (a:Nat):Nat:=((l[a]?).map Nd.p).getD 0
theorem MA {l:List Nd} {i:Nat} {x:Nd} (h:l[i]?=some x):rtN l i=x.p:=by simp [rtN,h]
def LY (l:List Nd) (k n:Int) (ar:List Nat):List Nd:=l++[⟨k,n,ar,l.length⟩]
theorem Hp (l:List Nd) (k n:Int) (ar:List Nat):(LY l k n ar).length=l.length+1:=by simp [LY]
theorem tX {α:Type} {p q:α->Bool}:∀ {l:List α},(∀x∈l,q x=true->p x=true)->∀ {a:α},a∈l->p a=true->q a=false->l.countP q < l.countP p
 |x::l,h,a,ha,hp,hq=>by
  rw [GH,GH];have hm:l.countP q<=l.countP p:=List.countP_mono_left fun y hy e=>h y (AR _ hy) e;rcases Ar.1 ha with rfl|ha
  . rw [hp,hq];simp;omega
  . have:=tX (fun y hy=>h y (AR _ hy)) ha hp hq;have hx:=h x (AS);cases hqx:q x
    . simp;omega
    . rw [hx hqx];simp;omega
def rts (l:List Nd):Nat:=(BA l.length).countP fun i=>decide (rtN l i=i)
theorem O7 (l:List Nd):rts l<=l.length:=by
 have:=V7 (p:=fun i=>decide (rtN l i=i)) (l:=BA l.length);simpa [rts] using this
theorem ARU {l:List Nd} {a:Nat} {x:Nd} (h:l[a]?=some x) (hx:x.p=a):0 < rts l:=by
 unfold rts;rw [List.countP_pos_iff];exact ⟨a,CJ.2 (AG.1 h).1,by simp [MA h,hx]⟩
theorem AG7 {l:List Nd} {a b:Nat} {x xb:Nd} (ha:l[a]?=some x) (hx:x.p=a) (hb:l[b]?=some xb) (hxb:xb.p=b) (hab:a≠b):rts (P6 a b l) < rts l:=by
 unfold rts;rw [MH];refine tX (fun i hi e=>?_) (a:=a) (CJ.2 (AG.1 ha).1) (by simp [MA ha,hx]) ?_
 . have hi':=CJ.1 hi;have hl:l[i]?=some l[i]:=by simp [hi']
   obtain ⟨z,hz,_,_,_,hp⟩:=UO (a:=a) (b:=b) hl;simp only [decide_eq_true_eq] at e ⊢;rw [MA hz,hp] at e;rw [MA hl];split at e
   . rename_i e';subst e;rw [hb] at hl;have:xb=l[b]:=by simpa using hl
     rw [<- this] at e';omega
   . exact e
 . obtain ⟨z,hz,_,_,_,hp⟩:=UO (a:=a) (b:=b) ha;rw [MA hz,hp,if_pos hx];simpa using fun e=>hab e.symm
abbrev SS:=List Nd×Bool
def LH:Nat->SS->Nat->Nat->SS
 |0,s,_,_=>s
 |k+1,s,a,b=>
  if rtN s.1 a=rtN s.1 b then s else
  match s.1[rtN s.1 a]?,s.1[rtN s.1 b]? with
  |some x,some y=>
   if x.k=0 then (P6 (rtN s.1 a) (rtN s.1 b) s.1,s.2)
                                   else if y.k=0 then (P6 (rtN s.1 b) (rtN s.1 a) s.1,s.2)
                                   else if x.k=y.k/\x.n=y.n/\x.ar.length=y.ar.length then (x.ar.zip y.ar).foldl (fun s p=>LH k s p.1 p.2) (P6 (rtN s.1 a) (rtN s.1 b) s.1,s.2)
                                   else (s.1,true)
  |_,_=>s
theorem gO {α:Type} (f:SS->α->SS) (h:∀s x,(f s x).1.length=s.1.length):∀(l:List α) (s:SS),(l.foldl f s).1.length=s.1.length
 |[],s=>rfl
 |x::l,s=>by rw [Ao,gO f h l,h]
theorem jC:∀(k:Nat) (s:SS) (a b:Nat),(LH k s a b).1.length=s.1.length
 |0,s,a,b=>rfl
 |k+1,s,a,b=>by
  rw [LH];split
  . rfl
  . split
    . split
      . exact MH _ _ _
      . split
        . exact MH _ _ _
        . split
          . rw [gO (fun (s:SS) (x:Nat×Nat)=>LH k s x.1 x.2) (fun s x=>jC k s x.1 x.2)];exact MH _ _ _
          . rfl
    . rfl
def uni (s:SS) (a b:Nat):SS:=LH s.1.length s a b
theorem yL (s:SS) (a b:Nat):(uni s a b).1.length=s.1.length:=jC _ _ _ _
mutual
def FU (ar:List Nat):List Nd->Ty->Nat×List Nd
 |l,.mk k n us=>if k=4 then (ar.getD n.toNat 0,l) else let r:=Bh ar l us;(r.2.length,LY r.2 k n r.1)
def Bh (ar:List Nat):List Nd->List Ty->List Nat×List Nd
 |l,[]=>([],l)
 |l,t::ts=>let r:=FU ar l t;let q:=Bh ar r.2 ts;(r.1::q.1,q.2)
end
def G2 (l:List Nd):Nat->List Nd
 |0=>l
 |n+1=>LY (G2 l n) 0 0 []
theorem Kq (l:List Nd):∀n,(G2 l n).length=l.length+n
 |0=>rfl
 |n+1=>by rw [G2,Hp,Kq l n];omega
mutual
def VY (n:Nat):Ty->Bool
 | .mk k m us=>if k=4 then decide (0<=m/\m < (n:Int)) else MJ n us
def MJ (n:Nat):List Ty->Bool
 |[]=>true
 |t::ts=>VY n t&&MJ n ts
end
theorem UP {n:Nat}:∀ {ts:List Ty},MJ n ts=true->∀t∈ts,VY n t=true
 |t::ts,h,u,hu=>by
  rw [MJ,AO] at h;rcases Ar.1 hu with rfl|hu
  . exact h.1
  . exact UP h.2 u hu
structure AVJ (l m:List Nd) (c:Nat):Prop where
 le:l.length<=m.length
 hi:m.length<=l.length+c
mutual
theorem dZ (ar:List Nat):∀(l:List Nd) (t:Ty),AVJ l (FU ar l t).2 t.size
 |l,.mk k n us=>by
  rw [FU];split
  . exact ⟨AW _,by simp⟩
  . have h:=Mv ar l us;refine ⟨?_,?_⟩
    . simp only [Hp];have:=h.le;omega
    . simp only [Hp,Ty.size];have:=h.hi;omega
theorem Mv (ar:List Nat):∀(l:List Nd) (ts:List Ty),AVJ l (Bh ar l ts).2 (Ty.AU ts)
 |l,[]=>⟨AW _,by simp [Bh]⟩
 |l,t::ts=>by
  have h1:=dZ ar l t;have h2:=Mv ar (FU ar l t).2 ts;simp only [Bh];exact ⟨Ap h1.le h2.le,by have:=h1.hi;have:=h2.hi;simp only [Ty.AU];omega⟩
end
theorem Mw (ar:List Nat):∀(l:List Nd) (ts:List Ty),(Bh ar l ts).1.length=ts.length
 |l,[]=>rfl
 |l,t::ts=>by simp only [Bh,A1,Mw ar _ ts]
mutual
theorem oT {ar:List Nat}:∀ {l:List Nd} {t:Ty},VY ar.length t=true->(∀a∈ar,a < l.length)->(FU ar l t).1 < (FU ar l t).2.length
 |l,.mk k n us,h,ha=>by
  rw [VY] at h;rw [FU];split
  . rename_i hk;rw [if_pos hk] at h;simp only [decide_eq_true_eq] at h;have hn:n.toNat < ar.length:=by omega
    simp only [Ac,BB hn,BC];exact ha _ (H8 hn)
  . simp only [Hp];omega
theorem Yc {ar:List Nat}:∀ {l:List Nd} {ts:List Ty},MJ ar.length ts=true->(∀a∈ar,a < l.length)->∀a∈(Bh ar l ts).1,a < (Bh ar l ts).2.length
 |l,[],h,ha,a,hm=>by simp [Bh] at hm
 |l,t::ts,h,ha,a,hm=>by
  rw [MJ,AO] at h;have h1:=oT h.1 ha;have hle:=(dZ ar l t).le;have hle2:=(Mv ar (FU ar l t).2 ts).le;simp only [Bh,Ar] at hm ⊢;rcases hm with rfl|hm
  . omega
  . exact Yc h.2 (fun b hb=>by have:=ha b hb;omega) a hm
end
theorem jS (ar:List Nat) (t:Ty):∀(ts:List Ty) (l:List Nd),Bh ar l (ts++[t])=((Bh ar l ts).1++[(FU ar (Bh ar l ts).2 t).1],(FU ar (Bh ar l ts).2 t).2)
 |[],l=>rfl
 |u::ts,l=>by
  rw [AZ,Bh];simp only [jS ar t ts];simp only [Bh,AZ]
end Go.Ab
namespace Go.Ab
open Go.Proofs
theorem AA8 (l:List Nd) (j:Nat):(ndV l j).B8=true/\(ndV l j).BE=true/\(ndV l j).cells=[ndV l j]/\(∀k,(ndV l j).BV k=false)/\Tx (ndV l j)=some (.d (.int .i64 l.length)):=by
 cases l<;>exact ⟨rfl,rfl,rfl,fun _=>rfl,rfl⟩
theorem Dp (σ:AI) (i k:Nat):(σ.E1 i).blk k=if k=i then none else σ.blk k:=rfl
theorem Pm.nd {K:C6} {F:Fm} {L:Lm} {σ:AI} {d:Option Nat} {i j bytes:Nat} {l:List Nd} {fl:Bool} {rest:List AV} {x:AV} {k n:Int} {ar:List Nat} (h:SN σ i l fl rest j)
 (hx:x.rows=some [[.int .i64 k,.int .i64 n,.sl (ar.map By),.int .i64 (l.length:Int)]]) (hl:l.length<=900000000) (ha:∀a∈ar,a < l.length) (hb:bytes<=10000)
 (hK:∀j' τ,τ.blk i=some (ndV l j::.d (.bool fl)::rest)->SN (τ.AP i (.ms j' (l.length+1) 4 tkN::.d (.bool fl)::rest)) i (LY l k n ar) fl rest j'->
   Fr σ i l j (τ.AP i (.ms j' (l.length+1) 4 tkN::.d (.bool fl)::rest)) (LY l k n ar) j'->K (BS d (.ms j' (l.length+1) 4 tkN) F) L τ):Pm tkN 4 bytes (ndV l j) x d K F L σ:=by
 have hbi:=h.blk;have hne:LY l k n ar≠[]:=by simp [LY]
 have hV:∀j',ndV (LY l k n ar) j'= .ms j' (l.length+1) 4 tkN:=fun j'=>by rw [FH hne,Hp]
 by_cases hl0:l=[]
 . subst hl0;refine Pm.mk (n:=0) (cs:=[]) (σ1:=σ) rfl hx (by simp) (by simp) (by simp) hb (fun j' hj=>?_);have hji:j'≠i:=fun e=>by rw [e,hbi] at hj;cases hj
   refine hK j' _ (by rw [AK,if_neg (A9 hji)];exact hbi) ⟨by rw [AK,if_pos rfl,hV],h.HM.add k n ar ha,fun _=>⟨hji,_,Rep.nil.add k n ar,?_⟩⟩ ⟨fun k' hk _ hn=>?_,fun _=>by simp [AK],fun _=>.inr hj,rfl,fun _ h=>h,fun _ _ h=>h⟩
   . rw [AK,if_neg hji,AK,if_pos rfl];simp [Es,ndC,Nd.row]
   . rw [AK,if_neg hk,AK,if_neg (fun e=>hn (by rw [e];exact hj))]
 . obtain ⟨hji0,c,hrep,hbj⟩:=h.nd hl0;rw [FH hl0];refine Pm.mk (n:=l.length) (cs:=ndC c) (σ1:=σ.E1 j) (by simp [Oc,hbj,VD,hrep.len]) hx (by simp) (by simp) (by simp;omega) hb (fun j' hj=>?_);have hji:j'≠i:=fun e=>by rw [e,hbi] at hj;cases hj
   refine hK j' _ (by rw [AK,if_neg (A9 hji),Dp,if_neg (A9 hji0)];exact hbi) ⟨by rw [AK,if_pos rfl,hV],h.HM.add k n ar ha,fun _=>⟨hji,_,hrep.add k n ar,?_⟩⟩ ⟨fun k' hk hkj hn=>?_,fun _=>by simp [AK],fun _=>.inr hj,rfl,fun _ h=>h,fun _ _ h=>h⟩
   . rw [AK,if_neg hji,AK,if_pos rfl,AQ7];simp [Es,ndC,Nd.row]
   . rw [AK,if_neg hk,AK,if_neg (fun e=>hn (by rw [e];exact hj)),Dp,if_neg (hkj hl0)]
def SNQ (σ:AI) (i:Nat) (l:List Nd) (rest:List AV) (j:Nat) (s:SS) (v0:AV) (v:AV) (σ':AI):Prop:=v=v0/\∃j',SN σ' i s.1 s.2 rest j'/\Fr σ i l j σ' s.1 j'
def nA (n:Nat):AV:= .d (.int .i64 (n:Int))
structure SB (v:AV) (rows:List (List DV)):Prop where
 dv:v.dv=some (.sl rows)
 cell:v.B8=true
 BE:v.BE=true
 cells:v.cells=[v]
 BV:∀k,v.BV k=false
theorem SB.d (rows:List (List DV)):SB (.d (.sl rows)) rows:=⟨rfl,rfl,rfl,rfl,fun _=>rfl⟩
theorem SB.Ae:SB .Ae []:=⟨rfl,rfl,rfl,rfl,fun _=>rfl⟩
theorem KI (i j:Nat) (l:List Nd) (fl:Bool) (rest:List AV) (σ:AI) (k n:Int) (v:AV) (ar:List Nat) (h:SN σ i l fl rest j) (hv:SB v (ar.map By)) (ha:∀a∈ar,a < l.length) (hl:l.length<=900000000):
 AT Tzp 90 [.gp i 0,.agg [.d (.int .i64 k),.d (.int .i64 n),v]] σ (SNQ σ i l rest j (LY l k n ar,fl) (nA l.length)):=by
 have hbi:=h.blk;obtain ⟨c1,c2,c3,c4,c5⟩:=AA8 l j;refine ZT (by simp) ?_;rw [BK];(repeat' ((first|refine wQ mxQ rfl ?_|refine Run.qP Jc ?_|fail)<;>try simp only [hbi,c1,c2,c3,c4,c5,hv.dv,hv.cell,hv.BE,hv.cells,hv.BV,go_sem]));refine Pm.nd h rfl hl ha (by omega) (fun j' τ h1 h2 h3=>?_);simp only [h1,go_sem];(repeat' ((first|refine wQ mxQ rfl ?_|refine Run.qP Jc ?_|fail)<;>try simp only [go_sem]));exact ⟨rfl,j',h2,h3⟩
theorem GR (i j:Nat) (l:List Nd) (fl:Bool) (rest:List AV) (σ:AI) (h:SN σ i l fl rest j) (hl:l.length<=900000000):
 AT Tzp 55 [.gp i 0] σ (SNQ σ i l rest j (LY l 0 0 [],fl) (nA l.length)):=by
 refine WI (by simp) ?_;rw [Bq];(repeat' ((first|refine wQ mxQ rfl ?_|refine Run.qP IC ?_|fail)<;>try simp only [go_sem]));refine AH.mk rfl (KI i j l fl rest σ 0 0 .Ae [] h SB.Ae (by simp) hl) ?_;rintro _ σ' ⟨rfl,j',h2,h3⟩;simp only [nA];simp only [go_sem];(repeat' ((first|refine wQ mxQ rfl ?_|refine Run.qP IC ?_|fail)<;>try simp only [go_sem]));exact ⟨rfl,j',h2,h3⟩
theorem Bs (i j:Nat) (l:List Nd) (fl:Bool) (rest:List AV) (σ:AI) (k:Int) (v:AV) (ar:List Nat) (h:SN σ i l fl rest j) (hv:SB v (ar.map By)) (ha:∀a∈ar,a < l.length) (hl:l.length<=900000000):
 AT Tzp 93 [.gp i 0,.d (.int .i64 k),v] σ (SNQ σ i l rest j (LY l k 0 ar,fl) (nA l.length)):=by
 refine Xd (by simp) ?_;rw [Dm];(repeat' ((first|refine wQ mxQ rfl ?_|refine Run.qP Im ?_|fail)<;>try simp only [hv.cell,hv.BE,hv.cells,hv.BV,go_sem]));refine AH.mk (by simp [hv.BE,AV.BE]) (KI i j l fl rest σ k 0 v ar h hv ha hl) ?_;rintro _ σ' ⟨rfl,j',h2,h3⟩;simp only [nA];simp only [go_sem];(repeat' ((first|refine wQ mxQ rfl ?_|refine Run.qP Im ?_|fail)<;>try simp only [go_sem]));exact ⟨rfl,j',h2,h3⟩
theorem SN.same {σ σ':AI} {i j:Nat} {l:List Nd} {fl:Bool} {rest:List AV} (h:SN σ i l fl rest j):∀ {l':List Nd},l'=l->SN σ i l' fl rest j:=fun e=>by rw [e];exact h
theorem ltT {a b:Nat} (h:a < b):((a:Int) < (b:Int))=True:=by simp [h]
theorem AF7 {c:List Nd} {n:Nat} {y:Nd} (h:c[n]?=some y) (p:Nat):(ndC c).take (n * 4+3)++[.d (.int .i64 (p:Int))]++(ndC c).drop (n * 4+3+1)=ndC (c.set n { y with p:=p}):=by
 induction c generalizing n with
 |nil=>simp at h
 |cons x c ih=>
  cases n with
  |zero=>
   simp only [BM,AL] at h;subst h;rfl
  |succ n=>
   have:=ih (n:=n) (by simpa using h);simp only [CU];rw [show ndC (x::c)=x.row++ndC c from by simp [ndC],show ndC (x::c.set n { y with p:=p})=x.row++ndC (c.set n { y with p:=p}) from by simp [ndC],<- this,show (n+1) * 4+3=x.row.length+(n * 4+3) from by simp [Nd.row];omega];rw [aC,show x.row.length+(n * 4+3)+1=x.row.length+(n * 4+3+1) from by omega,HX];simp
theorem HS (i j:Nat) (l:List Nd) (fl:Bool) (rest:List AV) (σ:AI) (n:Nat) (h:SN σ i l fl rest j) (hn:n < l.length) (hl:l.length<=900000000):
 AT Tzp 60 [.gp i 0,nA n] σ (SNQ σ i l rest j (l,fl) (nA (rtN l n))):=by
 have hl0:l≠[]:=fun e=>by rw [e] at hn;cases hn
 refine Xc (by simp) ?_;rw [BK];simp only [nA];(repeat' (refine wQ mxQ rfl ?_<;>try simp only [go_sem]));refine Run.At ?_;obtain ⟨hji,c0,hrep0,hbj0⟩:=h.nd hl0;obtain ⟨d0,hd0⟩:=hrep0.rk
 refine Run.Au ((fun (a0:AV)=>fun (y:Nat×List Nd×AI×(Nat->Nat))=>put 0 a0 (put 1 (.d (.int .i64 y.1)) U)) _) (fun _=>E) (fun y=>y.2.2.1)
  (fun y=>y.1 < l.length/\rtN l y.1=rtN l n/\Rep l y.2.1/\y.2.2.1.blk j=some (ndC y.2.1)/\y.2.2.1.blk i=σ.blk i/\(∀k,k≠i->k≠j->y.2.2.1.blk k=σ.blk k)/\y.2.2.1.gt=σ.gt/\y.2.2.1.tok=σ.tok/\y.2.2.1.bt=σ.bt/\
    RK y.2.2.2 l y.2.1)
  (fun y=>y.2.2.2 y.1) ?_ (n,c0,σ,d0) ⟨hn,rfl,hrep0,hbj0,rfl,fun _ _ _=>rfl,rfl,rfl,rfl,hd0⟩
 rintro ⟨m,c,τ,d⟩ ⟨hm,hrt,hrep,hbj,hbi,hoth,hgt,htok,hbt,hd⟩ ih;simp only at hm hrt hrep hbj hbi hoth hgt htok hbt hd;rw [h.blk,FH hl0] at hbi;obtain ⟨y,hy,hyk⟩:=hrep.at (show l[m]?=some l[m] by simp [hm]);obtain ⟨y1,y2,y3,y4⟩:=Sl hy;have hlt:=ltT hm;have hcase:=hd m _ y (show l[m]?=some l[m] by simp [hm]) hy;by_cases hpm:y.p=m
 . have hb:((y.p:Int) != (m:Int))=false:=by simp [hpm]
   (repeat' ((first|refine wQ mxQ rfl ?_|refine Run.qP Nm ?_|fail)<;>try simp only [hbi,hbj,y4,hlt,hb,go_sem]))
   have hr:rtN l n=m:=by
    rw [<- hrt,MA (show l[m]?=some l[m] by simp [hm])];rcases hcase with h1|h1
    . exact h1.2
    . exact absurd hpm h1.1
   refine ⟨by rw [hr],j,⟨by rw [hbi,FH hl0],h.HM,fun _=>⟨hji,c,hrep,hbj⟩⟩,⟨fun k hk hkj _=>hoth k hk (hkj hl0),fun _=>by rw [hbi];simp,fun _=>.inl ⟨hl0,rfl⟩,hgt,fun t ht=>by rw [htok];exact ht,fun k x hx=>by rw [hbt];exact hx⟩⟩
 . have hb:((y.p:Int) != (m:Int))=true:=by simpa using fun e=>hpm (by omega)
   obtain ⟨z0,hz0,hzp⟩:=(hcase.resolve_left (fun h1=>hpm h1.1)).2.2.2;obtain ⟨z,hz,_⟩:=hrep.at hz0;have hpl:y.p < l.length:=(AG.1 hz0).1;obtain ⟨_,_,_,z4⟩:=Sl hz;have hlp:=ltT hpl;have hmc:m < c.length:=by rw [hrep.len];exact hm
   have hrep':=hrep.AGO hy hpm hz;have hy':(c.set m { y with p:=z.p})[m]?=some { y with p:=z.p}:=by simp [hmc]
   obtain ⟨_,_,_,w4⟩:=Sl hy';have hsi:∀cs,(τ.AP j cs).blk i=some (AV.ms j l.length 4 tkN::AV.d (DV.bool fl)::rest):=fun cs=>by rw [AK,if_neg (A9 hji),hbi]
   have hsj:∀cs,(τ.AP j cs).blk j=some cs:=fun cs=>B0;have hle:(m * 4+3+1<=(ndC c).length)=True:=by rw [VD,hrep.len];simp;omega
   have hwr:=AF7 hy z.p;(repeat' (refine wQ mxQ rfl ?_<;>try simp only [hbi,hbj,y4,hlt,hb,hlp,z4,hsi,hsj,w4,hle,hwr,go_sem]));refine ih ⟨z.p,c.set m { y with p:=z.p},τ.AP j (ndC (c.set m { y with p:=z.p})),d⟩ ⟨?_,?_,hrep',B0,by rw [AK,if_neg (A9 hji),hbi,h.blk,FH hl0],fun k hk hkj=>by rw [AK,if_neg hkj,hoth k hk hkj],hgt,htok,hbt,hd.AGO hy hpm hz⟩ ?_
   . rcases hd _ z0 z hz0 hz with ⟨h1,_⟩|⟨_,_,_,u,hu,_⟩
     . simp only;rw [h1];exact hpl
     . exact (AG.1 hu).1
   . simp only;rw [<- hrt,MA (show l[m]?=some l[m] by simp [hm])];rcases hd _ z0 z hz0 hz with ⟨h1,h2⟩|⟨_,_,_,u,hu,hup⟩
     . rw [h1,MA hz0,hzp]
     . rw [MA hu,hup,hzp]
   . simp only;have h1:=(hcase.resolve_left (fun h1=>hpm h1.1)).2.2.1;rcases hd _ z0 z hz0 hz with ⟨h2,_⟩|⟨_,_,h3,_⟩
     . rw [h2];exact h1
     . omega
end Go.Ab
