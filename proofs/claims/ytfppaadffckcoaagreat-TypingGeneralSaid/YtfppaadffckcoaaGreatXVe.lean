/- Part Ve. Conditions: none. -/
import Derived.Test.YtfppaadffckcoaaGreatXSv
set_option linter.unusedSimpArgs false
set_option linter.unusedVariables false
set_option maxRecDepth 100000
set_option maxHeartbeats 40000000
open Go.Proofs.Tryz renaming prog→Tzp
open Except.ok renaming injEq→EH
open Except renaming map→CW
open List renaming mem_cons→As,getElem?_eq_some_iff→AF,length_map→AA,take_append_drop→Ac,mem_of_getElem?→AD,length_nil→By,replicate→AE,length_cons→A0,length_replicate→UM,length_pos_iff→Xi,contains_iff_mem→Ai,take_of_length_le→AO,getElem?_map→Ao,map_cons→AG,map_nil→AN,getElem?_take→B3,getElem?_drop→BJ,all_cons→Bf,all_nil→Fq,drop_of_length_le→HG,nil_append→Aj,cons_append→AX,mem_cons_self→AW,mem_cons_of_mem→AU,getD_eq_getElem?_getD→A6,flatMap_cons→DD,mem_append→AY,getElem?_append_left→BH,length_drop→E5,getElem?_append_right→At,getElem?_cons_zero→Av,append_nil→BX,append_assoc→B4,length_append→A1,mem_singleton→A3,take→Gd,drop→FC,eq_nil_of_length_eq_zero→Ay,drop_zero→Re,drop_drop→Eu,all_eq_true→Aq,length_take→Bi,mem_of_mem_take→DP,sum_cons→Et,mem_map_of_mem→Xj,getElem?_set→BZ,ext_getElem?→Ev,set_eq_take_append_cons_drop→AFG,replicate_succ→BV,flatten_cons→BK,range→Au,filter_append→P1,length_filter_le→L3,length_set→Kf,map_append→B2,length_singleton→C1,getElem?_set_self→BE,getElem?_set_ne→BC,countP_cons→Fk,countP_le_length→UL,mem_range→Bz,foldl_cons→An,getElem?_eq_getElem→Aw,getElem_mem→HR,set_cons_succ→CH,take_length_add_append→YJ,drop_length_add_append→HF
open Nat renaming zero_add→BU,mul_one→A2,strongRecOn→FT,lt_or_ge→Cl,le_refl→AR,add_sub_cancel_left→QF,zero_mul→NO,min_eq_left→Gg,le_trans→Ah,add_zero→Bw
open Bool renaming and_false→CG,not_false→JI,and_true→Be,true_or→NK,false_and→DO,true_and→BW,and_self→L1,and_eq_true→AQ,not_not→NJ,eq_iff_iff→Ax,or_eq_true→DY,false_or→ED,false_eq_true→AZ,or_false→L2
open Option renaming map_eq_some_iff→AL,isSome_some→Cn,isSome_none→Cm,bind_eq_bind→AP,bind_eq_some_iff→AB,isSome_iff_exists→dV,map_some→Ad,getD_some→Az
open Int renaming reduceBEq→Aa,reduceToNat→PZ
open Ne renaming symm→A5
open Option.some renaming injEq→AK
open Prod.mk renaming injEq→B9
namespace Go.Ab
open Go.Proofs
def nK (dt:List Dat) (σ:AH) (xs:List (Nat×Nat)) (v:AV) (τ:AH):Prop:=
 (xs=[]/\v= .Af/\τ=σ)\/(xs≠[]/\∃k e,σ.blk k=none/\v= .ms k (Mz dt (HV xs)) 1 e/\τ=σ.AM k (BL (flg xs (HV xs) (Mz dt (HV xs)))))
theorem nK.le {dt:List Dat} {σ τ:AH} {xs:List (Nat×Nat)} {v:AV} (h:nK dt σ xs v τ):σ.le τ:=by
 rcases h with ⟨_,_,rfl⟩|⟨_,k,e,hk,_,rfl⟩
 . exact AH.le_refl _
 . exact CF hk
theorem uF {dt:List Dat} {d:Nat} {x:Dat} (h:dt[d]?=some x):Mz dt d=x.cons.length:=by simp [Mz,h]
theorem nN {dt:List Dat}:∀ {l:List Al} {xs:List (Nat×Nat)},D5 dt l= .ok xs->∀x∈xs,x.2 < Mz dt x.1
 |[],xs,h=>by simp only [D5,EH] at h;subst h;simp
 | .mk c vs b::l,xs,h=>by
  rw [D5] at h;cases hc:Em dt c with
  |none=>rw [hc] at h;cases h
  |some x=>
   rw [hc] at h;simp only at h;split at h
   . cases h
   . split at h
     . cases h
     . cases hl:D5 dt l with
       |error e=>rw [hl] at h;cases h
       |ok ys=>
        rw [hl] at h;simp only [CW,EH] at h;subst h;intro y hy;rcases As.1 hy with rfl|hy
        . obtain ⟨d,cc,h1,h2,_⟩:=Wi hc;rw [uF h1];exact (AF.1 h2).1
        . exact nN hl y hy
theorem AJ2:exB []=true:=rfl
theorem Vc {xs:List (Nat×Nat)} (h:xs≠[]) (y:Nat×Nat):HV (xs++[y])=HV xs:=by
 cases xs with
 |nil=>exact absurd rfl h
 |cons x l=>rfl
theorem AJJ (ds:List DE) (fs:List FE) (dt:List Dat) (hdt:lN dt) (al:List Al) (σ:AH) (hal:al.length<=1000000):
 AS Tzp 80 [.agg [.d (.sl (ds.map DE.enc)),.d (.sl (fs.map FE.enc)),.d (.sl (dt.map Dat.enc))],.d (.sl (al.map Al.enc))] σ (fun v σ'=>v= .d (.int .i64 (VK dt al))/\σ'=σ):=by
 refine Vk (by simp) ?_;rw [BS];(repeat' (refine wQ mxQ rfl ?_<;>try simp only [AA,go_sem]));refine Run.BB ?_
 refine Run.BG ((fun (a2:AV) (a13:AV) (a14:AV)=>fun (y:Nat×List (Nat×Nat)×AV×AH)=>put 2 a2 (put 5 (.d (.bool (exB y.2.1))) (put 6 (.d (.int .i64 (HV y.2.1))) (put 7 (y.2.2.1) (put 13 a13 (put 14 a14 (put 15 (.d (.int .i64 y.1)) U))))))) _ _ _) (fun _=>Ar 2 [.d (.sl (ds.map DE.enc)),.d (.sl (fs.map FE.enc)),.d (.sl (dt.map Dat.enc))] E) (fun y=>y.2.2.2)
  (fun y=>y.1<=al.length/\y.2.1.length=y.1/\D5 dt (al.take y.1)= .ok y.2.1/\nK dt σ y.2.1 y.2.2.1 y.2.2.2) (fun y=>al.length - y.1) ?_ (0,[],.Af,σ) ⟨by simp,rfl,rfl,.inl ⟨rfl,rfl,rfl⟩⟩
 rintro ⟨i,xs,sv,τ⟩ ⟨hi,hlx,hok,hseen⟩ ih;simp only at hi hlx hok hseen;by_cases hlt:i < al.length
 . obtain ⟨a,ha⟩:=Ak hlt;have he:=BR (enc:=Al.enc) ha;have hw1:=A7 (show i+1<=9000000000000000000 by omega)
   have hall:D5 dt al=(D5 dt (a::al.drop (i+1))).map (xs++·):=by
    conv=>lhs;rw [<- Ac i al,Bv ha]
    exact YL dt _ hok
   have hsn:D5 dt (al.take (i+1))=(D5 dt [a]).map (xs++·):=by
    rw [Ae ha];exact YL dt _ hok
   obtain ⟨c,vs,o,n,u,ns,ks,aa⟩:=a;rw [D5] at hall hsn;simp only [Al.A4] at he;have hctr:=Ke dt hdt c τ;rw [dsA] at hctr;have herr:∀e:Int,D5 dt al= .error e->VK dt al=e:=fun e h=>by rw [VK,h]
   cases hc:Em dt c with
   |none=>
    rw [hc] at hctr hall;simp only [iB] at hctr;(repeat' ((first|refine wQ mxQ rfl ?_|(refine Run.CK CP hseen.le ?_)|refine AJ.det (hctr) ?_|fail)<;>try simp only [Ag hlt,he,go_sem]));rw [herr 3 (by rw [hall];rfl)]
   |some x=>
   rw [hc] at hctr hall hsn;simp only [iB] at hctr hall hsn;obtain ⟨d,cc,h1,h2,_⟩:=Wi hc;have har:=iC (s:=[]) h1 h2;have hn:=uF h1;have hdl:=hdt d (AD h1);have hkn:x.2 < d.cons.length:=(AF.1 h2).1;have hd:=Wj h1;have hcc:=Wf h2;rw [har] at hall hsn;have hix:X6 (.d (.int .i64 (x.1:Int)))=some x.1:=by simp [X6]
   by_cases hA:vs.length≠cc.args.length
   . rw [if_pos hA] at hall;have hA':((vs.length:Int) != (cc.args.length:Int))=true:=by rw [AFQ];simpa using hA
     (repeat' ((first|refine wQ mxQ rfl ?_|(refine Run.CK CP hseen.le ?_)|refine AJ.det (hctr) ?_|fail)<;>try simp only [Ag hlt,he,hd,hcc,AA,B0,hA',go_sem]));rw [herr 5 (by rw [hall];rfl)]
   rw [if_neg hA] at hall hsn;have hA':((vs.length:Int) != (cc.args.length:Int))=false:=by rw [AFQ];simpa using hA
   have hrep:=Q0 vs τ;cases hB:Cy vs with
   |true=>
    rw [hB] at hrep hall;rw [if_pos rfl] at hall;(repeat' ((first|refine wQ mxQ rfl ?_|(refine Run.CK CP hseen.le ?_)|refine AJ.det (hctr) ?_|refine AJ.det (hrep) ?_|fail)<;>try simp only [Ag hlt,he,hd,hcc,AA,B0,hA',go_sem]));rw [herr 4 (by rw [hall];rfl)]
   |false=>
   rw [hB] at hrep hsn;rw [if_neg (by simp)] at hsn;simp only [D5,CW] at hsn;rw [show xs++[x]=xs++[(x.1,x.2)] from rfl] at hsn;have hgo:∀(sv':AV) (τ':AH),nK dt σ (xs++[(x.1,x.2)]) sv' τ'->_:=fun sv' τ' h=>ih (i+1,xs++[(x.1,x.2)],sv',τ') ⟨by simp only;omega,by simp [hlx],hsn,h⟩ (by simp only;omega);simp only at hgo;have hx2:((x.2:Int) < ((d.cons.length:Nat):Int))=True:=by simp only [eq_iff_iff,iff_true];omega
   rcases hseen with ⟨rfl,rfl,rfl⟩|⟨hne,k,e,hk,rfl,rfl⟩
   . -- the first alternative
     have h0:((i:Int)==0)=true:=by
      simp only [By] at hlx;subst hlx;rfl
     have hself:((x.1:Int) != (x.1:Int))=false:=by simp
     have hget:=Gs (l:=AE d.cons.length false) (k:=x.2) (x:=false) (by simp [hkn]);have w1:=ZM (l:=AE d.cons.length false) (k:=x.2) true (by simpa using hkn);simp only [wr,A0,By,BU] at w1;have d1:(x.2+(0+1)<=(BL (AE d.cons.length false)).length)=True:=by rw [O2,UM];simp;omega
     have hlast:∀k e,τ.blk k=none->nK dt τ ([]++[(x.1,x.2)]) (.ms k d.cons.length 1 e) (τ.AM k (BL ((AE d.cons.length false).set x.2 true))):=fun k e hk=>by
      refine .inr ⟨by simp,k,e,hk,by rw [show HV ([]++[(x.1,x.2)])=x.1 from rfl,hn],?_⟩;rw [show HV ([]++[(x.1,x.2)])=x.1 from rfl,hn,<- AKG x.1,AAY hkn]
     have e1:exB ([]++[(x.1,x.2)])=true:=by simp [exB]
     rw [e1,show HV ([]++[(x.1,x.2)])=x.1 from rfl] at hgo;clear hall hsn ih herr;(repeat' ((first|refine wQ mxQ rfl ?_|(refine Nz.mk d.cons.length (by omega) (by omega) (fun k hk=>?_))|refine AJ.det (hctr) ?_|refine AJ.det (hrep) ?_|fail)<;>try simp only [Ag hlt,he,hd,hcc,hw1,AA,B0,hA',h0,hself,hx2,hget,w1,d1,A2,Wd,AJ2,go_sem]));exact hgo _ _ (hlast _ _ (by assumption))
   . have h0:((i:Int)==0)=false:=by
      have:=Xi.2 hne;simp only [beq_eq_false_iff_ne,ne_eq];omega
     have hex:=AGB hne x.1 x.2;rw [Vc hne,hex] at hgo
     have hsame:(x.1≠HV xs\/(HV xs,x.2)∈xs)->nK dt σ (xs++[(x.1,x.2)]) (.ms k (Mz dt (HV xs)) 1 e) (σ.AM k (BL (flg xs (HV xs) (Mz dt (HV xs))))):=fun h=>by
      refine .inr ⟨by simp,k,e,hk,by rw [Vc hne],?_⟩;rw [Vc hne,AGP h]
     clear hall hsn ih herr;by_cases hf:x.1=HV xs
     . have hself:((x.1:Int) != (HV xs:Int))=false:=by simp [hf]
       have hself':(x.1 != HV xs)=false:=by simpa using hf
       have hnf:Mz dt (HV xs)=d.cons.length:=by rw [<- hf];exact hn
       rw [hnf] at hsame hctr hrep ⊢;have hget:=Gs (fY xs (f:=HV xs) hkn);cases hfl:xs.contains (HV xs,x.2) with
       |true=>
        rw [hfl] at hget;rw [hself',hfl,Bool.or_true,Bool.not_true,CG] at hgo;(repeat' ((first|refine wQ mxQ rfl ?_|refine AJ.det (hctr) ?_|refine AJ.det (hrep) ?_|fail)<;>try simp only [Ag hlt,he,hd,hcc,hw1,AA,B0,hA',h0,hself,hx2,hget,A2,go_sem]));exact hgo _ _ (hsame (.inr (Ai.1 hfl)))
       |false=>
        rw [hfl] at hget;rw [hself',hfl,Bool.or_self,JI,Be] at hgo;have w1:=ZM (l:=flg xs (HV xs) d.cons.length) (k:=x.2) true (by rw [QO];exact hkn);simp only [wr,A0,By,BU] at w1;have d1:(x.2+(0+1)<=(BL (flg xs (HV xs) d.cons.length)).length)=True:=by rw [O2,QO];simp;omega
        (repeat' ((first|refine wQ mxQ rfl ?_|refine AJ.det (hctr) ?_|refine AJ.det (hrep) ?_|fail)<;>try simp only [Ag hlt,he,hd,hcc,hw1,AA,B0,hA',h0,hself,hx2,hget,w1,d1,A2,go_sem]));refine hgo _ _ (.inr ⟨by simp,k,e,hk,by rw [Vc hne,hnf],?_⟩);rw [Vc hne,hnf,AAY hkn,<- hf]
     . have hself:((x.1:Int) != (HV xs:Int))=true:=by simp only [bne_iff_ne,ne_eq];omega
       have hself':(x.1 != HV xs)=true:=by simpa using hf
       rw [hself',NK,Bool.not_true,CG] at hgo;(repeat' ((first|refine wQ mxQ rfl ?_|refine AJ.det (hctr) ?_|refine AJ.det (hrep) ?_|fail)<;>try simp only [Ag hlt,he,hd,hcc,hw1,AA,B0,hA',h0,hself,A2,go_sem]));exact hgo _ _ (hsame (.inl hf))
 . rw [AO (by omega)] at hok;have hres:VK dt al=if iH dt xs then 0 else 7:=by rw [VK,hok]
   rcases hseen with ⟨rfl,rfl,rfl⟩|⟨hne,k,e,hk,rfl,rfl⟩
   . (repeat' ((first|refine wQ mxQ rfl ?_|refine Run.qP CP ?_|refine AJ.det (dT false _) ?_|fail)<;>try simp only [Bk hlt,show exB []=true from rfl,go_sem]));rw [hres];rfl
   . have hbd:=nN hok;have hend:=ACJ (dt:=dt) hne (fun x hx h=>by rw [<- h];exact hbd x hx)
     have hnl:Mz dt (HV xs)<=1000000:=by
      unfold Mz;split
      . rename_i d hd;exact hdt d (AD hd)
      . omega
     have hcb:=aG (flg xs (HV xs) (Mz dt (HV xs))) false k e (σ.AM k (BL (flg xs (HV xs) (Mz dt (HV xs))))) (by simp only [AI,if_true]) (by rw [QO];omega);rw [QO] at hcb;cases hB:exB xs with
     |false=>
      rw [hB,DO] at hend;(repeat' ((first|refine wQ mxQ rfl ?_|(refine Run.CK CP (CF hk) ?_)|fail)<;>try simp only [Bk hlt,hB,go_sem]));rw [hres,hend];rfl
     |true=>
      rw [hB,BW] at hend;cases hC:(flg xs (HV xs) (Mz dt (HV xs))).any (fun x=>false==x) with
      |true=>
       rw [hC] at hcb hend;(repeat' ((first|refine wQ mxQ rfl ?_|(refine Run.CK CP (CF hk) ?_)|refine AJ.det (hcb) ?_|fail)<;>try simp only [Bk hlt,hB,go_sem]));rw [hres,hend];rfl
      |false=>
       rw [hC] at hcb hend;(repeat' ((first|refine wQ mxQ rfl ?_|(refine Run.CK CP (CF hk) ?_)|refine AJ.det (hcb) ?_|fail)<;>try simp only [Bk hlt,hB,go_sem]));rw [hres,hend];rfl
end Go.Ab
namespace Go.Ab
open Go.Proofs
def AAZ (e:Ex):Prop:=(e.op=4->e.name≠[])/\(e.op=12->∃h t,e.kids=h::t/\(h.op=4->h.name≠[]))/\e.alts.length<=1000000/\e.kids.length<=1000000
theorem AA2 (o:Option Nat):decide (Hm o < 0)=o.isNone:=by
 cases o with
 |none=>rfl
 |some i=>exact decide_eq_false (by simp only [Hm];omega)
theorem O4 {s:Str}:∀ {l:List Str} {i:Nat},DK l s=some i->l[i]?=some s
 |[],i,h=>by simp [DK] at h
 |x::l,i,h=>by
  rw [DK] at h;split at h
  . rename_i hx;cases h;simpa using hx
  . simp only [AL] at h;obtain ⟨k,hk,rfl⟩:=h;simpa using O4 hk
theorem oG {fs:List FE} {s:Str} {i:Nat} (h:DK (DN fs) s=some i):∃g,fs[i]?=some g/\g.name=s:=by
 have:=O4 h;rw [DN,Ao,AL] at this;exact this
theorem AG4:((0:Int)<=0)=True:=by simp
theorem UB (fs:List FE) (dt:List Dat) (o:Int) (n:Str) (u:Int) (ns:List Str) (ks:List Ex) (al:List Al) (sc:List Str):PV fs dt (.mk o n u ns ks al) sc=
 if o=4 then (if !sc.contains n&&(DK (DN fs) n).isNone then 3 else 0)
                                       else if o=6 then
  match Em dt n with
  |none=>3
  |some x=>if ks.length≠arity dt x then 5 else 0
            else if o=8\/o=11 then (if Cy ns then 4 else 0)
            else if o=10 then VK dt al
            else if o=12 then
  match ks.head? with
  |none=>0
  |some h=>if h.op=4&& !sc.contains h.name then
   (match DK (DN fs) h.name with
   |none=>0
   |some f=>match fs[f]? with
    |some g=>if g.params.length+1≠ks.length then 5 else 0
    |none=>0) else 0
            else 0:=rfl
theorem AI7 (ds:List DE) (fs:List FE) (dt:List Dat) (hdt:lN dt) (e:Ex) (sc:List Str) (hg:AAZ e) (σ:AH):
 AS Tzp 49 [.agg [.d (.sl (ds.map DE.enc)),.d (.sl (fs.map FE.enc)),.d (.sl (dt.map Dat.enc))],exA e,.d (bdL sc)] σ (fun v σ'=>v= .d (.int .i64 (PV fs dt e sc))/\σ'=σ):=by
 obtain ⟨o,n,u,ns,ks,al⟩:=e;obtain ⟨hg4,hg12,hgal,hgk⟩:=hg;simp only [Ex.op,Ex.name,Ex.kids,Ex.alts] at hg4 hg12 hgal hgk;refine Ue (by simp) ?_;rw [D6,exA,Ex.A4];have hfun:=fun s=>Vd ⟨ds,fs⟩ s σ;simp only [pgA,Pg.enc,AG,AN] at hfun;have hctr:=Ke dt hdt n σ;rw [dsA] at hctr;by_cases h4:o=4
 . subst h4
   have hv:PV fs dt (.mk 4 n u ns ks al) sc=if !sc.contains n&&(DK (DN fs) n).isNone then 3 else 0:=by
    rw [UB,if_pos rfl]
   have hh:=qA sc n (hg4 rfl) σ;have hf:=hfun n;cases h1:sc.contains n with
   |true=>
    rw [h1] at hh;(repeat' ((first|refine wQ mxQ rfl ?_|refine Run.qP BD ?_|refine AJ.det (hh) ?_|fail)<;>try simp only [Aa,go_sem]));rw [hv,h1];rfl
   |false=>
    rw [h1] at hh;cases h2:(DK (DN fs) n).isNone with
    |true=>
     (repeat' ((first|refine wQ mxQ rfl ?_|refine Run.qP BD ?_|refine AJ.det (hh) ?_|refine AJ.det (hf) ?_|fail)<;>try simp only [Aa,AA2,h2,go_sem]));rw [hv,h1,h2];rfl
    |false=>
     (repeat' ((first|refine wQ mxQ rfl ?_|refine Run.qP BD ?_|refine AJ.det (hh) ?_|refine AJ.det (hf) ?_|fail)<;>try simp only [Aa,AA2,h2,go_sem]));rw [hv,h1,h2];rfl
 by_cases h6:o=6
 . subst h6
   have hv:PV fs dt (.mk 6 n u ns ks al) sc=match Em dt n with|none=>3|some x=>if ks.length≠arity dt x then 5 else 0:=by
    rw [UB,if_neg (show ¬(6:Int)=4 by decide),if_pos rfl]
    all_goals rfl
   cases hc:Em dt n with
   |none=>
    rw [hc] at hctr hv;simp only [iB] at hctr;(repeat' ((first|refine wQ mxQ rfl ?_|refine Run.qP BD ?_|refine AJ.det (hctr) ?_|fail)<;>try simp only [Aa,go_sem]));rw [hv]
   |some x=>
    rw [hc] at hctr hv;simp only [iB] at hctr;obtain ⟨d,cc,h1,h2,_⟩:=Wi hc;have har:=iC (s:=[]) h1 h2;have hd:=Wj h1;have hcc:=Wf h2;have hb:=AFQ ks.length cc.args.length;cases hne:(ks.length != cc.args.length) with
    |true=>
     rw [hne] at hb;(repeat' ((first|refine wQ mxQ rfl ?_|refine Run.qP BD ?_|refine AJ.det (hctr) ?_|fail)<;>try simp only [Aa,hd,hcc,AA,B0,hb,go_sem]));rw [hv];simp only;rw [if_pos (by rw [har];simpa using hne)]
    |false=>
     rw [hne] at hb;(repeat' ((first|refine wQ mxQ rfl ?_|refine Run.qP BD ?_|refine AJ.det (hctr) ?_|fail)<;>try simp only [Aa,hd,hcc,AA,B0,hb,go_sem]));rw [hv];simp only;rw [if_neg (by rw [har];simpa using hne)]
 by_cases h8:o=8\/o=11
 . have hv:PV fs dt (.mk o n u ns ks al) sc=if Cy ns then 4 else 0:=by
    rw [UB,if_neg (show ¬o=4 from h4),if_neg (show ¬o=6 from h6),if_pos (show o=8\/o=11 from h8)]
    all_goals rfl
   have hrep:=Q0 ns σ;cases hB:Cy ns with
   |true=>
    rw [hB] at hrep hv;rcases h8 with rfl|rfl
    all_goals (repeat' ((first|refine wQ mxQ rfl ?_|refine Run.qP BD ?_|refine AJ.det (hrep) ?_|fail)<;>try simp only [Aa,go_sem]))
    all_goals (rw [hv];rfl)
   |false=>
    rw [hB] at hrep hv;rcases h8 with rfl|rfl
    all_goals (repeat' ((first|refine wQ mxQ rfl ?_|refine Run.qP BD ?_|refine AJ.det (hrep) ?_|fail)<;>try simp only [Aa,go_sem]))
    all_goals (rw [hv];rfl)
 by_cases h10:o=10
 . subst h10
   have hv:PV fs dt (.mk 10 n u ns ks al) sc=VK dt al:=by
    rw [UB,if_neg (show ¬(10:Int)=4 by decide),if_neg (show ¬(10:Int)=6 by decide),if_neg (show ¬((10:Int)=8\/(10:Int)=11) by decide),if_pos rfl]
    all_goals rfl
   (repeat' ((first|refine wQ mxQ rfl ?_|refine Run.qP BD ?_|refine AJ.det (AJJ ds fs dt hdt al σ hgal) ?_|fail)<;>try simp only [Aa,go_sem]));rw [hv]
 by_cases h12:o=12
 . subst h12;obtain ⟨h,t,rfl,hh4⟩:=hg12 rfl;have hlen:(h::t).length=t.length+1:=rfl;obtain ⟨xo,xn,xu,xs,xk,xa⟩:=h
   have hv:PV fs dt (.mk 12 n u ns (.mk xo xn xu xs xk xa::t) al) sc=if decide (xo=4)&& !sc.contains xn then (match DK (DN fs) xn with|none=>0|some f=>match fs[f]? with|some g=>if g.params.length+1≠t.length+1 then 5 else 0|none=>0) else 0:=by
    rw [UB,if_neg (show ¬(12:Int)=4 by decide),if_neg (show ¬(12:Int)=6 by decide),if_neg (show ¬((12:Int)=8\/(12:Int)=11) by decide),if_neg (show ¬(12:Int)=10 by decide),if_pos rfl]
    all_goals rfl
   simp only [Ex.op,Ex.name] at hh4;generalize hw:PV fs dt (.mk 12 n u ns (.mk xo xn xu xs xk xa::t) al) sc=w at hv ⊢;clear hw;have hf:=hfun xn;by_cases hx4:xo=4
   . subst hx4;have hh:=qA sc xn (hh4 rfl) σ;cases h1:sc.contains xn with
     |true=>
      rw [h1] at hh hv;(repeat' ((first|refine wQ mxQ rfl ?_|refine Run.qP BD ?_|refine AJ.det (hh) ?_|fail)<;>try simp only [Aa,AG,Ex.A4,PZ,AG4,go_sem]));rw [hv];rfl
     |false=>
      rw [h1] at hh hv;cases hi:DK (DN fs) xn with
      |none=>
       rw [hi] at hf hv;simp only [Hm] at hf;have hneg:decide ((0:Int)<=-1)=false:=by decide
       (repeat' ((first|refine wQ mxQ rfl ?_|refine Run.qP BD ?_|refine AJ.det (hh) ?_|refine AJ.det (hf) ?_|fail)<;>try simp only [Aa,AG,Ex.A4,PZ,AG4,hneg,go_sem]));rw [hv];rfl
      |some f=>
       rw [hi] at hf hv;simp only [Hm] at hf;obtain ⟨g,hgf,_⟩:=oG hi;have hge:=BR (enc:=FE.enc) hgf;simp only at hv;rw [hgf] at hv;obtain ⟨gn,gp,go,gn2,gu,gns,gk,ga⟩:=g;simp only [FE.enc,Ex.A4] at hge;have hpos:decide ((0:Int)<=(f:Int))=true:=by simp
       have hsub:IntKind.i64.wrap (((t.length+1:Nat):Int) - 1)=(t.length:Int):=PW (by simp only [A0] at hgk;omega);have hb:=AFQ t.length gp.length;simp only [JI,Be,decide_true,if_true] at hv;cases hne:(t.length != gp.length) with
       |true=>
        rw [hne] at hb;(repeat' ((first|refine wQ mxQ rfl ?_|refine Run.qP BD ?_|refine AJ.det (hh) ?_|refine AJ.det (hf) ?_|fail)<;>try simp only [Aa,AG,Ex.A4,PZ,AG4,hpos,hge,A0,AA,hsub,hb,go_sem]));rw [hv,if_pos (by simp only [bne_iff_ne,ne_eq] at hne;omega)]
       |false=>
        rw [hne] at hb;(repeat' ((first|refine wQ mxQ rfl ?_|refine Run.qP BD ?_|refine AJ.det (hh) ?_|refine AJ.det (hf) ?_|fail)<;>try simp only [Aa,AG,Ex.A4,PZ,AG4,hpos,hge,A0,AA,hsub,hb,go_sem]));rw [hv,if_neg (by simp only [bne_eq_false_iff_eq] at hne;omega)]
   . have hxf:=Cr hx4;(repeat' ((first|refine wQ mxQ rfl ?_|refine Run.qP BD ?_|fail)<;>try simp only [Aa,AG,Ex.A4,PZ,AG4,hxf,go_sem]));rw [hv,decide_eq_false hx4];rfl
 . have hv:PV fs dt (.mk o n u ns ks al) sc=0:=by
    rw [UB,if_neg (show ¬o=4 from h4),if_neg (show ¬o=6 from h6),if_neg (show ¬(o=8\/o=11) from h8),if_neg (show ¬o=10 from h10),if_neg (show ¬o=12 from h12)]
   simp only [not_or] at h8;(repeat' ((first|refine wQ mxQ rfl ?_|refine Run.qP BD ?_|fail)<;>try simp only [Cr h4,Cr h6,Cr h8.1,Cr h8.2,Cr h10,Cr h12,go_sem]));rw [hv]
end Go.Ab
namespace Go.Ab
open Go.Proofs
def SlV (v:AV) (rows:List (List DV)):Prop:=v= .d (.sl rows)\/(∃t e s,v= .own t e s rows)\/(rows=[]/\v= .Af)
theorem SlV.BF {v:AV} {rows:List (List DV)} (h:SlV v rows):v.BF=true:=by
 rcases h with rfl|⟨t,e,s,rfl⟩|⟨rfl,rfl⟩<;>rfl
theorem SlV.cell {v:AV} {rows:List (List DV)} (h:SlV v rows):v.B5=true:=by
 rcases h with rfl|⟨t,e,s,rfl⟩|⟨rfl,rfl⟩<;>rfl
theorem SlV.len {v:AV} {rows:List (List DV)} (h:SlV v rows):S4 v=some (.d (.int .i64 rows.length)):=by
 rcases h with rfl|⟨t,e,s,rfl⟩|⟨rfl,rfl⟩<;>rfl
theorem SlV.ix {v:AV} {rows:List (List DV)} (h:SlV v rows) {i:Nat} {r:List DV} (hr:rows[i]?=some r):ixA v (.d (.int .i64 (i:Int))) r.length=some (.ep r 0):=by
 rcases h with rfl|⟨t,e,s,rfl⟩|⟨rfl,rfl⟩
 . simp [ixA,ixR,hr]
 . simp [ixA,ixR,hr]
 . simp at hr
theorem SlV.plain {v:AV} {rows:List (List DV)} (h:SlV v rows):v.plain= .d (.sl rows):=by
 rcases h with rfl|⟨t,e,s,rfl⟩|⟨rfl,rfl⟩<;>simp only [AV.plain]
theorem SlV.dv {v:AV} {rows:List (List DV)} (h:SlV v rows):v.dv=some (.sl rows):=by
 rcases h with rfl|⟨t,e,s,rfl⟩|⟨rfl,rfl⟩<;>rfl
def Kg (cs:List AV) (dl:List Dat):Prop:=cs.length=dl.length * 3/\∀i d,dl[i]?=some d->∃cv,(cs.drop (i * 3)).take 3=[.d (.str d.name),.d (.int .i64 d.vars),cv]/\SlV cv (d.cons.map Con.enc)
theorem Kg.at {cs:List AV} {dl:List Dat} (h:Kg cs dl) {i:Nat} {d:Dat} (hd:dl[i]?=some d):
 ∃cv,(cs.drop (i * 3)).take 3=[.d (.str d.name),.d (.int .i64 d.vars),cv]/\SlV cv (d.cons.map Con.enc)/\cs[i * 3]?=some (.d (.str d.name))/\cs[i * 3+1]?=some (.d (.int .i64 d.vars))/\cs[i * 3+2]?=some cv/\(i * 3+3<=cs.length)=True:=by
 obtain ⟨cv,h1,h2⟩:=h.2 i d hd;have hi:=(AF.1 hd).1
 have g:∀k,k < 3->cs[i * 3+k]?=([.d (.str d.name),.d (.int .i64 d.vars),cv]:List AV)[k]?:=fun k hk=>by
  rw [<- h1,B3,if_pos hk,BJ]
 refine ⟨cv,h1,h2,g 0 (by omega),g 1 (by omega),g 2 (by omega),?_⟩;rw [h.1];simp;omega
def DlS (τ:AH) (dl:List Dat) (v:AV):Prop:=(dl=[]/\v= .Af)\/(∃jd e cs,v= .ms jd dl.length 3 e/\τ.blk jd=some cs/\Kg cs dl)
theorem DlS.len {τ:AH} {dl:List Dat} {v:AV} (h:DlS τ dl v):S4 v=some (.d (.int .i64 dl.length)):=by
 rcases h with ⟨rfl,rfl⟩|⟨jd,e,cs,rfl,_,_⟩<;>rfl
theorem DlS.BF {τ:AH} {dl:List Dat} {v:AV} (h:DlS τ dl v):v.BF=true:=by
 rcases h with ⟨rfl,rfl⟩|⟨jd,e,cs,rfl,_,_⟩<;>rfl
theorem DlS.le {τ τ':AH} {dl:List Dat} {v:AV} (h:DlS τ dl v) (hl:τ.le τ'):DlS τ' dl v:=by
 rcases h with ⟨rfl,rfl⟩|⟨jd,e,cs,rfl,hb,hr⟩
 . exact .inl ⟨rfl,rfl⟩
 . exact .inr ⟨jd,e,cs,rfl,hl.blk _ _ hb,hr⟩
theorem ZF {fid:FuncId} {caps:List AV} (hb:CQ Tzp fid=true) (hcp:caps.all AV.BF=true) (p:Dat->Bool) (l:List Dat) (v:AV) (σ:AH) (hl:l.length<=1000000) (hv:DlS σ l v)
 (hf:∀d∈l,∀cv,cv.BF=true->cv.B5=true->AS Tzp fid (.agg [.d (.str d.name),.d (.int .i64 d.vars),cv]::caps) σ (fun v σ'=>v= .d (.bool (p d))/\σ'=σ)):
 AS Tzp 118 [v,.fn fid [] caps] σ (fun v σ'=>v= .d (.int .i64 (Hm (l.findIdx? p)))/\σ'=σ):=by
 refine OL (by simp) ?_;rw [BS];have hlen:=hv.len;rcases hv with ⟨rfl,rfl⟩|⟨jd,e,cs,rfl,hbk,hrows⟩
 . have h0:decide ((0:Int) < 0)=false:=by decide
   (repeat' ((first|refine wQ mxQ rfl ?_|refine Run.qP DZ ?_|(refine Run.loop ?_)|fail)<;>try simp only [h0,go_sem]));rfl
 (repeat' (refine wQ mxQ rfl ?_<;>try simp only [go_sem]));refine Run.BB ?_;refine Run.BG ((fun (a0:AV) (a1:AV) (a7:AV)=>fun (i:Nat)=>put 0 a0 (put 1 a1 (put 7 a7 (put 8 (.d (.int .i64 i)) U)))) _ _ _) (fun _=>E) (fun _=>σ) (fun i=>i<=l.length/\∀x∈l.take i,p x=false) (fun i=>l.length - i) ?_ 0 ⟨by simp,by simp⟩;rintro i ⟨hi,hno⟩ ih;by_cases hlt:i < l.length
 . obtain ⟨x,hx⟩:=Ak hlt;obtain ⟨cv,h1,h2,_,_,_,h3⟩:=hrows.at hx;have hix:((i:Int) < (l.length:Int))=True:=by simp;omega
   have hw1:=A7 (show i+1<=9000000000000000000 by omega);have hc:=hf x (AD hx) cv h2.BF h2.cell;cases hp:p x with
   |true=>
    rw [hp] at hc;(repeat' ((first|refine wQ mxQ rfl ?_|refine Run.qP DZ ?_|(refine ⟨fid,[],caps,rfl,hb,AJ.det hc ?_ (by simp [hcp,Ep,DX])⟩)|fail)<;>try simp only [Ag hlt,hix,hbk,h1,h3,hw1,go_sem]));rw [EJ hno hx hp];rfl
   |false=>
    rw [hp] at hc;(repeat' ((first|refine wQ mxQ rfl ?_|(refine ⟨fid,[],caps,rfl,hb,AJ.det hc ?_ (by simp [hcp,Ep,DX])⟩)|fail)<;>try simp only [Ag hlt,hix,hbk,h1,h3,hw1,go_sem]));exact ih (i+1) ⟨by omega,GO hno hx hp⟩ (by omega)
 . (repeat' ((first|refine wQ mxQ rfl ?_|refine Run.qP DZ ?_|fail)<;>try simp only [Bk hlt,go_sem]));rw [AO (by omega)] at hno;rw [EL hno];rfl
theorem ACS (s nm:Str) (n:Int) (cv:AV) (hcv:cv.B5=true) (j:Nat) (σ:AH) (hj:σ.blk j=some [.d (.str s)]):AS Tzp 119 [.agg [.d (.str nm),.d (.int .i64 n),cv],.gp j 0] σ (fun v σ'=>v= .d (.bool (nm==s))/\σ'=σ):=by
 refine SJ (by simp) ?_;rw [BS];(repeat' ((first|refine wQ mxQ rfl ?_|refine Run.qP KI ?_|fail)<;>try simp only [hj,Bh,hcv,go_sem]))
def Lu (l:List Dat):List Str:=l.map (·.name)
theorem tP (l:List Dat) (s:Str):l.findIdx? (fun x=>x.name==s)=DK (Lu l) s:=by
 rw [<- SR,Lu,List.findIdx?_map];rfl
theorem AAX (l:List Dat) (dv:AV) (rest:List AV) (jr:Nat) (s:Str) (σ:AH) (hl:l.length<=1000000) (hb:σ.blk jr=some (dv::rest)) (hv:DlS σ l dv):
 AS Tzp 85 [.gp jr 0,.d (.str s)] σ (fun v σ'=>v= .d (.int .i64 (Hm (DK (Lu l) s)))/\σ'=σ):=by
 refine Uf (by simp) ?_;rw [BS];(repeat' (first|refine ctQ rfl ?_|((first|refine rgQ mxQ ?_|refine cdQ ?_)<;>try simp only [go_sem])|fail));intro j hj;have hle:=CF (cs:=[AV.d (.str s)]) hj;have hcell:dv.B5=true:=by rcases hv with ⟨_,rfl⟩|⟨jd,e,cs,rfl,_,_⟩<;>rfl
 have hne:jr≠j:=fun e=>by rw [e,hj] at hb;cases hb
 have hc:=ZF (fid:=119) (caps:=[.gp j 0]) (by kernel_rfl) rfl (fun x=>x.name==s) l dv (σ.AM j [.d (.str s)]) hl (hv.le hle) (fun d _ cv _ h2=>ACS s d.name d.vars cv h2 j _ (by simp only [AI,if_true]));rw [tP] at hc;have hnl:=hv.BF;(repeat' ((first|refine wQ mxQ rfl ?_|(refine AJ.mk (by simp only [Bf,Fq,hnl,fZ,L1]) hc ?_;rintro _ _ ⟨rfl,rfl⟩)|(refine Run.CK Lb (σ2:=σ) hle ?_)|fail)<;>try simp only [hne,hb,hcell,go_sem]))
def jA (t:TE) (s:Str):Bool:=match t with| .mk k n _=>k==4&&n==s
theorem fD (t:TE) (s:Str) (σ:AH):AS Tzp 148 [teA t,.d (.str s)] σ (fun v σ'=>v= .d (.bool (jA t s))/\σ'=σ):=by
 refine Ml (by simp) ?_;rw [BS];obtain ⟨k,n,l⟩:=t;simp only [TE.A4,teA,AG,AN];(repeat' (first|refine ctQ rfl ?_|(refine ZC (by first|exact GV.t|exact GV.f|exact GV.st|exact GV.sf) ⟨?_,fun h=>?_,?_⟩;rotate_left;(focus ((try simp only [AQ,NJ] at h);simp only [Bh,go_sem];first|exact Is.mk|exact Is.pv (by simp only [h,YD,↓Dd,↓GM,↓De,Bh,go_sem];rfl)));(try simp only [Ds,Fu,Fv,↓Dd,↓GM,↓De,Bh,Gz,go_sem]))|((first|refine rgQ mxQ ?_|refine cdQ ?_|refine Run.qP HM ?_)<;>try simp only [Ds,Fu,Fv,↓Dd,↓GM,↓De,Bh,go_sem])|fail));rfl
theorem LD (t:TE) (l:List TE) (s:Str) (vs:List Str):GL (t::l) (s::vs)=(jA t s&&GL l vs):=by cases t;rfl
theorem dK:∀ {l:List TE} {vs:List Str},l.length≠vs.length->GL l vs=false
 |[],[],h=>absurd rfl h
 |[],v::vs,_=>rfl
 |t::l,[],_=>by cases t;rfl
 |t::l,v::vs,h=>by rw [LD,dK (by simpa using h),CG]
theorem pK (l:List TE) (vs:List Str) (σ:AH) (hl:l.length<=1000000):AS Tzp 147 [.d (.sl (l.map TE.enc)),.d (.sl (vs.map Bb)),.fn 148 [] []] σ (fun v σ'=>v= .d (.bool (GL l vs))/\σ'=σ):=by
 refine Pf (by simp) ?_;rw [D6];have hb:=AFQ l.length vs.length;cases hne:(l.length != vs.length) with
 |true=>
  rw [hne] at hb;(repeat' ((first|refine wQ mxQ rfl ?_|refine Run.qP Dr ?_|fail)<;>try simp only [AA,hb,go_sem]));rw [dK (by simpa using hne)]
 |false=>
 rw [hne] at hb;have hlen:l.length=vs.length:=by simpa using hne
 (repeat' (refine wQ mxQ rfl ?_<;>try simp only [AA,hb,go_sem]));refine Run.BB ?_;refine Run.BG ((fun (a1:AV) (a2:AV) (a15:AV) (a16:AV)=>fun (i:Nat)=>put 1 a1 (put 2 a2 (put 15 a15 (put 16 a16 (put 17 (.d (.int .i64 i)) U))))) _ _ _ _) (fun _=>E) (fun _=>σ) (fun i=>i<=l.length/\GL l vs=GL (l.drop i) (vs.drop i)) (fun i=>l.length - i) ?_ 0 ⟨by simp,rfl⟩;rintro i ⟨hi,hok⟩ ih;by_cases hlt:i < l.length
 . obtain ⟨x,hx⟩:=Ak hlt;obtain ⟨s,hs⟩:=Ak (show i < vs.length by omega);have he:=BR (enc:=TE.enc) hx;have he2:=BR (enc:=Bb) hs;simp only [Bb] at he2;have hw1:=A7 (show i+1<=9000000000000000000 by omega);have hc:=fD x s σ;rw [Bv hx,Bv hs,LD] at hok;cases hp:jA x s with
   |true=>
    rw [hp] at hc hok;obtain ⟨xk,xn,xl⟩:=x;simp only [TE.A4,teA,AG,AN] at he hc;(repeat' ((first|refine wQ mxQ rfl ?_|(refine ⟨_,[],[],rfl,by kernel_rfl,AJ.det hc ?_⟩)|fail)<;>try simp only [Ag hlt,he,he2,hw1,go_sem]));exact ih (i+1) ⟨by omega,hok⟩ (by omega)
   |false=>
    rw [hp] at hc hok;obtain ⟨xk,xn,xl⟩:=x;simp only [TE.A4,teA,AG,AN] at he hc;(repeat' ((first|refine wQ mxQ rfl ?_|refine Run.qP Dr ?_|(refine ⟨_,[],[],rfl,by kernel_rfl,AJ.det hc ?_⟩)|fail)<;>try simp only [Ag hlt,he,he2,hw1,go_sem]));rw [hok];rfl
 . (repeat' ((first|refine wQ mxQ rfl ?_|refine Run.qP Dr ?_|fail)<;>try simp only [Bk hlt,go_sem]));rw [HG (by omega),HG (by omega)] at hok;rw [hok];rfl
theorem mW (l:List TE) (dv:AV) (nm:Str) (vs:List Str) (cs:List CE) (jr:Nat) (σ:AH) (hl:l.length<=1000000) (hb:σ.blk jr=some [dv,.d (.str nm),.d (.sl (vs.map Bb)),.d (.sl (cs.map CE.enc))]):
 AS Tzp 120 [.gp jr 0,.d (.sl (l.map TE.enc))] σ (fun v σ'=>v= .d (.bool (GL l vs))/\σ'=σ):=by
 refine OK (by simp) ?_;rw [BS];(repeat' ((first|refine wQ mxQ rfl ?_|refine Run.qP Hw ?_|refine AJ.det (pK l vs σ hl) ?_|fail)<;>try simp only [hb,go_sem]))
end Go.Ab
namespace Go.Ab
open Go.Proofs
def WN:Except Int Ty->AV
 | .ok t=>.tup [tyA t,.d (.int .i64 0)]
 | .error e=>.tup [.agg [.d (.int .i64 0),.d (.int .i64 0),.d (.sl [])],.d (.int .i64 e)]
theorem Sa (ds:List (Str×Nat)) (vars:List Str) (m:List TE):∀ {l:List TE} {us:List Ty},Cv ds vars l= .ok us->Cv ds vars (l++m)=(Cv ds vars m).map (us++·)
 |[],us,h=>by
  simp only [Cv,EH] at h;subst h;simp only [Aj];cases Cv ds vars m<;>rfl
 |t::l,us,h=>by
  rw [Cv] at h;rw [AX,Cv];cases ht:JF ds vars false t with
  |error e=>rw [ht] at h;cases h
  |ok u=>
   rw [ht] at h;simp only at h ⊢;cases hl:Cv ds vars l with
   |error e=>rw [hl] at h;cases h
   |ok ys=>
    rw [hl] at h;simp only [CW,EH] at h;subst h;rw [Sa ds vars m hl];cases Cv ds vars m<;>rfl
theorem Zt {ds:List (Str×Nat)} {vars:List Str}:(∀(t:TE) (whole:Bool) (e:Int),JF ds vars whole t= .error e->e≠0):=by
 intro t
 induction h:t.size using FT generalizing t with
 |_ N ih=>
 subst h;obtain ⟨k,n,l⟩:=t
 have hl:∀(l':List TE),(∀x∈l',x.size < (TE.mk k n l).size)->∀e,Cv ds vars l'= .error e->e≠0:=by
  intro l'
  induction l' with
  |nil=>intro _ e h;cases h
  |cons x l' ihl=>
   intro hx e h;rw [Cv] at h;cases hxe:JF ds vars false x with
   |error e'=>rw [hxe] at h;cases h;exact ih x.size (hx x (AW ..)) x rfl false _ hxe
   |ok u=>
    rw [hxe] at h;cases hle:Cv ds vars l' with
    |error e'=>rw [hle] at h;cases h;exact ihl (fun y hy=>hx y (AU _ hy)) _ hle
    |ok us=>rw [hle] at h;cases h
 have hsz:∀x∈l,x.size < (TE.mk k n l).size:=fun x hx=>by
  have:=TE.JD hx;simp only [TE.size];omega
 have hmap:∀(num:Int) e,(Cv ds vars l).map (Ty.mk k num)= .error e->e≠0:=fun num e h=>by
  cases hle:Cv ds vars l with
  |error e'=>rw [hle] at h;cases h;exact hl l hsz _ hle
  |ok us=>rw [hle] at h;cases h
 intro whole e h;rw [JF] at h;split at h
 . split at h
   . cases h;decide
   . exact hmap _ _ h
 . split at h
   . split at h
     . cases h;decide
     . split at h
       . cases h;decide
       . split at h
         . cases h;decide
         . exact hmap _ _ h
   . exact hmap _ _ h
def Fl (dl:List Dat):List (Str×Nat):=dl.map fun d=>(d.name,d.vars.toNat)
def RB (τ:AH) (jr:Nat) (dl:List Dat) (nm:Str) (vars:List Str) (cs:List CE):Prop:=∃dv,τ.blk jr=some [dv,.d (.str nm),.d (.sl (vars.map Bb)),.d (.sl (cs.map CE.enc))]/\DlS τ dl dv
theorem RB.le {τ τ':AH} {jr:Nat} {dl:List Dat} {nm:Str} {vars:List Str} {cs:List CE} (h:RB τ jr dl nm vars cs) (hl:τ.le τ'):RB τ' jr dl nm vars cs:=by
 obtain ⟨dv,h1,h2⟩:=h;exact ⟨dv,hl.blk _ _ h1,h2.le hl⟩
theorem rD (jr:Nat) (dl:List Dat) (nm:Str) (vars:List Str) (cs:List CE) (k num:Int) (l:List TE) (τ:AH) (hrb:RB τ jr dl nm vars cs) (hll:l.length<=1000000)
 (ih:∀x∈l,∀τ',RB τ' jr dl nm vars cs->AS Tzp 86 [.gp jr 0,teA x,.d (.bool false)] τ' (fun v σ'=>v=WN (JF (Fl dl) vars false x)/\σ'=τ')):
 Run DI (fun v σ'=>v=WN ((Cv (Fl dl) vars l).map (Ty.mk k num))/\σ'=τ) [.code (.loop Hr),.blk 1,.code (.seq (.reg [⟨some 102,.ldl (.t 8) (some 3),none⟩,⟨none,.st (.t 6) (.t 102) 3,none⟩,⟨some 7,.mv (.c (.d (.int .i64 0))),none⟩] [6,7]) .ret)]
  (put 0 (.gp jr 0) (put 6 (.lp 6 0) (put 8 (.lp 8 0) (put 79 (.d (.sl (l.map TE.enc))) (put 80 (.d (.int .i64 l.length)) (put 81 (.d (.int .i64 0)) U)))))) (Ar 6 [.d (.int .i64 0),.d (.int .i64 0),.Af] (Ar 8 [.d (.int .i64 k),.d (.int .i64 num),.Af] E)) τ:=by
 refine Run.BB ?_
 refine Run.BG ((fun (a0:AV) (a6:AV) (a8:AV) (a79:AV) (a80:AV)=>fun (y:Nat×List Ty×AV×AH)=>put 0 a0 (put 6 a6 (put 8 a8 (put 79 a79 (put 80 a80 (put 81 (.d (.int .i64 y.1)) U)))))) _ _ _ _ _) (fun y=>Ar 6 [.d (.int .i64 0),.d (.int .i64 0),.Af] (Ar 8 [.d (.int .i64 k),.d (.int .i64 num),y.2.2.1] E)) (fun y=>y.2.2.2)
  (fun y=>y.1<=l.length/\y.2.1.length=y.1/\Cv (Fl dl) vars (l.take y.1)= .ok y.2.1/\C4 τ 46 3 (y.2.1.map Ty.enc) y.2.2.1 y.2.2.2) (fun y=>l.length - y.1) ?_ (0,[],.Af,τ) ⟨by simp,rfl,rfl,C4.nil _ _ _⟩
 rintro ⟨i,us,uv,τ1⟩ ⟨hi,hlu,hok,ho⟩ ih2;simp only at hi hlu hok ho;by_cases hlt:i < l.length
 . obtain ⟨x,hx⟩:=Ak hlt;have he:=BR (enc:=TE.enc) hx;have hw1:=A7 (show i+1<=9000000000000000000 by omega)
   have hall:Cv (Fl dl) vars l=(Cv (Fl dl) vars (x::l.drop (i+1))).map (us++·):=by
    conv=>lhs;rw [<- Ac i l,Bv hx]
    exact Sa _ _ _ hok
   have hsn:Cv (Fl dl) vars (l.take (i+1))=(Cv (Fl dl) vars [x]).map (us++·):=by
    rw [Ae hx];exact Sa _ _ _ hok
   rw [Cv] at hall;rw [Cv,Cv] at hsn;have hc:=ih x (AD hx) τ1 (hrb.le ho.le);cases hr:JF (Fl dl) vars false x with
   |error e=>
    rw [hr] at hc hall;have hne:=Zt x false e hr;have hne':(e != 0)=true:=by simpa using hne
    obtain ⟨xk,xn,xl⟩:=x;simp only [TE.A4,teA,AG,AN,WN] at he hc;(repeat' ((first|refine wQ mxQ rfl ?_|(refine Run.CK Bq ho.le ?_)|refine AJ.det (hc) ?_|fail)<;>try simp only [Ag hlt,he,hne',ho.cell,go_sem]));rw [hall];rfl
   |ok u=>
    rw [hr] at hc hsn;simp only [CW] at hsn;obtain ⟨uk,un,ul⟩:=u;obtain ⟨xk,xn,xl⟩:=x;simp only [TE.A4,teA,AG,AN,WN,tyA,Ty.enc] at he hc;have h00:((0:Int) != 0)=false:=by decide
    (repeat' ((first|refine wQ mxQ rfl ?_|(refine E6.own ho rfl (by simp) (by simp;omega) (by decide) (fun v2 σ2 ho2 hbk=>?_))|refine AJ.det (hc) ?_|fail)<;>try simp only [Ag hlt,he,hw1,h00,ho.w4,go_sem]));simp only [ho2.cells,ho2.cell,go_sem];(repeat' (refine wQ mxQ rfl ?_<;>try simp only [hw1,ho2.cell,ho2.cells,go_sem]));exact ih2 (i+1,us++[.mk uk un ul],v2,σ2) ⟨by simp only;omega,by simp [hlu],hsn,by simpa [Ty.enc] using ho2⟩ (by simp only;omega)
 . rw [AO (by omega)] at hok;(repeat' ((first|refine wQ mxQ rfl ?_|(refine Run.CK Bq ho.le ?_)|fail)<;>try simp only [Bk hlt,ho.cell,ho.cells,go_sem]));rw [ho.plain,hok];simp [WN,tyA,Ty.enc,Ty.CM,CW]
theorem AJU {dl:List Dat} {i:Nat} {d:Dat} (h:dl[i]?=some d):(Fl dl).getD i ([],0)=(d.name,d.vars.toNat):=by
 rw [A6,Fl,Ao,h];rfl
theorem iD (dl:List Dat):(Fl dl).map (·.1)=Lu dl:=by simp [Fl,Lu]
theorem ACH {dl:List Dat} {s:Str} {i:Nat} (h:DK (Lu dl) s=some i):∃d,dl[i]?=some d:=by
 have:=O4 h;rw [Lu,Ao,AL] at this;obtain ⟨d,hd,_⟩:=this;exact ⟨d,hd⟩
theorem zM (jr:Nat) (dl:List Dat) (hdl:dl.length<=1000000) (hnn:∀d∈dl,0<=d.vars) (nm:Str) (vars:List Str) (cs:List CE):
 ∀(N:Nat) (t:TE) (whole:Bool) (τ:AH),t.size<=N->t.size<=1000000->RB τ jr dl nm vars cs->AS Tzp 86 [.gp jr 0,teA t,.d (.bool whole)] τ (fun v σ'=>v=WN (JF (Fl dl) vars whole t)/\σ'=τ):=by
 intro N
 induction N with
 |zero=>intro t whole τ h;have:=TE.size_pos t;omega
 |succ N ihN=>
 rintro ⟨k,n,l⟩ whole τ hN hsz hrb;simp only [TE.size] at hN hsz;have hlen:=TE.Bt l
 have hloop:=fun num=>rD jr dl nm vars cs k num l τ hrb (by omega) (fun x hx τ' h=>by
  have:=TE.JD hx;exact ihN x false τ' (by omega) (by omega) h)
 clear ihN;obtain ⟨dv,hb,hdv⟩:=hrb;refine Qx (by simp) ?_;rw [D6,teA,TE.A4];by_cases h4:k=4
 . subst h4
   have hres:JF (Fl dl) vars whole (.mk 4 n l)=match DK vars n with|none=>.error 3|some i=>(Cv (Fl dl) vars l).map (Ty.mk 4 i):=by
    rw [JF,if_pos rfl];rfl
   have hi:=UK vars n τ;cases hix:DK vars n with
   |none=>
    rw [hix] at hi hres;simp only [Hm] at hi hres;have hneg:decide ((-1:Int) < 0)=true:=by decide
    (repeat' ((first|refine wQ mxQ rfl ?_|refine Run.qP Bq ?_|refine AJ.det (hi) ?_|fail)<;>try simp only [Aa,hb,hneg,go_sem]));rw [hres];rfl
   |some i=>
    rw [hix] at hi hres;simp only [Hm] at hi hres;have hneg:decide ((i:Int) < 0)=false:=decide_eq_false (by omega);rw [hres];(repeat' ((first|refine wQ mxQ rfl ?_|refine AJ.det (hi) ?_|fail)<;>try simp only [Aa,hb,hneg,AA,go_sem]));exact hloop i
 by_cases h5:k=5
 . subst h5
   have hres:JF (Fl dl) vars whole (.mk 5 n l)=match DK (Lu dl) n with|none=>.error 3|some i=>if l.length≠((Fl dl).getD i ([],0)).2 then .error 5 else if i+1=(Fl dl).length/\¬(whole=true/\GL l vars=true) then .error 7 else (Cv (Fl dl) vars l).map (Ty.mk 5 i):=by
    rw [JF,if_neg h4,if_pos rfl,iD];rfl
   have hf:=AAX dl dv _ jr n τ hdl hb hdv;have hpar:=mW l dv nm vars cs jr τ (by omega) hb;cases hix:DK (Lu dl) n with
   |none=>
    rw [hix] at hf hres;simp only [Hm] at hf hres;have hneg:decide ((-1:Int) < 0)=true:=by decide
    (repeat' ((first|refine wQ mxQ rfl ?_|refine Run.qP Bq ?_|refine AJ.det (hf) ?_|fail)<;>try simp only [Aa,hneg,go_sem]));rw [hres];rfl
   |some i=>
    obtain ⟨d,hd⟩:=ACH hix;have hil:=(AF.1 hd).1;have hdn:=hnn d (AD hd);rw [hix] at hf hres;simp only [Hm] at hf hres;rw [AJU hd] at hres;have hneg:decide ((i:Int) < 0)=false:=decide_eq_false (by omega);rcases hdv with ⟨rfl,_⟩|⟨jd,e,cells,rfl,hbd,hrows⟩
    . simp at hil
    obtain ⟨cv,_,_,_,g1,_,_⟩:=hrows.at hd;have hixx:((i:Int) < (dl.length:Int))=True:=by simp;omega
    have hcmp:((l.length:Int) != d.vars)=decide (l.length≠d.vars.toNat):=by
     rw [Ax];simp only [bne_iff_ne,ne_eq,decide_eq_true_eq];omega
    by_cases hA:l.length≠d.vars.toNat
    . rw [decide_eq_true hA] at hcmp;rw [if_pos hA] at hres;(repeat' ((first|refine wQ mxQ rfl ?_|refine Run.qP Bq ?_|refine AJ.det (hf) ?_|fail)<;>try simp only [Aa,hb,hneg,AA,hixx,hbd,g1,hcmp,go_sem]));rw [hres];rfl
    . rw [decide_eq_false hA] at hcmp;rw [if_neg hA] at hres;have hw1:IntKind.i64.wrap ((dl.length:Int) - 1)=((dl.length - 1:Nat):Int):=by rw [BP (by omega) (by omega)];omega
      have hlast:((i:Int)==((dl.length - 1:Nat):Int))=decide (i+1=(Fl dl).length):=by
       rw [Ax];simp only [beq_iff_eq,decide_eq_true_eq,Fl,AA];omega
      by_cases hB:i+1=(Fl dl).length
      . rw [decide_eq_true hB] at hlast;cases whole with
        |false=>
         rw [if_pos ⟨hB,by simp⟩] at hres;(repeat' ((first|refine wQ mxQ rfl ?_|refine Run.qP Bq ?_|refine AJ.det (hf) ?_|fail)<;>try simp only [Aa,hb,hneg,AA,hixx,hbd,g1,hcmp,hw1,hlast,go_sem]));rw [hres];rfl
        |true=>
         cases hC:GL l vars with
         |false=>
          rw [hC] at hpar;rw [if_pos ⟨hB,by simp [hC]⟩] at hres;(repeat' ((first|refine wQ mxQ rfl ?_|refine Run.qP Bq ?_|refine AJ.det (hf) ?_|refine AJ.det (hpar) ?_|fail)<;>try simp only [Aa,hb,hneg,AA,hixx,hbd,g1,hcmp,hw1,hlast,go_sem]));rw [hres];rfl
         |true=>
          rw [hC] at hpar;rw [if_neg (by simp [hC])] at hres;rw [hres];(repeat' ((first|refine wQ mxQ rfl ?_|refine AJ.det (hf) ?_|refine AJ.det (hpar) ?_|fail)<;>try simp only [Aa,hb,hneg,AA,hixx,hbd,g1,hcmp,hw1,hlast,go_sem]));exact hloop i
      . rw [decide_eq_false hB] at hlast;rw [if_neg (fun h=>hB h.1)] at hres;rw [hres];(repeat' ((first|refine wQ mxQ rfl ?_|refine AJ.det (hf) ?_|fail)<;>try simp only [Aa,hb,hneg,AA,hixx,hbd,g1,hcmp,hw1,hlast,go_sem]));exact hloop i
 . have hres:JF (Fl dl) vars whole (.mk k n l)=(Cv (Fl dl) vars l).map (Ty.mk k 0):=by rw [JF,if_neg h4,if_neg h5]
   rw [hres];(repeat' (refine wQ mxQ rfl ?_<;>try simp only [Cr h4,Cr h5,AA,go_sem]));exact hloop 0
end Go.Ab
namespace Go.Ab
open Go.Proofs
theorem C4.up {σ τ τ':AH} {e s:Nat} {rows:List (List DV)} {v:AV} (h:C4 σ e s rows v τ) (hl:τ.le τ'):C4 σ e s rows v τ':=by
 obtain ⟨σ1,ha,hle⟩:=h.app;refine ⟨?_,AH.le_trans h.le hl,h.plain,h.len,h.cell,h.BF,h.BT,h.dv,h.cells⟩;unfold ZK at ha ⊢;split at ha
 . cases ha;exact ⟨τ',rfl,AH.le_trans hle hl⟩
 . rename_i t e' s' rows';split at ha
   . rename_i hc;cases ha;refine ⟨τ'.E7 t,if_pos ⟨hc.1,hc.2.1,hl.tok t hc.2.2⟩,?_⟩;refine ⟨fun i cs hi=>hl.blk i cs (hle.blk i cs hi),fun t' ht'=>?_,hle.gt.trans hl.gt,fun i x hx=>hl.bt i x (hle.bt i x hx)⟩;have h1:=hle.tok t' ht';by_cases he:t'=t
     . subst he;simp [AH.E7] at h1
     . simp only [AH.E7,if_neg he] at h1 ⊢;exact hl.tok t' h1
   . cases ha
 . cases ha
theorem C4.set {σ τ:AH} {e s:Nat} {rows:List (List DV)} {v:AV} (h:C4 σ e s rows v τ) {j:Nat} (hj:σ.blk j=none) (cs:List AV):C4 σ e s rows v (τ.AM j cs):=by
 obtain ⟨σ1,ha,hle⟩:=h.app;refine ⟨?_,Db h.le hj,h.plain,h.len,h.cell,h.BF,h.BT,h.dv,h.cells⟩;unfold ZK at ha ⊢;split at ha
 . cases ha;exact ⟨_,rfl,Db hle hj⟩
 . rename_i t e' s' rows';split at ha
   . rename_i hc;cases ha;exact ⟨(τ.AM j cs).E7 t,if_pos hc,Db hle hj⟩
   . cases ha
 . cases ha
theorem C4.slv {σ τ:AH} {e s:Nat} {rows:List (List DV)} {v:AV} (h:C4 σ e s rows v τ):SlV v rows:=by
 obtain ⟨σ1,ha,hle⟩:=h.app;unfold ZK at ha;split at ha
 . cases ha;exact .inr (.inr ⟨rfl,rfl⟩)
 . split at ha
   . cases ha;exact .inr (.inl ⟨_,_,_,rfl⟩)
   . cases ha
 . cases ha
theorem ZD (dl:List Dat) (hdt:lN dl) (hl:dl.length<=1000000) (jd e:Nat) (cells:List AV) (s:Str) (σ:AH) (hb:σ.blk jd=some cells) (hrows:Kg cells dl):
 AS Tzp 79 [.ms jd dl.length 3 e,.d (.str s)] σ (fun v σ'=>v=iB (Em dl s)/\σ'=σ):=by
 refine Nj (by simp) ?_;rw [BS];(repeat' (refine wQ mxQ rfl ?_<;>try simp only [AA,go_sem]));refine Run.BB ?_;refine Run.BG ((fun (a0:AV) (a1:AV) (a10:AV)=>fun (i:Nat)=>put 0 a0 (put 1 a1 (put 10 a10 (put 11 (.d (.int .i64 i)) U)))) _ _ _) (fun _=>E) (fun _=>σ) (fun i=>i<=dl.length/\∀d∈dl.take i,JR d.cons s=none) (fun i=>dl.length - i) ?_ 0 ⟨by simp,by simp⟩;rintro i ⟨hi,hno⟩ ih;by_cases hlt:i < dl.length
 . obtain ⟨d,hd⟩:=Ak hlt;obtain ⟨cv,_,hsl,_,_,g2,_⟩:=hrows.at hd;have hix:((i:Int) < (dl.length:Int))=True:=by simp;omega
   have hw1:IntKind.i64.wrap ((i:Int)+1)=((i+1:Nat):Int):=by rw [BP (by omega) (by omega)];omega
   have hdl:=hdt d (AD hd);have hat:=fun k=>AAN (k:=k) hno hd;rw [<- Lt] at hat;have hnext:=fun (h:JR d.cons s=none)=>GO (p:=fun d:Dat=>(JR d.cons s).isSome) (i:=i) (fun y hy=>by simp [hno y hy]) hd (by rw [h];rfl);obtain ⟨dn,dv,cs⟩:=d;simp only at *;have hlen:=hsl.len;rw [AA] at hlen;have hcell:=hsl.cell;(repeat' (refine wQ mxQ rfl ?_<;>try simp only [Ag hlt,hix,hb,g2,hcell,hlen,go_sem]));refine Run.BB ?_;refine Run.BG ((fun (a0:AV) (a1:AV) (a7:AV) (a10:AV) (a11:AV) (a19:AV)=>fun (k:Nat)=>put 0 a0 (put 1 a1 (put 7 a7 (put 10 a10 (put 11 a11 (put 19 a19 (put 20 (.d (.int .i64 k)) U))))))) _ _ _ _ _ _) (fun _=>E) (fun _=>σ) (fun k=>k<=cs.length/\∀c∈cs.take k,(c.name==s)=false) (fun k=>cs.length - k) ?_ 0 ⟨by simp,by simp⟩;rintro k ⟨hk,hnk⟩ ih2;by_cases hkl:k < cs.length
   . obtain ⟨c,hc⟩:=Ak hkl;have hec:=Wf hc;have hwk:=A7 (show k+1<=9000000000000000000 by omega)
     have hne:List.map Con.enc cs≠[]:=by
      intro h;rw [h] at hec;simp at hec
     cases hs:(c.name==s) with
     |true=>
      have hfin:=hat k (EJ (p:=fun c:Con=>c.name==s) hnk hc hs);clear hat hnext ih ih2;rcases hsl with rfl|⟨t',e',s',rfl⟩|⟨h0,_⟩
      . (repeat' ((first|refine wQ mxQ rfl ?_|refine Run.qP Dk ?_|fail)<;>try simp only [Ag hkl,hix,hb,g2,hec,Bh,hs,go_sem]));rw [hfin];rfl
      . (repeat' ((first|refine wQ mxQ rfl ?_|refine Run.qP Dk ?_|fail)<;>try simp only [Ag hkl,hix,hb,g2,hec,Bh,hs,go_sem]));rw [hfin];rfl
      . exact absurd h0 hne
     |false=>
      have hgo:=ih2 (k+1) ⟨by omega,GO (p:=fun c:Con=>c.name==s) hnk hc hs⟩ (by omega);clear hat hnext ih ih2;rcases hsl with rfl|⟨t',e',s',rfl⟩|⟨h0,_⟩
      . (repeat' (refine wQ mxQ rfl ?_<;>try simp only [Ag hkl,hix,hb,g2,hec,hwk,Bh,hs,go_sem]));exact hgo
      . (repeat' (refine wQ mxQ rfl ?_<;>try simp only [Ag hkl,hix,hb,g2,hec,hwk,Bh,hs,go_sem]));exact hgo
      . exact absurd h0 hne
   . rw [AO (by omega)] at hnk;(repeat' (refine wQ mxQ rfl ?_<;>try simp only [Bk hkl,hw1,go_sem]));refine ih (i+1) ⟨by omega,fun y hy=>?_⟩ (by omega);have:=hnext (by rw [<- Lt,EL (p:=fun c:Con=>c.name==s) hnk]) y hy;simpa using this
 . (repeat' ((first|refine wQ mxQ rfl ?_|refine Run.qP Dk ?_|fail)<;>try simp only [Bk hlt,go_sem]));rw [AO (by omega)] at hno;rw [AAO hno];rfl
def Jd (dl:List Dat):List Str:=dl.flatMap fun d=>d.cons.map (·.name)
theorem xI (l:List Con) (s:Str):(JR l s).isSome=(l.map (·.name)).contains s:=by
 rw [<- Mn,<- Lt,<- SR,List.findIdx?_map];rfl
theorem nZ (s:Str):∀dl:List Dat,(Em dl s).isSome=(Jd dl).contains s
 |[]=>rfl
 |d::l=>by
  have h1:=xI d.cons s;have h2:=nZ s l
  have h3:(Jd (d::l)).contains s=((d.cons.map (·.name)).contains s||(Jd l).contains s):=by
   simp only [Jd,DD];rw [Ax];simp only [Ai,AY,DY]
  rw [h3,<- h1,<- h2,Em];cases JR d.cons s<;>simp
end Go.Ab
namespace Go.Ab
open Go.Proofs
theorem XEx.APE {K:CO} {F:Fm} {L:Lm} {σ σ1:AH} {d:Option Nat} {e s i n n2 e2:Nat} {p:AV} {cs cs2:List AV} (hb:σ.blk i=some cs2) (h1:cs2.length=n2 * s) (hn2:n2≠0) (hbd:n+n2<=1000000000)
 (hpa:N8 σ e s p=some (n,cs,σ1)) (hnp:p.BF=true) (h:∀j,σ.blk j=none->K (BI d (.ms j (n+n2) s e) F) L (σ1.AM j (cs++cs2))):XEx (.sF e s) [p,.ms i n2 s e2] d K F L σ:=
 ⟨by simp [hnp,AA9],by cases p<;>exact ⟨rfl,cs2,n,cs,σ1,hb,h1,hn2,hbd,hpa,h⟩⟩
abbrev eD:Nat:=110
def DlX (σ0:AH) (jr:Nat) (τ:AH) (dl:List Dat) (v:AV):Prop:=(dl=[]/\v= .Af)\/(∃jd cs,v= .ms jd dl.length 3 eD/\σ0.blk jd=none/\jd≠jr/\τ.blk jd=some cs/\Kg cs dl)
theorem DlX.dls {σ0 τ:AH} {jr:Nat} {dl:List Dat} {v:AV} (h:DlX σ0 jr τ dl v):DlS τ dl v:=by
 rcases h with h|⟨jd,cs,h1,_,_,h2,h3⟩
 . exact .inl h
 . exact .inr ⟨jd,_,cs,h1,h2,h3⟩
theorem DlX.app {σ0 τ:AH} {jr:Nat} {dl:List Dat} {v:AV} (h:DlX σ0 jr τ dl v) (hle:σ0.le τ) (hjr:τ.blk jr≠none) (row:List AV):
 ∃cs,Kg cs dl/\∀i,τ.blk i=none->∃σ1,N8 (τ.AM i row) eD 3 v=some (dl.length,cs,σ1)/\σ0.le σ1/\σ1.blk jr=τ.blk jr:=by
 have hi0:∀i,τ.blk i=none->σ0.blk i=none/\i≠jr:=fun i hi=>by
  refine ⟨?_,fun e=>hjr (e ▸ hi)⟩;cases hc:σ0.blk i with
  |none=>rfl
  |some c=>rw [hle.blk i c hc] at hi;cases hi
 rcases h with ⟨rfl,rfl⟩|⟨jd,cs,rfl,h0,hne,hb,hr⟩
 . refine ⟨[],⟨rfl,by simp⟩,fun i hi=>⟨_,rfl,Db hle (hi0 i hi).1,?_⟩⟩;rw [AI,if_neg (A5 (hi0 i hi).2)]
 . refine ⟨cs,hr,fun i hi=>⟨(τ.AM i row).EI jd,?_,?_,?_⟩⟩
   . have hji:jd≠i:=fun e=>by rw [e,hi] at hb;cases hb
     simp [N8,AI,hji,hb,hr.1]
   . refine ⟨fun q c hq=>?_,hle.tok,hle.gt,hle.bt⟩;have hq1:q≠jd:=fun e=>by rw [e,h0] at hq;cases hq
     have hq2:q≠i:=fun e=>by rw [e,(hi0 i hi).1] at hq;cases hq
     simp only [AH.EI,if_neg hq1,AI,if_neg hq2];exact hle.blk q c hq
   . simp only [AH.EI,if_neg (A5 hne),AI,if_neg (A5 (hi0 i hi).2)]
structure APS (σ0:AH) (jr:Nat) (dl:List Dat) (nm:Str) (k:Int) (cv x1 x2 x3:AV) (jd:Nat) (cs:List AV) (τ:AH):Prop where
 res:τ.blk jr=some [.ms jd (dl.length+1) 3 eD,x1,x2,x3]
 nb:σ0.blk jd=none
 ne:jd≠jr
 row:τ.blk jd=some (cs++[.d (.str nm),.d (.int .i64 k),cv])
 ok:Kg cs dl
 le:σ0.le τ
theorem Kg.snoc {cs:List AV} {dl:List Dat} (h:Kg cs dl) (nm:Str) (k:Int) (cv:AV) (cons:List Con) (hcv:SlV cv (cons.map Con.enc)):Kg (cs++[.d (.str nm),.d (.int .i64 k),cv]) (dl++[⟨nm,k,cons⟩]):=by
 refine ⟨by simp [h.1];omega,fun i d hd=>?_⟩;rcases Cl i dl.length with hi|hi
 . rw [BH hi] at hd;obtain ⟨cv',h1,h2⟩:=h.2 i d hd;refine ⟨cv',?_,h2⟩;rw [List.drop_append_of_le_length (by rw [h.1];omega),List.take_append_of_le_length (by rw [E5,h.1];omega)];exact h1
 . have:i=dl.length:=by
    have:=(AF.1 hd).1;simp at this;omega
   subst this;rw [At (AR _),Nat.sub_self] at hd;simp only [Av,AK] at hd;subst hd;refine ⟨cv,?_,hcv⟩;rw [<- h.1,List.drop_left];rfl
theorem Rg (ds:List (Str×Nat)) (vars:List Str) (m:List TE):∀ {l:List TE} {us:List Ty},Dp ds vars l= .ok us->Dp ds vars (l++m)=(Dp ds vars m).map (us++·)
 |[],us,h=>by
  simp only [Dp,EH] at h;subst h;simp only [Aj];cases Dp ds vars m<;>rfl
 |t::l,us,h=>by
  rw [Dp] at h;rw [AX,Dp];cases ht:JF ds vars true t with
  |error e=>rw [ht] at h;cases h
  |ok u=>
   rw [ht] at h;simp only at h ⊢;cases hl:Dp ds vars l with
   |error e=>rw [hl] at h;cases h
   |ok ys=>
    rw [hl] at h;simp only [CW,EH] at h;subst h;rw [Rg ds vars m hl];cases Dp ds vars m<;>rfl
theorem O3 (ds:List (Str×Nat)) (vars:List Str) (m:List CE):∀ {l:List CE} {used:List Str} {us:List Con},FX ds vars used l= .ok us->FX ds vars used (l++m)=(FX ds vars (used++l.map (·.name)) m).map (us++·)/\us.map (·.name)=l.map (·.name)
 |[],used,us,h=>by
  simp only [FX,EH] at h;subst h;simp only [Aj,AN,BX,and_true];cases FX ds vars used m<;>rfl
 |c::l,used,us,h=>by
  rw [FX] at h;rw [AX,FX];split at h
  . cases h
  . rename_i hu;rw [if_neg hu];cases ht:Dp ds vars c.args with
    |error e=>rw [ht] at h;cases h
    |ok ts=>
     rw [ht] at h;simp only at h ⊢;cases hl:FX ds vars (used++[c.name]) l with
     |error e=>rw [hl] at h;cases h
     |ok ys=>
      rw [hl] at h;simp only [CW,EH] at h;subst h;obtain ⟨h1,h2⟩:=O3 ds vars m hl;rw [h1,B4];refine ⟨?_,by simp [h2]⟩;simp only [AG,List.singleton_append];cases FX ds vars (used++c.name::l.map (·.name)) m<;>rfl
end Go.Ab
namespace Go.Ab
open Go.Proofs
theorem tD (σ0:AH) (jr:Nat) (dl:List Dat) (hdl:dl.length<=1000) (nm:Str) (vs:List Str) (cs:List CE) (τ:AH) (dv x1 x2 x3:AV) (hb:τ.blk jr=some [dv,x1,x2,x3]) (hx:x1.B5=true/\x2.B5=true/\x3.B5=true)
 (hv:DlX σ0 jr τ dl dv) (hle:σ0.le τ) (hjr:σ0.blk jr=none) (K:CO)
 (hK:∀F' L' σ' jd cells,Ia [0,3] F'=put 0 (.gp jr 0) (put 3 (.lp 3 0) U)->He [0,3] L'=Ar 3 [.d (.str nm),.d (.sl (vs.map Bb)),.d (.sl (cs.map CE.enc))] E->APS σ0 jr dl nm vs.length .Af x1 x2 x3 jd cells σ'->K F' L' σ'):
 XT Tzp K false (.one ⟨some 26,.mv (.t 0),none⟩ (.one ⟨some 27,.mv (.t 0),none⟩ (.one ⟨some 28,.nck (.t 27),none⟩ (.one ⟨some 29,.fld (.t 28) 0,none⟩ (.one ⟨some 31,.fld (.t 3) 0,none⟩ (.one ⟨some 32,.ldl (.t 31) none,none⟩ (.one ⟨some 33,.fld (.t 3) 1,none⟩ (.one ⟨some 34,.ldl (.t 33) none,none⟩ (.one ⟨some 35,.len (.t 34),none⟩ (.one ⟨some 36,.bld [(.d (.str [])),(.d (.int .i64 0)),.Af] [(0,1,(.t 32)),(1,1,(.t 35))],none⟩ (.alt ⟨some 30,.ld (.t 29) none,none⟩ (.one ⟨some 37,.dZ 110 3 1 [(.d (.str [])),(.d (.int .i64 0)),.Af] [(0,3,(.t 36))],none⟩ (.one ⟨some 38,.ex (.sF 110 3) [(.t 30),(.t 37)],none⟩ (.one ⟨some 39,.nck (.t 26),none⟩ (.one ⟨some 40,.fld (.t 39) 0,none⟩ (.one ⟨none,.st (.t 40) (.t 38) 1,none⟩ .done))))) (.alt ⟨some 37,.dZ 110 3 1 [(.d (.str [])),(.d (.int .i64 0)),.Af] [(0,3,(.t 36))],none⟩ (.one ⟨some 30,.ld (.t 29) none,none⟩ (.one ⟨some 38,.ex (.sF 110 3) [(.t 30),(.t 37)],none⟩ (.one ⟨some 39,.nck (.t 26),none⟩ (.one ⟨some 40,.fld (.t 39) 0,none⟩ (.one ⟨none,.st (.t 40) (.t 38) 1,none⟩ .done))))) .done)))))))))))) (put 0 (.gp jr 0) (put 3 (.lp 3 0) (put 25 (.d (.bool false)) U))) (Ar 3 [.d (.str nm),.d (.sl (vs.map Bb)),.d (.sl (cs.map CE.enc))] E) τ:=by
 have hcell:dv.B5=true:=by rcases hv with ⟨_,rfl⟩|⟨jd,cs,rfl,_⟩<;>rfl
 have hnl:dv.BF=true:=by rcases hv with ⟨_,rfl⟩|⟨jd,cs,rfl,_⟩<;>rfl
 have hjn:∀i,τ.blk i=none->i≠jr:=fun i hi e=>by rw [e,hb] at hi;cases hi
 have hi0:∀i,τ.blk i=none->σ0.blk i=none:=fun i hi=>by
  cases hc:σ0.blk i with
  |none=>rfl
  |some c=>rw [hle.blk i c hc] at hi;cases hi
 obtain ⟨cells,hrows,happ⟩:=hv.app hle (by rw [hb];simp) [.d (.str nm),.d (.int .i64 (vs.length:Int)),.Af]
 -- what both orders end with
 have hend:∀(i:Nat) (σ1:AH) (j:Nat),τ.blk i=none->N8 (τ.AM i [.d (.str nm),.d (.int .i64 (vs.length:Int)),.Af]) eD 3 dv=some (dl.length,cells,σ1)->σ0.le σ1->σ1.blk jr=τ.blk jr->(τ.AM i [.d (.str nm),.d (.int .i64 (vs.length:Int)),.Af]).blk j=none->
  APS σ0 jr dl nm vs.length .Af x1 x2 x3 j cells ((σ1.AM j (cells++[.d (.str nm),.d (.int .i64 (vs.length:Int)),.Af])).AM jr [.ms j (dl.length+1) 3 eD,x1,x2,x3]):=fun i σ1 j hi _ hl1 hb1 hj=>by
  have hji:j≠i:=fun e=>by rw [e,AI,if_pos rfl] at hj;cases hj
  rw [AI,if_neg hji] at hj;have hjr':=hjn j hj;refine ⟨BQ,hi0 j hj,hjr',by rw [AI,if_neg hjr',AI,if_pos rfl],hrows,Db (Db hl1 (hi0 j hj)) hjr⟩
 simp only [hb,hcell,AA,go_sem];refine ⟨VH.mk (fun i hi=>?_),VH.mk (fun i hi=>?_)⟩
 . obtain ⟨σ1,ha,hl1,hb1⟩:=happ i hi;have hij:=hjn i hi;have hji:(jr=i)=False:=by simp only [eq_iff_iff,iff_false];exact fun e=>hij e.symm
   simp only [hb,hcell,hji,go_sem];refine XEx.APE (cs2:=[.d (.str nm),.d (.int .i64 (vs.length:Int)),.Af]) (by simp only [AI,if_true]) rfl (by simp) (by omega) ha hnl (fun j hj=>?_)
   have hjj:(jr=j)=False:=by
    simp only [eq_iff_iff,iff_false];intro e;rw [<- e,AI,if_neg (fun e=>hij e.symm),hb] at hj;cases hj
   have hfin:=hend i σ1 j hi ha hl1 hb1 hj;rw [hb] at hb1;simp only [hjj,hb1,go_sem];exact hK _ _ _ j cells (by simp only [go_sem]) (by simp only [go_sem]) hfin
 . obtain ⟨σ1,ha,hl1,hb1⟩:=happ i hi;have hij:=hjn i hi;have hji:(jr=i)=False:=by simp only [eq_iff_iff,iff_false];exact fun e=>hij e.symm
   simp only [hb,hcell,hji,go_sem];refine XEx.APE (cs2:=[.d (.str nm),.d (.int .i64 (vs.length:Int)),.Af]) (by simp only [AI,if_true]) rfl (by simp) (by omega) ha hnl (fun j hj=>?_)
   have hjj:(jr=j)=False:=by
    simp only [eq_iff_iff,iff_false];intro e;rw [<- e,AI,if_neg (fun e=>hij e.symm),hb] at hj;cases hj
   have hfin:=hend i σ1 j hi ha hl1 hb1 hj;rw [hb] at hb1;simp only [hjj,hb1,go_sem];exact hK _ _ _ j cells (by simp only [go_sem]) (by simp only [go_sem]) hfin
end Go.Ab
namespace Go.Ab
open Go.Proofs
def DQ (σ0:AH) (jr:Nat) (dl:List Dat) (r:Except Int Dat) (v:AV) (σ':AH):Prop:=match r with
 | .error e=>v= .d (.int .i64 e)/\e≠0/\σ0.le σ'
 | .ok x=>v= .d (.int .i64 0)/\σ0.le σ'/\∃dv y1 y2 y3,σ'.blk jr=some [dv,y1,y2,y3]/\(y1.B5=true/\y2.B5=true/\y3.B5=true)/\DlX σ0 jr σ' (dl++[x]) dv
theorem sG {ds:List (Str×Nat)} {vars:List Str}:∀ {l:List TE} {e:Int},Dp ds vars l= .error e->e≠0
 |[],e,h=>by cases h
 |t::l,e,h=>by
  rw [Dp] at h;cases ht:JF ds vars true t with
  |error e'=>rw [ht] at h;cases h;exact Zt t true _ ht
  |ok u=>
   rw [ht] at h;cases hl:Dp ds vars l with
   |error e'=>rw [hl] at h;cases h;exact sG hl
   |ok us=>rw [hl] at h;cases h
theorem AE9 (l m:List Dat):Jd (l++m)=Jd l++Jd m:=by simp [Jd]
abbrev eC:Nat:=112
def AO8 (σ0:AH) (jr:Nat) (dl:List Dat) (nm:Str) (vs:List Str) (cs:List CE) (jd:Nat) (cells:List AV) (p:Nat) (us:List Con) (F':Fm) (L':Lm) (σ':AH):Prop:=
 Ia [0,5,52,53,54] F'=put 0 (.gp jr 0) (put 5 (.d (.int .i64 (dl.length:Int))) (put 52 (.d (.sl (cs.map CE.enc))) (put 53 (.d (.int .i64 cs.length)) (put 54 (.d (.int .i64 p)) U))))/\He [0,5,52,53,54] L'=E/\
  ∃cv',APS σ0 jr dl nm vs.length cv' (.d (.str nm)) (.d (.sl (vs.map Bb))) (.d (.sl (cs.map CE.enc))) jd cells σ'/\C4 σ0 eC 2 (us.map Con.enc) cv' σ'
theorem xL (σ0:AH) (jr:Nat) (dl:List Dat) (hdl:dl.length<=1000) (hnn:∀d∈dl,0<=d.vars) (hdt:lN dl) (nm:Str) (vs:List Str) (cs:List CE) (hcs:cs.length<=1000) (hsm:∀c∈cs,Wx c/\c.args.length<=1000)
 (τ:AH) (jd:Nat) (cells:List AV) (hjr:σ0.blk jr=none) (haps:APS σ0 jr dl nm vs.length .Af (.d (.str nm)) (.d (.sl (vs.map Bb))) (.d (.sl (cs.map CE.enc))) jd cells τ):
 Run DH (DQ σ0 jr dl ((FX (Fl dl++[(nm,vs.length)]) vs (Jd dl) cs).map (⟨nm,vs.length,·⟩))) [.code (.loop Hq),.blk 0,.code (.seq (.reg [⟨some 4,.mv (.c (.d (.int .i64 0))),none⟩] [4]) .ret)]
  (put 0 (.gp jr 0) (put 5 (.d (.int .i64 (dl.length:Int))) (put 52 (.d (.sl (cs.map CE.enc))) (put 53 (.d (.int .i64 cs.length)) (put 54 (.d (.int .i64 0)) U))))) E τ:=by
 generalize hQ:DQ σ0 jr dl ((FX (Fl dl++[(nm,vs.length)]) vs (Jd dl) cs).map (⟨nm,vs.length,·⟩))=Q
 have herr:∀(e:Int) (σ':AH),FX (Fl dl++[(nm,vs.length)]) vs (Jd dl) cs= .error e->e≠0->σ0.le σ'->Q (.d (.int .i64 e)) σ':=fun e σ' h hne hl=>by
  rw [<- hQ,h];exact ⟨rfl,hne,hl⟩
 have hfin:∀(us:List Con) (cv:AV) (σ':AH),FX (Fl dl++[(nm,vs.length)]) vs (Jd dl) cs= .ok us->SlV cv (us.map Con.enc)->APS σ0 jr dl nm vs.length cv (.d (.str nm)) (.d (.sl (vs.map Bb))) (.d (.sl (cs.map CE.enc))) jd cells σ'->Q (.d (.int .i64 0)) σ':=fun us cv σ' h hsl ha=>by
  rw [<- hQ,h];refine ⟨rfl,ha.le,_,_,_,_,ha.res,⟨rfl,rfl,rfl⟩,.inr ⟨jd,_,by rw [A1];rfl,ha.nb,ha.ne,ha.row,ha.ok.snoc nm _ cv us hsl⟩⟩
 clear hQ;refine Run.BB ?_
 refine Run.BG ((fun (a0:AV) (a5:AV) (a52:AV) (a53:AV)=>fun (y:Nat×List Con×AV×AH)=>put 0 a0 (put 5 a5 (put 52 a52 (put 53 a53 (put 54 (.d (.int .i64 y.1)) U))))) _ _ _ _) (fun _=>E) (fun y=>y.2.2.2)
  (fun y=>y.1<=cs.length/\y.2.1.length=y.1/\FX (Fl dl++[(nm,vs.length)]) vs (Jd dl) (cs.take y.1)= .ok y.2.1/\APS σ0 jr dl nm vs.length y.2.2.1 (.d (.str nm)) (.d (.sl (vs.map Bb))) (.d (.sl (cs.map CE.enc))) jd cells y.2.2.2/\C4 σ0 eC 2 (y.2.1.map Con.enc) y.2.2.1 y.2.2.2)
  (fun y=>cs.length - y.1) ?_ (0,[],.Af,τ) ⟨by simp,rfl,rfl,haps,⟨⟨τ,rfl,haps.le⟩,haps.le,rfl,rfl,rfl,rfl,fun _=>rfl,rfl,rfl⟩⟩
 rintro ⟨p,us,cv,τ1⟩ ⟨hp,hlu,hok,haps,hown⟩ ih;simp only at hp hlu hok haps hown;by_cases hlt:p < cs.length
 . obtain ⟨c,hc⟩:=Ak hlt;have he:=BR (enc:=CE.enc) hc;have hw1:=A7 (show p+1<=9000000000000000000 by omega);obtain ⟨hall,hnames⟩:=O3 (Fl dl++[(nm,vs.length)]) vs (cs.drop p) hok;rw [Ac,Bv hc] at hall;obtain ⟨hsn,_⟩:=O3 (Fl dl++[(nm,vs.length)]) vs [c] hok;rw [<- Ae hc] at hsn;obtain ⟨hcsm,hcal⟩:=hsm c (AD hc)
   -- the rows with the partial declaration
   have hrows:=haps.ok.snoc nm (vs.length:Int) cv us hown.slv;have hlp:(dl++[(⟨nm,(vs.length:Int),us⟩:Dat)]).length=dl.length+1:=by simp
   have husl:us.length<=1000000:=by omega
   have hdtp:lN (dl++[⟨nm,(vs.length:Int),us⟩]):=fun d hd=>by
    rcases AY.1 hd with h|h
    . exact hdt d h
    . simp only [A3] at h;subst h;exact husl
   have hnnp:∀d∈dl++[(⟨nm,(vs.length:Int),us⟩:Dat)],0<=d.vars:=fun d hd=>by
    rcases AY.1 hd with h|h
    . exact hnn d h
    . simp only [A3] at h;subst h;simp
   have hdsp:Fl (dl++[⟨nm,(vs.length:Int),us⟩])=Fl dl++[(nm,vs.length)]:=by simp [Fl]
   have hudp:Jd (dl++[⟨nm,(vs.length:Int),us⟩])=Jd dl++(cs.take p).map (·.name):=by
    rw [AE9,<- hnames];simp [Jd]
   have hctr:=ZD (dl++[⟨nm,(vs.length:Int),us⟩]) hdtp (by rw [hlp];omega) jd eD _ c.name τ1 haps.row hrows;have hcu:=nZ c.name (dl++[⟨nm,(vs.length:Int),us⟩]);rw [hudp] at hcu;rw [hlp] at hctr;have hRB:RB τ1 jr (dl++[⟨nm,(vs.length:Int),us⟩]) nm vs cs:=⟨_,haps.res,.inr ⟨jd,eD,_,by rw [hlp],haps.row,hrows⟩⟩;have hres:=haps.res;generalize hdlp:dl++[(⟨nm,(vs.length:Int),us⟩:Dat)]=dlp at *;rw [FX] at hall hsn;obtain ⟨cn,ar⟩:=c;simp only [CE.enc] at he hcu hall hsn hctr hcal hcsm;cases hct:Em dlp cn with
   |some x=>
    rw [hct] at hctr hcu;simp only [iB,Cn] at hctr hcu;rw [<- hcu,if_pos rfl] at hall;(repeat' ((first|refine wQ mxQ rfl ?_|refine Run.qR CZ ?_|refine AJ.det (hctr) ?_|fail)<;>try simp only [Ag hlt,he,hres,go_sem]));exact herr 4 _ hall (by decide) haps.le
   |none=>
   rw [hct] at hctr hcu;simp only [iB,Cm] at hctr hcu;rw [<- hcu,if_neg (by simp)] at hall hsn;(repeat' ((first|refine wQ mxQ rfl ?_|refine AJ.det (hctr) ?_|fail)<;>try simp only [Ag hlt,he,hres,AA,go_sem]));refine Run.BB ?_
   refine Run.BG ((fun (a0:AV) (a5:AV) (a11:AV) (a52:AV) (a53:AV) (a54:AV) (a74:AV) (a75:AV)=>fun (z:Nat×List Ty×AV×AH)=>put 0 a0 (put 5 a5 (put 11 a11 (put 52 a52 (put 53 a53 (put 54 a54 (put 74 a74 (put 75 a75 (put 76 (.d (.int .i64 z.1)) U))))))))) _ _ _ _ _ _ _ _) (fun z=>Ar 11 [.d (.str cn),z.2.2.1] E) (fun z=>z.2.2.2)
    (fun z=>z.1<=ar.length/\z.2.1.length=z.1/\Dp (Fl dl++[(nm,vs.length)]) vs (ar.take z.1)= .ok z.2.1/\C4 τ1 46 3 (z.2.1.map Ty.enc) z.2.2.1 z.2.2.2)
    (fun z=>ar.length - z.1) ?_ (0,[],.Af,τ1) ⟨by simp,rfl,rfl,C4.nil _ _ _⟩
   rintro ⟨a,ts,uv,τ2⟩ ⟨ha,hlt',hoka,ho⟩ ih2;simp only at ha hlt' hoka ho;by_cases hal:a < ar.length
   . obtain ⟨x,hx⟩:=Ak hal;have hex:=BR (enc:=TE.enc) hx;have hwa:=A7 (show a+1<=9000000000000000000 by omega);have hxs:=hcsm x (AD hx);have hra:=zM jr dlp (by omega) hnnp nm vs cs x.size x true τ2 (AR _) hxs (hRB.le ho.le);rw [hdsp] at hra
     have hall2:Dp (Fl dl++[(nm,vs.length)]) vs ar=(Dp (Fl dl++[(nm,vs.length)]) vs (x::ar.drop (a+1))).map (ts++·):=by
      conv=>lhs;rw [<- Ac a ar,Bv hx]
      exact Rg _ _ _ hoka
     have hsn2:Dp (Fl dl++[(nm,vs.length)]) vs (ar.take (a+1))=(Dp (Fl dl++[(nm,vs.length)]) vs [x]).map (ts++·):=by
      rw [Ae hx];exact Rg _ _ _ hoka
     rw [Dp] at hall2;rw [Dp,Dp] at hsn2;cases hr:JF (Fl dl++[(nm,vs.length)]) vs true x with
     |error e=>
      rw [hr] at hra hall2;simp only [CW] at hall2;rw [hall2] at hall;have hne:=Zt x true e hr;have hne':(e != 0)=true:=by simpa using hne
      obtain ⟨xk,xn,xl⟩:=x;simp only [TE.A4,teA,AG,AN,WN] at hex hra;have hxe:=herr e τ2 hall hne (AH.le_trans haps.le ho.le);(repeat' ((first|refine wQ mxQ rfl ?_|refine Run.qR CZ ?_|refine AJ.det (hra) ?_|fail)<;>try simp only [Ag hal,hex,hne',ho.cell,go_sem]));exact hxe
     |ok u=>
      rw [hr] at hra hsn2;simp only [CW] at hsn2;obtain ⟨uk,un,ul⟩:=u;obtain ⟨xk,xn,xl⟩:=x;simp only [TE.A4,teA,AG,AN,WN,tyA,Ty.enc] at hex hra;have h00:((0:Int) != 0)=false:=by decide
      (repeat' ((first|refine wQ mxQ rfl ?_|(refine E6.own ho rfl (by simp) (by simp;omega) (by decide) (fun v2 σ2 ho2 hbk=>?_))|refine AJ.det (hra) ?_|fail)<;>try simp only [Ag hal,hex,hwa,h00,ho.w4,go_sem]));simp only [ho2.cells,ho2.cell,go_sem];(repeat' (refine wQ mxQ rfl ?_<;>try simp only [hwa,ho2.cell,ho2.cells,go_sem]));exact ih2 (a+1,ts++[.mk uk un ul],v2,σ2) ⟨by simp only;omega,by simp [hlt'],hsn2,by simpa [Ty.enc] using ho2⟩ (by simp only;omega)
   . rw [AO (by omega)] at hoka;rw [hoka] at hall hsn;simp only [FX,CW] at hall hsn;have haps2:APS σ0 jr dl nm vs.length cv (.d (.str nm)) (.d (.sl (vs.map Bb))) (.d (.sl (cs.map CE.enc))) jd cells τ2:=⟨ho.le.blk _ _ hres,haps.nb,haps.ne,ho.le.blk _ _ haps.row,haps.ok,AH.le_trans haps.le ho.le⟩;have hown2:=hown.up ho.le;(repeat' (first|refine ctQ rfl ?_|((first|refine rgQ mxQ ?_|refine cdQ ?_)<;>try simp only [Bk hal,go_sem])|fail));have hcl:=haps.ok.1;have hixl:((dl.length:Int) < ((dl.length+1:Nat):Int))=True:=by simp only [eq_iff_iff,iff_true];omega
     have hget:(cells++[AV.d (.str nm),.d (.int .i64 (vs.length:Int)),cv])[dl.length * 3+2]?=some cv:=by
      rw [At (by omega),hcl,QF];rfl
     have htk:Gd (dl.length * 3+2) (cells++[AV.d (.str nm),.d (.int .i64 (vs.length:Int)),cv])=cells++[AV.d (.str nm),.d (.int .i64 (vs.length:Int))]:=by
      rw [List.take_append,AO (by omega),hcl,QF];rfl
     have hdr:FC (dl.length * 3+2+1) (cells++[AV.d (.str nm),.d (.int .i64 (vs.length:Int)),cv])=[]:=by
      rw [HG (by simp;omega)]
     have hlen3:(dl.length * 3+2+1<=(cells++[AV.d (.str nm),.d (.int .i64 (vs.length:Int)),cv]).length)=True:=by simp;omega
     have hend:∀(v3:AV) (σ3:AH) (F':Fm) (L':Lm),Ia [0,5,52,53,54] F'=put 0 (.gp jr 0) (put 5 (.d (.int .i64 (dl.length:Int))) (put 52 (.d (.sl (cs.map CE.enc))) (put 53 (.d (.int .i64 cs.length)) (put 54 (.d (.int .i64 p)) U))))->He [0,5,52,53,54] L'=E->
      C4 σ0 eC 2 (us.map Con.enc++[[.str cn,.sl (ts.map Ty.enc)]]) v3 σ3->σ3.blk jr=some [.ms jd (dl.length+1) 3 eD,.d (.str nm),.d (.sl (vs.map Bb)),.d (.sl (cs.map CE.enc))]->
      AO8 σ0 jr dl nm vs cs jd cells p (us++[(⟨cn,ts⟩:Con)]) F' L' (σ3.AM jd (cells++[AV.d (.str nm),.d (.int .i64 (vs.length:Int)),v3])):=fun v3 σ3 F' L' h1 h2 ho3 hr3=>by
      refine ⟨h1,h2,v3,⟨by rw [AI,if_neg (A5 haps.ne)];exact hr3,haps.nb,haps.ne,BQ,haps.ok,Db ho3.le haps.nb⟩,?_⟩;have:=ho3.set haps.nb (cells++[AV.d (.str nm),.d (.int .i64 (vs.length:Int)),v3]);simpa [Con.enc,Ty.CM] using this
     refine Run.Zr mixed (AO8 σ0 jr dl nm vs cs jd cells p (us++[(⟨cn,ts⟩:Con)])) ?_ ?_
     . simp only [haps2.res,haps2.row,hixl,hget,hown2.cell,hown.cell,ho.dv,ho.cell,go_sem];refine ⟨?_,?_⟩
       . refine E6.own hown2 rfl (by simp) (by simp;omega) (by decide) (fun v3 σ3 ho3 hbk3=>?_);have hb3:=(hbk3 jd).trans haps2.row;have hr3:=(hbk3 jr).trans haps2.res;simp only [hb3,hr3,hixl,ho3.cells,ho3.cell,hlen3,htk,hdr,go_sem];rw [B4];refine hend v3 σ3 _ _ ?_ ?_ ho3 hr3
         . simp only [go_sem]
         . simp only [go_sem]
       . refine E6.own hown2 rfl (by simp) (by simp;omega) (by decide) (fun v3 σ3 ho3 hbk3=>?_);have hb3:=(hbk3 jd).trans haps2.row;have hr3:=(hbk3 jr).trans haps2.res;simp only [hb3,hr3,hixl,ho3.cells,ho3.cell,hlen3,htk,hdr,go_sem];rw [B4];refine hend v3 σ3 _ _ ?_ ?_ ho3 hr3
         . simp only [go_sem]
         . simp only [go_sem]
     . rintro F' L' σ' ⟨h1,h2,cv',h3,h4⟩;rw [h1,h2];(repeat' (refine wQ mxQ rfl ?_<;>try simp only [hw1,go_sem]));exact ih (p+1,us++[(⟨cn,ts⟩:Con)],cv',σ') ⟨by simp only;omega,by simp [hlu],hsn,h3,h4⟩ (by simp only;omega)
 . rw [AO (by omega)] at hok;(repeat' ((first|refine wQ mxQ rfl ?_|refine Run.qR CZ ?_|fail)<;>try simp only [Bk hlt,go_sem]));exact hfin us cv _ hok hown.slv haps
end Go.Ab
namespace Go.Ab
open Go.Proofs
def AO9 (σ0:AH) (jr:Nat) (dl:List Dat) (nm:Str) (vs:List Str) (cs:List CE) (x1 x2 x3:AV) (F':Fm) (L':Lm) (σ':AH):Prop:=
 ∃jd cells,Ia [0,3] F'=put 0 (.gp jr 0) (put 3 (.lp 3 0) U)/\He [0,3] L'=Ar 3 [.d (.str nm),.d (.sl (vs.map Bb)),.d (.sl (cs.map CE.enc))] E/\APS σ0 jr dl nm vs.length .Af x1 x2 x3 jd cells σ'
theorem APS.st {σ0 τ:AH} {jr:Nat} {dl:List Dat} {nm:Str} {k:Int} {cv x1 x2 x3:AV} {jd:Nat} {cs:List AV} (h:APS σ0 jr dl nm k cv x1 x2 x3 jd cs τ) (hjr:σ0.blk jr=none) (y1 y2 y3:AV):
 APS σ0 jr dl nm k cv y1 y2 y3 jd cs (τ.AM jr [.ms jd (dl.length+1) 3 eD,y1,y2,y3]):=
 ⟨BQ,h.nb,h.ne,by rw [AI,if_neg h.ne];exact h.row,h.ok,Db h.le hjr⟩
theorem xM (σ0:AH) (jr:Nat) (dl:List Dat) (hdl:dl.length<=1000) (hnn:∀d∈dl,0<=d.vars) (hdt:lN dl) (nm:Str) (vs:List Str) (cs:List CE) (hcs:cs.length<=1000) (hsm:∀c∈cs,Wx c/\c.args.length<=1000)
 (τ:AH) (dv x1 x2 x3:AV) (hb:τ.blk jr=some [dv,x1,x2,x3]) (hx:x1.B5=true/\x2.B5=true/\x3.B5=true) (hv:DlX σ0 jr τ dl dv) (hle:σ0.le τ) (hjr:σ0.blk jr=none):
 AS Tzp 51 [.gp jr 0,deA ⟨nm,vs,cs⟩] τ (DQ σ0 jr dl (Nb (Fl dl) (Jd dl) ⟨nm,vs,cs⟩)):=by
 refine Qw (by simp [deA]) ?_;rw [BS];simp only [DE.enc,deA,AG,AN];have hfi:=AAX dl dv [x1,x2,x3] jr nm τ (by omega) hb hv.dls;have hrep:=Q0 vs τ;have hap:=fun K=>tD σ0 jr dl hdl nm vs cs τ dv x1 x2 x3 hb hx hv hle hjr K;have hds:(Fl dl).map (·.1)=Lu dl:=iD dl;unfold Nb;simp only [hds];have hin:(DK (Lu dl) nm).isSome=(Lu dl).contains nm:=Mn _ _;cases hc:DK (Lu dl) nm with
 |some i=>
  rw [hc] at hin hfi;simp only [Cn] at hin;have hge:decide ((0:Int)<=(i:Int))=true:=by simp
  rw [<- hin];simp only [NK,if_true];simp only [Hm] at hfi;(repeat' ((first|refine wQ mxQ rfl ?_|refine Run.qR CZ ?_|refine AJ.det (hfi) ?_|fail)<;>try simp only [hge,go_sem]));exact ⟨rfl,by decide,hle⟩
 |none=>
 rw [hc] at hin hfi;simp only [Cm] at hin;rw [<- hin];simp only [Hm] at hfi;have hge:decide ((0:Int)<=-1)=false:=by decide
 cases ht:Cy vs with
 |true=>
  rw [ht] at hrep;simp only [ED,if_true];(repeat' ((first|refine wQ mxQ rfl ?_|refine Run.qR CZ ?_|refine AJ.det (hfi) ?_|refine AJ.det (hrep) ?_|fail)<;>try simp only [hge,go_sem]));exact ⟨rfl,by decide,hle⟩
 |false=>
 rw [ht] at hrep;simp only [ED,AZ,if_false];(repeat' (first|refine ctQ rfl ?_|((first|refine rgQ mxQ ?_|refine cdQ ?_|refine AJ.det (hfi) ?_|refine AJ.det (hrep) ?_)<;>try simp only [hge,go_sem])|fail));refine Run.Zr mixed (AO9 σ0 jr dl nm vs cs x1 x2 x3) (hap _ (fun F' L' σ' jd cells h1 h2 h3=>⟨jd,cells,h1,h2,h3⟩)) ?_;rintro F' L' σ' ⟨jd,cells,h1,h2,h3⟩;rw [h1,h2];have hres:=h3.res;have h4:=h3.st hjr (.d (.str nm)) (.d (.sl (vs.map Bb))) (.d (.sl (cs.map CE.enc)));have hres4:=h4.res
 have hw:IntKind.i64.wrap (((dl.length+1:Nat):Int) - 1)=(dl.length:Int):=by
  exact PW (by omega)
 (repeat' (refine wQ mxQ rfl ?_<;>try simp only [hres,hres4,hw,AA,go_sem]));exact xL σ0 jr dl hdl hnn hdt nm vs cs hcs hsm _ jd cells hjr h4
end Go.Ab
namespace Go.Ab
open Go.Proofs
theorem Kg.enc:∀ {dl:List Dat} {cs:List AV},Kg cs dl->∃ds,dvs cs=some ds/\chunk 3 dl.length ds=dl.map Dat.enc
 |[],cs,h=>by
  have:cs=[]:=Ay (by simpa using h.1);subst this;exact ⟨[],rfl,rfl⟩
 |d::dl,cs,h=>by
  obtain ⟨cv,h1,h2⟩:=h.2 0 d rfl;simp only [NO,Re] at h1
  have hcs:cs= .d (.str d.name)::.d (.int .i64 d.vars)::cv::cs.drop 3:=by
   conv=>lhs;rw [<- Ac 3 cs,h1]
   rfl
  have ht:Kg (cs.drop 3) dl:=by
   refine ⟨by rw [E5,h.1];simp;omega,fun i x hx=>?_⟩;obtain ⟨cv',h3,h4⟩:=h.2 (i+1) x hx;refine ⟨cv',?_,h4⟩;rw [Eu,<- h3];congr 2;omega
  obtain ⟨ds,h5,h6⟩:=Kg.enc ht;refine ⟨.str d.name::.int .i64 d.vars::.sl (d.cons.map Con.enc)::ds,?_,?_⟩
  . rw [hcs];have hcv:=h2.dv;have e1:(AV.d (.str d.name)).dv=some (.str d.name):=rfl;have e2:(AV.d (.int .i64 d.vars)).dv=some (.int .i64 d.vars):=rfl;simp [dvs,hcv,h5,e1,e2]
  . simp [chunk,h6,Dat.enc]
def dgA (d:Dg):AV:= .agg [.d (.int .i64 d.1),.d (.int .i64 d.2.1),.d (.int .i64 d.2.2)]
def dA:Except Dg (List Dat)->AV
 | .ok dt=>.tup [dsA dt,dgA (0,0,0)]
 | .error d=>.tup [dsA [],dgA d]
theorem tC {ds:List (Str×Nat)} {used:List Str} {d:DE} {x:Dat} (h:Nb ds used d= .ok x):x.name=d.name/\x.vars=d.vars.length/\x.cons.map (·.name)=d.cons.map (·.name):=by
 unfold Nb at h;split at h
 . cases h
 . cases hc:FX (ds++[(d.name,d.vars.length)]) d.vars used d.cons with
   |error e=>rw [hc] at h;cases h
   |ok us=>
    rw [hc] at h;cases h;exact ⟨rfl,rfl,(O3 _ _ [] hc).2⟩
theorem Rz (m:List DE):∀ {l done:List DE} {xs:List Dat},DR done l= .ok xs->DR done (l++m)=(DR (done++l) m).map (xs++·)
 |[],done,xs,h=>by
  cases h;simp only [Aj,BX];cases DR done m<;>rfl
 |d::l,done,xs,h=>by
  rw [DR] at h;rw [AX,DR];cases hd:Nb (CR done) (K1 done) d with
  |error e=>rw [hd] at h;cases h
  |ok x=>
   rw [hd] at h;simp only at h ⊢;cases hl:DR (done++[d]) l with
   |error e=>rw [hl] at h;cases h
   |ok ys=>
    rw [hl] at h;cases h;rw [Rz m hl,B4];simp only [AX,Aj];cases DR (done++d::l) m<;>rfl
theorem QK:∀ {l done:List DE} {xs:List Dat},DR done l= .ok xs->Fl xs=CR l/\Jd xs=K1 l/\xs.length=l.length/\(∀x∈xs,0<=x.vars)/\(∀n,(∀d∈l,d.cons.length<=n)->∀x∈xs,x.cons.length<=n)
 |[],done,xs,h=>by cases h;simp [Fl,CR,Jd,K1]
 |d::l,done,xs,h=>by
  rw [DR] at h;cases hd:Nb (CR done) (K1 done) d with
  |error e=>rw [hd] at h;cases h
  |ok x=>
   rw [hd] at h;simp only at h;cases hl:DR (done++[d]) l with
   |error e=>rw [hl] at h;cases h
   |ok ys=>
    rw [hl] at h;cases h;obtain ⟨f1,f2,f3⟩:=tC hd;obtain ⟨g1,g2,g3,g4,g5⟩:=QK hl;have f4:x.cons.length=d.cons.length:=by simpa using congrArg List.length f3
    refine ⟨?_,?_,by simp [g3],?_,?_⟩
    . simp [Fl,CR,f1,f2] at g1 ⊢;exact g1
    . simp only [Jd,K1,DD,f3] at g2 ⊢;rw [g2]
    . intro y hy;rcases As.1 hy with rfl|hy
      . rw [f2];omega
      . exact g4 y hy
    . intro n hn y hy;rcases As.1 hy with rfl|hy
      . rw [f4];exact hn d (AW ..)
      . exact g5 n (fun z hz=>hn z (AU _ hz)) y hy
end Go.Ab
namespace Go.Ab
open Go.Proofs
theorem cP {p:Pg} (hv:Es p=true) (h:∀d∈p.data,LL d):p.data.length<=12/\∀d∈p.data,d.cons.length<=1000/\∀c∈d.cons,Wx c/\c.args.length<=1000:=by
 simp only [Es,AQ,decide_eq_true_eq,Aq] at hv;obtain ⟨⟨⟨h1,_⟩,h2⟩,_⟩:=hv;refine ⟨h1,fun d hd=>?_⟩;have:=h2 d hd;simp only [Na,AQ,decide_eq_true_eq,Aq] at this;obtain ⟨⟨_,h3⟩,h4⟩:=this;refine ⟨by omega,fun c hc=>⟨h d hd c hc,?_⟩⟩;have:=h4 c hc;simp only [eK,AQ,decide_eq_true_eq] at this;omega
theorem yS {σ τ:AH} (h:σ.le τ):σ.le { τ with blk:=fun j=>if (σ.blk j).isSome then τ.blk j else none}:=
 ⟨fun i cs hi=>by simp only [hi,Cn,if_true];exact h.blk i cs hi,h.tok,h.gt,h.bt⟩
theorem YC (p:Pg) (σ:AH) (h:∀d∈p.data,LL d):AS Tzp 25 [pgA p] σ (fun v σ'=>v=dA (IL p)/\σ'=σ):=by
 have hval:=fU p σ h;refine qE (by simp) ?_;rw [Bs];unfold IL;cases hvb:Es p with
 |false=>
  rw [hvb] at hval;obtain ⟨ds,fs⟩:=p;simp only [pgA,Pg.enc,AG,AN] at hval ⊢;(repeat' ((first|refine wQ mxQ rfl ?_|(refine Run.CK Kt (σ2:=σ) (AH.le_refl _) ?_)|refine AJ.det (hval) ?_|fail)<;>try simp only [go_sem]));rfl
 |true=>
 rw [hvb] at hval;obtain ⟨hpl,hps⟩:=cP hvb h;obtain ⟨ds,fs⟩:=p;simp only [pgA,Pg.enc,AG,AN] at hval hpl hps ⊢;(repeat' ((first|refine wQ mxQ rfl ?_|refine AJ.det (hval) ?_|fail)<;>try simp only [AA,go_sem]));intro jr hj;generalize hQ:(fun (v:AV) (σ':AH)=>v=dA (match DR [] ds with| .error (e,i)=>.error (e,-1,(i:Int))| .ok l=>.ok l)/\σ'=σ)=Q
 have herr:∀(e:Int) (i:Nat),DR [] ds= .error (e,i)->Q (.tup [.d (.sl []),.agg [.d (.int .i64 e),.d (.int .i64 (-1)),.d (.int .i64 i)]]) σ:=fun e i hd=>by
  rw [<- hQ,hd];exact ⟨rfl,rfl⟩
 have hok:∀(l:List Dat),DR [] ds= .ok l->Q (.tup [dsA l,.agg [.d (.int .i64 0),.d (.int .i64 0),.d (.int .i64 0)]]) σ:=fun l hd=>by
  rw [<- hQ,hd];exact ⟨rfl,rfl⟩
 clear hQ;have hle0:=CF (cs:=[AV.Af,.d (.str []),.Af,.Af]) hj;(repeat' (refine wQ mxQ rfl ?_<;>try simp only [AA,go_sem]));refine Run.BB ?_
 refine Run.BG ((fun (a3:AV) (a4:AV) (a15:AV) (a16:AV)=>fun (y:Nat×List Dat×AH)=>put 3 a3 (put 4 a4 (put 15 a15 (put 16 a16 (put 17 (.d (.int .i64 y.1)) U))))) _ _ _ _) (fun _=>Ar 3 [.d (.int .i64 0),.d (.int .i64 0),.d (.int .i64 0)] E) (fun y=>y.2.2)
  (fun y=>y.1<=ds.length/\DR [] (ds.take y.1)= .ok y.2.1/\∃dv y1 y2 y3,y.2.2.blk jr=some [dv,y1,y2,y3]/\(y1.B5=true/\y2.B5=true/\y3.B5=true)/\DlX σ jr y.2.2 y.2.1 dv/\σ.le y.2.2)
  (fun y=>ds.length - y.1) ?_ (0,[],_) ⟨by simp,rfl,.Af,.d (.str []),.Af,.Af,by simp only [AI,if_true],⟨rfl,rfl,rfl⟩,.inl ⟨rfl,rfl⟩,hle0⟩
 rintro ⟨i,dl,τ⟩ ⟨hi,hgo,dv,y1,y2,y3,hb,hx,hv,hle⟩ ih;simp only at hi hgo hb hv hle;obtain ⟨f1,f2,f3,f4,f5⟩:=QK hgo;have hlen:dl.length=i:=by rw [f3,Bi];omega
 by_cases hlt:i < ds.length
 . obtain ⟨d,hd⟩:=Ak hlt;have he:=BR (enc:=DE.enc) hd;have hw1:=A7 (show i+1<=9000000000000000000 by omega);have hdt:lN dl:=f5 1000000 (fun d hd=>by have:=(hps d (DP hd)).1;omega);obtain ⟨hc1,hc2⟩:=hps d (AD hd);obtain ⟨nm,vs,cs⟩:=d;have hc:=xM σ jr dl (by omega) f4 hdt nm vs cs hc1 hc2 τ dv y1 y2 y3 hb hx hv hle hj
   have hall:DR [] ds=(DR (ds.take i) (⟨nm,vs,cs⟩::ds.drop (i+1))).map (dl++·):=by
    conv=>lhs;rw [<- Ac i ds,Bv hd]
    exact Rz _ hgo
   have hsn:DR [] (ds.take (i+1))=(DR (ds.take i) [⟨nm,vs,cs⟩]).map (dl++·):=by
    rw [Ae hd];exact Rz _ hgo
   rw [DR,<- f1,<- f2] at hall hsn;simp only [DE.enc,deA,AG,AN] at he hc;cases hr:Nb (Fl dl) (Jd dl) ⟨nm,vs,cs⟩ with
   |error e=>
    rw [hr] at hc hall;simp only [CW,Bi,Gg hi] at hall;have hc':=AS.mono hc (Q':=fun v σ'=>v= .d (.int .i64 e)/\e≠0/\σ.le σ') (fun v σ' h=>h);(repeat' (first|((first|refine wQ mxQ rfl ?_|(refine AJ.mk rfl hc' ?_;rintro _ τ' ⟨rfl,hne,hle'⟩)|fail)<;>try simp only [Ag hlt,he,go_sem])|(refine ⟨fun h=>?_,fun h=>?_⟩<;>first|(cases h;done)|try simp only [h])|fail))
    case refine_2=>exact absurd ‹(e != 0)=false› (by simp [hne])
    (repeat' ((first|refine wQ mxQ rfl ?_|(refine Run.CK Kt (σ2:=σ) hle' ?_)|fail)<;>try simp only [go_sem]));exact herr e i hall
   |ok x=>
    rw [hr] at hc hsn;simp only [DR,CW] at hsn;have hc':=AS.mono hc (Q':=fun v σ'=>v= .d (.int .i64 0)/\σ.le σ'/\∃dv y1 y2 y3,σ'.blk jr=some [dv,y1,y2,y3]/\(y1.B5=true/\y2.B5=true/\y3.B5=true)/\DlX σ jr σ' (dl++[x]) dv) (fun v σ' h=>h);have h00:((0:Int) != 0)=false:=by decide
    (repeat' (first|((first|refine wQ mxQ rfl ?_|(refine AJ.mk rfl hc' ?_;rintro _ τ' ⟨rfl,hle',dv',z1,z2,z3,hb',hx',hv'⟩)|fail)<;>try simp only [Ag hlt,he,hw1,go_sem])|(refine ⟨fun h=>?_,fun h=>?_⟩<;>first|(cases h;done)|try simp only [h])|fail));(repeat' (refine wQ mxQ rfl ?_<;>try simp only [h00,hw1,go_sem]));exact ih (i+1,dl++[x],τ') ⟨by simp only;omega,hsn,dv',z1,z2,z3,hb',hx',hv',hle'⟩ (by simp only;omega)
 . rw [AO (by omega)] at hgo;have hfin:=hok dl hgo;rcases hv with ⟨rfl,rfl⟩|⟨jd,cells,rfl,hn,hne,hbd,hrows⟩
   . (repeat' ((first|refine wQ mxQ rfl ?_|(refine Run.CK Kt (σ2:=σ) hle ?_)|fail)<;>try simp only [Bk hlt,hb,go_sem]));exact hfin
   . obtain ⟨dvl,hdv,hch⟩:=hrows.enc;(repeat' (refine wQ mxQ rfl ?_<;>try simp only [Bk hlt,hb,go_sem]));refine Run.freeze (F':=put 2 (dsA dl) (put 3 (.lp 3 0) U)) (σ':= { τ with blk:=fun j=>if (σ.blk j).isSome then τ.blk j else none}) hbd hdv hrows.1 (Ah (show dl.length<=12 by omega) (by decide)) (fun s=>?_) (fun k cs' hk=>⟨cs',hk,.inl rfl⟩) (fun j cs' hj'=>?_) (fun _ h=>h) ?_
     . by_cases h2:s=2
       . subst h2;right;simp only [D0,if_true,frz,and_self,dsA,hch]
       . left;simp only [D0,if_neg h2]
     . simp only at hj';cases hs:σ.blk j with
       |none=>rw [hs] at hj';cases hj'
       |some c=>
        rw [hs] at hj';exact ⟨(fun e=>by rw [e,hn] at hs;cases hs),cs',hj',.inl rfl⟩
     . refine Run.CK Kt (σ2:=σ) (yS hle) ?_;simp only [YB,dsA,go_sem];exact hfin
end Go.Ab
namespace Go.Ab
open Go.Proofs
theorem jJ {a:Nat}:∀ {l:List Nat},a∈l->a<=l.sum
 |x::l,h=>by
  rw [Et];rcases As.1 h with rfl|h
  . omega
  . have:=jJ h;omega
def nb1 (e:Ex):Prop:=QX e.op e.name e.num e.names e.kids.length e.alts=true
def NB (e:Ex):Prop:=nb1 e/\∀k∈e.kids,nb1 k
theorem bG {α:Type} {f:Nat->α->Option Nat} {sz:α->Nat} {Q:α->Prop}:∀(l:List α) (q r:Nat),(∀x∈l,∀a b,f a x=some b->sz x+b=a/\Q x)->l.foldlM f q=some r->(l.map sz).sum+r=q/\∀x∈l,Q x
 |[],q,r,_,h=>by simp at h;simp [h]
 |x::l,q,r,hf,h=>by
  rw [List.foldlM_cons,AP,AB] at h;obtain ⟨b,hb,h⟩:=h;obtain ⟨h1,h2⟩:=hf x (AW ..) q b hb;obtain ⟨h3,h4⟩:=bG l b r (fun y hy=>hf y (AU _ hy)) h;refine ⟨by simp;omega,fun y hy=>?_⟩;rcases As.1 hy with rfl|hy
  . exact h2
  . exact h4 y hy
theorem Ex.Ic:∀l:List Ex,Ex.AT l=(l.map Ex.size).sum
 |[]=>rfl
 |x::l=>by simp [Ex.AT,Ex.Ic l]
theorem Al.Ic:∀l:List Al,Al.AT l=(l.map Al.size).sum
 |[]=>rfl
 |x::l=>by simp [Al.AT,Al.Ic l]
theorem bW {o:Int} {n:Str} {ns sc:List Str} {x:Ex×List Str}:∀ {l:List Ex} {i:Nat},x∈Ez o n ns sc i l->∃k∈l,∃sc',x∈Cu k sc'
 |[],i,h=>by simp [Ez] at h
 |k::l,i,h=>by
  rw [Ez,AY] at h;rcases h with h|h
  . exact ⟨k,AW ..,_,h⟩
  . obtain ⟨k',h1,h2⟩:=bW h;exact ⟨k',AU _ h1,h2⟩
theorem bV {sc:List Str} {x:Ex×List Str}:∀ {l:List Al},x∈HO sc l->∃a∈l,x∈mX a sc
 |[],h=>by simp [HO] at h
 |k::l,h=>by
  rw [HO,AY] at h;rcases h with h|h
  . exact ⟨k,AW ..,h⟩
  . obtain ⟨k',h1,h2⟩:=bV h;exact ⟨k',AU _ h1,h2⟩
theorem lG:∀(d q:Nat) (e:Ex) (r:Nat),vEx d q e=some r->e.size+r=q/\(nb1 e/\∀sc x,x∈Cu e sc->NB x.1)
 |0,q,e,r,h=>by simp [vEx] at h
 |d+1,0,.mk ..,r,h=>by cases h
 |d+1,q+1,.mk o n u ns ks al,r,h=>by
  simp only [vEx] at h;split at h
  . rename_i hn;rw [AB] at h;obtain ⟨c,hc,h⟩:=h;obtain ⟨h1,h2⟩:=bG (sz:=Ex.size) (Q:=fun e=>nb1 e/\∀sc x,x∈Cu e sc->NB x.1) ks q c (fun x _ a b hab=>lG d a x b hab) hc
    obtain ⟨h3,h4⟩:=bG (sz:=Al.size) (Q:=fun a=>∀sc x,x∈mX a sc->NB x.1) al c r (fun x _ a b hab=>by
     cases x with
     |mk cc vs bd=>
      obtain ⟨g1,g2⟩:=lG d a _ b hab;exact ⟨g1,fun sc x hx=>g2.2 _ x (by rw [mX] at hx;exact hx)⟩) h
    have hnb:nb1 (.mk o n u ns ks al):=hn;refine ⟨by rw [Ex.size,Ex.Ic,Al.Ic];omega,hnb,fun sc x hx=>?_⟩;rw [Cu,As,AY] at hx;rcases hx with rfl|hx|hx
    . exact ⟨hnb,fun k hk=>(h2 k hk).1⟩
    . obtain ⟨k,hk,sc',hx⟩:=bW hx;exact (h2 k hk).2 sc' x hx
    . obtain ⟨a,ha,hx⟩:=bV hx;exact h4 a ha _ x hx
  . simp at h
theorem AHD {s:Str} (h:FV s=true):s≠[]:=by
 rintro rfl;revert h;decide
theorem uH {e:Ex} (h:nb1 e) (ho:e.op=4):e.name≠[]:=by
 unfold nb1 QX nmB at h;simp only [ho,AQ,if_true] at h;exact AHD h.1.1.1.1
theorem NB.Gw {e:Ex} (h:NB e) (hs:e.size<=1000000):AAZ e:=by
 obtain ⟨h1,h2⟩:=h;obtain ⟨o,n,u,ns,ks,al⟩:=e;simp only [Ex.size] at hs;have hkl:=Ex.Bt ks;have hal:=Al.Bt al;refine ⟨uH h1,fun ho=>?_,by simp only [Ex.alts];omega,by simp only [Ex.kids];omega⟩;simp only [Ex.op] at ho;subst ho;unfold nb1 QX nkB at h1;simp only [Ex.op,Ex.kids,AQ] at h1;have h3:=h1.2;simp at h3;cases ks with
 |nil=>simp at h3
 |cons k ks=>exact ⟨k,ks,rfl,fun hk=>uH (h2 k (AW ..)) hk⟩
theorem jN:∀(N:Nat) (e:Ex) (sc:List Str) (x:Ex×List Str),e.size<=N->x∈Cu e sc->x.1.size<=e.size
 |0,e,sc,x,h,_=>by have:=Ex.size_pos e;omega
 |N+1,.mk o n u ns ks al,sc,x,h,hx=>by
  rw [Cu,As,AY] at hx;rw [Ex.size] at h ⊢
  have hmk:∀k∈ks,k.size<=Ex.AT ks:=fun k hk=>by
   rw [Ex.Ic];exact jJ (Xj hk)
  have hma:∀k∈al,k.size<=Al.AT al:=fun k hk=>by
   rw [Al.Ic];exact jJ (Xj hk)
  rcases hx with rfl|hx|hx
  . rw [Ex.size];omega
  . obtain ⟨k,hk,sc',hx⟩:=bW hx;have:=jN N k sc' x (by have:=hmk k hk;omega) hx;have:=hmk k hk;omega
  . obtain ⟨a,ha,hx⟩:=bV hx;have h1:=hma a ha;cases a with
    |mk c vs b=>
     rw [mX] at hx;rw [Al.size] at h1;have:=jN N b _ x (by omega) hx;omega
theorem TR:∀(l:List FE) (q r:Nat),l.foldlM Tz q=some r->∀f∈l,f.body.size<=q/\f.params.length<=6/\∀sc x,x∈Cu f.body sc->NB x.1
 |[],q,r,_,f,hf=>by simp at hf
 |g::l,q,r,h,f,hf=>by
  rw [List.foldlM_cons,AP,AB] at h;obtain ⟨b,hb,h⟩:=h;unfold Tz at hb;split at hb
  . rename_i hh;obtain ⟨h1,h2,h3⟩:=lG _ _ _ _ hb;rcases As.1 hf with rfl|hf
    . simp only [AGW,AQ,decide_eq_true_eq] at hh;exact ⟨by omega,hh.1.2,h3⟩
    . have:=TR l b r h f hf;exact ⟨by omega,this.2⟩
  . cases hb
theorem Yz {p:Pg} (h:Es p=true):p.G7.length<=24/\∀f∈p.G7,f.body.size<=600/\f.params.length<=6/\∀sc x,x∈Cu f.body sc->AAZ x.1:=by
 simp only [Es,AQ,decide_eq_true_eq] at h;obtain ⟨⟨⟨_,h1⟩,_⟩,h2⟩:=h;obtain ⟨r,hr⟩:=dV.1 h2;refine ⟨h1,fun f hf=>?_⟩;obtain ⟨g1,g2,g3⟩:=TR _ _ _ hr f hf;exact ⟨g1,g2,fun sc x hx=>(g3 sc x hx).Gw (by have:=jN _ _ _ _ (AR _) hx;omega)⟩
theorem kP (vis:Ex->List Str->Int):∀l:List (Ex×List Str),JG (fun (_:Unit) x=>(vis x.1 x.2,())) l ()=(bD vis l,())
 |[]=>rfl
 |x::l=>by
  rw [JG,bD,kP vis l];split<;>rfl
end Go.Ab
namespace Go.Ab
open Go.Proofs
theorem QL {p:Pg} {dt:List Dat} (hv:IL p= .ok dt):Es p=true/\DR [] p.data= .ok dt:=by
 unfold IL at hv;split at hv
 . rename_i h;split at hv
   . cases hv
   . rename_i l hl;cases hv;exact ⟨h,hl⟩
 . cases hv
theorem sX {ds:List (Str×Nat)} {vars:List Str}:∀ {l:List CE} {used:List Str} {e:Int},FX ds vars used l= .error e->e≠0
 |[],used,e,h=>by cases h
 |c::l,used,e,h=>by
  rw [FX] at h;split at h
  . cases h;decide
  . cases ha:Dp ds vars c.args with
    |error e'=>rw [ha] at h;cases h;exact sG ha
    |ok ts=>
     rw [ha] at h;cases hl:FX ds vars (used++[c.name]) l with
     |error e'=>rw [hl] at h;cases h;exact sX hl
     |ok us=>rw [hl] at h;cases h
theorem AF5 {ds:List (Str×Nat)} {used:List Str} {d:DE} {e:Int} (h:Nb ds used d= .error e):e≠0:=by
 unfold Nb at h;split at h
 . cases h;decide
 . cases hl:FX (ds++[(d.name,d.vars.length)]) d.vars used d.cons with
   |error e'=>rw [hl] at h;cases h;exact sX hl
   |ok us=>rw [hl] at h;cases h
theorem s9:∀ {l done:List DE} {e:Int} {i:Nat},DR done l= .error (e,i)->e≠0
 |[],done,e,i,h=>by cases h
 |d::l,done,e,i,h=>by
  rw [DR] at h;cases hd:Nb (CR done) (K1 done) d with
  |error e'=>rw [hd] at h;cases h;exact AF5 hd
  |ok x=>
   rw [hd] at h;cases hl:DR (done++[d]) l with
   |error e'=>rw [hl] at h;cases h;exact s9 hl
   |ok us=>rw [hl] at h;cases h
theorem ZW {p:Pg} {c a b:Int} (h:IL p= .error (c,a,b)):c≠0:=by
 unfold IL at h;split at h
 . cases hl:DR [] p.data with
   |error x=>obtain ⟨e,i⟩:=x;rw [hl] at h;cases h;exact s9 hl
   |ok us=>rw [hl] at h;cases h
 . cases h;decide
theorem ACD (ds:List DE) (fs:List FE) (dt:List Dat) (hdt:lN dt) (f:FE) (hsz:f.body.size<=600) (hg:∀sc x,x∈Cu f.body sc->AAZ x.1) (σ:AH):
 AS Tzp 48 [feA f,.fn 49 [.agg [.d (.sl (ds.map DE.enc)),.d (.sl (fs.map FE.enc)),.d (.sl (dt.map Dat.enc))]] []] σ
  (fun v σ'=>v=(match bD (PV fs dt) (Cu f.body f.params) with
    |none=>.tup [.d (.int .i64 ((f.body.size - 1:Nat):Int)),.d (.int .i64 0)]
    |some (k,c)=>.tup [.d (.int .i64 (k:Nat)),.d (.int .i64 c)])/\σ'=σ):=by
 refine (lI (S:=Unit) (fun _ x=>(PV fs dt x.1 x.2,())) (fun _=>σ) 49 [.agg [.d (.sl (ds.map DE.enc)),.d (.sl (fs.map FE.enc)),.d (.sl (dt.map Dat.enc))]] [] (by kernel_rfl) rfl rfl f () (by omega) (fun _ _ h=>h) (fun j hj x hx s n=>?_)).mono (fun v σ' h=>?_)
 . have:=AI7 ds fs dt hdt x.1 x.2 (hg _ _ hx) (WH (fun _=>σ) j (.fn 49 [.agg [.d (.sl (ds.map DE.enc)),.d (.sl (fs.map FE.enc)),.d (.sl (dt.map Dat.enc))]] []) n s);exact this
 . rw [kP] at h;split at h
   . rename_i hh;simp only [B9] at hh;rw [hh.1];exact h
   . rename_i hh;simp only [B9] at hh;rw [hh.1];exact h
theorem AAU {vis:Ex->List Str->Int} {l:List (Ex×List Str)} {q:Nat} {c:Int} (h:bD vis l=some (q,c)):c≠0:=
 gD l () () (q,c) (by rw [kP,h])
theorem aZ (fs:List FE) (dt:List Dat) (m:List FE):∀(l:List FE) (i:Nat),(∀k f,l[k]?=some f->p4 fs dt (i+k) f=none)->QJ fs dt i (l++m)=QJ fs dt (i+l.length) m
 |[],i,_=>rfl
 |f::l,i,h=>by
  have h0:=h 0 f rfl;rw [Bw] at h0;rw [AX,QJ,h0];simp only;rw [aZ fs dt m l (i+1) (fun k g hg=>by have:=h (k+1) g (by simpa using hg);rwa [show i+(k+1)=i+1+k by omega] at this)];congr 1;simp;omega
theorem AA3 {s:Str}:∀ {l:List Str} {i:Nat},l[i]?=some s->∃k,DK l s=some k/\k<=i
 |[],i,h=>by simp at h
 |x::l,i,h=>by
  rw [DK];split
  . exact ⟨0,rfl,by omega⟩
  . rename_i hne;cases i with
    |zero=>simp at h;simp [h] at hne
    |succ i=>
     obtain ⟨k,h1,h2⟩:=AA3 (l:=l) (i:=i) (by simpa using h);exact ⟨k+1,by rw [h1];rfl,by omega⟩
theorem W2 (p:Pg) (σ:AH) (h:∀d∈p.data,LL d):AS Tzp 24 [pgA p] σ (fun v σ'=>v=dgA (Oh p)/\σ'=σ):=by
 have hdat:=YC p σ h;refine mE (by simp) ?_;rw [Bs];unfold Oh;cases hdp:IL p with
 |error d=>
  rw [hdp] at hdat;obtain ⟨c,a,b⟩:=d;obtain ⟨ds,fs⟩:=p;simp only [pgA,Pg.enc,AG,AN,dA,dgA,dsA] at hdat ⊢;have hne:(c != 0)=true:=by simpa using ZW hdp
  (repeat' ((first|refine wQ mxQ rfl ?_|refine Run.qR Hg ?_|refine AJ.det (hdat) ?_|fail)<;>try simp only [hne,go_sem]))
 |ok dt=>
 rw [hdp] at hdat;obtain ⟨hval,hgo⟩:=QL hdp;obtain ⟨hfl,hgood⟩:=Yz hval;obtain ⟨ds,fs⟩:=p;have hfun:=fun s=>Vd ⟨ds,fs⟩ s σ;simp only [pgA,Pg.enc,AG,AN,dA,dgA,dsA] at hdat hfun hfl hgood ⊢;have h00:((0:Int) != 0)=false:=by decide
 (repeat' ((first|refine wQ mxQ rfl ?_|refine AJ.det (hdat) ?_|fail)<;>try simp only [h00,AA,go_sem]));have hdt:lN dt:=(QK hgo).2.2.2.2 1000000 (fun d hd=>by have:=((cP hval h).2 d hd).1;omega);have hrep:=fun l=>Q0 l σ;have hbody:=fun f hf=>ACD ds fs dt hdt f (hgood f hf).1 (hgood f hf).2.2 σ;refine Run.BB ?_
 refine Run.BG ((fun (a1:AV) (a2:AV) (a5:AV) (a23:AV) (a24:AV)=>fun (i:Nat)=>put 1 a1 (put 2 a2 (put 5 a5 (put 23 a23 (put 24 a24 (put 25 (.d (.int .i64 i)) U)))))) _ _ _ _ _) (fun _=>Ar 1 [.d (.sl (ds.map DE.enc)),.d (.sl (fs.map FE.enc))] (Ar 2 [.d (.int .i64 0),.d (.int .i64 0),.d (.int .i64 0)] (Ar 5 [.d (.sl (ds.map DE.enc)),.d (.sl (fs.map FE.enc)),.d (.sl (dt.map Dat.enc))] E))) (fun _=>σ)
  (fun i=>i<=fs.length/\∀k f,fs[k]?=some f->k < i->p4 fs dt k f=none) (fun i=>fs.length - i) ?_ 0 ⟨by simp,fun k f _ hk=>by omega⟩
 rintro i ⟨hi,hno⟩ ih;by_cases hlt:i < fs.length
 . obtain ⟨f,hf⟩:=Ak hlt;have he:=BR (enc:=FE.enc) hf;have hw1:=A7 (show i+1<=9000000000000000000 by omega)
   have hgo2:QJ fs dt 0 fs=QJ fs dt i (f::fs.drop (i+1)):=by
    conv=>lhs;rw [show QJ fs dt 0 fs=QJ fs dt 0 (fs.take i++fs.drop i) by rw [Ac],Bv hf]
    rw [aZ fs dt _ _ 0 (fun k g hg=>?_),BU,Bi,Gg hi];rw [BU];rw [B3] at hg;split at hg
    . exact hno k g hg (by assumption)
    . cases hg
   rw [QJ] at hgo2;have hfn:=hfun f.name;have hrp:=hrep f.params;have hbd:=hbody f (AD hf);obtain ⟨k,hk,hki⟩:=AA3 (l:=DN fs) (s:=f.name) (i:=i) (by rw [DN,Ao,hf];rfl);rw [hk] at hfn;simp only [Hm] at hfn
   have hF:p4 fs dt i f=if k < i\/Cy f.params=true then some (4,(i:Int),0) else match bD (PV fs dt) (Cu f.body f.params) with
    |some (k,c)=>some (c,(i:Int),(k:Int))
    |none=>none:=by
    unfold p4;rw [hk]
    have:(some k≠some i\/Cy f.params=true)↔(k < i\/Cy f.params=true):=by
     simp only [ne_eq,AK];constructor
     . rintro (h|h)
       . exact .inl (by omega)
       . exact .inr h
     . rintro (h|h)
       . exact .inl (by omega)
       . exact .inr h
    simp only [this];split
    . rfl
    . cases bD (PV fs dt) (Cu f.body f.params)<;>rfl
   rw [hF] at hgo2
   have hnx:p4 fs dt i f=none->∀k g,fs[k]?=some g->k < i+1->p4 fs dt k g=none:=fun h0 k g hg hk=>by
    rcases Cl k i with h|h
    . exact hno k g hg h
    . have:k=i:=by omega
      subst this;rw [hf] at hg;cases hg;exact h0
   rw [hF] at hnx;clear hF;obtain ⟨nm,ps,o,n,u,ns,ks,al⟩:=f;simp only [FE.enc,Ex.A4,feA,AG,AN] at he hfn hrp hbd hgo2 hnx;by_cases hki2:k < i
   . have hd:decide ((k:Int) < (i:Int))=true:=by simpa using hki2
     rw [if_pos (.inl hki2)] at hgo2;simp only at hgo2;rw [hgo2];(repeat' ((first|refine wQ mxQ rfl ?_|refine Run.qR Hg ?_|refine AJ.det (hfn) ?_|fail)<;>try simp only [Ag hlt,he,hd,go_sem]))
   have hd:decide ((k:Int) < (i:Int))=false:=by simpa using hki2
   cases htw:Cy ps with
   |true=>
    rw [htw] at hgo2 hrp;rw [if_pos (.inr rfl)] at hgo2;simp only at hgo2;rw [hgo2];(repeat' ((first|refine wQ mxQ rfl ?_|refine Run.qR Hg ?_|refine AJ.det (hfn) ?_|refine AJ.det (hrp) ?_|fail)<;>try simp only [Ag hlt,he,hd,go_sem]))
   |false=>
   rw [htw] at hgo2 hrp hnx;rw [if_neg (by simp;omega)] at hgo2 hnx;cases her:bD (PV fs dt) (Cu (.mk o n u ns ks al) ps) with
   |some y=>
    obtain ⟨q,c⟩:=y;rw [her] at hgo2 hbd;simp only at hgo2 hbd;rw [hgo2];have hcn:(c != 0)=true:=by simpa using AAU her
    (repeat' ((first|refine wQ mxQ rfl ?_|refine Run.qR Hg ?_|refine AJ.det (hfn) ?_|refine AJ.det (hrp) ?_|refine AJ.det (hbd) ?_|fail)<;>try simp only [Ag hlt,he,hd,hcn,go_sem]))
   |none=>
    rw [her] at hbd hnx;simp only at hbd hnx;(repeat' ((first|refine wQ mxQ rfl ?_|refine AJ.det (hfn) ?_|refine AJ.det (hrp) ?_|refine AJ.det (hbd) ?_|fail)<;>try simp only [Ag hlt,he,hd,h00,hw1,go_sem]));exact ih (i+1) ⟨by omega,hnx trivial⟩ (by omega)
 . have hall:QJ fs dt 0 fs=(0,0,0):=by
    have:=aZ fs dt [] fs 0 (fun k g hg=>by rw [BU];exact hno k g hg (by have:=(AF.1 hg).1;omega));rw [BX] at this;rw [this];rfl
   rw [hall];(repeat' ((first|refine wQ mxQ rfl ?_|refine Run.qR Hg ?_|fail)<;>try simp only [Bk hlt,go_sem]))
end Go.Ab
namespace Go.Ab
open Go.Proofs
def dD (fs:List FE) (x:Ex×List Str) (fl:List Bool):List Bool:=
 if x.1.op=4&& !x.2.contains x.1.name then (match DK (DN fs) x.1.name with|some g=>fl.set g true|none=>fl) else fl
theorem oF (fs:List FE) (x:Ex×List Str) (fl:List Bool):(dD fs x fl).length=fl.length:=by
 unfold dD;split
 . split<;>simp
 . rfl
theorem wB (ds:List DE) (fs:List FE) (e:Ex) (sc:List Str) (fl:List Bool) (hfl:fl.length=fs.length) (hfs:fs.length<=24) (jm jf jp eM:Nat) (σ:AH) (hm:σ.blk jm=some (BL fl)) (hf:σ.blk jf=some [.ms jm fl.length 1 eM])
 (hp:σ.blk jp=some [.d (.sl (ds.map DE.enc)),.d (.sl (fs.map FE.enc))]) (hn:e.op=4->e.name≠[]) (hidx:e.op=4->sc.contains e.name=false->(DK (DN fs) e.name).isSome=true):
 AS Tzp 89 [exA e,.d (bdL sc),.gp jf 0,.gp jp 0] σ (fun v σ'=>v= .d (.int .i64 0)/\σ'=σ.AM jm (BL (dD fs (e,sc) fl))):=by
 obtain ⟨o,n,u,ns,ks,al⟩:=e;simp only [Ex.op,Ex.name] at hn hidx;refine eN (by simp) ?_;rw [aO,exA,Ex.A4];have hfun:=Vd ⟨ds,fs⟩ n σ;simp only [pgA,Pg.enc,AG,AN] at hfun;have hid:=GN hm;have hT:dD fs (.mk o n u ns ks al,sc) fl=if decide (o=4)&& !sc.contains n then (match DK (DN fs) n with|some g=>fl.set g true|none=>fl) else fl:=rfl
 by_cases h4:o=4
 . subst h4;have hh:=qA sc n (hn rfl) σ;cases hc:sc.contains n with
   |true=>
    rw [hc] at hh hT;simp only [Bool.not_true,CG,AZ,if_false] at hT;rw [hT,hid];(repeat' ((first|refine wQ mxQ rfl ?_|refine Run.qP Jg ?_|refine AJ.det (hh) ?_|fail)<;>try simp only [Aa,go_sem]))
   |false=>
    rw [hc] at hh;obtain ⟨g,hg⟩:=dV.1 (hidx rfl hc);obtain ⟨f,hff,_⟩:=oG hg;have hgl:g < fl.length:=by rw [hfl];exact (AF.1 hff).1
    rw [hc,hg] at hT;rw [hg] at hfun;simp only [Hm,JI,Be,decide_true,if_true] at hfun hT;rw [hT];(repeat' (first|refine ctQ rfl ?_|((first|refine rgQ mxQ ?_|refine cdQ ?_|refine AJ.det (hh) ?_|refine AJ.det (hfun) ?_)<;>try simp only [Aa,hf,hp,hm,go_sem])|fail));have hixl:((g:Int) < (fl.length:Int))=True:=by simp only [eq_iff_iff,iff_true];omega
    have hbl:(g+1<=(BL fl).length)=True:=by rw [O2];simp only [eq_iff_iff,iff_true];omega
    have hwr:Gd g (BL fl)++[AV.d (.bool true)]++FC (g+1) (BL fl)=BL (fl.set g true):=by
     rw [<- ZM true hgl];rfl
    refine Run.Zr mixed (fun F' L' σ'=>σ'=σ.AM jm (BL (fl.set g true))) ?_ ?_
    . simp only [hf,hp,hm,go_sem];refine ⟨?_,?_⟩
      . skip;refine AJ.mk rfl hfun ?_;rintro _ _ ⟨rfl,rfl⟩;simp only [hf,hp,hm,hixl,hbl,A2,hwr,go_sem]
      . skip;refine AJ.mk rfl hfun ?_;rintro _ _ ⟨rfl,rfl⟩;simp only [hf,hp,hm,hixl,hbl,A2,hwr,go_sem]
    . rintro F' L' σ' rfl;(repeat' ((first|refine wQ mxQ rfl ?_|refine Run.qP Jg ?_|fail)<;>try simp only [go_sem]))
 . have hb:=Cr h4;simp only [h4,decide_false,DO,AZ,if_false] at hT;rw [hT,hid];(repeat' ((first|refine wQ mxQ rfl ?_|refine Run.qP Jg ?_|fail)<;>try simp only [hb,go_sem]))
end Go.Ab
namespace Go.Ab
open Go.Proofs
theorem vK (σ:AH) {i j:Nat} (h:i≠j) (a b c:List AV):((σ.AM i a).AM j b).AM i c=(σ.AM i c).AM j b:=by
 unfold AH.AM;simp only [AH.mk.injEq,and_true];funext k;by_cases h1:k=i
 . subst h1;simp [h]
 . simp [h1]
def YY (fs:List FE):List (Ex×List Str)->List Bool->List Bool
 |[],fl=>fl
 |x::l,fl=>YY fs l (dD fs x fl)
theorem iF (fs:List FE):∀(l:List (Ex×List Str)) (fl:List Bool),(YY fs l fl).length=fl.length
 |[],fl=>rfl
 |x::l,fl=>by rw [YY,iF fs l,oF]
theorem ACU (fs:List FE) (x:Ex×List Str) (fl:List Bool) (g:Nat):(dD fs x fl)[g]?=fl[g]?.map (·||MG fs g x):=by
 unfold dD MG;by_cases h:x.1.op=4
 . cases hc:x.2.contains x.1.name with
   |true=>
    simp [h,hc]
   |false=>
    simp only [h,hc,decide_true,JI,Be,if_true,beq_self_eq_true,BW];cases hi:DK (DN fs) x.1.name with
    |none=>simp
    |some k=>
     by_cases hk:k=g
     . subst hk;rw [BZ];by_cases hl:k < fl.length
       . simp [hl]
       . simp [hl]
     . rw [BZ,if_neg hk];have hkg:(k==g)=false:=by simpa using hk
       simp [hkg]
 . have hb:=Cr h;simp only [h,decide_false,DO,AZ,if_false,hb,L2];simp
theorem tG (fs:List FE) (g:Nat):∀(l:List (Ex×List Str)) (fl:List Bool),(YY fs l fl)[g]?=fl[g]?.map (·||l.any (MG fs g))
 |[],fl=>by simp [YY]
 |x::l,fl=>by
  rw [YY,tG fs g l,ACU];cases fl[g]? with
  |none=>rfl
  |some b=>simp [Bool.or_assoc]
abbrev FlS (fs:List FE):= { fl:List Bool // fl.length=fs.length}
def AI6 (fs:List FE) (s:FlS fs) (x:Ex×List Str):Int×FlS fs:=(0,⟨dD fs x s.1,by rw [oF];exact s.2⟩)
theorem o5 (fs:List FE):∀(l:List (Ex×List Str)) (s:FlS fs),JG (AI6 fs) l s=(none,⟨YY fs l s.1,by rw [iF];exact s.2⟩)
 |[],s=>rfl
 |x::l,s=>by
  rw [JG];have:=o5 fs l (AI6 fs s x).2;rw [if_pos (show (AI6 fs s x).1=0 from rfl),this];rfl
theorem sP (ds:List DE) (fs:List FE) (f:FE) (hsz:f.body.size<=600) (hfs:fs.length<=24) (jm jf jp eM:Nat) (τ:AH) (fl:List Bool) (hfl:fl.length=fs.length) (hm:τ.blk jm=some (BL fl)) (hf:τ.blk jf=some [.ms jm fl.length 1 eM])
 (hp:τ.blk jp=some [.d (.sl (ds.map DE.enc)),.d (.sl (fs.map FE.enc))]) (hne1:jf≠jm) (hne2:jp≠jm)
 (hx:∀x∈Cu f.body f.params,(x.1.op=4->x.1.name≠[])/\(x.1.op=4->x.2.contains x.1.name=false->(DK (DN fs) x.1.name).isSome=true)):
 AS Tzp 48 [feA f,.fn 89 [] [.gp jf 0,.gp jp 0]] τ
  (fun v σ'=>v= .tup [.d (.int .i64 ((f.body.size - 1:Nat):Int)),.d (.int .i64 0)]/\σ'=τ.AM jm (BL (YY fs (Cu f.body f.params) fl))):=by
 have hw:=lI (S:=FlS fs) (AI6 fs) (fun s=>τ.AM jm (BL s.1)) 89 [] [.gp jf 0,.gp jp 0] (by kernel_rfl) rfl rfl f ⟨fl,hfl⟩ (by omega)
  (fun t j hj=>by
    simp only [AI] at hj ⊢;split
    . rename_i e;rw [if_pos e] at hj;cases hj
    . rename_i e;rwa [if_neg e] at hj)
  (fun j hj x hxm s n=>by
    have hjm:j≠jm:=fun e=>by rw [e,AI,if_pos rfl] at hj;cases hj
    have hj0:τ.blk j=none:=by rw [AI,if_neg hjm] at hj;exact hj
    have hjf:jf≠j:=fun e=>by rw [<- e,hf] at hj0;cases hj0
    have hjp:jp≠j:=fun e=>by rw [<- e,hp] at hj0;cases hj0
    have:=wB ds fs x.1 x.2 s.1 s.2 hfs jm jf jp eM (WH (fun s:FlS fs=>τ.AM jm (BL s.1)) j (.fn 89 [] [.gp jf 0,.gp jp 0]) n s)
     (by simp only [WH,AI,if_neg (A5 hjm),if_true]) (by rw [WH,AI,if_neg hjf,AI,if_neg hne1,hf,hfl,s.2]) (by rw [WH,AI,if_neg hjp,AI,if_neg hne2,hp]) (hx x hxm).1 (hx x hxm).2
    refine this.mono (fun v σ' h=>⟨h.1,?_⟩);rw [h.2];simp only [WH,AI6];exact vK τ (A5 hjm) _ _ _)
 simp only [GN hm] at hw;refine hw.mono (fun v σ' h=>?_);rw [o5] at h;exact h
theorem YX {fs:List FE} {dt:List Dat}:∀(l:List FE) (i:Nat),(QJ fs dt i l).1=0->∀f∈l,bD (PV fs dt) (Cu f.body f.params)=none
 |[],i,_,f,hf=>by simp at hf
 |g::l,i,h,f,hf=>by
  rw [QJ] at h
  have hF:p4 fs dt i g=none/\bD (PV fs dt) (Cu g.body g.params)=none:=by
   unfold p4 at h ⊢;split at h
   . rename_i d hd;exfalso;split at hd
     . cases hd;simp at h
     . split at hd
       . rename_i k c hk;cases hd;exact AAU hk h
       . cases hd
   . rename_i hd;split at hd
     . cases hd
     . split at hd
       . cases hd
       . rename_i hk;exact ⟨by rename_i h1 _;rw [if_neg h1],hk⟩
  rw [hF.1] at h;rcases As.1 hf with rfl|hf
  . exact hF.2
  . exact YX l (i+1) h f hf
theorem bE {vis:Ex->List Str->Int}:∀ {l:List (Ex×List Str)},bD vis l=none->∀x∈l,vis x.1 x.2=0
 |[],_,x,hx=>by simp at hx
 |y::l,h,x,hx=>by
  rw [bD] at h;split at h
  . rename_i h0;rcases As.1 hx with rfl|hx
    . exact h0
    . exact bE (by simpa using h) x hx
  . cases h
theorem TO {p:Pg} (h:(Oh p).1=0):p.G7.length<=24/\∀f∈p.G7,f.body.size<=600/\∀x∈Cu f.body f.params,(x.1.op=4->x.1.name≠[])/\(x.1.op=4->x.2.contains x.1.name=false->(DK (DN p.G7) x.1.name).isSome=true):=by
 unfold Oh at h;cases hd:IL p with
 |error d=>obtain ⟨c,a,b⟩:=d;rw [hd] at h;exact absurd h (ZW hd)
 |ok dt=>
  rw [hd] at h;simp only at h;obtain ⟨hv,_⟩:=QL hd;obtain ⟨hl,hg⟩:=Yz hv;refine ⟨hl,fun f hf=>⟨(hg f hf).1,fun x hx=>⟨((hg f hf).2.2 _ x hx).1,fun h4 hc=>?_⟩⟩⟩;have h0:=bE (YX _ _ h f hf) x hx;obtain ⟨⟨o,n,u,ns,ks,al⟩,sc⟩:=x;simp only [Ex.op,Ex.name] at h4 hc ⊢;subst h4;rw [UB,if_pos rfl,hc] at h0;cases hi:DK (DN p.G7) n with
  |none=>rw [hi] at h0;simp at h0
  |some k=>rfl
end Go.Ab
namespace Go.Ab
open Go.Proofs
def CC (n:Nat):List DV:=[.int .i64 (n:Int)]
def Og (l:List (List Nat)):AV:= .d (.sl (l.map fun r=>[.sl (r.map CC)]))
theorem Zg {σ τ:AH} (h:σ.le τ) {i:Nat} {x:Nat×TypeId} (hb:τ.bt i=none):σ.le (τ.Br i x):=
 ⟨h.blk,h.tok,h.gt,fun k y hk=>by
   have:=h.bt k y hk;show (if k=i then some x else τ.bt k)=some y;rw [if_neg (fun e=>by rw [e,hb] at this;cases this)];exact this⟩
theorem AIJ {α:Type} {l:List α} {i:Nat} {x:α} (h:l[i]?=some x):l.set i x=l:=by
 apply Ev;intro k;rw [BZ];split
 . rename_i e;subst e;rw [h,if_pos (AF.1 h).1]
 . rfl
theorem wr1 {α:Type} {l:List α} {i:Nat} (x:α) (h:i < l.length):Gd i l++[x]++FC (i+1) l=l.set i x:=by
 rw [AFG,if_pos h];simp
theorem ABE {r:FE->List (List DV)}:∀ {l:List FE} {cells:List AV},cells.length=l.length->(∀(k:Nat) (f:FE),l[k]?=some f->∃cv,cells[k]?=some cv/\SlV cv (r f))->∃ds,dvs cells=some ds/\chunk 1 l.length ds=l.map fun f=>[DV.sl (r f)]
 |[],[],_,_=>⟨[],rfl,rfl⟩
 |f::l,[],h,_=>by simp at h
 |[],c::cells,h,_=>by simp at h
 |f::l,c::cells,h,hk=>by
  obtain ⟨cv,h1,h2⟩:=hk 0 f rfl;simp only [Av,AK] at h1;subst h1;obtain ⟨ds,h3,h4⟩:=ABE (r:=r) (l:=l) (cells:=cells) (by simpa using h) (fun k g hg=>hk (k+1) g hg);have hcv:=h2.dv;exact ⟨.sl (r f)::ds,by simp [dvs,hcv,h3],by simp [chunk,h4]⟩
structure CS (σ:AH) (jp jo:Nat) (ds:List DE) (fs:List FE) (cells:List AV) (τ:AH):Prop where
 prog:τ.blk jp=some [.d (.sl (ds.map DE.enc)),.d (.sl (fs.map FE.enc))]
 out:τ.blk jo=some cells
 ne:jo≠jp
 no:σ.blk jo=none
 np:σ.blk jp=none
 le:σ.le τ
 len:cells.length=fs.length
theorem CS.new {σ τ:AH} {jp jo:Nat} {ds:List DE} {fs:List FE} {cells:List AV} (h:CS σ jp jo ds fs cells τ) {j:Nat} (hj:τ.blk j=none) (cs:List AV):CS σ jp jo ds fs cells (τ.AM j cs):=by
 have h1:jp≠j:=fun e=>by rw [<- e,h.prog] at hj;cases hj
 have h2:jo≠j:=fun e=>by rw [<- e,h.out] at hj;cases hj
 have h3:σ.blk j=none:=by
  cases hc:σ.blk j with
  |none=>rfl
  |some c=>rw [h.le.blk j c hc] at hj;cases hj
 exact ⟨by rw [AI,if_neg h1];exact h.prog,by rw [AI,if_neg h2];exact h.out,h.ne,h.no,h.np,Db h.le h3,h.len⟩
theorem kS (p:Pg) (σ:AH) (h:∀d∈p.data,LL d):AS Tzp 53 [pgA p] σ (fun v σ'=>v=Og (Jt p)/\σ'=σ):=by
 have hchk:=fun σ=>W2 p σ h;refine mD (by simp) ?_;rw [Bs];unfold Jt;by_cases hc0:(Oh p).1=0
 case neg=>
  rw [if_neg hc0];have hne:((Oh p).1 != 0)=true:=by simpa using hc0
  obtain ⟨ds,fs⟩:=p;simp only [pgA,Pg.enc,AG,AN,dgA] at hchk ⊢;(repeat' (refine wQ mxQ rfl ?_<;>try simp only [go_sem]));intro jp hjp;have hle0:=CF (cs:=[AV.d (.sl (ds.map DE.enc)),.d (.sl (fs.map FE.enc))]) hjp;(repeat' ((first|refine wQ mxQ rfl ?_|(refine Run.CK Qu (σ2:=σ) hle0 ?_)|refine AJ.det (hchk _) ?_|fail)<;>try simp only [hne,go_sem]));rfl
 rw [if_pos hc0];have hne:((Oh p).1 != 0)=false:=by simpa using hc0
 obtain ⟨ds,fs⟩:=p;simp only [pgA,Pg.enc,AG,AN,dgA] at hchk ⊢;(repeat' (refine wQ mxQ rfl ?_<;>try simp only [go_sem]));intro jp hjp;have hle0:=CF (cs:=[AV.d (.sl (ds.map DE.enc)),.d (.sl (fs.map FE.enc))]) hjp;(repeat' (first|refine ctQ rfl ?_|((first|refine rgQ mxQ ?_|refine cdQ ?_|refine AJ.det (hchk _) ?_)<;>try simp only [hne,AA,go_sem])|fail));obtain ⟨hbig,hfacts⟩:=TO hc0;simp only at hbig hfacts;generalize hQ:(fun (v:AV) (σ':AH)=>v=Og (fs.map (Xo fs))/\σ'=σ)=Q;have hok:Q (Og (fs.map (Xo fs))) σ:=by rw [<- hQ];exact ⟨rfl,rfl⟩
 clear hQ;refine Nz.mk (n:=fs.length) (by omega) (by omega) (fun jo hjo=>?_);have hne0:jo≠jp:=fun e=>by rw [e,AI,if_pos rfl] at hjo;cases hjo
 have hjo':σ.blk jo=none:=by rw [AI,if_neg hne0] at hjo;exact hjo
 have hflat:(AE fs.length [AV.Af]).flatten=AE fs.length AV.Af:=by
  induction fs.length with
  |zero=>rfl
  |succ n ih=>rw [BV,BK,ih];rfl
 rw [hflat]
 have hcs0:CS σ jp jo ds fs (AE fs.length AV.Af) ((σ.AM jp [AV.d (.sl (ds.map DE.enc)),.d (.sl (fs.map FE.enc))]).AM jo (AE fs.length AV.Af)):=
  ⟨by rw [AI,if_neg (A5 hne0),AI,if_pos rfl],BQ,hne0,hjo',hjp,Db hle0 hjo',by simp⟩
 generalize (σ.AM jp [AV.d (.sl (ds.map DE.enc)),.d (.sl (fs.map FE.enc))]).AM jo (AE fs.length AV.Af)=τ0 at hcs0;have hp0:=hcs0.prog;(repeat' (first|refine ctQ rfl ?_|((first|refine rgQ mxQ ?_|refine cdQ ?_)<;>try simp only [hp0,AA,go_sem])|fail));refine Run.BB ?_
 refine Run.BG ((fun (a1:AV) (a3:AV) (a18:AV) (a19:AV)=>fun (y:Nat×List AV×AH)=>put 1 a1 (put 3 a3 (put 18 a18 (put 19 a19 (put 20 (.d (.int .i64 y.1)) U))))) _ _ _ _) (fun _=>E) (fun y=>y.2.2)
  (fun y=>y.1<=fs.length/\CS σ jp jo ds fs y.2.1 y.2.2/\(∀k f,k < y.1->fs[k]?=some f->∃cv,y.2.1[k]?=some cv/\SlV cv ((Xo fs f).map CC))/\∀k,y.1<=k->k < fs.length->y.2.1[k]?=some .Af)
  (fun y=>fs.length - y.1) ?_ (0,AE fs.length AV.Af,τ0) ⟨by simp,hcs0,fun k f hk=>by simp only at hk;omega,fun k _ hk=>by simp [hk]⟩
 rintro ⟨i,cells,τ⟩ ⟨hi,hcs,hdone,hrest⟩ ih;simp only at hi hcs hdone hrest;by_cases hlt:i < fs.length
 . obtain ⟨f,hf⟩:=Ak hlt;have he:=BR (enc:=FE.enc) hf;have hw1:=A7 (show i+1<=9000000000000000000 by omega);obtain ⟨hsz,hx⟩:=hfacts f (AD hf);have hp1:=hcs.prog;obtain ⟨nm,ps,o,n,u,ns,ks,al⟩:=f;simp only [FE.enc,Ex.A4,AG,AN] at he;(repeat' ((first|refine wQ mxQ rfl ?_|(refine Nz.mk (n:=fs.length) (by omega) (by omega) (fun jm hjm=>?_))|fail)<;>try simp only [Ag hlt,he,hp1,AA,go_sem]));rw [Wd];have hcs1:=hcs.new hjm (BL (AE fs.length false));rintro jf ⟨hjf,hjb⟩;have hj0:(τ.AM jm (BL (AE fs.length false))).blk jf=none:=by rw [AI];exact hjf
   have hbm:(τ.AM jm (BL (AE fs.length false))).blk jm=some (BL (AE fs.length false)):=BQ;generalize τ.AM jm (BL (AE fs.length false))=τ1 at hcs1 hbm hj0 hjb ⊢;have hfm:jm≠jf:=fun e=>by rw [<- e,hbm] at hj0;cases hj0
   have hfp:jp≠jf:=fun e=>by rw [<- e,hcs1.prog] at hj0;cases hj0
   have hfo:jo≠jf:=fun e=>by rw [<- e,hcs1.out] at hj0;cases hj0
   have hsb:∀(τ:AH) (i:Nat) (x:Nat×TypeId) (j:Nat),(τ.Br i x).blk j=τ.blk j:=fun _ _ _ _=>rfl;simp only [hsb,go_sem]
   have hm0:σ.blk jm=none:=by
    cases hc:σ.blk jm with
    |none=>rfl
    |some c=>rw [hcs.le.blk jm c hc] at hjm;cases hjm
   have hf0:σ.blk jf=none:=by
    cases hc:σ.blk jf with
    |none=>rfl
    |some c=>rw [hcs1.le.blk jf c hc] at hj0;cases hj0
   have hmp:jp≠jm:=fun e=>by rw [<- e,hcs.prog] at hjm;cases hjm
   have hmo:jo≠jm:=fun e=>by rw [<- e,hcs.out] at hjm;cases hjm
   have hcs2:CS σ jp jo ds fs cells (((τ1.AM jf [AV.Af]).Br jf (1,92)).AM jf [AV.ms jm fs.length 1 4]):=
    ⟨by rw [AI,if_neg hfp,hsb,AI,if_neg hfp];exact hcs1.prog,by rw [AI,if_neg hfo,hsb,AI,if_neg hfo];exact hcs1.out,hcs1.ne,hcs1.no,hcs1.np,Db (Zg (Db hcs1.le hf0) hjb) hf0,hcs1.len⟩
   have hbm2:(((τ1.AM jf [AV.Af]).Br jf (1,92)).AM jf [AV.ms jm fs.length 1 4]).blk jm=some (BL (AE fs.length false)):=by rw [AI,if_neg hfm,hsb,AI,if_neg hfm];exact hbm
   have hbf2:(((τ1.AM jf [AV.Af]).Br jf (1,92)).AM jf [AV.ms jm fs.length 1 4]).blk jf=some [AV.ms jm fs.length 1 4]:=BQ;generalize ((τ1.AM jf [AV.Af]).Br jf (1,92)).AM jf [AV.ms jm fs.length 1 4]=τ2 at hcs2 hbm2 hbf2;have hcb:=sP ds fs ⟨nm,ps,.mk o n u ns ks al⟩ hsz hbig jm jf jp 4 τ2 (AE fs.length false) (by simp) hbm2 (by rw [UM];exact hbf2) hcs2.prog (A5 hfm) hmp hx
   have hcs3:CS σ jp jo ds fs cells (τ2.AM jm (BL (YY fs (Cu (.mk o n u ns ks al) ps) (AE fs.length false)))):=
    ⟨by rw [AI,if_neg hmp];exact hcs2.prog,by rw [AI,if_neg hmo];exact hcs2.out,hcs2.ne,hcs2.no,hcs2.np,Db hcs2.le hm0,hcs2.len⟩
   have hbf3:(τ2.AM jm (BL (YY fs (Cu (.mk o n u ns ks al) ps) (AE fs.length false)))).blk jf=some [AV.ms jm fs.length 1 4]:=by rw [AI,if_neg (A5 hfm)];exact hbf2
   have hbm3:(τ2.AM jm (BL (YY fs (Cu (.mk o n u ns ks al) ps) (AE fs.length false)))).blk jm=some (BL (YY fs (Cu (.mk o n u ns ks al) ps) (AE fs.length false))):=BQ;simp only at hcb
   have hfg:∀g,g < fs.length->(YY fs (Cu (.mk o n u ns ks al) ps) (AE fs.length false))[g]?=some ((Cu (.mk o n u ns ks al) ps).any (MG fs g)):=fun g hg=>by
    rw [tG];simp [hg]
   have hfln:(YY fs (Cu (.mk o n u ns ks al) ps) (AE fs.length false)).length=fs.length:=by rw [iF];simp
   generalize YY fs (Cu (.mk o n u ns ks al) ps) (AE fs.length false)=fin at hcb hcs3 hbf3 hbm3 hfg hfln;generalize τ2.AM jm (BL fin)=τ3 at hcb hcs3 hbf3 hbm3;simp only [feA,FE.enc,Ex.A4,AG,AN] at hcb;(repeat' ((first|refine wQ mxQ rfl ?_|(refine AJ.mk rfl hcb ?_;rintro _ τ3 ⟨rfl,rfl⟩)|fail)<;>try simp only [hbf3,hfln,go_sem]));refine Run.BB ?_;have hci:=hrest i (AR _) hlt;have hcl:=hcs.len
   refine Run.BG ((fun (a1:AV) (a3:AV) (a4:AV) (a18:AV) (a19:AV) (a20:AV) (a32:AV) (a33:AV)=>fun (z:Nat×AV×AH)=>put 1 a1 (put 3 a3 (put 4 a4 (put 18 a18 (put 19 a19 (put 20 a20 (put 32 a32 (put 33 a33 (put 34 (.d (.int .i64 z.1)) U))))))))) _ _ _ _ _ _ _ _) (fun _=>E) (fun z=>z.2.2)
    (fun z=>z.1<=fs.length/\CS σ jp jo ds fs (cells.set i z.2.1) z.2.2/\z.2.2.blk jm=some (BL fin)/\C4 σ 3 1 (((Au z.1).filter fun g=>(Cu (.mk o n u ns ks al) ps).any (MG fs g)).map CC) z.2.1 z.2.2)
    (fun z=>fs.length - z.1) ?_ (0,.Af,τ3) ⟨by simp,by rw [show cells.set i .Af=cells from AIJ hci];exact hcs3,hbm3,⟨⟨τ3,rfl,hcs3.le⟩,hcs3.le,rfl,rfl,rfl,rfl,fun _=>rfl,rfl,rfl⟩⟩
   rintro ⟨g,cv,τ4⟩ ⟨hg,hcs4,hbm4,hown⟩ ih2;simp only at hg hcs4 hbm4 hown;by_cases hgl:g < fs.length
   . have hbg:=Gs (hfg g hgl);have hwg:=A7 (show g+1<=9000000000000000000 by omega);have ho4:=hcs4.out;have hgi:(cells.set i cv)[i]?=some cv:=by rw [BZ];simp;omega
     have hll:((i:Int) < (fs.length:Int))=True:=by simp only [eq_iff_iff,iff_true];omega
     have hll2:((g:Int) < (fs.length:Int))=True:=by simp only [eq_iff_iff,iff_true];omega
     cases hb:(Cu (.mk o n u ns ks al) ps).any (MG fs g) with
     |false=>
      rw [hb] at hbg
      have hrg:(Au (g+1)).filter (fun g=>(Cu (.mk o n u ns ks al) ps).any (MG fs g))=(Au g).filter (fun g=>(Cu (.mk o n u ns ks al) ps).any (MG fs g)):=by
       rw [List.range_succ,P1];simp [hb]
      (repeat' (refine wQ mxQ rfl ?_<;>try simp only [Ag hgl,hbm4,hbg,hwg,hll2,A2,go_sem]));exact ih2 (g+1,cv,τ4) ⟨by simp only;omega,hcs4,hbm4,by simp only [hrg];exact hown⟩ (by simp only;omega)
     |true=>
      rw [hb] at hbg
      have hrg:(Au (g+1)).filter (fun g=>(Cu (.mk o n u ns ks al) ps).any (MG fs g))=(Au g).filter (fun g=>(Cu (.mk o n u ns ks al) ps).any (MG fs g))++[g]:=by
       rw [List.range_succ,P1];simp [hb]
      have hlenR:(((Au g).filter fun g=>(Cu (.mk o n u ns ks al) ps).any (MG fs g)).map CC).length<=1000:=by
       have:=L3 (fun g=>(Cu (.mk o n u ns ks al) ps).any (MG fs g)) (Au g);rw [List.length_range] at this;rw [AA];omega
      have hset:∀v2,Gd i (cells.set i cv)++[v2]++FC (i+1) (cells.set i cv)=cells.set i v2:=fun v2=>by
       rw [wr1 _ (by rw [Kf];omega),List.set_set]
      have hlen1:(i+1<=(cells.set i cv).length)=True:=by simp;omega
      (repeat' ((first|refine wQ mxQ rfl ?_|(refine E6.own hown rfl (by simp) (by simp only [A0,By];omega) (by decide) (fun v2 σ2 ho2 hbk=>?_))|fail)<;>try simp only [Ag hgl,hbm4,hbg,hwg,hll2,A2,ho4,hll,hgi,hown.cell,go_sem]));have hb2:=(hbk jo).trans ho4;have hbm5:=(hbk jm).trans hbm4;have hp5:=(hbk jp).trans hcs4.prog;simp only [hll,hb2,ho2.cell,ho2.cells,hlen1,hset,A2,go_sem];(repeat' (refine wQ mxQ rfl ?_<;>try simp only [hwg,go_sem]));have ho3:=ho2.set hcs4.no (cells.set i v2);exact ih2 (g+1,v2,σ2.AM jo (cells.set i v2)) ⟨by simp only;omega,⟨by rw [AI,if_neg (A5 hcs4.ne)];exact hp5,BQ,hcs4.ne,hcs4.no,hcs4.np,ho3.le,by simp [hcl]⟩,by rw [AI,if_neg (A5 hmo)];exact hbm5,by simp only [hrg,B2];exact ho3⟩ (by simp only;omega)
   . have hgn:g=fs.length:=by omega
     subst hgn;(repeat' (refine wQ mxQ rfl ?_<;>try simp only [Bk hgl,hw1,go_sem]));refine ih (i+1,cells.set i cv,τ4) ⟨by simp only;omega,hcs4,fun k f hk hfk=>?_,fun k hk hkl=>?_⟩ (by simp only;omega)
     . simp only at hk ⊢;by_cases hki:k=i
       . subst hki;rw [hf] at hfk;cases hfk;exact ⟨cv,by rw [BZ];simp;omega,hown.slv⟩
       . rw [BZ,if_neg (fun e=>hki e.symm)];exact hdone k f (by omega) hfk
     . simp only at hk ⊢;rw [BZ,if_neg (by omega)];exact hrest k (by omega) hkl
 . have hin:i=fs.length:=by omega
   subst hin;obtain ⟨dvl,hdv,hch⟩:=ABE (r:=fun f=>(Xo fs f).map CC) hcs.len (fun k f hk=>hdone k f (AF.1 hk).1 hk);(repeat' (refine wQ mxQ rfl ?_<;>try simp only [Bk hlt,go_sem]));refine Run.freeze (F':=put 2 (Og (fs.map (Xo fs))) U) (σ':= { τ with blk:=fun j=>if (σ.blk j).isSome then τ.blk j else none}) hcs.out hdv (by rw [hcs.len,A2]) (Ah hbig (by decide)) (fun s=>?_) (fun k cs' hk=>⟨cs',hk,.inl rfl⟩) (fun j cs' hj'=>?_) (fun _ h=>h) ?_
   . by_cases h2:s=2
     . subst h2;right;simp only [D0,if_true,frz,and_self,Og,hch,List.map_map];rfl
     . left;simp only [D0,if_neg h2]
   . simp only at hj';cases hs:σ.blk j with
     |none=>rw [hs] at hj';cases hj'
     |some c=>
      rw [hs] at hj';exact ⟨(fun e=>by rw [e,hcs.no] at hs;cases hs),cs',hj',.inl rfl⟩
   . refine Run.CK Qu (σ2:=σ) (yS hcs.le) ?_;simp only [WR,Og,go_sem];exact hok
end Go.Ab
namespace Go.Ab
open Go.Proofs
set_option maxRecDepth 100000
set_option maxHeartbeats 40000000
noncomputable section
def W5:List (Nat×PT):=[(3,(pO [0] (.alt 1 (pO [2,3] .done) (.alt 2 (pO [1,3] .done) .done)))),(5,(pL [9] (pO [0,1,2,4,5,6] (.alt 3 (pO [7,8,10] .done) (.alt 7 (pO [3,8,10] .done) .done))))),(16,(pO [0,1,2] (.alt 3 (pO [4,5,6] .done) (.alt 5 (pO [3,4,6] .done) .done)))),(27,(pO [0,1,2,3,5,6,7] (.alt 4 (pO [8,9,10,11,12,13,14,15] .done) (.alt 8 (pO [9,10,11,12] (.alt 4 (pO [13,14,15] .done) (.alt 13 (pO [4,14,15] .done) .done))) .done))))]
noncomputable def Bd:Cx:=⟨Tzp,8,Tryz.f8,121,[300018,300021,300024,300026,300031,300035,300039,300046,300049,300105,300108,300119],[],[.c 2 (some 2),.c 3 (some 3)]⟩
theorem Kw:Good Bd:=⟨Tryz.func8,by kernel_rfl⟩
theorem Ji:Bd.rs=[.c 2 (some 2),.c 3 (some 3)]:=rfl
noncomputable def IZ:=BO Bd W5 fun c a b d e=>G c [a,b,d,e]
def Fy:C:=lpC 0 (IZ .skip .skip .skip .skip)
def Hs:C:=lpC 1 (IZ Fy .skip .skip .skip)
def Kn:C:=lpC 2 (IZ Fy Hs .skip .skip)
def Ht:C:=lpC 3 (IZ Fy Hs Kn .skip)
def hY:C:=(IZ Fy Hs Kn Ht).1
theorem iX:Inn Bd hY 121:=inn W5 Kw Tryz.ntmps8
def Q3:List (Nat×PT):=[(2,(pO [0,1,2,3,5,7,9] (.alt 4 (.alt 6 (.alt 8 (pO [10,11,12,13] .done) (.alt 10 (pO [8,11,12,13] .done) .done)) (.alt 8 (.alt 6 (pO [10,11,12,13] .done) (.alt 10 (pO [6,11,12,13] .done) .done)) (.alt 10 (.alt 6 (pO [8,11,12,13] .done) (.alt 8 (pO [6,11,12,13] .done) .done)) .done))) (.alt 6 (.alt 4 (.alt 8 (pO [10,11,12,13] .done) (.alt 10 (pO [8,11,12,13] .done) .done)) (.alt 8 (.alt 4 (pO [10,11,12,13] .done) (.alt 10 (pO [4,11,12,13] .done) .done)) (.alt 10 (.alt 4 (pO [8,11,12,13] .done) (.alt 8 (pO [4,11,12,13] .done) .done)) .done))) (.alt 8 (.alt 4 (.alt 6 (pO [10,11,12,13] .done) (.alt 10 (pO [6,11,12,13] .done) .done)) (.alt 6 (.alt 4 (pO [10,11,12,13] .done) (.alt 10 (pO [4,11,12,13] .done) .done)) (.alt 10 (.alt 4 (pO [6,11,12,13] .done) (.alt 6 (pO [4,11,12,13] .done) .done)) .done))) (.alt 10 (.alt 4 (.alt 6 (pO [8,11,12,13] .done) (.alt 8 (pO [6,11,12,13] .done) .done)) (.alt 6 (.alt 4 (pO [8,11,12,13] .done) (.alt 8 (pO [4,11,12,13] .done) .done)) (.alt 8 (.alt 4 (pO [6,11,12,13] .done) (.alt 6 (pO [4,11,12,13] .done) .done)) .done))) .done)))))),(7,(pO [0,1,2,4,5,6,7,8,9,10,11,12,13,14] (.alt 3 (pO [15,16,17] .done) (.alt 15 (pO [3,16,17] .done) .done)))),(8,(pO [0,1,2,4,5,6,7] (.alt 3 (pO [8,9,10] .done) (.alt 8 (pO [3,9,10] .done) .done))))]
noncomputable def G2:Cx:=⟨Tzp,27,Tryz.f27,70,[28,300014,300016,300050],[],[.t 8]⟩
theorem QP:Good G2:=⟨Tryz.func27,by kernel_rfl⟩
theorem Ys:G2.rs=[.t 8]:=rfl
noncomputable def QR:=BO G2 Q3 fun c a=>G c [a]
def V1:C:=lpC 0 (QR .skip)
def Ko:C:=(QR V1).1
theorem Za:Inn G2 Ko 70:=inn Q3 QP Tryz.ntmps27
def KX:List (Nat×PT):=[(2,(pO [0,1,2,3,4,6,10,11,12,13,14,15,16,17,18,19,20,21,22,23,24,25,26] (.alt 5 (pO [7,8] (.alt 9 (pO [27,28,29] .done) (.alt 27 (pO [9,28,29] .done) .done))) (.alt 27 (pO [5,7,8,9,28,29] .done) .done))))]
noncomputable def Eh:Cx:=⟨Tzp,28,Tryz.f28,51,[],[],[]⟩
theorem KJ:Good Eh:=⟨Tryz.func28,by kernel_rfl⟩
theorem R6:Eh.rs=[]:=rfl
noncomputable def S1:=BO Eh KX (G · [])
def Rr:C:=(S1).1
theorem SL:Inn Eh Rr 51:=inn KX KJ Tryz.ntmps28
noncomputable def FP:Cx:=⟨Tzp,29,Tryz.f29,26,[1,3,4],[],[.t 2]⟩
theorem HY:Good FP:=⟨Tryz.func29,by kernel_rfl⟩
theorem Sg:FP.rs=[.t 2]:=rfl
noncomputable def LA:=BO FP [] fun c a=>G c [a]
def P9:C:=lpC 0 (LA .skip)
def TL:C:=(LA P9).1
theorem TZ:Inn FP TL 26:=inn [] HY Tryz.ntmps29
noncomputable def Fi:Cx:=⟨Tzp,30,Tryz.f30,13,[1,3,4],[],[.t 2]⟩
theorem Le:Good Fi:=⟨Tryz.func30,by kernel_rfl⟩
theorem Ts:Fi.rs=[.t 2]:=rfl
noncomputable def Ur:=BO Fi [] (G · [])
def Ua:C:=(Ur).1
theorem Uk:Inn Fi Ua 13:=inn [] Le Tryz.ntmps30
noncomputable def FO:Cx:=⟨Tzp,31,Tryz.f31,38,[5,7],[],[.t 6]⟩
theorem FJ:Good FO:=⟨Tryz.func31,by kernel_rfl⟩
theorem Sf:FO.rs=[.t 6]:=rfl
noncomputable def T8:=BO FO [] (G · [])
def TI:C:=(T8).1
theorem TY:Inn FO TI 38:=inn [] FJ Tryz.ntmps31
def Ll:List (Nat×PT):=[(7,(pL [27] (pO [0,2,3,4,5,6,7,9,12,14,15,16,17,18,19,21,24] (.alt 1 (pO [8,10,11] (.alt 13 (pO [20,22,23,25,26,28] .done) (.alt 20 (pO [22] (.alt 13 (pO [23,25,26,28] .done) (.alt 23 (pO [13,25,26,28] .done) .done))) .done))) (.alt 8 (pO [10] (.alt 1 (pO [11] (.alt 13 (pO [20,22,23,25,26,28] .done) (.alt 20 (pO [22] (.alt 13 (pO [23,25,26,28] .done) (.alt 23 (pO [13,25,26,28] .done) .done))) .done))) (.alt 11 (.alt 1 (.alt 13 (pO [20,22,23,25,26,28] .done) (.alt 20 (pO [22] (.alt 13 (pO [23,25,26,28] .done) (.alt 23 (pO [13,25,26,28] .done) .done))) .done)) (.alt 20 (pO [22] (.alt 1 (.alt 13 (pO [23,25,26,28] .done) (.alt 23 (pO [13,25,26,28] .done) .done)) (.alt 23 (pO [1,13,25,26,28] .done) .done))) .done)) (.alt 20 (pO [22] (.alt 1 (pO [11] (.alt 13 (pO [23,25,26,28] .done) (.alt 23 (pO [13,25,26,28] .done) .done))) (.alt 11 (.alt 1 (.alt 13 (pO [23,25,26,28] .done) (.alt 23 (pO [13,25,26,28] .done) .done)) (.alt 23 (pO [1,13,25,26,28] .done) .done)) (.alt 23 (.alt 1 (pO [11,13,25,26,28] .done) (.alt 11 (pO [1,13,25,26,28] .done) .done)) .done)))) .done)))) (.alt 20 (pO [22] (.alt 1 (pO [8,10,11] (.alt 13 (pO [23,25,26,28] .done) (.alt 23 (pO [13,25,26,28] .done) .done))) (.alt 8 (pO [10] (.alt 1 (pO [11] (.alt 13 (pO [23,25,26,28] .done) (.alt 23 (pO [13,25,26,28] .done) .done))) (.alt 11 (.alt 1 (.alt 13 (pO [23,25,26,28] .done) (.alt 23 (pO [13,25,26,28] .done) .done)) (.alt 23 (pO [1,13,25,26,28] .done) .done)) (.alt 23 (.alt 1 (pO [11,13,25,26,28] .done) (.alt 11 (pO [1,13,25,26,28] .done) .done)) .done)))) (.alt 23 (.alt 1 (pO [8,10,11,13,25,26,28] .done) (.alt 8 (pO [10] (.alt 1 (pO [11,13,25,26,28] .done) (.alt 11 (pO [1,13,25,26,28] .done) .done))) .done)) .done)))) .done)))))),(15,(pO [0,1,2,3,4,5,6,8,9,10,11,12,7,13,14,15,16,17] .done))]
noncomputable def EG:Cx:=⟨Tzp,32,Tryz.f32,106,[300068,300070,300078,300084,300091,300104],[],[.c 4 (some 5),.t 5]⟩
theorem Ld:Good EG:=⟨Tryz.func32,by kernel_rfl⟩
theorem Tq:EG.rs=[.c 4 (some 5),.t 5]:=rfl
noncomputable def Ho:=BO EG Ll fun c a b=>G c [a,b]
def JP:C:=lpC 0 (Ho .skip .skip)
def JQ:C:=lpC 1 (Ho JP .skip)
def U8:C:=(Ho JP JQ).1
theorem Ui:Inn EG U8 106:=inn Ll Ld Tryz.ntmps32
noncomputable def EB:Cx:=⟨Tzp,54,Tryz.f54,21,[],[],[.t 4]⟩
theorem Io:Good EB:=⟨Tryz.func54,by kernel_rfl⟩
theorem PO:EB.rs=[.t 4]:=rfl
noncomputable def It:=BO EB [] fun c a=>G c [a]
def NS:C:=lpC 0 (It .skip)
def Pb:C:=(It NS).1
theorem Pl:Inn EB Pb 21:=inn [] Io Tryz.ntmps54
noncomputable def Fh:Cx:=⟨Tzp,55,Tryz.f55,6,[],[],[.t 2]⟩
theorem Hl:Good Fh:=⟨Tryz.func55,by kernel_rfl⟩
theorem Tr:Fh.rs=[.t 2]:=rfl
noncomputable def Uq:=BO Fh [] (G · [])
def U9:C:=(Uq).1
theorem Uj:Inn Fh U9 6:=inn [] Hl Tryz.ntmps55
def Nu:List (Nat×PT):=[(2,(pO [0,1,2,4,5,6,8,9,10,11,12,13,14,15,16,17,18,19] (.alt 3 (.alt 7 (pO [20,21,22] .done) (.alt 20 (pO [7,21,22] .done) .done)) (.alt 7 (.alt 3 (pO [20,21,22] .done) (.alt 20 (pO [3,21,22] .done) .done)) (.alt 20 (pO [3,7,21,22] .done) .done))))),(28,(pO [0,1,2,3,4,5,6,7,8,10,11,12,9,13,14] .done))]
noncomputable def C2:Cx:=⟨Tzp,56,Tryz.f56,170,[42,300045,300054,300065,300074,300081,300087,300094,300101,300125,300131,300141,300047],[],[.t 6]⟩
theorem Nh:Good C2:=⟨Tryz.func56,by kernel_rfl⟩
theorem WY:C2.rs=[.t 6]:=rfl
noncomputable def X3:=BO C2 Nu (G · [])
def BN:C:=(X3).1
theorem XY:Inn C2 BN 170:=inn Nu Nh Tryz.ntmps56
noncomputable def Gq:Cx:=⟨Tzp,57,Tryz.f57,28,[100025],[],[.t 6]⟩
theorem Ni:Good Gq:=⟨Tryz.func57,by kernel_rfl⟩
theorem W0:Gq.rs=[.t 6]:=rfl
noncomputable def Np:=BO Gq [] fun c a=>G c [a]
def TK:C:=lpC 0 (Np .skip)
def XR:C:=(Np TK).1
theorem X0:Inn Gq XR 28:=inn [] Ni Tryz.ntmps57
def Ln:List (Nat×PT):=[(2,(pL [16,17] (pO [0,1,2,3,4,5,6,7,8,9,10,12] (.alt 11 (pO [13,14] (.alt 15 (pO [18,19] .done) (.alt 18 (pO [15,19] .done) .done))) (.alt 18 (pO [11,13,14,15,19] .done) .done)))))]
noncomputable def Fj:Cx:=⟨Tzp,58,Tryz.f58,110,[300036,300048,300060,300062,300066,300068,300073,300076,300092,300099,300104],[],[]⟩
theorem B7:Good Fj:=⟨Tryz.func58,by kernel_rfl⟩
theorem Tt:Fj.rs=[]:=rfl
noncomputable def Lh:=BO Fj Ln fun c a=>G c [a]
def Qs:C:=lpC 0 (Lh .skip)
def Ub:C:=(Lh Qs).1
theorem Ul:Inn Fj Ub 110:=inn Ln B7 Tryz.ntmps58
noncomputable def E1:Cx:=⟨Tzp,59,Tryz.f59,46,[],[],[.t 5]⟩
theorem ET:Good E1:=⟨Tryz.func59,by kernel_rfl⟩
theorem Pz:E1.rs=[.t 5]:=rfl
noncomputable def J1:=BO E1 [] fun c a=>G c [a]
def OE:C:=lpC 0 (J1 .skip)
def Qq:C:=(J1 OE).1
theorem RJ:Inn E1 Qq 46:=inn [] ET Tryz.ntmps59
noncomputable def G3:Cx:=⟨Tzp,60,Tryz.f60,46,[],[],[.t 4]⟩
theorem Mj:Good G3:=⟨Tryz.func60,by kernel_rfl⟩
theorem VA:G3.rs=[.t 4]:=rfl
noncomputable def My:=BO G3 [] fun c a=>G c [a]
def Rv:C:=lpC 0 (My .skip)
def V2:C:=(My Rv).1
theorem Vs:Inn G3 V2 46:=inn [] Mj Tryz.ntmps60
noncomputable def El:Cx:=⟨Tzp,61,Tryz.f61,46,[],[],[.t 5]⟩
theorem Gv:Good El:=⟨Tryz.func61,by kernel_rfl⟩
theorem Ra:El.rs=[.t 5]:=rfl
noncomputable def KQ:=BO El [] fun c a=>G c [a]
def Oe:C:=lpC 0 (KQ .skip)
def Rx:C:=(KQ Oe).1
theorem SQ:Inn El Rx 46:=inn [] Gv Tryz.ntmps61
noncomputable def EY:Cx:=⟨Tzp,62,Tryz.f62,8,[],[],[.t 3]⟩
theorem JV:Good EY:=⟨Tryz.func62,by kernel_rfl⟩
theorem Pv:EY.rs=[.t 3]:=rfl
noncomputable def RT:=BO EY [] (G · [])
def Qk:C:=(RT).1
theorem RA:Inn EY Qk 8:=inn [] JV Tryz.ntmps62
noncomputable def Du:Cx:=⟨Tzp,63,Tryz.f63,9,[],[],[.t 4]⟩
theorem Ik:Good Du:=⟨Tryz.func63,by kernel_rfl⟩
theorem PJ:Du.rs=[.t 4]:=rfl
noncomputable def Pn:=BO Du [] (G · [])
def P3:C:=(Pn).1
theorem Pe:Inn Du P3 9:=inn [] Ik Tryz.ntmps63
noncomputable def CV:Cx:=⟨Tzp,64,Tryz.f64,9,[],[],[.t 4]⟩
theorem FZ:Good CV:=⟨Tryz.func64,by kernel_rfl⟩
theorem J7:CV.rs=[.t 4]:=rfl
noncomputable def KB:=BO CV [] (G · [])
def Jq:C:=(KB).1
theorem Jx:Inn CV Jq 9:=inn [] FZ Tryz.ntmps64
noncomputable def EZ:Cx:=⟨Tzp,65,Tryz.f65,14,[300006,300010],[],[.t 3]⟩
theorem G8:Good EZ:=⟨Tryz.func65,by kernel_rfl⟩
theorem Pw:EZ.rs=[.t 3]:=rfl
noncomputable def RU:=BO EZ [] (G · [])
def Ql:C:=(RU).1
theorem RE:Inn EZ Ql 14:=inn [] G8 Tryz.ntmps65
def Jc:List (Nat×PT):=[(1,(pO [0,1,2,3,4,5,6,7,8,9,11,12,13,15] (.alt 10 (pO [14,16,17,18,19,20,21] .done) (.alt 14 (pO [16] (.alt 10 (pO [17,18,19,20,21] .done) (.alt 17 (pO [18,10,19,20,21] .done) .done))) .done))))]
noncomputable def E0:Cx:=⟨Tzp,66,Tryz.f66,26,[],[],[.t 4]⟩
theorem JW:Good E0:=⟨Tryz.func66,by kernel_rfl⟩
theorem Py:E0.rs=[.t 4]:=rfl
noncomputable def RW:=BO E0 Jc (G · [])
def Qp:C:=(RW).1
theorem RH:Inn E0 Qp 26:=inn Jc JW Tryz.ntmps66
noncomputable def Ek:Cx:=⟨Tzp,67,Tryz.f67,25,[],[],[.t 6]⟩
theorem KL:Good Ek:=⟨Tryz.func67,by kernel_rfl⟩
theorem R9:Ek.rs=[.t 6]:=rfl
noncomputable def KO:=BO Ek [] fun c a=>G c [a]
def Od:C:=lpC 0 (KO .skip)
def Rw:C:=(KO Od).1
theorem SP:Inn Ek Rw 25:=inn [] KL Tryz.ntmps67
noncomputable def G5:Cx:=⟨Tzp,68,Tryz.f68,44,[300022,300035,300037,300040],[],[.c 6 (some 3)]⟩
theorem GH:Good G5:=⟨Tryz.func68,by kernel_rfl⟩
theorem VC:G5.rs=[.c 6 (some 3)]:=rfl
noncomputable def WG:=BO G5 [] (G · [])
def V4:C:=(WG).1
theorem Vu:Inn G5 V4 44:=inn [] GH Tryz.ntmps68
noncomputable def Gr:Cx:=⟨Tzp,90,Tryz.f90,24,[20,300016],[],[.t 4]⟩
theorem JA:Good Gr:=⟨Tryz.func90,by kernel_rfl⟩
theorem W1:Gr.rs=[.t 4]:=rfl
noncomputable def X4:=BO Gr [] (G · [])
def XS:C:=(X4).1
theorem X1:Inn Gr XS 24:=inn [] JA Tryz.ntmps90
def KZ:List (Nat×PT):=[(8,(pO [0,1,2,3,4,5,6,7,8,9,11,12,13,15] (.alt 10 (pO [14,16,17,18,19,20,21] .done) (.alt 14 (pO [16] (.alt 10 (pO [17,18,19,20,21] .done) (.alt 17 (pO [18,10,19,20,21] .done) .done))) .done)))),(11,(pO [0,1,2,3,4,5,6,7,8,9,10,11,13,14,15,16,17,18,19,20] (.alt 12 (pO [21,22,23,24,25,26] .done) (.alt 21 (pO [12,22,23,24,25,26] .done) .done))))]
noncomputable def Ej:Cx:=⟨Tzp,91,Tryz.f91,115,[5,300085,300096,300106],[],[.t 8]⟩
theorem Ed:Good Ej:=⟨Tryz.func91,by kernel_rfl⟩
theorem R8:Ej.rs=[.t 8]:=rfl
noncomputable def S2:=BO Ej KZ (G · [])
def Ru:C:=(S2).1
theorem SO:Inn Ej Ru 115:=inn KZ Ed Tryz.ntmps91
noncomputable def Eg:Cx:=⟨Tzp,92,Tryz.f92,22,[],[],[.t 4]⟩
theorem CN:Good Eg:=⟨Tryz.func92,by kernel_rfl⟩
theorem R5:Eg.rs=[.t 4]:=rfl
noncomputable def S0:=BO Eg [] (G · [])
def Ro:C:=(S0).1
theorem SK:Inn Eg Ro 22:=inn [] CN Tryz.ntmps92
noncomputable def G4:Cx:=⟨Tzp,93,Tryz.f93,12,[],[],[.t 6]⟩
theorem IW:Good G4:=⟨Tryz.func93,by kernel_rfl⟩
theorem VB:G4.rs=[.t 6]:=rfl
noncomputable def WE:=BO G4 [] (G · [])
def V3:C:=(WE).1
theorem Vt:Inn G4 V3 12:=inn [] IW Tryz.ntmps93
noncomputable def G0:Cx:=⟨Tzp,94,Tryz.f94,25,[300018],[],[.t 6]⟩
theorem Mh:Good G0:=⟨Tryz.func94,by kernel_rfl⟩
theorem Uy:G0.rs=[.t 6]:=rfl
noncomputable def Mw:=BO G0 [] fun c a=>G c [a]
def Rp:C:=lpC 0 (Mw .skip)
def VZ:C:=(Mw Rp).1
theorem Vq:Inn G0 VZ 25:=inn [] Mh Tryz.ntmps94
def Ns:List (Nat×PT):=[(6,(pO [0,1,2,3,4,5,7,8,9,10,11,12,14,18,22,25] (.alt 6 (pO [13,15,16,17,19,20,21,23,24,26,27] .done) (.alt 13 (pO [15,16] (.alt 6 (pO [17,19,20,21,23,24,26,27] .done) (.alt 17 (pO [19,20] (.alt 6 (pO [21,23,24,26,27] .done) (.alt 21 (pO [23] (.alt 6 (pO [24,26,27] .done) (.alt 24 (pO [6,26,27] .done) .done))) .done))) .done))) .done))))]
noncomputable def Gn:Cx:=⟨Tzp,95,Tryz.f95,80,[300019,300037,300048],[],[.t 6]⟩
theorem Ng:Good Gn:=⟨Tryz.func95,by kernel_rfl⟩
theorem WX:Gn.rs=[.t 6]:=rfl
noncomputable def Nn:=BO Gn Ns fun c a=>G c [a]
def TH:C:=lpC 0 (Nn .skip)
def XN:C:=(Nn TH).1
theorem XX:Inn Gn XN 80:=inn Ns Ng Tryz.ntmps95
def NI:List (Nat×PT):=[(3,(pO [0,1,2,3,4,5,6,7,8,10,11,12,13,14,15,9,16,17] .done)),(10,(pO [0,1,2,3,4,5,6,7,8,9,12,10,11,13] .done))]
noncomputable def G1:Cx:=⟨Tzp,96,Tryz.f96,117,[300024,300049,300067,300079,300106,300109],[],[.t 6]⟩
theorem Mi:Good G1:=⟨Tryz.func96,by kernel_rfl⟩
theorem Uz:G1.rs=[.t 6]:=rfl
noncomputable def Mx:=BO G1 NI fun c a=>G c [a]
def Rs:C:=lpC 0 (Mx .skip)
def V0:C:=(Mx Rs).1
theorem Vr:Inn G1 V0 117:=inn NI Mi Tryz.ntmps96
def KY:List (Nat×PT):=[(4,(pO [0,1,2,3,4,5,7,8,9,6,10,11] .done))]
noncomputable def Ei:Cx:=⟨Tzp,97,Tryz.f97,43,[300010,300020,300030],[],[.t 6]⟩
theorem DU:Good Ei:=⟨Tryz.func97,by kernel_rfl⟩
theorem R7:Ei.rs=[.t 6]:=rfl
noncomputable def KM:=BO Ei KY fun c a=>G c [a]
def Oc:C:=lpC 0 (KM .skip)
def Rt:C:=(KM Oc).1
theorem SM:Inn Ei Rt 43:=inn KY DU Tryz.ntmps97
def Jb:List (Nat×PT):=[(1,(pO [0,1,2,4,5,6,3,7,8,9] .done)),(2,(pO [0,1,2,3,4,6,7,8,9,10,5,11,12,13] .done)),(23,(pO [0,1,2,3,4,5,7,8,9] (.alt 6 (pO [10,11] .done) (.alt 10 (pO [6,11] .done) .done))))]
noncomputable def DJ:Cx:=⟨Tzp,98,Tryz.f98,101,[300040,300080,300091],[],[.t 6]⟩
theorem DF:Good DJ:=⟨Tryz.func98,by kernel_rfl⟩
theorem Px:DJ.rs=[.t 6]:=rfl
noncomputable def J0:=BO DJ Jb fun c a=>G c [a]
def Hu:C:=lpC 0 (J0 .skip)
def Qn:C:=(J0 Hu).1
theorem RG:Inn DJ Qn 101:=inn Jb DF Tryz.ntmps98
def Lk:List (Nat×PT):=[(4,(pO [0,1,2,3,5,6,7,8,9,10] (.alt 4 (pO [11,12,13] .done) (.alt 11 (pO [4,12,13] .done) .done)))),(7,(pO [0,1,2,3,4,5,6,7,8,10,11,12,13,9,14,15] .done)),(8,(pO [0,1,2,3,5,6,7,8] (.alt 4 (pO [9,10,11] .done) (.alt 9 (pO [4,10,11] .done) .done)))),(10,(pO [0,1,2,3,4,5,6,7,8,10,11,12,9,13,14] .done)),(12,(pO [0,1,2,3,4,5,6,7,8,10,9,11] .done)),(16,(pO [0,1,2,3,5,6,7,8] (.alt 4 (pO [9,10,11] .done) (.alt 9 (pO [4,10,11] .done) .done)))),(17,(pO [0,1,2,3,5,6,4,7,8,9] .done)),(19,(pO [0,1,2,3,4,5,6,8,9,10,11,12,13,14,19] (.alt 7 (pO [15,16,17,18,20] .done) (.alt 15 (pO [16] (.alt 7 (pO [17,18,20] .done) (.alt 17 (pO [7,18,20] .done) .done))) .done))))]
noncomputable def Fg:Cx:=⟨Tzp,99,Tryz.f99,168,[300014,300019,300026,300031,300043,300051,300064,300069,300080,300092,300102,300116,300121,300126,300141,300151,300156],[],[.t 6]⟩
theorem DB:Good Fg:=⟨Tryz.func99,by kernel_rfl⟩
theorem Tp:Fg.rs=[.t 6]:=rfl
noncomputable def Up:=BO Fg Lk (G · [])
def U7:C:=(Up).1
theorem EE:Inn Fg U7 168:=inn Lk DB Tryz.ntmps99
noncomputable def FL:Cx:=⟨Tzp,100,Tryz.f100,19,[],[],[.t 4]⟩
theorem FI:Good FL:=⟨Tryz.func100,by kernel_rfl⟩
theorem Sc:FL.rs=[.t 4]:=rfl
noncomputable def Kz:=BO FL [] fun c a=>G c [a]
def P5:C:=lpC 0 (Kz .skip)
def TC:C:=(Kz P5).1
theorem TU:Inn FL TC 19:=inn [] FI Tryz.ntmps100
noncomputable def Ce:Cx:=⟨Tzp,101,Tryz.f101,19,[],[],[.t 4]⟩
theorem Cc:Good Ce:=⟨Tryz.func101,by kernel_rfl⟩
theorem LH:Ce.rs=[.t 4]:=rfl
noncomputable def Gf:=BO Ce [] fun c a=>G c [a]
def Js:C:=lpC 0 (Gf .skip)
def L5:C:=(Gf Js).1
theorem L7:Inn Ce L5 19:=inn [] Cc Tryz.ntmps101
noncomputable def E3:Cx:=⟨Tzp,102,Tryz.f102,28,[2,5,6,7],[],[.t 4]⟩
theorem JX:Good E3:=⟨Tryz.func102,by kernel_rfl⟩
theorem QB:E3.rs=[.t 4]:=rfl
noncomputable def J2:=BO E3 [] fun c a=>G c [a]
def OF:C:=lpC 0 (J2 .skip)
def Qt:C:=(J2 OF).1
theorem RM:Inn E3 Qt 28:=inn [] JX Tryz.ntmps102
noncomputable def H5:Cx:=⟨Tzp,103,Tryz.f103,8,[5],[],[.t 2]⟩
theorem HW:Good H5:=⟨Tryz.func103,by kernel_rfl⟩
theorem Xb:H5.rs=[.t 2]:=rfl
noncomputable def Ye:=BO H5 [] (G · [])
def YP:C:=(Ye).1
theorem Y7:Inn H5 YP 8:=inn [] HW Tryz.ntmps103
noncomputable def Gp:Cx:=⟨Tzp,121,Tryz.f121,22,[],[],[.t 4,.t 5]⟩
theorem Iz:Good Gp:=⟨Tryz.func121,by kernel_rfl⟩
theorem WZ:Gp.rs=[.t 4,.t 5]:=rfl
noncomputable def No:=BO Gp [] fun c a=>G c [a]
def TJ:C:=lpC 0 (No .skip)
def XP:C:=(No TJ).1
theorem XZ:Inn Gp XP 22:=inn [] Iz Tryz.ntmps121
noncomputable def Dz:Cx:=⟨Tzp,122,Tryz.f122,8,[300005],[],[.t 3]⟩
theorem Im:Good Dz:=⟨Tryz.func122,by kernel_rfl⟩
theorem PN:Dz.rs=[.t 3]:=rfl
noncomputable def Pp:=BO Dz [] (G · [])
def P8:C:=(Pp).1
theorem Pk:Inn Dz P8 8:=inn [] Im Tryz.ntmps122
noncomputable def EC:Cx:=⟨Tzp,123,Tryz.f123,25,[300018],[],[.t 6]⟩
theorem Ip:Good EC:=⟨Tryz.func123,by kernel_rfl⟩
theorem PQ:EC.rs=[.t 6]:=rfl
noncomputable def Iu:=BO EC [] fun c a=>G c [a]
def NT:C:=lpC 0 (Iu .skip)
def Pc:C:=(Iu NT).1
theorem Pm:Inn EC Pc 25:=inn [] Ip Tryz.ntmps123
noncomputable def E2:Cx:=⟨Tzp,124,Tryz.f124,27,[300008,300012,300017,300019,300022],[],[.t 6]⟩
theorem EU:Good E2:=⟨Tryz.func124,by kernel_rfl⟩
theorem QA:E2.rs=[.t 6]:=rfl
noncomputable def RX:=BO E2 [] (G · [])
def Qr:C:=(RX).1
theorem RL:Inn E2 Qr 27:=inn [] EU Tryz.ntmps124
noncomputable def Cj:Cx:=⟨Tzp,125,Tryz.f125,50,[],[],[]⟩
theorem F2:Good Cj:=⟨Tryz.func125,by kernel_rfl⟩
theorem OT:Cj.rs=[]:=rfl
noncomputable def I0:=BO Cj [] fun c a=>G c [a]
def HL:C:=lpC 0 (I0 .skip)
def Of:C:=(I0 HL).1
theorem Ox:Inn Cj Of 50:=inn [] F2 Tryz.ntmps125
attribute [go_sem] Ji Ys R6 Sg Ts Sf Tq PO Tr WY W0 Tt Pz VA Ra Pv PJ J7 Pw Py R9 VC W1 R8 R5 VB Uy WX Uz R7 Px Tp Sc LH QB Xb WZ PN PQ QA OT
end
end Go.Ab
namespace Go.Ab
open Go.Proofs
structure Nd where
 k:Int
 n:Int
 ar:List Nat
 p:Nat
def Nd.row (x:Nd):List AV:=[.d (.int .i64 x.k),.d (.int .i64 x.n),.d (.sl (x.ar.map CC)),.d (.int .i64 (x.p:Int))]
def ndC (l:List Nd):List AV:=(l.map Nd.row).flatten
abbrev tkN:Nat:=143
def ndV (l:List Nd) (j:Nat):AV:=match l with
 |[]=>.Af
 |_::_=>.ms j l.length 4 tkN
theorem Eo {l:List Nd} (h:l≠[]) (j:Nat):ndV l j= .ms j l.length 4 tkN:=by
 cases l with
 |nil=>exact absurd rfl h
 |cons x l=>rfl
theorem AKX (l m:List Nd):ndC (l++m)=ndC l++ndC m:=by simp [ndC]
theorem Tb:∀l:List Nd,(ndC l).length=l.length * 4
 |[]=>rfl
 |x::l=>by
  have:=Tb l;simp only [ndC,AG,BK,A1,A0] at this ⊢;rw [this];simp [Nd.row];omega
theorem RY:∀ {l:List Nd} {i:Nat} {x:Nd},l[i]?=some x->(ndC l)[i * 4]?=some (.d (.int .i64 x.k))/\(ndC l)[i * 4+1]?=some (.d (.int .i64 x.n))/\(ndC l)[i * 4+2]?=some (.d (.sl (x.ar.map CC)))/\(ndC l)[i * 4+3]?=some (.d (.int .i64 (x.p:Int)))
 |y::l,0,x,h=>by
  simp only [Av,AK] at h;subst h;exact ⟨rfl,rfl,rfl,rfl⟩
 |y::l,i+1,x,h=>by
  have:=RY (l:=l) (i:=i) (x:=x) (by simpa using h)
  have hk:∀j,(ndC (y::l))[(i+1) * 4+j]?=(ndC l)[i * 4+j]?:=fun j=>by
   rw [show (i+1) * 4+j=4+(i * 4+j) from by omega];simp only [ndC,AG,BK];rw [At (by simp [Nd.row])];simp [Nd.row]
  have h0:=hk 0;simp only [Bw] at h0;rw [h0,hk,hk,hk];exact this
def RK (d:Nat->Nat) (l c:List Nd):Prop:=∀(i:Nat) (x y:Nd),l[i]?=some x->c[i]?=some y->(y.p=i/\x.p=i)\/(y.p≠i/\x.p≠i/\d y.p < d i/\∃z,l[y.p]?=some z/\z.p=x.p)
structure Rep (l c:List Nd):Prop where
 len:c.length=l.length
 sh:∀(i:Nat) (x y:Nd),l[i]?=some x->c[i]?=some y->y.k=x.k/\y.n=x.n/\y.ar=x.ar
 rk:∃d,RK d l c
structure ER (l:List Nd):Prop where
 p:∀(i:Nat) (x:Nd),l[i]?=some x->∃z,l[x.p]?=some z/\z.p=x.p
 ar:∀(i:Nat) (x:Nd),l[i]?=some x->∀a∈x.ar,a < l.length
theorem Rep.at {l c:List Nd} (h:Rep l c) {i:Nat} {x:Nd} (hi:l[i]?=some x):∃y,c[i]?=some y/\y.k=x.k/\y.n=x.n/\y.ar=x.ar:=by
 have:i < c.length:=by rw [h.len];exact (AF.1 hi).1
 exact ⟨c[i],by simp [this],h.sh i x _ hi (by simp [this])⟩
theorem Rep.nil:Rep [] []:=⟨rfl,fun i x y h=>by simp at h,fun _=>0,fun i x y h=>by simp at h⟩
theorem ER.nil:ER []:=⟨fun i x h=>by simp at h,fun i x h=>by simp at h⟩
theorem Mk {α:Type} {l:List α} {a x:α} {i:Nat} (h:(l++[a])[i]?=some x):l[i]?=some x\/(i=l.length/\x=a):=by
 by_cases hi:i < l.length
 . rw [BH hi] at h;exact .inl h
 . rw [At (by omega)] at h;have:=(AF.1 h).1;simp at this;have e:i=l.length:=by omega
   subst e;simp at h;exact .inr ⟨rfl,h.symm⟩
theorem iP {α:Type} {l:List α} {x:α} {i:Nat} (h:l[i]?=some x) (m:List α):(l++m)[i]?=some x:=by
 rw [BH (AF.1 h).1];exact h
theorem AGR {α:Type} (l:List α) (x:α):(l++[x])[l.length]?=some x:=by simp
theorem ER.add {l:List Nd} (h:ER l) (k n:Int) (ar:List Nat) (ha:∀a∈ar,a < l.length):ER (l++[⟨k,n,ar,l.length⟩]):=by
 refine ⟨fun i x hi=>?_,fun i x hi a hm=>?_⟩
 . rcases Mk hi with hi|⟨rfl,rfl⟩
   . obtain ⟨z,hz,e⟩:=h.p i x hi;exact ⟨z,iP hz _,e⟩
   . exact ⟨_,AGR _ _,rfl⟩
 . simp only [A1,C1];rcases Mk hi with hi|⟨rfl,rfl⟩
   . have:=h.ar i x hi a hm;omega
   . have:=ha a hm;omega
theorem Rep.add {l c:List Nd} (h:Rep l c) (k n:Int) (ar:List Nat):Rep (l++[⟨k,n,ar,l.length⟩]) (c++[⟨k,n,ar,l.length⟩]):=by
 obtain ⟨d,hd⟩:=h.rk;refine ⟨by simp [h.len],fun i x y hi hy=>?_,d,fun i x y hi hy=>?_⟩
 . rcases Mk hi with hi|⟨rfl,rfl⟩
   . rcases Mk hy with hy|⟨rfl,rfl⟩
     . exact h.sh i x y hi hy
     . have:=(AF.1 hi).1;have:=h.len;omega
   . rcases Mk hy with hy|⟨_,rfl⟩
     . have:=(AF.1 hy).1;have:=h.len;omega
     . exact ⟨rfl,rfl,rfl⟩
 . rcases Mk hi with hi|⟨rfl,rfl⟩
   . rcases Mk hy with hy|⟨rfl,rfl⟩
     . rcases hd i x y hi hy with h1|⟨a,b,e,z,hz,hp⟩
       . exact .inl h1
       . exact .inr ⟨a,b,e,z,iP hz _,hp⟩
     . have:=(AF.1 hi).1;have:=h.len;omega
   . rcases Mk hy with hy|⟨_,rfl⟩
     . have:=(AF.1 hy).1;have:=h.len;omega
     . exact .inl ⟨rfl,rfl⟩
theorem RK.AA0 {d:Nat->Nat} {l c:List Nd} (hd:RK d l c) {i:Nat} {y z:Nd} (hy:c[i]?=some y) (hne:y.p≠i) (hz:c[y.p]?=some z):RK d l (c.set i { y with p:=z.p}):=by
 have hil:i < c.length:=(AF.1 hy).1;intro j x w hx hw;by_cases e:i=j
 . subst e;rw [BE hil] at hw;cases hw;rcases hd i x y hx hy with ⟨h1,_⟩|⟨_,hb,hc,u,hu,hp⟩
   . exact absurd h1 hne
   . rcases hd _ u z hu hz with ⟨h1,h2⟩|⟨_,_,h3,u',hu',hp'⟩
     . refine .inr ⟨?_,hb,?_,?_⟩
       . simp only;rw [h1];exact hne
       . simp only;rw [h1];exact hc
       . simp only;rw [h1];exact ⟨u,hu,hp⟩
     . refine .inr ⟨fun e=>?_,hb,by simp only;omega,u',hu',by rw [hp',hp]⟩;simp only at e;rw [e] at h3;omega
 . rw [BC e] at hw;exact hd j x w hx hw
theorem Rep.AA0 {l c:List Nd} (h:Rep l c) {i:Nat} {y z:Nd} (hy:c[i]?=some y) (hne:y.p≠i) (hz:c[y.p]?=some z):Rep l (c.set i { y with p:=z.p}):=by
 obtain ⟨d,hd⟩:=h.rk;have hil:i < c.length:=(AF.1 hy).1;refine ⟨by simp [h.len],fun j x w hx hw=>?_,d,hd.AA0 hy hne hz⟩;by_cases e:i=j
 . subst e;rw [BE hil] at hw;cases hw;exact h.sh i x y hx hy
 . rw [BC e] at hw;exact h.sh j x w hx hw
def OW (a b:Nat) (l:List Nd):List Nd:=l.map fun x=>if x.p=a then { x with p:=b} else x
theorem LO (a b:Nat) (l:List Nd):(OW a b l).length=l.length:=by simp [OW]
theorem gE {a b:Nat} {l:List Nd} {i:Nat} {x:Nd} (h:(OW a b l)[i]?=some x):∃y,l[i]?=some y/\x.k=y.k/\x.n=y.n/\x.ar=y.ar/\x.p=if y.p=a then b else y.p:=by
 unfold OW at h;rw [Ao] at h;cases hl:l[i]? with
 |none=>rw [hl] at h;cases h
 |some y=>
  rw [hl] at h;simp only [Ad,AK] at h;refine ⟨y,rfl,?_⟩;subst h;split<;>simp_all
theorem ALS {a b:Nat} {l:List Nd} {i:Nat} {y:Nd} (h:l[i]?=some y):(OW a b l)[i]?=some (if y.p=a then { y with p:=b} else y):=by
 unfold OW;rw [Ao,h];rfl
theorem Sl {a b:Nat} {l:List Nd} {i:Nat} {y:Nd} (h:l[i]?=some y):∃z,(OW a b l)[i]?=some z/\z.k=y.k/\z.n=y.n/\z.ar=y.ar/\z.p=if y.p=a then b else y.p:=by
 refine ⟨_,ALS h,?_⟩;split<;>simp_all
theorem ER.uni {l:List Nd} (h:ER l) {a b:Nat} {x:Nd} (hb:l[b]?=some x) (hx:x.p=b) (hab:a≠b):ER (OW a b l):=by
 refine ⟨fun i y hi=>?_,fun i y hi c hc=>?_⟩
 . obtain ⟨z,hz,_,_,_,hp⟩:=gE hi;by_cases e:z.p=a
   . rw [if_pos e] at hp;rw [hp];obtain ⟨u,hu,_,_,_,hup⟩:=Sl (a:=a) (b:=b) hb;exact ⟨u,hu,by rw [hup,hx,if_neg (A5 hab)]⟩
   . rw [if_neg e] at hp;rw [hp];obtain ⟨w,hw,hwp⟩:=h.p i z hz;obtain ⟨u,hu,_,_,_,hup⟩:=Sl (a:=a) (b:=b) hw;exact ⟨u,hu,by rw [hup,hwp,if_neg e]⟩
 . obtain ⟨z,hz,_,_,har,_⟩:=gE hi;rw [LO];exact h.ar i z hz c (har ▸ hc)
theorem Rep.uni {l c:List Nd} (h:Rep l c) {a b:Nat} {x xb y:Nd} (ha:l[a]?=some x) (hx:x.p=a) (hb:l[b]?=some xb) (hxb:xb.p=b) (hab:a≠b) (hy:c[a]?=some y):Rep (OW a b l) (c.set a { y with p:=b}):=by
 obtain ⟨d,hd⟩:=h.rk;have hil:a < c.length:=(AF.1 hy).1;refine ⟨by simp [h.len,LO],fun j u w hu hw=>?_,fun j=>(if (l[j]?.map Nd.p)=some a then d j+d b+1 else d j),fun j u w hu hw=>?_⟩
 . obtain ⟨v,hv,h1,h2,h3,_⟩:=gE hu;rw [h1,h2,h3];by_cases e:a=j
   . subst e;rw [BE hil] at hw;cases hw;exact h.sh a v y hv hy
   . rw [BC e] at hw;exact h.sh j v w hv hw
 . obtain ⟨v,hv,_,_,_,hup⟩:=gE hu;by_cases e:a=j
   . subst e;rw [BE hil] at hw;cases hw;rw [ha] at hv;cases hv;rw [if_pos hx] at hup;right;obtain ⟨u',hu',_,_,_,hup'⟩:=Sl (a:=a) (b:=b) hb;refine ⟨A5 hab,by rw [hup];exact A5 hab,?_,u',hu',by rw [hup',hxb,if_neg (A5 hab),hup]⟩;simp only [ha,hb,Ad,AK,hx,hxb,if_true,if_neg (A5 hab)];omega
   . rw [BC e] at hw;rcases hd j v w hv hw with ⟨h1,h2⟩|⟨h1,h2,h3,z,hz,hzp⟩
     . left;have:¬v.p=a:=fun e'=>e (by omega);rw [hup,if_neg this];exact ⟨h1,h2⟩
     . right;obtain ⟨u',hu',_,_,_,hup'⟩:=Sl (a:=a) (b:=b) hz;refine ⟨h1,?_,?_,u',hu',by rw [hup',hup,hzp]⟩
       . rw [hup];split
         . rename_i e';intro eb;subst eb;rw [hb] at hv;cases hv;omega
         . exact h2
       . simp only [hv,hz,Ad,AK,hzp];split<;>omega
theorem Rep.root {l c:List Nd} (h:Rep l c) {i:Nat} {x y:Nd} (hx:l[i]?=some x) (hy:c[i]?=some y) (e:x.p=i):y.p=i:=by
 obtain ⟨d,hd⟩:=h.rk;rcases hd i x y hx hy with ⟨h1,_⟩|⟨_,h2,_⟩
 . exact h1
 . exact absurd e h2
structure SN (σ:AH) (i:Nat) (l:List Nd) (fl:Bool) (rest:List AV) (j:Nat):Prop where
 blk:σ.blk i=some (ndV l j::.d (.bool fl)::rest)
 Gw:ER l
 nd:l≠[]->j≠i/\∃c,Rep l c/\σ.blk j=some (ndC c)
structure Fr (σ:AH) (i:Nat) (l:List Nd) (j:Nat) (σ':AH) (l':List Nd) (j':Nat):Prop where
 blk:∀k,k≠i->(l≠[]->k≠j)->σ.blk k≠none->σ'.blk k=σ.blk k
 ii:σ.blk i≠none->σ'.blk i≠none
 nw:l'≠[]->(l≠[]/\j'=j)\/σ.blk j'=none
 gt:σ'.gt=σ.gt
 tok:∀t,σ.tok t=true->σ'.tok t=true
 bt:∀k x,σ.bt k=some x->σ'.bt k=some x
theorem Fr.refl (σ:AH) (i:Nat) (l:List Nd) (j:Nat):Fr σ i l j σ l j:=⟨fun _ _ _ _=>rfl,fun h=>h,fun h=>.inl ⟨h,rfl⟩,rfl,fun _ h=>h,fun _ _ h=>h⟩
theorem Fr.trans {σ σ' σ'':AH} {i j j' j'':Nat} {l l' l'':List Nd} (h:Fr σ i l j σ' l' j') (k:Fr σ' i l' j' σ'' l'' j'') (hi:σ.blk i≠none):Fr σ i l j σ'' l'' j'':=by
 have hk:∀x,x≠i->(l≠[]->x≠j)->σ.blk x≠none->(l'≠[]->x≠j'):=fun x hx hxj hn hl e=>by
  rcases h.nw hl with ⟨a,b⟩|a
  . exact hxj a (e.trans b)
  . rw [<- e] at a;exact hn a
 refine ⟨fun x hx hxj hn=>?_,fun h'=>k.ii (h.ii h'),fun hl=>?_,k.gt.trans h.gt,fun t ht=>k.tok t (h.tok t ht),fun y z hz=>k.bt y z (h.bt y z hz)⟩
 . have e:=h.blk x hx hxj hn;rw [k.blk x hx (hk x hx hxj hn) (by rw [e];exact hn),e]
 . rcases k.nw hl with ⟨a,rfl⟩|a
   . exact h.nw a
   . by_cases hl0:l≠[]/\j''=j
     . exact .inl hl0
     . right;cases hb:σ.blk j'' with
       |none=>rfl
       |some cs=>
        exfalso;by_cases e:j''=i
        . subst e;exact h.ii hi a
        . have:=h.blk j'' e (fun hl' e'=>hl0 ⟨hl',e'⟩) (by rw [hb];simp);rw [a,hb] at this;cases this
end Go.Ab
namespace Go.Ab
def rtN (l:List Nd) (a:Nat):Nat:=((l[a]?).map Nd.p).getD 0
theorem LJ {l:List Nd} {i:Nat} {x:Nd} (h:l[i]?=some x):rtN l i=x.p:=by simp [rtN,h]
def Kh (l:List Nd) (k n:Int) (ar:List Nat):List Nd:=l++[⟨k,n,ar,l.length⟩]
theorem Hb (l:List Nd) (k n:Int) (ar:List Nat):(Kh l k n ar).length=l.length+1:=by simp [Kh]
theorem nY {α:Type} {p q:α->Bool}:∀ {l:List α},(∀x∈l,q x=true->p x=true)->∀ {a:α},a∈l->p a=true->q a=false->l.countP q < l.countP p
 |x::l,h,a,ha,hp,hq=>by
  rw [Fk,Fk];have hm:l.countP q<=l.countP p:=List.countP_mono_left fun y hy e=>h y (AU _ hy) e;rcases As.1 ha with rfl|ha
  . rw [hp,hq];simp;omega
  . have:=nY (fun y hy=>h y (AU _ hy)) ha hp hq;have hx:=h x (AW);cases hqx:q x
    . simp;omega
    . rw [hx hqx];simp;omega
def rts (l:List Nd):Nat:=(Au l.length).countP fun i=>decide (rtN l i=i)
theorem N4 (l:List Nd):rts l<=l.length:=by
 have:=UL (p:=fun i=>decide (rtN l i=i)) (l:=Au l.length);simpa [rts] using this
theorem ALI {l:List Nd} {a:Nat} {x:Nd} (h:l[a]?=some x) (hx:x.p=a):0 < rts l:=by
 unfold rts;rw [List.countP_pos_iff];exact ⟨a,Bz.2 (AF.1 h).1,by simp [LJ h,hx]⟩
theorem ABJ {l:List Nd} {a b:Nat} {x xb:Nd} (ha:l[a]?=some x) (hx:x.p=a) (hb:l[b]?=some xb) (hxb:xb.p=b) (hab:a≠b):rts (OW a b l) < rts l:=by
 unfold rts;rw [LO];refine nY (fun i hi e=>?_) (a:=a) (Bz.2 (AF.1 ha).1) (by simp [LJ ha,hx]) ?_
 . have hi':=Bz.1 hi;have hl:l[i]?=some l[i]:=by simp [hi']
   obtain ⟨z,hz,_,_,_,hp⟩:=Sl (a:=a) (b:=b) hl;simp only [decide_eq_true_eq] at e ⊢;rw [LJ hz,hp] at e;rw [LJ hl];split at e
   . rename_i e';subst e;rw [hb] at hl;have:xb=l[b]:=by simpa using hl
     rw [<- this] at e';omega
   . exact e
 . obtain ⟨z,hz,_,_,_,hp⟩:=Sl (a:=a) (b:=b) ha;rw [LJ hz,hp,if_pos hx];simpa using fun e=>hab e.symm
abbrev SS:=List Nd×Bool
def K0:Nat->SS->Nat->Nat->SS
 |0,s,_,_=>s
 |k+1,s,a,b=>
  if rtN s.1 a=rtN s.1 b then s else
  match s.1[rtN s.1 a]?,s.1[rtN s.1 b]? with
  |some x,some y=>
   if x.k=0 then (OW (rtN s.1 a) (rtN s.1 b) s.1,s.2)
                                   else if y.k=0 then (OW (rtN s.1 b) (rtN s.1 a) s.1,s.2)
                                   else if x.k=y.k/\x.n=y.n/\x.ar.length=y.ar.length then (x.ar.zip y.ar).foldl (fun s p=>K0 k s p.1 p.2) (OW (rtN s.1 a) (rtN s.1 b) s.1,s.2)
                                   else (s.1,true)
  |_,_=>s
theorem bH {α:Type} (f:SS->α->SS) (h:∀s x,(f s x).1.length=s.1.length):∀(l:List α) (s:SS),(l.foldl f s).1.length=s.1.length
 |[],s=>rfl
 |x::l,s=>by rw [An,bH f h l,h]
theorem cV:∀(k:Nat) (s:SS) (a b:Nat),(K0 k s a b).1.length=s.1.length
 |0,s,a,b=>rfl
 |k+1,s,a,b=>by
  rw [K0];split
  . rfl
  . split
    . split
      . exact LO _ _ _
      . split
        . exact LO _ _ _
        . split
          . rw [bH (fun (s:SS) (x:Nat×Nat)=>K0 k s x.1 x.2) (fun s x=>cV k s x.1 x.2)];exact LO _ _ _
          . rfl
    . rfl
def uni (s:SS) (a b:Nat):SS:=K0 s.1.length s a b
theorem rW (s:SS) (a b:Nat):(uni s a b).1.length=s.1.length:=cV _ _ _ _
mutual
def Ey (ar:List Nat):List Nd->Ty->Nat×List Nd
 |l,.mk k n us=>if k=4 then (ar.getD n.toNat 0,l) else let r:=Ba ar l us;(r.2.length,Kh r.2 k n r.1)
def Ba (ar:List Nat):List Nd->List Ty->List Nat×List Nd
 |l,[]=>([],l)
 |l,t::ts=>let r:=Ey ar l t;let q:=Ba ar r.2 ts;(r.1::q.1,q.2)
end
def GG (l:List Nd):Nat->List Nd
 |0=>l
 |n+1=>Kh (GG l n) 0 0 []
theorem KH (l:List Nd):∀n,(GG l n).length=l.length+n
 |0=>rfl
 |n+1=>by rw [GG,Hb,KH l n];omega
mutual
def UA (n:Nat):Ty->Bool
 | .mk k m us=>if k=4 then decide (0<=m/\m < (n:Int)) else LP n us
def LP (n:Nat):List Ty->Bool
 |[]=>true
 |t::ts=>UA n t&&LP n ts
end
theorem Sm {n:Nat}:∀ {ts:List Ty},LP n ts=true->∀t∈ts,UA n t=true
 |t::ts,h,u,hu=>by
  rw [LP,AQ] at h;rcases As.1 hu with rfl|hu
  . exact h.1
  . exact Sm h.2 u hu
structure AO6 (l m:List Nd) (c:Nat):Prop where
 le:l.length<=m.length
 hi:m.length<=l.length+c
mutual
theorem Zb (ar:List Nat):∀(l:List Nd) (t:Ty),AO6 l (Ey ar l t).2 t.size
 |l,.mk k n us=>by
  rw [Ey];split
  . exact ⟨AR _,by simp⟩
  . have h:=MC ar l us;refine ⟨?_,?_⟩
    . simp only [Hb];have:=h.le;omega
    . simp only [Hb,Ty.size];have:=h.hi;omega
theorem MC (ar:List Nat):∀(l:List Nd) (ts:List Ty),AO6 l (Ba ar l ts).2 (Ty.AT ts)
 |l,[]=>⟨AR _,by simp [Ba]⟩
 |l,t::ts=>by
  have h1:=Zb ar l t;have h2:=MC ar (Ey ar l t).2 ts;simp only [Ba];exact ⟨Ah h1.le h2.le,by have:=h1.hi;have:=h2.hi;simp only [Ty.AT];omega⟩
end
theorem MD (ar:List Nat):∀(l:List Nd) (ts:List Ty),(Ba ar l ts).1.length=ts.length
 |l,[]=>rfl
 |l,t::ts=>by simp only [Ba,A0,MD ar _ ts]
mutual
theorem iY {ar:List Nat}:∀ {l:List Nd} {t:Ty},UA ar.length t=true->(∀a∈ar,a < l.length)->(Ey ar l t).1 < (Ey ar l t).2.length
 |l,.mk k n us,h,ha=>by
  rw [UA] at h;rw [Ey];split
  . rename_i hk;rw [if_pos hk] at h;simp only [decide_eq_true_eq] at h;have hn:n.toNat < ar.length:=by omega
    simp only [A6,Aw hn,Az];exact ha _ (HR hn)
  . simp only [Hb];omega
theorem Wo {ar:List Nat}:∀ {l:List Nd} {ts:List Ty},LP ar.length ts=true->(∀a∈ar,a < l.length)->∀a∈(Ba ar l ts).1,a < (Ba ar l ts).2.length
 |l,[],h,ha,a,hm=>by simp [Ba] at hm
 |l,t::ts,h,ha,a,hm=>by
  rw [LP,AQ] at h;have h1:=iY h.1 ha;have hle:=(Zb ar l t).le;have hle2:=(MC ar (Ey ar l t).2 ts).le;simp only [Ba,As] at hm ⊢;rcases hm with rfl|hm
  . omega
  . exact Wo h.2 (fun b hb=>by have:=ha b hb;omega) a hm
end
theorem dF (ar:List Nat) (t:Ty):∀(ts:List Ty) (l:List Nd),Ba ar l (ts++[t])=((Ba ar l ts).1++[(Ey ar (Ba ar l ts).2 t).1],(Ey ar (Ba ar l ts).2 t).2)
 |[],l=>rfl
 |u::ts,l=>by
  rw [AX,Ba];simp only [dF ar t ts];simp only [Ba,AX]
end Go.Ab
namespace Go.Ab
open Go.Proofs
theorem uI (l:List Nd) (j:Nat):(ndV l j).B5=true/\(ndV l j).BF=true/\(ndV l j).cells=[ndV l j]/\(∀k,(ndV l j).BT k=false)/\S4 (ndV l j)=some (.d (.int .i64 l.length)):=by
 cases l<;>exact ⟨rfl,rfl,rfl,fun _=>rfl,rfl⟩
theorem D8 (σ:AH) (i k:Nat):(σ.EI i).blk k=if k=i then none else σ.blk k:=rfl
theorem O7.nd {K:CO} {F:Fm} {L:Lm} {σ:AH} {d:Option Nat} {i j bytes:Nat} {l:List Nd} {fl:Bool} {rest:List AV} {x:AV} {k n:Int} {ar:List Nat} (h:SN σ i l fl rest j)
 (hx:x.rows=some [[.int .i64 k,.int .i64 n,.sl (ar.map CC),.int .i64 (l.length:Int)]]) (hl:l.length<=900000000) (ha:∀a∈ar,a < l.length) (hb:bytes<=10000)
 (hK:∀j' τ,τ.blk i=some (ndV l j::.d (.bool fl)::rest)->SN (τ.AM i (.ms j' (l.length+1) 4 tkN::.d (.bool fl)::rest)) i (Kh l k n ar) fl rest j'->
   Fr σ i l j (τ.AM i (.ms j' (l.length+1) 4 tkN::.d (.bool fl)::rest)) (Kh l k n ar) j'->K (BI d (.ms j' (l.length+1) 4 tkN) F) L τ):O7 tkN 4 bytes (ndV l j) x d K F L σ:=by
 have hbi:=h.blk;have hne:Kh l k n ar≠[]:=by simp [Kh]
 have hV:∀j',ndV (Kh l k n ar) j'= .ms j' (l.length+1) 4 tkN:=fun j'=>by rw [Eo hne,Hb]
 by_cases hl0:l=[]
 . subst hl0;refine O7.mk (n:=0) (cs:=[]) (σ1:=σ) rfl hx (by simp) (by simp) (by simp) hb (fun j' hj=>?_);have hji:j'≠i:=fun e=>by rw [e,hbi] at hj;cases hj
   refine hK j' _ (by rw [AI,if_neg (A5 hji)];exact hbi) ⟨by rw [AI,if_pos rfl,hV],h.Gw.add k n ar ha,fun _=>⟨hji,_,Rep.nil.add k n ar,?_⟩⟩ ⟨fun k' hk _ hn=>?_,fun _=>by simp [AI],fun _=>.inr hj,rfl,fun _ h=>h,fun _ _ h=>h⟩
   . rw [AI,if_neg hji,AI,if_pos rfl];simp [Ea,ndC,Nd.row]
   . rw [AI,if_neg hk,AI,if_neg (fun e=>hn (by rw [e];exact hj))]
 . obtain ⟨hji0,c,hrep,hbj⟩:=h.nd hl0;rw [Eo hl0];refine O7.mk (n:=l.length) (cs:=ndC c) (σ1:=σ.EI j) (by simp [N8,hbj,Tb,hrep.len]) hx (by simp) (by simp) (by simp;omega) hb (fun j' hj=>?_);have hji:j'≠i:=fun e=>by rw [e,hbi] at hj;cases hj
   refine hK j' _ (by rw [AI,if_neg (A5 hji),D8,if_neg (A5 hji0)];exact hbi) ⟨by rw [AI,if_pos rfl,hV],h.Gw.add k n ar ha,fun _=>⟨hji,_,hrep.add k n ar,?_⟩⟩ ⟨fun k' hk hkj hn=>?_,fun _=>by simp [AI],fun _=>.inr hj,rfl,fun _ h=>h,fun _ _ h=>h⟩
   . rw [AI,if_neg hji,AI,if_pos rfl,AKX];simp [Ea,ndC,Nd.row]
   . rw [AI,if_neg hk,AI,if_neg (fun e=>hn (by rw [e];exact hj)),D8,if_neg (hkj hl0)]
def SNQ (σ:AH) (i:Nat) (l:List Nd) (rest:List AV) (j:Nat) (s:SS) (v0:AV) (v:AV) (σ':AH):Prop:=v=v0/\∃j',SN σ' i s.1 s.2 rest j'/\Fr σ i l j σ' s.1 j'
def nA (n:Nat):AV:= .d (.int .i64 (n:Int))
structure Qa (v:AV) (rows:List (List DV)):Prop where
 dv:v.dv=some (.sl rows)
 cell:v.B5=true
 BF:v.BF=true
 cells:v.cells=[v]
 BT:∀k,v.BT k=false
theorem Qa.d (rows:List (List DV)):Qa (.d (.sl rows)) rows:=⟨rfl,rfl,rfl,rfl,fun _=>rfl⟩
theorem Qa.Af:Qa .Af []:=⟨rfl,rfl,rfl,rfl,fun _=>rfl⟩
theorem J9 (i j:Nat) (l:List Nd) (fl:Bool) (rest:List AV) (σ:AH) (k n:Int) (v:AV) (ar:List Nat) (h:SN σ i l fl rest j) (hv:Qa v (ar.map CC)) (ha:∀a∈ar,a < l.length) (hl:l.length<=900000000):
 AS Tzp 90 [.gp i 0,.agg [.d (.int .i64 k),.d (.int .i64 n),v]] σ (SNQ σ i l rest j (Kh l k n ar,fl) (nA l.length)):=by
 have hbi:=h.blk;obtain ⟨c1,c2,c3,c4,c5⟩:=uI l j;refine X1 (by simp) ?_;rw [BS];(repeat' ((first|refine wQ mxQ rfl ?_|refine Run.qP JA ?_|fail)<;>try simp only [hbi,c1,c2,c3,c4,c5,hv.dv,hv.cell,hv.BF,hv.cells,hv.BT,go_sem]));refine O7.nd h rfl hl ha (by omega) (fun j' τ h1 h2 h3=>?_);simp only [h1,go_sem];(repeat' ((first|refine wQ mxQ rfl ?_|refine Run.qP JA ?_|fail)<;>try simp only [go_sem]));exact ⟨rfl,j',h2,h3⟩
theorem Fw (i j:Nat) (l:List Nd) (fl:Bool) (rest:List AV) (σ:AH) (h:SN σ i l fl rest j) (hl:l.length<=900000000):
 AS Tzp 55 [.gp i 0] σ (SNQ σ i l rest j (Kh l 0 0 [],fl) (nA l.length)):=by
 refine Uj (by simp) ?_;rw [Bs];(repeat' ((first|refine wQ mxQ rfl ?_|refine Run.qP Hl ?_|fail)<;>try simp only [go_sem]));refine AJ.mk rfl (J9 i j l fl rest σ 0 0 .Af [] h Qa.Af (by simp) hl) ?_;rintro _ σ' ⟨rfl,j',h2,h3⟩;simp only [nA];simp only [go_sem];(repeat' ((first|refine wQ mxQ rfl ?_|refine Run.qP Hl ?_|fail)<;>try simp only [go_sem]));exact ⟨rfl,j',h2,h3⟩
theorem Bm (i j:Nat) (l:List Nd) (fl:Bool) (rest:List AV) (σ:AH) (k:Int) (v:AV) (ar:List Nat) (h:SN σ i l fl rest j) (hv:Qa v (ar.map CC)) (ha:∀a∈ar,a < l.length) (hl:l.length<=900000000):
 AS Tzp 93 [.gp i 0,.d (.int .i64 k),v] σ (SNQ σ i l rest j (Kh l k 0 ar,fl) (nA l.length)):=by
 refine Vt (by simp) ?_;rw [D6];(repeat' ((first|refine wQ mxQ rfl ?_|refine Run.qP IW ?_|fail)<;>try simp only [hv.cell,hv.BF,hv.cells,hv.BT,go_sem]));refine AJ.mk (by simp [hv.BF,AV.BF]) (J9 i j l fl rest σ k 0 v ar h hv ha hl) ?_;rintro _ σ' ⟨rfl,j',h2,h3⟩;simp only [nA];simp only [go_sem];(repeat' ((first|refine wQ mxQ rfl ?_|refine Run.qP IW ?_|fail)<;>try simp only [go_sem]));exact ⟨rfl,j',h2,h3⟩
theorem SN.same {σ σ':AH} {i j:Nat} {l:List Nd} {fl:Bool} {rest:List AV} (h:SN σ i l fl rest j):∀ {l':List Nd},l'=l->SN σ i l' fl rest j:=fun e=>by rw [e];exact h
theorem ltT {a b:Nat} (h:a < b):((a:Int) < (b:Int))=True:=by simp [h]
theorem AAD {c:List Nd} {n:Nat} {y:Nd} (h:c[n]?=some y) (p:Nat):(ndC c).take (n * 4+3)++[.d (.int .i64 (p:Int))]++(ndC c).drop (n * 4+3+1)=ndC (c.set n { y with p:=p}):=by
 induction c generalizing n with
 |nil=>simp at h
 |cons x c ih=>
  cases n with
  |zero=>
   simp only [Av,AK] at h;subst h;rfl
  |succ n=>
   have:=ih (n:=n) (by simpa using h);simp only [CH];rw [show ndC (x::c)=x.row++ndC c from by simp [ndC],show ndC (x::c.set n { y with p:=p})=x.row++ndC (c.set n { y with p:=p}) from by simp [ndC],<- this,show (n+1) * 4+3=x.row.length+(n * 4+3) from by simp [Nd.row];omega];rw [YJ,show x.row.length+(n * 4+3)+1=x.row.length+(n * 4+3+1) from by omega,HF];simp
theorem HB (i j:Nat) (l:List Nd) (fl:Bool) (rest:List AV) (σ:AH) (n:Nat) (h:SN σ i l fl rest j) (hn:n < l.length) (hl:l.length<=900000000):
 AS Tzp 60 [.gp i 0,nA n] σ (SNQ σ i l rest j (l,fl) (nA (rtN l n))):=by
 have hl0:l≠[]:=fun e=>by rw [e] at hn;cases hn
 refine Vs (by simp) ?_;rw [BS];simp only [nA];(repeat' (refine wQ mxQ rfl ?_<;>try simp only [go_sem]));refine Run.BB ?_;obtain ⟨hji,c0,hrep0,hbj0⟩:=h.nd hl0;obtain ⟨d0,hd0⟩:=hrep0.rk
 refine Run.BG ((fun (a0:AV)=>fun (y:Nat×List Nd×AH×(Nat->Nat))=>put 0 a0 (put 1 (.d (.int .i64 y.1)) U)) _) (fun _=>E) (fun y=>y.2.2.1)
  (fun y=>y.1 < l.length/\rtN l y.1=rtN l n/\Rep l y.2.1/\y.2.2.1.blk j=some (ndC y.2.1)/\y.2.2.1.blk i=σ.blk i/\(∀k,k≠i->k≠j->y.2.2.1.blk k=σ.blk k)/\y.2.2.1.gt=σ.gt/\y.2.2.1.tok=σ.tok/\y.2.2.1.bt=σ.bt/\
    RK y.2.2.2 l y.2.1)
  (fun y=>y.2.2.2 y.1) ?_ (n,c0,σ,d0) ⟨hn,rfl,hrep0,hbj0,rfl,fun _ _ _=>rfl,rfl,rfl,rfl,hd0⟩
 rintro ⟨m,c,τ,d⟩ ⟨hm,hrt,hrep,hbj,hbi,hoth,hgt,htok,hbt,hd⟩ ih;simp only at hm hrt hrep hbj hbi hoth hgt htok hbt hd;rw [h.blk,Eo hl0] at hbi;obtain ⟨y,hy,hyk⟩:=hrep.at (show l[m]?=some l[m] by simp [hm]);obtain ⟨y1,y2,y3,y4⟩:=RY hy;have hlt:=ltT hm;have hcase:=hd m _ y (show l[m]?=some l[m] by simp [hm]) hy;by_cases hpm:y.p=m
 . have hb:((y.p:Int) != (m:Int))=false:=by simp [hpm]
   (repeat' ((first|refine wQ mxQ rfl ?_|refine Run.qP Mj ?_|fail)<;>try simp only [hbi,hbj,y4,hlt,hb,go_sem]))
   have hr:rtN l n=m:=by
    rw [<- hrt,LJ (show l[m]?=some l[m] by simp [hm])];rcases hcase with h1|h1
    . exact h1.2
    . exact absurd hpm h1.1
   refine ⟨by rw [hr],j,⟨by rw [hbi,Eo hl0],h.Gw,fun _=>⟨hji,c,hrep,hbj⟩⟩,⟨fun k hk hkj _=>hoth k hk (hkj hl0),fun _=>by rw [hbi];simp,fun _=>.inl ⟨hl0,rfl⟩,hgt,fun t ht=>by rw [htok];exact ht,fun k x hx=>by rw [hbt];exact hx⟩⟩
 . have hb:((y.p:Int) != (m:Int))=true:=by simpa using fun e=>hpm (by omega)
   obtain ⟨z0,hz0,hzp⟩:=(hcase.resolve_left (fun h1=>hpm h1.1)).2.2.2;obtain ⟨z,hz,_⟩:=hrep.at hz0;have hpl:y.p < l.length:=(AF.1 hz0).1;obtain ⟨_,_,_,z4⟩:=RY hz;have hlp:=ltT hpl;have hmc:m < c.length:=by rw [hrep.len];exact hm
   have hrep':=hrep.AA0 hy hpm hz;have hy':(c.set m { y with p:=z.p})[m]?=some { y with p:=z.p}:=by simp [hmc]
   obtain ⟨_,_,_,w4⟩:=RY hy';have hsi:∀cs,(τ.AM j cs).blk i=some (AV.ms j l.length 4 tkN::AV.d (DV.bool fl)::rest):=fun cs=>by rw [AI,if_neg (A5 hji),hbi]
   have hsj:∀cs,(τ.AM j cs).blk j=some cs:=fun cs=>BQ;have hle:(m * 4+3+1<=(ndC c).length)=True:=by rw [Tb,hrep.len];simp;omega
   have hwr:=AAD hy z.p;(repeat' (refine wQ mxQ rfl ?_<;>try simp only [hbi,hbj,y4,hlt,hb,hlp,z4,hsi,hsj,w4,hle,hwr,go_sem]));refine ih ⟨z.p,c.set m { y with p:=z.p},τ.AM j (ndC (c.set m { y with p:=z.p})),d⟩ ⟨?_,?_,hrep',BQ,by rw [AI,if_neg (A5 hji),hbi,h.blk,Eo hl0],fun k hk hkj=>by rw [AI,if_neg hkj,hoth k hk hkj],hgt,htok,hbt,hd.AA0 hy hpm hz⟩ ?_
   . rcases hd _ z0 z hz0 hz with ⟨h1,_⟩|⟨_,_,_,u,hu,_⟩
     . simp only;rw [h1];exact hpl
     . exact (AF.1 hu).1
   . simp only;rw [<- hrt,LJ (show l[m]?=some l[m] by simp [hm])];rcases hd _ z0 z hz0 hz with ⟨h1,h2⟩|⟨_,_,_,u,hu,hup⟩
     . rw [h1,LJ hz0,hzp]
     . rw [LJ hu,hup,hzp]
   . simp only;have h1:=(hcase.resolve_left (fun h1=>hpm h1.1)).2.2.1;rcases hd _ z0 z hz0 hz with ⟨h2,_⟩|⟨_,_,h3,_⟩
     . rw [h2];exact h1
     . omega
end Go.Ab
