/- Part Oq. Conditions: none. -/
import Derived.Shelf.Strconv.Itoa4
import Derived.Lib.ItoaLen
import Derived.Lib.LaidTab
import Derived.Shelf.Strings.Builder1
import Derived.Shelf.LaysM
import Derived.Test.YtofehhbehegimaaGreatDoorProg
import Derived.Test.YtofehhbehegimaaGreatDoorXOb
set_option linter.unusedSimpArgs false
set_option linter.unusedVariables false
set_option maxRecDepth 100000
set_option maxHeartbeats 40000000
set_option linter.defProp false
open Go.Proofs.Tryz renaming prog→Tzp
open List renaming all_eq_true→Aj,getElem_of_mem→Bv,getElem?_eq_getElem→Ay,mem_of_getElem?→AD,getElem?_eq_some_iff→AE,map_append→Ao,map_cons→AF,map_nil→AN,cons_append→AX,nil_append→Ag,take_length→BQ,mem_append→AZ,mem_singleton→A3,length_map→AA,nodup_append→G6,flatMap_cons→DJ,mem_cons_self→AW,mem_cons_of_mem→AU,length_append→AY,sum_cons→Er,foldl_append→Ch,foldl_cons→Au,mem_append_left→XF,mem_cons→Az,length_cons→A0,length_singleton→Bm,getElem?_set_ne→BJ,getElem?_set_self→BK,replicate→AG,getElem?_replicate→RH,length_nil→Bw,range'→A8,mem_map→B8,getElem?_of_mem→Hv,getD_eq_getElem?_getD→A2,countP_le_length→Vr,getElem?_cons_zero→Aw,set_cons_zero→KY,countP_cons→Fj,set_cons_succ→CR,range→Av,mem_range→Bz,all_append→ZV,take_of_length_le→AP,take→G7,drop→Fk,length_take→B5,getElem?_set→B3,ext_getElem?→Et,getElem?_map→Am,getElem?_range→Dy,getElem?_eq_none→BM,length_set→Kb,find?_eq_none→QO,pairwise_cons→KX,filter_append→QN,length_filter_le→L2,append_nil→Bu,replicate_succ→BV,flatten_cons→BW,mem_filter→ZX,mem_or_eq_of_mem_set→iA,getElem_mem→E5,nodup_cons→ZZ,map_congr_left→FA,take_zero→C0,take_length_add_append→bI,drop_length_add_append→HD,take_succ_cons→C7,drop_succ_cons→Ez,length_pos_iff→Iu,length_replicate→Vs,eq_nil_of_length_eq_zero→An,append_assoc→Aq,getElem?_append_right→As,all_cons→BO,contains_cons→QM,take_append_drop→A7,flatten_append→It,drop_length→N9,drop_zero→TG,all_nil→Cq
open Option renaming map_some→Ac,getD_some→BA,isSome_iff_exists→mS,bind_some→E6
open Option.some renaming injEq→AM,inj→Kc
open Int renaming eq_ofNat_of_zero_le→G5,toNat_natCast→CO,reduceBEq→Aa
open Nat renaming mul_one→A9,le_refl→AS,strongRecOn→Cc,le_trans→Af,eq_zero_or_pos→KZ,min_eq_left→FN,zero_add→BF,lt_or_ge→C8,mul_le_mul_right→Bi,succ_mul→Na,zero_mul→Nb,add_mul→Bs,reduceEqDiff→HN,lt_of_lt_of_le→Be
open Bool renaming and_eq_true→AO,and_eq_false_iff→Vo,eq_false_iff→CX,false_and→Mk,and_true→BU,eq_iff_iff→Ak,or_eq_false_iff→CY,or_eq_true→Cb,true_and→Bk,false_or→Ep,not_eq_true'→Br,or_false→L1
open Ne renaming symm→A6
open Except renaming map→C4
open Except.ok renaming injEq→EN
open List.cons renaming injEq→ZW
open Array renaming getElem?_modify→Vn
namespace Go.Ab
variable {A vs:List Nat} {F:Fm} {L:Lm} {R ls:List Bool} {a b e j1 j3 j4 je jn jr js k m v:Nat} {fe:FE} {ks:List Ex} {p:Pg} {s:AV} {ty:TypeId} {α:Type}
section
open Go.Proofs
def Run.AcF {cx:Cx} {KK:AV->AH->Prop} {k:List CI} {L':Lm} {Y:AH} (hL:∀q cs',L' q=some cs'->∃cs,L q=some cs/\(cs'=cs\/cs'=AV.CV cs)) (h:Run cx KK k F L' Y):Run cx KK k F L Y:=by
 intro items base g lam Pr a w0 w b cs0 hi0 hf hb hk;refine h items base g lam Pr a w0 w b cs0 hi0 ⟨hf.tm,hf.sz,hf.df,fun q cs' hq=>?_,hf.inj,hf.npr,hf.rel⟩ hb hk;obtain ⟨cs,hc,hp⟩:=hL q cs' hq;obtain ⟨hok,b',vs,ty,h1,h2,h3,h4⟩:=hf.loc q cs hc;refine ⟨?_,b',vs,ty,h1,h2,h3,?_⟩
 . rcases hp with rfl|rfl
   . exact hok
   . simp only [Ax,Aj] at hok ⊢;intro v hv;obtain ⟨i,hi,rfl⟩:=Bv hv;have h1:=MV cs i;rw [Ay hi] at h1;cases hcs:cs[i]? with
     |none=>rw [hcs] at h1;cases h1
     |some c'=>rw [hcs] at h1;simp only [Ac,AM] at h1;rw [h1];exact dG (hok c' (AD hcs))
 . rcases hp with rfl|rfl
   . exact h4
   . exact h4.plain
structure TX (B:GB) (ext:Nat->Option (List AV)) (l:List Nd) (fl:Bool) (j:Nat) (τ:AH):Prop where
 sn:SN τ B.i l fl B.rest j
 x:∀k cs,ext k=some cs->τ.blk k=some cs
 xi:ext B.i=none
 xj:ext j=none
variable {B:GB} {ext:Nat->Option (List AV)} {l:List Nd} {fl:Bool} {j j':Nat} {τ τ':AH}
def TX.step (hl:l≠[]) (h:TX B ext l fl j τ) (sn:SN τ' B.i l fl B.rest j') (fr:Fr τ B.i l j τ' l j'):TX B ext l fl j' τ':=by
 have Z:∀k cs,ext k=some cs->τ'.blk k=some cs:=fun k cs hk=>by
  have h1:=h.x k cs hk;rw [fr.blk k (fun e=>by rw [e,h.xi] at hk;cases hk) (fun _ e=>by rw [e,h.xj] at hk;cases hk) (by rw [h1];simp),h1]
 refine ⟨sn,Z,h.xi,?_⟩;rcases fr.nw hl with ⟨_,e⟩|e
 . rw [e];exact h.xj
 . cases he:ext j' with
   |none=>rfl
   |some cs=>rw [h.x _ _ he] at e;cases e
def TX.own (h:TX B ext l fl j τ) (hb:∀k,τ'.blk k=τ.blk k):TX B ext l fl j τ':=⟨h.sn.own hb,fun k cs hk=>by rw [hb];exact h.x k cs hk,h.xi,h.xj⟩
structure RF (B:GB) (ext:Nat->Option (List AV)) (l:List Nd) (f jc:Nat) (es:List AV) (pl:List Nat) (rf:Nat) (en:List En):Prop where
 xm:ext B.jm=some (BP B.G.mem)
 xp:ext B.jp=some (psC B.G.ps)
 xr:ext B.jr=some (Ct B.G.rs)
 xe:ext B.je=some es
 hes:es.length=B.es.length
 xc:en≠[]->ext jc=some (enC en)
 hpl:B.G.ps[f]?=some pl
 hrf:B.G.rs[f]?=some rf
 hen:es[f]?=some (enV en jc)
 ln:en.length<=900000000
 ps:∀q∈B.G.ps,q.length<=1000/\∀a∈q,a < l.length
 rs:∀a∈B.G.rs,a < l.length
 lm:B.G.mem.length=B.G.fs.length
 lp:B.G.ps.length=B.G.fs.length
 lr:B.G.rs.length=B.G.fs.length
 ent:∀x∈en,x.t < l.length/\-1<=x.f/\x.f < (B.G.fs.length:Int)/\∀a∈x.ar,a < l.length
 szp:∀a∈pl,szN l a<=200
 szr:szN l rf<=200
 sze:∀x∈en,szN l x.t<=200/\∀a∈x.ar,szN l a<=200
 la:∀x∈en,x.ar.length<=900000000
def sK (G:GC) (l:List Nd) (e:En):List Nat:=if 0<=e.f/\G.mem.getD e.f.toNat false=true then Co l (G.ps.getD e.f.toNat []) (G.rs.getD e.f.toNat 0) else e.ar
def R5 (G:GC) (l:List Nd) (es:List (Int×Int)) (e:En):Ty×List Ty:=(rdN l es e.t,(sK G l e).map (rdN l es))
def If (n:Ty×List Ty):List DV:=n.1.enc++[.sl (n.2.map Ty.enc)]
def N0 (l:List Nd) (es:List (Int×Int)) (pl:List Nat) (rf n:Nat):Sch:=⟨(n:Int),pl.map (rdN l es),rdN l es rf⟩
abbrev eNt:Nat:=54
def ASM (B:GB) (l:List Nd) (pl:List Nat) (rf:Nat) (en:List En):AV:=
 .tup [.agg (Sch.row (N0 l (Cg (Co l pl rf)) pl rf (Co l pl rf).length)),.d (.sl ((en.map (R5 B.G l (Cg (Co l pl rf)))).map If))]
def ARY {l:List Nd} (h:vs.length<=900000000):smE (Cg vs):=fun n x Z=>by
 obtain ⟨i,h1,v,h2,_⟩:=kP Z;have:=(AE.1 h2).1;omega
def AIU (l:List Nd) (es:List (Int×Int)) (us:List Nat):List (List DV):=(us.map (rdN l es)).map Ty.enc
def RSG (B:GB) (ext:Nat->Option (List AV)) (l:List Nd) (τ0:AH) (t:Nat) (rows:List (List DV)) (F0:Fm) (L0:AV->Lm) (fl:Bool) (F:Fm) (L:Lm) (τ:AH):Prop:=
 ∃v j,v.plain= .d (.sl rows)/\Gw [0,1,4,6,9] F=F0/\Fp [0,1,4,6,9] L=L0 v/\(nbH τ0).le τ/\τ.tok t=true/\TX B ext l fl j τ
def ABF (B:GB) (ext:Nat->Option (List AV)) (l:List Nd) (fl:Bool) (f jc:Nat) (es:List AV) (pl:List Nat) (rf:Nat) (en:List En) (h:RF B ext l f jc es pl rf en) (hl0:l≠[]) (hln:l.length<=900000000)
 (nm:List (Int×Int)) (hrd:∀n,n < l.length->(szN l n<=200\/∃x,l[rtN l n]?=some x/\x.k=0)->RdC B.i B.rest l nm n)
 (hvar:∀(g:Nat) (q:List Nat) (r:Nat),B.G.ps[g]?=some q->B.G.rs[g]?=some r->∀j' τ',TX B ext l fl j' τ'->AR Tzp 165 [.gp B.i 0,.d (.int .i64 (g:Int))] τ' (SNQ τ' B.i l B.rest j' (l,fl) (.d (.sl ((Co l q r).map CN)))))
 (hunk:∀(g:Nat) (q:List Nat) (r:Nat),B.G.ps[g]?=some q->B.G.rs[g]?=some r->(Co l q r).Nodup/\(Co l q r).length<=l.length/\∀u∈Co l q r,∃x,l[u]?=some x/\x.p=u/\x.k=0)
 (c0 c1 c2 c3 c4:DV) (τ0 τ1:AH) (j1 t:Nat) (hnb:(nbH τ0).le τ1) (ht:τ1.tok t=true) (hx1:TX B ext l fl j1 τ1) (Q:AV->AH->Prop)
 (hQ:∀σ' j',(nbH τ0).le σ'->TX B ext l fl j' σ'->Q (.tup [.agg [.d c0,.d c1,.d c2,.d c3,.d c4],.d (.sl ((en.map (R5 B.G l nm)).map If))]) σ'):
 Run EM Q [.code (.loop JB),.blk 2,.code (.seq (.reg [⟨some 104,.ldl (.t 9) (some 5),none⟩,⟨some 105,.mv (.t 10),none⟩,⟨none,.st (.t 4) (.t 104) 5,none⟩,⟨some 5,.mv (.t 105),none⟩] [4,5]) .ret)]
  (put 0 (.gp B.i 0) (put 4 (.lp 4 0) (put 6 (.om t (mI nm)) (put 9 (.lp 9 0) (put 10 .Ad (put 61 (enV en jc) (put 62 (.d (.int .i64 en.length)) (put 63 (.d (.int .i64 0)) U))))))))
  (At 4 [.d (.int .i64 0),.Ad,.d (.int .i64 0),.d (.int .i64 0),.Ad] (At 9 [.d c0,.d c1,.d c2,.d c3,.d c4] E)) τ1:=by
 have look:∀j' τ',TX B ext l fl j' τ'->(τ'.blk B.i=some (.ms j' l.length 4 tkN::.d (.bool fl)::[.d (.sl (B.ds.map DE.enc)),.d (.sl (B.G.fs.map FE.enc)),dsA B.G.dt,.ms B.js B.G.sch.length 5 eSs,.ms B.jm B.G.mem.length 1 eMm,.ms B.jp B.G.ps.length 1 ePp,.ms B.jr B.G.rs.length 1 3,.ms B.je B.es.length 1 eEe,.d (.int .i64 (B.cur:Int))]))/\
  τ'.blk B.jm=some (BP B.G.mem):=fun j' τ' Z=>
  ⟨by rw [Z.sn.blk,Em hl0];rfl,Z.x _ _ h.xm⟩
 have hbi0:∀j' τ',TX B ext l fl j' τ'->τ'.blk B.i≠none:=fun j' τ' Z=>by rw [Z.sn.blk];simp
 obtain ⟨q1,q2,q3,q4,q5⟩:=T4 en jc;have hlen:=h.ln;obtain ⟨τs,hτs⟩:∃x,x=τ1:=⟨_,rfl⟩;rw [<- hτs] at hnb ht;refine Run.BB ?_
 refine Run.BE ((fun (a0:AV) (a4:AV) (a6:AV) (a9:AV) (a61:AV) (a62:AV)=>fun (z:Nat×AV×AH)=>put 0 a0 (put 4 a4 (put 6 a6 (put 9 a9 (put 10 (z.2.1) (put 61 a61 (put 62 a62 (put 63 (.d (.int .i64 z.1)) U)))))))) _ _ _ _ _ _) (fun _=>At 4 [.d (.int .i64 0),.Ad,.d (.int .i64 0),.d (.int .i64 0),.Ad] (At 9 [.d c0,.d c1,.d c2,.d c3,.d c4] E)) (fun z=>z.2.2)
  (fun z=>z.1<=en.length/\CC (nbH τs) eNt 4 (((en.take z.1).map (R5 B.G l nm)).map If) z.2.1 z.2.2/\∃j',TX B ext l fl j' z.2.2)
  (fun z=>en.length - z.1) ?_ (0,.Ad,τ1) ⟨by simp,by rw [hτs];simpa using ANZ (Y:=τ1) eNt 4,j1,hx1⟩
 clear hτs hx1 τ1 j1;rintro ⟨p,v,τ1⟩ ⟨hp,ho,j1,hx1⟩ ih;simp only at hp ho hx1;by_cases hlt:p < en.length
 . obtain ⟨e,he⟩:=Ai hlt;have hem:=AD he;have hne:en≠[]:=fun e=>by rw [e] at hlt;cases hlt
   have hv:=Xd hne jc;rw [hv] at ih ⊢;have hbj:=hx1.x _ _ (h.xc hne);have hst:=ABJ En.row 3 En.F6 he;have hsl:(p * 3+3<=(enC en).length)=True:=by rw [Oz En.row 3 En.F6];simp;omega
   have hiT:=ltT hlt;have hw1:=wsu p;have hent:=h.ent e hem;have hsze:=h.sze e hem;have hlae:=h.la e hem;have hsn:(en.take (p+1)).map (R5 B.G l nm)=(en.take p).map (R5 B.G l nm)++[R5 B.G l nm e]:=by rw [A5 he,Ao];rfl
   have hnp:R5 B.G l nm e=(rdN l nm e.t,(sK B.G l e).map (rdN l nm)):=rfl;have hrt:=hrd e.t hent.1 (.inl hsze.1);unfold RdC at hrt;rw [sK] at hnp;obtain ⟨et,ef,ear⟩:=e;simp only [En.row] at hst hent hsze hnp hrt hlae;rw [hnp] at hsn;clear hnp;generalize rdN l nm et=T at hsn hrt;obtain ⟨Tk,Tn,Tu⟩:=T;simp only [tyA,Ty.enc,Ty.Bf,AF,AN] at hrt;obtain ⟨k1,k2⟩:=look j1 τ1 hx1;by_cases h0:0<=ef
   . have hb0:decide (ef>=0)=true:=decide_eq_true h0;have hb0':decide (0<=ef)=true:=decide_eq_true h0;obtain ⟨m,rfl⟩:=G5 h0;have hml:m < B.G.mem.length:=by rw [h.lm];omega
     obtain ⟨mb,hmb⟩:=Ai hml;have hma:=pY hmb;have hmT:=ltT hml;have hgd:B.G.mem.getD m false=mb:=by simp [hmb]
     simp only [CO,hgd] at hsn;cases mb with
     |true=>
      obtain ⟨q,hq⟩:=Ai (show m < B.G.ps.length by rw [h.lp,<- h.lm];exact hml);obtain ⟨r,hr⟩:=Ai (show m < B.G.rs.length by rw [h.lr,<- h.lm];exact hml);obtain ⟨un,ul,ur⟩:=hunk m q r hq hr;rw [if_pos ⟨h0,rfl⟩,show B.G.ps.getD m []=q by simp [hq],show B.G.rs.getD m 0=r by simp [hr]] at hsn;(repeat' (refine wQ ?_<;>try simp only [hbj,hst,hsl,hiT,ho.w4,k1,k2,hma,hmT,A9,go_sem]));refine AI.mk rfl (hvar m q r hq hr j1 τ1 hx1) ?_;rintro _ τ2 ⟨rfl,j2,sn2,fr2⟩;have hx2:=hx1.step hl0 sn2 fr2;have ho2:=ho.fr fr2;simp only [go_sem];(repeat' (refine wQ ?_<;>try simp only [go_sem]));generalize Co l q r=us at *;have hul:us.length<=900000000:=by omega
      have hur:∀a∈us,RdC B.i B.rest l nm a:=fun a ha=>by
       obtain ⟨x,Z,hxp,hxk⟩:=ur a ha;exact hrd a (AE.1 Z).1 (.inr ⟨x,by rw [LG Z,hxp];exact Z,hxk⟩)
      refine AI.mk rfl (hrt fl j2 t τ2 hx2.sn (ho2.le.tok t ht)) ?_;rintro _ τ3 ⟨rfl,j3,sn3,fr3⟩;have hx3:=hx2.step hl0 sn3 fr3;have ho3:=ho2.fr fr3;simp only [go_sem];refine AI.mk rfl (Pu B.i B.rest l nm us hur hul fl j3 t τ3 hx3.sn (ho3.le.tok t ht)) ?_;rintro w τ4 ⟨how,j4,sn4,fr4⟩;have hx4:=hx3.step hl0 sn4 fr4;simp only [how.cells,how.cell,how.dv,go_sem];refine Dh.own (ho3.fr fr4) rfl (by simp) (by simp;omega) (by omega) (fun v' τ5 ho' hb'=>?_);(repeat' (refine wQ ?_<;>try simp only [hw1,go_sem]));refine ih ⟨p+1,v',τ5⟩ ⟨hlt,?_,j4,hx4.own hb'⟩ (by simp only;omega);simp only [hsn,Ao,AF,AN,If,Ty.enc,Ty.Bf,AX,Ag];exact ho'
     |false=>
      rw [if_neg (by simp)] at hsn;(repeat' (refine wQ ?_<;>try simp only [hbj,hst,hsl,hiT,ho.w4,k1,k2,hma,hmT,A9,go_sem]));generalize τ1=τ2,j1=j2 at *;have hx2:=hx1;have ho2:=ho;generalize ear=us at *;have hul:us.length<=900000000:=hlae;have hur:∀a∈us,RdC B.i B.rest l nm a:=fun a ha=>hrd a (hent.2.2.2 a ha) (.inl (hsze.2 a ha));refine AI.mk rfl (hrt fl j2 t τ2 hx2.sn (ho2.le.tok t ht)) ?_;rintro _ τ3 ⟨rfl,j3,sn3,fr3⟩;have hx3:=hx2.step hl0 sn3 fr3;have ho3:=ho2.fr fr3;simp only [go_sem];refine AI.mk rfl (Pu B.i B.rest l nm us hur hul fl j3 t τ3 hx3.sn (ho3.le.tok t ht)) ?_;rintro w τ4 ⟨how,j4,sn4,fr4⟩;have hx4:=hx3.step hl0 sn4 fr4;simp only [how.cells,how.cell,how.dv,go_sem];refine Dh.own (ho3.fr fr4) rfl (by simp) (by simp;omega) (by omega) (fun v' τ5 ho' hb'=>?_);(repeat' (refine wQ ?_<;>try simp only [hw1,go_sem]));refine ih ⟨p+1,v',τ5⟩ ⟨hlt,?_,j4,hx4.own hb'⟩ (by simp only;omega);simp only [hsn,Ao,AF,AN,If,Ty.enc,Ty.Bf,AX,Ag];exact ho'
   . have hb0:decide (ef>=0)=false:=decide_eq_false h0;have hb0':decide (0<=ef)=false:=decide_eq_false h0;rw [if_neg (fun e=>h0 e.1)] at hsn;(repeat' (refine wQ ?_<;>try simp only [hbj,hst,hsl,hiT,ho.w4,hb0,go_sem]));generalize τ1=τ2,j1=j2 at *;have hx2:=hx1;have ho2:=ho;generalize ear=us at *;have hul:us.length<=900000000:=hlae;have hur:∀a∈us,RdC B.i B.rest l nm a:=fun a ha=>hrd a (hent.2.2.2 a ha) (.inl (hsze.2 a ha));refine AI.mk rfl (hrt fl j2 t τ2 hx2.sn (ho2.le.tok t ht)) ?_;rintro _ τ3 ⟨rfl,j3,sn3,fr3⟩;have hx3:=hx2.step hl0 sn3 fr3;have ho3:=ho2.fr fr3;simp only [go_sem];refine AI.mk rfl (Pu B.i B.rest l nm us hur hul fl j3 t τ3 hx3.sn (ho3.le.tok t ht)) ?_;rintro w τ4 ⟨how,j4,sn4,fr4⟩;have hx4:=hx3.step hl0 sn4 fr4;simp only [how.cells,how.cell,how.dv,go_sem];refine Dh.own (ho3.fr fr4) rfl (by simp) (by simp;omega) (by omega) (fun v' τ5 ho' hb'=>?_);(repeat' (refine wQ ?_<;>try simp only [hw1,go_sem]));refine ih ⟨p+1,v',τ5⟩ ⟨hlt,?_,j4,hx4.own hb'⟩ (by simp only;omega);simp only [hsn,Ao,AF,AN,If,Ty.enc,Ty.Bf,AX,Ag];exact ho'
 . have hpe:p=en.length:=by omega
   subst hpe;rw [BQ] at ho;(repeat' (refine wP ?_<;>try simp only [B7 hlt,ho.w4,ho.plain,go_sem]));exact hQ τ1 j1 (D3 hnb ho.le) hx1
def AOD (B:GB) (ext:Nat->Option (List AV)) (l:List Nd) (d:Nat->Nat) (hd:FR l d) (fl:Bool) (j:Nat) (τ:AH) (f jc:Nat) (es:List AV) (pl:List Nat) (rf:Nat) (en:List En) (h:RF B ext l f jc es pl rf en) (Z:TX B ext l fl j τ) (hl0:l≠[]) (hln:l.length<=900000000):
 AR Tzp 103 [.gp B.i 0,.d (.int .i64 (f:Int))] τ (fun v σ'=>v=ASM B l pl rf en/\(nbH τ).le σ'/\∃j',TX B ext l fl j' σ'):=by
 have hbi0:∀τ',TX B ext l fl j τ'->τ'.blk B.i≠none:=fun τ' Z=>by rw [Z.sn.blk];simp
 have hpl1:=h.ps pl (AD h.hpl);have hrf1:=h.rs rf (AD h.hrf);have hgood:=Z.sn.Gs
 have look:∀j' τ',TX B ext l fl j' τ'->(τ'.blk B.i=some (.ms j' l.length 4 tkN::.d (.bool fl)::[.d (.sl (B.ds.map DE.enc)),.d (.sl (B.G.fs.map FE.enc)),dsA B.G.dt,.ms B.js B.G.sch.length 5 eSs,.ms B.jm B.G.mem.length 1 eMm,.ms B.jp B.G.ps.length 1 ePp,.ms B.jr B.G.rs.length 1 3,.ms B.je B.es.length 1 eEe,.d (.int .i64 (B.cur:Int))]))/\
  τ'.blk B.jm=some (BP B.G.mem)/\τ'.blk B.jp=some (psC B.G.ps)/\τ'.blk B.jr=some (Ct B.G.rs)/\τ'.blk B.je=some es:=fun j' τ' Z=>
  ⟨by rw [Z.sn.blk,Em hl0];rfl,Z.x _ _ h.xm,Z.x _ _ h.xp,Z.x _ _ h.xr,Z.x _ _ h.xe⟩
 have hvar:∀(g:Nat) (q:List Nat) (r:Nat),B.G.ps[g]?=some q->B.G.rs[g]?=some r->∀j' τ',TX B ext l fl j' τ'->AR Tzp 165 [.gp B.i 0,.d (.int .i64 (g:Int))] τ' (SNQ τ' B.i l B.rest j' (l,fl) (.d (.sl ((Co l q r).map CN)))):=fun g q r hq hr j' τ' Z=>
  AB3 B l fl j' τ' g q r hl0 hln Z.sn (Z.x _ _ h.xp) (Z.x _ _ h.xr) hq hr (h.ps q (AD hq)).1 (h.ps q (AD hq)).2 (h.rs r (AD hr))
 have hunk:∀(g:Nat) (q:List Nat) (r:Nat),B.G.ps[g]?=some q->B.G.rs[g]?=some r->(Co l q r).Nodup/\(Co l q r).length<=l.length/\∀u∈Co l q r,∃x,l[u]?=some x/\x.p=u/\x.k=0:=fun g q r hq hr=>gY hgood fun a ha=>by
  rcases AZ.1 ha with ha|ha
  . exact (h.ps q (AD hq)).2 a ha
  . simp only [A3] at ha;subst ha;exact h.rs _ (AD hr)
 obtain ⟨hnd,hvl,hvr⟩:=hunk f pl rf h.hpl h.hrf
 have hrd:∀n,n < l.length->(szN l n<=200\/∃x,l[rtN l n]?=some x/\x.k=0)->RdC B.i B.rest l (Cg (Co l pl rf)) n:=fun n hn hs=>
  AV1 B.i B.rest l _ (ARY (l:=l) (by omega)) d hd hln (d (rtN l n)) n (AS _) hn hs
 have hroot:∀u x,l[u]?=some x->x.p=u->x.k=0->u < l.length/\∃x,l[rtN l u]?=some x/\x.k=0:=fun u x hu hp hk=>⟨(AE.1 hu).1,x,by rw [LG hu,hp];exact hu,hk⟩;have hvc:=fun j' τ' Z=>hvar f pl rf h.hpl h.hrf j' τ' Z;rw [ASM];generalize hvs:Co l pl rf=vs at *;refine Wc (by simp) ?_;rw [BD];(repeat' (refine wQ ?_<;>try simp only [go_sem]));refine XEx.mmk (fun t0 ht0=>?_);simp only [go_sem];have hxt:TX B ext l fl j (τ.Bq t0):=Z.own fun k=>PQ _ _ _;(repeat' (refine wQ ?_<;>try simp only [go_sem]));refine AI.mk rfl (hvc j _ hxt) ?_;rintro _ τ1 ⟨rfl,j1,sn1,fr1⟩;have hx1:=hxt.step hl0 sn1 fr1;have ht1:τ1.tok t0=true:=fr1.tok t0 (by simp [AH.Bq]);have hnb1:(nbH τ).le τ1:=fr1.nb2 ⟨fun _ _ h=>(by cases h),fun t ht=>by simp only [AH.Bq];split;rfl;exact ht,rfl,fun _ _ h=>h⟩;simp only [AA,go_sem];(repeat' (refine wQ ?_<;>try simp only [AA,go_sem]));refine Run.BB ?_
 refine Run.BE ((fun (a0:AV) (a1:AV) (a4:AV) (a17:AV) (a18:AV)=>fun (z:Nat×Nat×AH)=>put 0 a0 (put 1 a1 (put 4 a4 (put 6 (.om z.2.1 (mI (Cg (vs.take z.1)))) (put 17 a17 (put 18 a18 (put 19 (.d (.int .i64 z.1)) U))))))) _ _ _ _ _) (fun _=>At 4 [.d (.int .i64 0),.Ad,.d (.int .i64 0),.d (.int .i64 0),.Ad] E) (fun z=>z.2.2)
  (fun z=>z.1<=vs.length/\z.2.2.tok z.2.1=true/\τ.tok z.2.1=false/\(nbH τ).le z.2.2/\∃j',TX B ext l fl j' z.2.2)
  (fun z=>vs.length - z.1) ?_ (0,t0,τ1) ⟨by simp,ht1,ht0,hnb1,j1,hx1⟩
 clear hx1 ht1 hnb1 sn1 fr1 hxt ht0 t0 j1 τ1;rintro ⟨p,t,τ1⟩ ⟨hp,ht,ht0,hnb,j1,hx1⟩ ih;simp only at hp ht ht0 hnb hx1;by_cases hlt:p < vs.length
 . obtain ⟨v,hv⟩:=Ai hlt;have hvr1:=HT hv;have hw1:=wsu p
   have hno:v ∉ vs.take p:=fun hm=>by
    have h1:=hnd.sublist (List.take_sublist (p+1) vs);rw [A5 hv] at h1;exact (G6.1 h1).2.2 v hm v (by simp) rfl
   have hsn:Cg (vs.take (p+1))=Cg (vs.take p)++[((v:Int),(p:Int))]:=by
    rw [A5 hv,ANX];simp;omega
   (repeat' (first|refine ctQ rfl ?_|((first|refine rgQ mxQ ?_|refine cdQ ?_)<;>try simp only [Ap hlt,hvr1,go_sem])|fail));refine aK.mk ht (ANW hno) (fun t' ht'=>?_);simp only [go_sem];(repeat' (first|refine ctQ rfl ?_|((first|refine rgQ mxQ ?_|refine cdQ ?_)<;>try simp only [hw1,go_sem])|fail));have hne:∀s,τ.tok s=true->s≠t:=fun s hs e=>by rw [e,ht0] at hs;cases hs
   have htf:τ.tok t'=false:=by
    cases h:τ.tok t' with
    |false=>rfl
    |true=>have:=hnb.tok t' h;rw [ht'] at this;cases this
   have hnb':(nbH τ).le ((τ1.CP t).Bq t'):=⟨fun _ _ h=>(by cases h),fun s hs=>by
    have h1:=hnb.tok s hs;simp only [AH.Bq,AH.CP,if_neg (hne s hs)];split
    . rfl
    . exact h1,hnb.gt,hnb.bt⟩
   have hi:=ih ⟨p+1,t',(τ1.CP t).Bq t'⟩ ⟨hlt,by simp [AH.Bq],htf,hnb',j1,hx1.own fun k=>rfl⟩ (by simp only;omega);simp only [hsn] at hi;exact hi
 . have hpe:p=vs.length:=by omega
   subst hpe;clear ih;have hel:(Cg vs).length<=1000000000:=by rw [AEB];omega
   (repeat' (first|refine ctQ rfl ?_|((first|refine rgQ mxQ ?_|refine cdQ ?_)<;>try simp only [B7 hlt,BQ,go_sem])|fail));refine Run.gH mixed (RSG B ext l τ t (AIU l (Cg vs) pl) (put 0 (.gp B.i 0) (put 1 (.d (.int .i64 f)) (put 4 (.lp 4 0) (put 6 (.om t (mI (Cg vs))) (put 9 (.lp 9 0) U))))) (fun v=>At 4 [.d (.int .i64 0),.Ad,.d (.int .i64 0),.d (.int .i64 0),.Ad] (At 9 [.d (.int .i64 ((Cg vs).length:Int)),v,.d (.int .i64 (rdN l (Cg vs) rf).kind),.d (.int .i64 (rdN l (Cg vs) rf).num),.d (.sl ((rdN l (Cg vs) rf).args.map Ty.enc))] E)) fl) ?_ ?_
   . obtain ⟨k1,k2,k3,k4,k5⟩:=look j1 τ1 hx1;have hpa:=sU h.hpl;have hra:=R3 h.hrf;have hfp:=ltT (AE.1 h.hpl).1;have hfr:=ltT (AE.1 h.hrf).1;simp only [k1,k3,k4,hpa,hra,hfp,hfr,A9,go_sem];have hr2:=hrd rf hrf1 (.inl h.szr);unfold RdC at hr2;generalize rdN l (Cg vs) rf=T at hr2 ⊢;obtain ⟨Tk,Tn,Tu⟩:=T;simp only [tyA,Ty.enc,Ty.Bf,AF,AN] at hr2;have hc1:=Pu B.i B.rest l (Cg vs) pl (fun a ha=>hrd a (hpl1.2 a ha) (.inl (h.szp a ha))) (by omega) fl j1 t τ1 hx1.sn ht
     (repeat' (first
       |(refine XEx.AIA ht hel ?_
         simp only [k1,k3,k4,hpa,hra,hfp,hfr,A9,go_sem])
       |(refine AI.mk rfl hc1 ?_
         rintro v τ2 ⟨ho,j2,sn2,fr2⟩;have hx2:=hx1.step hl0 sn2 fr2;have ht2:=fr2.tok t ht;have hn2:=fr2.nb2 hnb;obtain ⟨q1,q2,q3,q4,q5⟩:=look j2 τ2 hx2;simp only [q1,q4,hra,hfr,A9,go_sem];refine AI.mk rfl (hr2 fl j2 t τ2 hx2.sn ht2) ?_;rintro _ τ3 ⟨rfl,j3,sn3,fr3⟩;simp only [ho.w4,go_sem];unfold RSG;refine ⟨v,j3,ho.plain,(by simp only [go_sem]),(by simp only [Ty.kind,Ty.num,Ty.args,go_sem]),fr3.nb2 hn2,fr3.tok t ht2,hx2.step hl0 sn3 fr3⟩)
       |refine And.intro ?_ ?_))
   . clear hnb ht ht0 hx1 τ1 j1;rintro F' L' τ1 ⟨v,j1,hv,e1,e2,hnb,ht,hx1⟩;rw [e1,e2];clear e1 e2 F' L';refine Run.AcF (L':=At 4 [.d (.int .i64 0),.Ad,.d (.int .i64 0),.d (.int .i64 0),.Ad] (At 9 [.d (.int .i64 ((Cg vs).length:Int)),.d (.sl (AIU l (Cg vs) pl)),.d (.int .i64 (rdN l (Cg vs) rf).kind),.d (.int .i64 (rdN l (Cg vs) rf).num),.d (.sl ((rdN l (Cg vs) rf).args.map Ty.enc))] E)) (fun q cs' hq=>?_) ?_
     . by_cases q4:q=4
       . subst q4;exact ⟨cs',by simpa [At] using hq,.inl rfl⟩
       . by_cases q9:q=9
         . subst q9;refine ⟨[.d (.int .i64 ((Cg vs).length:Int)),v,.d (.int .i64 (rdN l (Cg vs) rf).kind),.d (.int .i64 (rdN l (Cg vs) rf).num),.d (.sl ((rdN l (Cg vs) rf).args.map Ty.enc))],by simp [At],.inr ?_⟩;simp only [At,if_neg q4,if_true,AM] at hq;rw [<- hq];simp [AV.CV,hv,HU]
         . simp [At,q4,q9,E] at hq
     obtain ⟨k1,k2,k3,k4,k5⟩:=look j1 τ1 hx1;have hen:=h.hen;have hfe:((f:Int) < (B.es.length:Int))=True:=by rw [<- h.hes];exact ltT (AE.1 h.hen).1
     obtain ⟨q1,q2,q3,q4,q5⟩:=T4 en jc;(repeat' (refine wQ ?_<;>try simp only [k1,k5,hen,hfe,A9,q1,q5,go_sem]));refine ABF B ext l fl f jc es pl rf en h hl0 hln (Cg vs) hrd hvar hunk _ _ _ _ _ τ τ1 j1 t hnb ht hx1 _ (fun σ' j' h1 h2=>⟨?_,h1,j',h2⟩);simp only [Sch.row,N0,AEB,AIU]
end
def lvF (l:List Nd):Nat->Nat->List Nat
 |0,_=>[]
 |k+1,r=>(if (l[r]?).map Nd.k=some 0 then [r] else [])++(((l[r]?).map Nd.ar).getD []).flatMap fun a=>lvF l k (rtN l a)
def lvN (l:List Nd) (n:Nat):List Nat:=lvF l (l.length+1) (rtN l n)
def M5 {α β:Type} {f g:α->List β}:∀ {l:List α},(∀a∈l,f a=g a)->l.flatMap f=l.flatMap g
 |[],_=>rfl
 |a::l,h=>by rw [DJ,DJ,h a (AW),M5 fun x Z=>h x (AU _ Z)]
def ARJ {l:List Nd} {d:Nat->Nat} (hg:ER l) (h:FR l d):∀(n r k k':Nat),d r<=n->(∃x,l[r]?=some x/\x.p=r)->d r < k->d r < k'->lvF l k r=lvF l k' r:=by
 intro n
 induction n with
 |zero=>
  intro r k k' hn ⟨x,Z,hp⟩ hk hk';obtain ⟨k,rfl⟩:∃m,k=m+1:=⟨k - 1,by omega⟩;obtain ⟨k',rfl⟩:∃m,k'=m+1:=⟨k' - 1,by omega⟩;rw [lvF,lvF,Z];simp only [Ac,BA];congr 1;refine M5 fun a ha=>?_;have:=h.lt r x Z hp a ha;omega
 |succ n ih=>
  intro r k k' hn ⟨x,Z,hp⟩ hk hk';obtain ⟨k,rfl⟩:∃m,k=m+1:=⟨k - 1,by omega⟩;obtain ⟨k',rfl⟩:∃m,k'=m+1:=⟨k' - 1,by omega⟩;rw [lvF,lvF,Z];simp only [Ac,BA];congr 1;refine M5 fun a ha=>?_;have h1:=h.lt r x Z hp a ha;exact ih (rtN l a) k k' (by omega) (hg.root (hg.ar r x Z a ha)) (by omega) (by omega)
def AH6 {l:List Nd} {d:Nat->Nat} (hg:ER l) (h:FR l d) {n:Nat} {x:Nd} (Z:l[rtN l n]?=some x) (hp:x.p=rtN l n):lvN l n=(if x.k=0 then [rtN l n] else [])++x.ar.flatMap (lvN l):=by
 rw [lvN,lvF,Z];simp only [Ac,BA,AM];congr 1;refine M5 fun a ha=>?_;have h1:=h.lt _ x Z hp a ha;have h0:=h.le (rtN l n);exact ARJ hg h (d (rtN l a)) (rtN l a) l.length (l.length+1) (AS _) (hg.root (hg.ar _ x Z a ha)) (by omega) (by omega)
def Xh {f:Nat->List Nat} {g:Nat->Nat}:∀ {us:List Nat},(∀a∈us,(f a).length<=g a)->(us.flatMap f).length<=(us.map g).sum
 |[],_=>AS _
 |a::us,h=>by
  rw [DJ,AY,AF,Er];have:=h a (AW);have:=Xh (f:=f) (g:=g) (us:=us) fun x Z=>h x (AU _ Z);omega
def AVE {l:List Nd} {d:Nat->Nat} (hg:ER l) (h:FR l d):∀(N n:Nat),n < l.length->d (rtN l n)<=N->szN l n<=200->(lvN l n).length<=szN l n:=by
 intro N
 induction N using Cc with
 |_ N ih=>
 intro n hn hd hs;obtain ⟨x,Z,hp⟩:=hg.root hn;rw [AH6 hg h Z hp,AS2 hg h Z hp hs,AY];have h1:(if x.k=0 then [rtN l n] else []).length<=1:=by split<;>simp
 have h2:=Xh (f:=lvN l) (g:=szN l) (us:=x.ar) fun a ha=>by
  have h3:=h.lt _ x Z hp a ha;exact ih (d (rtN l a)) (by omega) a (hg.ar _ x Z a ha) (AS _) ((uB hg h Z hp hs).2 a ha)
 omega
def IU (acc us:List Nat):List Nat:=us.foldl (fun acc u=>if u∈acc then acc else acc++[u]) acc
def XL (acc us vs:List Nat):IU acc (us++vs)=IU (IU acc us) vs:=by simp [IU,Ch]
def iE:∀ {us acc:List Nat} {u:Nat},u∈acc->u∈IU acc us
 |[],acc,u,h=>h
 |v::us,acc,u,h=>by
  rw [IU,Au];refine iE (us:=us) ?_;split
  . exact h
  . exact XF _ h
def ACA:∀ {us acc:List Nat} {u:Nat},u∈us->u∈IU acc us
 |v::us,acc,u,h=>by
  rw [IU,Au];rcases Az.1 h with rfl|h
  . refine iE (us:=us) ?_;split
    . assumption
    . simp
  . exact ACA (us:=us) h
def ACB:∀ {us acc:List Nat},(∀u∈us,u∈acc)->IU acc us=acc
 |[],acc,_=>rfl
 |v::us,acc,h=>by
  rw [IU,Au,if_pos (h v (AW))];exact ACB (us:=us) fun u hu=>h u (AU _ hu)
def AB9:∀(us acc:List Nat),(IU acc us).length<=acc.length+us.length
 |[],acc=>by simp [IU]
 |v::us,acc=>by
  rw [IU,Au];have:=AB9 us (if v∈acc then acc else acc++[v]);rw [IU] at this;refine Af this ?_;simp only [A0];split
  . omega
  . simp only [AY,Bm];omega
def pQ:∀(us acc:List Nat),∃tl,IU acc us=acc++tl
 |[],acc=>⟨[],by simp [IU]⟩
 |v::us,acc=>by
  obtain ⟨tl,h⟩:=pQ us (if v∈acc then acc else acc++[v]);rw [IU] at h;rw [IU,Au,h];split
  . exact ⟨tl,rfl⟩
  . exact ⟨v::tl,by simp⟩
structure US (l:List Nd) (d:Nat->Nat) (D:Nat) (s:List Bool×List Nat):Prop where
 dn:∀r,s.1[r]?=some true->d r < D->∀u∈lvF l (l.length+1) r,u∈s.2
 sn:∀u∈s.2,s.1[u]?=some true
def AK5 {l:List Nd} {d:Nat->Nat} (hg:ER l) (h:FR l d):∀(k:Nat) (s:List Bool×List Nat) (n D:Nat),d (rtN l n) < k->d (rtN l n) < D->n < l.length->s.1.length=l.length->US l d D s->
 (I0 l k s n).2=IU s.2 (lvN l n)/\US l d D (I0 l k s n)/\(∀r,(I0 l k s n).1[r]?=some true->s.1[r]?=some true\/d r<=d (rtN l n))/\(I0 l k s n).1.length=l.length
 |0,s,n,D,hk,_,_,_,_=>by omega
 |k+1,s,n,D,hk,hD,hn,hl,hu=>by
  obtain ⟨x,Z,hp⟩:=hg.root hn;have hrl:=(AE.1 Z).1;have heq:=AH6 hg h Z hp;have hR:lvN l n=lvF l (l.length+1) (rtN l n):=rfl;rw [I0];generalize hr:rtN l n=r at *;by_cases h0:s.1[r]?=some false
  . rw [if_pos h0];simp only [Z,Ac,BA,AM];have hrs:r < s.1.length:=by omega
    -- the arguments
    have hf:∀(us:List Nat) (q:List Bool×List Nat) (E:Nat),(∀a∈us,a < l.length/\d (rtN l a) < E/\d (rtN l a) < k)->q.1.length=l.length->US l d E q->
     (us.foldl (fun s a=>I0 l k s a) q).2=IU q.2 (us.flatMap (lvN l))/\US l d E (us.foldl (fun s a=>I0 l k s a) q)/\(∀r,(us.foldl (fun s a=>I0 l k s a) q).1[r]?=some true->q.1[r]?=some true\/d r < E)/\(us.foldl (fun s a=>I0 l k s a) q).1.length=l.length:=by
     intro us
     induction us with
     |nil=>intro q E _ hq hu;exact ⟨rfl,hu,fun r hr=>.inl hr,hq⟩
     |cons a us ih=>
      intro q E ha hq hu;obtain ⟨a1,a2,a3⟩:=ha a (AW);obtain ⟨g1,g2,g3,g4⟩:=AK5 hg h k q a E a3 a2 a1 hq hu;rw [Au,DJ,XL,<- g1];obtain ⟨f1,f2,f3,f4⟩:=ih _ E (fun b hb=>ha b (AU _ hb)) g4 g2;refine ⟨f1,f2,fun r hr=>?_,f4⟩;rcases f3 r hr with e|e
      . rcases g3 r e with e|e
        . exact .inl e
        . exact .inr (by omega)
      . exact .inr e
    have hns:r ∉ s.2:=fun hm=>by have:=hu.sn r hm;rw [h0] at this;cases this
    have h00:∀r':Nat,(s.1.set r true)[r']?=some true->r'=r\/s.1[r']?=some true:=fun r' hr'=>by
     by_cases e:r=r'
     . exact .inl e.symm
     . rw [BJ e] at hr';exact .inr hr'
    have hout:(if x.k=0 then s.2++[r] else s.2)=IU s.2 (if x.k=0 then [r] else []):=by
     split
     . simp [IU,hns]
     . rfl
    have hsub:∀u∈s.2,u∈(if x.k=0 then s.2++[r] else s.2):=fun u hu=>by
     split
     . exact XF _ hu
     . exact hu
    have hkeep:∀r':Nat,s.1[r']?=some true->(s.1.set r true)[r']?=some true:=fun r' hr'=>by
     have hne:r≠r':=fun e=>by rw [e,hr'] at h0;cases h0
     rw [BJ hne];exact hr'
    have hu1:US l d (d r) (s.1.set r true,if x.k=0 then s.2++[r] else s.2):=by
     refine ⟨fun r' hr' hd' u hu'=>?_,fun u hm=>?_⟩
     . rcases h00 r' hr' with e|e
       . subst e;omega
       . exact hsub u (hu.dn r' e (by omega) u hu')
     . simp only at hm ⊢;split at hm
       . rcases AZ.1 hm with hm|hm
         . exact hkeep u (hu.sn u hm)
         . simp only [A3] at hm;subst hm;exact BK hrs
       . exact hkeep u (hu.sn u hm)
    obtain ⟨f1,f2,f3,f4⟩:=hf x.ar (s.1.set r true,if x.k=0 then s.2++[r] else s.2) (d r) (fun a ha=>⟨hg.ar _ x Z a ha,h.lt r x Z hp a ha,by have:=h.lt r x Z hp a ha;omega⟩) (by simp [hl]) hu1;simp only at f1 f3;generalize x.ar.foldl (fun s a=>I0 l k s a) (s.1.set r true,if x.k=0 then s.2++[r] else s.2)=s' at *;rw [hout,<- XL,<- heq] at f1;refine ⟨f1,⟨fun r' hr' hd' u hu'=>?_,f2.sn⟩,fun r' hr'=>?_,f4⟩
    . rcases f3 r' hr' with e|e
      . rcases h00 r' e with e|e
        . subst e;rw [f1];exact ACA (by rw [hR];exact hu')
        . rw [f1];exact iE (hu.dn r' e hd' u hu')
      . exact f2.dn r' hr' e u hu'
    . rcases f3 r' hr' with e|e
      . rcases h00 r' e with e|e
        . subst e;exact .inr (AS _)
        . exact .inl e
      . exact .inr (by omega)
  . rw [if_neg h0]
    have hs:s.1[r]?=some true:=by
     obtain ⟨b,hb⟩:=Ai (show r < s.1.length by omega);cases b with
     |true=>exact hb
     |false=>exact absurd hb h0
    refine ⟨(ACB fun u hu'=>?_).symm,hu,fun r' hr'=>.inl hr',hl⟩;rw [hR] at hu';exact hu.dn r hs hD u hu'
def AK4 {l:List Nd} {d:Nat->Nat} (hg:ER l) (h:FR l d) {ts:List Nat} (ht:∀a∈ts,a < l.length):AFB l ts=IU [] (ts.flatMap (lvN l)):=by
 have hf:∀(us:List Nat) (q:List Bool×List Nat),(∀a∈us,a < l.length)->q.1.length=l.length->US l d (l.length+1) q->(us.foldl (fun s a=>I0 l (l.length+1) s a) q).2=IU q.2 (us.flatMap (lvN l)):=by
  intro us
  induction us with
  |nil=>intro q _ _ _;rfl
  |cons a us ih=>
   intro q hu hq hs;have h0:=h.le (rtN l a);obtain ⟨g1,g2,_,g4⟩:=AK5 hg h (l.length+1) q a (l.length+1) (by omega) (by omega) (hu a (AW)) hq hs;rw [Au,DJ,XL,<- g1];exact ih _ (fun b hb=>hu b (AU _ hb)) g4 g2
 refine hf ts (AG l.length false,[]) ht (by simp) ⟨fun r hr=>?_,by simp⟩;simp only [RH] at hr;split at hr<;>cases hr
def uH {l:List Nd} {d:Nat->Nat} (hg:ER l) (h:FR l d) {ts:List Nat} (ht:∀a∈ts,a < l.length) (hs:∀a∈ts,szN l a<=200):(AFB l ts).length<=ts.length * 200:=by
 rw [AK4 hg h ht];have h1:=AB9 (ts.flatMap (lvN l)) [];have h2:=Xh (f:=lvN l) (g:=fun _=>200) (us:=ts) fun a ha=>Af (AVE hg h (d (rtN l a)) a (ht a ha) (AS _) (hs a ha)) (hs a ha)
 have h3:∀us:List Nat,(us.map fun _=>200).sum=us.length * 200:=by
  intro us
  induction us with
  |nil=>rfl
  |cons a us ih=>rw [AF,Er,ih,A0];omega
 rw [h3] at h2;simp only [Bw] at h1;omega
def AJ5 (G:GC) (o:Int) (nm:Str) (nu:Int) (ns:List Str) (ks:List Ex) (al:List Al) (env:Env) (k0:Nat) (g:GS):Nat×GS:=
 if o=4 then dS G env nm k0 g
  else if o=1\/o=2\/o=3\/o=15 then (g.nx,g.add (vE o) 0 [])
  else if o=5 then (let q:=C9 G ks env g;(q.2.nx,q.2.add 6 0 q.1))
  else if o=6 then (match El G.dt nm with
  |none=>(0,g)
  |some (d,c)=>match G.dt[d]? with
   |none=>(0,g)
   |some D=>
    let ar:=A8 g.nx D.vars.toNat
    let g:=De G ks env 0 (fun i r s=>let q:=Eu ar s.1 (((D.cons[c]?).map Con.args).getD []|>.getD i (.mk 0 0 []));Go.Ab.uni (q.2,s.2) r q.1) (g.frs D.vars.toNat)
    (g.nx,g.add 5 d ar))
      else if o=10 then (match al with
  |[]=>(0,g)
  |a::_=>match El G.dt a.con with
   |none=>(0,g)
   |some (d,_)=>match G.dt[d]? with
    |none=>(0,g)
    |some D=>
     let ar:=A8 g.nx D.vars.toNat
     let g:=Ie G ks env (g.frs D.vars.toNat)
     let r:=g.1
     let g:=(g.2.add 5 d ar).uni r g.2.nx
     let t:=g.nx
     (t,Vt G al env D ar t (g.add 0 0 [])))
                             else if o=12 then
  (let q:=C9 G ks env g
   let t:=q.2.nx
   let g:=(q.2.add 0 0 []).add 9 0 (q.1.tail++[t])
   (t,g.uni (q.1.headD 0) (t+1)))
                            else if o=13 then
  (let g:=De G ks env 0 (fun _ r s=>Go.Ab.uni (Ke s.1 1 0 [],s.2) r s.1.length) g
   (g.nx,g.add (if 6<=nu/\nu<=8 then 2 else 1) 0 []))
                 else if o=14 then
  (let b:=g.nx
   let g:=((((g.add 1 0 []).add 0 0 []).add 7 0 [b+1]).add 8 0 [b+1]).add 3 0 []
   let g:=De G ks env 0 (fun i r s=>Go.Ab.uni s r ((Zv nu b).1.getD i 0)) g
   ((Zv nu b).2,g))
      else if o=16 then
  (let q:=Ie G ks env g
   let g:=(q.2.add 1 0 []).uni q.1 q.2.nx
   (g.nx,g.add 0 0 []))
     else if o=7 then (let q:=Ie G ks env g;Tw G ks (Ce env [nm] [q.1]) q.2)
     else if o=8 then
  (let parts:=A8 g.nx ns.length
   let q:=Ie G ks env (g.frs ns.length)
   Tw G ks (Ce env ns parts) ((q.2.add 6 0 parts).uni q.1 q.2.nx))
                                else if o=9 then
  (let q:=Ie G ks env g
   let q1:=Tw G ks env ((q.2.add 2 0 []).uni q.1 q.2.nx)
   let q2:=yG G ks env q1.2
   (q1.1,q2.2.uni q2.1 q1.1))
     else if o=11 then
  (let params:=A8 g.nx ns.length
   let q:=Ie G ks (Ce env ns params) (g.frs ns.length)
   (q.2.nx,q.2.add 9 0 (params++[q.1])))
                         else
  (let q:=Ie G ks env g
   let r:=Tw G ks (Ce env [nm] [q.2.nx]) (q.2.add 1 0 [])
   (q.1,r.2.uni r.1 q.1))
def AQN (G:GC) (o:Int) (nm:Str) (nu:Int) (ns:List Str) (ks:List Ex) (al:List Al) (env:Env) (g0:GS):Bb G (.mk o nm nu ns ks al) env g0=
 (fun r:Nat×GS=>(r.1,r.2.UN g0.en.length fun e=> { e with t:=r.1})) (AJ5 G o nm nu ns ks al env g0.en.length { g0 with en:=g0.en++[⟨0,-1,[]⟩]}):=rfl
section
def shp (dt:List Dat) (k n:Int) (m:Nat):Prop:=
 ((k=0\/k=1\/k=2\/k=3)/\n=0/\m=0)\/(k=5/\∃D,0<=n/\dt[n.toNat]?=some D/\(m:Int)=D.vars)\/(k=6/\n=0/\2<=m/\m<=6)\/((k=7\/k=8)/\n=0/\m=1)\/(k=9/\n=0/\1<=m/\m<=7)
def NV (dt:List Dat) (l:List Nd):Prop:=∀x∈l,shp dt x.k x.n x.ar.length
mutual
def Ty.sh (dt:List Dat):Ty->Prop
 | .mk k n us=>(k=4\/shp dt k n us.length)/\Ty.shs dt us
def Ty.shs (dt:List Dat):List Ty->Prop
 |[]=>True
 |t::ts=>Ty.sh dt t/\Ty.shs dt ts
end
def Ty.M8 {dt:List Dat}:∀ {l:List Ty},Ty.shs dt l↔∀t∈l,t.sh dt
 |[]=>by simp [Ty.shs]
 |t::l=>by rw [Ty.shs,Ty.M8];simp
variable {dt:List Dat}
def NV.nil:NV dt []:=fun x h=>by simp at h
def NV.add {l:List Nd} (h:NV dt l) {k n:Int} {ar:List Nat} (hs:shp dt k n ar.length):NV dt (Ke l k n ar):=fun x Z=>by
 rw [Ke] at Z;rcases AZ.1 Z with Z|Z
 . exact h x Z
 . simp only [A3] at Z;subst Z;exact hs
def gV (dt:List Dat):shp dt 0 0 0:= .inl ⟨.inl rfl,rfl,rfl⟩
def NV.cE {l:List Nd} (h:NV dt l):∀n,NV dt (Fw l n)
 |0=>h
 |n+1=>by rw [Fw];exact (NV.cE h n).add (gV dt)
def NV.PB {l:List Nd} (h:NV dt l) (a b:Nat):NV dt (PB a b l):=fun x Z=>by
 unfold Go.Ab.PB at Z;obtain ⟨y,hy,rfl⟩:=B8.1 Z;split<;>exact h y hy
def NV.KR:∀(k:Nat) {s:SS} (a b:Nat),NV dt s.1->NV dt (KR k s a b).1
 |0,s,a,b,h=>h
 |k+1,s,a,b,h=>by
  have hf:∀(ps:List (Nat×Nat)) (q:SS),NV dt q.1->NV dt (ps.foldl (fun s x=>Go.Ab.KR k s x.1 x.2) q).1:=by
   intro ps
   induction ps with
   |nil=>intro q h;exact h
   |cons p ps ih=>intro q h;rw [Au];exact ih _ (NV.KR k p.1 p.2 h)
  rw [Go.Ab.KR]
  repeat' split
  all_goals first
   |exact h
   |exact h.PB _ _
   |exact hf _ _ (h.PB _ _)
def NV.uni {s:SS} (h:NV dt s.1) (a b:Nat):NV dt (Go.Ab.uni s a b).1:=NV.KR _ a b h
mutual
def NV.Eu (ar:List Nat):∀(l:List Nd) (t:Ty),NV dt l->t.sh dt->NV dt (Eu ar l t).2
 |l,.mk k n us,h,ht=>by
  rw [Ty.sh] at ht;rw [Go.Ab.Eu];split
  . exact h
  . rename_i hk;exact (NV.B9 ar l us h ht.2).add (by rw [MN];exact ht.1.resolve_left hk)
def NV.B9 (ar:List Nat):∀(l:List Nd) (ts:List Ty),NV dt l->Ty.shs dt ts->NV dt (B9 ar l ts).2
 |l,[],h,_=>h
 |l,t::ts,h,ht=>by
  rw [Ty.shs] at ht;exact NV.B9 ar _ ts (NV.Eu ar l t h ht.1) ht.2
end
structure GVv (G:GC):Prop where
 vr:∀D∈G.dt,0<=D.vars
 dt:∀D∈G.dt,∀c∈D.cons,Ty.shs G.dt c.args
 sch:∀s∈G.sch,Ty.shs G.dt s.params/\s.res.sh G.dt/\s.params.length<=6
 ps:∀l∈G.ps,l.length<=6
def PEv (G:GC) (e:Ex):Prop:=∀env g,NV G.dt g.s.1->NV G.dt (Bb G e env g).2.s.1
variable {G:GC}
def sO:∀ {ks:List Ex},(∀k∈ks,PEv G k)->∀env g,NV G.dt g.s.1->NV G.dt (C9 G ks env g).2.s.1
 |[],_,env,g,h=>h
 |k::ks,hk,env,g,h=>by
  rw [C9];exact sO (fun x Z=>hk x (AU _ Z)) env _ (hk k (AW) env g h)
def ZH:∀(ks:List Ex) (env:Env) (g:GS),(C9 G ks env g).1.length=ks.length
 |[],env,g=>rfl
 |k::ks,env,g=>by rw [C9];simp only [A0,ZH ks]
def R6 (hk:∀k∈ks,PEv G k) (env:Env) (g:GS) (h:NV G.dt g.s.1):NV G.dt (Ie G ks env g).2.s.1:=by
 cases ks with
 |nil=>exact h
 |cons k ks=>rw [Ie];exact hk k (AW) env g h
def fZ (hk:∀k∈ks,PEv G k) (env:Env) (g:GS) (h:NV G.dt g.s.1):NV G.dt (Tw G ks env g).2.s.1:=by
 cases ks with
 |nil=>exact h
 |cons k ks=>rw [Tw];exact R6 (fun x Z=>hk x (AU _ Z)) env g h
def AVP (hk:∀k∈ks,PEv G k) (env:Env) (g:GS) (h:NV G.dt g.s.1):NV G.dt (yG G ks env g).2.s.1:=by
 cases ks with
 |nil=>exact h
 |cons k ks=>rw [yG];exact fZ (fun x Z=>hk x (AU _ Z)) env g h
def pF:∀ {ks:List Ex},(∀k∈ks,PEv G k)->∀(env:Env) (i:Nat) (f:Nat->Nat->SS->SS) (g:GS),(∀i r s,NV G.dt s.1->NV G.dt (f i r s).1)->NV G.dt g.s.1->NV G.dt (De G ks env i f g).s.1
 |[],_,env,i,f,g,_,h=>h
 |k::ks,hk,env,i,f,g,hf,h=>by
  rw [De];exact pF (fun x Z=>hk x (AU _ Z)) env (i+1) f _ hf (hf _ _ _ (hk k (AW) env g h))
def AKO (hG:GVv G) {D:Dat} (hD:D∈G.dt):∀ {al:List Al},(∀a∈al,PEv G a.body)->∀(env:Env) (ar:List Nat) (t:Nat) (g:GS),NV G.dt g.s.1->NV G.dt (Vt G al env D ar t g).s.1
 |[],_,env,ar,t,g,h=>h
 | .mk c vs b::al,ha,env,ar,t,g,h=>by
  rw [Vt];refine AKO hG hD (fun x Z=>ha x (AU _ Z)) env ar t _ ?_;refine NV.uni (ha _ (AW) _ _ ?_) _ _;refine NV.B9 ar _ _ h ?_;cases hc:D.cons[((El G.dt c).map (·.2)).getD 0]? with
  |none=>simp [Ty.shs]
  |some cc=>exact hG.dt D hD cc (AD hc)
def AY3 (hG:GVv G) (env:Env) (nm:Str) (k0:Nat) (g:GS) (h:NV G.dt g.s.1):NV G.dt (dS G env nm k0 g).2.s.1:=by
 unfold dS;cases OX env nm with
 |some t=>exact h
 |none=>
  simp only;generalize (DP (DY G.fs) nm).getD 0=f;unfold ASI;split
  . refine NV.add h (.inr (.inr (.inr (.inr ⟨rfl,rfl,by simp,?_⟩))));cases hp:G.ps[f]? with
    |none=>simp [hp]
    |some l=>have:=hG.ps l (AD hp);simp [hp];omega
  . split
    . exact h
    . rename_i s hs;have hs:=hG.sch s (AD hs);unfold AYT;have h1:NV G.dt (g.frs s.vars.toNat).s.1:=NV.cE h _;refine NV.add (NV.Eu _ _ _ (NV.B9 _ _ _ h1 hs.1) hs.2.1) (.inr (.inr (.inr (.inr ⟨rfl,rfl,by simp,?_⟩))));rw [AY,MN];simp;exact hs.2.2
def AYI (k0:Nat) (r:Nat×GS):Nat×GS:=(r.1,r.2.UN k0 fun e=> { e with t:=r.1})
def AYJ (k0:Nat) (r:Nat×GS):(AYI k0 r).2.s=r.2.s:=rfl
def xX (G:GC) (o:Int) (nm:Str) (nu:Int) (ns:List Str) (ks:List Ex) (al:List Al) (env:Env) (g0:GS):Bb G (.mk o nm nu ns ks al) env g0=AYI g0.en.length (AJ5 G o nm nu ns ks al env g0.en.length { g0 with en:=g0.en++[⟨0,-1,[]⟩]}):=AQN G o nm nu ns ks al env g0
def AVO (hG:GVv G):∀(N:Nat) (e:Ex) (sc:List Str),e.size<=N->OkE G e sc->PEv G e:=by
 intro N
 induction N with
 |zero=>intro e sc h;have:=Ex.size_pos e;omega
 |succ N ih=>
 rintro ⟨o,nm,nu,ns,ks,al⟩ sc hsz hok env g hg
 have hkl:∀k∈ks,PEv G k:=fun k hk=>by
  obtain ⟨i,hi⟩:=Hv hk;refine ih k _ ?_ (hok.kid hi);have:=Ex.Im hk;simp only [Ex.size] at hsz;omega
 have hal:∀a∈al,PEv G a.body:=fun a ha=>by
  refine ih a.body _ ?_ (hok.alt ha);have:=Al.Im ha;obtain ⟨c,vs,b⟩:=a;simp only [Ex.size,Al.size,Al.body] at hsz this ⊢;omega
 have hnb:=hok.me.2;simp only [nb1,R4,Ex.op,Ex.name,Ex.num,Ex.names,Ex.kids,Ex.alts,AO] at hnb;obtain ⟨⟨⟨⟨_,_⟩,hns⟩,_⟩,hnk⟩:=hnb;rw [xX,AYJ];have hg1:NV G.dt (⟨g.s,g.en++[⟨0,-1,[]⟩]⟩:GS).s.1:=hg;generalize (⟨g.s,g.en++[⟨0,-1,[]⟩]⟩:GS)=g1 at hg1;generalize g.en.length=k0;clear hg g hsz;unfold AJ5;have hl:∀(x n:Nat),(A8 x n).length=n:=fun x n=>by simp
 by_cases h:o=4
 . rw [if_pos h];exact AY3 hG env nm k0 g1 hg1
 rw [if_neg h];clear h;by_cases h:o=1\/o=2\/o=3\/o=15
 . rw [if_pos h];refine NV.add hg1 (.inl ⟨?_,rfl,rfl⟩);unfold vE;split;omega;split<;>omega
 rw [if_neg h];clear h;by_cases h:o=5
 . rw [if_pos h];subst h;simp [nkB] at hnk;exact NV.add (sO hkl env g1 hg1) (.inr (.inr (.inl ⟨rfl,rfl,by rw [ZH];omega,by rw [ZH];omega⟩)))
 rw [if_neg h];clear h;by_cases h:o=6
 . rw [if_pos h];cases El G.dt nm with
   |none=>exact hg1
   |some x=>
    obtain ⟨d,c⟩:=x;simp only;cases hd:G.dt[d]? with
    |none=>exact hg1
    |some D=>
     have hD:=AD hd;have hv:=hG.vr D hD;refine NV.add (pF hkl env 0 _ _ (fun i r s hs=>?_) (NV.cE hg1 _)) (.inr (.inl ⟨rfl,D,by omega,by simpa using hd,by rw [hl];omega⟩));refine NV.uni (s:=(_,_)) (NV.Eu _ _ _ hs ?_) _ _;cases hc:D.cons[c]? with
     |none=>simp [Ty.sh,Ty.shs,gV]
     |some cc=>
      have h1:=Ty.M8.1 (hG.dt D hD cc (AD hc));simp only [Ac,BA];cases ht:cc.args[i]? with
      |none=>simp [ht,Ty.sh,Ty.shs,gV]
      |some t=>simp only [A2,ht,BA];exact h1 t (AD ht)
 rw [if_neg h];clear h;by_cases h:o=10
 . rw [if_pos h];cases al with
   |nil=>exact hg1
   |cons a al=>
    simp only;cases El G.dt a.con with
    |none=>exact hg1
    |some x=>
     obtain ⟨d,c⟩:=x;simp only;cases hd:G.dt[d]? with
     |none=>exact hg1
     |some D=>
      have hD:=AD hd;have hv:=hG.vr D hD;refine AKO hG hD hal env _ _ _ (NV.add (NV.uni (NV.add (R6 hkl env _ (NV.cE hg1 _)) (.inr (.inl ⟨rfl,D,by omega,by simpa using hd,by rw [hl];omega⟩))) _ _) (gV _))
 rw [if_neg h];clear h;by_cases h:o=12
 . rw [if_pos h];subst h;simp [nkB] at hnk;have h1:=sO hkl env g1 hg1;have h2:=ZH (G:=G) ks env g1;generalize C9 G ks env g1=q at h1 h2 ⊢;refine NV.uni (NV.add (NV.add h1 (gV _)) (.inr (.inr (.inr (.inr ⟨rfl,rfl,by simp,?_⟩))))) _ _;simp;omega
 rw [if_neg h];clear h;by_cases h:o=13
 . rw [if_pos h];refine NV.add (pF hkl env 0 _ _ (fun i r s hs=>NV.uni (s:=(_,_)) (NV.add hs (.inl ⟨.inr (.inl rfl),rfl,rfl⟩)) _ _) hg1) (.inl ⟨?_,rfl,rfl⟩);split<;>omega
 rw [if_neg h];clear h;by_cases h:o=14
 . rw [if_pos h];refine pF hkl env 0 _ _ (fun i r s hs=>NV.uni hs _ _) ?_;refine NV.add (NV.add (NV.add (NV.add (NV.add hg1 (.inl ⟨.inr (.inl rfl),rfl,rfl⟩)) (gV _)) (.inr (.inr (.inr (.inl ⟨.inl rfl,rfl,rfl⟩))))) (.inr (.inr (.inr (.inl ⟨.inr rfl,rfl,rfl⟩))))) (.inl ⟨by omega,rfl,rfl⟩)
 rw [if_neg h];clear h;by_cases h:o=16
 . rw [if_pos h];exact NV.add (NV.uni (NV.add (R6 hkl env g1 hg1) (.inl ⟨.inr (.inl rfl),rfl,rfl⟩)) _ _) (gV _)
 rw [if_neg h];clear h;by_cases h:o=7
 . rw [if_pos h];exact fZ hkl _ _ (R6 hkl env g1 hg1)
 rw [if_neg h];clear h;by_cases h:o=8
 . rw [if_pos h];subst h;simp [nsB] at hns;exact fZ hkl _ _ (NV.uni (NV.add (R6 hkl env _ (NV.cE hg1 _)) (.inr (.inr (.inl ⟨rfl,rfl,by rw [hl];omega,by rw [hl];omega⟩)))) _ _)
 rw [if_neg h];clear h;by_cases h:o=9
 . rw [if_pos h];exact NV.uni (AVP hkl _ _ (fZ hkl _ _ (NV.uni (NV.add (R6 hkl env _ hg1) (.inl ⟨by omega,rfl,rfl⟩)) _ _))) _ _
 rw [if_neg h];clear h;by_cases h:o=11
 . rw [if_pos h];subst h;simp [nsB] at hns;refine NV.add (R6 hkl _ _ (NV.cE hg1 _)) (.inr (.inr (.inr (.inr ⟨rfl,rfl,by simp,?_⟩))));simp;omega
 rw [if_neg h];exact NV.uni (fZ hkl _ _ (NV.add (R6 hkl env _ hg1) (.inl ⟨.inr (.inl rfl),rfl,rfl⟩))) _ _
end
def ZI (l:List Nd):∀(k:Nat) (st:List Nat) (n x v:Nat),st[x]?=some v->v≠0->(HF l k st n).2[x]?=some v
 |0,st,n,x,v,h,_=>h
 |k+1,st,n,x,v,h,hv=>by
  rw [HF];simp only;split
  . rename_i h0;have hne:rtN l n≠x:=fun e=>by rw [e,h] at h0;simp at h0;exact hv h0
    have hf:∀(us:List Nat) (q:Bool×List Nat),q.2[x]?=some v->(us.foldl (fun (q:Bool×List Nat) a=>if q.1 then HF l k q.2 a else q) q).2[x]?=some v:=by
     intro us
     induction us with
     |nil=>intro q h;exact h
     |cons a us ih=>
      intro q h;rw [Au];refine ih _ ?_;split
      . exact ZI l k q.2 a x v h hv
      . exact h
    have h1:=hf (((l[rtN l n]?).map Nd.ar).getD []) (true,st.set (rtN l n) 1) (by rw [BJ hne];exact h);split
    . rw [BJ hne];exact h1
    . exact h1
  . exact h
def c2 (st:List Nat):Nat:=st.countP (·==2)
def AaQ (st:List Nat):c2 st<=st.length:=Vr
def AX4 {st:List Nat} {r:Nat} (h:st[r]?=some v) (hv:v≠2):c2 (st.set r 2)=c2 st+1:=by
 induction st generalizing r with
 |nil=>simp at h
 |cons x st ih=>
  cases r with
  |zero=>
   simp only [Aw,AM] at h;subst h;have:(x==2)=false:=by simpa using hv
   simp only [c2,KY,Fj,this];simp
  |succ r=>
   have:=ih (r:=r) (by simpa using h);simp only [c2,CR,Fj] at this ⊢;omega
def AT1 {st:List Nat} {r:Nat} (h:st[r]?=some 0):c2 (st.set r 1)=c2 st:=by
 induction st generalizing r with
 |nil=>simp at h
 |cons x st ih=>
  cases r with
  |zero=>
   simp only [Aw,AM] at h;subst h;simp [c2,KY]
  |succ r=>
   have:=ih (r:=r) (by simpa using h);simp only [c2,CR,Fj] at this ⊢;omega
structure AB7 (l:List Nd) (st:List Nat) (d:Nat->Nat):Prop where
 len:st.length=l.length
 rk:∀r,st[r]?=some 2->d r<=c2 st/\∃x,l[r]?=some x/\x.p=r/\∀a∈x.ar,st[rtN l a]?=some 2/\d (rtN l a) < d r
def xZ {l:List Nd} (hg:ER l):∀(k:Nat) (st:List Nat) (n:Nat) (d:Nat->Nat),zs st < k->AB7 l st d->n < l.length->(HF l k st n).1=true->
 ∃d',AB7 l (HF l k st n).2 d'/\(∀x,st[x]?=some 2->d' x=d x)/\(HF l k st n).2[rtN l n]?=some 2
 |0,st,n,d,hz,_,_,_=>by omega
 |k+1,st,n,d,hz,hi,hn,ht=>by
  obtain ⟨x,Z,hxp⟩:=hg.root hn;rw [HF] at ht ⊢;simp only at ht ⊢;generalize hr:rtN l n=r at *;by_cases h0:st[r]?=some 0
  . rw [if_pos h0] at ht ⊢;simp only [Z,Ac,BA] at ht ⊢;have hrl:r < st.length:=(AE.1 h0).1;have hz1:=AJP h0 (show (1:Nat)≠0 by decide)
    have hi1:AB7 l (st.set r 1) d:=by
     refine ⟨by simp [hi.len],fun m hm=>?_⟩;have hmr:r≠m:=fun e=>by rw [<- e,BK hrl] at hm;cases hm
     rw [BJ hmr] at hm;obtain ⟨h1,y,hy,hyp,h2⟩:=hi.rk m hm;refine ⟨by rw [AT1 h0];exact h1,y,hy,hyp,fun a ha=>?_⟩;obtain ⟨h3,h4⟩:=h2 a ha;exact ⟨by rw [BJ (fun e=>by rw [<- e,h0] at h3;cases h3)];exact h3,h4⟩
    have h1r:(st.set r 1)[r]?=some 1:=BK hrl
    have hf:∀(us:List Nat) (q:List Nat) (e:Nat->Nat),(∀a∈us,a < l.length)->zs q < k->AB7 l q e->q[r]?=some 1->(us.foldl (fun (q:Bool×List Nat) a=>if q.1 then HF l k q.2 a else q) (true,q)).1=true->
     ∃e',AB7 l (us.foldl (fun (q:Bool×List Nat) a=>if q.1 then HF l k q.2 a else q) (true,q)).2 e'/\(∀x:Nat,q[x]?=some 2->e' x=e x)/\(∀x:Nat,q[x]?=some 2->(us.foldl (fun (q:Bool×List Nat) a=>if q.1 then HF l k q.2 a else q) (true,q)).2[x]?=some 2)/\
      (∀a∈us,(us.foldl (fun (q:Bool×List Nat) a=>if q.1 then HF l k q.2 a else q) (true,q)).2[rtN l a]?=some 2)/\(us.foldl (fun (q:Bool×List Nat) a=>if q.1 then HF l k q.2 a else q) (true,q)).2[r]?=some 1:=by
     intro us
     induction us with
     |nil=>intro q e _ _ hq h1 _;exact ⟨e,hq,fun _ _=>rfl,fun _ h=>h,fun a ha=>by simp at ha,h1⟩
     |cons a us ih=>
      intro q e hl hzq hq h1 hT;rw [Au,if_pos rfl] at hT ⊢;have hle:=e7 l k q a;have hkp:=fun x Z=>ZI l k q a x 2 Z (by decide);have hk1:=ZI l k q a r 1 h1 (by decide);have hfin:=xZ hg k q a e hzq hq (hl a (AW));change (us.foldl _ (HF l k q a)).1=true at hT;generalize hw:HF l k q a=wp at *;obtain ⟨wb,ws⟩:=wp
      . cases wb with
        |false=>rw [jL] at hT;cases hT
        |true=>
         obtain ⟨d1,g1,g2,g3⟩:=hfin rfl;obtain ⟨e',f1,f2,f3,f4,f5⟩:=ih ws d1 (fun b hb=>hl b (AU _ hb)) (Nat.lt_of_le_of_lt hle.2 hzq) g1 hk1 hT;refine ⟨e',f1,fun x Z=>by rw [f2 x (hkp x Z),g2 x Z],fun x Z=>f3 x (hkp x Z),fun b hb=>?_,f5⟩;rcases Az.1 hb with rfl|hb
         . exact f3 _ g3
         . exact f4 b hb
    have hall:(x.ar.foldl (fun (q:Bool×List Nat) a=>if q.1 then HF l k q.2 a else q) (true,st.set r 1)).1=true:=ht;obtain ⟨e',f1,f2,f3,f4,f5⟩:=hf x.ar (st.set r 1) d (hg.ar r x Z) (by omega) hi1 h1r hall;generalize x.ar.foldl (fun (q:Bool×List Nat) a=>if q.1 then HF l k q.2 a else q) (true,st.set r 1)=q at *;rw [if_pos hall];have hql:r < q.2.length:=(AE.1 f5).1;have hc:=AX4 f5 (show (1:Nat)≠2 by decide);refine ⟨fun m=>if m=r then c2 q.2+1 else e' m,⟨by simp [f1.len],fun m hm=>?_⟩,fun m hm=>?_,BK hql⟩
    . by_cases e:m=r
      . subst e;refine ⟨by simp only [if_true];omega,x,Z,hxp,fun a ha=>?_⟩;have h4:=f4 a ha;have hne:rtN l a≠m:=fun e=>by rw [e,f5] at h4;cases h4
        refine ⟨by rw [BJ (A6 hne)];exact h4,?_⟩;simp only [if_neg hne,if_true];have:=(f1.rk _ h4).1;omega
      . rw [BJ (A6 e)] at hm;obtain ⟨h1,y,hy,hyp,h2⟩:=f1.rk m hm;refine ⟨by simp only [if_neg e];omega,y,hy,hyp,fun a ha=>?_⟩;obtain ⟨h3,h4⟩:=h2 a ha;have hne:rtN l a≠r:=fun e=>by rw [e,f5] at h3;cases h3
        exact ⟨by rw [BJ (A6 hne)];exact h3,by simp only [if_neg hne,if_neg e];exact h4⟩
    . have hmr:m≠r:=fun e=>by rw [e,h0] at hm;cases hm
      simp only [if_neg hmr];exact f2 m (by rw [BJ (A6 hmr)];exact hm)
  . rw [if_neg h0] at ht ⊢;exact ⟨d,hi,fun _ _=>rfl,by simpa using ht⟩
def xY {l:List Nd} (hg:ER l):∀(us:List Nat) (st:List Nat) (d:Nat->Nat),(∀a∈us,a < l.length)->zs st<=l.length->AB7 l st d->AG3 l (l.length+1) st us=true->
 ∃st' d',AB7 l st' d'/\(∀x:Nat,st[x]?=some 2->st'[x]?=some 2)/\∀a∈us,st'[rtN l a]?=some 2
 |[],st,d,_,_,hi,_=>⟨st,d,hi,fun _ h=>h,fun a ha=>by simp at ha⟩
 |n::us,st,d,hl,hz,hi,h=>by
  rw [AG3] at h;split at h
  . rename_i ht;obtain ⟨d1,g1,g2,g3⟩:=xZ hg (l.length+1) st n d (by omega) hi (hl n (AW)) ht;have hle:=e7 l (l.length+1) st n;obtain ⟨st',d',f1,f2,f3⟩:=xY hg us _ d1 (fun a ha=>hl a (AU _ ha)) (Af hle.2 hz) g1 h;refine ⟨st',d',f1,fun x Z=>f2 x (ZI l _ st n x 2 Z (by decide)),fun a ha=>?_⟩;rcases Az.1 ha with rfl|ha
    . exact f2 _ g3
    . exact f3 a ha
  . cases h
def AQP {l:List Nd} (hg:ER l) (h:qX l=true):∃d,FR l d:=by
 have hi0:AB7 l (AG l.length 0) (fun _=>0):=⟨by simp,fun r hr=>by
  rw [RH] at hr;split at hr<;>cases hr⟩
 obtain ⟨st,d,h1,_,h3⟩:=xY hg (Av l.length) _ _ (fun a ha=>Bz.1 ha) (ATN l.length) hi0 h;refine ⟨fun r=>if st[r]?=some 2 then d r else 0,fun r x Z hp a ha=>?_,fun r=>?_⟩
 . have hr:st[r]?=some 2:=by
    have:=h3 r (Bz.2 (AE.1 Z).1)
    rwa [LG Z,hp] at this
   obtain ⟨_,y,hy,_,h4⟩:=h1.rk r hr;rw [Z] at hy;cases hy;obtain ⟨h5,h6⟩:=h4 a ha;simp only [if_pos hr,if_pos h5];exact h6
 . by_cases e:st[r]?=some 2
   . simp only [if_pos e];have:=(h1.rk r e).1;have:=AaQ st;have:=h1.len;omega
   . simp only [if_neg e];omega
open Go.Proofs
set_option maxRecDepth 100000
set_option maxHeartbeats 40000000
noncomputable section
noncomputable def Rf:Cx:=⟨Tzp,8,Tryz.f8,99,[3,300013,300018,300023,300030,300035,300041,300046,300053,300058,300063,300069,300076,300083,300088,300094],[],[.t 2]⟩
instance D1:Good Rf:=⟨Tryz.func8,by kernel_rfl,mixed⟩
def ABG:Rf.rs=[.t 2]:=rfl
noncomputable def NJ:=BG Rf [] fun c a b d e=>G c [a,b,d,e]
def Kf:C:=lpC 0 (NJ .skip .skip .skip .skip)
def PS:C:=lpC 1 (NJ Kf .skip .skip .skip)
def XV:C:=lpC 2 (NJ Kf PS .skip .skip)
def p5:C:=lpC 3 (NJ Kf PS XV .skip)
def ACN:C:=(NJ Kf PS XV p5).1
def ADL:Inn Rf ACN 99:=inn [] D1 Tryz.ntmps8
noncomputable def AFJ:Cx:=⟨Tzp,22,Tryz.f22,73,[300014,300021,300026,300033,300039,300047,300054,300060,300067],[],[.t 4]⟩
instance AW8:Good AFJ:=⟨Tryz.func22,by kernel_rfl,mixed⟩
noncomputable def xB:Cx:=⟨Tzp,25,Tryz.f25,38,[300009,300012,300019,300021,300023,300027,300029,300037],[],[.c 4 (some 2)]⟩
instance ATO:Good xB:=⟨Tryz.func25,by kernel_rfl,mixed⟩
noncomputable def PC:Cx:=⟨Tzp,27,Tryz.f27,27,[],[],[.t 4]⟩
instance AAF:Good PC:=⟨Tryz.func27,by kernel_rfl,mixed⟩
def wT:PC.rs=[.t 4]:=rfl
noncomputable def fJ:=BG PC [] fun c a=>G c [a]
def mX:C:=lpC 0 (fJ .skip)
def zS:C:=(fJ mX).1
def AAK:Inn PC zS 27:=inn [] AAF Tryz.ntmps27
noncomputable def LN:Cx:=⟨Tzp,28,Tryz.f28,36,[300017,300023,300029],[],[.t 4]⟩
instance IA:Good LN:=⟨Tryz.func28,by kernel_rfl,mixed⟩
def oL:LN.rs=[.t 4]:=rfl
noncomputable def YP:=BG LN [] fun c a=>G c [a]
def eJ:C:=lpC 0 (YP .skip)
def p7:C:=(YP eJ).1
def rK:Inn LN p7 36:=inn [] IA Tryz.ntmps28
noncomputable def Rg:Cx:=⟨Tzp,29,Tryz.f29,91,[300018,300024,300030,300036,300042,300048,300057,300063,300072,300082],[],[.t 4]⟩
instance E8:Good Rg:=⟨Tryz.func29,by kernel_rfl,mixed⟩
def ABH:Rg.rs=[.t 4]:=rfl
noncomputable def YO:=BG Rg [] fun c a b=>G c [a,b]
def XW:C:=lpC 0 (YO .skip .skip)
def p6:C:=lpC 1 (YO XW .skip)
def ACO:C:=(YO XW p6).1
def ADM:Inn Rg ACO 91:=inn [] E8 Tryz.ntmps29
noncomputable def uM:Cx:=⟨Tzp,49,Tryz.f49,18,[],[],[.t 2]⟩
instance AQS:Good uM:=⟨Tryz.func49,by kernel_rfl,mixed⟩
noncomputable def o9:Cx:=⟨Tzp,50,Tryz.f50,22,[300007,300010,300017],[],[.t 2]⟩
instance APB:Good o9:=⟨Tryz.func50,by kernel_rfl,mixed⟩
noncomputable def AFK:Cx:=⟨Tzp,51,Tryz.f51,44,[300009,300012,300016,300023,300028,300036,300039],[],[.t 2]⟩
instance AW9:Good AFK:=⟨Tryz.func51,by kernel_rfl,mixed⟩
noncomputable def pA:Cx:=⟨Tzp,55,Tryz.f55,25,[],[],[.t 4]⟩
instance APC:Good pA:=⟨Tryz.func55,by kernel_rfl,mixed⟩
noncomputable def AB5:Cx:=⟨Tzp,56,Tryz.f56,146,[300022,300024,300026,300028,300033,300044,300047,300056,300064,300074,300078,300087,300092,300100,300105,300108,300109,300118,300125,300127,300129,300133,300136,300145],[],[.c 6 (some 6)]⟩
instance AUW:Good AB5:=⟨Tryz.func56,by kernel_rfl,mixed⟩
noncomputable def o7:Cx:=⟨Tzp,58,Tryz.f58,26,[],[],[.t 4]⟩
instance AO9:Good o7:=⟨Tryz.func58,by kernel_rfl,mixed⟩
noncomputable def o8:Cx:=⟨Tzp,59,Tryz.f59,27,[],[],[.t 4]⟩
instance APA:Good o8:=⟨Tryz.func59,by kernel_rfl,mixed⟩
attribute [go_sem] ABG wT oL ABH
end
def kN (l:List Str):Bool:=l.all fun s=>decide (s.length<=40)
def Q8 (n:Nat):decide ((40:Int) < (n:Int))=decide (40 < n):=decide_eq_decide.2 (by omega)
def AHF (n:Nat):decide ((10:Int) < (n:Int))=decide (10 < n):=decide_eq_decide.2 (by omega)
def AU3 (n:Nat):decide ((n:Int)<=(10:Int))=decide (n<=10):=decide_eq_decide.2 (by omega)
def M6 (l:List Str) (Y:AH):AR Tzp 27 [.d (.sl (l.map BX)),.d (.int .i64 10)] Y (fun v σ'=>v= .d (.bool (decide (l.length<=10)&&kN l))/\σ'=Y):=by
 refine AAK (by simp) ?_;rw [BD];refine Run.slot 0 (fun hb0=>?_);simp only [DR,if_true,AV.Ev,AA] at hb0;(repeat' (refine wQ ?_<;>try simp only [go_sem]));refine Run.BB ?_;refine Run.BE ((fun (a0:AV) (a1:AV)=>fun (i:Nat)=>put 0 a0 (put 1 a1 (put 5 (.d (.int .i64 i)) U))) _ _) (fun _=>E) (fun _=>Y) (fun i=>i<=l.length/\i<=11/\kN (l.take i)=true) (fun i=>l.length - i) ?_ 0 ⟨by simp,by simp,by simp [kN]⟩;rintro i ⟨hi,h11,hno⟩ ih;by_cases hlt:i < l.length
 . obtain ⟨x,Z⟩:=Ai hlt;have he:=BI (enc:=BX) Z;simp only [BX] at he;have hw1:=wsu i;by_cases h10:i<=10
   . by_cases hs:40 < x.length
     . have hf:(decide (l.length<=10)&&kN l)=false:=by
        rw [Vo];right;rw [CX];intro h;rw [kN,Aj] at h;have:=h x (AD Z);rw [decide_eq_true_eq] at this;omega
       (repeat' (refine wP ?_<;>try simp only [Ap hlt,he,AU3,decide_eq_true h10,Q8,decide_eq_true hs,AA,go_sem]));rw [hf]
     . (repeat' (refine wQ ?_<;>try simp only [Ap hlt,he,hw1,AU3,decide_eq_true h10,Q8,decide_eq_false hs,AA,go_sem]))
       exact ih (i+1) ⟨by omega,by omega,by
        rw [A5 Z,kN,ZV];rw [kN] at hno;rw [hno];simp;omega⟩ (by omega)
   . have hgt:decide (l.length<=10)=false:=decide_eq_false (by omega);(repeat' (refine wP ?_<;>try simp only [Ap hlt,AU3,decide_eq_false h10,AA,hgt,go_sem]))
     try rw [Mk]
 . have hile:i=l.length:=by omega
   subst hile;rw [AP (by omega)] at hno;(repeat' (refine wP ?_<;>try simp only [B7 hlt,AU3,AA,go_sem]));rw [hno,BU]
mutual
def TE.sm:TE->Prop
 | .mk _ n l=>n.length<=40/\TE.sms l
def TE.sms:List TE->Prop
 |[]=>True
 |t::l=>t.sm/\TE.sms l
end
def ANR (l:List Str):Prop:=l.length<=10/\∀s∈l,s.length<=40
mutual
def Ex.sm:Ex->Prop
 | .mk _ n _ ns ks al=>n.length<=40/\ANR ns/\Ex.sms ks/\Al.sms al
def Ex.sms:List Ex->Prop
 |[]=>True
 |t::l=>t.sm/\Ex.sms l
def Al.sm:Al->Prop
 | .mk c vs b=>c.length<=40/\ANR vs/\b.sm
def Al.sms:List Al->Prop
 |[]=>True
 |t::l=>t.sm/\Al.sms l
end
def TE.Ra:∀ {l:List TE},TE.sms l↔∀t∈l,t.sm
 |[]=>by simp [TE.sms]
 |t::l=>by simp [TE.sms,TE.Ra (l:=l)]
def Ex.Ra:∀ {l:List Ex},Ex.sms l↔∀t∈l,t.sm
 |[]=>by simp [Ex.sms]
 |t::l=>by simp [Ex.sms,Ex.Ra (l:=l)]
def Al.Ra:∀ {l:List Al},Al.sms l↔∀t∈l,t.sm
 |[]=>by simp [Al.sms]
 |t::l=>by simp [Al.sms,Al.Ra (l:=l)]
def AA5 {l:List Str} (h:(decide (l.length<=10)&&kN l)=true):ANR l:=by
 simp only [kN,AO,decide_eq_true_eq,Aj] at h;exact h
def G2 {p:α->Prop} {l:List α} {i:Nat} {x:α} (h:∀t∈l.take i,p t) (Z:l[i]?=some x) (hp:p x):∀t∈l.take (i+1),p t:=by
 intro t ht;rw [A5 Z,AZ,A3] at ht;rcases ht with ht|rfl
 . exact h t ht
 . exact hp
def TE.DB {l:List TE} {i:Nat} {x:TE} (h:l[i]?=some x):TE.AQ (l.take (i+1))=TE.AQ (l.take i)+x.size:=by
 rw [A5 h,TE.Bn];simp [TE.AQ]
def Ex.DB {l:List Ex} {i:Nat} {x:Ex} (h:l[i]?=some x):Ex.AQ (l.take (i+1))=Ex.AQ (l.take i)+x.size:=by
 rw [A5 h,Ex.Bn];simp [Ex.AQ]
def Al.DB {l:List Al} {i:Nat} {x:Al} (h:l[i]?=some x):Al.AQ (l.take (i+1))=Al.AQ (l.take i)+x.size:=by
 rw [A5 h,Al.Bn];simp [Al.AQ]
def ATR (Gs:Prop) (size q:Nat) (b:Bool) (z:Int):Prop:=b=true->Gs/\∃q':Nat,z=q'/\size+q'=q
def sM {q:Nat}:decide ((q:Int) < 0)=false:=decide_eq_false (by omega)
def oD (j:Nat):∀(N:Nat) (t:TE) (q:Nat) (Y:AH),t.size<=N->q<=1000->Y.blk j=some [.d (.int .i64 q)]->
 AR Tzp 28 [teA t,.gp j 0] Y (fun v σ'=>∃b z,(v= .d (.bool b)/\σ'=Y.AL j [.d (.int .i64 z)])/\ATR t.sm t.size q b z):=by
 intro N
 induction N with
 |zero=>intro t q Y h;have:=TE.size_pos t;omega
 |succ N ihN=>
 rintro ⟨k,n,l⟩ q Y hN hq hj;simp only [TE.size] at hN;refine rK (by simp) ?_;rw [BD,teA,TE.A4];simp only [AF,AN];generalize hQ:(fun (v:AV) (σ':AH)=>∃b z,(v= .d (.bool b)/\σ'=Y.AL j [.d (.int .i64 z)])/\ATR (TE.mk k n l).sm (TE.mk k n l).size q b z)=Q;have hno:∀z,Q (.d (.bool false)) (Y.AL j [.d (.int .i64 z)]):=fun z=>by rw [<- hQ];exact ⟨false,z,⟨rfl,rfl⟩,fun h=>by cases h⟩
 have hyes:∀q':Nat,n.length<=40->(∀t∈l,t.sm)->1+TE.AQ l+q'=q->Q (.d (.bool true)) (Y.AL j [.d (.int .i64 q')]):=fun q' h1 h2 h3=>by
  rw [<- hQ];exact ⟨true,q',⟨rfl,rfl⟩,fun _=>⟨by rw [TE.sm,TE.Ra];exact ⟨h1,h2⟩,q',rfl,by rw [TE.size];exact h3⟩⟩
 clear hQ;rcases KZ q with rfl|hq0
 . have hm1:IntKind.i64.wrap (((0:Nat):Int) - 1)=-1:=by decide
   have hn1:decide ((-1:Int) < 0)=true:=by decide
   (repeat' ((first|refine wQ ?_|(refine Run.Bg IA (AH.le_refl _) ?_)|fail)<;>try simp only [hj,hm1,hn1,AJ,G7,Fk,Ag,go_sem]));exact hno _
 obtain ⟨q,rfl⟩:∃m,q=m+1:=⟨q - 1,by omega⟩;have hm1:IntKind.i64.wrap (((q+1:Nat):Int) - 1)=(q:Int):=by rw [D4 (by omega) (by omega)];omega
 by_cases h40:40 < n.length
 . (repeat' ((first|refine wQ ?_|(refine Run.Bg IA (AH.le_refl _) ?_)|fail)<;>try simp only [hj,hm1,sM,Q8,decide_eq_true h40,AJ,G7,Fk,Ag,go_sem]));exact hno _
 (repeat' (refine wQ ?_<;>try simp only [hj,hm1,sM,Q8,decide_eq_false h40,AJ,G7,Fk,Ag,go_sem]));refine Run.BB ?_
 refine Run.BE ((fun (a1:AV) (a2:AV)=>fun (y:Nat×Nat)=>put 1 a1 (put 2 a2 (put 5 (.d (.int .i64 y.1)) U))) _ _) (fun _=>At 2 [.d (.int .i64 k),.d (.str n),.d (.sl (l.map TE.enc))] E) (fun y=>Y.AL j [.d (.int .i64 y.2)])
  (fun y=>y.1<=l.length/\(∀t∈l.take y.1,t.sm)/\TE.AQ (l.take y.1)+y.2=q) (fun y=>l.length - y.1) ?_ (0,q) ⟨by simp,by simp,by simp [TE.AQ]⟩
 rintro ⟨i,q'⟩ ⟨hi,hsm,hsz⟩ ih;simp only at hi hsm hsz;have hil:=TE.Bx (l.take i);rw [B5,FN hi] at hil;by_cases hlt:i < l.length
 . obtain ⟨x,Z⟩:=Ai hlt;have he:=BI (enc:=TE.enc) Z;have hw1:=wsu i;have hxs:=TE.Im (AD Z);have hc:=ihN x q' (Y.AL j [.d (.int .i64 q')]) (by omega) (by omega) BT;have hst:=TE.DB Z;have hms:=fun hp=>G2 (p:=TE.sm) hsm Z hp;obtain ⟨xk,xn,xl⟩:=x;simp only [teA,TE.A4,AF,AN] at he hc;(repeat' ((first|refine wQ ?_|(refine AI.mk rfl hc ?_;rintro v σ' ⟨b,z,⟨rfl,rfl⟩,hres⟩;cases b<;>rw [Dr])|(refine Run.Bg IA (AH.le_refl _) ?_)|fail)<;>try simp only [Ap hlt,he,hw1,AA,go_sem]))
   . exact hno z
   . obtain ⟨g1,q2,rfl,g2⟩:=hres rfl;exact ih (i+1,q2) ⟨by simp only;omega,hms g1,by simp only;omega⟩ (by simp only;omega)
 . rw [AP (by omega)] at hsm hsz;(repeat' ((first|refine wQ ?_|(refine Run.Bg IA (AH.le_refl _) ?_)|fail)<;>try simp only [B7 hlt,AA,go_sem]));exact hyes q' (by omega) hsm (by omega)
def AAU (j:Nat):∀(N:Nat) (e:Ex) (q:Nat) (Y:AH),e.size<=N->q<=1000->Y.blk j=some [.d (.int .i64 q)]->
 AR Tzp 29 [exA e,.gp j 0] Y (fun v σ'=>∃b z,(v= .d (.bool b)/\σ'=Y.AL j [.d (.int .i64 z)])/\ATR e.sm e.size q b z):=by
 intro N
 induction N with
 |zero=>intro t q Y h;have:=Ex.size_pos t;omega
 |succ N ihN=>
 rintro ⟨o,n,u,ns,ks,al⟩ q Y hN hq hj;simp only [Ex.size] at hN;refine ADM (by simp) ?_;rw [BD,exA,Ex.A4];simp only [AF,AN];generalize hQ:(fun (v:AV) (σ':AH)=>∃b z,(v= .d (.bool b)/\σ'=Y.AL j [.d (.int .i64 z)])/\ATR (Ex.mk o n u ns ks al).sm (Ex.mk o n u ns ks al).size q b z)=Q;have hno:∀z,Q (.d (.bool false)) (Y.AL j [.d (.int .i64 z)]):=fun z=>by rw [<- hQ];exact ⟨false,z,⟨rfl,rfl⟩,fun h=>by cases h⟩
 have hyes:∀q':Nat,n.length<=40->ANR ns->(∀t∈ks,t.sm)->(∀t∈al,t.sm)->1+Ex.AQ ks+Al.AQ al+q'=q->Q (.d (.bool true)) (Y.AL j [.d (.int .i64 q')]):=fun q' h1 h2 h3 h4 h5=>by
  rw [<- hQ];exact ⟨true,q',⟨rfl,rfl⟩,fun _=>⟨by rw [Ex.sm,Ex.Ra,Al.Ra];exact ⟨h1,h2,h3,h4⟩,q',rfl,by rw [Ex.size];exact h5⟩⟩
 clear hQ;have hnm:=fun Y=>M6 ns Y;rcases KZ q with rfl|hq0
 . have hm1:IntKind.i64.wrap (((0:Nat):Int) - 1)=-1:=by decide
   have hn1:decide ((-1:Int) < 0)=true:=by decide
   (repeat' ((first|refine wQ ?_|(refine Run.Bg E8 (AH.le_refl _) ?_)|fail)<;>try simp only [hj,hm1,hn1,AJ,G7,Fk,Ag,go_sem]));exact hno _
 obtain ⟨q,rfl⟩:∃m,q=m+1:=⟨q - 1,by omega⟩;have hm1:IntKind.i64.wrap (((q+1:Nat):Int) - 1)=(q:Int):=by rw [D4 (by omega) (by omega)];omega
 by_cases h40:40 < n.length
 . (repeat' ((first|refine wQ ?_|(refine Run.Bg E8 (AH.le_refl _) ?_)|fail)<;>try simp only [hj,hm1,sM,Q8,decide_eq_true h40,AJ,G7,Fk,Ag,go_sem]));exact hno _
 cases hnk:(decide (ns.length<=10)&&kN ns) with
 |false=>
  rw [hnk] at hnm;(repeat' ((first|refine wQ ?_|(refine Run.Bg E8 (AH.le_refl _) ?_)|refine AI.det (hnm _) ?_|fail)<;>try simp only [hj,hm1,sM,Q8,decide_eq_false h40,AJ,G7,Fk,Ag,go_sem]));exact hno _
 |true=>
 rw [hnk] at hnm;by_cases hk10:10 < ks.length
 . (repeat' ((first|refine wQ ?_|(refine Run.Bg E8 (AH.le_refl _) ?_)|refine AI.det (hnm _) ?_|fail)<;>try simp only [hj,hm1,sM,Q8,decide_eq_false h40,AHF,AA,decide_eq_true hk10,AJ,G7,Fk,Ag,go_sem]));exact hno _
 by_cases ha10:10 < al.length
 . (repeat' ((first|refine wQ ?_|(refine Run.Bg E8 (AH.le_refl _) ?_)|refine AI.det (hnm _) ?_|fail)<;>try simp only [hj,hm1,sM,Q8,decide_eq_false h40,AHF,AA,decide_eq_false hk10,decide_eq_true ha10,AJ,G7,Fk,Ag,go_sem]));exact hno _
 (repeat' ((first|refine wQ ?_|refine AI.det (hnm _) ?_|fail)<;>try simp only [hj,hm1,sM,Q8,decide_eq_false h40,AHF,AA,decide_eq_false hk10,decide_eq_false ha10,AJ,G7,Fk,Ag,go_sem]));refine Run.BB ?_
 refine Run.BE ((fun (a1:AV) (a2:AV)=>fun (y:Nat×Nat)=>put 1 a1 (put 2 a2 (put 5 (.d (.int .i64 y.1)) U))) _ _) (fun _=>At 2 [.d (.int .i64 o),.d (.str n),.d (.int .i64 u),.d (.sl (ns.map BX)),.d (.sl (ks.map Ex.enc)),.d (.sl (al.map Al.enc))] E) (fun y=>Y.AL j [.d (.int .i64 y.2)])
  (fun y=>y.1<=ks.length/\(∀t∈ks.take y.1,t.sm)/\Ex.AQ (ks.take y.1)+y.2=q) (fun y=>ks.length - y.1) ?_ (0,q) ⟨by simp,by simp,by simp [Ex.AQ]⟩
 rintro ⟨i,q'⟩ ⟨hi,hsm,hsz⟩ ih;simp only at hi hsm hsz;by_cases hlt:i < ks.length
 . obtain ⟨x,Z⟩:=Ai hlt;have he:=BI (enc:=Ex.enc) Z;have hw1:=wsu i;have hxs:=Ex.Im (AD Z);have hc:=ihN x q' (Y.AL j [.d (.int .i64 q')]) (by omega) (by omega) BT;have hst:=Ex.DB Z;have hms:=fun hp=>G2 (p:=Ex.sm) hsm Z hp;obtain ⟨xo,xn,xu,xns,xks,xal⟩:=x;simp only [exA,Ex.A4,AF,AN] at he hc;(repeat' ((first|refine wQ ?_|(refine AI.mk rfl hc ?_;rintro v σ' ⟨b,z,⟨rfl,rfl⟩,hres⟩;cases b<;>rw [Dr])|(refine Run.Bg E8 (AH.le_refl _) ?_)|fail)<;>try simp only [Ap hlt,he,hw1,AA,go_sem]))
   . exact hno z
   . obtain ⟨g1,q2,rfl,g2⟩:=hres rfl;exact ih (i+1,q2) ⟨by simp only;omega,hms g1,by simp only;omega⟩ (by simp only;omega)
 . rw [AP (by omega)] at hsm hsz;clear ih;(repeat' (refine wQ ?_<;>try simp only [B7 hlt,AA,go_sem]));refine Run.BB ?_
   refine Run.BE ((fun (a1:AV) (a2:AV)=>fun (y:Nat×Nat)=>put 1 a1 (put 2 a2 (put 6 (.d (.int .i64 y.1)) U))) _ _) (fun _=>At 2 [.d (.int .i64 o),.d (.str n),.d (.int .i64 u),.d (.sl (ns.map BX)),.d (.sl (ks.map Ex.enc)),.d (.sl (al.map Al.enc))] E) (fun y=>Y.AL j [.d (.int .i64 y.2)])
    (fun y=>y.1<=al.length/\(∀t∈al.take y.1,t.sm)/\Al.AQ (al.take y.1)+y.2=q') (fun y=>al.length - y.1) ?_ (0,q') ⟨by simp,by simp,by simp [Al.AQ]⟩
   rintro ⟨i2,q2⟩ ⟨hi2,hsm2,hsz2⟩ ih;simp only at hi2 hsm2 hsz2;by_cases hlt:i2 < al.length
   . obtain ⟨x,Z⟩:=Ai hlt;have he:=BI (enc:=Al.enc) Z;have hw1:=wsu i2;have hxs:=Al.Im (AD Z);have hst:=Al.DB Z;have hms:=fun hp=>G2 (p:=Al.sm) hsm2 Z hp;obtain ⟨xc,xvs,xb⟩:=x;rw [Al.size] at hxs hst;have hc:=ihN xb q2 (Y.AL j [.d (.int .i64 q2)]) (by omega) (by omega) BT;have hnv:=fun Y=>M6 xvs Y;obtain ⟨xo,xn,xu,xns,xks,xal⟩:=xb;simp only [exA,Al.A4,Ex.A4,AF,AN] at he hc;by_cases hc40:40 < xc.length
     . (repeat' ((first|refine wQ ?_|(refine Run.Bg E8 (AH.le_refl _) ?_)|fail)<;>try simp only [Ap hlt,he,Q8,decide_eq_true hc40,AA,go_sem]));exact hno _
     cases hvk:(decide (xvs.length<=10)&&kN xvs) with
     |false=>
      rw [hvk] at hnv;(repeat' ((first|refine wQ ?_|(refine Run.Bg E8 (AH.le_refl _) ?_)|refine AI.det (hnv _) ?_|fail)<;>try simp only [Ap hlt,he,Q8,decide_eq_false hc40,AA,go_sem]));exact hno _
     |true=>
     rw [hvk] at hnv;(repeat' ((first|refine wQ ?_|(refine AI.mk rfl hc ?_;rintro v σ' ⟨b,z,⟨rfl,rfl⟩,hres⟩;cases b<;>rw [Dr])|(refine Run.Bg E8 (AH.le_refl _) ?_)|refine AI.det (hnv _) ?_|fail)<;>try simp only [Ap hlt,he,hw1,Q8,decide_eq_false hc40,AA,go_sem]))
     . exact hno z
     . obtain ⟨g1,q3,rfl,g2⟩:=hres rfl;exact ih (i2+1,q3) ⟨by simp only;omega,hms (by rw [Al.sm];exact ⟨by omega,AA5 hvk,g1⟩),by simp only;omega⟩ (by simp only;omega)
   . rw [AP (by omega)] at hsm2 hsz2;(repeat' ((first|refine wQ ?_|(refine Run.Bg E8 (AH.le_refl _) ?_)|fail)<;>try simp only [B7 hlt,AA,go_sem]));exact hyes q2 (by omega) (AA5 hnk) hsm hsm2 (by omega)
def CE.sm (c:CE):Prop:=c.name.length<=40/\c.args.length<=10/\∀t∈c.args,t.sm/\t.size<=200
def DE.sm (d:DE):Prop:=d.name.length<=40/\ANR d.vars/\d.cons.length<=10/\∀c∈d.cons,c.sm
def FE.sm (f:FE):Prop:=f.name.length<=40/\ANR f.params/\f.body.sm/\f.body.size<=200
def Pg.sm (p:Pg):Prop:=(p.data.length<=14/\∀d∈p.data,d.sm)/\p.Dz.length<=26/\∀f∈p.Dz,f.sm
def AYP (n:Nat):decide ((14:Int) < (n:Int))=decide (14 < n):=decide_eq_decide.2 (by omega)
def AbA (n:Nat):decide ((26:Int) < (n:Int))=decide (26 < n):=decide_eq_decide.2 (by omega)
def Va (fs:List FE):Nat:=(fs.map fun f=>f.body.size).sum
def AOR {fs:List FE} {i:Nat} {f:FE} (h:fs[i]?=some f):Va (fs.take (i+1))=Va (fs.take i)+f.body.size:=by
 rw [A5 h,Va,Ao,List.sum_append];simp [Va]
def wG (p:Pg) (Y:AH):AR Tzp 8 [pgA p] Y (fun v σ'=>∃b,(v= .d (.bool b)/\σ'=Y)/\(b=true->p.sm/\Va p.Dz<=200)):=by
 refine ADL (by simp) ?_;rw [Bj];obtain ⟨ds,fs⟩:=p;simp only [pgA,Pg.enc,AF,AN];generalize hQ:(fun (v:AV) (σ':AH)=>∃b,(v= .d (.bool b)/\σ'=Y)/\(b=true->Pg.sm ⟨ds,fs⟩/\Va fs<=200))=Q;have hno:Q (.d (.bool false)) Y:=by rw [<- hQ];exact ⟨false,⟨rfl,rfl⟩,fun h=>by cases h⟩
 have hyes:Pg.sm ⟨ds,fs⟩->Va fs<=200->Q (.d (.bool true)) Y:=fun h h'=>by rw [<- hQ];exact ⟨true,⟨rfl,rfl⟩,fun _=>⟨h,h'⟩⟩
 clear hQ;by_cases hd14:14 < ds.length
 . (repeat' (first|refine ctQ rfl ?_|((first|refine rgQ mxQ ?_|refine cdQ ?_|refine Run.qR D1 ?_)<;>try simp only [AA,AYP,decide_eq_true hd14,go_sem])|fail));exact hno
 by_cases hf26:26 < fs.length
 . (repeat' (first|refine ctQ rfl ?_|((first|refine rgQ mxQ ?_|refine cdQ ?_|refine Run.qR D1 ?_)<;>try simp only [AA,AYP,decide_eq_false hd14,AbA,decide_eq_true hf26,go_sem])|fail));exact hno
 (repeat' (first|refine ctQ rfl ?_|((first|refine rgQ mxQ ?_|refine cdQ ?_)<;>try simp only [AA,AYP,decide_eq_false hd14,AbA,decide_eq_false hf26,go_sem])|fail));rintro j ⟨hj,hjb⟩;obtain ⟨hle0,hbj⟩:=APJ (z:=[AV.d (.int .i64 0)]) (x:=(1,3)) ⟨hj,hjb⟩;generalize hτ:(Y.AL j [AV.d (.int .i64 0)]).Bl j (1,3)=τ0 at hle0 hbj ⊢;have hle:∀q:Nat,Y.le (τ0.AL j [.d (.int .i64 q)]):=fun q=>EC hle0 hj;have hbk:∀q:Nat,(τ0.AL j [.d (.int .i64 q)]).blk j=some [.d (.int .i64 q)]:=fun q=>BT;clear hτ;simp only [hbj,Fk,go_sem];(repeat' (first|refine ctQ rfl ?_|((first|refine rgQ mxQ ?_|refine cdQ ?_)<;>try simp only [AA,go_sem])|fail));refine Run.BB ?_
 refine Run.BE ((fun (a1:AV) (a3:AV) (a23:AV) (a24:AV)=>fun (y:Nat×Nat)=>put 1 a1 (put 3 a3 (put 23 a23 (put 24 a24 (put 25 (.d (.int .i64 y.1)) U))))) _ _ _ _) (fun _=>At 1 [.d (.sl (ds.map DE.enc)),.d (.sl (fs.map FE.enc))] E) (fun y=>τ0.AL j [.d (.int .i64 y.2)])
  (fun y=>y.1<=ds.length/\y.2<=200/\∀d∈ds.take y.1,d.sm) (fun y=>ds.length - y.1) ?_ (0,200) ⟨by simp,by simp,by simp⟩
 rintro ⟨i,q⟩ ⟨hi,hq,hsm⟩ ih;simp only at hi hq hsm;by_cases hlt:i < ds.length
 . obtain ⟨d,hd⟩:=Ai hlt;have he:=BI (enc:=DE.enc) hd;have hw1:=wsu i;have hms:=fun hp=>G2 (p:=DE.sm) hsm hd hp;obtain ⟨dn,dvs',dcs⟩:=d;simp only [DE.enc] at he;have hnm:=fun Y=>M6 dvs' Y;by_cases h40:40 < dn.length
   . (repeat' (first|refine ctQ rfl ?_|((first|refine rgQ mxQ ?_|refine cdQ ?_|(refine Run.Bg D1 (σ2:=Y) (hle _) ?_))<;>try simp only [Ap hlt,he,Q8,decide_eq_true h40,go_sem])|fail));exact hno
   cases hnk:(decide (dvs'.length<=10)&&kN dvs') with
   |false=>
    rw [hnk] at hnm;(repeat' (first|refine ctQ rfl ?_|((first|refine rgQ mxQ ?_|refine cdQ ?_|(refine Run.Bg D1 (σ2:=Y) (hle _) ?_)|refine AI.det (hnm _) ?_)<;>try simp only [Ap hlt,he,Q8,decide_eq_false h40,go_sem])|fail));exact hno
   |true=>
   rw [hnk] at hnm;by_cases hc10:10 < dcs.length
   . (repeat' (first|refine ctQ rfl ?_|((first|refine rgQ mxQ ?_|refine cdQ ?_|(refine Run.Bg D1 (σ2:=Y) (hle _) ?_)|refine AI.det (hnm _) ?_)<;>try simp only [Ap hlt,he,Q8,decide_eq_false h40,AHF,decide_eq_true hc10,AA,go_sem])|fail));exact hno
   (repeat' (first|refine ctQ rfl ?_|((first|refine rgQ mxQ ?_|refine cdQ ?_|refine AI.det (hnm _) ?_)<;>try simp only [Ap hlt,he,Q8,decide_eq_false h40,AHF,decide_eq_false hc10,AA,go_sem])|fail));refine Run.BB ?_
   refine Run.BE ((fun (a1:AV) (a3:AV) (a23:AV) (a24:AV) (a25:AV) (a46:AV) (a47:AV)=>fun (y:Nat×Nat)=>put 1 a1 (put 3 a3 (put 23 a23 (put 24 a24 (put 25 a25 (put 46 a46 (put 47 a47 (put 48 (.d (.int .i64 y.1)) U)))))))) _ _ _ _ _ _ _) (fun _=>At 1 [.d (.sl (ds.map DE.enc)),.d (.sl (fs.map FE.enc))] E) (fun y=>τ0.AL j [.d (.int .i64 y.2)])
    (fun y=>y.1<=dcs.length/\y.2<=200/\∀d∈dcs.take y.1,d.sm) (fun y=>dcs.length - y.1) ?_ (0,q) ⟨by simp,hq,by simp⟩
   rintro ⟨i1,q1⟩ ⟨hi1,hq1,hsm1⟩ ih1;simp only at hi1 hq1 hsm1;by_cases hlt1:i1 < dcs.length
   . obtain ⟨c,hc⟩:=Ai hlt1;have he1:=BI (enc:=CE.enc) hc;have hw2:=wsu i1;have hms1:=fun hp=>G2 (p:=CE.sm) hsm1 hc hp;obtain ⟨cn,ar⟩:=c;simp only [CE.enc] at he1;by_cases hcn40:40 < cn.length
     . (repeat' (first|refine ctQ rfl ?_|((first|refine rgQ mxQ ?_|refine cdQ ?_|(refine Run.Bg D1 (σ2:=Y) (hle _) ?_))<;>try simp only [Ap hlt1,he1,Q8,decide_eq_true hcn40,go_sem])|fail));exact hno
     by_cases ha10:10 < ar.length
     . (repeat' (first|refine ctQ rfl ?_|((first|refine rgQ mxQ ?_|refine cdQ ?_|(refine Run.Bg D1 (σ2:=Y) (hle _) ?_))<;>try simp only [Ap hlt1,he1,Q8,decide_eq_false hcn40,AHF,decide_eq_true ha10,AA,go_sem])|fail));exact hno
     (repeat' (first|refine ctQ rfl ?_|((first|refine rgQ mxQ ?_|refine cdQ ?_)<;>try simp only [Ap hlt1,he1,Q8,decide_eq_false hcn40,AHF,decide_eq_false ha10,AA,go_sem])|fail));refine Run.BB ?_
     refine Run.BE ((fun (a1:AV) (a3:AV) (a23:AV) (a24:AV) (a25:AV) (a46:AV) (a47:AV) (a48:AV) (a63:AV) (a64:AV)=>fun (y:Nat×Nat)=>put 1 a1 (put 3 a3 (put 23 a23 (put 24 a24 (put 25 a25 (put 46 a46 (put 47 a47 (put 48 a48 (put 63 a63 (put 64 a64 (put 65 (.d (.int .i64 y.1)) U))))))))))) _ _ _ _ _ _ _ _ _ _) (fun _=>At 1 [.d (.sl (ds.map DE.enc)),.d (.sl (fs.map FE.enc))] E) (fun y=>τ0.AL j [.d (.int .i64 y.2)])
      (fun y=>y.1<=ar.length/\y.2<=200/\∀t∈ar.take y.1,t.sm/\t.size<=200) (fun y=>ar.length - y.1) ?_ (0,q1) ⟨by simp,hq1,by simp⟩
     rintro ⟨i2,q2⟩ ⟨hi2,hq2,hsm2⟩ ih2;simp only at hi2 hq2 hsm2;by_cases hlt2:i2 < ar.length
     . obtain ⟨x,Z⟩:=Ai hlt2;have he2:=BI (enc:=TE.enc) Z;have hw3:=wsu i2;have hms2:=fun hp=>G2 (p:=fun t=>TE.sm t/\t.size<=200) hsm2 Z hp;have hcl:=oD j x.size x q2 (τ0.AL j [.d (.int .i64 q2)]) (AS _) (by omega) (hbk q2);obtain ⟨xk,xn,xl⟩:=x;simp only [teA,TE.A4,AF,AN] at he2 hcl;(repeat' (first|refine ctQ rfl ?_|((first|refine rgQ mxQ ?_|refine cdQ ?_|(refine AI.mk rfl hcl ?_;rintro v σ' ⟨b,z,⟨rfl,rfl⟩,hres⟩;cases b<;>rw [Dr])|(refine Run.Bg D1 (σ2:=Y) (EC hle0 hj) ?_))<;>try simp only [Ap hlt2,he2,hw3,go_sem])|fail))
       . exact hno
       . obtain ⟨g1,q3,rfl,g2⟩:=hres rfl;exact ih2 (i2+1,q3) ⟨by simp only;omega,by simp only;omega,hms2 ⟨g1,by omega⟩⟩ (by simp only;omega)
     . rw [AP (by omega)] at hsm2;(repeat' (first|refine ctQ rfl ?_|((first|refine rgQ mxQ ?_|refine cdQ ?_)<;>try simp only [B7 hlt2,hw2,go_sem])|fail));exact ih1 (i1+1,q2) ⟨by simp only;omega,hq2,hms1 ⟨by simp only;omega,by simp only;omega,hsm2⟩⟩ (by simp only;omega)
   . rw [AP (by omega)] at hsm1;(repeat' (first|refine ctQ rfl ?_|((first|refine rgQ mxQ ?_|refine cdQ ?_)<;>try simp only [B7 hlt1,hw1,go_sem])|fail));exact ih (i+1,q1) ⟨by simp only;omega,hq1,hms ⟨by simp only;omega,AA5 hnk,by simp only;omega,hsm1⟩⟩ (by simp only;omega)
 . rw [AP (by omega)] at hsm;clear ih;(repeat' (first|refine ctQ rfl ?_|((first|refine rgQ mxQ ?_|refine cdQ ?_)<;>try simp only [B7 hlt,AA,go_sem])|fail));refine Run.BB ?_
   refine Run.BE ((fun (a3:AV) (a76:AV) (a77:AV)=>fun (y:Nat×Nat)=>put 3 a3 (put 76 a76 (put 77 a77 (put 78 (.d (.int .i64 y.1)) U)))) _ _ _) (fun _=>E) (fun y=>τ0.AL j [.d (.int .i64 y.2)])
    (fun y=>y.1<=fs.length/\y.2+Va (fs.take y.1)<=200/\∀d∈fs.take y.1,d.sm) (fun y=>fs.length - y.1) ?_ (0,q) ⟨by simp,by simpa [Va] using hq,by simp⟩
   rintro ⟨i1,q1⟩ ⟨hi1,hq1,hsm1⟩ ih;simp only at hi1 hq1 hsm1;by_cases hlt1:i1 < fs.length
   . obtain ⟨f,hf⟩:=Ai hlt1;have he:=BI (enc:=FE.enc) hf;have hw1:=wsu i1;have hms:=fun hp=>G2 (p:=FE.sm) hsm1 hf hp;have hsz:=AOR hf;obtain ⟨fn,fps,fb⟩:=f;have hnm:=fun Y=>M6 fps Y;have hcl:=AAU j fb.size fb q1 (τ0.AL j [.d (.int .i64 q1)]) (AS _) (by omega) (hbk q1);obtain ⟨xo,xn,xu,xns,xks,xal⟩:=fb;simp only [FE.enc,exA,Ex.A4,AF,AN] at he hcl;by_cases h40:40 < fn.length
     . (repeat' (first|refine ctQ rfl ?_|((first|refine rgQ mxQ ?_|refine cdQ ?_|(refine Run.Bg D1 (σ2:=Y) (hle _) ?_))<;>try simp only [Ap hlt1,he,Q8,decide_eq_true h40,go_sem])|fail));exact hno
     cases hnk:(decide (fps.length<=10)&&kN fps) with
     |false=>
      rw [hnk] at hnm;(repeat' (first|refine ctQ rfl ?_|((first|refine rgQ mxQ ?_|refine cdQ ?_|(refine Run.Bg D1 (σ2:=Y) (hle _) ?_)|refine AI.det (hnm _) ?_)<;>try simp only [Ap hlt1,he,Q8,decide_eq_false h40,go_sem])|fail));exact hno
     |true=>
     rw [hnk] at hnm;(repeat' (first|refine ctQ rfl ?_|((first|refine rgQ mxQ ?_|refine cdQ ?_|(refine AI.mk rfl hcl ?_;rintro v σ' ⟨b,z,⟨rfl,rfl⟩,hres⟩;cases b<;>rw [Dr])|(refine Run.Bg D1 (σ2:=Y) (EC hle0 hj) ?_)|refine AI.det (hnm _) ?_)<;>try simp only [Ap hlt1,he,hw1,Q8,decide_eq_false h40,go_sem])|fail))
     . exact hno
     . obtain ⟨g1,q3,rfl,g2⟩:=hres rfl;exact ih (i1+1,q3) ⟨by simp only;omega,by simp only at hsz ⊢;omega,hms ⟨by simp only;omega,AA5 hnk,g1,by simp only;omega⟩⟩ (by simp only;omega)
   . rw [AP (by omega)] at hsm1;(repeat' (first|refine ctQ rfl ?_|((first|refine rgQ mxQ ?_|refine cdQ ?_|(refine Run.Bg D1 (σ2:=Y) (hle _) ?_))<;>try simp only [B7 hlt1,go_sem])|fail));rw [AP (by omega)] at hq1;exact hyes ⟨⟨by simp only;omega,hsm⟩,by simp only;omega,hsm1⟩ (by omega)
def AV9 (m:Nat) (l:List Str):Prop:=∀s∈l,s.length<=m
mutual
def TE.sh (m:Nat):TE->Prop
 | .mk _ n l=>n.length<=m/\TE.shs m l
def TE.shs (m:Nat):List TE->Prop
 |[]=>True
 |t::l=>t.sh m/\TE.shs m l
end
mutual
def Ex.sh (m:Nat):Ex->Prop
 | .mk _ n _ ns ks al=>n.length<=m/\AV9 m ns/\Ex.shs m ks/\Al.shs m al
def Ex.shs (m:Nat):List Ex->Prop
 |[]=>True
 |t::l=>t.sh m/\Ex.shs m l
def Al.sh (m:Nat):Al->Prop
 | .mk _ vs b=>AV9 m vs/\b.sh m
def Al.shs (m:Nat):List Al->Prop
 |[]=>True
 |t::l=>t.sh m/\Al.shs m l
end
def TE.M8 {m:Nat}:∀ {l:List TE},TE.shs m l↔∀t∈l,t.sh m
 |[]=>by simp [TE.shs]
 |t::l=>by simp [TE.shs,TE.M8 (l:=l)]
def Ex.M8 {m:Nat}:∀ {l:List Ex},Ex.shs m l↔∀t∈l,t.sh m
 |[]=>by simp [Ex.shs]
 |t::l=>by simp [Ex.shs,Ex.M8 (l:=l)]
def Al.M8 {m:Nat}:∀ {l:List Al},Al.shs m l↔∀t∈l,t.sh m
 |[]=>by simp [Al.shs]
 |t::l=>by simp [Al.shs,Al.M8 (l:=l)]
def DE.sh (m:Nat) (d:DE):Prop:=AV9 m d.vars/\∀c∈d.cons,∀t∈c.args,t.sh m
def FE.sh (m:Nat) (f:FE):Prop:=f.name.length<=m/\AV9 m f.params/\f.body.sh m
def Pg.sh (m:Nat) (p:Pg):Prop:=(∀d∈p.data,d.sh m)/\∀f∈p.Dz,f.sh m
mutual
def TE.vn:TE->Prop
 | .mk k n l=>(k=4->n≠[])/\TE.vns l
def TE.vns:List TE->Prop
 |[]=>True
 |t::l=>t.vn/\TE.vns l
end
def ARM (n:Nat):CN n=[.int .i64 (n:Int)]:=rfl
def Y7 (r:List Nat):List DV:=[.sl (r.map CN)]
def ASJ (r:List Nat):Y7 r=[.sl (r.map CN)]:=rfl
inductive Reach (g:List (List Nat)):Nat->Nat->Prop
 |refl (v:Nat):Reach g v v
 |step {v w k:Nat} (h:w∈g.getD v []) (hr:Reach g w k):Reach g v k
def Reach.trans {g:List (List Nat)} {c:Nat} (h:Reach g a b) (k:Reach g b c):Reach g a c:=by
 induction h with
 |refl=>exact k
 |step h _ ih=>exact .step h (ih k)
def Reach.one {g:List (List Nat)} (h:b∈g.getD a []):Reach g a b:= .step h (.refl b)
def dW (g:List (List Nat)):Prop:=∀l∈g,∀w∈l,w < g.length
def dW.at {g:List (List Nat)} (h:dW g) {v w:Nat} (hw:w∈g.getD v []):w < g.length:=by
 rw [A2] at hw;cases hv:g[v]? with
 |none=>rw [hv] at hw;simp at hw
 |some l=>rw [hv] at hw;exact h l (AD hv) w hw
def Reach.lt {g:List (List Nat)} (he:dW g) (h:Reach g a b) (ha:a < g.length):b < g.length:=by
 induction h with
 |refl=>exact ha
 |step h _ ih=>exact ih (he.at h)
open Classical in
noncomputable def rB (g:List (List Nat)) (i k:Nat):Bool:=decide (Reach g i k)
def VW {g:List (List Nat)} {i:Nat}:rB g i k=true↔Reach g i k:=by simp [rB]
noncomputable def AEO (g:List (List Nat)) (i:Nat):List Bool:=(Av g.length).map (rB g i)
structure AFT (g:List (List Nat)) (v:Nat) (R R':List Bool):Prop where
 len:R'.length=R.length
 mono:∀k:Nat,R[k]?=some true->R'[k]?=some true
 self:R'[v]?=some true
 new:∀k:Nat,R'[k]?=some true->R[k]?=some true\/(Reach g v k/\∀w∈g.getD k [],R'[w]?=some true)
def AFT.skip {g:List (List Nat)} (h:R[v]?=some true):AFT g v R R:=⟨rfl,fun _ h=>h,h,fun _ h=>.inl h⟩
structure zJ (g:List (List Nat)) (v:Nat) (ws:List Nat) (R R':List Bool):Prop where
 len:R'.length=R.length
 mono:∀k:Nat,R[k]?=some true->R'[k]?=some true
 self:R'[v]?=some true
 done:∀w∈ws,R'[w]?=some true
 new:∀k:Nat,R'[k]?=some true->R[k]?=some true\/k=v\/(Reach g v k/\∀w∈g.getD k [],R'[w]?=some true)
def zJ.start {g:List (List Nat)} (h:v < R.length):zJ g v [] R (R.set v true):=by
 refine ⟨by simp,fun k hk=>?_,by simp [h],by simp,fun k hk=>?_⟩
 . rw [B3];split
   . rename_i e;subst e;simp [h]
   . exact hk
 . rw [B3] at hk;split at hk
   . rename_i e;exact .inr (.inl e.symm)
   . exact .inl hk
def zJ.next {g:List (List Nat)} {w:Nat} {ws:List Nat} {R1 R2:List Bool} (h:zJ g v ws R R1) (hw:w∈g.getD v []) (k:AFT g w R1 R2):zJ g v (ws++[w]) R R2:=by
 refine ⟨k.len.trans h.len,fun q hq=>k.mono q (h.mono q hq),k.mono v h.self,fun x Z=>?_,fun q hq=>?_⟩
 . rcases AZ.1 Z with Z|Z
   . exact k.mono x (h.done x Z)
   . simp at Z;subst Z;exact k.self
 . rcases k.new q hq with h1|⟨h1,h2⟩
   . rcases h.new q h1 with h3|h3|⟨h3,h4⟩
     . exact .inl h3
     . exact .inr (.inl h3)
     . exact .inr (.inr ⟨h3,fun x Z=>k.mono x (h4 x Z)⟩)
   . exact .inr (.inr ⟨.step hw h1,h2⟩)
def zJ.fin {g:List (List Nat)} {R':List Bool} (h:zJ g v (g.getD v []) R R'):AFT g v R R':=by
 refine ⟨h.len,h.mono,h.self,fun k hk=>?_⟩;rcases h.new k hk with h1|h1|h1
 . exact .inl h1
 . subst h1;exact .inr ⟨.refl k,h.done⟩
 . exact .inr h1
def AT8 {g:List (List Nat)} (he:dW g) {i:Nat} (hi:i < g.length) {R':List Bool} (h:AFT g i (AG g.length false) R'):R'=AEO g i:=by
 have hl:R'.length=g.length:=by rw [h.len];simp
 have hf:∀k:Nat,(AG g.length false)[k]?≠some true:=fun k hk=>by
  rw [RH] at hk;split at hk<;>cases hk
 have hc:∀a b,Reach g a b->R'[a]?=some true->R'[b]?=some true:=fun a b hr=>by
  induction hr with
  |refl=>exact id
  |step hw _ ih=>
   intro ha;rcases h.new _ ha with h1|⟨_,h2⟩
   . exact absurd h1 (hf _)
   . exact ih (h2 _ hw)
 apply Et;intro k;by_cases hk:k < g.length
 . have hR:R'[k]?=some R'[k]:=by simp [hl,hk]
   rw [AEO,Am,Dy hk,Ac,hR];congr 1;rw [Ak,VW];constructor
   . intro ht;rw [ht] at hR;rcases h.new k hR with h1|h1
     . exact absurd h1 (hf k)
     . exact h1.1
   . intro hr;have:=hc i k hr h.self;rw [hR] at this;exact Kc this
 . rw [BM (by omega),BM (by simp [AEO];omega)]
def unm (R:List Bool):Nat:=(R.filter (fun b=>!b)).length
def AK7:∀ {R:List Bool} {v:Nat},R[v]?=some false->unm (R.set v true)+1=unm R
 |[],v,h=>by simp at h
 |b::R,0,h=>by simp at h;subst h;simp [unm]
 |b::R,v+1,h=>by
  have:=AK7 (R:=R) (v:=v) (by simpa using h);cases b<;>simp [unm] at this ⊢<;>omega
def AJF:∀ {R R':List Bool},R'.length=R.length->(∀k:Nat,R[k]?=some true->R'[k]?=some true)->unm R'<=unm R
 |[],[],_,_=>AS _
 |[],_::_,h,_=>by simp at h
 |_::_,[],h,_=>by simp at h
 |b::R,c::R',h,hm=>by
  have:=AJF (R:=R) (R':=R') (by simpa using h) (fun k hk=>by simpa using hm (k+1) (by simpa using hk));have h0:=hm 0;cases b<;>cases c<;>simp [unm] at this h0 ⊢<;>omega
structure CB (g:List (List Nat)) (j1 j4 j5 j6 jr jw i:Nat) (cells:List AV) (R:List Bool) (τ:AH):Prop where
 b1:τ.blk j1=some [.d (.sl (g.map Y7))]
 b4:τ.blk j4=some [.ms jr g.length 1 114]
 b5:τ.blk j5=some [.d (.int .i64 i)]
 b6:τ.blk j6=some [.fn 215 [] [.gp j4 0,.gp j5 0,.gp j1 0,.gp j6 0]]
 br:τ.blk jr=some cells
 cl:cells.length=g.length
 ci:cells[i]?=some (.ms jw g.length 1 4)
 il:i < g.length
 bw:τ.blk jw=some (BP R)
 rl:R.length=g.length
 n1:jw≠j1
 n4:jw≠j4
 n5:jw≠j5
 n6:jw≠j6
 nr:jw≠jr
def CB.set {g:List (List Nat)} {j5 j6 jw i:Nat} {cells:List AV} {τ:AH} (h:CB g j1 j4 j5 j6 jr jw i cells R τ) (R':List Bool) (hl:R'.length=R.length):CB g j1 j4 j5 j6 jr jw i cells R' (τ.AL jw (BP R')):=
 ⟨by rw [AJ,if_neg (A6 h.n1)];exact h.b1,by rw [AJ,if_neg (A6 h.n4)];exact h.b4,by rw [AJ,if_neg (A6 h.n5)];exact h.b5,by rw [AJ,if_neg (A6 h.n6)];exact h.b6,
   by rw [AJ,if_neg (A6 h.nr)];exact h.br,h.cl,h.ci,h.il,BT,hl.trans h.rl,h.n1,h.n4,h.n5,h.n6,h.nr⟩
def xM {l:List Bool} (x:Bool) (h:k < l.length):G7 k (BP l)++[AV.d (.bool x)]++Fk (k+1) (BP l)=BP (l.set k x):=by
 have:=eF x h;simpa only [wr,A0,Bw,BF] using this
def ACL {l:List Bool} (h:k < l.length):(k+1<=(BP l).length)=True:=by rw [PJ];simp;omega
def AP0 (g:List (List Nat)) (hg:dW g) (hgl:g.length<=1000) (hll:∀l∈g,l.length<=1000) (j1 j4 j5 j6 jr jw i:Nat) (cells:List AV):∀(N:Nat) (R:List Bool) (v:Nat) (τ:AH),unm R=N->v < g.length->CB g j1 j4 j5 j6 jr jw i cells R τ->
 AR Tzp 215 [.d (.int .i64 v),.gp j4 0,.gp j5 0,.gp j1 0,.gp j6 0] τ (fun av σ'=>∃R',av= .tup []/\σ'=τ.AL jw (BP R')/\AFT g v R R'):=by
 intro N
 induction N using Cc with
 |_ N ihN=>
 intro R v τ hN hv hc;obtain ⟨x,Z⟩:=Ai (show v < R.length by rw [hc.rl];exact hv);have hbx:=Gl Z;have hil:((i:Int) < (g.length:Int))=True:=by simp only [eq_iff_iff,iff_true];have:=hc.il;omega
 have hvl:((v:Int) < (g.length:Int))=True:=by simp only [eq_iff_iff,iff_true];omega
 refine Xz (by simp) ?_;rw [AF3];cases x with
 |true=>
  (repeat' ((first|refine wQ ?_|(refine Run.Bg IC (AH.le_refl _) ?_)|fail)<;>try simp only [hc.b4,hc.b5,hc.br,hc.bw,hc.ci,hil,hvl,hbx,A9,go_sem]));exact ⟨R,(FU hc.bw).symm,AFT.skip Z⟩
 |false=>
  have hvR:v < R.length:=(AE.1 Z).1;have w1:=xM true hvR;have d1:=ACL hvR;obtain ⟨l,hl⟩:=Ai hv;have hel:=BI (enc:=Y7) hl;rw [ASJ] at hel;have hgd:g.getD v []=l:=by rw [A2,hl];rfl
  have hlm:=hll l (AD hl);have hc1:=hc.set (R.set v true) (by simp);(repeat' (refine wQ ?_<;>try simp only [hc.b4,hc.b5,hc.br,hc.bw,hc.ci,hil,hvl,hbx,A9,d1,w1,hc1.b1,hel,AA,go_sem]));refine Run.BB ?_
  refine Run.BE ((fun (a4:AV) (a24:AV) (a25:AV)=>fun (y:Nat×List Bool)=>put 4 a4 (put 24 a24 (put 25 a25 (put 26 (.d (.int .i64 y.1)) U)))) _ _ _) (fun _=>E) (fun y=>τ.AL jw (BP y.2))
   (fun y=>y.1<=l.length/\zJ g v (l.take y.1) R y.2) (fun y=>l.length - y.1) ?_ (0,R.set v true) ⟨by simp,zJ.start hvR⟩
  rintro ⟨q,Rq⟩ ⟨hq,hd⟩ ih;simp only at hq hd;by_cases hlt:q < l.length
  . obtain ⟨w,hw⟩:=Ai hlt;have hew:=BI (enc:=CN) hw;rw [ARM] at hew;have hw1:=wsu q;have hwm:w∈g.getD v []:=by rw [hgd];exact AD hw
    have hcq:=hc.set Rq hd.len
    have hun:unm Rq < N:=by
     have h1:=AK7 Z
     have h2:=AJF (R:=R.set v true) (R':=Rq) (by rw [hd.len];simp) (fun k hk=>by
      rw [B3] at hk;split at hk
      . rename_i e;subst e;exact hd.self
      . exact hd.mono k hk)
     omega
    have hcl:=ihN _ hun Rq w (τ.AL jw (BP Rq)) rfl (hg.at hwm) hcq;(repeat' ((first|refine wQ ?_|(refine ⟨_,[],[.gp j4 0,.gp j5 0,.gp j1 0,.gp j6 0],rfl,by kernel_rfl,AI.mk rfl hcl ?_⟩;rintro _ _ ⟨R2,rfl,rfl,hd2⟩;rw [Dr])|fail)<;>try simp only [Ap hlt,hew,hcq.b6,hw1,go_sem]));exact ih (q+1,R2) ⟨by simp only;omega,by simp only;rw [A5 hw];exact hd.next hwm hd2⟩ (by simp only;omega)
  . rw [AP (by omega)] at hd;(repeat' (refine wQ ?_<;>try simp only [B7 hlt,go_sem]));refine Run.fin IC (v:= .tup []) rfl (fun _ _ h=>h) (AH.le_refl _) ?_;exact ⟨Rq,rfl,rfl,by rw [<- hgd] at hd;exact hd.fin⟩
structure RS (Y:AH) (g:List (List Nat)) (j1 j3 j4 jr:Nat) (i m:Nat) (cells:List AV) (τ:AH):Prop where
 b1:τ.blk j1=some [.d (.sl (g.map Y7))]
 b3:τ.blk j3=some [.d (.int .i64 g.length)]
 b4:τ.blk j4=some [.ms jr g.length 1 114]
 br:τ.blk jr=some cells
 cl:cells.length=g.length
 rows:∀k,k < i->∃jk,cells[k]?=some (.ms jk g.length 1 4)/\τ.blk jk=some (BP (AEO g k))/\jk≠jr
 rest:∀k,m<=k->k < g.length->cells[k]?=some .Ad
 le:Y.le τ
 nr:Y.blk jr=none
 n1:jr≠j1
 n3:jr≠j3
 n4:jr≠j4
def AH.le.none {Y τ:AH} (h:Y.le τ) {j:Nat} (hj:τ.blk j=none):Y.blk j=none:=by
 cases hc:Y.blk j with
 |none=>rfl
 |some c=>rw [h.blk j c hc] at hj;cases hj
def RS.new {Y τ:AH} {g:List (List Nat)} {i:Nat} {cells:List AV} (h:RS Y g j1 j3 j4 jr i m cells τ) {j:Nat} (hj:Y.blk j=none) (n1:j≠j1) (n3:j≠j3) (n4:j≠j4) (nr:j≠jr) (hk:∀k jk,k < i->cells[k]?=some (.ms jk g.length 1 4)->jk≠j) (cs:List AV):RS Y g j1 j3 j4 jr i m cells (τ.AL j cs):=
 ⟨by rw [AJ,if_neg (A6 n1)];exact h.b1,by rw [AJ,if_neg (A6 n3)];exact h.b3,by rw [AJ,if_neg (A6 n4)];exact h.b4,by rw [AJ,if_neg (A6 nr)];exact h.br,h.cl,
   fun k hki=>by
    obtain ⟨jk,h1,h2,h3⟩:=h.rows k hki;exact ⟨jk,h1,by rw [AJ,if_neg (hk k jk hki h1)];exact h2,h3⟩,h.rest,EC h.le hj,h.nr,h.n1,h.n3,h.n4⟩
def RS.fresh {Y τ:AH} {g:List (List Nat)} {i:Nat} {cells:List AV} (h:RS Y g j1 j3 j4 jr i m cells τ) {j:Nat} (hj:τ.blk j=none):Y.blk j=none/\j≠j1/\j≠j3/\j≠j4/\j≠jr/\∀k jk,k < i->cells[k]?=some (.ms jk g.length 1 4)->jk≠j:=by
 refine ⟨h.le.none hj,fun e=>?_,fun e=>?_,fun e=>?_,fun e=>?_,fun k jk hk hc e=>?_⟩
 . rw [e,h.b1] at hj;cases hj
 . rw [e,h.b3] at hj;cases hj
 . rw [e,h.b4] at hj;cases hj
 . rw [e,h.br] at hj;cases hj
 . obtain ⟨jk',h1,h2,_⟩:=h.rows k hk;rw [hc] at h1;cases h1;rw [e,hj] at h2;cases h2
def RS.bt {Y τ:AH} {g:List (List Nat)} {i:Nat} {cells:List AV} (h:RS Y g j1 j3 j4 jr i m cells τ) {j:Nat} {x:Nat×TypeId} (hj:τ.bt j=none):RS Y g j1 j3 j4 jr i m cells (τ.Bl j x):=
 ⟨h.b1,h.b3,h.b4,h.br,h.cl,h.rows,h.rest,fO h.le hj,h.nr,h.n1,h.n3,h.n4⟩
def Jv {τ:AH} {j:Nat} {x:List AV} (h:τ.blk j=some x) (hk:τ.blk k=none) (cs:List AV):(τ.AL k cs).blk j=some x:=by
 rw [AJ,if_neg (fun e=>by rw [e,hk] at h;cases h)];exact h
def ATS (F0:Fm) (τ:AH) (jr n i:Nat) (cells:List AV) (F:Fm) (L:Lm) (τ':AH):Prop:=
 ∃jw,τ.blk jw=none/\Gw [1,3,4,5,18,19] F=F0/\Fp [1,3,4,5,18,19] L=E/\τ'=(τ.AL jw (BP (AG n false))).AL jr (cells.set i (.ms jw n 1 4))
def ATS.mk {F0:Fm} {τ:AH} {n i:Nat} {cells:List AV} {τ':AH} (jw:Nat) (h1:τ.blk jw=none) (h2:Gw [1,3,4,5,18,19] F=F0) (h3:Fp [1,3,4,5,18,19] L=E) (h4:τ'=(τ.AL jw (BP (AG n false))).AL jr (cells.set i (.ms jw n 1 4))):ATS F0 τ jr n i cells F L τ':=⟨jw,h1,h2,h3,h4⟩
def AT3 (Q:AV->AH->Prop) (rest:List CI) (g:List (List Nat)) (hg:dW g) (hgl:g.length<=1000) (hll:∀l∈g,l.length<=1000) (j1 j3 j4 jr:Nat) (Y τ:AH) (cells:List AV) (h:RS Y g j1 j3 j4 jr 0 0 cells τ)
 (hfin:∀cells' τ',RS Y g j1 j3 j4 jr g.length g.length cells' τ'->Run CJ Q rest (put 1 (.gp j1 0) (put 3 (.gp j3 0) (put 4 (.gp j4 0) (put 18 (.d (.int .i64 g.length)) (put 19 (.d (.int .i64 g.length)) (put 20 (.d (.bool false)) U)))))) E τ'):
 Run CJ Q (.code (.loop F3)::.blk 0::rest) (put 1 (.gp j1 0) (put 3 (.gp j3 0) (put 4 (.gp j4 0) (put 18 (.d (.int .i64 g.length)) (put 19 (.d (.int .i64 0)) U))))) E τ:=by
 refine Run.BB ?_
 refine Run.BE ((fun (a1:AV) (a3:AV) (a4:AV) (a18:AV)=>fun (y:Nat×List AV×AH)=>put 1 a1 (put 3 a3 (put 4 a4 (put 18 a18 (put 19 (.d (.int .i64 y.1)) U))))) _ _ _ _) (fun _=>E) (fun y=>y.2.2)
  (fun y=>y.1<=g.length/\RS Y g j1 j3 j4 jr y.1 y.1 y.2.1 y.2.2) (fun y=>g.length - y.1) ?_ (0,cells,τ) ⟨by simp,h⟩
 clear h;rintro ⟨i,cells,τ⟩ ⟨hi,h⟩ ih;simp only at hi h;by_cases hlt:i < g.length
 . have hw1:=wsu i;have hil:((i:Int) < (g.length:Int))=True:=by simp only [eq_iff_iff,iff_true];omega
   (repeat' (first|refine ctQ rfl ?_|((first|refine rgQ mxQ ?_|refine cdQ ?_)<;>try simp only [Ap hlt,go_sem])|fail));rintro j5 ⟨hj5,hjb5⟩;obtain ⟨f1,f2,f3,f4,f5,f6⟩:=h.fresh hj5;have h1:=((h.new f1 f2 f3 f4 f5 f6 [.d (.int .i64 0)]).bt (x:=(1,3)) hjb5).new f1 f2 f3 f4 f5 f6 [.d (.int .i64 i)];have hb5:((((τ.AL j5 [AV.d (.int .i64 0)]).Bl j5 (1,3))).AL j5 [.d (.int .i64 i)]).blk j5=some [.d (.int .i64 i)]:=BT;have hbt:∀(τ:AH) (x:Nat×TypeId),(τ.Bl j5 x).blk=τ.blk:=fun _ _=>rfl;simp only [hbt,AJ,go_sem];generalize ((τ.AL j5 [AV.d (.int .i64 0)]).Bl j5 (1,3)).AL j5 [AV.d (.int .i64 i)]=τ1 at h1 hb5 ⊢;clear hbt h hj5 hjb5;have hil2:(i+1<=cells.length)=True:=by rw [h1.cl];simp;omega
   have hwr:∀x:AV,G7 i cells++[x]++Fk (i+1) cells=cells.set i x:=fun x=>wr1 x (by rw [h1.cl];exact hlt);refine ctQ rfl ?_;refine Run.gH mixed (ATS (put 1 (.gp j1 0) (put 3 (.gp j3 0) (put 4 (.gp j4 0) (put 5 (.gp j5 0) (put 18 (.d (.int .i64 g.length)) (put 19 (.d (.int .i64 i)) U)))))) τ1 jr g.length i cells) ?_ ?_
   . simp only [h1.b3,h1.b4,hb5,and_true,go_sem];(repeat' (first|refine And.intro ?_ ?_|(refine O1.mk (n:=g.length) (by omega) (by omega) (fun jw hjw=>?_);simp only [Yz,Jv h1.b4 hjw,Jv hb5 hjw,Jv h1.br hjw,hil,hil2,hwr,A9,and_true,go_sem];try (refine ATS.mk jw hjw (by simp only [go_sem]) (by simp only [go_sem]) ?_;rfl))))
   . rintro F L τ2 ⟨jw,hjw,hF,hL,rfl⟩;rw [hF,hL];clear hF hL;have hjwr:jw≠jr:=fun e=>by rw [e,h1.br] at hjw;cases hjw
     have h2:RS Y g j1 j3 j4 jr i (i+1) (cells.set i (.ms jw g.length 1 4)) ((τ1.AL jw (BP (AG g.length false))).AL jr (cells.set i (.ms jw g.length 1 4))):=by
      have hs:∀j x,τ1.blk j=some x->j≠jr->((τ1.AL jw (BP (AG g.length false))).AL jr (cells.set i (.ms jw g.length 1 4))).blk j=some x:=fun j x Z hne=>by
       rw [AJ,if_neg hne];exact Jv Z hjw _
      refine ⟨hs _ _ h1.b1 (A6 h1.n1),hs _ _ h1.b3 (A6 h1.n3),hs _ _ h1.b4 (A6 h1.n4),BT,by rw [Kb];exact h1.cl,fun k hk=>?_,fun k hk hkl=>?_,EC (EC h1.le (h1.le.none hjw)) h1.nr,h1.nr,h1.n1,h1.n3,h1.n4⟩
      . obtain ⟨jk,g1,g2,g3⟩:=h1.rows k hk;exact ⟨jk,by rw [B3,if_neg (by omega)];exact g1,hs _ _ g2 g3,g3⟩
      . rw [B3,if_neg (by omega)];exact h1.rest k (by omega) hkl
     have hw2:((τ1.AL jw (BP (AG g.length false))).AL jr (cells.set i (.ms jw g.length 1 4))).blk jw=some (BP (AG g.length false)):=by
      rw [AJ,if_neg hjwr,AJ,if_pos rfl]
     have hb52:((τ1.AL jw (BP (AG g.length false))).AL jr (cells.set i (.ms jw g.length 1 4))).blk j5=some [.d (.int .i64 i)]:=by
      rw [AJ,if_neg f5];exact Jv hb5 hjw _
     have hci:(cells.set i (AV.ms jw g.length 1 4))[i]?=some (.ms jw g.length 1 4):=by rw [B3,if_pos rfl,if_pos (by rw [h1.cl];exact hlt)]
     have hw51:jw≠j5:=fun e=>by rw [e,hb5] at hjw;cases hjw
     have hwn:jw≠j1/\jw≠j3/\jw≠j4:=⟨fun e=>(by rw [e,h1.b1] at hjw;cases hjw),fun e=>(by rw [e,h1.b3] at hjw;cases hjw),fun e=>(by rw [e,h1.b4] at hjw;cases hjw)⟩
     have hrw:∀k jk,k < i->(cells.set i (AV.ms jw g.length 1 4))[k]?=some (.ms jk g.length 1 4)->jk≠jw:=fun k jk hk hc e=>by
      rw [B3,if_neg (by omega)] at hc;obtain ⟨jk',g1,g2,_⟩:=h1.rows k hk;rw [hc] at g1;cases g1;rw [e,hjw] at g2;cases g2
     have hjw0:=h1.le.none hjw;generalize (τ1.AL jw (BP (AG g.length false))).AL jr (cells.set i (.ms jw g.length 1 4))=τ2 at h2 hw2 hb52 ⊢;clear h1 hb5 hil2 hwr hjw;generalize cells.set i (AV.ms jw g.length 1 4)=cells2 at h2 hci hrw;(repeat' (first|refine ctQ rfl ?_|((first|refine rgQ mxQ ?_|refine cdQ ?_)<;>try simp only [go_sem])|fail));rintro j6 ⟨hj6,hjb6⟩;obtain ⟨e1,e2,e3,e4,e5,e6⟩:=h2.fresh hj6;have h2b:=(h2.new e1 e2 e3 e4 e5 e6 [.HG]).bt (x:=(1,151)) hjb6;have n56:j5≠j6:=fun e=>by rw [<- e,hb52] at hj6;cases hj6
     have nw6:jw≠j6:=fun e=>by rw [<- e,hw2] at hj6;cases hj6
     have hbt:∀(τ:AH) (x:Nat×TypeId),(τ.Bl j6 x).blk=τ.blk:=fun _ _=>rfl;have hb6':((τ2.AL j6 [AV.HG]).Bl j6 (1,151)).blk j6=some [.HG]:=by rw [hbt,AJ,if_pos rfl]
     have hb53:((τ2.AL j6 [AV.HG]).Bl j6 (1,151)).blk j5=some [.d (.int .i64 i)]:=by rw [hbt,AJ,if_neg n56];exact hb52
     have hw3:((τ2.AL j6 [AV.HG]).Bl j6 (1,151)).blk jw=some (BP (AG g.length false)):=by rw [hbt,AJ,if_neg nw6];exact hw2
     generalize (τ2.AL j6 [AV.HG]).Bl j6 (1,151)=τ3 at h2b hb6' hb53 hw3 ⊢;clear hbt h2 hw2 hb52 hj6 hjb6;have h3:=h2b.new e1 e2 e3 e4 e5 e6 [.fn 215 [] [.gp j4 0,.gp j5 0,.gp j1 0,.gp j6 0]];replace hb53:(τ3.AL j6 [.fn 215 [] [.gp j4 0,.gp j5 0,.gp j1 0,.gp j6 0]]).blk j5=some [.d (.int .i64 i)]:=by rw [AJ,if_neg n56];exact hb53
     replace hw3:(τ3.AL j6 [.fn 215 [] [.gp j4 0,.gp j5 0,.gp j1 0,.gp j6 0]]).blk jw=some (BP (AG g.length false)):=by rw [AJ,if_neg nw6];exact hw3
     have hb6:(τ3.AL j6 [.fn 215 [] [.gp j4 0,.gp j5 0,.gp j1 0,.gp j6 0]]).blk j6=some [.fn 215 [] [.gp j4 0,.gp j5 0,.gp j1 0,.gp j6 0]]:=BT;have hcb:CB g j1 j4 j5 j6 jr jw i cells2 (AG g.length false) _:=⟨h3.b1,h3.b4,hb53,hb6,h3.br,h3.cl,hci,hlt,hw3,by simp,hwn.1,hwn.2.2,hw51,nw6,hjwr⟩;have hcl:=AP0 g hg hgl hll j1 j4 j5 j6 jr jw i cells2 _ (AG g.length false) i _ rfl hlt hcb;(repeat' (first|refine ctQ rfl ?_|((first|refine rgQ mxQ ?_|refine cdQ ?_|(refine ⟨_,[],[.gp j4 0,.gp j5 0,.gp j1 0,.gp j6 0],rfl,by kernel_rfl,AI.mk rfl hcl ?_⟩;rintro _ _ ⟨R2,rfl,rfl,hd⟩))<;>try simp only [hb6',Fk,hb6,hb53,hw1,go_sem])|fail));have hR:=AT8 hg hlt hd;subst hR;refine ih (i+1,cells2,_) ⟨by simp only;omega,?_⟩ (by simp only;omega);have h4:=h3.new hjw0 hwn.1 hwn.2.1 hwn.2.2 hjwr hrw (BP (AEO g i));refine ⟨h4.b1,h4.b3,h4.b4,h4.br,h4.cl,fun k hk=>?_,h4.rest,h4.le,h4.nr,h4.n1,h4.n3,h4.n4⟩;by_cases hki:k=i
     . subst hki;exact ⟨jw,hci,if_pos rfl,hjwr⟩
     . exact h4.rows k (by omega)
 . have hie:i=g.length:=by omega
   subst hie;have:=hfin cells τ h;(repeat' (refine wQ ?_<;>try simp only [B7 hlt,go_sem]));exact this
def lsB (ls:List Bool) (k:Nat):Bool:=ls.getD k false
noncomputable def Gx (g:List (List Nat)) (i k:Nat):Bool:=rB g i k&&rB g k i
noncomputable def cM (g:List (List Nat)) (i:Nat):List Nat:=(Av g.length).filter (Gx g i)
noncomputable def tA (g:List (List Nat)) (ls:List Bool) (i:Nat):Bool:=(Av g.length).all fun j=>!((rB g i j&& !rB g j i)&& !lsB ls j)
noncomputable def fU (g:List (List Nat)) (i:Nat) (ls:List Bool) (j:Nat):List Bool:=(Av g.length).map fun k=>lsB ls k||(decide (k < j)&&Gx g i k)
noncomputable def Y0 (g:List (List Nat)) (i:Nat) (ls:List Bool):List Bool:=fU g i ls g.length
noncomputable def bX (g:List (List Nat)) (ls:List Bool) (i:Nat):Bool:=!lsB ls i&&tA g ls i
noncomputable def AA6 (g:List (List Nat)) (ls:List Bool):Option Nat:=(Av g.length).find? (bX g ls)
noncomputable def Jk (g:List (List Nat)):Nat->List Bool->List (List Nat)
 |0,_=>[]
 |f+1,ls=>match AA6 g ls with
  |none=>[]
  |some i=>cM g i::Jk g f (Y0 g i ls)
noncomputable def RP (g:List (List Nat)):List (List Nat):=Jk g (g.length+1) (AG g.length false)
def JO (g:List (List Nat)) (i:Nat) (ls:List Bool) (j:Nat):(fU g i ls j).length=g.length:=by simp [fU]
def Pp (g:List (List Nat)) (i:Nat) (ls:List Bool) (j:Nat) (hk:k < g.length):(fU g i ls j)[k]?=some (lsB ls k||(decide (k < j)&&Gx g i k)):=by
 rw [fU,Am,Dy hk];rfl
def ANO {g:List (List Nat)} {i:Nat} (h:ls.length=g.length):fU g i ls 0=ls:=by
 apply Et;intro k;by_cases hk:k < g.length
 . rw [Pp g i ls 0 hk];have:ls[k]?=some ls[k]:=by simp [h,hk]
   rw [this];simp [lsB,A2,this]
 . rw [BM (by rw [JO];omega),BM (by omega)]
def ANN {g:List (List Nat)} {i:Nat} {j:Nat} (hj:j < g.length):fU g i ls (j+1)=if Gx g i j then (fU g i ls j).set j true else fU g i ls j:=by
 apply Et;intro k;by_cases hk:k < g.length
 . rw [Pp g i ls _ hk];cases hm:Gx g i j with
   |true=>
    rw [if_pos rfl,B3];by_cases hjk:j=k
    . subst hjk;rw [if_pos rfl,if_pos (by rw [JO];exact hj)];simp [hm]
    . rw [if_neg hjk,Pp g i ls _ hk];have:decide (k < j+1)=decide (k < j):=decide_eq_decide.2 (by omega);rw [this]
   |false=>
    rw [if_neg (by simp),Pp g i ls _ hk];by_cases hjk:j=k
    . subst hjk;simp [hm]
    . have:decide (k < j+1)=decide (k < j):=decide_eq_decide.2 (by omega);rw [this]
 . have hl:(if Gx g i j=true then (fU g i ls j).set j true else fU g i ls j).length=g.length:=by
    split
    . rw [Kb,JO]
    . rw [JO]
   rw [BM (by rw [JO];omega),BM (by omega)]
def ANP (g:List (List Nat)) (i:Nat):Gx g i i=true:=by
 simp [Gx,VW.2 (Reach.refl i)]
def RZ {b:Bool} (h:ls[k]?=some b):lsB ls k=b:=by simp [lsB,A2,h]
def ATC:∀ {R R':List Bool} {v:Nat},R'.length=R.length->(∀k:Nat,R[k]?=some true->R'[k]?=some true)->R[v]?=some false->R'[v]?=some true->unm R' < unm R
 |[],R',v,h,hm,hv,_=>by simp at hv
 |b::R,[],v,h,_,_,_=>by simp at h
 |b::R,c::R',0,h,hm,hv,hv'=>by
  simp at hv hv';subst hv;subst hv';have:=AJF (R:=R) (R':=R') (by simpa using h) (fun k hk=>by simpa using hm (k+1) (by simpa using hk));simp [unm] at this ⊢;omega
 |b::R,c::R',v+1,h,hm,hv,hv'=>by
  have:=ATC (R:=R) (R':=R') (v:=v) (by simpa using h) (fun k hk=>by simpa using hm (k+1) (by simpa using hk)) (by simpa using hv) (by simpa using hv');have h0:=hm 0;cases b<;>cases c<;>simp [unm] at this h0 ⊢<;>omega
def AK6 {g:List (List Nat)} {i:Nat} (hl:ls.length=g.length) (hi:i < g.length) (h:lsB ls i=false):unm (Y0 g i ls) < unm ls:=by
 have hgi:ls[i]?=some false:=by
  have h1:ls[i]?=some ls[i]:=by simp [hl,hi]
  have:=RZ h1;rw [h1,<- this,h]
 refine ATC (v:=i) (by rw [Y0,JO,hl]) (fun k hk=>?_) hgi ?_
 . have hkl:k < g.length:=by have:=(AE.1 hk).1;omega
   rw [Y0,Pp g i ls _ hkl,RZ hk];rfl
 . rw [Y0,Pp g i ls _ hi,h,ANP];simp [hi]
def AUT {p:Nat->Bool} {n i:Nat} (hi:i < n) (hp:p i=true) (hn:∀k,k < i->p k=false):(Av n).find? p=some i:=by
 rw [List.find?_range_eq_some];exact ⟨hp,by simpa using hi,fun j hj=>by simp [hn j hj]⟩
def AME {p:Nat->Bool} {n:Nat} (hn:∀k,k < n->p k=false):(Av n).find? p=none:=by
 rw [QO];intro x Z;rw [Bz] at Z;simp [hn x Z]
structure Ow where
 e:Nat
 s:Nat
 rows:List (List DV)
 v:AV
def Ig (σ0:AH) (l:List Ow) (τ:AH):Prop:=(∀x∈l,CC σ0 x.e x.s x.rows x.v τ)/\l.Pairwise fun a b=>lQ a.v b.v
def Ig.perm {σ0 τ:AH} {l m:List Ow} (h:Ig σ0 l τ) (hp:l.Perm m):Ig σ0 m τ:=
 ⟨fun x Z=>h.1 x (hp.mem_iff.2 Z),(hp.pairwise_iff (fun hab=>hab.symm)).1 h.2⟩
def Ig.head {σ0 τ:AH} {l:List Ow} {x:Ow} (h:Ig σ0 (x::l) τ):CC σ0 x.e x.s x.rows x.v τ:=h.1 x (AW ..)
def Ig.tail {σ0 τ:AH} {l:List Ow} {x:Ow} (h:Ig σ0 (x::l) τ):Ig σ0 l τ:=⟨fun y hy=>h.1 y (AU _ hy),(KX.1 h.2).2⟩
def Ig.nil {σ0 τ:AH} {l:List Ow} (h:Ig σ0 l τ) (hle:σ0.le τ) (e s:Nat):Ig σ0 (⟨e,s,[],.Ad⟩::l) τ:=
 ⟨fun y hy=>by
   rcases Az.1 hy with rfl|hy
   . exact ⟨⟨τ,rfl,hle⟩,hle,rfl,rfl,rfl,rfl,fun _=>rfl,rfl,rfl⟩
   . exact h.1 y hy,KX.2 ⟨fun y _=>pV y.v,h.2⟩⟩
def Dh.AN0 {cx:Cx} {K:Fm->Lm->AH->Prop} {Y σ0:AH} {d:Option Nat} {size bytes:Nat} {x:AV} {rows srows:List (List DV)} {l:List Ow} (ho:Ig σ0 (⟨e,size,rows,s⟩::l) Y) (h2:x.rows=some srows)
 (h3:∀r∈srows,r.length=size) (h4:rows.length+srows.length<=1000000000) (hb:bytes<=10000)
 (h:∀v σ',Ig σ0 (⟨e,size,rows++srows,v⟩::l) σ'->(∀i,σ'.blk i=Y.blk i)->K (BL d v F) L σ'):Dh e size bytes s x d K F L Y:=
 Dh.AY5 (cx:=cx) ho.head h2 h3 h4 hb (fun v σ' h1 hbk hk=>h v σ' ⟨fun y hy=>by
  rcases Az.1 hy with rfl|hy
  . exact h1
  . exact (hk _ _ _ _ (ho.tail.1 y hy) ((KX.1 ho.2).1 y hy)).1,
  KX.2 ⟨fun y hy=>(hk _ _ _ _ (ho.tail.1 y hy) ((KX.1 ho.2).1 y hy)).2,(KX.1 ho.2).2⟩⟩ hbk)
def gK {g:List (List Nat)} {i:Nat} (hk:k < g.length):(AEO g i)[k]?=some (rB g i k):=by
 rw [AEO,Am,Dy hk];rfl
def RS.at {Y τ:AH} {g:List (List Nat)} {cells:List AV} (h:RS Y g j1 j3 j4 jr g.length g.length cells τ) {i:Nat} (hi:i < g.length):∃ji,cells[i]?=some (.ms ji g.length 1 4)/\τ.blk ji=some (BP (AEO g i)):=by
 obtain ⟨ji,h1,h2,_⟩:=h.rows i hi;exact ⟨ji,h1,h2⟩
def ilT {i n:Nat} (h:i < n):((i:Int) < (n:Int))=True:=by simp only [eq_iff_iff,iff_true];omega
def AP1 (g:List (List Nat)) (hgl:g.length<=1000) (j1 j3 j4 jr j7 jl:Nat) (Y τ:AH) (cells:List AV) (h:RS Y g j1 j3 j4 jr g.length g.length cells τ) (ls:List Bool) (hls:ls.length=g.length) (h7:τ.blk j7=some [.ms jl g.length 1 4]) (hl:τ.blk jl=some (BP ls)) (i:Nat) (hi:i < g.length):
 AR Tzp 216 [.d (.int .i64 i),.gp j3 0,.gp j4 0,.gp j7 0] τ (fun v σ'=>v= .d (.bool (tA g ls i))/\σ'=τ):=by
 obtain ⟨ji,hci,hbi⟩:=h.at hi;have hil:=ilT hi;refine YA (by simp) ?_;rw [iH];(repeat' (refine wQ ?_<;>try simp only [h.b3,go_sem]));refine Run.BB ?_;refine Run.BE ((fun (a0:AV) (a2:AV) (a3:AV) (a7:AV)=>fun (j:Nat)=>put 0 a0 (put 2 a2 (put 3 a3 (put 7 a7 (put 8 (.d (.int .i64 j)) U))))) _ _ _ _) (fun _=>E) (fun _=>τ) (fun j=>j<=g.length/\∀k,k < j->((rB g i k&& !rB g k i)&& !lsB ls k)=false) (fun j=>g.length - j) ?_ 0 ⟨by simp,fun k hk=>by omega⟩;rintro j ⟨hj,hno⟩ ih;by_cases hlt:j < g.length
 . obtain ⟨jj,hcj,hbj⟩:=h.at hlt;have hjl:=ilT hlt;have hw1:=wsu j;have e1:=Gl (gK (i:=i) hlt);have e2:=Gl (gK (i:=j) hi);obtain ⟨bl,hbl⟩:=Ai (show j < ls.length by omega);have e3:=Gl hbl;rw [<- RZ hbl] at e3
   have hnx:((rB g i j&& !rB g j i)&& !lsB ls j)=false->∀k,k < j+1->((rB g i k&& !rB g k i)&& !lsB ls k)=false:=fun h0 k hk=>by
    rcases C8 k j with h|h
    . exact hno k h
    . have:k=j:=by omega
      subst this;exact h0
   cases c1:rB g i j with
   |false=>
    rw [c1] at e1;(repeat' (refine wQ ?_<;>try simp only [h.b4,h.br,hci,hbi,hil,hjl,e1,hw1,A9,go_sem]));exact ih (j+1) ⟨by omega,hnx (by rw [c1];rfl)⟩ (by omega)
   |true=>
   rw [c1] at e1;cases c2:rB g j i with
   |true=>
    rw [c2] at e2;(repeat' (refine wQ ?_<;>try simp only [h.b4,h.br,hci,hbi,hcj,hbj,hil,hjl,e1,e2,hw1,A9,go_sem]));exact ih (j+1) ⟨by omega,hnx (by rw [c1,c2];rfl)⟩ (by omega)
   |false=>
   rw [c2] at e2;cases c3:lsB ls j with
   |true=>
    rw [c3] at e3;(repeat' (refine wQ ?_<;>try simp only [h.b4,h.br,hci,hbi,hcj,hbj,h7,hl,hil,hjl,e1,e2,e3,hw1,A9,go_sem]));exact ih (j+1) ⟨by omega,hnx (by rw [c1,c2,c3];rfl)⟩ (by omega)
   |false=>
    rw [c3] at e3
    have hr:tA g ls i=false:=by
     rw [tA,CX];intro ha;rw [Aj] at ha;have:=ha j (Bz.2 hlt);rw [c1,c2,c3] at this;cases this
    (repeat' (refine wR ?_<;>try simp only [h.b4,h.br,hci,hbi,hcj,hbj,h7,hl,hil,hjl,e1,e2,e3,A9,go_sem]));rw [hr]
 . have hr:tA g ls i=true:=by
    rw [tA,Aj];intro k hk;rw [Bz] at hk;rw [hno k (by omega)];rfl
   (repeat' (refine wR ?_<;>try simp only [B7 hlt,go_sem]));rw [hr]
def RS.tok {Y τ τ':AH} {g:List (List Nat)} {i:Nat} {cells:List AV} (h:RS Y g j1 j3 j4 jr i m cells τ) (hb:∀q,τ'.blk q=τ.blk q) (hle:Y.le τ'):RS Y g j1 j3 j4 jr i m cells τ':=
 ⟨(hb j1).trans h.b1,(hb j3).trans h.b3,(hb j4).trans h.b4,(hb jr).trans h.br,h.cl,fun k hk=>by
   obtain ⟨jk,h1,h2,h3⟩:=h.rows k hk;exact ⟨jk,h1,(hb jk).trans h2,h3⟩,h.rest,hle,h.nr,h.n1,h.n3,h.n4⟩
def Ig.set {σ0 τ:AH} {l:List Ow} (h:Ig σ0 l τ) {j:Nat} (hj:σ0.blk j=none) (cs:List AV):Ig σ0 l (τ.AL j cs):=⟨fun x Z=>(h.1 x Z).set hj cs,h.2⟩
structure LS (Y:AH) (g:List (List Nat)) (j1 j3 j4 jr j7 jl:Nat) (cells:List AV) (ls:List Bool) (τ:AH):Prop where
 rs:RS Y g j1 j3 j4 jr g.length g.length cells τ
 b7:τ.blk j7=some [.ms jl g.length 1 4]
 bl:τ.blk jl=some (BP ls)
 ll:ls.length=g.length
 nl:Y.blk jl=none
 n1:jl≠j1
 n3:jl≠j3
 n4:jl≠j4
 nr:jl≠jr
 n7:jl≠j7
 nk:∀k jk,k < g.length->cells[k]?=some (.ms jk g.length 1 4)->jk≠jl
def LS.set {Y:AH} {g:List (List Nat)} {j7 jl:Nat} {cells:List AV} {τ:AH} (h:LS Y g j1 j3 j4 jr j7 jl cells ls τ) (ls':List Bool) (hl:ls'.length=g.length):LS Y g j1 j3 j4 jr j7 jl cells ls' (τ.AL jl (BP ls')):=
 ⟨h.rs.new h.nl h.n1 h.n3 h.n4 h.nr h.nk _,by rw [AJ,if_neg (A6 h.n7)];exact h.b7,BT,hl,h.nl,h.n1,h.n3,h.n4,h.nr,h.n7,h.nk⟩
def LS.tok {Y:AH} {g:List (List Nat)} {j1 j3 j4 jr j7 jl:Nat} {cells:List AV} {ls:List Bool} {τ τ':AH} (h:LS Y g j1 j3 j4 jr j7 jl cells ls τ) (hb:∀q,τ'.blk q=τ.blk q) (hle:Y.le τ'):LS Y g j1 j3 j4 jr j7 jl cells ls τ':=
 ⟨h.rs.tok hb hle,(hb j7).trans h.b7,(hb jl).trans h.bl,h.ll,h.nl,h.n1,h.n3,h.n4,h.nr,h.n7,h.nk⟩
def AT4 (Q:AV->AH->Prop) (rest:List CI) (g:List (List Nat)) (hgl:g.length<=1000) (j1 j3 j4 jr j7 jl:Nat) (Y τ:AH) (cells:List AV) (ls:List Bool) (h:LS Y g j1 j3 j4 jr j7 jl cells ls τ) (i:Nat) (hi:i < g.length) (fnv outv:AV) (orows:List (List DV)) (ho:Ig Y [⟨51,1,orows,outv⟩] τ) (hfn:∀k,fnv.CL k=false)
 (hfin:∀gv τ',LS Y g j1 j3 j4 jr j7 jl cells (Y0 g i ls) τ'->Ig Y [⟨3,1,(cM g i).map CN,gv⟩,⟨51,1,orows,outv⟩] τ'->Run CJ Q rest (put 3 (.gp j3 0) (put 4 (.gp j4 0) (put 7 (.gp j7 0) (put 8 fnv (put 9 outv (put 10 (.d (.int .i64 i)) (put 11 gv (put 50 (.d (.int .i64 g.length)) (put 51 (.d (.int .i64 g.length)) (put 52 (.d (.bool false)) U)))))))))) E τ'):
 Run CJ Q (.code (.loop Hc)::.blk 4::rest) (put 3 (.gp j3 0) (put 4 (.gp j4 0) (put 7 (.gp j7 0) (put 8 fnv (put 9 outv (put 10 (.d (.int .i64 i)) (put 11 .Ad (put 50 (.d (.int .i64 g.length)) (put 51 (.d (.int .i64 0)) U))))))))) E τ:=by
 have hol:=fun k=>ho.head.CL k;simp only at hol;have hil:=ilT hi;refine Run.BB ?_
 refine Run.BE ((fun (a3:AV) (a4:AV) (a7:AV) (a8:AV) (a9:AV) (a10:AV) (a50:AV)=>fun (y:Nat×AV×AH)=>put 3 a3 (put 4 a4 (put 7 a7 (put 8 a8 (put 9 a9 (put 10 a10 (put 11 (y.2.1) (put 50 a50 (put 51 (.d (.int .i64 y.1)) U))))))))) _ _ _ _ _ _ _) (fun _=>E) (fun y=>y.2.2)
  (fun y=>y.1<=g.length/\LS Y g j1 j3 j4 jr j7 jl cells (fU g i ls y.1) y.2.2/\Ig Y [⟨3,1,((Av y.1).filter (Gx g i)).map CN,y.2.1⟩,⟨51,1,orows,outv⟩] y.2.2) (fun y=>g.length - y.1) ?_ (0,.Ad,τ) ⟨by simp,by rw [ANO h.ll];exact h,ho.nil h.rs.le _ _⟩
 rintro ⟨j,gv,τ⟩ ⟨hj,hL,hO⟩ ih;simp only at hj hL hO;have hgo:=hO.head;simp only at hgo;by_cases hlt:j < g.length
 . obtain ⟨ji,hci,hbi⟩:=hL.rs.at hi;obtain ⟨jj,hcj,hbj⟩:=hL.rs.at hlt;have hjl:=ilT hlt;have hw1:=wsu j;have e1:=Gl (gK (i:=i) hlt);have e2:=Gl (gK (i:=j) hi);have hst:=ANN (i:=i) (ls:=ls) hlt
   have hfs:(Av (j+1)).filter (Gx g i)=if Gx g i j then (Av j).filter (Gx g i)++[j] else (Av j).filter (Gx g i):=by
    rw [List.range_succ,QN];cases hm:Gx g i j<;>simp [hm]
   have hih:=fun gv' τ' h1 h2=>ih (j+1,gv',τ') ⟨by simp only;omega,h1,h2⟩ (by simp only;omega);simp only at hih;rw [hst,hfs] at hih;cases c1:rB g i j with
   |false=>
    have hm:Gx g i j=false:=by simp [Gx,c1]
    rw [c1] at e1;rw [hm] at hih;(repeat' (refine wQ ?_<;>try simp only [hL.rs.b4,hL.rs.br,hci,hbi,hil,hjl,e1,hw1,A9,go_sem]));exact hih _ _ hL hO
   |true=>
   rw [c1] at e1;cases c2:rB g j i with
   |false=>
    have hm:Gx g i j=false:=by simp [Gx,c2]
    rw [c2] at e2;rw [hm] at hih;(repeat' (refine wQ ?_<;>try simp only [hL.rs.b4,hL.rs.br,hci,hbi,hcj,hbj,hil,hjl,e1,e2,hw1,A9,go_sem]));exact hih _ _ hL hO
   |true=>
    have hm:Gx g i j=true:=by simp [Gx,c1,c2]
    rw [c2] at e2;rw [hm] at hih;simp only [if_true] at hih
    have hflen:(((Av j).filter (Gx g i)).map CN).length<=1000:=by
     have:=L2 (Gx g i) (Av j);rw [List.length_range] at this;rw [AA];omega
    have hjm:j < (fU g i ls j).length:=by rw [JO];exact hlt
    have hb7:=hL.b7;have hbl:=hL.bl;have w1:=xM true hjm;have d1:=ACL hjm;(repeat' ((first|refine wQ ?_|(refine Dh.AN0 (cx:=CJ) hO rfl (by simp) (by simp only [A0,Bw];omega) (by decide) (fun v2 τ2 ho2 hbk=>?_))|fail)<;>try simp only [hL.rs.b4,hL.rs.br,hci,hbi,hcj,hbj,hil,hjl,e1,e2,A9,go_sem]));have hL2:=hL.tok hbk ho2.head.le;have h2l:=ho2.head.CL;simp only at h2l;simp only [hL2.b7,hL2.bl,hjl,w1,d1,A9,go_sem];(repeat' (refine wQ ?_<;>try simp only [hw1,go_sem]))
    exact hih _ _ (hL2.set _ (by rw [Kb,JO])) (by
     rw [Ao];exact ho2.set hL.nl _)
 . have hje:j=g.length:=by omega
   subst hje;have:=hfin gv τ hL hO;(repeat' (refine wQ ?_<;>try simp only [B7 hlt,go_sem]));exact this
def AT5 (Q:AV->AH->Prop) (rest:List CI) (g:List (List Nat)) (hgl:g.length<=1000) (j1 j3 j4 jr j7 jl:Nat) (Y τ:AH) (cells:List AV) (h:LS Y g j1 j3 j4 jr j7 jl cells (AG g.length false) τ)
 (hfin:∀outv τ',Y.le τ'->CC Y 51 1 ((RP g).map Y7) outv τ'->Run CJ Q rest (put 3 (.gp j3 0) (put 4 (.gp j4 0) (put 7 (.gp j7 0) (put 8 (.fn 216 [] [.gp j3 0,.gp j4 0,.gp j7 0]) (put 9 outv (put 10 (.d (.int .i64 g.length)) (put 37 (.d (.bool false)) U))))))) E τ'):
 Run CJ Q (.code (.loop Le)::.blk 2::rest) (put 3 (.gp j3 0) (put 4 (.gp j4 0) (put 7 (.gp j7 0) (put 8 (.fn 216 [] [.gp j3 0,.gp j4 0,.gp j7 0]) (put 9 .Ad (put 10 (.d (.int .i64 0)) U)))))) E τ:=by
 refine Run.BB ?_
 refine Run.BE ((fun (a3:AV) (a4:AV) (a7:AV) (a8:AV)=>fun (y:Nat×List Bool×List (List Nat)×Nat×AV×AH)=>put 3 a3 (put 4 a4 (put 7 a7 (put 8 a8 (put 9 (y.2.2.2.2.1) (put 10 (.d (.int .i64 y.1)) U)))))) _ _ _ _) (fun _=>E) (fun y=>y.2.2.2.2.2)
  (fun y=>y.1<=g.length/\LS Y g j1 j3 j4 jr j7 jl cells y.2.1 y.2.2.2.2.2/\CC Y 51 1 (y.2.2.1.map Y7) y.2.2.2.2.1 y.2.2.2.2.2/\RP g=y.2.2.1++Jk g y.2.2.2.1 y.2.1/\unm y.2.1 < y.2.2.2.1/\y.2.2.1.length+unm y.2.1<=g.length/\∀k,k < y.1->bX g y.2.1 k=false)
  (fun y=>unm y.2.1 * (g.length+1)+(g.length - y.1)) ?_ (0,AG g.length false,[],g.length+1,.Ad,τ) ⟨by simp,h,⟨⟨τ,rfl,h.rs.le⟩,h.rs.le,rfl,rfl,rfl,rfl,fun _=>rfl,rfl,rfl⟩,rfl,by simp [unm],by simp [unm],fun k hk=>by simp only at hk;omega⟩
 clear h;rintro ⟨i,ls,out,f,outv,τ⟩ ⟨hi,hL,ho,hcp,hf,hol,hno⟩ ih;simp only at hi hL ho hcp hf hol hno;by_cases hlt:i < g.length
 . have hil:=ilT hlt;have hw1:=wsu i;obtain ⟨b,hb⟩:=Ai (show i < ls.length by rw [hL.ll];exact hlt);have eb:=Gl hb;rw [<- RZ hb] at eb
   have hskip:bX g ls i=false->_:=fun hc=>ih (i+1,ls,out,f,outv,τ) ⟨by simp only;omega,hL,ho,hcp,hf,hol,fun k hk=>by
    simp only at hk;rcases C8 k i with h|h
    . exact hno k h
    . have:k=i:=by omega
      subst this;exact hc⟩ (by simp only;omega)
   simp only at hskip;cases hb1:lsB ls i with
   |true=>
    rw [hb1] at eb;(repeat' (refine wQ ?_<;>try simp only [hL.rs.b3,hL.b7,hL.bl,hil,eb,hw1,A9,go_sem]));exact hskip (by simp [bX,hb1])
   |false=>
   rw [hb1] at eb;have hrd:=AP1 g hgl j1 j3 j4 jr j7 jl Y τ cells hL.rs ls hL.ll hL.b7 hL.bl i hlt;cases hr:tA g ls i with
   |false=>
    rw [hr] at hrd;(repeat' ((first|refine wQ ?_|(refine ⟨_,[],[.gp j3 0,.gp j4 0,.gp j7 0],rfl,by kernel_rfl,AI.det hrd ?_⟩)|fail)<;>try simp only [hL.rs.b3,hL.b7,hL.bl,hil,eb,hw1,A9,go_sem]));exact hskip (by simp [bX,hr])
   |true=>
    rw [hr] at hrd;have hcan:bX g ls i=true:=by simp [bX,hb1,hr]
    have hnx:AA6 g ls=some i:=AUT hlt hcan hno;obtain ⟨f,rfl⟩:∃f',f=f'+1:=⟨f - 1,by omega⟩
    have hcp2:RP g=(out++[cM g i])++Jk g f (Y0 g i ls):=by
     rw [hcp,Jk,hnx];simp
    have hum:=AK6 hL.ll hlt hb1;have hm1:IntKind.i64.wrap ((-1:Int)+1)=((0:Nat):Int):=by decide
    (repeat' ((first|refine wQ ?_|(refine ⟨_,[],[.gp j3 0,.gp j4 0,.gp j7 0],rfl,by kernel_rfl,AI.det hrd ?_⟩)|fail)<;>try simp only [hL.rs.b3,hL.b7,hL.bl,hil,eb,A9,go_sem]));refine AT4 Q _ g hgl j1 j3 j4 jr j7 jl Y τ cells ls hL i hlt _ outv (out.map Y7) ⟨fun x Z=>by simp only [A3] at Z;subst Z;exact ho,List.pairwise_singleton _ _⟩ (fun _=>rfl) (fun gv τ2 hL2 hO2=>?_);have hg2:=hO2.head;have ho2:=hO2.tail.head;simp only at hg2 ho2;(repeat' ((first|refine wQ ?_|(refine Dh.own ho2 rfl (by simp) (by simp;omega) (by decide) (fun v4 τ4 ho4 hbk4=>?_))|fail)<;>try simp only [hm1,hg2.cell,hg2.cells,hg2.dv,go_sem]));(repeat' (refine wQ ?_<;>try simp only [hm1,ho4.CL,go_sem]));refine ih (0,Y0 g i ls,out++[cM g i],f,v4,τ4) ⟨by simp,hL2.tok hbk4 ho4.le,by simp only [Ao];exact ho4,hcp2,by simp only;omega,by simp only [AY,A0,Bw];omega,fun k hk=>by simp only at hk;omega⟩ ?_;simp only;have:(unm (Y0 g i ls)+1) * (g.length+1)<=unm ls * (g.length+1):=Bi _ hum;rw [Na] at this;omega
 . have hie:i=g.length:=by omega
   subst hie;obtain ⟨f,rfl⟩:∃f',f=f'+1:=⟨f - 1,by omega⟩;have hnx:AA6 g ls=none:=AME hno;rw [Jk,hnx,Bu] at hcp;have:=hfin outv τ ho.le (by rw [hcp];exact ho);(repeat' (refine wQ ?_<;>try simp only [B7 hlt,hL.rs.b3,go_sem]));exact this
def ARS (n:Nat):(AG n [AV.Ad]).flatten=AG n AV.Ad:=by
 induction n with
 |zero=>rfl
 |succ n ih=>rw [BV,BW,ih];rfl
def aE (g:List (List Nat)) (hg:dW g) (hgl:g.length<=1000) (hll:∀l∈g,l.length<=1000) (Y:AH):
 AR Tzp 151 [.d (.sl (g.map Y7))] Y (fun v σ'=>v= .d (.sl ((RP g).map Y7))/\σ'=Y):=by
 refine cN (by simp) ?_;rw [Bj];generalize hQ:(fun (v:AV) (σ':AH)=>v= .d (.sl ((RP g).map Y7))/\σ'=Y)=Q;have hok:Q (.d (.sl ((RP g).map Y7))) Y:=by rw [<- hQ];exact ⟨rfl,rfl⟩
 clear hQ;have hbt:∀(τ:AH) (j:Nat) (x:Nat×TypeId) (q:Nat),(τ.Bl j x).blk q=τ.blk q:=fun _ _ _ _=>rfl;(repeat' (first|refine ctQ rfl ?_|((first|refine rgQ mxQ ?_|refine cdQ ?_)<;>try simp only [go_sem])|fail));intro j1 hj1;have hle1:=CK (cs:=[AV.d (.sl (g.map Y7))]) hj1;have hb1:(Y.AL j1 [AV.d (.sl (g.map Y7))]).blk j1=some [AV.d (.sl (g.map Y7))]:=BT;generalize Y.AL j1 [AV.d (.sl (g.map Y7))]=τ1 at hle1 hb1 ⊢;(repeat' (first|refine ctQ rfl ?_|((first|refine rgQ mxQ ?_|refine cdQ ?_)<;>try simp only [hb1,AA,go_sem])|fail));rintro j3 ⟨hj3,hjb3⟩;have hj30:=hle1.none hj3;have n13:j1≠j3:=fun e=>by rw [<- e,hb1] at hj3;cases hj3
 have hle3:Y.le (((τ1.AL j3 [AV.d (.int .i64 0)]).Bl j3 (1,3)).AL j3 [.d (.int .i64 g.length)]):=EC (fO (EC hle1 hj30) hjb3) hj30;have hb13:(((τ1.AL j3 [AV.d (.int .i64 0)]).Bl j3 (1,3)).AL j3 [.d (.int .i64 g.length)]).blk j1=some [AV.d (.sl (g.map Y7))]:=by rw [AJ,if_neg n13,hbt,AJ,if_neg n13];exact hb1
 have hb3:(((τ1.AL j3 [AV.d (.int .i64 0)]).Bl j3 (1,3)).AL j3 [.d (.int .i64 g.length)]).blk j3=some [.d (.int .i64 g.length)]:=BT;simp only [hbt,AJ,go_sem];generalize ((τ1.AL j3 [AV.d (.int .i64 0)]).Bl j3 (1,3)).AL j3 [AV.d (.int .i64 g.length)]=τ3 at hle3 hb13 hb3 ⊢;clear hb1 hle1;(repeat' ((first|refine wQ ?_|(refine O1.mk (n:=g.length) (by omega) (by omega) (fun jr hjr=>?_))|fail)<;>try simp only [hb3,go_sem]));rw [ARS];have hjr0:=hle3.none hjr;have nr1:jr≠j1:=fun e=>by rw [e,hb13] at hjr;cases hjr
 have nr3:jr≠j3:=fun e=>by rw [e,hb3] at hjr;cases hjr
 rintro j4 ⟨hj4,hjb4⟩;replace hj4:(τ3.AL jr (AG g.length AV.Ad)).blk j4=none:=by rw [AJ];exact hj4
 have hle4:=EC (cs:=AG g.length AV.Ad) hle3 hjr0;have hb14:=Jv hb13 hjr (AG g.length AV.Ad);have hb34:=Jv hb3 hjr (AG g.length AV.Ad);have hbr:(τ3.AL jr (AG g.length AV.Ad)).blk jr=some (AG g.length AV.Ad):=BT;generalize τ3.AL jr (AG g.length AV.Ad)=τ4 at hle4 hb14 hb34 hbr hj4 hjb4 ⊢;clear hb13 hb3 hle3 hjr;have hj40:=hle4.none hj4;have n14:j1≠j4:=fun e=>by rw [<- e,hb14] at hj4;cases hj4
 have n34:j3≠j4:=fun e=>by rw [<- e,hb34] at hj4;cases hj4
 have nr4:jr≠j4:=fun e=>by rw [<- e,hbr] at hj4;cases hj4
 have hrs:RS Y g j1 j3 j4 jr 0 0 (AG g.length AV.Ad) (((τ4.AL j4 [AV.Ad]).Bl j4 (1,244)).AL j4 [AV.ms jr g.length 1 114]):=
  ⟨by rw [AJ,if_neg n14,hbt,AJ,if_neg n14];exact hb14,by rw [AJ,if_neg n34,hbt,AJ,if_neg n34];exact hb34,BT,by rw [AJ,if_neg nr4,hbt,AJ,if_neg nr4];exact hbr,by simp,fun k hk=>by omega,fun k _ hk=>by simp [hk],EC (fO (EC hle4 hj40) hjb4) hj40,hjr0,nr1,nr3,nr4⟩
 simp only [hbt,AJ,go_sem];generalize ((τ4.AL j4 [AV.Ad]).Bl j4 (1,244)).AL j4 [AV.ms jr g.length 1 114]=τ5 at hrs ⊢;clear hle4 hb14 hb34 hbr hj4 hjb4;(repeat' (refine wQ ?_<;>try simp only [hrs.b4,hrs.b3,hrs.b1,go_sem]));refine AT3 Q _ g hg hgl hll j1 j3 j4 jr Y τ5 _ hrs (fun cells τ6 hrs=>?_);(repeat' ((first|refine wQ ?_|(refine O1.mk (n:=g.length) (by omega) (by omega) (fun jl hjl=>?_))|fail)<;>try simp only [hrs.b3,go_sem]));rw [Yz];obtain ⟨f1,f2,f3,f4,f5,f6⟩:=hrs.fresh hjl;have hrs2:=hrs.new f1 f2 f3 f4 f5 f6 (BP (AG g.length false));rintro j7 ⟨hj7,hjb7⟩;replace hj7:(τ6.AL jl (BP (AG g.length false))).blk j7=none:=by rw [AJ];exact hj7
 have hbl:(τ6.AL jl (BP (AG g.length false))).blk jl=some (BP (AG g.length false)):=BT;generalize τ6.AL jl (BP (AG g.length false))=τ7 at hrs2 hbl hj7 hjb7 ⊢;obtain ⟨e1,e2,e3,e4,e5,e6⟩:=hrs2.fresh hj7;have nl7:jl≠j7:=fun e=>by rw [<- e,hbl] at hj7;cases hj7
 have hrs3:=((hrs2.new e1 e2 e3 e4 e5 e6 [.Ad]).bt (x:=(1,114)) hjb7).new e1 e2 e3 e4 e5 e6 [AV.ms jl g.length 1 4]
 have hls:LS Y g j1 j3 j4 jr j7 jl cells (AG g.length false) (((τ7.AL j7 [AV.Ad]).Bl j7 (1,114)).AL j7 [AV.ms jl g.length 1 4]):=
  ⟨hrs3,BT,by rw [AJ,if_neg nl7,hbt,AJ,if_neg nl7];exact hbl,by simp,f1,f2,f3,f4,f5,nl7,f6⟩
 simp only [hbt,AJ,go_sem];generalize ((τ7.AL j7 [AV.Ad]).Bl j7 (1,114)).AL j7 [AV.ms jl g.length 1 4]=τ8 at hls ⊢;clear hrs hrs2 hrs3 hbl hjl hj7 hjb7;(repeat' (refine wQ ?_<;>try simp only [go_sem]));refine AT5 Q _ g hgl j1 j3 j4 jr j7 jl Y τ8 cells hls (fun outv τ9 hle ho=>?_);(repeat' ((first|refine wQ ?_|(refine Run.Bg P5 (σ2:=Y) hle ?_)|fail)<;>try simp only [go_sem]));simp only [ho.BS,ho.plain,go_sem];exact hok
def ACR {fs:List FE} {f:FE}:(aQ fs f).length<=fs.length/\∀w∈aQ fs f,w < fs.length:=by
 refine ⟨by rw [aQ];exact Af (L2 _ _) (by simp),fun w hw=>?_⟩;rw [aQ,ZX,Bz] at hw;exact hw.1
def ACS (p:Pg):dW (Ii p):=by
 intro l hl w hw;unfold Ii at hl ⊢;split at hl
 . rename_i h;rw [if_pos h,AA];obtain ⟨f,_,rfl⟩:=B8.1 hl;exact ACR.2 w hw
 . cases hl
def lT (l:List (List Nat)):P2 l= .d (.sl (l.map Y7)):=rfl
def ACT (p:Pg):(Ii p).length<=24:=by
 by_cases hc0:(Q0 p).1=0
 . have:=(Ul hc0).1;unfold Ii;rw [if_pos hc0,AA];exact this
 . unfold Ii;rw [if_neg hc0];simp
def z7 (p:Pg):∀l∈Ii p,l.length<=24:=by
 intro l hl;by_cases hc0:(Q0 p).1=0
 . have:=(Ul hc0).1;unfold Ii at hl;rw [if_pos hc0] at hl;obtain ⟨f,_,rfl⟩:=B8.1 hl;exact Af ACR.1 this
 . unfold Ii at hl;rw [if_neg hc0] at hl;cases hl
noncomputable def Ks (p:Pg):List (List Nat):=RP (Ii p)
def oX (p:Pg) (Y:AH) (h:∀d∈p.data,J5 d):AR Tzp 97 [pgA p] Y (fun v σ'=>v=P2 (Ks p)/\σ'=Y):=by
 have hcl:=fun Y=>tQ p Y h;have hco:=fun Y=>aE (Ii p) (ACS p) (Af (ACT p) (by decide)) (fun l hl=>Af (z7 p l hl) (by decide)) Y;refine rM (by simp) ?_;rw [Bj];rw [Ks,lT];simp only [lT] at hcl;obtain ⟨ds,fs⟩:=p;simp only [pgA,Pg.enc,AF,AN] at hcl ⊢;(repeat' ((first|refine wR ?_|refine AI.det (hcl _) ?_|refine AI.det (hco _) ?_|fail)<;>try simp only [go_sem]))
abbrev Nt:=Ty×List Ty
abbrev Db:=List Sch×List (List Nt)
variable {r:Db}
structure IG where
 s:SS
 en:List (List En)
def igF (G:GC) (st:IG) (f:Nat):IG:=match G.fs[f]? with
 |none=>st
 |some fe=>⟨(WZ G fe (G.ps.getD f []) (G.rs.getD f 0) st.s).s,st.en.set f (WZ G fe (G.ps.getD f []) (G.rs.getD f 0) st.s).en⟩
def ngP (fs:List FE) (ms:List Nat):NGs:=ms.foldl (ngS fs) (ng0 fs.length)
def gcP (fs:List FE) (dt:List Dat) (sch:List Sch) (ms:List Nat):GC:=⟨fs,dt,sch,(ngP fs ms).mem,pgl (ngP fs ms).ps,(ngP fs ms).rs⟩
def ig0 (fs:List FE) (ms:List Nat):IG:=⟨((ngP fs ms).l,false),AG fs.length []⟩
def Hu (G:GC) (l:List Nd) (en:List (List En)) (r:Db) (f:Nat):Db:=
 let vs:=Co l (G.ps.getD f []) (G.rs.getD f 0)
 (r.1.set f (N0 l (Cg vs) (G.ps.getD f []) (G.rs.getD f 0) vs.length),r.2.set f ((en.getD f []).map (R5 G l (Cg vs))))
def Rd (fs:List FE) (dt:List Dat) (r:Db) (ms:List Nat):Except (Int×Nat) Db:=
 let G:=gcP fs dt r.1 ms
 let st:=ms.foldl (igF G) (ig0 fs ms)
 if st.s.2=true\/qX st.s.1=false then .error (6,ms.headD 0)
                                              else match ms.find? (fun f=>cC st.s.1 (G.ps.getD f []) (G.rs.getD f 0) (st.en.getD f [])) with
  |some f=>.error (9,f)
  |none=>.ok (ms.foldl (Hu G st.s.1 st.en) r)
def lF:Sch:=⟨0,[],.mk 0 0 []⟩
def Fx (fs:List FE) (dt:List Dat):List (List Nat)->Db->Except (Int×Nat) Db
 |[],r=>.ok r
 |ms::gs,r=>match Rd fs dt r ms with
  | .error e=>.error e
  | .ok r'=>Fx fs dt gs r'
noncomputable def Dl (p:Pg):Except Dg Db:=
 if (Q0 p).1≠0 then .error (Q0 p) else
 match Fo p with
 | .error d=>.error d
 | .ok dt=>match Fx p.Dz dt (Ks p) (AG p.Dz.length lF,AG p.Dz.length []) with
  | .error e=>.error (e.1,(e.2:Int),0)
  | .ok r=>.ok r
structure AXQ (fs:List FE) (dn:List Nat) (s:NGs):Prop where
 len:s.mem.length=fs.length/\s.ps.length=fs.length/\s.rs.length=fs.length
 ps:∀q,some q∈s.ps->q.length<=6/\∀a∈q,a < s.l.length
 rs:∀a∈s.rs,a=0\/a < s.l.length
 cell:∀f∈dn,∃q,s.ps[f]?=some (some q)/\q.length=gE fs f
 nv:∀dt,NV dt s.l
 lo:dn.length<=s.l.length
 hi:s.l.length<=10 * dn.length
def AXH {fs:List FE} (hp:∀f∈fs,f.params.length<=6):∀(dn:List Nat) (rest:List Nat) (s:NGs),(∀f∈rest,f < fs.length)->AXQ fs dn s->AXQ fs (dn++rest) (rest.foldl (ngS fs) s)
 |dn,[],s,_,h=>by simpa using h
 |dn,f::rest,s,hr,h=>by
  have hf:=hr f (AW)
  have hpar:gE fs f<=6:=by
   obtain ⟨fe,hfe⟩:=Ai hf;simp only [gE,hfe,Ac,BA];exact hp fe (AD hfe)
  have hl:(Ke (Fw s.l (gE fs f)) 0 0 []).length=s.l.length+gE fs f+1:=by rw [H7,KB]
  rw [Au,show dn++f::rest=(dn++[f])++rest from by simp];refine AXH hp (dn++[f]) rest _ (fun x Z=>hr x (AU _ Z)) ?_;obtain ⟨l1,l2,l3⟩:=h.len;refine ⟨⟨by simp [ngS,l1],by simp [ngS,l2],by simp [ngS,l3]⟩,fun q hq=>?_,fun a ha=>?_,fun g hg=>?_,fun dt=>((h.nv dt).cE _).add (gV dt),?_,?_⟩
  . simp only [ngS,hl] at hq ⊢;rcases iA hq with hq|hq
    . obtain ⟨a,b⟩:=h.ps q hq;exact ⟨a,fun x Z=>by have:=b x Z;omega⟩
    . cases hq;refine ⟨by simp;exact hpar,fun x Z=>?_⟩;rw [List.mem_range'] at Z;obtain ⟨i,h1,h2⟩:=Z;omega
  . simp only [ngS,hl] at ha ⊢;rcases iA ha with ha|ha
    . rcases h.rs a ha with e|e
      . exact .inl e
      . right;omega
    . right;omega
  . simp only [ngS];rw [B3];split
    . rename_i e;subst e;rw [if_pos (by omega)];exact ⟨_,rfl,by simp⟩
    . rename_i e;rcases AZ.1 hg with hg|hg
      . exact h.cell g hg
      . simp only [A3] at hg;exact absurd hg.symm e
  . simp only [ngS,hl,AY,Bm];have:=h.lo;omega
  . simp only [ngS,hl,AY,Bm];have:=h.hi;omega
def AY1 {fs:List FE} (hp:∀f∈fs,f.params.length<=6) {ms:List Nat} (hm:∀f∈ms,f < fs.length):AXQ fs ms (ngP fs ms):=by
 have:=AXH hp [] ms (ng0 fs.length) hm ⟨⟨by simp [ng0],by simp [ng0],by simp [ng0]⟩,fun q hq=>by simp [ng0] at hq,fun a ha=>by simp [ng0] at ha;exact .inl ha.2,fun f hf=>by simp at hf,fun dt=>NV.nil,by simp [ng0],by simp [ng0]⟩;simpa [ngP] using this
def AJ4 {l:List Nd} {pl:List Nat} {rf:Nat} {en:List En} (h:cC l pl rf en=false):(∀a∈pl,szN l a<=200)/\szN l rf<=200/\∀x∈en,szN l x.t<=200/\∀a∈x.ar,szN l a<=200:=by
 have hla:∀a,oE l a=false->szN l a<=200:=fun a h=>by
  rw [oE,decide_eq_false_iff_not] at h;omega
 simp only [cC,CY] at h;obtain ⟨⟨h1,h2⟩,h3⟩:=h;refine ⟨fun a ha=>hla a ?_,hla rf h2,fun x Z=>?_⟩
 . exact (List.any_eq_false.1 h1 a ha)|>fun h=>by simpa using h
 . have:=List.any_eq_false.1 h3 x Z;simp only [AQ7,Cb,not_or,Bool.not_eq_true] at this;refine ⟨hla _ this.1,fun a ha=>hla a ?_⟩;have:=List.any_eq_false.1 this.2 a ha;simpa using this
def AZB {l:List Nd} {d:Nat->Nat} (hg:ER l) (h:FR l d) {dt:List Dat} (hnv:NV dt l) (vs:List Nat):∀(N n:Nat),n < l.length->d (rtN l n)<=N->Ve vs.length (rdN l (Cg vs) n)=true/\(rdN l (Cg vs) n).sh dt:=by
 intro N
 induction N using Cc with
 |_ N ih=>
 intro n hn hd;obtain ⟨x,Z,hp⟩:=hg.root hn;have hsx:=hnv x (AD Z);rw [dK hg h Z hp];split
 . split
   . rename_i i hi;obtain ⟨k,rfl,v,hv,_⟩:=kP hi;have:=(AE.1 hv).1;refine ⟨?_,?_⟩
     . rw [Ve,if_pos rfl];simp;omega
     . rw [Ty.sh];exact ⟨.inl rfl,by rw [Ty.shs];trivial⟩
   . exact ⟨by rw [Ve,if_neg (by decide)];rfl,by rw [Ty.sh];exact ⟨.inr (.inl ⟨by omega,rfl,rfl⟩),by rw [Ty.shs];trivial⟩⟩
 . have hk4:x.k≠4:=by
    rcases hsx with h|h|h|h|h<;>omega
   have hkid:∀a∈x.ar,Ve vs.length (rdN l (Cg vs) a)=true/\(rdN l (Cg vs) a).sh dt:=fun a ha=>by
    have h1:=h.lt _ x Z hp a ha;exact ih (d (rtN l a)) (by omega) a (hg.ar _ x Z a ha) (AS _)
   have hvs:∀us:List Nat,(∀a∈us,Ve vs.length (rdN l (Cg vs) a)=true)->LM vs.length (us.map (rdN l (Cg vs)))=true:=by
    intro us
    induction us with
    |nil=>intro _;rfl
    |cons a us ih2=>intro h;rw [AF,LM,h a (AW),ih2 fun b hb=>h b (AU _ hb)];rfl
   refine ⟨?_,?_⟩
   . rw [Ve,if_neg hk4];exact hvs _ fun a ha=>(hkid a ha).1
   . rw [Ty.sh,AA];refine ⟨.inr hsx,Ty.M8.2 fun t ht=>?_⟩;obtain ⟨a,ha,rfl⟩:=B8.1 ht;exact (hkid a ha).2
def AB8 (dt:List Dat) (s:Sch):Prop:=(0<=s.vars/\s.vars<=100000/\LM s.vars.toNat s.params=true/\Ve s.vars.toNat s.res=true/\Ty.AQ s.params<=100000/\s.res.size<=100000)/\Ty.shs dt s.params/\s.res.sh dt/\s.params.length<=6
def AV7 (dt:List Dat):AB8 dt lF:=⟨⟨by decide,by decide,rfl,rfl,by decide,by decide⟩,by rw [lF,Ty.shs];trivial,by rw [lF,Ty.sh];exact ⟨.inr (gV dt),by rw [Ty.shs];trivial⟩,by simp [lF]⟩
def AFG {n:Nat} {f:Nat->Ty}:∀ {us:List Nat},(∀a∈us,Ve n (f a)=true)->LM n (us.map f)=true
 |[],_=>rfl
 |a::us,h=>by rw [AF,LM,h a (AW),AFG fun b hb=>h b (AU _ hb)];rfl
def AV8 {l:List Nd} {d:Nat->Nat} (hg:ER l) (h:FR l d) {dt:List Dat} (hnv:NV dt l) {pl:List Nat} {rf:Nat} (hp:∀a∈pl,a < l.length) (hr:rf < l.length) (hl:pl.length<=6) (hs:(∀a∈pl,szN l a<=200)/\szN l rf<=200):AB8 dt (N0 l (Cg (Co l pl rf)) pl rf (Co l pl rf).length):=by
 have hvl:(Co l pl rf).length<=1400:=by
  have:=uH hg h (ts:=pl++[rf]) (fun a ha=>by
   rcases AZ.1 ha with ha|ha
   . exact hp a ha
   . simp only [A3] at ha;subst ha;exact hr) (fun a ha=>by
   rcases AZ.1 ha with ha|ha
   . exact hs.1 a ha
   . simp only [A3] at ha;subst ha;exact hs.2)
  rw [Co];simp only [AY,Bm] at this;omega
 have hv:=fun n hn=>AZB hg h hnv (Co l pl rf) (d (rtN l n)) n hn (AS _);have hz:=fun n (hn:n < l.length) hs=>s8 (es:=Cg (Co l pl rf)) hg h (d (rtN l n)) n hn (AS _) hs;generalize Co l pl rf=vs at *
 have hsz:∀us:List Nat,(∀a∈us,a < l.length/\szN l a<=200)->Ty.AQ (us.map (rdN l (Cg vs)))<=us.length * 200:=by
  intro us
  induction us with
  |nil=>intro _;simp [Ty.AQ]
  |cons a us ih=>
   intro h;obtain ⟨h1,h2⟩:=h a (AW);have:=ih fun b hb=>h b (AU _ hb);have:=hz a h1 h2;rw [AF,Ty.AQ,A0];omega
 have h1:=hsz pl fun a ha=>⟨hp a ha,hs.1 a ha⟩;have h2:=hz rf hr hs.2;refine ⟨⟨by simp [N0],by simp only [N0];omega,?_,?_,by simp only [N0];omega,by simp only [N0];omega⟩,?_,(hv rf hr).2,by simp [N0];exact hl⟩
 . simp only [N0,CO];exact AFG fun a ha=>(hv a (hp a ha)).1
 . simp only [N0,CO];exact (hv rf hr).1
 . simp only [N0];refine Ty.M8.2 fun t ht=>?_;obtain ⟨a,ha,rfl⟩:=B8.1 ht;exact (hv a (hp a ha)).2
section
def EA (en:List En):Prop:=∀x∈en,x.ar.length<=100000
def EA.mod {en:List En} (h:EA en) (i:Nat) {f:En->En} (hf:∀x,x.ar.length<=100000->(f x).ar.length<=100000):EA (en.modify i f):=fun y hy=>by
 obtain ⟨m,hm,rfl⟩:=Bv hy;rw [List.getElem_modify];split
 . exact hf _ (h _ (E5 _))
 . exact h _ (E5 _)
variable {G:GC}
def PEa (G:GC) (e:Ex):Prop:=∀env g,EA g.en->EA (Bb G e env g).2.en
def qS:∀ {ks:List Ex},(∀k∈ks,PEa G k)->∀env g,EA g.en->EA (C9 G ks env g).2.en
 |[],_,env,g,h=>h
 |k::ks,hk,env,g,h=>by
  rw [C9];exact qS (fun x Z=>hk x (AU _ Z)) env _ (hk k (AW) env g h)
def RT (hk:∀k∈ks,PEa G k) (env:Env) (g:GS) (h:EA g.en):EA (Ie G ks env g).2.en:=by
 cases ks with
 |nil=>exact h
 |cons k ks=>rw [Ie];exact hk k (AW) env g h
def eX (hk:∀k∈ks,PEa G k) (env:Env) (g:GS) (h:EA g.en):EA (Tw G ks env g).2.en:=by
 cases ks with
 |nil=>exact h
 |cons k ks=>rw [Tw];exact RT (fun x Z=>hk x (AU _ Z)) env g h
def AUF (hk:∀k∈ks,PEa G k) (env:Env) (g:GS) (h:EA g.en):EA (yG G ks env g).2.en:=by
 cases ks with
 |nil=>exact h
 |cons k ks=>rw [yG];exact eX (fun x Z=>hk x (AU _ Z)) env g h
def pC:∀ {ks:List Ex},(∀k∈ks,PEa G k)->∀(env:Env) (i:Nat) (f:Nat->Nat->SS->SS) (g:GS),EA g.en->EA (De G ks env i f g).en
 |[],_,env,i,f,g,h=>h
 |k::ks,hk,env,i,f,g,h=>by
  rw [De];exact pC (fun x Z=>hk x (AU _ Z)) env (i+1) f _ (hk k (AW) env g h)
def AJ1 {D:Dat}:∀ {al:List Al},(∀a∈al,PEa G a.body)->∀(env:Env) (ar:List Nat) (t:Nat) (g:GS),EA g.en->EA (Vt G al env D ar t g).en
 |[],_,env,ar,t,g,h=>h
 | .mk c vs b::al,ha,env,ar,t,g,h=>by
  rw [Vt];exact AJ1 (fun x Z=>ha x (AU _ Z)) env ar t _ (ha _ (AW) _ _ h)
def AYG (hG:∀s∈G.sch,s.vars<=100000) (env:Env) (nm:Str) (k0:Nat) (g:GS) (h:EA g.en):EA (dS G env nm k0 g).2.en:=by
 unfold dS;cases OX env nm with
 |some t=>exact h
 |none=>
  simp only;generalize (DP (DY G.fs) nm).getD 0=f;have h1:EA (g.UN k0 fun e=> { e with f:=(f:Int)}).en:=h.mod _ fun x Z=>Z;generalize g.UN k0 (fun e=> { e with f:=(f:Int)})=g1 at h1 ⊢;unfold ASI;split
  . exact h1
  . split
    . exact h1
    . rename_i s hs;have hs:=hG s (AD hs);exact EA.mod (en:=(g1.frs s.vars.toNat).en) h1 _ fun x Z=>by simp;omega
def AUE (hG:∀s∈G.sch,s.vars<=100000):∀(N:Nat) (e:Ex),e.size<=N->PEa G e:=by
 intro N
 induction N with
 |zero=>intro e h;have:=Ex.size_pos e;omega
 |succ N ih=>
 rintro ⟨o,nm,nu,ns,ks,al⟩ hsz env g hg
 have hkl:∀k∈ks,PEa G k:=fun k hk=>by
  refine ih k ?_;have:=Ex.Im hk;simp only [Ex.size] at hsz;omega
 have hal:∀a∈al,PEa G a.body:=fun a ha=>by
  refine ih a.body ?_;have:=Al.Im ha;obtain ⟨c,vs,b⟩:=a;simp only [Ex.size,Al.size,Al.body] at hsz this ⊢;omega
 rw [xX]
 have hg1:EA (⟨g.s,g.en++[⟨0,-1,[]⟩]⟩:GS).en:=fun x Z=>by
  rcases AZ.1 Z with Z|Z
  . exact hg x Z
  . simp only [A3] at Z;subst Z;simp
 generalize (⟨g.s,g.en++[⟨0,-1,[]⟩]⟩:GS)=g1 at hg1;generalize g.en.length=k0;have hfin:∀r:Nat×GS,EA r.2.en->EA (AYI k0 r).2.en:=fun r hr=>EA.mod hr _ fun x Z=>Z;refine hfin _ ?_;clear hg g hsz hfin;unfold AJ5;by_cases h:o=4
 . rw [if_pos h];exact AYG hG env nm k0 g1 hg1
 rw [if_neg h];clear h;by_cases h:o=1\/o=2\/o=3\/o=15
 . rw [if_pos h];exact hg1
 rw [if_neg h];clear h;by_cases h:o=5
 . rw [if_pos h];exact qS hkl env g1 hg1
 rw [if_neg h];clear h;by_cases h:o=6
 . rw [if_pos h];cases El G.dt nm with
   |none=>exact hg1
   |some x=>
    obtain ⟨d,c⟩:=x;simp only;cases hd:G.dt[d]? with
    |none=>exact hg1
    |some D=>exact pC hkl env 0 _ _ hg1
 rw [if_neg h];clear h;by_cases h:o=10
 . rw [if_pos h];cases al with
   |nil=>exact hg1
   |cons a al=>
    simp only;cases El G.dt a.con with
    |none=>exact hg1
    |some x=>
     obtain ⟨d,c⟩:=x;simp only;cases hd:G.dt[d]? with
     |none=>exact hg1
     |some D=>exact AJ1 hal env _ _ _ (RT hkl env _ hg1)
 rw [if_neg h];clear h;by_cases h:o=12
 . rw [if_pos h];exact qS hkl env g1 hg1
 rw [if_neg h];clear h;by_cases h:o=13
 . rw [if_pos h];exact pC hkl env 0 _ _ hg1
 rw [if_neg h];clear h;by_cases h:o=14
 . rw [if_pos h];exact pC hkl env 0 _ _ hg1
 rw [if_neg h];clear h;by_cases h:o=16
 . rw [if_pos h];exact RT hkl env g1 hg1
 rw [if_neg h];clear h;by_cases h:o=7
 . rw [if_pos h];exact eX hkl _ _ (RT hkl env g1 hg1)
 rw [if_neg h];clear h;by_cases h:o=8
 . rw [if_pos h];exact eX hkl _ _ (RT hkl env _ hg1)
 rw [if_neg h];clear h;by_cases h:o=9
 . rw [if_pos h];exact AUF hkl _ _ (eX hkl _ _ (RT hkl env _ hg1))
 rw [if_neg h];clear h;by_cases h:o=11
 . rw [if_pos h];exact RT hkl _ _ hg1
 rw [if_neg h];exact eX hkl _ _ (RT hkl env _ hg1)
end
section
def AK3:∀(W:List Nat) (f:Nat),(W.set f 0).sum+W.getD f 0=W.sum
 |[],f=>by simp
 |w::W,0=>by simp [Nat.add_comm]
 |w::W,f+1=>by
  have:=AK3 W f;simp only [CR,Er,List.getD_cons_succ];omega
def AJC:∀(dn:List Nat) (W:List Nat),dn.Nodup->(dn.map fun f=>W.getD f 0).sum<=W.sum
 |[],W,_=>by simp
 |f::dn,W,h=>by
  rw [ZZ] at h;have h1:=AJC dn (W.set f 0) h.2;have h2:=AK3 W f
  have h3:dn.map (fun g=>(W.set f 0).getD g 0)=dn.map fun g=>W.getD g 0:=FA fun g hg=>by
   have hne:f≠g:=fun e=>h.1 (by rw [e];exact hg);simp only [A2,BJ hne]
  rw [h3] at h1;rw [AF,Er];omega
def Y1 {ms:List Nat} {n:Nat} (h:ms.Nodup) (hl:∀f∈ms,f < n):ms.length<=n:=by
 have h1:=AJC ms (AG n 1) h;have h2:ms.map (fun f=>(AG n 1).getD f 0)=ms.map fun _=>1:=FA fun f hf=>by simp [A2,hl f hf]
 have h3:∀l:List Nat,(l.map fun _=>1).sum=l.length:=by
  intro l
  induction l with
  |nil=>rfl
  |cons a l ih=>rw [AF,Er,ih,A0];omega
 rw [h2,h3] at h1;simpa using h1
def szM (fs:List FE) (dn:List Nat):Nat:=(dn.map fun f=>((fs.map fun f=>f.body.size).getD f 0)).sum
def AS1 (fs:List FE) {dn:List Nat} (h:dn.Nodup):szM fs dn<=Va fs:=AJC dn _ h
def AE8 (fs:List FE) (dn:List Nat) {f:Nat} (h:fs[f]?=some fe):szM fs (dn++[f])=szM fs dn+fe.body.size:=by
 simp [szM,h]
def GB.w (B:GB) (ext:Nat->Option (List AV)) (c:Nat) (es:List AV):GB:= { B with ext:=ext,cur:=c,es:=es}
structure MS (B:GB) (ext0:Nat->Option (List AV)) (ms:List Nat):Prop where
 ie:B.i≠B.je
 m:ext0 B.jm=some (BP B.G.mem)
 p:ext0 B.jp=some (psC B.G.ps)
 r:ext0 B.jr=some (Ct B.G.rs)
 s:ext0 B.js=some (V9 B.G.sch)
 lm:B.G.mem.length=B.G.fs.length
 lp:B.G.ps.length=B.G.fs.length
 lr:B.G.rs.length=B.G.fs.length
 ls:B.G.sch.length=B.G.fs.length
 lf:B.G.fs.length<=100
 gd:GD B.G
 gv:GVv B.G
 ok:∀(f:Nat) (fe:FE),B.G.fs[f]?=some fe->OkE B.G fe.body fe.params/\fe.body.size<=600
 cell:∀f∈ms,∃q,B.G.ps[f]?=some q/\q.length=gE B.G.fs f
 lt:∀f∈ms,f < B.G.fs.length
 nd:ms.Nodup
 sz:Va B.G.fs<=200
structure MI (B:GB) (ext0:Nat->Option (List AV)) (σ0 τ:AH) (dn:List Nat) (c0:Nat) (es:List AV) (ext:Nat->Option (List AV)) (j:Nat) (st:IG):Prop where
 sn:SN τ B.i st.s.1 st.s.2 (B.w ext c0 es).rest j
 e:τ.blk B.je=some es
 x:∀k cs,ext k=some cs->τ.blk k=some cs
 jj:ext j=none/\j≠B.je
 xi:ext B.i=none
 xe:ext B.je=none
 sub:∀k cs,ext0 k=some cs->ext k=some cs
 nb:(nbH σ0).le τ
 el:es.length=B.G.fs.length
 cell:∀f∈dn,∃jc,es[f]?=some (enV (st.en.getD f []) jc)/\(st.en.getD f []≠[]->ext jc=some (enC (st.en.getD f [])))/\ext0 jc=none
 un:∀f,f < B.G.fs.length->f ∉ dn->es[f]?=some .Ad
 enl:st.en.length=B.G.fs.length
 gi:∀f∈dn,GI B.G ⟨st.s,st.en.getD f []⟩/\(st.en.getD f []).length<=600/\EA (st.en.getD f [])
 sz:∀f∈dn,∀fe,B.G.fs[f]?=some fe->(st.en.getD f []).length=fe.body.size
 gi0:GI B.G ⟨st.s,[]⟩
 hi:st.s.1.length<=1000+1000000 * szM B.G.fs dn
 nv:NV B.G.dt st.s.1
variable {B:GB} {ext0 ext:Nat->Option (List AV)} {σ0 τ τ':AH} {ms dn:List Nat} {c0 j j' jc f:Nat} {es:List AV} {st:IG}
def MI.pg (hS:MS B ext0 ms) (h:MI B ext0 σ0 τ dn c0 es ext j st) (hf:f < B.G.fs.length) (hn:f ∉ dn):HM (B.w ext f es)/\PG (B.w ext f es) c0 τ st.s j:=
 ⟨⟨hS.ie,h.xi,h.xe,h.sub _ _ hS.m,h.sub _ _ hS.p,h.sub _ _ hS.r,h.sub _ _ hS.s,by show f < es.length;rw [h.el];exact hf,hS.lm,hS.lp,hS.lr,hS.ls,hS.lf⟩,⟨h.sn,h.e,h.un f hf hn,h.x,h.jj,h.gi0⟩⟩
def GI.le {G:GC} {s s':SS} {en:List En} (h:GI G ⟨s,en⟩) (hl:s.1.length<=s'.1.length):GI G ⟨s',en⟩:=GI.step h hl
def ABN {l:List α} {f:Nat} (h:f < l.length) (x d:α):(l.set f x).getD f d=x:=by simp [h]
def ABO {l:List α} {f g:Nat} (h:f≠g) (x d:α):(l.set f x).getD g d=l.getD g d:=by simp [A2,BJ h]
def MI.next (hS:MS B ext0 ms) (h:MI B ext0 σ0 τ dn c0 es ext j st) (hf:f < B.G.fs.length) (hfm:f∈ms) (hn:f ∉ dn) (hfe:B.G.fs[f]?=some fe) (hnb:(nbH τ).le τ')
 (hg:GX (B.w ext f es) τ' (WZ B.G fe (B.G.ps.getD f []) (B.G.rs.getD f 0) st.s) j' jc) (hle:st.s.1.length<=(WZ B.G fe (B.G.ps.getD f []) (B.G.rs.getD f 0) st.s).nx)
 (hhi:(WZ B.G fe (B.G.ps.getD f []) (B.G.rs.getD f 0) st.s).nx<=st.s.1.length+1000000 * fe.body.size) (hen:(WZ B.G fe (B.G.ps.getD f []) (B.G.rs.getD f 0) st.s).en.length=fe.body.size):
 ∃es' ext',MI B ext0 σ0 τ' (dn++[f]) f es' ext' j' (igF B.G st f):=by
 have hig:igF B.G st f=⟨(WZ B.G fe (B.G.ps.getD f []) (B.G.rs.getD f 0) st.s).s,st.en.set f (WZ B.G fe (B.G.ps.getD f []) (B.G.rs.getD f 0) st.s).en⟩:=by
  unfold igF;rw [hfe]
 have hnv:NV B.G.dt (WZ B.G fe (B.G.ps.getD f []) (B.G.rs.getD f 0) st.s).s.1:=by
  unfold WZ;exact NV.uni (AVO hS.gv fe.body.size fe.body fe.params (AS _) (hS.ok f fe hfe).1 _ _ h.nv) _ _
 have hea:EA (WZ B.G fe (B.G.ps.getD f []) (B.G.rs.getD f 0) st.s).en:=by
  unfold WZ;exact AUE (fun s hs=>(hS.gd.sch s hs).2.1) fe.body.size fe.body (AS _) _ _ (fun x Z=>by simp at Z)
 rw [hig];generalize WZ B.G fe (B.G.ps.getD f []) (B.G.rs.getD f 0) st.s=g at *;have hgn:g.en≠[]:=fun e=>by rw [e] at hen;have:=Ex.size_pos fe.body;simp only [Bw] at hen;omega
 have hc:τ'.blk jc=some (enC g.en)/\jc≠B.i/\jc≠B.je/\ext jc=none/\jc≠j':=hg.c hgn;obtain ⟨c1,c2,c3,c4,c5⟩:=hc;have hsl:(es.set f (enV g.en jc)).length=B.G.fs.length:=by simp [h.el]
 refine ⟨es.set f (enV g.en jc),fun k=>if k=jc then some (enC g.en) else ext k,⟨?_,hg.e,fun k cs hk=>?_,⟨?_,hg.jj.2⟩,?_,?_,fun k cs hk=>?_,D3 h.nb hnb,hsl,fun f' hf'=>?_,fun f' hf' hn'=>?_,by simp [h.enl],fun f' hf'=>?_,fun f' hf' fe' hfe'=>?_,?_,?_,hnv⟩⟩
 . have:=hg.sn
   have hr:(B.w ext f es).rest=(B.w (fun k=>if k=jc then some (enC g.en) else ext k) f (es.set f (enV g.en jc))).rest:=by
    simp only [GB.rest,GB.w,Kb]
   rw [hr] at this;exact this
 . split at hk
   . rename_i e;subst e;cases hk;exact c1
   . exact hg.x k cs hk
 . rw [if_neg (A6 c5)];exact hg.jj.1
 . rw [if_neg (A6 c2)];exact h.xi
 . rw [if_neg (A6 c3)];exact h.xe
 . have:=h.sub k cs hk;rw [if_neg (fun e=>by rw [e,c4] at this;cases this)];exact this
 . by_cases e:f=f'
   . subst e;refine ⟨jc,?_,fun _=>?_,?_⟩
     . rw [ABN (by rw [h.enl];exact hf)];exact BK (by rw [h.el];exact hf)
     . rw [if_pos rfl,ABN (by rw [h.enl];exact hf)]
     . cases Z:ext0 jc with
       |none=>rfl
       |some cs=>rw [h.sub _ _ Z] at c4;cases c4
   . rcases AZ.1 hf' with hf'|hf'
     . obtain ⟨jc',h1,h2,h3⟩:=h.cell f' hf';refine ⟨jc',?_,fun hne=>?_,h3⟩
       . rw [ABO e,BJ e];exact h1
       . simp only at hne ⊢;rw [ABO e] at hne ⊢;have:=h2 hne;rw [if_neg (fun e=>by rw [e,c4] at this;cases this)];exact this
     . simp only [A3] at hf';exact absurd hf'.symm e
 . have e:f≠f':=fun e=>hn' (by simp [e]);rw [BJ e];exact h.un f' hf' fun hm=>hn' (XF _ hm)
 . by_cases e:f=f'
   . subst e;simp only;rw [ABN (by rw [h.enl];exact hf)];exact ⟨hg.gi,by have:=(hS.ok f fe hfe).2;omega,hea⟩
   . rcases AZ.1 hf' with hf'|hf'
     . simp only;rw [ABO e];exact ⟨GI.le (h.gi f' hf').1 hle,(h.gi f' hf').2⟩
     . simp only [A3] at hf';exact absurd hf'.symm e
 . by_cases e:f=f'
   . subst e;simp only;rw [ABN (by rw [h.enl];exact hf)];rw [hfe] at hfe';cases hfe';exact hen
   . rcases AZ.1 hf' with hf'|hf'
     . simp only;rw [ABO e];exact h.sz f' hf' fe' hfe'
     . simp only [A3] at hf';exact absurd hf'.symm e
 . exact GI.le h.gi0 hle
 . simp only;rw [AE8 _ _ hfe];have:=h.hi;have e:g.nx=g.s.1.length:=rfl;omega
abbrev eNn:Nat:=48
abbrev LI (ds fs:DV) (js jn n:Nat):Lm:=At 1 [.d ds,.d fs] (At 2 [.Ad,.Ad] (At 3 [.d (.int .i64 0),.d (.int .i64 0),.d (.int .i64 0)] (At 7 [.ms js n 5 eSs,.ms jn n 1 eNn] E)))
def ADQ (B:GB) (ext0:Nat->Option (List AV)) (ms:List Nat) (hS:MS B ext0 ms) (σ0:AH) (Q:AV->AH->Prop) (k:List CI) (ds fs:DV) (jj jn n:Nat) (st0:IG) (τ:AH) (es:List AV) (j:Nat) (h0:MI B ext0 σ0 τ [] 0 es ext0 j st0)
 (a5 a40 a41 a42:DV)
 (hk:∀τ' c es' ext' j',MI B ext0 σ0 τ' ms c es' ext' j' (ms.foldl (igF B.G) st0)->Run Bc Q k (put 1 (.lp 1 0) (put 2 (.lp 2 0) (put 3 (.lp 3 0) (put 5 (.d a5) (put 7 (.lp 7 0) (put 9 (.d (.sl (ms.map CN))) (put 10 (.gp B.i 0) (put 40 (.d a40) (put 41 (.d a41) (put 42 (.d a42) U)))))))))) (LI ds fs jj jn n) τ'):
 Run Bc Q (.code (.loop Ft)::.blk 2::k) (put 1 (.lp 1 0) (put 2 (.lp 2 0) (put 3 (.lp 3 0) (put 5 (.d a5) (put 7 (.lp 7 0) (put 9 (.d (.sl (ms.map CN))) (put 10 (.gp B.i 0) (put 40 (.d a40) (put 41 (.d a41) (put 42 (.d a42) (put 52 (.d (.sl (ms.map CN))) (put 53 (.d (.int .i64 ms.length)) (put 54 (.d (.int .i64 0)) U))))))))))))) (LI ds fs jj jn n) τ:=by
 have hml:ms.length<=100:=Af (Y1 hS.nd hS.lt) hS.lf;refine Run.BB ?_
 refine Run.BE ((fun (a1:AV) (a2:AV) (a3:AV) (a5:AV) (a7:AV) (a9:AV) (a10:AV) (a40:AV) (a41:AV) (a42:AV) (a52:AV) (a53:AV)=>fun (z:Nat×AH)=>put 1 a1 (put 2 a2 (put 3 a3 (put 5 a5 (put 7 a7 (put 9 a9 (put 10 a10 (put 40 a40 (put 41 a41 (put 42 a42 (put 52 a52 (put 53 a53 (put 54 (.d (.int .i64 z.1)) U))))))))))))) _ _ _ _ _ _ _ _ _ _ _ _) (fun _=>LI ds fs jj jn n) (fun z=>z.2)
  (fun z=>z.1<=ms.length/\∃c es' ext' j',MI B ext0 σ0 z.2 (ms.take z.1) c es' ext' j' ((ms.take z.1).foldl (igF B.G) st0))
  (fun z=>ms.length - z.1) ?_ (0,τ) ⟨by simp,0,es,ext0,j,by simpa using h0⟩
 rintro ⟨p,τ1⟩ ⟨hp,c,es1,ext1,j1,h1⟩ ih;simp only at hp h1;by_cases hlt:p < ms.length
 . obtain ⟨f,hf⟩:=Ai hlt;have hfr:=HT hf;have hfm:=AD hf;have hfl:=hS.lt f hfm;have hw1:=wsu p
   have hst:(ms.take (p+1)).foldl (igF B.G) st0=igF B.G ((ms.take p).foldl (igF B.G) st0) f:=by
    rw [A5 hf,Ch];rfl
   have hdn:f ∉ ms.take p:=fun hm=>by
    have h1:=hS.nd.sublist (List.take_sublist (p+1) ms);rw [A5 hf] at h1;exact (G6.1 h1).2.2 f hm f (by simp) rfl
   obtain ⟨fe,hfe⟩:=Ai hfl;obtain ⟨q,hq,hql⟩:=hS.cell f hfm;obtain ⟨r,hr⟩:=Ai (show f < B.G.rs.length by rw [hS.lr];exact hfl);have hgq:B.G.ps.getD f []=q:=by simp [hq]
   have hgr:B.G.rs.getD f 0=r:=by simp [hr]
   have hnd2:((ms.take p)++[f]).Nodup:=by rw [<- A5 hf];exact hS.nd.sublist (List.take_sublist _ _)
   have hsm:=AS1 B.G.fs hnd2;rw [AE8 _ _ hfe] at hsm;have hsz:=hS.sz;have hhi:=h1.hi;obtain ⟨hB,hP⟩:=h1.pg hS hfl hdn;have hc:=uE (B.w ext1 f es1) hB hS.gd fe q r hfe hq hr (by rw [hql,gE,hfe];rfl) (hS.ok f fe hfe).1 c _ τ1 j1 (by omega) hP;generalize (ms.take p).foldl (igF B.G) st0=st at *;(repeat' (first|refine ctQ rfl ?_|((first|refine rgQ mxQ ?_|refine cdQ ?_)<;>try simp only [Ap hlt,hfr,go_sem])|fail));refine AI.mk rfl hc ?_;rintro v τ2 ⟨hnb,⟨j2,jc,hg⟩,g1,g2,g3⟩;simp only [go_sem];(repeat' (first|refine ctQ rfl ?_|((first|refine rgQ mxQ ?_|refine cdQ ?_)<;>try simp only [hw1,go_sem])|fail));have hnx:=h1.next hS hfl hfm hdn hfe hnb (j':=j2) (jc:=jc) (by rw [hgq,hgr];exact hg) (by rw [hgq,hgr];exact g1) (by rw [hgq,hgr];exact g2) (by rw [hgq,hgr];exact g3);obtain ⟨es2,ext2,h2⟩:=hnx;exact ih ⟨p+1,τ2⟩ ⟨hlt,f,es2,ext2,j2,by simp only [hst];rw [A5 hf];exact h2⟩ (by simp only;omega)
 . have hpe:p=ms.length:=by omega
   subst hpe;rw [BQ] at h1;(repeat' (first|refine ctQ rfl ?_|((first|refine rgQ mxQ ?_|refine cdQ ?_)<;>try simp only [B7 hlt,go_sem])|fail));refine Run.JP [1,2,3,5,7,9,10,40,41,42] ?_;have:=hk τ1 c es1 ext1 j1 h1;simp only [go_sem];exact this
end
structure MF (B:GB) (ms:List Nat) (es:List AV) (st:IG) (ext:Nat->Option (List AV)):Prop where
 xm:ext B.jm=some (BP B.G.mem)
 xp:ext B.jp=some (psC B.G.ps)
 xr:ext B.jr=some (Ct B.G.rs)
 xe:ext B.je=some es
 el:es.length=B.G.fs.length
 cell:∀f∈ms,∃jc,es[f]?=some (enV (st.en.getD f []) jc)/\(st.en.getD f []≠[]->ext jc=some (enC (st.en.getD f [])))
 gi:∀f∈ms,GI B.G ⟨st.s,st.en.getD f []⟩/\(st.en.getD f []).length<=600/\EA (st.en.getD f [])
 gi0:GI B.G ⟨st.s,[]⟩
def ADP (B:GB) (ext0:Nat->Option (List AV)) (ms:List Nat) (hS:MS B ext0 ms) (c0:Nat) (es:List AV) (st:IG) (ext:Nat->Option (List AV)) (hM:MF B ms es st ext) (d:Nat->Nat) (σ0:AH) (jz j1 j3 j4:Nat) (hl0:st.s.1≠[]) (he:JE ext B.i st.s.1 d jz j1 j3 j4)
 (Q:AV->AH->Prop) (k:List CI) (ds fs:DV) (jj jn n:Nat) (a5 a40 a41 a42:DV) (τ:AH) (hj:JZ ext σ0 B.i (B.w ext c0 es).rest st.s.1 st.s.2 jz τ)
 (hbad:∀f τ' k',ms.find? (fun f=>cC st.s.1 (B.G.ps.getD f []) (B.G.rs.getD f 0) (st.en.getD f []))=some f->JZ ext σ0 B.i (B.w ext c0 es).rest st.s.1 st.s.2 jz τ'->
   Run Bc Q (.code .ret::k') (put 2 (.lp 2 0) (put 3 (.lp 3 0) U)) (At 2 [.Ad,.Ad] (At 3 [.d (.int .i64 9),.d (.int .i64 (f:Int)),.d (.int .i64 0)] E)) τ')
 (hk:∀τ',ms.find? (fun f=>cC st.s.1 (B.G.ps.getD f []) (B.G.rs.getD f 0) (st.en.getD f []))=none->JZ ext σ0 B.i (B.w ext c0 es).rest st.s.1 st.s.2 jz τ'->
   Run Bc Q k (put 1 (.lp 1 0) (put 2 (.lp 2 0) (put 3 (.lp 3 0) (put 5 (.d a5) (put 7 (.lp 7 0) (put 9 (.d (.sl (ms.map CN))) (put 10 (.gp B.i 0) (put 40 (.d a40) (put 41 (.d a41) (put 42 (.d a42) U)))))))))) (LI ds fs jj jn n) τ'):
 Run Bc Q (.code (.loop Hj)::.blk 4::k) (put 1 (.lp 1 0) (put 2 (.lp 2 0) (put 3 (.lp 3 0) (put 5 (.d a5) (put 7 (.lp 7 0) (put 9 (.d (.sl (ms.map CN))) (put 10 (.gp B.i 0) (put 13 (szC j1 j3 j4) (put 40 (.d a40) (put 41 (.d a41) (put 42 (.d a42) (put 83 (.d (.sl (ms.map CN))) (put 84 (.d (.int .i64 ms.length)) (put 85 (.d (.int .i64 0)) U)))))))))))))) (LI ds fs jj jn n) τ:=by
 have hml:ms.length<=100:=Af (Y1 hS.nd hS.lt) hS.lf;refine Run.BB ?_
 refine Run.BE ((fun (a1:AV) (a2:AV) (a3:AV) (a5:AV) (a7:AV) (a9:AV) (a10:AV) (a13:AV) (a40:AV) (a41:AV) (a42:AV) (a83:AV) (a84:AV)=>fun (z:Nat×AH)=>put 1 a1 (put 2 a2 (put 3 a3 (put 5 a5 (put 7 a7 (put 9 a9 (put 10 a10 (put 13 a13 (put 40 a40 (put 41 a41 (put 42 a42 (put 83 a83 (put 84 a84 (put 85 (.d (.int .i64 z.1)) U)))))))))))))) _ _ _ _ _ _ _ _ _ _ _ _ _) (fun _=>LI ds fs jj jn n) (fun z=>z.2)
  (fun z=>z.1<=ms.length/\(∀f∈ms.take z.1,cC st.s.1 (B.G.ps.getD f []) (B.G.rs.getD f 0) (st.en.getD f [])=false)/\JZ ext σ0 B.i (B.w ext c0 es).rest st.s.1 st.s.2 jz z.2)
  (fun z=>ms.length - z.1) ?_ (0,τ) ⟨by simp,by simp,hj⟩
 clear hj;rintro ⟨p,τ1⟩ ⟨hp,hno,hj⟩ ih;simp only at hp hno hj;by_cases hlt:p < ms.length
 . obtain ⟨f,hf⟩:=Ai hlt;have hfr:=HT hf;have hfm:=AD hf;have hfl:=hS.lt f hfm;have hw1:=wsu p;obtain ⟨q,hq,hql⟩:=hS.cell f hfm;obtain ⟨r,hr⟩:=Ai (show f < B.G.rs.length by rw [hS.lr];exact hfl);have hgq:B.G.ps.getD f []=q:=by simp [hq]
   have hgr:B.G.rs.getD f 0=r:=by simp [hr]
   obtain ⟨jc,hc1,hc2⟩:=hM.cell f hfm;obtain ⟨hgi,hel,hea⟩:=hM.gi f hfm;have hc:=AG2 (B.w ext c0 es) ext σ0 st.s.1 d st.s.2 jz j1 j3 j4 hl0 he f jc es q r (st.en.getD f []) hM.xp hM.xr hM.xe rfl hc2 hq hr hc1 (by omega) (hgi.ps q (AD hq)) (hgi.rs r (AD hr)) (fun x Z=>⟨(hgi.en x Z).1,(hgi.en x Z).2.2.2⟩) τ1 hj;have hfd:∀b,cC st.s.1 q r (st.en.getD f [])=b->cC st.s.1 (B.G.ps.getD f []) (B.G.rs.getD f 0) (st.en.getD f [])=b:=fun b h=>by rw [hgq,hgr];exact h
   cases hb:cC st.s.1 q r (st.en.getD f []) with
   |true=>
    rw [hb] at hc;(repeat' (refine wQ ?_<;>try simp only [Ap hlt,hfr,go_sem]));refine AI.mk rfl hc ?_;rintro _ τ2 ⟨rfl,hj2⟩;simp only [go_sem];(repeat' (refine wQ ?_<;>try simp only [go_sem]));refine hbad f τ2 _ ?_ hj2;rw [List.find?_eq_some_iff_getElem];refine ⟨hfd _ hb,p,hlt,(AE.1 hf).2,fun m hm=>?_⟩;have:=hno (ms[m]'(by omega)) (List.mem_take_iff_getElem.2 ⟨m,by omega,rfl⟩);rw [this];rfl
   |false=>
    rw [hb] at hc;(repeat' (refine wQ ?_<;>try simp only [Ap hlt,hfr,go_sem]));refine AI.mk rfl hc ?_;rintro _ τ2 ⟨rfl,hj2⟩;simp only [go_sem];(repeat' (refine wQ ?_<;>try simp only [hw1,go_sem]));refine ih ⟨p+1,τ2⟩ ⟨hlt,fun x Z=>?_,hj2⟩ (by simp only;omega);rw [A5 hf] at Z;rcases AZ.1 Z with Z|Z
    . exact hno x Z
    . simp only [A3] at Z;subst Z;exact hfd _ hb
 . have hpe:p=ms.length:=by omega
   subst hpe;rw [BQ] at hno;(repeat' (refine wQ ?_<;>try simp only [B7 hlt,go_sem]));refine Run.JP [1,2,3,5,7,9,10,40,41,42] ?_;have:=hk τ1 (QO.2 fun f hf=>by rw [hno f hf];simp) hj;simp only [go_sem];exact this
def AKY {α:Type} (r:α->List AV) (s:Nat) (hr:∀x,(r x).length=s) (y:α):∀ {l:List α} {i:Nat},i < l.length->(rwC r l).take (i * s)++r y++(rwC r l).drop (i * s+s)=rwC r (l.set i y)
 |x::l,0,h=>by
  rw [KY,Gy,Gy,Nb,BF,C0,Ag];congr 1;exact List.drop_left' (hr x)
 |x::l,i+1,h=>by
  have:=AKY r s hr y (l:=l) (i:=i) (by simpa using h);rw [CR,Gy,Gy,<- this,show (i+1) * s=(r x).length+i * s from by rw [hr,Bs];omega,bI,show (r x).length+i * s+s=(r x).length+(i * s+s) from by omega,HD];simp
def ntR (l:List Nt):AV:= .d (.sl (l.map If))
def ntC (nts:List (List Nt)):List AV:=nts.map ntR
def AVN {nts:List (List Nt)} {f:Nat} (h:f < nts.length) (y:List Nt):(ntC nts).take f++[ntR y]++(ntC nts).drop (f+1)=ntC (nts.set f y):=by
 induction nts generalizing f with
 |nil=>cases h
 |cons x l ih=>
  cases f with
  |zero=>simp [ntC]
  |succ f=>
   have:=ih (f:=f) (by simpa using h);simp only [ntC,AF,C7,Ez,CR,AX] at this ⊢;rw [this]
def exR (ext:Nat->Option (List AV)) (js jn:Nat) (r:Db) (k:Nat):Option (List AV):=if k=js then some (V9 r.1) else if k=jn then some (ntC r.2) else ext k
def ADD {ext:Nat->Option (List AV)} (h:exR ext js jn r k=none):k≠js/\k≠jn/\ext k=none:=by
 unfold exR at h;by_cases e1:k=js
 . rw [if_pos e1] at h;cases h
 . by_cases e2:k=jn
   . rw [if_neg e1,if_pos e2] at h;cases h
   . rw [if_neg e1,if_neg e2] at h;exact ⟨e1,e2,h⟩
def AAC {ext:Nat->Option (List AV)} (r:Db) (h1:k≠js) (h2:k≠jn) (h:ext k=none):exR ext js jn r k=none:=by
 unfold exR;rw [if_neg h1,if_neg h2];exact h
def TX.exs {B:GB} {ext:Nat->Option (List AV)} {l:List Nd} {fl:Bool} {j:Nat} {r':Db} {τ:AH} (h:TX B (exR ext js jn r) l fl j τ) (hl:l≠[]) (hne:js≠jn):TX B (exR ext js jn r') l fl j ((τ.AL js (V9 r'.1)).AL jn (ntC r'.2)):=by
 obtain ⟨hi1,hi2,hi3⟩:=ADD h.xi;obtain ⟨hj1,hj2,hj3⟩:=ADD h.xj;have hi:=And.intro hi1 hi2;have hj:=And.intro hj1 hj2;obtain ⟨hji,c,hc,hb⟩:=h.sn.nd hl;refine ⟨⟨?_,h.sn.Gs,fun _=>⟨hji,c,hc,?_⟩⟩,fun k cs hk=>?_,?_,?_⟩
 . rw [AJ,if_neg hi.2,AJ,if_neg hi.1];exact h.sn.blk
 . rw [AJ,if_neg hj.2,AJ,if_neg hj.1];exact hb
 . unfold exR at hk;rw [AJ,AJ];split at hk
   . rename_i e;subst e;rw [if_neg hne,if_pos rfl];exact hk
   . rename_i e1;split at hk
     . rename_i e;subst e;rw [if_pos rfl];exact hk
     . rename_i e2;rw [if_neg e2,if_neg e1];refine h.x k cs ?_;unfold exR;rw [if_neg e1,if_neg e2];exact hk
 . exact AAC r' hi1 hi2 hi3
 . exact AAC r' hj1 hj2 hj3
def ADR (B:GB) (ext0:Nat->Option (List AV)) (ms:List Nat) (hS:MS B ext0 ms) (c0:Nat) (es:List AV) (st:IG) (ext:Nat->Option (List AV)) (js jn:Nat) (hne:js≠jn) (hM:∀r,MF B ms es st (exR ext js jn r)) (d:Nat->Nat) (hd:FR st.s.1 d) (hl0:st.s.1≠[]) (hln:st.s.1.length<=900000000)
 (hno:ms.find? (fun f=>cC st.s.1 (B.G.ps.getD f []) (B.G.rs.getD f 0) (st.en.getD f []))=none) (hpl:∀q∈B.G.ps,q.length<=6)
 (Q:AV->AH->Prop) (k:List CI) (ds fs:DV) (a5 a40 a41 a42:DV) (r0:Db) (hr1:r0.1.length=B.G.fs.length) (hr2:r0.2.length=B.G.fs.length) (τ0 τ:AH) (j:Nat) (hnb:(nbH τ0).le τ) (Z:TX (B.w ext c0 es) (exR ext js jn r0) st.s.1 st.s.2 j τ)
 (hk:∀τ' j',(nbH τ0).le τ'->TX (B.w ext c0 es) (exR ext js jn (ms.foldl (Hu B.G st.s.1 st.en) r0)) st.s.1 st.s.2 j' τ'->
   Run Bc Q k (put 1 (.lp 1 0) (put 2 (.lp 2 0) (put 3 (.lp 3 0) (put 5 (.d a5) (put 7 (.lp 7 0) (put 40 (.d a40) (put 41 (.d a41) (put 42 (.d a42) U)))))))) (LI ds fs js jn B.G.fs.length) τ'):
 Run Bc Q (.code (.loop Kk)::.blk 6::k) (put 1 (.lp 1 0) (put 2 (.lp 2 0) (put 3 (.lp 3 0) (put 5 (.d a5) (put 7 (.lp 7 0) (put 10 (.gp B.i 0) (put 40 (.d a40) (put 41 (.d a41) (put 42 (.d a42) (put 97 (.d (.sl (ms.map CN))) (put 98 (.d (.int .i64 ms.length)) (put 99 (.d (.int .i64 0)) U)))))))))))) (LI ds fs js jn B.G.fs.length) τ:=by
 have hml:ms.length<=100:=Af (Y1 hS.nd hS.lt) hS.lf
 have hlenF:∀(fs:List Nat) (r:Db),(fs.foldl (Hu B.G st.s.1 st.en) r).1.length=r.1.length/\(fs.foldl (Hu B.G st.s.1 st.en) r).2.length=r.2.length:=by
  intro fs
  induction fs with
  |nil=>intro r;exact ⟨rfl,rfl⟩
  |cons f fs ih=>intro r;rw [Au];have:=ih (Hu B.G st.s.1 st.en r f);simp only [Hu,Kb] at this ⊢;exact this
 refine Run.BB ?_
 refine Run.BE ((fun (a1:AV) (a2:AV) (a3:AV) (a5:AV) (a7:AV) (a10:AV) (a40:AV) (a41:AV) (a42:AV) (a97:AV) (a98:AV)=>fun (z:Nat×AH)=>put 1 a1 (put 2 a2 (put 3 a3 (put 5 a5 (put 7 a7 (put 10 a10 (put 40 a40 (put 41 a41 (put 42 a42 (put 97 a97 (put 98 a98 (put 99 (.d (.int .i64 z.1)) U)))))))))))) _ _ _ _ _ _ _ _ _ _ _) (fun _=>LI ds fs js jn B.G.fs.length) (fun z=>z.2)
  (fun z=>z.1<=ms.length/\(nbH τ0).le z.2/\∃j',TX (B.w ext c0 es) (exR ext js jn ((ms.take z.1).foldl (Hu B.G st.s.1 st.en) r0)) st.s.1 st.s.2 j' z.2)
  (fun z=>ms.length - z.1) ?_ (0,τ) ⟨by simp,hnb,j,by simpa using Z⟩
 clear hnb Z;rintro ⟨p,τ1⟩ ⟨hp,hnb,j1,Z⟩ ih;simp only at hp hnb Z;by_cases hlt:p < ms.length
 . obtain ⟨f,hf⟩:=Ai hlt;have hfr:=HT hf;have hfm:=AD hf;have hfl:=hS.lt f hfm;have hw1:=wsu p
   have hst:(ms.take (p+1)).foldl (Hu B.G st.s.1 st.en) r0=Hu B.G st.s.1 st.en ((ms.take p).foldl (Hu B.G st.s.1 st.en) r0) f:=by
    rw [A5 hf,Ch];rfl
   obtain ⟨hl1,hl2⟩:=hlenF (ms.take p) r0;generalize (ms.take p).foldl (Hu B.G st.s.1 st.en) r0=r at *;obtain ⟨q,hq,hql⟩:=hS.cell f hfm;obtain ⟨w,hw⟩:=Ai (show f < B.G.rs.length by rw [hS.lr];exact hfl);have hgq:B.G.ps.getD f []=q:=by simp [hq]
   have hgr:B.G.rs.getD f 0=w:=by simp [hw]
   have hM:=hM r;obtain ⟨jc,hc1,hc2⟩:=hM.cell f hfm;obtain ⟨hgi,hel,hea⟩:=hM.gi f hfm;have hex:=QO.1 hno f hfm;rw [hgq,hgr] at hex;obtain ⟨z1,z2,z3⟩:=AJ4 (by simpa using hex);have hRF:RF (B.w ext c0 es) (exR ext js jn r) st.s.1 f jc es q w (st.en.getD f []):=⟨hM.xm,hM.xp,hM.xr,hM.xe,rfl,hc2,hq,hw,hc1,by omega,fun q hq=>⟨by have:=hpl q hq;omega,hgi.ps q hq⟩,hgi.rs,hS.lm,hS.lp,hS.lr,hgi.en,z1,z2,z3,fun x Z=>by have:=hea x Z;omega⟩;have hc:=AOD (B.w ext c0 es) (exR ext js jn r) st.s.1 d hd st.s.2 j1 τ1 f jc es q w (st.en.getD f []) hRF Z hl0 hln;rw [ASM] at hc;(repeat' (first|refine ctQ rfl ?_|((first|refine rgQ mxQ ?_|refine cdQ ?_)<;>try simp only [Ap hlt,hfr,go_sem])|fail))
   have hres:Hu B.G st.s.1 st.en r f=(r.1.set f (N0 st.s.1 (Cg (Co st.s.1 q w)) q w (Co st.s.1 q w).length),r.2.set f ((st.en.getD f []).map (R5 B.G st.s.1 (Cg (Co st.s.1 q w))))):=by
    rw [<- hgq,<- hgr];rfl
   rw [hres] at hst;have hg1:(B.w ext c0 es).G=B.G:=rfl;rw [hg1] at hc;have hset1:=AKY Sch.row 5 Sch.F6 (N0 st.s.1 (Cg (Co st.s.1 q w)) q w (Co st.s.1 q w).length) (show f < r.1.length by omega);have hset2:=AVN (show f < r.2.length by omega) ((st.en.getD f []).map (R5 B.G st.s.1 (Cg (Co st.s.1 q w))));have hexs:=fun j2 τ2 (hx2:TX (B.w ext c0 es) (exR ext js jn r) st.s.1 st.s.2 j2 τ2)=>hx2.exs (r':=(r.1.set f (N0 st.s.1 (Cg (Co st.s.1 q w)) q w (Co st.s.1 q w).length),r.2.set f ((st.en.getD f []).map (R5 B.G st.s.1 (Cg (Co st.s.1 q w)))))) hl0 hne;generalize N0 st.s.1 (Cg (Co st.s.1 q w)) q w (Co st.s.1 q w).length=sc at *;generalize (st.en.getD f []).map (R5 B.G st.s.1 (Cg (Co st.s.1 q w)))=nt at *;simp only [Sch.row] at hc hset1;simp only [ntR] at hset2;have hfT:=ltT hfl;have hle5:(f * 5+5<=(V9 r.1).length)=True:=by rw [Oz Sch.row 5 Sch.F6];simp;omega
   have hle1:(f+1<=(ntC r.2).length)=True:=by simp [ntC];omega
   have hne1:(jn=js)=False:=by simp;exact A6 hne
   have hne2:(js=jn)=False:=by simp;exact hne
   refine Run.IX mixed ?_;simp only [go_sem]
   (repeat' (first
     |(refine AI.mk rfl hc ?_
       rintro _ τ2 ⟨rfl,hnb2,j2,hx2⟩;have b1:τ2.blk js=some (V9 r.1):=hx2.x js _ (by simp [exR]);have b2:τ2.blk jn=some (ntC r.2):=hx2.x jn _ (by simp [exR,A6 hne]);have hxx:=hexs j2 τ2 hx2;have hnb3:=D3 hnb hnb2;simp only [b1,b2,hfT,hle5,hle1,hset1,hset2,hne1,A9,go_sem];(repeat' (refine wQ ?_<;>try simp only [hw1,go_sem]));exact ih ⟨p+1,_⟩ ⟨hlt,⟨fun _ _ h=>(by cases h),hnb3.tok,hnb3.gt,hnb3.bt⟩,j2,by simp only [hst];exact hxx⟩ (by simp only;omega))
     |refine And.intro ?_ ?_))
 . have hpe:p=ms.length:=by omega
   subst hpe;rw [BQ] at Z;(repeat' (refine wQ ?_<;>try simp only [B7 hlt,go_sem]));refine Run.JP [1,2,3,5,7,40,41,42] ?_;have:=hk τ1 j1 hnb Z;simp only [go_sem];exact this
structure PF (fs:List FE) (dt:List Dat):Prop where
 lf:fs.length<=24
 pr:∀f∈fs,f.params.length<=6
 sz:Va fs<=200
 ok:∀(f:Nat) (fe:FE),fs[f]?=some fe->(∀x∈Ca fe.body fe.params,QF fs dt x.1 x.2=0/\nb1 x.1)/\fe.body.size<=600
 dt1:∀d∈dt,0<=d.vars/\d.vars<=1000/\d.cons.length<=1000000/\∀c∈d.cons,LM d.vars.toNat c.args=true/\Ty.AQ c.args<=100000
 dt2:∀d∈dt,∀c∈d.cons,Ty.shs dt c.args
structure HI (dt:List Dat) (σ0 τ:AH) (n js jn:Nat) (r:Db):Prop where
 mo:Mo σ0 τ
 j1:σ0.blk js=none
 j2:σ0.blk jn=none
 ne:js≠jn
 b1:τ.blk js=some (V9 r.1)
 b2:τ.blk jn=some (ntC r.2)
 l1:r.1.length=n
 l2:r.2.length=n
 so:∀s∈r.1,AB8 dt s
def Mo.le {Y τ:AH} (h:Mo Y τ):Y.le τ:=⟨h.blk,h.nb.tok,h.nb.gt,h.nb.bt⟩
def exN (i je j:Nat) (τ:AH) (k:Nat):Option (List AV):=if k=i\/k=je\/k=j then none else τ.blk k
def eY {i j:Nat} {τ:AH} {c:List AV} (h:τ.blk k=some c) (h1:k≠i) (h2:k≠je) (h3:k≠j):exN i je j τ k=some c:=by
 unfold exN;rw [if_neg (by rintro (e|e|e)<;>contradiction)];exact h
def gB (fs:List FE) (ds:List DE) (dt:List Dat) (r:Db) (ms:List Nat) (i je jm jp jr js:Nat):GB:=⟨i,je,jm,jp,jr,js,fun _=>none,gcP fs dt r.1 ms,ds,0,AG fs.length .Ad⟩
def ARR {fs:List FE} {ds:List DE} {dt:List Dat} {ms:List Nat} {i jm jp j:Nat} {σ0 τ τ1:AH} (hF:PF fs dt) (hH:HI dt σ0 τ fs.length js jn r) (hm:∀f∈ms,f < fs.length) (hnd:ms.Nodup) (hne:ms≠[])
 (h:NGI τ τ1 fs.length (.sl (ds.map DE.enc)) (.sl (fs.map FE.enc)) (dsA dt) (.ms js fs.length 5 eSs) i jm jp jr je j (ngP fs ms)):
 MS (gB fs ds dt r ms i je jm jp jr js) (exN i je j (τ1.AL jp (psC (pgl (ngP fs ms).ps)))) ms/\MI (gB fs ds dt r ms i je jm jp jr js) (exN i je j (τ1.AL jp (psC (pgl (ngP fs ms).ps)))) σ0 (τ1.AL jp (psC (pgl (ngP fs ms).ps))) [] 0 (AG fs.length .Ad) (exN i je j (τ1.AL jp (psC (pgl (ngP fs ms).ps)))) j (ig0 fs ms)/\
  (∀k c,τ.blk k=some c->exN i je j (τ1.AL jp (psC (pgl (ngP fs ms).ps))) k=some c)/\(ig0 fs ms).s.1≠[]:=by
 have hN:=AY1 hF.pr hm
 have hl0:(ngP fs ms).l≠[]:=fun e=>by
  have:=hN.lo;rw [e] at this;cases ms with
  |nil=>exact hne rfl
  |cons _ _=>simp at this
 obtain ⟨f1,f2,f3,f4,f5⟩:=h.fr;obtain ⟨d1,d2,d3,d4,d5,d6,d7,d8,d9,d10⟩:=h.nd;obtain ⟨x1,x2,x3,x4,x5⟩:=h.jx hl0;have hji:=(h.sn.nd hl0).1;obtain ⟨c0,hc0,hbj⟩:=(h.sn.nd hl0).2;have hps:(pgl (ngP fs ms).ps).length=fs.length:=by simp [pgl,hN.len.2.1]
 have hold:∀k c,τ.blk k=some c->exN i je j (τ1.AL jp (psC (pgl (ngP fs ms).ps))) k=some c:=fun k c hk=>by
  have h1:=h.mo.blk k c hk;refine eY ?_ (fun e=>by rw [e,f1] at hk;cases hk) (fun e=>by rw [e,f5] at hk;cases hk) (fun e=>by rw [e,x1] at hk;cases hk);rw [AJ,if_neg (fun e=>by rw [e,f3] at hk;cases hk)];exact h1
 have hpsl:∀q∈pgl (ngP fs ms).ps,q.length<=6/\∀a∈q,a < (ngP fs ms).l.length:=fun q hq=>by
  obtain ⟨o,ho,rfl⟩:=B8.1 hq;cases o with
  |none=>exact ⟨by simp,fun a ha=>by simp at ha⟩
  |some q=>exact hN.ps q ho
 have hpos:0 < (ngP fs ms).l.length:=Iu.2 hl0;have e1:exN i je j (τ1.AL jp (psC (pgl (ngP fs ms).ps))) jm=some (BP (ngP fs ms).mem):=eY (by rw [AJ,if_neg d5];exact h.bm) (A6 d1) d7 x2;have e2:exN i je j (τ1.AL jp (psC (pgl (ngP fs ms).ps))) jp=some (psC (pgl (ngP fs ms).ps)):=eY BT (A6 d2) d9 x3;have e3:exN i je j (τ1.AL jp (psC (pgl (ngP fs ms).ps))) jr=some (Ct (ngP fs ms).rs):=eY (by rw [AJ,if_neg (A6 d8)];exact h.br) (A6 d3) d10 x4;refine ⟨⟨d4,e1,e2,e3,hold _ _ hH.b1,hN.len.1,hps,hN.len.2.2,hH.l1,by have:=hF.lf;show fs.length<=100;omega,?_,?_,?_,?_,hm,hnd,hF.sz⟩,⟨⟨?_,h.sn.Gs,fun _=>⟨hji,c0,hc0,?_⟩⟩,?_,fun k cs hk=>?_,⟨?_,A6 x5⟩,?_,?_,fun k cs hk=>hk,?_,by simp [gB,gcP],fun f hf=>by simp at hf,fun f hf _=>?_,by simp [ig0,gB,gcP],fun f hf=>by simp at hf,fun f hf=>by simp at hf,?_,?_,hN.nv dt⟩,hold,hl0⟩
 . exact ⟨hF.dt1,fun s hs=>(hH.so s hs).1,fun l hl=>by have:=(hpsl l hl).1;omega⟩
 . exact ⟨fun D hD=>(hF.dt1 D hD).1,hF.dt2,fun s hs=>(hH.so s hs).2,fun l hl=>(hpsl l hl).1⟩
 . exact fun f fe hfe=>hF.ok f fe hfe
 . intro f hf;obtain ⟨q,hq,hl⟩:=hN.cell f hf;exact ⟨q,by simp [gB,gcP,pgl,hq],hl⟩
 . have:=h.sn.blk;rw [AJ];show (if i=jp then _ else τ1.blk i)=_;rw [if_neg d2,this];simp only [GB.rest,GB.w,gB,gcP,ig0,hN.len.1,hN.len.2.2,hps,hH.l1,Vs];rfl
 . rw [AJ,if_neg (A6 x3)];exact hbj
 . rw [AJ];show (if je=jp then _ else _)=_;rw [if_neg (A6 d9)];exact h.be
 . unfold exN at hk;split at hk
   . cases hk
   . exact hk
 . unfold exN;rw [if_pos (.inr (.inr rfl))]
 . unfold exN;exact if_pos (.inl rfl)
 . unfold exN;exact if_pos (.inr (.inl rfl))
 . exact D3 hH.mo.nb (D3 h.mo.nb ⟨fun _ _ h=>(by cases h),fun _ h=>h,rfl,fun _ _ h=>h⟩)
 . simp only [gB,gcP] at hf;simp [hf]
 . refine ⟨hpos,fun x Z=>by simp at Z,fun l hl a ha=>(hpsl l hl).2 a ha,fun a ha=>?_⟩;rcases hN.rs a ha with e|e
   . rw [e];exact hpos
   . exact e
 . have:=hN.hi;have:=Y1 hnd hm;have:=hF.lf;simp only [ig0];omega
def bJ (fs:List FE) (dt:List Dat) (r:Db) (f:Nat):Prop:=∃(l:List Nd) (d:Nat->Nat) (G:GC) (en:List En) (pl:List Nat) (rf:Nat),ER l/\FR l d/\NV dt l/\r.1[f]?=some (N0 l (Cg (Co l pl rf)) pl rf (Co l pl rf).length)/\r.2[f]?=some (en.map (R5 G l (Cg (Co l pl rf))))/\
 (∀a∈pl,a < l.length/\szN l a<=200)/\(rf < l.length/\szN l rf<=200)/\(∀x∈en,(x.t < l.length/\szN l x.t<=200)/\∀a∈sK G l x,a < l.length/\(szN l a<=200\/∃y,l[rtN l a]?=some y/\y.k=0))/\
 (∀fe,fs[f]?=some fe->pl.length=fe.params.length/\en.length=fe.body.size)/\∀x∈en,(sK G l x).length<=900000000
def ABD (G:GC) (l:List Nd) (en:List (List En)):∀(ms:List Nat) (r:Db) (f:Nat),ms.Nodup->(f ∉ ms->(ms.foldl (Hu G l en) r).1[f]?=r.1[f]?/\(ms.foldl (Hu G l en) r).2[f]?=r.2[f]?)/\
 (f∈ms->f < r.1.length->f < r.2.length->(ms.foldl (Hu G l en) r).1[f]?=(Hu G l en r f).1[f]?/\(ms.foldl (Hu G l en) r).2[f]?=(Hu G l en r f).2[f]?)
 |[],r,f,_=>⟨fun _=>⟨rfl,rfl⟩,fun h=>by simp at h⟩
 |g::ms,r,f,hnd=>by
  rw [ZZ] at hnd;obtain ⟨i1,i2⟩:=ABD G l en ms (Hu G l en r g) f hnd.2;rw [Au]
  have hne:f≠g->(Hu G l en r g).1[f]?=r.1[f]?/\(Hu G l en r g).2[f]?=r.2[f]?:=fun e=>by
   simp only [Hu,BJ (A6 e),and_self]
  refine ⟨fun hf=>?_,fun hf h1 h2=>?_⟩
  . have e:f≠g:=fun e=>hf (by rw [e];exact AW);obtain ⟨a,b⟩:=i1 fun hm=>hf (AU _ hm);rw [a,b];exact hne e
  . by_cases e:f=g
    . subst e;exact i1 hnd.1
    . have hm:f∈ms:=(Az.1 hf).resolve_left e;obtain ⟨a,b⟩:=i2 hm (by simp [Hu];exact h1) (by simp [Hu];exact h2);rw [a,b];simp only [Hu];refine ⟨?_,?_⟩
      . rw [BK (by simpa using h1),BK h1]
      . rw [BK (by simpa using h2),BK h2]
def tC (G:GC) (l:List Nd) (en:List (List En)):∀(ms:List Nat) (r:Db),(ms.foldl (Hu G l en) r).1.length=r.1.length/\(ms.foldl (Hu G l en) r).2.length=r.2.length
 |[],r=>⟨rfl,rfl⟩
 |f::ms,r=>by rw [Au];have:=tC G l en ms (Hu G l en r f);simp only [Hu,Kb] at this ⊢;exact this
def AEN (G:GC) (l:List Nd) (en:List (List En)) (P:Sch->Prop):∀(ms:List Nat) (r:Db),(∀s∈r.1,P s)->(∀f∈ms,P (N0 l (Cg (Co l (G.ps.getD f []) (G.rs.getD f 0))) (G.ps.getD f []) (G.rs.getD f 0) (Co l (G.ps.getD f []) (G.rs.getD f 0)).length))->∀s∈(ms.foldl (Hu G l en) r).1,P s
 |[],r,h,_=>h
 |f::ms,r,h,hm=>by
  rw [Au];refine AEN G l en P ms _ (fun s hs=>?_) fun g hg=>hm g (AU _ hg);simp only [Hu] at hs;rcases iA hs with hs|hs
  . exact h s hs
  . rw [hs];exact hm f (AW)
def AQV {fs:List FE} {ds:List DE} {dt:List Dat} {ms:List Nat} {i jm jp c0 j:Nat} {σ0 τ:AH} {ext0 ext:Nat->Option (List AV)} {es:List AV} {st:IG} {d:Nat->Nat} (hF:PF fs dt)
 (hS:MS (gB fs ds dt r ms i je jm jp jr js) ext0 ms) (hI:MI (gB fs ds dt r ms i je jm jp jr js) ext0 σ0 τ ms c0 es ext j st) (hd:FR st.s.1 d)
 (hno:ms.find? (fun f=>cC st.s.1 ((gcP fs dt r.1 ms).ps.getD f []) ((gcP fs dt r.1 ms).rs.getD f 0) (st.en.getD f []))=none) (h1:r.1.length=fs.length) (h2:r.2.length=fs.length) (hso:∀s∈r.1,AB8 dt s) (hln:st.s.1.length<=900000000):
 (∀s∈(ms.foldl (Hu (gcP fs dt r.1 ms) st.s.1 st.en) r).1,AB8 dt s)/\∀f∈ms,bJ fs dt (ms.foldl (Hu (gcP fs dt r.1 ms) st.s.1 st.en) r) f:=by
 have hg:=hI.sn.Gs
 have hmem:∀f∈ms,∃q w fe,(gcP fs dt r.1 ms).ps[f]?=some q/\(gcP fs dt r.1 ms).rs[f]?=some w/\(gcP fs dt r.1 ms).ps.getD f []=q/\(gcP fs dt r.1 ms).rs.getD f 0=w/\fs[f]?=some fe/\q.length=fe.params.length/\q.length<=6/\(∀a∈q,a < st.s.1.length/\szN st.s.1 a<=200)/\(w < st.s.1.length/\szN st.s.1 w<=200)/\
  (∀x∈st.en.getD f [],szN st.s.1 x.t<=200/\∀a∈x.ar,szN st.s.1 a<=200):=fun f hf=>by
  have hfl:f < fs.length:=hS.lt f hf;obtain ⟨q,hq,hql⟩:=hS.cell f hf;obtain ⟨w,hw⟩:=Ai (show f < (gcP fs dt r.1 ms).rs.length by have:=hS.lr;simp only [gB] at this;rw [this];exact hfl);obtain ⟨fe,hfe⟩:=Ai hfl;have hex:=QO.1 hno f hf
  have hgq:(gcP fs dt r.1 ms).ps.getD f []=q:=by
   have hq:(gcP fs dt r.1 ms).ps[f]?=some q:=hq;simp [hq]
  have hgw:(gcP fs dt r.1 ms).rs.getD f 0=w:=by simp [hw]
  rw [hgq,hgw] at hex;obtain ⟨z1,z2,z3⟩:=AJ4 (by simpa using hex);have hgi:=(hI.gi f hf).1;refine ⟨q,w,fe,hq,hw,hgq,hgw,hfe,?_,hS.gv.ps q (AD hq),fun a ha=>⟨hgi.ps q (AD hq) a ha,z1 a ha⟩,⟨hgi.rs w (AD hw),z2⟩,z3⟩;rw [hql];show gE fs f=_;simp [gE,hfe]
 refine ⟨AEN _ _ _ _ ms r hso fun f hf=>?_,fun f hf=>?_⟩
 . obtain ⟨q,w,fe,hq,hw,e1,e2,hfe,hl,hl6,hp,hr,Z⟩:=hmem f hf;rw [e1,e2];exact AV8 hg hd hI.nv (fun a ha=>(hp a ha).1) hr.1 hl6 ⟨fun a ha=>(hp a ha).2,hr.2⟩
 . obtain ⟨q,w,fe,hq,hw,e1,e2,hfe,hl,hl6,hp,hr,Z⟩:=hmem f hf;have hfl:f < fs.length:=hS.lt f hf;obtain ⟨a,b⟩:=(ABD (gcP fs dt r.1 ms) st.s.1 st.en ms r f hS.nd).2 hf (by omega) (by omega);have hgi:=(hI.gi f hf).1
   have hts:∀x:En,∀b∈(gcP fs dt r.1 ms).ps.getD x.f.toNat []++[(gcP fs dt r.1 ms).rs.getD x.f.toNat 0],b < st.s.1.length:=fun x b hb=>by
    generalize x.f.toNat=m at hb;rcases AZ.1 hb with hb|hb
    . cases hp:(gcP fs dt r.1 ms).ps[m]? with
      |none=>simp [hp] at hb
      |some q=>simp only [A2,hp,BA] at hb;exact hgi.ps q (AD hp) b hb
    . simp only [A3] at hb;subst hb;cases hr:(gcP fs dt r.1 ms).rs[m]? with
      |none=>simp only [A2,hr,Option.getD_none];exact hgi.pos
      |some q=>simp only [A2,hr,BA];exact hgi.rs q (AD hr)
   refine ⟨st.s.1,d,gcP fs dt r.1 ms,st.en.getD f [],q,w,hg,hd,hI.nv,?_,?_,hp,hr,fun x hxm=>⟨⟨(hgi.en x hxm).1,(Z x hxm).1⟩,fun a ha=>?_⟩,fun fe' hfe'=>?_,fun x hxm=>?_⟩
   . rw [a];simp only [Hu,e1,e2];exact BK (by omega)
   . rw [b];simp only [Hu,e1,e2];exact BK (by omega)
   . unfold sK at ha;split at ha
     . obtain ⟨y,hy,hyp,hyk⟩:=(gY hg (hts x)).2.2 a ha;exact ⟨(AE.1 hy).1,.inr ⟨y,by rw [LG hy,hyp];exact hy,hyk⟩⟩
     . exact ⟨(hgi.en x hxm).2.2.2 a ha,.inl ((Z x hxm).2 a ha)⟩
   . rw [hfe] at hfe';cases hfe';exact ⟨hl,hI.sz f hf fe hfe⟩
   . unfold sK;split
     . exact Af (gY hg (hts x)).2.1 hln
     . exact Af ((hI.gi f hf).2.2 x hxm) (by omega)
mutual
def ARX:Nat->Ty->Option Nat
 |next,.mk k n us=>if k=4 then (if n < 0\/n>(next:Int) then none else aY (max next (n.toNat+1)) us) else aY next us
def aY:Nat->List Ty->Option Nat
 |next,[]=>some next
 |next,t::ts=>match ARX next t with
  |none=>none
  |some m=>aY m ts
end
def AKN {v:Nat}:∀ {vs:List Nat} {i k:Nat},vs.Nodup->vs[i]?=some v->(oF vs k).lookup (v:Int)=some ((k+i:Nat):Int)
 |u::vs,0,k,h,hi=>by
  simp only [Aw,AM] at hi;subst hi;rw [PN,List.lookup_cons];simp
 |u::vs,i+1,k,h,hi=>by
  rw [ZZ] at h;have hi:vs[i]?=some v:=by simpa using hi
  have hne:((v:Int)==(u:Int))=false:=by
   have:v≠u:=fun e=>h.1 (by rw [<- e];exact AD hi);rw [beq_eq_false_iff_ne];omega
  rw [PN,List.lookup_cons,hne];simp only;rw [AKN h.2 hi,show k+1+i=k+(i+1) from by omega]
def AKM {i:Nat} (h:vs.Nodup) (hi:vs[i]?=some v):(Cg vs).lookup (v:Int)=some (i:Int):=by
 rw [Cg,AKN h hi,BF]
def AZA {l:List Nd} {d:Nat->Nat} (hg:ER l) (h:FR l d) {dt:List Dat} (hnv:NV dt l) (hnd:vs.Nodup):∀(N n:Nat) (acc tl:List Nat),n < l.length->d (rtN l n)<=N->vs=IU acc (lvN l n)++tl->ARX acc.length (rdN l (Cg vs) n)=some (IU acc (lvN l n)).length:=by
 intro N
 induction N using Cc with
 |_ N ih=>
 intro n acc tl hn hd hv;obtain ⟨x,Z,hp⟩:=hg.root hn;have hsx:=hnv x (AD Z);rw [dK hg h Z hp];have hlv:=AH6 hg h Z hp;by_cases hk:x.k=0
 . rw [if_pos hk]
   have hx0:x.ar=[]:=by
    rcases hsx with h|h|h|h|h
    . exact An h.2.2
    all_goals omega
   rw [hx0,if_pos hk] at hlv;simp only [List.flatMap_nil,Bu] at hlv;rw [hlv] at hv ⊢;have hone:∀a:List Nat,IU a [rtN l n]=if rtN l n∈a then a else a++[rtN l n]:=fun a=>rfl
   by_cases hm:rtN l n∈acc
   . rw [hone,if_pos hm] at hv ⊢;obtain ⟨i,hi⟩:=Hv hm;have hil:=(AE.1 hi).1;have hvi:vs[i]?=some (rtN l n):=by rw [hv];exact rJ hi tl
     rw [AKM hnd hvi];simp only;rw [ARX,if_pos rfl,if_neg (by omega),aY];congr 1;omega
   . rw [hone,if_neg hm] at hv ⊢;have hvi:vs[acc.length]?=some (rtN l n):=by rw [hv,Aq,As (AS _)];simp
     rw [AKM hnd hvi];simp only;rw [ARX,if_pos rfl,if_neg (by omega),aY];congr 1;simp only [AY,Bm];omega
 . rw [if_neg hk];have hk4:x.k≠4:=by rcases hsx with h|h|h|h|h<;>omega
   rw [if_neg hk,Ag] at hlv;rw [ARX,if_neg hk4];rw [hlv] at hv ⊢
   have hus:∀(us:List Nat) (acc tl:List Nat),(∀a∈us,a∈x.ar)->vs=IU acc (us.flatMap (lvN l))++tl->aY acc.length (us.map (rdN l (Cg vs)))=some (IU acc (us.flatMap (lvN l))).length:=by
    intro us
    induction us with
    |nil=>intro acc tl _ _;rfl
    |cons a us ih2=>
     intro acc tl ha hv;rw [DJ,XL] at hv ⊢;obtain ⟨t2,ht2⟩:=pQ (us.flatMap (lvN l)) (IU acc (lvN l a));have hda:=h.lt _ x Z hp a (ha a (AW));have h1:=ih (d (rtN l a)) (by omega) a acc (t2++tl) (hg.ar _ x Z a (ha a (AW))) (AS _) (by rw [hv,ht2,Aq]);rw [AF,aY,h1];exact ih2 _ tl (fun b hb=>ha b (AU _ hb)) hv
   exact hus x.ar acc tl (fun a ha=>ha) hv
def AKV {l:List Nd} {d:Nat->Nat} (hg:ER l) (h:FR l d) {dt:List Dat} (hnv:NV dt l) {vs:List Nat} (hnd:vs.Nodup):∀(us:List Nat) (acc tl:List Nat),(∀a∈us,a < l.length)->vs=IU acc (us.flatMap (lvN l))++tl->aY acc.length (us.map (rdN l (Cg vs)))=some (IU acc (us.flatMap (lvN l))).length
 |[],acc,tl,_,_=>rfl
 |a::us,acc,tl,ha,hv=>by
  rw [DJ,XL] at hv ⊢;obtain ⟨t2,ht2⟩:=pQ (us.flatMap (lvN l)) (IU acc (lvN l a));have h1:=AZA hg h hnv hnd (d (rtN l a)) a acc (t2++tl) (ha a (AW)) (AS _) (by rw [hv,ht2,Aq]);rw [AF,aY,h1];exact AKV hg h hnv hnd us _ tl (fun b hb=>ha b (AU _ hb)) hv
def AOI {dt:List Dat} {k n vars:Int} (h:shp dt k n m) (hk:k≠0):Cd dt vars k n m=true:=by
 unfold Cd;rcases h with ⟨h1,rfl,rfl⟩|⟨rfl,D,h1,h2,h3⟩|⟨rfl,rfl,h1,h2⟩|⟨h1,rfl,rfl⟩|⟨rfl,rfl,h1,h2⟩
 . rw [if_pos (by omega)];rfl
 . rw [if_neg (by omega),if_neg (by omega),if_pos rfl,h2];simp [h1,h3]
 . rw [if_neg (by omega),if_neg (by omega),if_neg (by omega),if_pos rfl];simp [h1,h2]
 . rw [if_neg (by omega),if_neg (by omega),if_neg (by omega),if_neg (by omega),if_pos h1];rfl
 . rw [if_neg (by omega),if_neg (by omega),if_neg (by omega),if_neg (by omega),if_neg (by omega),if_pos rfl];simp [h1,h2]
def s9 {l:List Nd} {d:Nat->Nat} (hg:ER l) (h:FR l d) {dt:List Dat} (hnv:NV dt l) (vs:List Nat):∀(N n:Nat),n < l.length->d (rtN l n)<=N->CH dt (vs.length:Int) (rdN l (Cg vs) n)=true:=by
 intro N
 induction N using Cc with
 |_ N ih=>
 intro n hn hd;obtain ⟨x,Z,hp⟩:=hg.root hn;have hsx:=hnv x (AD Z);rw [dK hg h Z hp];split
 . split
   . rename_i i hi;obtain ⟨k,rfl,v,hv,_⟩:=kP hi;have:=(AE.1 hv).1;rw [CH,Bo];unfold Cd;rw [if_neg (by omega),if_pos rfl];simp;omega
   . rw [CH,Bo];rfl
 . rename_i hk;rw [CH,AA,AOI hsx hk,Bk]
   have hus:∀us:List Nat,(∀a∈us,a∈x.ar)->Bo dt (vs.length:Int) (us.map (rdN l (Cg vs)))=true:=by
    intro us
    induction us with
    |nil=>intro _;rfl
    |cons a us ih2=>
     intro ha;have hda:=h.lt _ x Z hp a (ha a (AW));rw [AF,Bo,ih (d (rtN l a)) (by omega) a (hg.ar _ x Z a (ha a (AW))) (AS _),ih2 fun b hb=>ha b (AU _ hb)];rfl
   exact hus x.ar fun a ha=>ha
def AaE (dt:List Dat) (r:Db) (f:Nat):Prop:=∃s nt,r.1[f]?=some s/\r.2[f]?=some nt/\(∃m:Nat,s.vars=(m:Int)/\m<=100000/\aY 0 (s.params++[s.res])=some m)/\s.params.length<=100000/\
 (∀t∈s.params++[s.res],t.size<=200/\CH dt s.vars t=true)/\∀n∈nt,n.1.size<=200/\CH dt s.vars n.1=true
def bJ.gen {fs:List FE} {dt:List Dat} {f:Nat} (h:bJ fs dt r f) (hf:f < fs.length) (hp:∀fe∈fs,fe.params.length<=6):AaE dt r f:=by
 obtain ⟨l,d,G,en,pl,rf,hg,hd,hnv,h1,h2,hpl,hrf,hen,hln,_⟩:=h;obtain ⟨fe,hfe⟩:=Ai hf;have hpn:=(hln fe hfe).1;have hp6:=hp fe (AD hfe)
 have hts:∀a∈pl++[rf],a < l.length/\szN l a<=200:=fun a ha=>by
  rcases AZ.1 ha with ha|ha
  . exact hpl a ha
  . simp only [A3] at ha;subst ha;exact hrf
 have hvs:Co l pl rf=IU [] ((pl++[rf]).flatMap (lvN l)):=AK4 hg hd fun a ha=>(hts a ha).1;have hnd:(Co l pl rf).Nodup:=(gY hg fun a ha=>(hts a ha).1).1;have hlen:=uH hg hd (ts:=pl++[rf]) (fun a ha=>(hts a ha).1) (fun a ha=>(hts a ha).2);change (Co l pl rf).length<=_ at hlen;generalize Co l pl rf=vs at *
 have hty:∀a,a < l.length->szN l a<=200->(rdN l (Cg vs) a).size<=200/\CH dt (vs.length:Int) (rdN l (Cg vs) a)=true:=fun a h1 h2=>
  ⟨Af (s8 hg hd (d (rtN l a)) a h1 (AS _) h2) h2,s9 hg hd hnv vs (d (rtN l a)) a h1 (AS _)⟩
 have hmap:(N0 l (Cg vs) pl rf vs.length).params++[(N0 l (Cg vs) pl rf vs.length).res]=(pl++[rf]).map (rdN l (Cg vs)):=by simp [N0]
 refine ⟨_,_,h1,h2,⟨vs.length,rfl,by simp only [AY,Bm] at hlen;omega,?_⟩,by simp [N0];omega,fun t ht=>?_,fun n hn=>?_⟩
 . rw [hmap];have:=AKV hg hd hnv hnd (pl++[rf]) [] [] (fun a ha=>(hts a ha).1) (by rw [Bu];exact hvs);rw [<- hvs] at this;exact this
 . rw [hmap] at ht;obtain ⟨a,ha,rfl⟩:=B8.1 ht;exact hty a (hts a ha).1 (hts a ha).2
 . obtain ⟨x,Z,rfl⟩:=B8.1 hn;obtain ⟨⟨g1,g2⟩,_⟩:=hen x Z;exact hty x.t g1 g2
abbrev KV:=Int×List Ty
structure Bd where
 notes:List (Ty×List Ty)
 params:List Ty
 res:Ty
def Q7 (dt:List Dat) (t:Ty):Bool:=decide (t.size<=200)&&CH dt 0 t
def Xg (args:List Ty) (t:Ty):Bool:=decide ((t.subst args).size<=200)
def FY (args l:List Ty):Bool:=l.all (Xg args)
def e8 (args:List Ty) (n:Ty×List Ty):Bool:=Xg args n.1&&FY args n.2
def AJA (args:List Ty) (n:Ty×List Ty):Ty×List Ty:=(n.1.subst args,Ty.G3 args n.2)
def Nu (dt:List Dat) (r:Db) (x:KV):Option Bd:=
 if 0<=x.1/\x.1 < r.1.length then
  match r.1[x.1.toNat]?,r.2[x.1.toNat]? with
  |some s,some nt=>
   if (x.2.length:Int)=s.vars/\x.2.all (Q7 dt)=true/\FY x.2 s.params=true/\Xg x.2 s.res=true/\nt.all (e8 x.2)=true then
    some ⟨nt.map (AJA x.2),Ty.G3 x.2 s.params,s.res.subst x.2⟩ else none
  |_,_=>none
         else none
def zM (dt:List Dat) (r:Db) (fe:FE) (f:Nat):Prop:=∃s nt,r.1[f]?=some s/\r.2[f]?=some nt/\(∃m:Nat,s.vars=(m:Int)/\m<=100000)/\s.params.length=fe.params.length/\nt.length=fe.body.size/\
 (∀t∈s.params++[s.res],t.size<=200/\CH dt s.vars t=true)/\∀n∈nt,(n.1.size<=200/\CH dt s.vars n.1=true)/\(∀a∈n.2,a.size<=200/\CH dt s.vars a=true)/\n.2.length<=900000000
def bJ.sp {fs:List FE} {dt:List Dat} {f:Nat} (h:bJ fs dt r f) (hfe:fs[f]?=some fe) (hp6:fe.params.length<=6):zM dt r fe f:=by
 obtain ⟨l,d,G,en,pl,rf,hg,hd,hnv,h1,h2,hpl,hrf,hen,hln,hla⟩:=h;obtain ⟨hpn,hbn⟩:=hln fe hfe
 have hts:∀a∈pl++[rf],a < l.length/\szN l a<=200:=fun a ha=>by
  rcases AZ.1 ha with ha|ha
  . exact hpl a ha
  . simp only [A3] at ha;subst ha;exact hrf
 have hlen:=uH hg hd (ts:=pl++[rf]) (fun a ha=>(hts a ha).1) (fun a ha=>(hts a ha).2);change (Co l pl rf).length<=_ at hlen;generalize Co l pl rf=vs at *
 have hty:∀a,a < l.length->szN l a<=200->(rdN l (Cg vs) a).size<=200/\CH dt (vs.length:Int) (rdN l (Cg vs) a)=true:=fun a h1 h2=>
  ⟨Af (s8 hg hd (d (rtN l a)) a h1 (AS _) h2) h2,s9 hg hd hnv vs (d (rtN l a)) a h1 (AS _)⟩
 have hmap:(N0 l (Cg vs) pl rf vs.length).params++[(N0 l (Cg vs) pl rf vs.length).res]=(pl++[rf]).map (rdN l (Cg vs)):=by simp [N0]
 refine ⟨_,_,h1,h2,⟨vs.length,rfl,by simp only [AY,Bm] at hlen;omega⟩,by simp [N0,hpn],by rw [AA,hbn],fun t ht=>?_,fun n hn=>?_⟩
 . rw [hmap] at ht;obtain ⟨a,ha,rfl⟩:=B8.1 ht;exact hty a (hts a ha).1 (hts a ha).2
 . obtain ⟨x,Z,rfl⟩:=B8.1 hn;obtain ⟨⟨g1,g2⟩,hna⟩:=hen x Z;refine ⟨hty x.t g1 g2,fun a ha=>?_,by simp only [R5,AA];exact hla x Z⟩;obtain ⟨b,hb,rfl⟩:=B8.1 ha;obtain ⟨k1,k2⟩:=hna b hb;refine ⟨?_,s9 hg hd hnv vs (d (rtN l b)) b k1 (AS _)⟩;rcases k2 with k2|⟨y,hy,hy0⟩
   . exact (hty b k1 k2).1
   . obtain ⟨z,hz,hzp⟩:=hg.root k1;rw [hz] at hy;cases hy;rw [dK hg hd hz hzp,if_pos hy0];split<;>simp [Ty.size,Ty.AQ]
def rV {dt:List Dat} {x:KV} {b:Bd} (h:Nu dt r x=some b) (ho:zM dt r fe x.1.toNat):
 (0<=x.1/\x.1 < r.1.length)/\(∀t∈x.2,Q7 dt t=true)/\(∀t∈b.params,Q7 dt t=true)/\Q7 dt b.res=true/\∀n∈b.notes,Q7 dt n.1=true/\∀a∈n.2,Q7 dt a=true:=by
 obtain ⟨s,nt,h1,h2,⟨m,hm,_⟩,hpl,hbl,hty,hno⟩:=ho;unfold Nu at h;rw [h1,h2] at h;simp only at h;split at h
 . rename_i Z;split at h
   . rename_i hc;obtain ⟨hl,hga,hfp,hfr,hfn⟩:=hc;cases h
     have hva:∀l:List Ty,l.all (Q7 dt)=true->Bo dt 0 l=true:=fun l=>by
      induction l with
      |nil=>intro _;rfl
      |cons t l ih=>
       intro ha;simp only [BO,AO,Q7] at ha;rw [Bo,ha.1.2,ih ha.2];rfl
     have hsv:=fun t (h1:CH dt s.vars t=true)=>(AE7 (v:=s.vars) (by omega) (hva x.2 hga) t.size).1 t (AS _) h1
     have one:∀t,CH dt s.vars t=true->Xg x.2 t=true->Q7 dt (t.subst x.2)=true:=fun t a b=>by
      unfold Q7;rw [hsv t a,BU];exact b
     refine ⟨Z,fun t ht=>Aj.1 hga t ht,fun t ht=>?_,one _ (hty _ (by simp)).2 hfr,fun n hn=>?_⟩
     . rw [Jx] at ht;obtain ⟨u,hu,rfl⟩:=B8.1 ht;exact one u (hty u (by simp [hu])).2 (Aj.1 hfp u hu)
     . obtain ⟨n',hn',rfl⟩:=B8.1 hn;have:=Aj.1 hfn n' hn';unfold e8 at this;rw [AO] at this;refine ⟨one n'.1 (hno n' hn').1.2 this.1,fun a ha=>?_⟩;simp only [AJA,Jx] at ha;obtain ⟨u,hu,rfl⟩:=B8.1 ha;exact one u ((hno n' hn').2.1 u hu).2 (Aj.1 this.2 u hu)
   . cases h
 . cases h
def AV6:∀(l:List Str) (s:Str) (Y:AH),AR Tzp 110 [.d (bdD l),.d (.str s)] Y (fun v σ'=>v= .d (.bool (l.contains s))/\σ'=Y):=by
 intro l s Y;refine Tf (by simp) ?_;rw [BD];(repeat' (refine wQ ?_<;>try simp only [go_sem]));refine Run.BB ?_
 have Z:∀l0:List Str,l0.contains s=l.contains s->Run D5 (fun v σ'=>v= .d (.bool (l.contains s))/\σ'=Y) [.again Hy,.blk 0,.code (.seq (.reg [⟨some 4,.mv (.c (.d (.bool false))),none⟩] [4]) .ret)] (put 0 (.d (bdD l0)) (put 1 (.d (.str s)) U)) E Y:=by
  intro l0
  induction l0 with
  |nil=>
   intro h;refine Run.again ?_;simp only [bdD];(repeat' (refine wP ?_<;>try simp only [go_sem]));rw [<- h];rfl
  |cons x l0 ih=>
   intro h;refine Run.again ?_;simp only [bdD];rw [QM] at h;cases hs:(x==s) with
   |true=>
    (repeat' (refine wP ?_<;>try simp only [CA,hs,go_sem]));rw [<- h,BEq.comm,hs];rfl
   |false=>
    rw [show (s==x)=(x==s) from BEq.comm,hs,Ep] at h;(repeat' (refine wQ ?_<;>try simp only [CA,hs,go_sem]));exact ih h
 exact Z l rfl
def gS (sc ns:List Str) (Y:AH):AR Tzp 69 [.d (bdL sc),.d (.sl (ns.map BX))] Y (fun v σ'=>v= .d (bdL (sc++ns))/\σ'=Y):=by
 refine S1 (by simp) ?_;rw [BD];refine Run.slot 1 (fun hb0=>?_);simp only [DR,HN,if_false,if_true,AV.Ev,AA] at hb0;(repeat' (refine wQ ?_<;>try simp only [AA,go_sem]));refine Run.BB ?_;refine Run.BE ((fun (a7:AV) (a8:AV)=>fun (i:Nat)=>put 0 (.d (bdL (sc++ns.take i))) (put 7 a7 (put 8 a8 (put 9 (.d (.int .i64 i)) U)))) _ _) (fun _=>E) (fun _=>Y) (fun i=>i<=ns.length) (fun i=>ns.length - i) ?_ 0 (by simp)|>(fun h=>by simpa using h)
 rintro i hi ih;by_cases hlt:i < ns.length
 . obtain ⟨x,Z⟩:=Ai hlt;have he:=BI (enc:=BX) Z;simp only [BX] at he;have hw1:=wsu i;have hi1:=ih (i+1) (by omega) (by omega);simp only at hi1;rw [A5 Z,<- Aq] at hi1;cases hs:(x==[]) with
   |true=>
    rw [pX _ _ hs] at hi1;(repeat' (refine wQ ?_<;>try simp only [Ap hlt,he,hw1,F1,hs,go_sem]));exact hi1
   |false=>
    rw [ACJ _ _ hs] at hi1;(repeat' (refine wQ ?_<;>try simp only [Ap hlt,he,hw1,F1,hs,go_sem]));exact hi1
 . (repeat' (refine wP ?_<;>try simp only [B7 hlt,go_sem]));rw [AP (by omega)]
def AJI (f:FE) (o u:Int) (s:Str) (ns:List Str) (ks al:DV) (j:Nat) (Y:AH) (hj:Y.blk j=some [.d (.int .i64 o),.d (.str s),.d (.int .i64 u),.d (.sl (ns.map BX)),.d ks,.d al]):AR Tzp 112 [feA f,.gp j 0] Y (fun v σ'=>v= .d (.bool (f.name==s))/\σ'=Y):=by
 refine S0 (by simp) ?_;rw [BD];obtain ⟨nm,ps,o,n,u,ns,ks,al⟩:=f;simp only [FE.enc,Ex.A4,feA,AF,AN];(repeat' (refine wP ?_<;>try simp only [hj,CA,go_sem]))
section
def AV2 (r:Nat×Int):List DV:=[.int .i64 (r.1:Int),.int .i64 r.2]
abbrev eRf:Nat:=112
def CC.base {Y σ' τ:AH} {s:Nat} {rows:List (List DV)} {v:AV} (h:CC Y e s rows v τ) (hl:σ'.le Y):CC σ' e s rows v τ:=by
 obtain ⟨σ1,ha,hle⟩:=h.app;exact ⟨⟨σ1,ha,AH.le_trans hl hle⟩,AH.le_trans hl h.le,h.plain,h.len,h.cell,h.BS,h.CL,h.dv,h.cells⟩
def AAY {Y τ:AH} (h:Y.le τ) (j:Nat) (cs:List AV):(Y.AL j cs).le (τ.AL j cs):=
 ⟨fun k ds hk=>by
   rw [AJ] at hk ⊢;split
   . rename_i e;rw [if_pos e] at hk;exact hk
   . rename_i e;rw [if_neg e] at hk;exact h.blk k ds hk,h.tok,h.gt,h.bt⟩
def CC.both {Y τ:AH} {s:Nat} {rows:List (List DV)} {v:AV} (h:CC Y e s rows v τ) (j:Nat) (cs:List AV):CC (Y.AL j cs) e s rows v (τ.AL j cs):=by
 obtain ⟨σ1,ha,hle⟩:=h.app;refine ⟨?_,AAY h.le j cs,h.plain,h.len,h.cell,h.BS,h.CL,h.dv,h.cells⟩;unfold O2 at ha ⊢;split at ha
 . cases ha;exact ⟨_,rfl,AAY hle j cs⟩
 . split at ha
   . rename_i hc;cases ha;exact ⟨_,if_pos hc,AAY hle j cs⟩
   . cases ha
 . cases ha
structure FiS (σ0:AH) (i:Nat) (ds fs:DV) (n:Nat) (l:List (Nat×Int)) (Y:AH):Prop where
 fresh:σ0.blk i=none
 blk:∃v,Y.blk i=some [.d ds,.d fs,.d (.int .i64 (n:Int)),v]/\CC σ0 eRf 2 (l.map AV2) v Y
variable {σ0 Y:AH} {i j n:Nat} {ds fs:DV} {l:List (Nat×Int)} {cs:List AV}
def FiS.le (h:FiS σ0 i ds fs n l Y):σ0.le Y:=by obtain ⟨v,_,ho⟩:=h.blk;exact ho.le
def FiS.share (h:FiS σ0 i ds fs n l Y) (hj:Y.blk j=none):FiS (σ0.AL j cs) i ds fs n l (Y.AL j cs):=by
 obtain ⟨v,hb,ho⟩:=h.blk;have hij:i≠j:=fun e=>by rw [e,hj] at hb;cases hb
 exact ⟨by rw [AJ,if_neg hij];exact h.fresh,v,by rw [AJ,if_neg hij];exact hb,ho.both j cs⟩
def FiS.AWG (h:FiS (σ0.AL j cs) i ds fs n l Y) (hj:σ0.blk j=none):FiS σ0 i ds fs n l Y:=by
 obtain ⟨v,hb,ho⟩:=h.blk;have hf:=h.fresh;rw [AJ] at hf;split at hf
 . cases hf
 . exact ⟨hf,v,hb,ho.base (CK hj)⟩
def FiS.ne (h:FiS (σ0.AL j cs) i ds fs n l Y):i≠j:=fun e=>by have:=h.fresh;rw [AJ,if_pos e] at this;cases this
def FiS.step {v:AV} (h:FiS σ0 i ds fs n l Y) (hb:Y.blk i=some [.d ds,.d fs,.d (.int .i64 (n:Int)),v]) (m:Nat):FiS σ0 i ds fs m l (Y.AL i [.d ds,.d fs,.d (.int .i64 (m:Int)),v]):=by
 obtain ⟨v',hb',ho⟩:=h.blk;rw [hb] at hb';cases hb';exact ⟨h.fresh,v,BT,ho.set h.fresh _⟩
def ATZ (sc:List Str) (s:Str):((sc.filter (fun s=>!(s==[]))).reverse).contains s=!decide (s=[]\/s ∉ sc):=by
 rw [Ak];simp;constructor
 . rintro ⟨h1,h2⟩;exact ⟨h2,h1⟩
 . rintro ⟨h1,h2⟩;exact ⟨h2,h1⟩
def ASO (sc:List Str) (s:Str) (Y:AH):AR Tzp 110 [.d (bdL sc),.d (.str s)] Y (fun v σ'=>v= .d (.bool (!decide (s=[]\/s ∉ sc)))/\σ'=Y):=by
 rw [<- ATZ];exact AV6 _ s Y
def AQ0 (fs:List FE) (s:Str):HQ (fs.findIdx? (fun f=>f.name==s))=(match fs.findIdx? (fun f=>f.name==s) with|some i=>(i:Int)|none=>-1):=rfl
def AMF (ds:DV) (F:List FE) (i:Nat):∀(N:Nat) (e:Ex) (sc:List Str) (n:Nat) (l:List (Nat×Int)) (σ0 Y:AH),e.size<=N->n+e.size<=1000000->l.length+e.size<=1000000->FiS σ0 i ds (.sl (F.map FE.enc)) n l Y->
 AR Tzp 68 [.gp i 0,exA e,.d (bdL sc)] Y (fun v σ'=>v= .tup []/\FiS σ0 i ds (.sl (F.map FE.enc)) (n+e.size) (l++Fz F n (Ca e sc)) σ'):=by
 intro N
 induction N with
 |zero=>intro e sc n l σ0 Y h;have:=Ex.size_pos e;omega
 |succ N ihN=>
 intro e sc n l σ0 Y hN hn hl hfi;obtain ⟨o,nm,u,ns,ks,al⟩:=e;simp only [Ex.size] at hN hn hl;have hkl:=Ex.Bx ks;have hal:=Al.Bx al;refine Uz (by simp) ?_;rw [DK,exA,Ex.A4];(repeat' (first|refine Run.cb rfl ?_|((first|refine rgQ mxQ ?_|refine cdQ ?_|(refine Ae rfl (fun h=>?_) (fun h=>?_)<;>try (cases h;done)))<;>try simp only [go_sem])|(refine ⟨fun h=>?_,fun h=>?_⟩<;>first|(cases h;done)|try simp only [h])|fail));intro j hj
 have hj0:σ0.blk j=none:=by
  cases h:σ0.blk j with
  |none=>rfl
  |some c=>have:=hfi.le.blk j c h;rw [hj] at this;cases this
 have hsh:=hfi.share (cs:=[.d (.int .i64 o),.d (.str nm),.d (.int .i64 u),.d (.sl (ns.map BX)),.d (.sl (ks.map Ex.enc)),.d (.sl (al.map Al.enc))]) hj;generalize hQ:(fun (v:AV) (σ':AH)=>v= .tup []/\FiS σ0 i ds (.sl (F.map FE.enc)) (n+(Ex.mk o nm u ns ks al).size) (l++Fz F n (Ca (.mk o nm u ns ks al) sc)) σ')=Q
 have hfin:∀τ,FiS (σ0.AL j [.d (.int .i64 o),.d (.str nm),.d (.int .i64 u),.d (.sl (ns.map BX)),.d (.sl (ks.map Ex.enc)),.d (.sl (al.map Al.enc))]) i ds (.sl (F.map FE.enc)) (n+(1+Ex.AQ ks+Al.AQ al)) (l++Fz F n ((.mk o nm u ns ks al,sc)::(Cr o nm ns sc 0 ks++Ed sc al))) τ->Q (.tup []) τ:=fun τ h=>by
  rw [<- hQ,Ex.size,Ca];exact ⟨rfl,h.AWG hj0⟩
 clear hQ;have hij:=hsh.ne;have h1j:(σ0.AL j [.d (.int .i64 o),.d (.str nm),.d (.int .i64 u),.d (.sl (ns.map BX)),.d (.sl (ks.map Ex.enc)),.d (.sl (al.map Al.enc))]).blk j=some [.d (.int .i64 o),.d (.str nm),.d (.int .i64 u),.d (.sl (ns.map BX)),.d (.sl (ks.map Ex.enc)),.d (.sl (al.map Al.enc))]:=BT;generalize σ0.AL j [.d (.int .i64 o),.d (.str nm),.d (.int .i64 u),.d (.sl (ns.map BX)),.d (.sl (ks.map Ex.enc)),.d (.sl (al.map Al.enc))]=σ1 at *;have hEB:∀τ m l,FiS σ1 i ds (.sl (F.map FE.enc)) m l τ->τ.blk j=some [.d (.int .i64 o),.d (.str nm),.d (.int .i64 u),.d (.sl (ns.map BX)),.d (.sl (ks.map Ex.enc)),.d (.sl (al.map Al.enc))]:=fun τ m l h=>h.le.blk j _ h1j;refine Run.seq ?_;refine Run.tail (fun F' M τ=>Gw [0,2,4] F'=put 0 (.gp i 0) (put 2 (.d (bdL sc)) (put 4 (.gp j 0) U))/\Fp [0,2,4] M=E/\FiS σ1 i ds (.sl (F.map FE.enc)) n (l++Fz F n [(.mk o nm u ns ks al,sc)]) τ) ?_ ?_
 . rintro F' M τ ⟨hF,hM,hs⟩;refine Run.JP [0,2,4] ?_;rw [hF,hM];obtain ⟨v,hb,ho⟩:=hs.blk;have hbj:=hEB _ _ _ hs;have hs2:=hs.step hb (n+1);have hw1:=wsu n;have hji:(j=i)=False:=by simp;exact fun e=>hij e.symm
   (repeat' (first|refine ctQ rfl ?_|((first|refine rgQ mxQ ?_|refine cdQ ?_|(refine Ae rfl (fun h=>?_) (fun h=>?_)<;>try (cases h;done)))<;>try simp only [hb,hbj,hw1,hji,AA,go_sem])|(refine ⟨fun h=>?_,fun h=>?_⟩<;>first|(cases h;done)|try simp only [h])|fail))
   have hst0:FiS σ1 i ds (.sl (F.map FE.enc)) (n+(1+Ex.AQ (ks.take 0))) (l++Fz F n ((.mk o nm u ns ks al,sc)::Cr o nm ns sc 0 (ks.take 0))) (τ.AL i [.d ds,.d (.sl (F.map FE.enc)),.d (.int .i64 ((n+1:Nat):Int)),v]):=by
    rw [C0,Cr,Ex.AQ];exact hs2
   generalize τ.AL i [.d ds,.d (.sl (F.map FE.enc)),.d (.int .i64 ((n+1:Nat):Int)),v]=τ0 at hst0 ⊢;clear hs hb ho hbj hs2 hF hM;refine Run.BB ?_
   refine Run.BE ((fun (a0:AV) (a2:AV) (a4:AV) (a52:AV) (a53:AV)=>fun (z:Nat×AH)=>put 0 a0 (put 2 a2 (put 4 a4 (put 52 a52 (put 53 a53 (put 54 (.d (.int .i64 z.1)) U)))))) _ _ _ _ _) (fun _=>E) (fun z=>z.2)
    (fun z=>z.1<=ks.length/\FiS σ1 i ds (.sl (F.map FE.enc)) (n+(1+Ex.AQ (ks.take z.1))) (l++Fz F n ((.mk o nm u ns ks al,sc)::Cr o nm ns sc 0 (ks.take z.1))) z.2) (fun z=>ks.length - z.1) ?_ (0,τ0) ⟨by simp,hst0⟩
   clear hst0;rintro ⟨p,τ1⟩ ⟨hp,hs1⟩ ih2;simp only at hp hs1;have hbj:=hEB _ _ _ hs1;by_cases hlt:p < ks.length
   . obtain ⟨x,Z⟩:=Ai hlt;have he:=BI (enc:=Ex.enc) Z;have hw2:=wsu p
     have hsum:Ex.AQ (ks.take p)+x.size+Ex.AQ (ks.drop (p+1))=Ex.AQ ks:=by
      conv=>rhs;rw [<- A7 p ks,Ex.Bn,By Z,Ex.AQ]
      omega
     have hst:Ex.AQ (ks.take (p+1))=Ex.AQ (ks.take p)+x.size:=by rw [A5 Z,Ex.Bn];simp [Ex.AQ]
     have hlen:(((.mk o nm u ns ks al:Ex),sc)::Cr o nm ns sc 0 (ks.take p)).length=1+Ex.AQ (ks.take p):=by
      rw [A0,MW];omega
     have hrf:Fz F n ((.mk o nm u ns ks al,sc)::Cr o nm ns sc 0 (ks.take (p+1)))=Fz F n ((.mk o nm u ns ks al,sc)::Cr o nm ns sc 0 (ks.take p))++Fz F (n+(1+Ex.AQ (ks.take p))) (Ca x (Qg o nm ns sc p)):=by
      rw [A5 Z,dI,B5,FN (by omega),BF,<- AX,kZ,hlen]
     have hrl:=(UB F ((.mk o nm u ns ks al,sc)::Cr o nm ns sc 0 (ks.take p)) n).1;rw [hlen] at hrl;have hc:=ihN x (Qg o nm ns sc p) _ _ σ1 τ1 (by omega) (by omega) (by rw [AY];omega) hs1;have hbd:=AQ1 o nm ns sc p;rw [Aq,<- hrf,show n+(1+Ex.AQ (ks.take p))+x.size=n+(1+Ex.AQ (ks.take (p+1))) by omega] at hc;clear hrf hrl hlen hst hsum hs1;generalize Qg o nm ns sc p=sci at hc hbd;obtain ⟨xo,xn,xu,xs,xk,xa⟩:=x;simp only [Ex.A4,exA,AF,AN] at he hc;(repeat' (first|refine Run.cb rfl ?_|((first|refine rgQ mxQ ?_|refine cdQ ?_|(refine Ae rfl (fun h=>?_) (fun h=>?_)<;>try (cases h;done)))<;>try simp only [Ap hlt,go_sem])|(refine ⟨fun h=>?_,fun h=>?_⟩<;>first|(cases h;done)|try simp only [h])|fail));refine Run.block ?_;(repeat' (first|refine Run.cb rfl ?_|((first|refine rgQ mxQ ?_|refine cdQ ?_|(refine Ae rfl (fun h=>?_) (fun h=>?_)<;>try (cases h;done)))<;>try simp only [he,hbj,go_sem])|(refine ⟨fun h=>?_,fun h=>?_⟩<;>first|(cases h;done)|try simp only [h])|fail))
     refine Run.tail (fun F' M τ=>Gw [0,2,4,8,9,52,53,54] F'=put 0 (.gp i 0) (put 2 (.d (bdL sc)) (put 4 (.gp j 0) (put 8 (.lp 8 0) (put 9 (.d (bdL sci)) (put 52 (.d (.sl (ks.map Ex.enc))) (put 53 (.d (.int .i64 ks.length)) (put 54 (.d (.int .i64 p)) U)))))))/\Fp [0,2,4,8,9,52,53,54] M=At 8 [.d (.int .i64 xo),.d (.str xn),.d (.int .i64 xu),.d (.sl (xs.map BX)),.d (.sl (xk.map Ex.enc)),.d (.sl (xa.map Al.enc))] E/\τ=τ1) ?_ ?_
     . rintro F' M _ ⟨hF,hM,rfl⟩;refine Run.JP [0,2,4,8,9,52,53,54] ?_;rw [hF,hM];(repeat' (first|refine ctQ rfl ?_|((first|refine rgQ mxQ ?_|refine cdQ ?_|(refine AI.mk rfl hc ?_;rintro _ τ2 ⟨rfl,hs3⟩)|(refine Ae rfl (fun h=>?_) (fun h=>?_)<;>try (cases h;done)))<;>try simp only [hw2,go_sem])|(refine ⟨fun h=>?_,fun h=>?_⟩<;>first|(cases h;done)|try simp only [h])|fail));exact ih2 (p+1,τ2) ⟨hlt,hs3⟩ (by simp only;omega)
     . intro k hT;have hwi:((p:Int)==1)=decide (p=1):=by rw [Ak];simp only [beq_iff_eq,decide_eq_true_eq];omega
       have hT:=fun F' M h1 h2=>hT F' M τ1 ⟨h1,h2,rfl⟩;have hws1:=gS sc ns τ1;have hws2:=gS sc [nm] τ1;simp only [AF,AN,BX] at hws2;clear hc ih2;by_cases h11:o=11
       . subst h11;rw [if_neg (by omega),if_pos (.inr rfl)] at hbd;rw [<- hbd] at hws1;(repeat' (first|refine ctQ rfl ?_|((first|refine rgQ mxQ ?_|refine cdQ ?_|refine AI.det (hws1) ?_|(refine Ae rfl (fun h=>?_) (fun h=>?_)<;>try (cases h;done)))<;>try simp only [hbj,go_sem])|(refine ⟨fun h=>?_,fun h=>?_⟩<;>first|(cases h;done)|try simp only [h])|fail));exact hT _ _ (by simp only [go_sem]) (by simp only [go_sem])
       by_cases h8:o=8
       . subst h8;by_cases h1:p=1
         . rw [if_neg (by omega),if_pos (.inl ⟨rfl,h1⟩)] at hbd;rw [<- hbd] at hws1;(repeat' (first|refine ctQ rfl ?_|((first|refine rgQ mxQ ?_|refine cdQ ?_|refine AI.det (hws1) ?_|(refine Ae rfl (fun h=>?_) (fun h=>?_)<;>try (cases h;done)))<;>try simp only [Aa,hbj,hwi,decide_eq_true h1,go_sem])|(refine ⟨fun h=>?_,fun h=>?_⟩<;>first|(cases h;done)|try simp only [h])|fail));exact hT _ _ (by simp only [go_sem]) (by simp only [go_sem])
         . rw [if_neg (by omega),if_neg (by omega)] at hbd;(repeat' (first|refine ctQ rfl ?_|((first|refine rgQ mxQ ?_|refine cdQ ?_|(refine Ae rfl (fun h=>?_) (fun h=>?_)<;>try (cases h;done)))<;>try simp only [Aa,hwi,decide_eq_false h1,go_sem])|(refine ⟨fun h=>?_,fun h=>?_⟩<;>first|(cases h;done)|try simp only [h])|fail));exact hT _ _ (by simp only [hbd,go_sem]) (by simp only [go_sem])
       by_cases h7:o=7\/o=17
       . by_cases h1:p=1
         . rw [if_pos ⟨h7,h1⟩] at hbd;rw [<- hbd] at hws2;rcases h7 with rfl|rfl
           all_goals
            (repeat' (first|refine ctQ rfl ?_|((first|refine rgQ mxQ ?_|refine cdQ ?_|refine AI.det (hws2) ?_|(refine Ae rfl (fun h=>?_) (fun h=>?_)<;>try (cases h;done)))<;>try simp only [Aa,hbj,hwi,decide_eq_true h1,go_sem])|(refine ⟨fun h=>?_,fun h=>?_⟩<;>first|(cases h;done)|try simp only [h])|fail));exact hT _ _ (by simp only [go_sem]) (by simp only [go_sem])
         . rw [if_neg (by omega),if_neg (by omega)] at hbd;rcases h7 with rfl|rfl
           all_goals
            (repeat' (first|refine ctQ rfl ?_|((first|refine rgQ mxQ ?_|refine cdQ ?_|(refine Ae rfl (fun h=>?_) (fun h=>?_)<;>try (cases h;done)))<;>try simp only [Aa,hwi,decide_eq_false h1,go_sem])|(refine ⟨fun h=>?_,fun h=>?_⟩<;>first|(cases h;done)|try simp only [h])|fail));exact hT _ _ (by simp only [hbd,go_sem]) (by simp only [go_sem])
       . rw [if_neg (by omega),if_neg (by omega)] at hbd;(repeat' (first|refine ctQ rfl ?_|((first|refine rgQ mxQ ?_|refine cdQ ?_|(refine Ae rfl (fun h=>?_) (fun h=>?_)<;>try (cases h;done)))<;>try simp only [Cf h11,Cf h8,Cf (show o≠7 by omega),Cf (show o≠17 by omega),go_sem])|(refine ⟨fun h=>?_,fun h=>?_⟩<;>first|(cases h;done)|try simp only [h])|fail));exact hT _ _ (by simp only [hbd,go_sem]) (by simp only [go_sem])
   . have hik:ks.take p=ks:=AP (by omega);rw [hik] at hs1;clear ih2;(repeat' (first|refine ctQ rfl ?_|((first|refine rgQ mxQ ?_|refine cdQ ?_|(refine Ae rfl (fun h=>?_) (fun h=>?_)<;>try (cases h;done)))<;>try simp only [B7 hlt,hbj,AA,go_sem])|(refine ⟨fun h=>?_,fun h=>?_⟩<;>first|(cases h;done)|try simp only [h])|fail));refine Run.BB ?_
     refine Run.BE ((fun (a0:AV) (a2:AV) (a92:AV) (a93:AV)=>fun (z:Nat×AH)=>put 0 a0 (put 2 a2 (put 92 a92 (put 93 a93 (put 94 (.d (.int .i64 z.1)) U))))) _ _ _ _) (fun _=>E) (fun z=>z.2)
      (fun z=>z.1<=al.length/\FiS σ1 i ds (.sl (F.map FE.enc)) (n+(1+Ex.AQ ks+Al.AQ (al.take z.1))) (l++Fz F n ((.mk o nm u ns ks al,sc)::(Cr o nm ns sc 0 ks++Ed sc (al.take z.1)))) z.2) (fun z=>al.length - z.1) ?_ (0,τ1) ⟨by simp,by simpa [Ed,Al.AQ] using hs1⟩
     clear hs1 hbj hp hlt hik;rintro ⟨p,τ2⟩ ⟨hp,hs1⟩ ih2;simp only at hp hs1;by_cases hlt:p < al.length
     . obtain ⟨a,Z⟩:=Ai hlt;have he:=BI (enc:=Al.enc) Z;have hw2:=wsu p
       have hsum:Al.AQ (al.take p)+a.size+Al.AQ (al.drop (p+1))=Al.AQ al:=by
        conv=>rhs;rw [<- A7 p al,Al.Bn,By Z,Al.AQ]
        omega
       have hst:Al.AQ (al.take (p+1))=Al.AQ (al.take p)+a.size:=by rw [A5 Z,Al.Bn];simp [Al.AQ]
       have hlen:(((.mk o nm u ns ks al:Ex),sc)::(Cr o nm ns sc 0 ks++Ed sc (al.take p))).length=1+Ex.AQ ks+Al.AQ (al.take p):=by
        rw [A0,AY,MW,Tz];omega
       have hrf:Fz F n ((.mk o nm u ns ks al,sc)::(Cr o nm ns sc 0 ks++Ed sc (al.take (p+1))))=Fz F n ((.mk o nm u ns ks al,sc)::(Cr o nm ns sc 0 ks++Ed sc (al.take p)))++Fz F (n+(1+Ex.AQ ks+Al.AQ (al.take p))) (oH a sc):=by
        rw [A5 Z,ZN,<- Aq,<- AX,kZ,hlen];simp [Ed]
       have hrl:=(UB F ((.mk o nm u ns ks al,sc)::(Cr o nm ns sc 0 ks++Ed sc (al.take p))) n).1;rw [hlen] at hrl;obtain ⟨ac,av,x⟩:=a;rw [oH] at hrf;simp only [Al.size] at hsum hst;have hc:=ihN x (sc++av) _ _ σ1 τ2 (by omega) (by omega) (by rw [AY];omega) hs1;rw [Aq,<- hrf,show n+(1+Ex.AQ ks+Al.AQ (al.take p))+x.size=n+(1+Ex.AQ ks+Al.AQ (al.take (p+1))) by omega] at hc;have hws:=gS sc av τ2;obtain ⟨xo,xn,xu,xs,xk,xa⟩:=x;simp only [Al.A4,Ex.A4,exA,AF,AN] at he hc;(repeat' (first|refine ctQ rfl ?_|((first|refine rgQ mxQ ?_|refine cdQ ?_|(refine AI.mk rfl hc ?_;rintro _ τ3 ⟨rfl,hs3⟩)|refine AI.det (hws) ?_|(refine Ae rfl (fun h=>?_) (fun h=>?_)<;>try (cases h;done)))<;>try simp only [Ap hlt,he,hw2,go_sem])|(refine ⟨fun h=>?_,fun h=>?_⟩<;>first|(cases h;done)|try simp only [h])|fail));exact ih2 (p+1,τ3) ⟨hlt,hs3⟩ (by simp only;omega)
     . rw [AP (by omega)] at hs1;(repeat' (first|refine ctQ rfl ?_|((first|refine rgQ mxQ ?_|refine cdQ ?_|(refine Ae rfl (fun h=>?_) (fun h=>?_)<;>try (cases h;done)))<;>try simp only [B7 hlt,go_sem])|(refine ⟨fun h=>?_,fun h=>?_⟩<;>first|(cases h;done)|try simp only [h])|fail));exact Run.fin Ko rfl (fun _ _ h=>h) (AH.le_refl _) (hfin _ (by rw [<- Nat.add_assoc] at hs1 ⊢;exact hs1))
 . intro k hT;have hT:=fun F' M τ h1 h2 h3=>hT F' M τ ⟨h1,h2,h3⟩;generalize Y.AL j [.d (.int .i64 o),.d (.str nm),.d (.int .i64 u),.d (.sl (ns.map BX)),.d (.sl (ks.map Ex.enc)),.d (.sl (al.map Al.enc))]=τ at hsh ⊢;have hbj:=hEB _ _ _ hsh;by_cases h4:o=4
   . subst h4;have hhas:=ASO sc nm τ;by_cases hb:nm=[]\/nm ∉ sc
     . rw [decide_eq_true hb] at hhas;obtain ⟨v,hbi,ho⟩:=hsh.blk;have hix:=GW (fid:=112) (caps:=[.gp j 0]) (by kernel_rfl) rfl (fun x=>x.name==nm) F τ (fun x _=>AJI x _ _ nm ns _ _ j _ hbj);rw [AQ0] at hix;have hr:Fz F n [((.mk 4 nm u ns ks al:Ex),sc)]=[(n,(match F.findIdx? (fun f=>f.name==nm) with|some i=>(i:Int)|none=>-1))]:=by rw [Fz,if_pos ⟨rfl,hb⟩];rfl
       rw [hr] at hT;generalize (match F.findIdx? (fun f=>f.name==nm) with|some i=>(i:Int)|none=>-1)=q at hix hT;(repeat' (first|refine ctQ rfl ?_|((first|refine rgQ mxQ ?_|refine cdQ ?_|refine AI.det (hhas) ?_|refine AI.det (hix) ?_|(refine Ae rfl (fun h=>?_) (fun h=>?_)<;>try (cases h;done)))<;>try simp only [hbi,hbj,ho.w4,go_sem])|(refine ⟨fun h=>?_,fun h=>?_⟩<;>first|(cases h;done)|try simp only [h])|fail));refine Dh.own ho rfl (by simp) (by simp;omega) (by omega) (fun v' τ2 ho' hb'=>?_);have hbi2:=(hb' i).trans hbi;simp only [hbi2,ho'.cell,ho'.cells,go_sem];refine hT _ _ _ (by simp only [go_sem]) (by simp only [go_sem]) ⟨hsh.fresh,v',BT,?_⟩;rw [Ao];exact ho'.set hsh.fresh _
     . rw [decide_eq_false hb] at hhas;have hr:Fz F n [((.mk 4 nm u ns ks al:Ex),sc)]=[]:=by rw [Fz,if_neg (fun e=>hb e.2)];rfl
       rw [hr,Bu] at hT;(repeat' (first|refine ctQ rfl ?_|((first|refine rgQ mxQ ?_|refine cdQ ?_|refine AI.det (hhas) ?_|(refine Ae rfl (fun h=>?_) (fun h=>?_)<;>try (cases h;done)))<;>try simp only [hbj,go_sem])|(refine ⟨fun h=>?_,fun h=>?_⟩<;>first|(cases h;done)|try simp only [h])|fail));exact hT _ _ _ (by simp only [go_sem]) (by simp only [go_sem]) hsh
   . have hr:Fz F n [((.mk o nm u ns ks al:Ex),sc)]=[]:=by rw [Fz,if_neg (fun e=>h4 e.1)];rfl
     rw [hr,Bu] at hT;(repeat' (first|refine ctQ rfl ?_|((first|refine rgQ mxQ ?_|refine cdQ ?_|(refine Ae rfl (fun h=>?_) (fun h=>?_)<;>try (cases h;done)))<;>try simp only [Cf h4,hbj,go_sem])|(refine ⟨fun h=>?_,fun h=>?_⟩<;>first|(cases h;done)|try simp only [h])|fail));exact hT _ _ _ (by simp only [go_sem]) (by simp only [go_sem]) hsh
def wS (ds:DV) (F:List FE) (f:Nat) (fe:FE) (hf:F[f]?=some fe) (hsz:fe.body.size<=100000) (Y:AH):
 AR Tzp 33 [.agg [.d ds,.d (.sl (F.map FE.enc))],.d (.int .i64 (f:Int))] Y (fun v σ'=>v= .d (.sl ((tB F fe).map AV2))/\σ'=Y):=by
 have he:=BI (enc:=FE.enc) hf
 have hw:∀Y,AR Tzp 69 [.EO,.d (.sl (fe.params.map BX))] Y (fun v σ'=>v= .d (bdL fe.params)/\σ'=Y):=fun Y=>by
  have:=gS [] fe.params Y;rw [show bdL []= .EO from rfl,Ag] at this;exact AR.plain (by simpa only [AV.CV,VT,HU] using this)
 refine YB (by simp) ?_;rw [BD];(repeat' (first|refine ctQ rfl ?_|((first|refine rgQ mxQ ?_|refine cdQ ?_|(refine Ae rfl (fun h=>?_) (fun h=>?_)<;>try (cases h;done)))<;>try simp only [go_sem])|(refine ⟨fun h=>?_,fun h=>?_⟩<;>first|(cases h;done)|try simp only [h])|fail));intro i hi;have h0:FiS Y i ds (.sl (F.map FE.enc)) 0 [] (Y.AL i [.d ds,.d (.sl (F.map FE.enc)),.d (.int .i64 0),.Ad]):=⟨hi,.Ad,by rw [AJ,if_pos rfl];rfl,(CC.nil Y eRf 2).set hi _⟩;have hc:=AMF ds F i fe.body.size fe.body fe.params 0 [] Y _ (AS _) (by omega) (by simp;omega) h0;rw [BF,Ag] at hc;change AR _ _ _ _ (fun v σ'=>v= .tup []/\FiS Y i ds (.sl (F.map FE.enc)) fe.body.size (tB F fe) σ') at hc;generalize tB F fe=rs at hc ⊢;obtain ⟨nm,ps,o,n,u,ns,ks,al⟩:=fe;simp only [FE.enc,Ex.A4,exA,AF,AN] at he hc hw;(repeat' (first|refine ctQ rfl ?_|((first|refine rgQ mxQ ?_|refine cdQ ?_|refine AI.det (hw _) ?_|(refine Ae rfl (fun h=>?_) (fun h=>?_)<;>try (cases h;done)))<;>try simp only [go_sem])|(refine ⟨fun h=>?_,fun h=>?_⟩<;>first|(cases h;done)|try simp only [h])|fail));refine Run.IX mixed ?_;simp only [he,Int.natCast_nonneg,CO,go_sem];refine ⟨?_,?_⟩
 all_goals
  refine AI.det (hw _) ?_;simp only [go_sem];refine AI.mk rfl hc ?_;rintro _ τ ⟨rfl,hs⟩;obtain ⟨v,hb,ho⟩:=hs.blk;(repeat' (first|refine ctQ rfl ?_|((first|refine rgQ mxQ ?_|refine cdQ ?_|(refine Ae rfl (fun h=>?_) (fun h=>?_)<;>try (cases h;done)))<;>try simp only [hb,ho.w4,go_sem])|(refine ⟨fun h=>?_,fun h=>?_⟩<;>first|(cases h;done)|try simp only [h])|fail));refine Run.Bg My ho.le ?_;simp only [Lk,ho.plain,ho.BS,go_sem]
end
def mR {fid:FuncId} {caps:List AV} (hb:CT Tzp fid=true) (hcp:caps.all AV.BS=true) (p:Ty->Bool) (l:List Ty) (Y:AH) (hf:∀x∈l,AR Tzp fid (tyA x::caps) Y (fun v σ'=>v= .d (.bool (p x))/\σ'=Y)):
 AR Tzp 106 [.d (.sl (l.map Ty.enc)),.fn fid [] caps] Y (fun v σ'=>v= .d (.int .i64 (HQ (l.findIdx? p)))/\σ'=Y):=by
 refine Hn (by simp) ?_;rw [BD];refine Run.slot 0 (fun hb0=>?_);simp only [DR,if_true,AV.Ev,AA] at hb0;(repeat' (refine wQ ?_<;>try simp only [AA,go_sem]));refine Run.BB ?_;refine Run.BE ((fun (a0:AV) (a1:AV) (a7:AV)=>fun (i:Nat)=>put 0 a0 (put 1 a1 (put 7 a7 (put 8 (.d (.int .i64 i)) U)))) _ _ _) (fun _=>E) (fun _=>Y) (fun i=>i<=l.length/\∀x∈l.take i,p x=false) (fun i=>l.length - i) ?_ 0 ⟨by simp,by simp⟩;rintro i ⟨hi,hno⟩ ih;by_cases hlt:i < l.length
 . obtain ⟨x,Z⟩:=Ai hlt;have he:=BI (enc:=Ty.enc) Z;have hw1:=wsu i;have hc:=hf x (AD Z);cases hp:p x with
   |true=>
    rw [hp] at hc;have hfx:=Dj hno Z hp;obtain ⟨k,n,us⟩:=x;(repeat' ((first|refine wP ?_|(refine ⟨fid,[],caps,rfl,hb,AI.det hc ?_ (by simp [hcp,Dm])⟩)|fail)<;>try simp only [Ap hlt,he,go_sem]));rw [hfx];rfl
   |false=>
    rw [hp] at hc;have hnx:=F7 hno Z hp;obtain ⟨k,n,us⟩:=x;(repeat' ((first|refine wQ ?_|(refine ⟨fid,[],caps,rfl,hb,AI.det hc ?_ (by simp [hcp,Dm])⟩)|fail)<;>try simp only [Ap hlt,he,hw1,go_sem]));exact ih (i+1) ⟨by omega,hnx⟩ (by omega)
 . (repeat' (refine wP ?_<;>try simp only [B7 hlt,go_sem]));rw [AP (by omega)] at hno;rw [Dk hno];rfl
def bG {fid:FuncId} {caps:List AV} (hb:CT Tzp fid=true) (hcp:caps.all AV.BS=true) (p:Ty->Bool) (l:List Ty) (Y:AH) (hf:∀x∈l,AR Tzp fid (tyA x::caps) Y (fun v σ'=>v= .d (.bool (p x))/\σ'=Y)):
 AR Tzp 63 [.d (.sl (l.map Ty.enc)),.fn fid [] caps] Y (fun v σ'=>v= .d (.bool (l.any p))/\σ'=Y):=by
 have hi:=mR hb hcp p l Y hf;refine Gt (by simp) ?_;rw [BD];(repeat' ((first|refine wP ?_|(refine AI.det hi ?_ (by simp [MR,fY]))|fail)<;>try simp only [Ol,HH,go_sem]))
def sbC (args:List Ty) (b:Bool):List AV:=[N5 args,.d (.bool b)]
def AXD (n:Nat):decide ((200:Int) < n)=!decide (n<=200):=by
 rw [Ak];simp;omega
def apT (args:List Ty) (b:Bool) (t:Ty):Ty:=if b then .mk 0 0 [] else t.subst args
def pW (args:List Ty) (ha:∀t∈args,t.size<=200) (t:Ty) (ht:t.size<=200) (i:Nat) (b:Bool) (Y:AH) (hi:Y.blk i=some (sbC args b)):
 AR Tzp 67 [.gp i 0,tyA t] Y (fun v σ'=>v=tyA (apT args b t)/\σ'=Y.AL i (sbC args (b|| !Xg args t))):=by
 have hsm:(t.subst args).size<=40000:=Af ((AJB (M:=200) (by omega) ha).1 t) (by omega);have hc:=o4 args (fun t h=>Af (ha t h) (by omega)) t (by omega) Y;have hs:=fun Y=>uG 40000 (t.subst args) Y hsm (by omega);have hfit:Xg args t=decide ((t.subst args).size<=200):=rfl;rw [hfit,apT];generalize t.subst args=u at *;obtain ⟨kd,nm,l⟩:=t;obtain ⟨k2,n2,a2⟩:=u;refine Ns (by simp) ?_;rw [BD];unfold sbC N5 at *;cases b with
 |true=>
  (repeat' (refine wP ?_<;>try simp only [hi,go_sem]));exact (FU hi).symm
 |false=>
  cases hf:decide ((Ty.mk k2 n2 a2).size<=200) with
  |true=>
   (repeat' ((first|refine wP ?_|refine AI.det (hc) ?_|refine AI.det (hs _) ?_|fail)<;>try simp only [hi,AXD,hf,go_sem]));exact (FU hi).symm
  |false=>
   (repeat' ((first|refine wP ?_|refine AI.det (hc) ?_|refine AI.det (hs _) ?_|fail)<;>try simp only [hi,AXD,hf,go_sem]))
def AG4 (args l:List Ty) (t:Ty):FY args (l++[t])=(FY args l&&Xg args t):=by simp [FY]
def AYX {Y:AH} (i:Nat):(Y.Cs i).le Y:=
 ⟨fun j cs hj=>by
   simp only [AH.Cs] at hj;split at hj
   . cases hj
   . exact hj,fun _ h=>h,rfl,fun _ _ h=>h⟩
def AT7 (Y:AH) (i:Nat):(Y.Cs i).blk i=none:=by simp [AH.Cs]
def ANA {Y τ:AH} {i:Nat} {cs:List AV} (h:(Y.Cs i).le τ) (hi:τ.blk i=some cs):(Y.AL i cs).le τ:=
 ⟨fun j ds hj=>by
   rw [AJ] at hj;split at hj
   . rename_i e;cases hj;rw [e];exact hi
   . rename_i e;exact h.blk j ds (by simp only [AH.Cs,if_neg e];exact hj),h.tok,h.gt,h.bt⟩
def lR (args:List Ty) (ha:∀t∈args,t.size<=200) (l:List Ty) (hl:∀t∈l,t.size<=200) (hn:l.length<=900000000) (i:Nat) (b:Bool) (Y:AH) (hi:Y.blk i=some (sbC args b)):
 AR Tzp 66 [.gp i 0,.d (.sl (l.map Ty.enc))] Y (fun v σ'=>∃us,v= .d (.sl (us.map Ty.enc))/\σ'=Y.AL i (sbC args (b|| !FY args l))/\us.length=l.length/\((b|| !FY args l)=false->us=Ty.G3 args l)):=by
 refine La (by simp) ?_;rw [BD];(repeat' (refine wQ ?_<;>try simp only [AA,go_sem]));refine Run.BB ?_
 refine Run.BE ((fun (a0:AV) (a8:AV) (a9:AV)=>fun (z:Nat×AV×AH)=>put 0 a0 (put 5 (z.2.1) (put 8 a8 (put 9 a9 (put 10 (.d (.int .i64 z.1)) U))))) _ _ _) (fun _=>E) (fun z=>z.2.2)
  (fun z=>z.1<=l.length/\∃us,us.length=z.1/\CC (Y.Cs i) eTy 3 (us.map Ty.enc) z.2.1 z.2.2/\z.2.2.blk i=some (sbC args (b|| !FY args (l.take z.1)))/\((b|| !FY args (l.take z.1))=false->us=Ty.G3 args (l.take z.1))) (fun z=>l.length - z.1) ?_ (0,.Ad,Y)
  ⟨by simp,[],rfl,(CC.nil Y eTy 3).base (AYX i),by simpa [FY] using hi,fun _=>rfl⟩
 rintro ⟨p,v,τ⟩ ⟨hp,us,hul,ho,hbi,hus⟩ ih;simp only at hp hul ho hbi hus;by_cases hlt:p < l.length
 . obtain ⟨t,ht⟩:=Ai hlt;have he:=BI (enc:=Ty.enc) ht;have hw1:=wsu p;have hc:=pW args ha t (hl t (AD ht)) i _ τ hbi;have hf:=AG4 args (l.take p) t;rw [<- A5 ht] at hf;have hbb:(b|| !FY args (l.take p)|| !Xg args t)=(b|| !FY args (l.take (p+1))):=by rw [hf];cases b<;>cases FY args (l.take p)<;>rfl
   rw [hbb] at hc
   have hnew:(b|| !FY args (l.take (p+1)))=false->us++[apT args (b|| !FY args (l.take p)) t]=Ty.G3 args (l.take (p+1)):=fun h=>by
    rw [<- hbb] at h
    have h2:(b|| !FY args (l.take p))=false:=by
     cases hq:(b|| !FY args (l.take p)) with
     |false=>rfl
     |true=>rw [hq] at h;cases h
    rw [h2,hus h2,A5 ht,Jx,Jx,Ao];rfl
   generalize apT args (b|| !FY args (l.take p)) t=w at hc hnew;obtain ⟨k1,n1,a1⟩:=t;obtain ⟨k2,n2,a2⟩:=w;simp only [Ty.enc,tyA,AF,AN] at hc;(repeat' ((first|refine wQ ?_|(refine AI.mk rfl hc ?_;rintro _ _ ⟨rfl,rfl⟩)|fail)<;>try simp only [Ap hlt,he,ho.w4,go_sem]));refine Dh.own (ho.set (AT7 Y i) (sbC args (b|| !FY args (l.take (p+1))))) rfl (by simp) (by simp;omega) (by omega) (fun v' τ2 ho' hb'=>?_);simp only [hw1,go_sem];(repeat' (refine wQ ?_<;>try simp only [hw1,ho'.BS,ho'.CL,ho'.cells,ho'.cell,go_sem]));refine ih ⟨p+1,v',τ2⟩ ⟨hlt,us++[.mk k2 n2 a2],by simp [hul],?_,?_,hnew⟩ (by simp only;omega)
   . rw [Ao];exact ho'
   . rw [hb',AJ,if_pos rfl]
 . rw [AP (by omega)] at hbi hus;(repeat' ((first|refine wQ ?_|(refine Run.Bg G8 (ANA ho.le hbi) ?_)|fail)<;>try simp only [B7 hlt,ho.w4,ho.plain,go_sem]));exact ⟨us,rfl,by omega,hus⟩
def AaP:C->C
 | .seq _ (.seq _ (.seq (.block _ b) _))=>b
 |c=>c
def AOE {gs:List (List Nat)} {p:Nat} {ms:List Nat} (h:gs[p]?=some ms):(gs.map fun r=>[DV.sl (r.map CN)])[p]?=some [DV.sl (ms.map CN)]:=by rw [Am,h];rfl
def AS4 {fs:List FE} {dt:List Dat} {r:Db} {ms:List Nat} (h:(ms.foldl (igF (gcP fs dt r.1 ms)) (ig0 fs ms)).s.2=true\/qX (ms.foldl (igF (gcP fs dt r.1 ms)) (ig0 fs ms)).s.1=false):Rd fs dt r ms= .error (6,ms.headD 0):=by
 unfold Rd;simp only;rw [if_pos h]
def AS5 {fs:List FE} {dt:List Dat} {r:Db} {ms:List Nat} {f:Nat} (h:¬((ms.foldl (igF (gcP fs dt r.1 ms)) (ig0 fs ms)).s.2=true\/qX (ms.foldl (igF (gcP fs dt r.1 ms)) (ig0 fs ms)).s.1=false))
 (hf:ms.find? (fun f=>cC (ms.foldl (igF (gcP fs dt r.1 ms)) (ig0 fs ms)).s.1 ((gcP fs dt r.1 ms).ps.getD f []) ((gcP fs dt r.1 ms).rs.getD f 0) ((ms.foldl (igF (gcP fs dt r.1 ms)) (ig0 fs ms)).en.getD f []))=some f):Rd fs dt r ms= .error (9,f):=by
 unfold Rd;simp only;rw [if_neg h,hf]
def AWD {fs:List FE} {dt:List Dat} {r:Db} {ms:List Nat} (h:¬((ms.foldl (igF (gcP fs dt r.1 ms)) (ig0 fs ms)).s.2=true\/qX (ms.foldl (igF (gcP fs dt r.1 ms)) (ig0 fs ms)).s.1=false))
 (hf:ms.find? (fun f=>cC (ms.foldl (igF (gcP fs dt r.1 ms)) (ig0 fs ms)).s.1 ((gcP fs dt r.1 ms).ps.getD f []) ((gcP fs dt r.1 ms).rs.getD f 0) ((ms.foldl (igF (gcP fs dt r.1 ms)) (ig0 fs ms)).en.getD f []))=none):Rd fs dt r ms= .ok (ms.foldl (Hu (gcP fs dt r.1 ms) (ms.foldl (igF (gcP fs dt r.1 ms)) (ig0 fs ms)).s.1 (ms.foldl (igF (gcP fs dt r.1 ms)) (ig0 fs ms)).en) r):=by
 unfold Rd;simp only;rw [if_neg h,hf]
def AMT (fs:List FE) (ds:List DE) (dt:List Dat) (hF:PF fs dt) (ms:List Nat) (hne:ms≠[]) (hnd:ms.Nodup) (hm:∀f∈ms,f < fs.length) (σ0:AH) (js jn:Nat) (r:Db) (τ:AH) (hH:HI dt σ0 τ fs.length js jn r) (Q:AV->AH->Prop) (k:List CI) (a40 a41 a42:DV)
 (hbad:∀(e:Int) (m:Nat) τ' k',Rd fs dt r ms= .error (e,m)->σ0.le τ'->Run Bc Q (.code .ret::k') (put 2 (.lp 2 0) (put 3 (.lp 3 0) U)) (At 2 [.Ad,.Ad] (At 3 [.d (.int .i64 e),.d (.int .i64 (m:Int)),.d (.int .i64 0)] E)) τ')
 (hk:∀r' τ',Rd fs dt r ms= .ok r'->HI dt σ0 τ' fs.length js jn r'->(∀f∈ms,bJ fs dt r' f)->(∀f,f ∉ ms->r'.1[f]?=r.1[f]?/\r'.2[f]?=r.2[f]?)->
   Run Bc Q k (put 1 (.lp 1 0) (put 2 (.lp 2 0) (put 3 (.lp 3 0) (put 5 (dsA dt) (put 7 (.lp 7 0) (put 40 (.d a40) (put 41 (.d a41) (put 42 (.d a42) U)))))))) (LI (.sl (ds.map DE.enc)) (.sl (fs.map FE.enc)) js jn fs.length) τ'):
 ∀(τ1:AH) (i jm jp jr je j:Nat) (τ0:AH),NGI τ τ0 fs.length (.sl (ds.map DE.enc)) (.sl (fs.map FE.enc)) (dsA dt) (.ms js fs.length 5 eSs) i jm jp jr je j (ngP fs ms)->τ1=τ0.AL jp (psC (pgl (ngP fs ms).ps))->
 Run Bc Q (.code (PA (PA (AaP Hk)))::k) (put 1 (.lp 1 0) (put 2 (.lp 2 0) (put 3 (.lp 3 0) (put 5 (dsA dt) (put 7 (.lp 7 0) (put 9 (.d (.sl (ms.map CN))) (put 10 (.gp i 0) (put 40 (.d a40) (put 41 (.d a41) (put 42 (.d a42) U)))))))))) (LI (.sl (ds.map DE.enc)) (.sl (fs.map FE.enc)) js jn fs.length) τ1:=by
 rintro τ1 i jm jp jr je j τ0 hNG rfl;obtain ⟨hS,hI,hold,hl00⟩:=ARR hF hH hm hnd hne hNG;generalize hext:exN i je j (τ0.AL jp (psC (pgl (ngP fs ms).ps)))=ext0 at hS hI hold;generalize τ0.AL jp (psC (pgl (ngP fs ms).ps))=τ1 at *;have holdσ:∀k c,σ0.blk k=some c->ext0 k=some c:=fun k c hk=>hold k c (hH.mo.blk k c hk);have hmod:=@AS4 fs dt r ms;have hexc:=@AS5 fs dt r ms;have hokk:=@AWD fs dt r ms;unfold Hk;simp only [AaP,PA];rw [dsA] at hk ⊢;(repeat' (refine wQ ?_<;>try simp only [AA,go_sem]));refine ADQ (gB fs ds dt r ms i je jm jp jr js) ext0 ms hS σ0 Q _ (.sl (ds.map DE.enc)) (.sl (fs.map FE.enc)) js jn fs.length (ig0 fs ms) τ1 _ j hI (.sl (dt.map Dat.enc)) a40 a41 a42 (fun τ2 c es ext j2 hI2=>?_);have hG:(gB fs ds dt r ms i je jm jp jr js).G=gcP fs dt r.1 ms:=rfl;have hBi:(gB fs ds dt r ms i je jm jp jr js).i=i:=rfl;rw [hG] at hI2;generalize hst:ms.foldl (igF (gcP fs dt r.1 ms)) (ig0 fs ms)=st at *;have hl0:st.s.1≠[]:=fun e=>by have:=hI2.gi0.pos;simp only [GS.nx,e] at this;cases this
 have hln:st.s.1.length<=900000000:=by
  have h1:st.s.1.length<=1000+1000000 * szM fs ms:=hI2.hi;have h2:szM fs ms<=Va fs:=AS1 fs hnd;have:=hF.sz;omega
 have hbi:=hI2.sn.blk;rw [Em hl0,hBi] at hbi
 obtain ⟨m0,hm0⟩:∃m0,ms[0]?=some m0:=by
  cases ms with
  |nil=>exact absurd rfl hne
  |cons a l=>exact ⟨a,rfl⟩
 have hmh:ms.headD 0=m0:=by
  cases ms with
  |nil=>exact absurd rfl hne
  |cons a l=>simpa using hm0
 have hm0r:=HT hm0;have hmo:∀τ',(∀k c,ext k=some c->τ'.blk k=some c)->(nbH σ0).le τ'->σ0.le τ':=fun τ' h1 h2=>Mo.le ⟨fun k c hk=>h1 k c (hI2.sub k c (holdσ k c hk)),h2⟩;have htx:TX ((gB fs ds dt r ms i je jm jp jr js).w ext c es) ext st.s.1 st.s.2 j2 τ2:=⟨hI2.sn,hI2.x,hI2.xi,hI2.jj.1⟩;rw [hBi];cases hfl:st.s.2 with
 |true=>
  rw [hfl] at hbi;have he:=hmod (.inl hfl);rw [hmh] at he;(repeat' (first|refine ctQ rfl ?_|((first|refine rgQ mxQ ?_|refine cdQ ?_)<;>try simp only [hbi,go_sem])|fail));refine Run.IX mixed ?_;simp only [hm0r,Int.le_refl,Int.toNat_zero,go_sem]
  first
   |exact hbad 6 m0 τ2 _ he (hmo τ2 hI2.x hI2.nb)
   |(refine ⟨?_,?_⟩<;>exact hbad 6 m0 τ2 _ he (hmo τ2 hI2.x hI2.nb))
 |false=>
  rw [hfl] at hbi;(repeat' (refine wQ ?_<;>try simp only [hbi,go_sem]));have hs2:=hI2.sn;have hfc:=lI i _ st.s.1 st.s.2 j2 τ2 hl0 hln hs2;refine AI.mk rfl hfc ?_;rintro _ τ3 ⟨rfl,j3,sn3,fr3⟩;have htx3:=htx.step hl0 sn3 fr3;have hnb3:=D3 hI2.nb (fr3.nb2 (Hq τ2));cases hfin:qX st.s.1 with
  |false=>
   have he:=hmod (.inr hfin);rw [hmh] at he;simp only [go_sem];(repeat' (first|refine ctQ rfl ?_|((first|refine rgQ mxQ ?_|refine cdQ ?_)<;>try simp only [go_sem])|fail));refine Run.IX mixed ?_;simp only [hm0r,Int.le_refl,Int.toNat_zero,go_sem]
   first
    |exact hbad 6 m0 τ3 _ he (hmo τ3 htx3.x hnb3)
    |(refine ⟨?_,?_⟩<;>exact hbad 6 m0 τ3 _ he (hmo τ3 htx3.x hnb3))
  |true=>
   have hnn:¬(st.s.2=true\/qX st.s.1=false):=by rw [hfl,hfin];simp
   obtain ⟨d,hd⟩:=AQP sn3.Gs hfin;simp only [go_sem];(repeat' (first|refine ctQ rfl ?_|((first|refine rgQ mxQ ?_|refine cdQ ?_)<;>try simp only [go_sem])|fail));refine AI.mk rfl (oY i _ st.s.1 st.s.2 j3 τ3 hl0 hln sn3) ?_;rintro _ τ4 ⟨j1,jc3,jc4,jz,rfl,hmo4,hjz,hsx,x1,x3,x4⟩;have hxi:ext i=none:=hI2.xi
   have hext:∀k c,ext k=some c->exT i j3 jz τ4 k=some c:=fun k c hk=>by
    have h1:=htx3.x k c hk;refine JD (hmo4.blk k c h1) (fun e=>by rw [e,hxi] at hk;cases hk) (fun e=>by rw [e,htx3.xj] at hk;cases hk) (fun e=>by rw [e,hjz] at h1;cases h1)
   have hje2:τ3.blk je=some es:=by rw [fr3.blk je (A6 hS.ie) (fun _=>A6 hI2.jj.2) (by rw [show τ2.blk je=some es from hI2.e];simp)];exact hI2.e
   have hj3:j3≠je:=by
    rcases fr3.nw hl0 with ⟨_,e⟩|e
    . rw [e];exact hI2.jj.2
    . exact fun e2=>by rw [e2,show τ2.blk je=some es from hI2.e] at e;cases e
   have hjz2:je≠jz:=fun e=>by rw [<- e,hje2] at hjz;cases hjz
   have hxe:exT i j3 jz τ4 je=some es:=JD (hmo4.blk _ _ hje2) (A6 hS.ie) (A6 hj3) hjz2
   have hM:MF (gB fs ds dt r ms i je jm jp jr js) ms es st (exT i j3 jz τ4):=⟨hext _ _ (hI2.sub _ _ hS.m),hext _ _ (hI2.sub _ _ hS.p),hext _ _ (hI2.sub _ _ hS.r),hxe,hI2.el,fun f hf=>by
    obtain ⟨jc,h1,h2,_⟩:=hI2.cell f hf;exact ⟨jc,h1,fun hn=>hext _ _ (h2 hn)⟩,hI2.gi,hI2.gi0⟩
   have hJE:JE (exT i j3 jz τ4) i st.s.1 d jz j1 jc3 jc4:=⟨hln,hd,x1,x3,x4⟩;have hjs2:exT i j3 jz τ4 js=some (V9 r.1):=hext _ _ (hI2.sub _ _ (hold _ _ hH.b1));have hjn2:exT i j3 jz τ4 jn=some (ntC r.2):=hext _ _ (hI2.sub _ _ (hold _ _ hH.b2));have hjsx:ext0 js=some (V9 r.1):=hold _ _ hH.b1;have hjnx:ext0 jn=some (ntC r.2):=hold _ _ hH.b2;simp only [go_sem];(repeat' (first|refine ctQ rfl ?_|((first|refine rgQ mxQ ?_|refine cdQ ?_)<;>try simp only [AA,go_sem])|fail));refine ADP (gB fs ds dt r ms i je jm jp jr js) ext0 ms hS c es st (exT i j3 jz τ4) hM d σ0 jz j1 jc3 jc4 hl0 hJE Q _ (.sl (ds.map DE.enc)) (.sl (fs.map FE.enc)) js jn fs.length (.sl (dt.map Dat.enc)) a40 a41 a42 τ4 ⟨D3 hnb3 hmo4.nb,_,j3,KN.zero st.s.1,hsx⟩ ?_ ?_
   . rintro f τ5 k' hf ⟨hnb5,kn,j5,hkn,hs5⟩;exact hbad 9 f τ5 k' (hexc hnn hf) (hmo τ5 (fun k c hk=>hs5.x k c (hext k c hk)) hnb5)
   . rintro τ5 hno ⟨hnb5,kn,j5,hkn,hs5⟩;have hdone:=AQV hF hS hI2 hd hno hH.l1 hH.l2 hH.so hln;have htg:=hokk hnn hno;have hlen:=tC (gcP fs dt r.1 ms) st.s.1 st.en ms r;have hrest:=fun f (hf:f ∉ ms)=>(ABD (gcP fs dt r.1 ms) st.s.1 st.en ms r f hnd).1 hf;have hnis:i≠js:=fun e=>by have:=hI2.xi;rw [hBi,e,hI2.sub _ _ hjsx] at this;cases this
     have hnin:i≠jn:=fun e=>by have:=hI2.xi;rw [hBi,e,hI2.sub _ _ hjnx] at this;cases this
     have hx5:=hs5.xj hl0
     have htx5:TX ((gB fs ds dt r ms i je jm jp jr js).w (H8 ext je es) c es) (exR (H8 ext je es) js jn r) st.s.1 st.s.2 j5 τ5:=by
      refine ⟨hs5.sn,fun k5 cs hkk=>?_,AAC r hnis hnin ?_,AAC r (fun e=>by rw [e,hjs2] at hx5;cases hx5) (fun e=>by rw [e,hjn2] at hx5;cases hx5) ?_⟩
      . unfold exR at hkk;split at hkk
        . rename_i e;subst e;cases hkk;exact hs5.x _ _ hjs2
        . split at hkk
          . rename_i e;subst e;cases hkk;exact hs5.x _ _ hjn2
          . unfold H8 at hkk;split at hkk
            . rename_i e;subst e;cases hkk;exact hs5.x _ _ hxe
            . exact hs5.x _ _ (hext _ _ hkk)
      . show (if i=je then some es else ext i)=none;rw [if_neg (show i≠je from hS.ie)];exact hxi
      . unfold H8;rw [if_neg (fun e=>by rw [e,hxe] at hx5;cases hx5)];cases he:ext j5 with
        |none=>rfl
        |some cs=>rw [hext _ _ he] at hx5;cases hx5
     have hnejs:je≠js:=fun e=>by have:=hI2.xe;have h1:=hI2.sub _ _ hjsx;rw [<- e] at h1;rw [show (gB fs ds dt r ms i je jm jp jr js).je=je from rfl,h1] at this;cases this
     have hnejn:je≠jn:=fun e=>by have:=hI2.xe;have h1:=hI2.sub _ _ hjnx;rw [<- e] at h1;rw [show (gB fs ds dt r ms i je jm jp jr js).je=je from rfl,h1] at this;cases this
     have hput:∀r',∀k c,ext k=some c->k≠js->k≠jn->exR (H8 ext je es) js jn r' k=some c:=fun r' k c hk h1 h2=>by
      unfold exR;rw [if_neg h1,if_neg h2];unfold H8;rw [if_neg (fun e=>by rw [e,show ext je=none from hI2.xe] at hk;cases hk)];exact hk
     have hM2:∀r',MF (gB fs ds dt r ms i je jm jp jr js) ms es st (exR (H8 ext je es) js jn r'):=fun r'=>by
      obtain ⟨_,f2,f3,f4,_⟩:=hNG.fr;have hfr:∀k,τ.blk k=none->k≠js/\k≠jn:=fun k h=>⟨fun e=>(by rw [e,hH.b1] at h;cases h),fun e=>(by rw [e,hH.b2] at h;cases h)⟩;refine ⟨hput r' _ _ (hI2.sub _ _ hS.m) (hfr _ f2).1 (hfr _ f2).2,hput r' _ _ (hI2.sub _ _ hS.p) (hfr _ f3).1 (hfr _ f3).2,hput r' _ _ (hI2.sub _ _ hS.r) (hfr _ f4).1 (hfr _ f4).2,?_,hI2.el,fun f hf=>?_,hI2.gi,hI2.gi0⟩
      . show exR (H8 ext je es) js jn r' je=some es;unfold exR;rw [if_neg hnejs,if_neg hnejn];exact qV _ _ _
      . obtain ⟨jc,h1,h2,h3⟩:=hI2.cell f hf;exact ⟨jc,h1,fun hn=>hput r' _ _ (h2 hn) (fun e=>by rw [e,hjsx] at h3;cases h3) (fun e=>by rw [e,hjnx] at h3;cases h3)⟩
     (repeat' (refine wQ ?_<;>try simp only [AA,go_sem]));refine ADR (gB fs ds dt r ms i je jm jp jr js) ext0 ms hS c es st (H8 ext je es) js jn hH.ne hM2 d hd hl0 hln hno (fun q hq=>hS.gv.ps q hq) Q _ (.sl (ds.map DE.enc)) (.sl (fs.map FE.enc)) (.sl (dt.map Dat.enc)) a40 a41 a42 r hH.l1 hH.l2 σ0 τ5 j5 hnb5 htx5 (fun τ6 j6 hnb6 htx6=>?_);refine hk _ τ6 htg ⟨⟨fun k c hk=>?_,hnb6⟩,hH.j1,hH.j2,hH.ne,htx6.x js _ (by simp [exR,hG]),htx6.x jn _ (by simp [exR,A6 hH.ne,hG]),by rw [hlen.1];exact hH.l1,by rw [hlen.2];exact hH.l2,hdone.1⟩ hdone.2 hrest;exact htx6.x k c (hput _ k c (hI2.sub _ _ (holdσ k c hk)) (fun e=>by rw [e,hH.j1] at hk;cases hk) (fun e=>by rw [e,hH.j2] at hk;cases hk))
def bJ.Gw {fs:List FE} {dt:List Dat} {r':Db} {f:Nat} (h:bJ fs dt r f) (e:r'.1[f]?=r.1[f]?/\r'.2[f]?=r.2[f]?):bJ fs dt r' f:=by
 obtain ⟨l,d,G,en,pl,rf,h1,h2,h3,h4,h5,h6⟩:=h;exact ⟨l,d,G,en,pl,rf,h1,h2,h3,by rw [e.1];exact h4,by rw [e.2];exact h5,h6⟩
def AHQ (fs:List FE) (ds:List DE) (dt:List Dat) (hF:PF fs dt) (gs:List (List Nat)) (hgl:gs.length<=1000) (hne:∀ms∈gs,ms≠[]) (hnd:gs.flatten.Nodup) (hm:∀f∈gs.flatten,f < fs.length) (σ0:AH) (js jn:Nat) (r0:Db) (τ:AH) (hH:HI dt σ0 τ fs.length js jn r0) (Q:AV->AH->Prop) (k:List CI)
 (hbad:∀(e:Int) (m:Nat) τ' k',Fx fs dt gs r0= .error (e,m)->σ0.le τ'->Run Bc Q (.code .ret::k') (put 2 (.lp 2 0) (put 3 (.lp 3 0) U)) (At 2 [.Ad,.Ad] (At 3 [.d (.int .i64 e),.d (.int .i64 (m:Int)),.d (.int .i64 0)] E)) τ')
 (hk:∀r τ' a40 a41 a42,Fx fs dt gs r0= .ok r->HI dt σ0 τ' fs.length js jn r->(∀f∈gs.flatten,bJ fs dt r f)->
   Run Bc Q k (put 1 (.lp 1 0) (put 2 (.lp 2 0) (put 3 (.lp 3 0) (put 5 (dsA dt) (put 7 (.lp 7 0) (put 40 (.d a40) (put 41 (.d a41) (put 42 (.d a42) U)))))))) (LI (.sl (ds.map DE.enc)) (.sl (fs.map FE.enc)) js jn fs.length) τ'):
 Run Bc Q (.code (.loop Hk)::.blk 0::k) (put 1 (.lp 1 0) (put 2 (.lp 2 0) (put 3 (.lp 3 0) (put 5 (dsA dt) (put 7 (.lp 7 0) (put 40 (P2 gs) (put 41 (.d (.int .i64 gs.length)) (put 42 (.d (.int .i64 0)) U)))))))) (LI (.sl (ds.map DE.enc)) (.sl (fs.map FE.enc)) js jn fs.length) τ:=by
 rw [P2,dsA] at *;refine Run.BB ?_
 refine Run.BE ((fun (a1:AV) (a2:AV) (a3:AV) (a5:AV) (a7:AV) (a40:AV) (a41:AV)=>fun (z:Nat×AH)=>put 1 a1 (put 2 a2 (put 3 a3 (put 5 a5 (put 7 a7 (put 40 a40 (put 41 a41 (put 42 (.d (.int .i64 z.1)) U)))))))) _ _ _ _ _ _ _) (fun _=>LI (.sl (ds.map DE.enc)) (.sl (fs.map FE.enc)) js jn fs.length) (fun z=>z.2)
  (fun z=>z.1<=gs.length/\∃r,Fx fs dt gs r0=Fx fs dt (gs.drop z.1) r/\HI dt σ0 z.2 fs.length js jn r/\∀f∈(gs.take z.1).flatten,bJ fs dt r f)
  (fun z=>gs.length - z.1) ?_ (0,τ) ⟨by simp,r0,by simp,hH,by simp⟩
 clear hH;rintro ⟨p,τ1⟩ ⟨hp,r,hgo,hH,hty⟩ ih;simp only at hp hgo hH hty;by_cases hlt:p < gs.length
 . obtain ⟨ms,hms⟩:=Ai hlt;have hmr:=AOE hms;have hmm:=AD hms;have hw1:=wsu p;have hdr:=By hms;rw [hdr] at hgo;have hfl:∀f∈ms,f∈gs.flatten:=fun f hf=>List.mem_flatten.2 ⟨ms,hmm,hf⟩;have hsp:(gs.take (p+1)).flatten=(gs.take p).flatten++ms:=by rw [A5 hms,It];simp
   have hnd2:((gs.take p).flatten++ms).Nodup:=by
    rw [<- hsp];have h1:=hnd;rw [<- A7 (p+1) gs,It] at h1;exact (G6.1 h1).1
   have hmsn:ms.Nodup:=(G6.1 hnd2).2.1;have hdis:∀f∈(gs.take p).flatten,f ∉ ms:=fun f h1 h2=>(G6.1 hnd2).2.2 f h1 f h2 rfl;have hpar:∀f∈fs,f.params.length<=1000:=fun f hf=>by have:=hF.pr f hf;omega
   have hlf:=hF.lf;have hml:=Y1 hmsn (fun f hf=>hm f (hfl f hf));have hnew:=AD9 τ1 fs ds dt js fs.length ms (by omega) (fun f hf=>hm f (hfl f hf)) (by omega) hpar;rw [dsA] at hnew;(repeat' (first|refine ctQ rfl ?_|((first|refine rgQ mxQ ?_|refine cdQ ?_)<;>try simp only [Ap hlt,hmr,go_sem])|fail));refine AI.mk rfl hnew ?_;rintro _ τ2 ⟨i,jm,jp,jr,je,j,τ3,rfl,hNG,rfl⟩;simp only [go_sem];refine AMT fs ds dt hF ms (hne ms hmm) hmsn (fun f hf=>hm f (hfl f hf)) σ0 js jn r τ1 hH Q _ _ _ _ (fun e m τ' k' he hle=>hbad e m τ' k' (by rw [hgo,Fx,he]) hle) (fun r' τ' htg hH' hty' hrest=>?_) _ i jm jp jr je j τ3 hNG rfl;rw [dsA];(repeat' (refine wQ ?_<;>try simp only [hw1,go_sem]));refine ih ⟨p+1,τ'⟩ ⟨hlt,r',by rw [hgo,Fx,htg],hH',fun f hf=>?_⟩ (by simp only;omega);rw [hsp] at hf;rcases AZ.1 hf with hf|hf
   . exact (hty f hf).Gw (hrest f (hdis f hf))
   . exact hty' f hf
 . have hpe:p=gs.length:=by omega
   subst hpe;rw [BQ] at hty;rw [N9,Fx] at hgo;(repeat' (refine wQ ?_<;>try simp only [B7 hlt,go_sem]));refine Run.JP [1,2,3,5,7,40,41,42] ?_;have:=hk r τ1 (.sl (gs.map fun r=>[DV.sl (r.map CN)])) (.int .i64 gs.length) (.int .i64 gs.length) hgo hH hty;simp only [go_sem];exact this
def dH:∀a b:List AV,AV.CV (a++b)=AV.CV a++AV.CV b
 |[],b=>by simp [AV.CV]
 |x::a,b=>by rw [AX,AV.CV,AV.CV,dH a b];rfl
def yZ (s:Sch) (l:List Sch):V9 (s::l)=s.row++V9 l:=Gy _ _ _
def AOH (n:Nat):AV.CV (AG n [AV.d (.int .i64 0),.Ad,.d (.int .i64 0),.d (.int .i64 0),.Ad]).flatten=V9 (AG n lF):=by
 induction n with
 |zero=>rfl
 |succ n ih=>rw [BV,BW,dH,ih,BV,yZ];simp [AV.CV,HU,HV,Sch.row,lF,Ty.kind,Ty.num,Ty.args]
def ARW (n:Nat):AV.CV (AG n [AV.Ad]).flatten=ntC (AG n []):=by
 induction n with
 |zero=>rfl
 |succ n ih=>rw [BV,BW,dH,ih,BV];simp [AV.CV,HV,ntC,ntR]
def JS (s:Sch):List DV:=[.int .i64 s.vars,.sl (s.params.map Ty.enc),.int .i64 s.res.kind,.int .i64 s.res.num,.sl (s.res.args.map Ty.enc)]
def Y2 (l:List Nt):List DV:=[.sl (l.map If)]
def AJ0:∀l:List Sch,dvs (V9 l)=some (l.map JS).flatten
 |[]=>rfl
 |s::l=>by
  have:=AJ0 l;rw [yZ];simp only [Sch.row,AX,Ag,dvs,AYD,this,AF,BW,JS];rfl
def AQA:∀l:List (List Nt),dvs (ntC l)=some (l.map fun x=>DV.sl (x.map If))
 |[]=>rfl
 |s::l=>by
  have:=AQA l;simp only [ntC,AF] at this ⊢;simp only [ntR,dvs,AYD,this];rfl
def xO:∀l:List Sch,chunk 5 l.length (l.map JS).flatten=l.map JS
 |[]=>rfl
 |s::l=>by
  have:=xO l;simp only [A0,chunk,AF,BW];rw [show ((JS s)++(l.map JS).flatten).take 5=JS s from rfl,show ((JS s)++(l.map JS).flatten).drop 5=(l.map JS).flatten from rfl,this]
def ACX:∀l:List (List Nt),chunk 1 l.length (l.map fun x=>DV.sl (x.map If))=l.map Y2
 |[]=>rfl
 |s::l=>by
  have:=ACX l;simp only [A0,chunk,AF,C7,C0,Ez,TG,this];rfl
def cW:Except Dg Db->AV
 | .error d=>.tup [.agg [.d (.sl []),.d (.sl [])],.agg [.d (.int .i64 d.1),.d (.int .i64 d.2.1),.d (.int .i64 d.2.2)]]
 | .ok r=>.tup [.agg [.d (.sl (r.1.map JS)),.d (.sl (r.2.map Y2))],.agg [.d (.int .i64 0),.d (.int .i64 0),.d (.int .i64 0)]]
def AMU {dt:List Dat} {Y τ:AH} {n:Nat} (h:HI dt Y τ n js jn r) (hn:n<=24) (Q:AV->AH->Prop) (k:List CI) (hQ:Q (cW (.ok r)) Y):
 Run Bc Q (.code .ret::k) (put 2 (.lp 2 0) (put 3 (.lp 3 0) U)) (At 2 [.ms js n 5 eSs,.ms jn n 1 eNn] (At 3 [.d (.int .i64 0),.d (.int .i64 0),.d (.int .i64 0)] E)) τ:=by
 have hl1:=h.l1;have hl2:=h.l2;refine Run.freeze (i:=js) (n:=n) (size:=5) (cs:=V9 r.1) (ds:=(r.1.map JS).flatten) (σ':=τ.Cs js) (L':=At 2 [.d (.sl (r.1.map JS)),.ms jn n 1 eNn] (At 3 [.d (.int .i64 0),.d (.int .i64 0),.d (.int .i64 0)] E)) (F':=put 2 (.lp 2 0) (put 3 (.lp 3 0) U)) h.b1 (AJ0 r.1) (by rw [Oz Sch.row 5 Sch.F6,hl1]) (Af hn (show (24:Nat)<=maxLen by decide+kernel)) (fun s=>.inl rfl) (fun q cs' hq=>?_) (fun j cs' hj=>?_) (fun t ht=>ht) ?_
 . by_cases e:q=2
   . subst e;refine ⟨_,rfl,.inr ?_⟩;have hq:some [AV.d (.sl (r.1.map JS)),.ms jn n 1 eNn]=some cs':=hq;cases hq;have hc:chunk 5 n (r.1.map JS).flatten=r.1.map JS:=by rw [<- hl1];exact xO r.1
     simp only [T5,frz,hc,and_self,if_true,A6 h.ne,false_and,if_false]
   . refine ⟨cs',?_,.inl rfl⟩;simp only [At,if_neg e] at hq ⊢;exact hq
 . rw [Di] at hj;split at hj
   . cases hj
   . rename_i e;exact ⟨e,cs',hj,.inl rfl⟩
 refine Run.freeze (i:=jn) (n:=n) (size:=1) (cs:=ntC r.2) (ds:=r.2.map fun x=>DV.sl (x.map If)) (σ':= { τ with blk:=fun j=>if (Y.blk j).isSome then τ.blk j else none}) (L':=At 2 [.d (.sl (r.1.map JS)),.d (.sl (r.2.map Y2))] (At 3 [.d (.int .i64 0),.d (.int .i64 0),.d (.int .i64 0)] E)) (F':=put 2 (.lp 2 0) (put 3 (.lp 3 0) U)) (by rw [Di,if_neg (A6 h.ne)];exact h.b2) (AQA r.2) (by simp [ntC,hl2]) (Af hn (show (24:Nat)<=maxLen by decide+kernel)) (fun s=>.inl rfl) (fun q cs' hq=>?_) (fun j cs' hj=>?_) (fun t ht=>ht) ?_
 . by_cases e:q=2
   . subst e;refine ⟨_,rfl,.inr ?_⟩;have hq:some [AV.d (.sl (r.1.map JS)),.d (.sl (r.2.map Y2))]=some cs':=hq;cases hq;have hc:chunk 1 n (r.2.map fun x=>DV.sl (x.map If))=r.2.map Y2:=by rw [<- hl2];exact ACX r.2
     simp only [T5,frz,hc,and_self,if_true]
   . refine ⟨cs',?_,.inl rfl⟩;simp only [At,if_neg e] at hq ⊢;exact hq
 . simp only at hj;cases hs:Y.blk j with
   |none=>rw [hs] at hj;cases hj
   |some c=>
    rw [hs] at hj;refine ⟨fun e=>(by rw [e,h.j2] at hs;cases hs),cs',?_,.inl rfl⟩;rw [Di,if_neg (fun e=>by rw [e,h.j1] at hs;cases hs)];exact hj
 . refine Run.Bg Kq (σ2:=Y) (AH4 h.mo.le) ?_;simp only [J3,go_sem];exact hQ
def bdA (b:Bd):AV:= .agg [.d (.sl (b.notes.map If)),.d (.sl (b.params.map Ty.enc)),.d (.int .i64 b.res.kind),.d (.int .i64 b.res.num),.d (.sl (b.res.args.map Ty.enc))]
def AHT:Option Bd->AV
 |some b=>.tup [bdA b,.d (.bool true)]
 |none=>.tup [.agg [.d (.sl []),.d (.sl []),.d (.int .i64 0),.d (.int .i64 0),.d (.sl [])],.d (.bool false)]
def AUZ {dt:List Dat} {f:Nat} {args:List Ty} {s:Sch} {nt:List Nt} (h1:r.1[f]?=some s) (h2:r.2[f]?=some nt):Nu dt r ((f:Int),args)=
 if (args.length:Int)=s.vars/\args.all (Q7 dt)=true/\FY args s.params=true/\Xg args s.res=true/\nt.all (e8 args)=true then some ⟨nt.map (AJA args),Ty.G3 args s.params,s.res.subst args⟩ else none:=by
 have hl:=(AE.1 h1).1;unfold Nu;rw [if_pos (by simp only;omega)];simp only [CO,h1,h2]
def wA (dt:List Dat) (t:Ty) (a b c d:AV) (j:Nat) (Y:AH) (hj:Y.blk j=some [a,b,dsA dt,c,d]):
 AR Tzp 64 [tyA t,.gp j 0] Y (fun v σ'=>v= .d (.bool (!Q7 dt t))/\σ'=Y):=by
 have hv:=o5 dt t 0 Y;refine Nr (by simp) ?_;rw [BD];obtain ⟨k,n,l⟩:=t;unfold dsA at hv hj;(repeat' (first|refine ctQ rfl ?_|((first|refine rgQ mxQ ?_|refine cdQ ?_|refine Run.qP H9 ?_|refine AI.det (hv) ?_|(refine Ae rfl (fun h=>?_) (fun h=>?_)<;>try (cases h;done)))<;>try simp only [hj,go_sem])|(refine ⟨fun h=>?_,fun h=>?_⟩<;>first|(cases h;done)|try simp only [h])|fail));rfl
abbrev eNs:Nat:=54
def YL (ds fs:DV) (dt:List Dat) (r:Db) (hr:∀f,f < r.1.length->∃fe,zM dt r fe f/\fe.body.size<=100000/\fe.params.length<=6) (x:KV) (Y:AH):
 AR Tzp 32 [.agg [.d ds,.d fs,dsA dt,.d (.sl (r.1.map JS)),.d (.sl (r.2.map Y2))],.agg [.d (.int .i64 x.1),N5 x.2]] Y (fun v σ'=>v=AHT (Nu dt r x)/\σ'=Y):=by
 obtain ⟨f,args⟩:=x;refine Pc (by simp) ?_;rw [BD,N5,dsA,Ty.Bf];(repeat' (first|refine Run.cb rfl ?_|((first|refine rgQ mxQ ?_|refine cdQ ?_|(refine Ae rfl (fun h=>?_) (fun h=>?_)<;>try (cases h;done)))<;>try simp only [go_sem])|(refine ⟨fun h=>?_,fun h=>?_⟩<;>first|(cases h;done)|try simp only [h])|fail));intro j hj;have hle:Y.le (Y.AL j [.d ds,.d fs,.d (.sl (dt.map Dat.enc)),.d (.sl (r.1.map JS)),.d (.sl (r.2.map Y2))]):=CK hj;have hbj:(Y.AL j [.d ds,.d fs,.d (.sl (dt.map Dat.enc)),.d (.sl (r.1.map JS)),.d (.sl (r.2.map Y2))]).blk j=some [.d ds,.d fs,.d (.sl (dt.map Dat.enc)),.d (.sl (r.1.map JS)),.d (.sl (r.2.map Y2))]:=BT;generalize Y.AL j [.d ds,.d fs,.d (.sl (dt.map Dat.enc)),.d (.sl (r.1.map JS)),.d (.sl (r.2.map Y2))]=σ1 at hle hbj ⊢;by_cases h0:f < 0
 . have hi:Nu dt r (f,args)=none:=by unfold Nu;rw [if_neg (by simp only;omega)]
   rw [hi];(repeat' (first|refine ctQ rfl ?_|((first|refine rgQ mxQ ?_|refine cdQ ?_|(refine Run.Bg CG hle ?_)|(refine Ae rfl (fun h=>?_) (fun h=>?_)<;>try (cases h;done)))<;>try simp only [decide_eq_true h0,go_sem])|(refine ⟨fun h=>?_,fun h=>?_⟩<;>first|(cases h;done)|try simp only [h])|fail));rfl
 obtain ⟨m,rfl⟩:∃m:Nat,f=m:=⟨f.toNat,by omega⟩;by_cases hm:m < r.1.length
 case neg=>
  have hi:Nu dt r ((m:Int),args)=none:=by unfold Nu;rw [if_neg (by simp only;omega)]
  rw [hi];(repeat' (first|refine ctQ rfl ?_|((first|refine rgQ mxQ ?_|refine cdQ ?_|(refine Run.Bg CG hle ?_)|(refine Ae rfl (fun h=>?_) (fun h=>?_)<;>try (cases h;done)))<;>try simp only [hbj,decide_eq_false h0,leT hm,AA,go_sem])|(refine ⟨fun h=>?_,fun h=>?_⟩<;>first|(cases h;done)|try simp only [h])|fail));rfl
 obtain ⟨fe,⟨s,nt,h1,h2,⟨vn,hvn,hvb⟩,hpl,hbl,hty,hno⟩,hfe,hfp⟩:=hr m hm;rw [AUZ h1 h2];have e1:=BI (enc:=JS) h1;have e2:=BI (enc:=Y2) h2;obtain ⟨sv,sp,⟨rk,rn,rus⟩⟩:=s;simp only [JS,Ty.kind,Ty.num,Ty.args] at e1;simp only [Y2] at e2;simp only at hvn hpl hty hno;by_cases hv:(args.length:Int)=sv
 case neg=>
  rw [if_neg (fun h=>hv h.1)];have hvb:=neB hv;(repeat' (first|refine ctQ rfl ?_|((first|refine rgQ mxQ ?_|refine cdQ ?_|(refine Run.Bg CG hle ?_)|(refine Ae rfl (fun h=>?_) (fun h=>?_)<;>try (cases h;done)))<;>try simp only [hbj,decide_eq_false h0,leF hm,AA,e1,hvb,go_sem])|(refine ⟨fun h=>?_,fun h=>?_⟩<;>first|(cases h;done)|try simp only [h])|fail));rfl
 have hvb:=eqB hv;have hct:=bG (fid:=64) (caps:=[.gp j 0]) (by kernel_rfl) rfl (fun t=>!Q7 dt t) args σ1 (fun t _=>wA dt t _ _ _ _ j σ1 hbj);have hany:args.any (fun t=>!Q7 dt t)=!args.all (Q7 dt):=by rw [Ak];simp
 rw [hany] at hct;cases hga:args.all (Q7 dt) with
 |false=>
  rw [hga] at hct;rw [if_neg (fun h=>by cases h.2.1)];(repeat' (first|refine ctQ rfl ?_|((first|refine rgQ mxQ ?_|refine cdQ ?_|(refine Run.Bg CG hle ?_)|refine AI.det (hct) ?_|(refine Ae rfl (fun h=>?_) (fun h=>?_)<;>try (cases h;done)))<;>try simp only [hbj,decide_eq_false h0,leF hm,AA,e1,hvb,go_sem])|(refine ⟨fun h=>?_,fun h=>?_⟩<;>first|(cases h;done)|try simp only [h])|fail));rfl
 |true=>
 rw [hga] at hct
 have ha:∀t∈args,t.size<=200:=fun t ht=>by
  have:=Aj.1 hga t ht;simp only [Q7,AO,decide_eq_true_eq] at this;exact this.1
 have hps:∀t∈sp,t.size<=200:=fun t ht=>(hty t (by simp [ht])).1;have hrs:(Ty.mk rk rn rus).size<=200:=(hty _ (by simp)).1;(repeat' (first|refine ctQ rfl ?_|((first|refine rgQ mxQ ?_|refine cdQ ?_|refine AI.det (hct) ?_|(refine Ae rfl (fun h=>?_) (fun h=>?_)<;>try (cases h;done)))<;>try simp only [hbj,decide_eq_false h0,leF hm,AA,e1,hvb,go_sem])|(refine ⟨fun h=>?_,fun h=>?_⟩<;>first|(cases h;done)|try simp only [h])|fail));intro i hi
 have hi0:Y.blk i=none:=by
  cases h:Y.blk i with
  |none=>rfl
  |some c=>have:=hle.blk i c h;rw [hi] at this;cases this
 have hji:j≠i:=fun e=>by rw [<- e,hbj] at hi;cases hi
 have hg:=fun X=>(AJ σ1 i i X).trans (if_pos rfl);have hgj:=fun X=>(AJ σ1 i j X).trans ((if_neg hji).trans hbj);have hcA:=lR args ha sp hps (by omega) i false _ (hg (sbC args false));have hcR:=pW args ha (.mk rk rn rus) hrs i (!FY args sp) _ (hg (sbC args (!FY args sp)));simp only [Dr,Ep] at hcA hcR
 have hnew:(!FY args sp|| !Xg args (.mk rk rn rus))=false->apT args (!FY args sp) (.mk rk rn rus)=(Ty.mk rk rn rus).subst args:=fun h=>by
  have:(!FY args sp)=false:=by
   cases hq:(!FY args sp) with
   |false=>rfl
   |true=>rw [hq] at h;cases h
  rw [this];rfl
 generalize hB0:(!FY args sp|| !Xg args (.mk rk rn rus))=B0 at hcR hnew;generalize apT args (!FY args sp) (.mk rk rn rus)=w at hcR hnew;obtain ⟨wk,wn,wus⟩:=w;simp only [sbC,N5,Ty.Bf] at hcA hcR;simp only [tyA,Ty.enc,Ty.Bf,AF,AN] at hcR;(repeat' (first|refine ctQ rfl ?_|((first|refine rgQ mxQ ?_|refine cdQ ?_|(refine AI.mk rfl hcA ?_;rintro _ _ ⟨us,rfl,rfl,hul,hus⟩)|(refine AI.mk rfl hcR ?_;rintro _ _ ⟨rfl,rfl⟩)|(refine Ae rfl (fun h=>?_) (fun h=>?_)<;>try (cases h;done)))<;>try simp only [hgj,e2,AA,go_sem])|(refine ⟨fun h=>?_,fun h=>?_⟩<;>first|(cases h;done)|try simp only [h])|fail));have hbi0:=hg [.d (.sl (args.map Ty.enc)),.d (.bool B0)];have hl1:Y.le (σ1.AL i [.d (.sl (args.map Ty.enc)),.d (.bool B0)]):=EC hle hi0;generalize σ1.AL i [.d (.sl (args.map Ty.enc)),.d (.bool B0)]=τ0 at hbi0 hl1 ⊢;clear hcA hcR hgj hg hct hbj hi;refine Run.BB ?_
 refine Run.BE ((fun (a4:AV) (a7:AV) (a8:AV) (a62:AV) (a63:AV)=>fun (z:Nat×AV×AH)=>put 4 a4 (put 7 a7 (put 8 a8 (put 62 a62 (put 63 a63 (put 64 (.d (.int .i64 z.1)) U)))))) _ _ _ _ _) (fun z=>At 4 [.Ad,.Ad,.d (.int .i64 0),.d (.int .i64 0),.Ad] (At 8 [z.2.1,.d (.sl (us.map Ty.enc)),.d (.int .i64 wk),.d (.int .i64 wn),.d (.sl (wus.map Ty.enc))] E)) (fun z=>z.2.2)
  (fun z=>z.1<=nt.length/\∃ns,ns.length=z.1/\CC Y eNs 4 (ns.map If) z.2.1 z.2.2/\z.2.2.blk i=some (sbC args (B0|| !(nt.take z.1).all (e8 args)))/\((B0|| !(nt.take z.1).all (e8 args))=false->ns=(nt.take z.1).map (AJA args))) (fun z=>nt.length - z.1) ?_ (0,.Ad,τ0)
  ⟨by simp,[],rfl,(CC.nil τ0 eNs 4).base hl1,by simpa [sbC,N5,Ty.Bf] using hbi0,fun _=>rfl⟩
 clear hbi0 hl1;rintro ⟨p,v,τ⟩ ⟨hp,ns,hnl,ho,hbi,hns⟩ ih;simp only at hp hnl ho hbi hns;by_cases hlt:p < nt.length
 . obtain ⟨⟨t1,aa⟩,ht⟩:=Ai hlt;obtain ⟨⟨hts,_⟩,haa,hal⟩:=hno _ (AD ht);have he:=BI (enc:=If) ht;have hw1:=wsu p
   have hB2:((B0|| !(nt.take p).all (e8 args))|| !Xg args t1|| !FY args aa)=(B0|| !(nt.take (p+1)).all (e8 args)):=by
    rw [A5 ht,ZV];simp only [BO,Cq,e8,BU];cases B0<;>cases (nt.take p).all (e8 args)<;>cases Xg args t1<;>rfl
   have hsn:(nt.take (p+1)).map (AJA args)=(nt.take p).map (AJA args)++[(t1.subst args,Ty.G3 args aa)]:=by rw [A5 ht,Ao];rfl
   generalize (B0|| !(nt.take p).all (e8 args))=Bp at hB2 hbi hns;have hg:=fun X=>(AJ τ i i X).trans (if_pos rfl);have hc1:=pW args ha t1 hts i Bp τ hbi;have hc2:=lR args ha aa (fun a h=>(haa a h).1) hal i (Bp|| !Xg args t1) _ (hg (sbC args (Bp|| !Xg args t1)));simp only [Dr] at hc2;have hap:Bp=false->apT args Bp t1=t1.subst args:=fun h=>by rw [h];rfl
   generalize apT args Bp t1=w1 at hc1 hap;obtain ⟨q1,q2,q3⟩:=t1;obtain ⟨w1,w2,w3⟩:=w1;simp only [If,Ty.enc,AX,Ag] at he;simp only [tyA,Ty.enc,AF,AN] at hc1;(repeat' (first|refine ctQ rfl ?_|((first|refine rgQ mxQ ?_|refine cdQ ?_|(refine AI.mk rfl hc1 ?_;rintro _ _ ⟨rfl,rfl⟩)|(refine AI.mk rfl hc2 ?_;rintro _ _ ⟨us2,rfl,rfl,hul2,hus2⟩)|(refine Ae rfl (fun h=>?_) (fun h=>?_)<;>try (cases h;done)))<;>try simp only [Ap hlt,he,ho.w4,go_sem])|(refine ⟨fun h=>?_,fun h=>?_⟩<;>first|(cases h;done)|try simp only [h])|fail));refine Dh.own (ho.set hi0 _) rfl (by simp) (by simp;omega) (by omega) (fun v' τ2 ho' hb'=>?_);simp only [ho'.cells,ho'.cell,go_sem];(repeat' (first|refine ctQ rfl ?_|((first|refine rgQ mxQ ?_|refine cdQ ?_|(refine Ae rfl (fun h=>?_) (fun h=>?_)<;>try (cases h;done)))<;>try simp only [hw1,go_sem])|(refine ⟨fun h=>?_,fun h=>?_⟩<;>first|(cases h;done)|try simp only [h])|fail));refine ih ⟨p+1,v',τ2⟩ ⟨hlt,ns++[(.mk w1 w2 w3,us2)],by simp [hnl],?_,?_,fun h=>?_⟩ (by simp only;omega)
   . rw [Ao];exact ho'
   . simp only;rw [hb',AJ,if_pos rfl,hB2]
   . simp only at h ⊢;rw [<- hB2] at h;simp only [CY] at h;rw [hsn,hns h.1.1,hap h.1.1,hus2 (by rw [h.1.1,h.1.2,h.2];rfl)]
 . rw [AP (by omega)] at hbi hns
   have hcond:(args.length:Int)=sv/\FY args sp=true/\Xg args (.mk rk rn rus)=true/\nt.all (e8 args)=true↔(B0|| !nt.all (e8 args))=false:=by
    rw [<- hB0];cases FY args sp<;>cases Xg args (.mk rk rn rus)<;>cases nt.all (e8 args)<;>simp [hv]
   simp only [sbC] at hbi;have hle2:=ho.le;cases hB:(B0|| !nt.all (e8 args)) with
   |true=>
    rw [if_neg (fun h=>by have:=hcond.1 h;rw [hB] at this;cases this)];rw [hB] at hbi;(repeat' (first|refine ctQ rfl ?_|((first|refine rgQ mxQ ?_|refine cdQ ?_|(refine Run.Bg CG hle2 ?_)|(refine Ae rfl (fun h=>?_) (fun h=>?_)<;>try (cases h;done)))<;>try simp only [B7 hlt,hbi,go_sem])|(refine ⟨fun h=>?_,fun h=>?_⟩<;>first|(cases h;done)|try simp only [h])|fail));rfl
   |false=>
    rw [if_pos (hcond.2 hB)];rw [hB] at hbi;have e3:=hns hB;simp only [CY] at hB;have e4:=hnew hB.1;have e5:=hus (by have:=hB.1;rw [<- hB0] at this;simp only [CY] at this;exact this.1);(repeat' (first|refine ctQ rfl ?_|((first|refine rgQ mxQ ?_|refine cdQ ?_|(refine Run.Bg CG hle2 ?_)|(refine Ae rfl (fun h=>?_) (fun h=>?_)<;>try (cases h;done)))<;>try simp only [B7 hlt,hbi,ho.w4,go_sem])|(refine ⟨fun h=>?_,fun h=>?_⟩<;>first|(cases h;done)|try simp only [h])|fail));simp only [ho.plain,e3,e5,go_sem];rw [<- e4];rfl
def ATD (h:Eb p=true):∀f∈p.Dz,∀sc x,x∈Ca f.body sc->nb1 x.1:=by
 simp only [Eb,AO,decide_eq_true_eq] at h;obtain ⟨⟨⟨_,_⟩,_⟩,h2⟩:=h;obtain ⟨r,hr⟩:=mS.1 h2;exact fun f hf sc x Z=>((Uq _ _ _ hr f hf).2.2 sc x Z).1
def HO {ε β:Type} {f:α->β} {x:Except ε α} {y:β} (h:x.map f= .ok y):∃z,x= .ok z/\y=f z:=by
 cases x with
 |error e=>cases h
 |ok z=>simp only [C4,EN] at h;exact ⟨z,rfl,h.symm⟩
def HdD (dt:List Dat) (ds:List (Str×Nat)):Prop:=∀i,i < ds.length->∃D,dt[i]?=some D/\D.vars=((ds.getD i ([],0)).2:Int)
def AKW {dt:List Dat} {ds:List (Str×Nat)} (hh:HdD dt ds) (vars:List Str):∀(d:Nat) (t:TE) (whole:Bool) (u:Ty),DS d t=true->Io ds vars whole t= .ok u->u.sh dt/\Ve vars.length u=true/\u.size=t.size
 |0,t,whole,u,h,_=>by simp [DS] at h
 |d+1,.mk k n l,whole,u,h,hr=>by
  rw [DS,AO] at h;obtain ⟨hs,hl⟩:=h
  have hls:∀(l:List TE) (us:List Ty),l.all (DS d)=true->DA ds vars l= .ok us->us.length=l.length/\Ty.shs dt us/\LM vars.length us=true/\Ty.AQ us=TE.AQ l:=by
   intro l
   induction l with
   |nil=>
    intro us _ hr;rw [DA] at hr;cases hr;exact ⟨rfl,by rw [Ty.shs];trivial,rfl,rfl⟩
   |cons t l ih=>
    intro us hv hr;rw [BO,AO] at hv;rw [DA] at hr;cases h1:Io ds vars false t with
    |error e=>rw [h1] at hr;cases hr
    |ok u1=>
     rw [h1] at hr;obtain ⟨us',h2,rfl⟩:=HO hr;obtain ⟨a,b,c,e⟩:=ih us' hv.2 h2;obtain ⟨x,y,z⟩:=AKW hh vars d t false u1 hv.1 h1;exact ⟨by simp [a],by rw [Ty.shs];exact ⟨x,b⟩,by rw [LM,y,c];rfl,by rw [Ty.AQ,TE.AQ,z,e]⟩
  rw [Io] at hr;unfold gU at hs;by_cases h4:k=4
  . subst h4;rw [if_pos rfl] at hr;cases hi:DP vars n with
    |none=>rw [hi] at hr;cases hr
    |some i=>
     rw [hi] at hr;obtain ⟨us,h1,rfl⟩:=HO hr;obtain ⟨a,b,c,e⟩:=hls l us hl h1;have:=(fun h=>(AE.1 (PL h)).1) hi;refine ⟨by rw [Ty.sh];exact ⟨.inl rfl,b⟩,by rw [Ve,if_pos rfl];simp;omega,by rw [Ty.size,TE.size,e]⟩
  . rw [if_neg h4] at hr;by_cases h5:k=5
    . subst h5;rw [if_pos rfl] at hr;cases hi:DP (ds.map (·.1)) n with
      |none=>rw [hi] at hr;cases hr
      |some i=>
       rw [hi] at hr;simp only at hr;split at hr
       . cases hr
       . rename_i hla;split at hr
         . cases hr
         . obtain ⟨us,h1,rfl⟩:=HO hr;obtain ⟨a,b,c,e⟩:=hls l us hl h1;have hil:=(fun h=>(AE.1 (PL h)).1) hi;rw [AA] at hil;obtain ⟨D,hD,hv⟩:=hh i hil;have hla:l.length=(ds.getD i ([],0)).2:=by simpa using hla
           have hus:(us.length:Int)=D.vars:=by rw [a,hv,hla]
           exact ⟨by rw [Ty.sh];exact ⟨.inr (.inr (.inl ⟨rfl,D,by omega,by simpa using hD,hus⟩)),b⟩,by rw [Ve,if_neg (by decide)];exact c,by rw [Ty.size,TE.size,e]⟩
    . rw [if_neg h5] at hr;obtain ⟨us,h1,rfl⟩:=HO hr;obtain ⟨a,b,c,e⟩:=hls l us hl h1;refine ⟨?_,by rw [Ve,if_neg h4];exact c,by rw [Ty.size,TE.size,e]⟩;rw [Ty.sh];refine ⟨.inr ?_,b⟩;rw [a];by_cases h1:k=1\/k=2\/k=3
      . rw [if_pos h1,AO,decide_eq_true_eq] at hs;exact .inl ⟨by omega,rfl,hs.2⟩
      . rw [if_neg h1,if_neg h4,if_neg h5] at hs;by_cases h6:k=6
        . rw [if_pos h6] at hs;simp only [AO,decide_eq_true_eq] at hs;exact .inr (.inr (.inl ⟨h6,rfl,hs.1.2,hs.2⟩))
        . rw [if_neg h6] at hs;by_cases h7:k=7\/k=8
          . rw [if_pos h7,AO,decide_eq_true_eq] at hs;exact .inr (.inr (.inr (.inl ⟨h7,rfl,hs.2⟩)))
          . rw [if_neg h7] at hs;by_cases h9:k=9
            . rw [if_pos h9] at hs;simp only [AO,decide_eq_true_eq] at hs;exact .inr (.inr (.inr (.inr ⟨h9,rfl,hs.1.2,hs.2⟩)))
            . rw [if_neg h9] at hs;cases hs
def AW6 (dt:List Dat) (n:Nat) (c:CE) (x:Con):Prop:=x.name=c.name/\Ty.shs dt x.args/\LM n x.args=true/\Ty.AQ x.args=TE.AQ c.args/\x.args.length=c.args.length
def ACH {dt:List Dat} {ds:List (Str×Nat)} (hh:HdD dt ds) (vars:List Str):∀(l:List TE) (us:List Ty),l.all (DS 40)=true->EB ds vars l= .ok us->Ty.shs dt us/\LM vars.length us=true/\Ty.AQ us=TE.AQ l/\us.length=l.length
 |[],us,_,h=>by rw [EB] at h;cases h;exact ⟨by rw [Ty.shs];trivial,rfl,rfl,rfl⟩
 |t::l,us,hv,h=>by
  rw [BO,AO] at hv;rw [EB] at h;cases h1:Io ds vars true t with
  |error e=>rw [h1] at h;cases h
  |ok u=>
   rw [h1] at h;obtain ⟨us',h2,rfl⟩:=HO h;obtain ⟨a,b,c,e⟩:=ACH hh vars l us' hv.2 h2;obtain ⟨x,y,z⟩:=AKW hh vars 40 t true u hv.1 h1;exact ⟨by rw [Ty.shs];exact ⟨x,a⟩,by rw [LM,y,b];rfl,by rw [Ty.AQ,TE.AQ,z,c],by simp [e]⟩
def AC0 {dt:List Dat} {ds:List (Str×Nat)} (hh:HdD dt ds) (vars:List Str):∀(l:List CE) (used:List Str) (xs:List Con),l.all nJ=true->FX ds vars used l= .ok xs->xs.length=l.length/\∀(i:Nat) (x:Con),xs[i]?=some x->∃c,l[i]?=some c/\AW6 dt vars.length c x
 |[],used,xs,_,h=>by rw [FX] at h;cases h;exact ⟨rfl,fun i x Z=>by simp at Z⟩
 |c::l,used,xs,hv,h=>by
  rw [BO,AO] at hv;rw [FX] at h;split at h
  . cases h
  . cases h1:EB ds vars c.args with
    |error e=>rw [h1] at h;cases h
    |ok us=>
     rw [h1] at h;obtain ⟨xs',h2,rfl⟩:=HO h;obtain ⟨a,b⟩:=AC0 hh vars l _ xs' hv.2 h2;have hc:=hv.1;simp only [nJ,AO] at hc;obtain ⟨x1,x2,x3,x4⟩:=ACH hh vars c.args us hc.2 h1;refine ⟨by simp [a],fun i x Z=>?_⟩;cases i with
     |zero=>
      simp only [Aw,AM] at Z;subst Z;exact ⟨c,rfl,rfl,x1,x2,x3,x4⟩
     |succ i=>exact b i x (by simpa using Z)
def lW:∀(l done:List DE) (xs:List Dat),DZ done l= .ok xs->xs.length=l.length/\∀(i:Nat) (d:DE),l[i]?=some d->∃x,xs[i]?=some x/\x.vars=(d.vars.length:Int)/\OL (C1 (done++l.take i)) (KT (done++l.take i)) d= .ok x
 |[],done,xs,h=>by rw [DZ] at h;cases h;exact ⟨rfl,fun i d hd=>by simp at hd⟩
 |d::l,done,xs,h=>by
  rw [DZ] at h;cases h1:OL (C1 done) (KT done) d with
  |error e=>rw [h1] at h;cases h
  |ok x=>
   rw [h1] at h;obtain ⟨xs',h2,rfl⟩:=HO h;obtain ⟨a,b⟩:=lW l (done++[d]) xs' h2
   have hv:x.vars=(d.vars.length:Int):=by
    unfold OL at h1;split at h1
    . cases h1
    . obtain ⟨z,_,rfl⟩:=HO h1;rfl
   refine ⟨by simp [a],fun i e he=>?_⟩;cases i with
   |zero=>
    simp only [Aw,AM] at he;subst he;exact ⟨x,rfl,hv,by simpa using h1⟩
   |succ i=>
    obtain ⟨y,g1,g2,g3⟩:=b i e (by simpa using he);exact ⟨y,by simpa using g1,g2,by simpa using g3⟩
def AX5 {dt:List Dat} (hd:Fo p= .ok dt):∀(i:Nat) (x:Dat),dt[i]?=some x->∃d,p.data[i]?=some d/\x.vars=(d.vars.length:Int)/\d.vars.length<=6/\x.cons.length=d.cons.length/\d.cons.length<=8/\∀(m:Nat) (c:Con),x.cons[m]?=some c->∃e,d.cons[m]?=some e/\AW6 dt d.vars.length e c:=by
 obtain ⟨hv,hg⟩:=Mu hd;obtain ⟨hl,Z⟩:=lW _ _ _ hg
 have hdb:∀d∈p.data,OK d=true:=by
  simp only [Eb,AO] at hv;exact fun d hd=>Aj.1 hv.1.2 d hd
 have hheads:∀k,k<=p.data.length->HdD dt (C1 (p.data.take k)):=fun k hk i hi=>by
  have hik:i < k:=by simp [C1] at hi;omega
  obtain ⟨d,hd⟩:=Ai (show i < p.data.length by omega);obtain ⟨x,h1,h2,_⟩:=Z i d hd;refine ⟨x,h1,?_⟩
  have:(C1 (p.data.take k))[i]?=some (d.name,d.vars.length):=by
   rw [C1,Am,List.getElem?_take_of_lt hik,hd];rfl
  simp [h2,A2,this]
 intro i x hxi;have hil:i < p.data.length:=by rw [<- hl];exact (AE.1 hxi).1
 obtain ⟨d,hd⟩:=Ai hil;obtain ⟨y,h1,h2,h3⟩:=Z i d hd;rw [hxi] at h1;cases h1;have hb:=hdb d (AD hd);simp only [OK,AO,decide_eq_true_eq] at hb;unfold OL at h3;split at h3
 . cases h3
 . obtain ⟨cs,h4,rfl⟩:=HO h3
   have hh:C1 ([]++p.data.take i)++[(d.name,d.vars.length)]=C1 (p.data.take (i+1)):=by
    rw [A5 hd];simp [C1]
   rw [hh] at h4;obtain ⟨a,b⟩:=AC0 (hheads (i+1) hil) d.vars d.cons _ cs hb.2 h4;exact ⟨d,hd,rfl,hb.1.1.1.1.2,a,hb.1.2,b⟩
def DSm (ds:List DE):Prop:=∀d∈ds,∀c∈d.cons,c.args.length<=10/\∀t∈c.args,t.size<=200
def Pg.sm.dq (h:p.sm):DSm p.data:=fun d hd c hc=>⟨((h.1.2 d hd).2.2.2 c hc).2.1,fun t ht=>(((h.1.2 d hd).2.2.2 c hc).2.2 t ht).2⟩
def AKS {p:Pg} {dt:List Dat} (hc:(Q0 p).1=0) (hd:Fo p= .ok dt) (hsm:DSm p.data) (hz:Va p.Dz<=200):PF p.Dz dt:=by
 obtain ⟨hv,_⟩:=Mu hd;obtain ⟨hl,hg⟩:=dR hv
 have hcg:(RO p.Dz dt 0 p.Dz).1=0:=by
  unfold Q0 at hc;rw [hd] at hc;exact hc
 have hdo:=AX5 hd;refine ⟨hl,fun f hf=>(hg f hf).2.1,hz,fun f fe hfe=>?_,fun d hdm=>?_,fun d hdm c hcm=>?_⟩
 . have hm:=AD hfe;exact ⟨fun x Z=>⟨jK (bZ _ _ hcg fe hm) x Z,ATD hv fe hm _ x Z⟩,(hg fe hm).1⟩
 . obtain ⟨i,hi⟩:=Hv hdm;obtain ⟨e,h1,h2,h3,h4,h5,h6⟩:=hdo i d hi;refine ⟨by omega,by omega,by omega,fun c hcm=>?_⟩;obtain ⟨m,hm⟩:=Hv hcm;obtain ⟨ce,g1,g2⟩:=h6 m c hm;refine ⟨by rw [h2,CO];exact g2.2.2.1,?_⟩;rw [g2.2.2.2.1];have hsc:=hsm e (AD h1) ce (AD g1)
   have:∀l:List TE,(∀t∈l,t.size<=200)->TE.AQ l<=l.length * 200:=by
    intro l
    induction l with
    |nil=>intro _;simp [TE.AQ]
    |cons t l ih=>
     intro h;have:=h t (AW);have:=ih fun x Z=>h x (AU _ Z);rw [TE.AQ,A0];omega
   have:=this ce.args hsc.2;have:=hsc.1;omega
 . obtain ⟨i,hi⟩:=Hv hdm;obtain ⟨e,h1,h2,h3,h4,h5,h6⟩:=hdo i d hi;obtain ⟨m,hm⟩:=Hv hcm;obtain ⟨ce,g1,g2⟩:=h6 m c hm;exact g2.2.1
def fV {g:List (List Nat)} :Gx g a b=true↔Reach g a b/\Reach g b a:=by simp [Gx,VW]
def ANQ {g:List (List Nat)} (h:Gx g a b=true):Gx g b a=true:=by
 rw [fV] at h ⊢;exact ⟨h.2,h.1⟩
def sJ {g:List (List Nat)} {c:Nat} (h:Gx g a b=true) (k:Gx g b c=true):Gx g a c=true:=by
 rw [fV] at h k ⊢;exact ⟨h.1.trans k.1,k.2.trans h.2⟩
def Cls (g:List (List Nat)) (ls:List Bool):Prop:=∀a b,a < g.length->b < g.length->Gx g a b=true->lsB ls a=lsB ls b
def Cls.start (g:List (List Nat)):Cls g (AG g.length false):=fun a b ha hb _=>by
 have h:∀k,k < g.length->lsB (AG g.length false) k=false:=fun k hk=>RZ (by simp [hk]);rw [h a ha,h b hb]
def R0 {g:List (List Nat)} {i:Nat} (hk:k < g.length):lsB (Y0 g i ls) k=(lsB ls k||Gx g i k):=by
 have:=RZ (Pp g i ls g.length hk);rw [Y0,this];simp [hk]
def Cls.mrk {g:List (List Nat)} (h:Cls g ls) (i:Nat):Cls g (Y0 g i ls):=fun a b ha hb hm=>by
 rw [R0 ha,R0 hb,h a b ha hb hm];congr 1;rw [Ak];exact ⟨fun k=>sJ k hm,fun k=>sJ k (ANQ hm)⟩
def AEZ (A:List Nat) (vs:List Nat) (n:Nat):List Nat:=vs.foldl (fun l v=>l.set v n) A
def AE1:∀(vs A:List Nat) (n:Nat),(AEZ A vs n).length=A.length
 |[],_,_=>rfl
 |v::vs,A,n=>by rw [AEZ,Au];exact (AE1 vs _ n).trans (by simp)
def AE0:∀(vs A:List Nat) (n:Nat) {k:Nat},k < A.length->(AEZ A vs n).getD k 0=if k∈vs then n else A.getD k 0
 |[],A,n,k,_=>by simp [AEZ]
 |v::vs,A,n,k,hk=>by
  have:=AE0 vs (A.set v n) n (k:=k) (by simpa using hk);rw [AEZ,Au];rw [AEZ] at this;rw [this];by_cases h2:k∈vs
  . simp [h2]
  . by_cases h1:k=v
    . subst h1;simp [h2,A2,hk]
    . have h3:¬v=k:=fun e=>h1 e.symm;simp [h1,h2,h3,A2]
structure zL (g:List (List Nat)) (ls:List Bool) (A:List Nat) (n:Nat):Prop where
 len:A.length=g.length
 lsl:ls.length=g.length
 nz:∀k,k < g.length->(A.getD k 0=0↔lsB ls k=false)
 le:∀k,k < g.length->A.getD k 0<=n
 cls:Cls g ls
 cl:∀a b,a < g.length->lsB ls a=true->Reach g a b->lsB ls b=true/\A.getD b 0<=A.getD a 0
def zL.start (g:List (List Nat)):zL g (AG g.length false) (AG g.length 0) 0:=by
 have h:∀k,k < g.length->lsB (AG g.length false) k=false:=fun k hk=>RZ (by simp [hk]);have h2:∀k,k < g.length->(AG g.length 0).getD k 0=0:=fun k hk=>by simp [A2,hk]
 exact ⟨by simp,by simp,fun k hk=>by simp only [h k hk,h2 k hk],fun k hk=>by rw [h2 k hk];exact AS _,Cls.start g,fun a b ha h1=>by rw [h a ha] at h1;cases h1⟩
def ZJ {g:List (List Nat)} {i:Nat}:k∈cM g i↔k < g.length/\Gx g i k=true:=by simp [cM]
def AMN (g:List (List Nat)) (i:Nat):(cM g i).Nodup:=List.Pairwise.filter _ List.nodup_range
def zL.new {g:List (List Nat)} {n i:Nat} (h:zL g ls A n) (hi:i < g.length) (hc:bX g ls i=true) (hk:k∈cM g i):k < g.length/\A.getD k 0=0:=by
 rw [ZJ] at hk;refine ⟨hk.1,(h.nz k hk.1).2 ?_⟩;rw [<- h.cls i k hi hk.1 hk.2];simp only [bX,AO,Br] at hc;exact hc.1
def zL.next {g:List (List Nat)} (he:dW g) {n i:Nat} (h:zL g ls A n) (hi:i < g.length) (hc:bX g ls i=true):zL g (Y0 g i ls) (AEZ A (cM g i) (n+1)) (n+1):=by
 have hg:∀k,k < g.length->(AEZ A (cM g i) (n+1)).getD k 0=if k∈cM g i then n+1 else A.getD k 0:=fun k hk=>AE0 _ _ _ (by rw [h.len];exact hk)
 have hm:∀k,k < g.length->(k∈cM g i↔Gx g i k=true):=fun k hk=>by rw [ZJ];exact ⟨fun x=>x.2,fun x=>⟨hk,x⟩⟩
 simp only [bX,AO,Br] at hc
 have hrd:∀j,j < g.length->rB g i j=true->rB g j i=false->lsB ls j=true:=fun j hj h1 h2=>by
  have:=hc.2;rw [tA,Aj] at this;have:=this j (Bz.2 hj);rw [h1,h2] at this;simpa using this
 have hnew:∀k,k < g.length->Gx g i k=true->lsB ls k=false:=fun k hk hmk=>by rw [<- h.cls i k hi hk hmk];exact hc.1
 refine ⟨by rw [AE1,h.len],by rw [Y0,JO],fun k hk=>?_,fun k hk=>?_,h.cls.mrk i,fun a b ha h1 hr=>?_⟩
 . rw [hg k hk,R0 hk];by_cases hmk:Gx g i k=true
   . rw [if_pos ((hm k hk).2 hmk),hmk];simp
   . rw [if_neg (fun x=>hmk ((hm k hk).1 x)),CX.2 hmk,L1];exact h.nz k hk
 . rw [hg k hk];split
   . exact AS _
   . exact Af (h.le k hk) (Nat.le_succ n)
 . have hb:=hr.lt he ha;rw [R0 hb,hg a ha,hg b hb];rw [R0 ha] at h1;by_cases hma:Gx g i a=true
   . rw [if_pos ((hm a ha).2 hma)];have hib:rB g i b=true:=VW.2 ((fV.1 hma).1.trans hr);by_cases hmb:Gx g i b=true
     . rw [if_pos ((hm b hb).2 hmb),hmb];simp
     . rw [if_neg (fun x=>hmb ((hm b hb).1 x))]
       have hbi:rB g b i=false:=by
        rw [CX];intro Z;exact hmb (by rw [Gx,hib,Z];rfl)
       refine ⟨by rw [hrd b hb hib hbi];rfl,Af (h.le b hb) (Nat.le_succ n)⟩
   . rw [CX.2 hma,L1] at h1;have ⟨c1,c2⟩:=h.cl a b ha h1 hr;have hmb:¬Gx g i b=true:=fun Z=>by have:=hnew b hb Z;rw [c1] at this;cases this
     rw [if_neg (fun x=>hma ((hm a ha).1 x)),if_neg (fun x=>hmb ((hm b hb).1 x)),c1];exact ⟨rfl,c2⟩
def ARZ {g:List (List Nat)} :∀(N k:Nat),((Av g.length).filter (rB g k)).length=N->k < g.length->lsB ls k=false->∃i,AA6 g ls=some i:=by
 intro N
 induction N using Cc with
 |_ N ih=>
 intro k hN hk hl;by_cases hr:tA g ls k=true
 . cases hn:AA6 g ls with
   |some i=>exact ⟨i,rfl⟩
   |none=>
    rw [AA6,QO] at hn;have:=hn k (Bz.2 hk);rw [bX,hl,hr] at this;simp at this
 . rw [tA,Aj] at hr;simp only [Bz,Br,Classical.not_forall] at hr;obtain ⟨j,hj,hj2⟩:=hr;simp only [Bool.not_eq_false,AO,Br] at hj2;obtain ⟨⟨h1,h2⟩,h3⟩:=hj2;refine ih _ ?_ j rfl hj h3;rw [<- hN];have hsub:∀x,rB g j x=true->rB g k x=true:=fun x Z=>VW.2 ((VW.1 h1).trans (VW.1 Z));have h4:k∈(Av g.length).filter (rB g k):=ZX.2 ⟨Bz.2 hk,VW.2 (Reach.refl k)⟩;have h5:k ∉ (Av g.length).filter (rB g j):=fun Z=>by have:=(ZX.1 Z).2;rw [h2] at this;cases this
   have h6:((Av g.length).filter (rB g j))=((Av g.length).filter (rB g k)).filter (rB g j):=by
    rw [List.filter_filter];apply List.filter_congr;intro x _;by_cases Z:rB g j x=true
    . rw [Z,hsub x Z];rfl
    . rw [CX.2 Z];rfl
   rw [h6];refine Nat.lt_of_le_of_ne (L2 _ _) (fun e=>?_);have:=List.length_filter_eq_length_iff.1 e;have:=this k h4;rw [h2] at this;cases this
def ANY {g:List (List Nat)} {i:Nat} (h:AA6 g ls=some i):i < g.length/\bX g ls i=true:=
 ⟨Bz.1 (List.mem_of_find?_eq_some h),List.find?_some h⟩
def AGQ {g:List (List Nat)} {f:Nat} (hf:unm ls < f) (h:Jk g f ls=[]):∀k,k < g.length->lsB ls k=true:=by
 intro k hk;cases f with
 |zero=>omega
 |succ f=>
  cases hl:lsB ls k with
  |true=>rfl
  |false=>
   obtain ⟨i,hi⟩:=ARZ _ k rfl hk hl;rw [Jk,hi] at h;cases h
def zL.fin {g:List (List Nat)} {n:Nat} (h:zL g ls A n) (hall:∀k,k < g.length->lsB ls k=true):(∀a,a < g.length->A.getD a 0≠0)/\∀a b,a < g.length->b∈g.getD a []->A.getD b 0<=A.getD a 0:=
 ⟨fun a ha e=>(by have:=(h.nz a ha).1 e;rw [hall a ha] at this;cases this),fun a b ha hb=>(h.cl a b ha (hall a ha) (Reach.one hb)).2⟩
def eR {g:List (List Nat)}:∀(f:Nat) (ls:List Bool),ls.length=g.length->unm ls < f->Cls g ls->
 (∀ms∈Jk g f ls,ms≠[])/\(Jk g f ls).flatten.Nodup/\(∀k,k∈(Jk g f ls).flatten↔k < g.length/\lsB ls k=false)/\(Jk g f ls).length<=f
 |0,ls,_,h,_=>by omega
 |f+1,ls,hl,hf,hc=>by
  cases hq:Jk g (f+1) ls with
  |nil=>
   have:=AGQ hf hq;refine ⟨fun ms h=>by simp at h,by simp,fun k=>⟨fun h=>by simp at h,fun ⟨h1,h2⟩=>?_⟩,by simp⟩;rw [this k h1] at h2;cases h2
  |cons l r=>
   rw [Jk] at hq;cases hn:AA6 g ls with
   |none=>rw [hn] at hq;cases hq
   |some i=>
    rw [hn] at hq;obtain ⟨hi,hcan⟩:=ANY hn;simp only [ZW] at hq;obtain ⟨rfl,rfl⟩:=hq;have h3:lsB ls i=false:=by simp only [bX,AO,Br] at hcan;exact hcan.1
    have hu:=AK6 hl hi h3;obtain ⟨a,b,c,d⟩:=eR f (Y0 g i ls) (by rw [Y0,JO]) (by omega) (hc.mrk i);have hmi:i∈cM g i:=ZJ.2 ⟨hi,fV.2 ⟨Reach.refl i,Reach.refl i⟩⟩
    have hg:∀k,k∈cM g i->k < g.length/\lsB ls k=false:=fun k hk=>by
     rw [ZJ] at hk;exact ⟨hk.1,by rw [<- hc i k hi hk.1 hk.2];exact h3⟩
    refine ⟨fun ms hm=>?_,?_,fun k=>?_,by simp only [A0];omega⟩
    . rcases Az.1 hm with rfl|hm
      . exact fun e=>by rw [e] at hmi;cases hmi
      . exact a ms hm
    . rw [BW,G6];refine ⟨AMN g i,b,fun x Z y hy e=>?_⟩;subst e;have h4:=(c x).1 hy;rw [R0 h4.1,(ZJ.1 Z).2] at h4;simp at h4
    . rw [BW,AZ,c];constructor
      . rintro (h|⟨h1,h2⟩)
        . exact hg k h
        . rw [R0 h1] at h2;simp only [CY] at h2;exact ⟨h1,h2.1⟩
      . rintro ⟨h1,h2⟩;cases hm:Gx g i k with
        |true=>exact .inl (ZJ.2 ⟨h1,hm⟩)
        |false=>exact .inr ⟨h1,by rw [R0 h1,h2,hm];rfl⟩
def ACY (g:List (List Nat)):(∀ms∈RP g,ms≠[])/\(RP g).flatten.Nodup/\(∀k,k∈(RP g).flatten↔k < g.length)/\(RP g).length<=g.length+1:=by
 have hu:unm (AG g.length false) < g.length+1:=by
  have:=L2 (fun b=>!b) (AG g.length false);simp only [unm,Vs] at this ⊢;omega
 obtain ⟨a,b,c,d⟩:=eR (g:=g) (g.length+1) (AG g.length false) (by simp) hu (Cls.start g);refine ⟨a,b,fun k=>?_,d⟩;rw [RP,c];exact ⟨fun h=>h.1,fun h=>⟨h,RZ (by simp [h])⟩⟩
def AAI {p:Pg} (h:(Q0 p).1=0):(∀ms∈Ks p,ms≠[])/\(Ks p).flatten.Nodup/\(∀k,k∈(Ks p).flatten↔k < p.Dz.length)/\(Ks p).length<=25:=by
 obtain ⟨a,b,c,d⟩:=ACY (Ii p);have hl:(Ii p).length=p.Dz.length:=by unfold Ii;rw [if_pos h,AA]
 rw [hl] at c d;have:=(Ul h).1;exact ⟨a,b,c,by rw [Ks];omega⟩
def RIN (Y:AH) (n:Nat) (F0:Fm) (L0:Nat->Nat->Lm) (F:Fm) (L:Lm) (τ:AH):Prop:=
 ∃js jn,Gw [1,2,3,5,7] F=F0/\Fp [1,2,3,5,7] L=L0 js jn/\Mo Y τ/\Y.blk js=none/\Y.blk jn=none/\js≠jn/\τ.blk js=some (AG n [AV.d (.int .i64 0),.Ad,.d (.int .i64 0),.d (.int .i64 0),.Ad]).flatten/\τ.blk jn=some (AG n [AV.Ad]).flatten
def HI.start {dt:List Dat} {Y τ:AH} {n:Nat} (hm:Mo Y τ) (h1:Y.blk js=none) (h2:Y.blk jn=none) (hne:js≠jn):HI dt Y ((τ.AL js (V9 (AG n lF))).AL jn (ntC (AG n []))) n js jn (AG n lF,AG n []):=
 ⟨(hm.ASR h1 _).ASR h2 _,h1,h2,hne,by rw [AJ,if_neg hne,AJ,if_pos rfl],BT,by simp,by simp,fun s hs=>by
   rw [(List.mem_replicate.1 hs).2];exact AV7 dt⟩
def o3 (p:Pg) (hsm:DSm p.data) (hz:Va p.Dz<=200) (Y:AH):AR Tzp 60 [pgA p] Y (fun v σ'=>(v=cW (Dl p)/\σ'=Y)/\∀dt r,Fo p= .ok dt->Dl p= .ok r->∀f,f < p.Dz.length->bJ p.Dz dt r f):=by
 have hsd:∀d∈p.data,J5 d:=fun d hd c hc t ht=>by have:=(hsm d hd c hc).2 t ht;omega
 have hck:=fun Y=>Yj p Y hsd;have hdat:=fun Y=>TA p Y hsd;have hgr:=fun Y=>oX p Y hsd;have hpf:=@AKS p;have hgf:=@AAI p
 have hch0:∀e,Fo p= .error e->(Q0 p).1≠0:=fun e he h0=>by
  obtain ⟨c,a,b⟩:=e;unfold Q0 at h0;rw [he] at h0;exact eV he h0
 refine rS (by simp) ?_;rw [Bj];generalize hQ:(fun (v:AV) (σ':AH)=>(v=cW (Dl p)/\σ'=Y)/\∀dt r,Fo p= .ok dt->Dl p= .ok r->∀f,f < p.Dz.length->bJ p.Dz dt r f)=Q
 have hQe:∀d,Dl p= .error d->Q (cW (.error d)) Y:=fun d hd=>by
  rw [<- hQ];exact ⟨⟨by rw [hd],rfl⟩,fun dt r _ h=>by rw [hd] at h;cases h⟩
 have hQo:∀r,Dl p= .ok r->(∀dt,Fo p= .ok dt->∀f,f < p.Dz.length->bJ p.Dz dt r f)->Q (cW (.ok r)) Y:=fun r hr h=>by
  rw [<- hQ];exact ⟨⟨by rw [hr],rfl⟩,fun dt r' h1 h2=>by rw [hr] at h2;cases h2;exact h dt h1⟩
 clear hQ
 have hP:Dl p=if (Q0 p).1≠0 then .error (Q0 p) else match Fo p with
  | .error d=>.error d
  | .ok dt=>match Fx p.Dz dt (Ks p) (AG p.Dz.length lF,AG p.Dz.length []) with
   | .error e=>.error (e.1,(e.2:Int),0)
   | .ok r=>.ok r:=rfl
 generalize Dl p=res at *;generalize Ks p=gs at *;generalize hcp:Q0 p=ck at *;generalize hdp:Fo p=dp at *;obtain ⟨ds,fs⟩:=p;simp only [pgA,Pg.enc,AF,AN] at hck hdat hgr ⊢;obtain ⟨c1,c2,c3⟩:=ck;simp only [dgA] at hck;by_cases hc0:c1=0
 . subst hc0;cases dp with
   |error d=>exact absurd rfl (hch0 d rfl)
   |ok dt=>
    have hF:PF fs dt:=hpf rfl rfl hsm hz;simp only [ne_eq,not_true,if_false] at hP;simp only [eU,dsA,dgA] at hdat;(repeat' (first|refine ctQ rfl ?_|((first|refine rgQ mxQ ?_|refine cdQ ?_|refine AI.det (hck _) ?_|refine AI.det (hdat _) ?_)<;>try simp only [go_sem])|(refine ⟨fun h=>?_,fun h=>?_⟩<;>first|(cases h;done)|try simp only [h])|fail));refine Run.gH mixed (RIN Y fs.length (put 1 (.lp 1 0) (put 2 (.lp 2 0) (put 3 (.lp 3 0) (put 5 (dsA dt) (put 7 (.lp 7 0) U))))) (fun js jn=>LI (.sl (ds.map DE.enc)) (.sl (fs.map FE.enc)) js jn fs.length)) ?_ ?_
    . have hlf:fs.length<=24:=hF.lf;simp only [AA,go_sem];refine ⟨?_,?_⟩<;>
      (refine O1.mo (P:=Tzp) fs.length (by omega) (by omega) (fun a τ1 ha m1 f1=>?_)
       simp only [go_sem];refine O1.mo (P:=Tzp) fs.length (by omega) (by omega) (fun b τ2 hb m2 f2=>?_);simp only [go_sem];have n1:=sL f1 hb;have a2:=m2.blk _ _ f1;have hb0:=m1.ne hb;unfold RIN
       first
        |exact ⟨a,b,by simp only [dsA,go_sem],by simp only [go_sem],m1.trans m2,ha,hb0,n1,a2,f2⟩
        |exact ⟨b,a,by simp only [dsA,go_sem],by simp only [go_sem],m1.trans m2,hb0,ha,A6 n1,f2,a2⟩)
    . rintro F' L' τ ⟨js,jn,e1,e2,hm,h1,h2,hne,b1,b2⟩;rw [e1,e2];clear e1 e2 F' L';have hH:=HI.start (dt:=dt) (n:=fs.length) hm h1 h2 hne;refine Run.AK8 (σ':=(τ.AL js (V9 (AG fs.length lF))).AL jn (ntC (AG fs.length []))) (fun m cs' hc=>?_) (fun t ht=>ht) ?_
      . rw [AJ] at hc;split at hc
        . rename_i e;subst e;cases hc;exact ⟨_,b2,.inr (ARW _).symm⟩
        . rw [AJ] at hc;split at hc
          . rename_i e;subst e;cases hc;exact ⟨_,b1,.inr (AOH _).symm⟩
          . exact ⟨cs',hc,.inl rfl⟩
      generalize (τ.AL js (V9 (AG fs.length lF))).AL jn (ntC (AG fs.length []))=τ1 at hH ⊢;obtain ⟨g1,g2,g3,g4⟩:=hgf rfl;simp only [P2] at hgr;(repeat' ((first|refine wQ ?_|refine AI.det (hgr _) ?_|fail)<;>try simp only [AA,go_sem]));refine AHQ fs ds dt hF gs (by omega) g1 g2 (fun f hf=>(g3 f).1 hf) Y js jn _ τ1 hH Q _ (fun e m τ' k' he hle=>?_) (fun r τ' a40 a41 a42 hr hH' hty=>?_)
      . have:=hQe (e,(m:Int),0) (by rw [hP,he]);refine Run.Bg Kq (σ2:=Y) hle ?_;simp only [J3,go_sem];exact this
      . have hfin:=hQo r (by rw [hP,hr]) (fun dt' h' f hf=>by cases h';exact hty f ((g3 f).2 hf));rw [dsA];(repeat' (refine wQ ?_<;>try simp only [go_sem]));exact AMU hH' hF.lf Q _ hfin
 . simp only [ne_eq,hc0,not_false_eq_true,if_true] at hP;have h0:(c1 != 0)=true:=by simpa using hc0
   have:=hQe _ hP;(repeat' (first|refine ctQ rfl ?_|((first|refine rgQ mxQ ?_|refine cdQ ?_|refine AI.det (hck _) ?_)<;>try simp only [h0,go_sem])|fail));refine Run.IX mixed ?_;simp only [go_sem];refine Run.Bg Kq (σ2:=Y) (AH.le_refl _) ?_;simp only [J3,go_sem];exact this
def kB (h:Dl p= .ok r):r.1.length=p.Dz.length/\r.2.length=p.Dz.length:=by
 have ht:∀(fs:List FE) (dt:List Dat) (r:Db) (ms:List Nat) (r':Db),Rd fs dt r ms= .ok r'->r'.1.length=r.1.length/\r'.2.length=r.2.length:=fun fs dt r ms r' h=>by
  unfold Rd at h;simp only at h;split at h
  . cases h
  . split at h
    . cases h
    . cases h;exact tC _ _ _ ms r
 have hg:∀(gs:List (List Nat)) (fs:List FE) (dt:List Dat) (r r':Db),Fx fs dt gs r= .ok r'->r'.1.length=r.1.length/\r'.2.length=r.2.length:=by
  intro gs
  induction gs with
  |nil=>intro fs dt r r' h;rw [Fx] at h;cases h;exact ⟨rfl,rfl⟩
  |cons ms gs ih=>
   intro fs dt r r' h;rw [Fx] at h;cases hm:Rd fs dt r ms with
   |error e=>rw [hm] at h;cases h
   |ok r1=>
    rw [hm] at h;have h1:=ht _ _ _ _ _ hm;have h2:=ih fs dt r1 r' h;exact ⟨h2.1.trans h1.1,h2.2.trans h1.2⟩
 unfold Dl at h;split at h
 . cases h
 . split at h
   . cases h
   . split at h
     . cases h
     . rename_i hh;cases h;have:=hg _ _ _ _ _ hh;simpa using this
def PM (h:Dl p= .ok r):(Q0 p).1=0/\∃dt,Fo p= .ok dt:=by
 unfold Dl at h;split at h
 . cases h
 . rename_i hc;refine ⟨by simpa using hc,?_⟩;cases hd:Fo p with
   |error e=>rw [hd] at h;cases h
   |ok dt=>exact ⟨dt,rfl⟩
def AHR {fs:List FE} {dt:List Dat} {gs:List (List Nat)} {e:Int×Nat} (h:Fx fs dt gs r= .error e):e.1≠0:=by
 induction gs generalizing r with
 |nil=>rw [Fx] at h;cases h
 |cons ms gs ih=>
  rw [Fx] at h;cases hm:Rd fs dt r ms with
  |ok r1=>rw [hm] at h;exact ih h
  |error e1=>
   rw [hm] at h;cases h;unfold Rd at hm;simp only at hm;split at hm
   . cases hm;simp
   . split at hm
     . cases hm;simp
     . cases hm
def kA {p:Pg} {d:Dg} (hd:Dl p= .error d):d.1≠0:=by
 unfold Dl at hd;split at hd
 . rename_i h;cases hd;exact h
 . split at hd
   . rename_i h _ _ he;cases hd;obtain ⟨c,a,b⟩:=d;exact eV he
   . split at hd
     . rename_i e he;cases hd;exact AHR he
     . cases hd
structure TyG (p:Pg) (dt:List Dat) (r:Db):Prop where
 dat:Fo p= .ok dt
 inf:Dl p= .ok r
 len:r.1.length=p.Dz.length
 pf:PF p.Dz dt
 sp:∀f,f < r.1.length->∃fe,zM dt r fe f/\fe.body.size<=100000/\fe.params.length<=6
 fe:∀f fe,p.Dz[f]?=some fe->zM dt r fe f
noncomputable def sF (p:Pg):AV:=match Dl p,Fo p with
 | .error d,_=>.tup [.agg [.d (.sl []),.d (.sl []),.d (.sl []),.d (.sl []),.d (.sl [])],dgA d]
 | .ok r,.ok dt=>.tup [.agg [.d (.sl (p.data.map DE.enc)),.d (.sl (p.Dz.map FE.enc)),dsA dt,.d (.sl (r.1.map JS)),.d (.sl (r.2.map Y2))],dgA (0,0,0)]
 | .ok _,.error d=>.tup [.agg [.d (.sl []),.d (.sl []),.d (.sl []),.d (.sl []),.d (.sl [])],dgA d]
def AAZ (p:Pg) (hsm:DSm p.data) (hz:Va p.Dz<=200) (Y:AH):AR Tzp 30 [pgA p] Y (fun v σ'=>(v=sF p/\σ'=Y)/\∀r,Dl p= .ok r->∃dt,TyG p dt r):=by
 have hsd:∀d∈p.data,J5 d:=fun d hd c hc t ht=>by have:=(hsm d hd c hc).2 t ht;omega
 have hdat:=fun Y=>TA p Y hsd;have hin:=o3 p hsm hz Y
 have hg:(∀dt r,Fo p= .ok dt->Dl p= .ok r->∀f,f < p.Dz.length->bJ p.Dz dt r f)->∀r,Dl p= .ok r->∃dt,TyG p dt r:=fun h r hr=>by
  obtain ⟨hc,dt,hd⟩:=PM hr;have hl:=(kB hr).1;have hF:=AKS hc hd hsm hz;have hs:∀f fe,p.Dz[f]?=some fe->zM dt r fe f:=fun f fe hfe=>(h dt r hd hr f (AE.1 hfe).1).sp hfe (hF.pr fe (AD hfe));refine ⟨dt,hd,hr,hl,hF,fun f hf=>?_,hs⟩;obtain ⟨fe,hfe⟩:=Ai (show f < p.Dz.length by omega);exact ⟨fe,hs f fe hfe,by have:=(hF.ok f fe hfe).2;omega,hF.pr fe (AD hfe)⟩
 have herr:=@kA p;refine rN (by simp) ?_;rw [Bj];unfold sF;have hdd:∀r,Dl p= .ok r->∃dt,Fo p= .ok dt:=fun r h=>(PM h).2;generalize hres:Dl p=res at *;cases res with
 |error d=>
  have hd0:=herr rfl;obtain ⟨d1,d2,d3⟩:=d;have hb0:(d1 != 0)=true:=by simpa using hd0
  obtain ⟨ds,fs⟩:=p;simp only [pgA,Pg.enc,AF,AN,cW] at hin ⊢;(repeat' (first|refine ctQ rfl ?_|((first|refine rgQ mxQ ?_|refine cdQ ?_|(refine AI.mk rfl hin ?_;rintro _ Y ⟨⟨rfl,rfl⟩,_⟩)|(refine Ae rfl (fun h=>?_) (fun h=>?_)<;>try (cases h;done)))<;>try simp only [hb0,go_sem])|(refine ⟨fun h=>?_,fun h=>?_⟩<;>first|(cases h;done)|try simp only [h])|fail));refine Run.IX mixed ?_;simp only [go_sem];refine Run.Bg P7 (σ2:=Y) (AH.le_refl _) ?_;simp only [WC,go_sem];simp [dgA]
 |ok r=>
  obtain ⟨dt,hd⟩:=hdd r rfl;simp only [hd] at hdat hg ⊢;obtain ⟨ds,fs⟩:=p;simp only [pgA,Pg.enc,AF,AN,cW,eU,dsA,dgA] at hin hdat ⊢;have h00:((0:Int) != 0)=false:=by decide
  (repeat' (first|refine ctQ rfl ?_|((first|refine rgQ mxQ ?_|refine cdQ ?_|refine Run.qP P7 ?_|(refine AI.mk rfl hin ?_;rintro _ Y ⟨⟨rfl,rfl⟩,hty⟩)|refine AI.det (hdat _) ?_|(refine Ae rfl (fun h=>?_) (fun h=>?_)<;>try (cases h;done)))<;>try simp only [h00,go_sem])|(refine ⟨fun h=>?_,fun h=>?_⟩<;>first|(cases h;done)|try simp only [h])|fail));exact fun r' h=>(by cases h;exact hg (fun dt' r' h1 h2=>by cases h1;cases h2;exact hty dt r hd rfl) r rfl)
def AD1 {dt:List Dat} (h:TyG p dt r):sF p= .tup [.agg [.d (.sl (p.data.map DE.enc)),.d (.sl (p.Dz.map FE.enc)),dsA dt,.d (.sl (r.1.map JS)),.d (.sl (r.2.map Y2))],dgA (0,0,0)]:=by
 unfold sF;rw [h.inf,h.dat]
def APF (p:Pg) (hsm:DSm p.data) (hz:Va p.Dz<=200) (x:KV) {dt:List Dat} (hG:TyG p dt r) (Y:AH):
 AR Tzp 13 [pgA p,.agg [.d (.int .i64 x.1),N5 x.2]] Y (fun v σ'=>v=(match Nu dt r x with|some b=>.tup [.d (.sl (b.notes.map If)),.d (.bool true)]|none=>.tup [.d (.sl []),.d (.bool false)])/\σ'=Y):=by
 have hl:=(AAZ p hsm hz Y).mono (Q':=fun v σ'=>v=sF p/\σ'=Y) fun v σ' h=>h.1;rw [AD1 hG] at hl;obtain ⟨ds,fs⟩:=p;have hi:=YL (.sl (ds.map DE.enc)) (.sl (fs.map FE.enc)) dt r hG.sp x Y;refine nR (by simp) ?_;rw [BD];simp only [pgA,Pg.enc,AF,AN,dsA,N5,Ty.Bf,dgA] at hl hi ⊢;have h00:((0:Int) != 0)=false:=by decide
 cases Z:Nu dt r x with
 |none=>
  simp only [Z,AHT] at hi;(repeat' (first|refine ctQ rfl ?_|((first|refine rgQ mxQ ?_|refine cdQ ?_|refine Run.qP No ?_|refine AI.det (hl) ?_|refine AI.det (hi) ?_|(refine Ae rfl (fun h=>?_) (fun h=>?_)<;>try (cases h;done)))<;>try simp only [h00,go_sem])|(refine ⟨fun h=>?_,fun h=>?_⟩<;>first|(cases h;done)|try simp only [h])|fail))
 |some b=>
  simp only [Z,AHT,bdA] at hi;(repeat' (first|refine ctQ rfl ?_|((first|refine rgQ mxQ ?_|refine cdQ ?_|refine Run.qP No ?_|refine AI.det (hl) ?_|refine AI.det (hi) ?_|(refine Ae rfl (fun h=>?_) (fun h=>?_)<;>try (cases h;done)))<;>try simp only [h00,go_sem])|(refine ⟨fun h=>?_,fun h=>?_⟩<;>first|(cases h;done)|try simp only [h])|fail))
def ALB (p:Pg) (hsm:DSm p.data) (hz:Va p.Dz<=200) (x:KV) {dt:List Dat} (hG:TyG p dt r) (Y:AH):
 AR Tzp 19 [pgA p,.agg [.d (.int .i64 x.1),N5 x.2]] Y (fun v σ'=>v=(match Nu dt r x with|some b=>.tup [.d (.sl (b.params.map Ty.enc)),tyA b.res,.d (.bool true)]|none=>.tup [.d (.sl []),tyA (.mk 0 0 []),.d (.bool false)])/\σ'=Y):=by
 have hl:=(AAZ p hsm hz Y).mono (Q':=fun v σ'=>v=sF p/\σ'=Y) fun v σ' h=>h.1;rw [AD1 hG] at hl;obtain ⟨ds,fs⟩:=p;have hi:=YL (.sl (ds.map DE.enc)) (.sl (fs.map FE.enc)) dt r hG.sp x Y;refine jW (by simp) ?_;rw [BD];simp only [pgA,Pg.enc,AF,AN,dsA,N5,Ty.Bf,dgA] at hl hi ⊢;have h00:((0:Int) != 0)=false:=by decide
 cases Z:Nu dt r x with
 |none=>
  simp only [Z,AHT] at hi;(repeat' (first|refine ctQ rfl ?_|((first|refine rgQ mxQ ?_|refine cdQ ?_|refine Run.qP MH ?_|refine AI.det (hl) ?_|refine AI.det (hi) ?_|(refine Ae rfl (fun h=>?_) (fun h=>?_)<;>try (cases h;done)))<;>try simp only [h00,go_sem])|(refine ⟨fun h=>?_,fun h=>?_⟩<;>first|(cases h;done)|try simp only [h])|fail))
 |some b=>
  obtain ⟨b1,b2,⟨k,n,l⟩⟩:=b;simp only [Z,AHT,bdA,Ty.kind,Ty.num,Ty.args] at hi;(repeat' (first|refine ctQ rfl ?_|((first|refine rgQ mxQ ?_|refine cdQ ?_|refine Run.qP MH ?_|refine AI.det (hl) ?_|refine AI.det (hi) ?_|(refine Ae rfl (fun h=>?_) (fun h=>?_)<;>try (cases h;done)))<;>try simp only [h00,Ty.Bf,go_sem])|(refine ⟨fun h=>?_,fun h=>?_⟩<;>first|(cases h;done)|try simp only [h])|fail))
section
open Go.RowKit Go.Sort
variable {P:Program} {base N:Nat} {g g':Gh} {Pr:Nat->Prop} {Y σ':AH} {w0 w w':World}
def Rel.grown (h:Rel base g Pr Y w0 w) (k:Nat) (os:Array Obj):Rel base g Pr Y w0 (Sort.grow (w.drewN k) os)/\KP Pr w (Sort.grow (w.drewN k) os):=by
 have hsz:(Sort.grow (w.drewN k) os).heap.size=w.heap.size+os.size:=by rw [size_grow];rfl
 have hb:∀b,b < w.heap.size->(Sort.grow (w.drewN k) os).heap[b]?=w.heap[b]?:=fun b hb=>by
  show (w.heap++os)[b]?=w.heap[b]?;rw [Array.getElem?_append,if_pos hb]
 refine ⟨h.grow (by omega) (fun b hlt _=>hb b hlt) ⟨rfl,rfl,rfl,by omega,fun b hlt=>hb b (Be hlt h.bs)⟩ (fun b hp=>⟨by have:=(h.pr b hp).1;omega,.inl hp⟩),by omega,fun b hp=>hb b (h.pr b hp).1⟩
def Rel.tab (h:Rel base g Pr Y w0 w) {name:String} {vs:Array Value} (hg:P.globalNamed name=some b) (hb:Y.gt b=some vs):w.var? P name=some vs:=by
 obtain ⟨hlt,ty,fr,hc⟩:=h.st.1 b vs hb;unfold World.var?;rw [hg,E6,h.bel.block b hlt,hc]
def AR.AVQ {f:FuncId} {args:List AV} {x:DV}
 (h:∀(base:Nat) (g:Gh) (Pr:Nat->Prop) (w0 w:World) (vs:List Value),Rel base g Pr Y w0 w->VRs g args vs->∃v,RD g.im x v/\Calls P f vs.toArray w fun e w'=>e= .returned v/\∃k os,w'=Sort.grow (w.drewN k) os):
 AR P f args Y (fun v σ'=>v= .d x/\σ'=Y):=by
 intro base g Pr w0 w vs hr hv;obtain ⟨v,Z,hc⟩:=h base g Pr w0 w vs hr hv;refine hc.mono ?_;rintro e w' ⟨rfl,k,os,rfl⟩;obtain ⟨h1,h2⟩:=hr.grown k os;exact ⟨v,.d x,g,Y,rfl,.d Z,h1,Gh.le_refl g,h2,rfl,rfl⟩
def VRs.one {c:AV} {vs:List Value} (h:VRs g [c] vs):∃v,vs=[v]/\VR g c v:=by
 cases h with|cons h hs=>cases hs;exact ⟨_,rfl,h⟩
def VRs.two {c d:AV} {vs:List Value} (h:VRs g [c,d] vs):∃v u,vs=[v,u]/\VR g c v/\VR g d u:=by
 cases h with|cons h hs=>obtain ⟨u,rfl,hu⟩:=hs.one;exact ⟨_,_,rfl,h,hu⟩
def VR.AU0 {k:IntKind} {n:Int} {v:Value} (h:VR g (.d (.int k n)) v):v= .int k n/\k.has n:=by
 cases h with|d h=>cases h with|int h=>exact ⟨rfl,h⟩
def Rel.AX3 (h:Rel base g Pr Y w0 w) {i:Nat} {a:AV} (hb:Y.blk i=some [a,s]) (ht:Y.bt i=some (2,ty)):
 ∃b x y,g.mu i=some b/\w.heap[b]?=some (.cells #[x,y] ty (0,0))/\VR g a x/\VR g s y/\base<=b/\¬Pr b/\Ax [a,s]=true:=by
 obtain ⟨b,hm,hs⟩:=h.shr i _ hb;obtain ⟨vs,ty',hh,hl,hrt,hv⟩:=hs.row;obtain ⟨h1,h2⟩:=hrt (2,ty) (h.st.2 i _ ht);simp only at h1 h2;subst h2;obtain ⟨x,y,hxy,Z,hy⟩:=hv.two
 have hvs:vs=#[x,y]:=by
  apply Array.toList_inj.1;rw [<- hxy,AP (by simp [h1])]
 subst hvs;exact ⟨b,x,y,hm,hh,Z,hy,hs.low,hs.pr,hs.ok⟩
def AGM {f:FuncId} (hc:∀(b:Nat) (w:World),w.cell? ⟨b,0,none⟩=some (.pointer (some ⟨b,0,none⟩))->Calls P f #[.pointer (some ⟨b,0,none⟩)] w fun e w'=>e= .returned (.tuple #[])/\w'=w)
 {i:Nat} (hb:Y.blk i=some [.gp i 0,s]) (ht:Y.bt i=some (2,ty)):AR P f [.gp i 0] Y (fun v σ'=>v= .tup []/\σ'=Y):=by
 intro base g Pr w0 w vs hr hv;obtain ⟨v,rfl,hvv⟩:=hv.one;obtain ⟨b,x,y,hm,hh,Z,_,_,_,_⟩:=hr.AX3 hb ht;cases hvv with|gp h=>
 cases Z with|gp h'=>
 rw [hm] at h h';cases h;cases h';refine (hc b w (by simp [World.cell?,hh])).mono ?_;rintro e w' ⟨rfl,rfl⟩;exact ⟨_,.tup [],g,Y,rfl,.tup (vs:=[]) rfl (by simp),hr,Gh.le_refl g,KP.refl _ _,rfl,rfl⟩
def ACW {f:FuncId} (hc:∀(b:Nat) (w:World),w.cell? ⟨b,0,none⟩=some (.pointer none)->w.shape? b=some (ty,2)->w.frozen? ⟨b,0,none⟩=false->Calls P f #[.pointer (some ⟨b,0,none⟩)] w fun e w'=>e= .returned (.tuple #[])/\w'=w.setCell ⟨b,0,none⟩ (.pointer (some ⟨b,0,none⟩)))
 {i:Nat} (hb:Y.blk i=some [.EO,s]) (ht:Y.bt i=some (2,ty)):AR P f [.gp i 0] Y (fun v σ'=>v= .tup []/\σ'=Y.AL i [.gp i 0,s]):=by
 intro base g Pr w0 w vs hr hv;obtain ⟨v,rfl,hvv⟩:=hv.one;obtain ⟨b,x,y,hm,hh,Z,hy,hlow,hpr,hok⟩:=hr.AX3 hb ht;cases hvv with|gp h=>
 cases Z with|EO=>
 rw [hm] at h;cases h;refine (hc b w (by simp [World.cell?,hh]) (by simp [World.shape?,hh]) (by simp [World.frozen?,hh])).mono ?_;rintro e w' ⟨rfl,rfl⟩;have hbel:Below base w (w.setCell ⟨b,0,none⟩ (.pointer (some ⟨b,0,none⟩))):=(Below.refl base w).setCell (p:=⟨b,0,none⟩) hlow _;have hsz:(w.setCell ⟨b,0,none⟩ (.pointer (some ⟨b,0,none⟩))).heap.size=w.heap.size:=by simp [World.setCell]
 have hne:∀k,k≠b->(w.setCell ⟨b,0,none⟩ (.pointer (some ⟨b,0,none⟩))).heap[k]?=w.heap[k]?:=fun k hk=>by
  simp only [World.setCell,Vn];rw [if_neg (fun e=>hk e.symm)]
 have hat:(w.setCell ⟨b,0,none⟩ (.pointer (some ⟨b,0,none⟩))).heap[b]?=some (.cells #[.pointer (some ⟨b,0,none⟩),y] ty (0,0)):=by
  simp [World.setCell,Vn,hh]
 refine ⟨_,.tup [],g,Y.AL i [.gp i 0,s],rfl,.tup (vs:=[]) rfl (by simp),?_,Gh.le_refl g,⟨by omega,fun k hk=>hne k (fun e=>hpr (e ▸ hk))⟩,rfl,rfl⟩;refine hr.write hb hm (by omega) (fun k _ hk=>hne k hk) hbel hat (by simp) (fun t he=>?_) ?_ ?_
 . have:=hr.st.2 i _ ht;rw [this] at he;cases he;simp
 . simp only [A0,Bw,BF];exact .cons (.gp hm) (.cons hy .nil)
 . simp only [Ax,BO,Cq,BU,AO] at hok ⊢;exact ⟨rfl,hok.2⟩
end
end Go.Ab
namespace Go.Proofs
open Go.Shelf
def Tryz.l9:Go.Shelf.Ren:=⟨fun|240=>168|276=>232|n=>n,fun|70=>159|0=>0|72=>162|4=>4|164=>342|37=>160|5=>5|n=>n,fun|n=>n⟩
def Tryz.AKG:Go.Proofs.Lays.n240 Tzp Tryz.l9:= {
 mixed:=by kernel_rfl
 f240:=Tryz.func168.trans (congrArg some (by kernel_rfl))
 f276:=Tryz.func232.trans (congrArg some (by kernel_rfl))
 t0:=Tryz.underlying0
 a0:=Tryz.isAgg0
 z0:=Tryz.sizeOf0
 v0:=Tryz.zeroValue0
 t4:=Tryz.underlying4
 a4:=Tryz.isAgg4
 z4:=Tryz.sizeOf4
 v4:=Tryz.zeroValue4
 t9:=Tryz.underlying9
 a9:=Tryz.isAgg9
 z9:=Tryz.sizeOf9
 v9:=Tryz.zeroValue9
 t20:=Tryz.underlying20
 a20:=Tryz.isAgg20
 z20:=Tryz.sizeOf20
 v20:=Tryz.zeroValue20
 t70:=Tryz.underlying159
 a70:=Tryz.isAgg159
 z70:=Tryz.sizeOf159
 v70:=Tryz.zeroValue159
 t72:=Tryz.underlying162
 a72:=Tryz.isAgg162
 z72:=Tryz.sizeOf162
 v72:=Tryz.zeroValue162
 t164:=Tryz.underlying342
 a164:=Tryz.isAgg342
 z164:=Tryz.sizeOf342
 v164:=Tryz.zeroValue342}
def Tryz.Vp:Builder.X72 Tzp Tryz.l9:= {
 sizeBuilder:=by kernel_rfl
 liesBuilder:=by kernel_rfl}
def Tryz.l8:Go.Shelf.Ren:=⟨fun|169=>62|n=>n,fun|70=>159|9=>9|0=>0|72=>162|37=>160|127=>234|3=>3|5=>5|n=>n,fun|n=>n⟩
def Tryz.AU1:Go.Proofs.Lays.n169 Tzp Tryz.l8:= {
 mixed:=by kernel_rfl
 f169:=Tryz.func62.trans (congrArg some (by kernel_rfl))
 t0:=Tryz.underlying0
 a0:=Tryz.isAgg0
 z0:=Tryz.sizeOf0
 v0:=Tryz.zeroValue0
 t3:=Tryz.underlying3
 a3:=Tryz.isAgg3
 z3:=Tryz.sizeOf3
 v3:=Tryz.zeroValue3
 t9:=Tryz.underlying9
 a9:=Tryz.isAgg9
 z9:=Tryz.sizeOf9
 v9:=Tryz.zeroValue9
 t37:=Tryz.underlying160
 a37:=Tryz.isAgg160
 z37:=Tryz.sizeOf160
 v37:=Tryz.zeroValue160
 t70:=Tryz.underlying159
 a70:=Tryz.isAgg159
 z70:=Tryz.sizeOf159
 v70:=Tryz.zeroValue159
 t72:=Tryz.underlying162
 a72:=Tryz.isAgg162
 z72:=Tryz.sizeOf162
 v72:=Tryz.zeroValue162
 t127:=Tryz.underlying234
 a127:=Tryz.isAgg234
 z127:=Tryz.sizeOf234
 v127:=Tryz.zeroValue234}
def Tryz.dU:Builder.Extra Tzp Tryz.l8:= {
 sizeBuilder:=by kernel_rfl
 liesBuilder:=by kernel_rfl
 t5:=Tryz.underlying5
 a5:=Tryz.isAgg5
 z5:=Tryz.sizeOf5
 v5:=Tryz.zeroValue5
 infoByte:=by kernel_rfl
 cellsByte:=by kernel_rfl
 sizeByte:=by kernel_rfl
 neB5:=by decide}
def Tryz.AAW:Go.Shelf.Ren:=⟨fun|171=>105|243=>169|246=>233|283=>264|284=>265|285=>266|286=>267|129=>288|317=>290|318=>291|319=>292|320=>293|337=>307|338=>308|n=>n,fun|3=>3|9=>9|2=>2|4=>4|171=>368|0=>0|53=>369|37=>160|5=>5|173=>372|212=>392|51=>389|20=>20|213=>393|46=>362|232=>404|233=>405|n=>n,fun|17=>1|18=>2|19=>3|n=>n⟩
def Tryz.AQ9:Go.Proofs.LaysM.n171 Tzp Tryz.AAW:= {
 mixed:=by kernel_rfl
 f129:=Tryz.func288.trans (congrArg some (by kernel_rfl))
 f171:=Tryz.func105.trans (congrArg some (by kernel_rfl))
 f243:=Tryz.func169.trans (congrArg some (by kernel_rfl))
 f246:=Tryz.func233.trans (congrArg some (by kernel_rfl))
 f283:=Tryz.func264.trans (congrArg some (by kernel_rfl))
 f284:=Tryz.func265.trans (congrArg some (by kernel_rfl))
 f285:=Tryz.func266.trans (congrArg some (by kernel_rfl))
 f286:=Tryz.func267.trans (congrArg some (by kernel_rfl))
 f317:=Tryz.func290.trans (congrArg some (by kernel_rfl))
 f318:=Tryz.func291.trans (congrArg some (by kernel_rfl))
 f319:=Tryz.func292.trans (congrArg some (by kernel_rfl))
 f320:=Tryz.func293.trans (congrArg some (by kernel_rfl))
 f337:=Tryz.func307.trans (congrArg some (by kernel_rfl))
 f338:=Tryz.func308.trans (congrArg some (by kernel_rfl))
 t0:=Tryz.underlying0
 a0:=Tryz.isAgg0
 z0:=Tryz.sizeOf0
 v0:=Tryz.zeroValue0
 t2:=Tryz.underlying2
 a2:=Tryz.isAgg2
 z2:=Tryz.sizeOf2
 v2:=Tryz.zeroValue2
 t3:=Tryz.underlying3
 a3:=Tryz.isAgg3
 z3:=Tryz.sizeOf3
 v3:=Tryz.zeroValue3
 t4:=Tryz.underlying4
 a4:=Tryz.isAgg4
 z4:=Tryz.sizeOf4
 v4:=Tryz.zeroValue4
 t5:=Tryz.underlying5
 a5:=Tryz.isAgg5
 z5:=Tryz.sizeOf5
 v5:=Tryz.zeroValue5
 t9:=Tryz.underlying9
 a9:=Tryz.isAgg9
 z9:=Tryz.sizeOf9
 v9:=Tryz.zeroValue9
 t20:=Tryz.underlying20
 a20:=Tryz.isAgg20
 z20:=Tryz.sizeOf20
 v20:=Tryz.zeroValue20
 t37:=Tryz.underlying160
 a37:=Tryz.isAgg160
 z37:=Tryz.sizeOf160
 v37:=Tryz.zeroValue160
 t46:=Tryz.underlying362
 a46:=Tryz.isAgg362
 z46:=Tryz.sizeOf362
 v46:=Tryz.zeroValue362
 t51:=Tryz.underlying389
 a51:=Tryz.isAgg389
 z51:=Tryz.sizeOf389
 v51:=Tryz.zeroValue389
 t53:=Tryz.underlying369
 a53:=Tryz.isAgg369
 z53:=Tryz.sizeOf369
 v53:=Tryz.zeroValue369
 t171:=Tryz.underlying368
 a171:=Tryz.isAgg368
 z171:=Tryz.sizeOf368
 v171:=Tryz.zeroValue368
 t173:=Tryz.underlying372
 a173:=Tryz.isAgg372
 z173:=Tryz.sizeOf372
 v173:=Tryz.zeroValue372
 t212:=Tryz.underlying392
 a212:=Tryz.isAgg392
 z212:=Tryz.sizeOf392
 v212:=Tryz.zeroValue392
 t213:=Tryz.underlying393
 a213:=Tryz.isAgg393
 z213:=Tryz.sizeOf393
 t232:=Tryz.underlying404
 a232:=Tryz.isAgg404
 z232:=Tryz.sizeOf404
 v232:=Tryz.zeroValue404
 t233:=Tryz.underlying405
 a233:=Tryz.isAgg405
 z233:=Tryz.sizeOf405
 v233:=Tryz.zeroValue405
 g17:=by kernel_rfl
 g18:=by kernel_rfl
 g19:=by kernel_rfl
 i0:=by kernel_rfl
 i2:=by kernel_rfl
 i3:=by kernel_rfl
 i4:=by kernel_rfl
 i5:=by kernel_rfl
 i9:=by kernel_rfl
 i20:=by kernel_rfl
 i37:=by kernel_rfl
 i46:=by kernel_rfl
 i51:=by kernel_rfl
 i53:=by kernel_rfl
 i171:=by kernel_rfl
 i173:=by kernel_rfl
 i212:=by kernel_rfl
 i232:=by kernel_rfl
 i233:=by kernel_rfl
 m17:=by kernel_rfl
 m18:=by kernel_rfl
 m19:=by kernel_rfl}
end Go.Proofs
