/- Part Wl. Conditions: none. -/
import Derived.Test.YtfppaadffckcoaaGreatRows
import Derived.Test.YtfppaadffckcoaaGreatXOx
set_option linter.unusedSimpArgs false
set_option linter.unusedVariables false
set_option maxRecDepth 100000
set_option maxHeartbeats 40000000
open Go.Proofs.Tryz renaming prog→Tzp
open List renaming flatMap_cons→EE,length_append→AX,length_cons→A1,cons_append→AZ,append_assoc→Az,map_cons→AD,map_nil→AJ,take_of_length_le→AM,take_append_drop→Ad,length_take→B4,mem_cons_of_mem→AR,mem_append_left→Cv,mem_append_right→Hu,mem_cons_self→AS,mem_map→Be,length_map→AA,append_nil→BW,take→Ek,drop→EG,all_eq_true→A8,mem_append→A0,mem_cons→Ar,foldlM_cons→OP,getElem?_take→B2,mem_of_getElem?→AE,getElem?_map→Aj,getElem?_eq_some_iff→AG,map_congr_left→DL,flatten_cons→BU,replicate→AF,nil_append→As
open Nat renaming min_eq_left→Dd,zero_add→BJ,add_assoc→Wb,lt_or_ge→C7,le_refl→AW
open Int renaming reduceBEq→AY,reduceToNat→E0
open Option renaming isSome_some→CX,isSome_none→CW,bind_eq_some_iff→AB,bind_eq_bind→AQ,isSome_iff_exists→JI
open Bool renaming not_false→FL,and_true→B7,false_and→Bp,and_eq_true→AO
open Option.some renaming injEq→AL
namespace Go.Ab
open Go.Proofs
def jD (fs:List FE) (x:Ex×List Str):List Nat:=if x.1.op=4/\x.2.contains x.1.name=false then (match C9 (Bo fs) x.1.name with|some f=>[f]|none=>[]) else []
def HV (fs:List FE) (l:List (Ex×List Str)):List Nat:=l.flatMap (jD fs)
theorem ACG (fs:List FE) (x:Ex×List Str):(jD fs x).length<=1:=by
 unfold jD;split
 . split<;>simp
 . simp
theorem jE (fs:List FE):∀l:List (Ex×List Str),(HV fs l).length<=l.length
 |[]=>by simp [HV]
 |x::l=>by
  have h1:=jE fs l;have h2:=ACG fs x;simp only [HV,EE,AX,A1] at h1 ⊢;omega
theorem vP (fs:List FE) (l m:List (Ex×List Str)):HV fs (l++m)=HV fs l++HV fs m:=by simp [HV]
theorem AF3 (fs:List FE) (x:Ex×List Str) (m:List (Ex×List Str)):HV fs (x::m)=jD fs x++HV fs m:=by simp [HV]
theorem XK {vis:Ex->List Str->Int}:∀ {l:List (Ex×List Str)} (m:List (Ex×List Str)),Eu vis l=none->Eu vis (l++m)=(Eu vis m).map fun y=>(y.1+l.length,y.2)
 |[],m,_=>by simp
 |x::l,m,h=>by
  rw [Eu] at h;split at h
  . rename_i h0;have hl:Eu vis l=none:=by simpa using h
    rw [AZ,Eu,if_pos h0,XK m hl];cases Eu vis m with
    |none=>rfl
    |some y=>simp;omega
  . cases h
theorem SY {vis:Ex->List Str->Int}:∀ {l:List (Ex×List Str)} (m:List (Ex×List Str)) {r:Nat×Int},Eu vis l=some r->Eu vis (l++m)=some r
 |[],m,r,h=>by cases h
 |x::l,m,r,h=>by
  rw [Eu] at h;rw [AZ,Eu];split at h
  . rename_i h0;rw [if_pos h0];cases hl:Eu vis l with
    |none=>rw [hl] at h;cases h
    |some y=>rw [hl] at h;rw [SY m hl];exact h
  . rename_i h0;rw [if_neg h0];exact h
theorem bW (sc:List Str) (m:List Al):∀l:List Al,CD sc (l++m)=CD sc l++CD sc m
 |[]=>by rw [CD];rfl
 |a::l=>by rw [AZ,CD,CD,bW sc m l,Az]
def WS (σ0:AI) (j:Nat) (ps:List DE) (fs:List FE) (dt:List Dat) (n:Nat) (us:List Nat) (τ:AI):Prop:=
 ∃uv,τ.blk j=some (wkB ps fs dt n uv)/\Bz σ0 3 1 (us.map By) uv τ/\σ0.blk j=none
theorem WS.le {σ0:AI} {j:Nat} {ps:List DE} {fs:List FE} {dt:List Dat} {n:Nat} {us:List Nat} {τ:AI} (h:WS σ0 j ps fs dt n us τ):σ0.le τ:=by
 obtain ⟨uv,_,h,_⟩:=h;exact h.le
def okX (x:Ex×List Str):Prop:=Oj x.1/\(x.1.op=10->x.1.alts≠[])
theorem mG (o:Int) (n:Str) (u:Int) (ns:List Str) (ks:List Ex) (al:List Al) (sc:List Str):Bj (.mk o n u ns ks al) sc=(.mk o n u ns ks al,sc)::(Bn o n ns sc 0 ks++CD sc al):=by rw [Bj]
theorem uD {vis:Ex->List Str->Int} {x:Ex×List Str} {l:List (Ex×List Str)} (h:vis x.1 x.2=0):Eu vis (x::l)=(Eu vis l).map fun y=>(y.1+1,y.2):=by rw [Eu,if_pos h]
theorem ADW {vis:Ex->List Str->Int} {x:Ex×List Str} {l:List (Ex×List Str)} (h:vis x.1 x.2≠0):Eu vis (x::l)=some (0,vis x.1 x.2):=by rw [Eu,if_neg h]
def OX (σ0:AI) (j:Nat) (ps:List DE) (fs:List FE) (dt:List Dat) (e:Ex) (sc:List Str) (n:Nat) (us:List Nat) (v:AV) (σ':AI):Prop:=
 match Eu (EY fs dt) (Bj e sc) with
 |none=>v= .tup [.d (.int .i64 0),.d (.int .i64 0)]/\WS σ0 j ps fs dt (n+e.size) (us++HV fs (Bj e sc)) σ'
 |some (k,c)=>v= .tup [.d (.int .i64 c),.d (.int .i64 ((n+k:Nat):Int))]/\σ0.le σ'
theorem ABM (σ0:AI) (j:Nat) (ps:List DE) (fs:List FE) (dt:List Dat) (hdt:cJ dt) (hfl:fs.length<=1000):
 ∀(N:Nat) (e:Ex) (sc:List Str) (n:Nat) (us:List Nat) (τ:AI),e.size<=N->n+e.size<=1000000->us.length<=n->sc.length<=1000000->(∀x∈Bj e sc,okX x/\x.2.length<=1000000)->WS σ0 j ps fs dt n us τ->
  AT Tzp 20 [.gp j 0,exA e,.d (.sl (sc.map BF))] τ (OX σ0 j ps fs dt e sc n us):=by
 intro N
 induction N with
 |zero=>intro e sc n us τ h;have:=Ex.size_pos e;omega
 |succ N ihN=>
 rintro ⟨o,nm,u,ns,ks,al⟩ sc n us τ hN hn1 hus hscl hgood ⟨uv,hb,ho,hj0⟩;simp only [Ex.size] at hN hn1;have hlen:=Ex.Bl ks;have hlen2:=Al.Bl al;refine dT (by simp) ?_;rw [Dm,exA,Ex.A2];simp only [AD,AJ];generalize hQ:OX σ0 j ps fs dt (.mk o nm u ns ks al) sc n us=Q;have hw0:IntKind.i64.wrap ((n:Int)+1)=((n+1:Nat):Int):=A4 (by omega);unfold wkB at hb
 have hcl:yF (sc.map BF) none (some (.d (.int .i64 (sc.length:Int)))) (some (.d (.int .i64 (sc.length:Int)))) 1=some (.clip (sc.map BF)):=by
  simp [yF,fS,Xs];rw [AM (by simp)]
 have hW1:WS σ0 j ps fs dt (n+1) us (τ.AP j (wkB ps fs dt ((n+1:Nat):Int) uv)):=⟨uv,B0,ho.set hj0 _,hj0⟩;unfold wkB at hW1;have hvis:=NP fs dt o nm u ns ks al sc;have hpre:=mG o nm u ns ks al sc
 have hErr0:EY fs dt (.mk o nm u ns ks al) sc≠0->∀τ'',σ0.le τ''->Q (.tup [.d (.int .i64 (EY fs dt (.mk o nm u ns ks al) sc)),.d (.int .i64 (n:Int))]) τ'':=fun h τ'' hle=>by
  rw [<- hQ,OX,hpre,ADW h];exact ⟨by simp,hle⟩
 have hErr:EY fs dt (.mk o nm u ns ks al) sc=0->∀(k:Nat) (c:Int),Eu (EY fs dt) (Bn o nm ns sc 0 ks++CD sc al)=some (k,c)->∀τ'',σ0.le τ''->Q (.tup [.d (.int .i64 c),.d (.int .i64 ((n+1+k:Nat):Int))]) τ'':=fun h k c hk τ'' hle=>by
  rw [<- hQ,OX,hpre,uD h,hk];rw [show n+1+k=n+(k+1) by omega];exact ⟨rfl,hle⟩
 have hOk:EY fs dt (.mk o nm u ns ks al) sc=0->Eu (EY fs dt) (Bn o nm ns sc 0 ks++CD sc al)=none->∀τ'',WS σ0 j ps fs dt (n+1+Ex.AU ks+Al.AU al) (us++jD fs (.mk o nm u ns ks al,sc)++HV fs (Bn o nm ns sc 0 ks++CD sc al)) τ''->Q (.tup [.d (.int .i64 0),.d (.int .i64 0)]) τ'':=fun h hk τ'' hW=>by
  rw [<- hQ,OX,hpre,uD h,hk];refine ⟨rfl,?_⟩;rw [AF3,<- Az,Ex.size,show n+(1+Ex.AU ks+Al.AU al)=n+1+Ex.AU ks+Al.AU al by omega];exact hW
 rw [hpre] at hgood;clear hQ hpre;have hx0:=ACG fs (.mk o nm u ns ks al,sc);have h00:((0:Int) != 0)=false:=by decide
 have key:EY fs dt (.mk o nm u ns ks al) sc=0->∀τ':AI,WS σ0 j ps fs dt (n+1) (us++jD fs (.mk o nm u ns ks al,sc)) τ'->
  Run G7 Q [.code (.loop Ia),.blk 1,.code (.seq (.seq (.reg [⟨some 20,.mv (.c (.d (.int .i64 0))),none⟩] [0,2,4,20]) (.block 4 (.loop N4))) (.seq (.reg [⟨some 6,.mv (.c (.d (.int .i64 0))),none⟩,⟨some 7,.mv (.c (.d (.int .i64 0))),none⟩] [6,7]) .ret))]
   (put 0 (.gp j 0) (put 2 (.clip (sc.map BF)) (put 4 (.lp 4 0) (put 16 (.d (.int .i64 0)) U)))) (Am 4 [.d (.int .i64 o),.d (.str nm),.d (.int .i64 u),.d (.sl (ns.map BF)),.d (.sl (ks.map Ex.enc)),.d (.sl (al.map Al.enc))] E) τ':=by
  intro hv0 τ' hW';replace hErr:=hErr hv0;replace hOk:=hOk hv0;clear hErr0 hvis hb ho hW1;generalize jD fs (.mk o nm u ns ks al,sc)=ux at hOk hW' hx0;refine Run.At ?_
  refine Run.Au ((fun (a0:AV) (a2:AV) (a4:AV)=>fun (y:Nat×AI)=>put 0 a0 (put 2 a2 (put 4 a4 (put 16 (.d (.int .i64 y.1)) U)))) _ _ _) (fun _=>Am 4 [.d (.int .i64 o),.d (.str nm),.d (.int .i64 u),.d (.sl (ns.map BF)),.d (.sl (ks.map Ex.enc)),.d (.sl (al.map Al.enc))] E) (fun y=>y.2)
   (fun y=>y.1<=ks.length/\Eu (EY fs dt) (Bn o nm ns sc 0 (ks.take y.1))=none/\WS σ0 j ps fs dt (n+1+Ex.AU (ks.take y.1)) (us++ux++HV fs (Bn o nm ns sc 0 (ks.take y.1))) y.2)
   (fun y=>ks.length - y.1) ?_ (0,τ') ⟨by simp,rfl,by simpa [Ex.AU,Bn,HV] using hW'⟩
  rintro ⟨i,τi⟩ ⟨hi,hno,hWi⟩ ih;simp only at hi hno hWi;by_cases hlt:i < ks.length
  . obtain ⟨kd,hx⟩:=Ai hlt;have he:=Av (enc:=Ex.enc) hx;have hw1:=A4 (show i+1<=9000000000000000000 by omega)
    have hksp:Bn o nm ns sc 0 ks=Bn o nm ns sc 0 (ks.take i)++(Bj kd (Fa o nm ns sc i)++Bn o nm ns sc (i+1) (ks.drop (i+1))):=by
     conv=>lhs;rw [<- Ad i ks,Bu hx]
     rw [iK,Bn,B4,Dd hi,BJ]
    have hsn:Bn o nm ns sc 0 (ks.take (i+1))=Bn o nm ns sc 0 (ks.take i)++Bj kd (Fa o nm ns sc i):=by
     rw [Aa hx,bX,B4,Dd hi,BJ]
    have hszs:=Ex.Iy hx
    have hkl:Ex.AU (ks.take i)+kd.size<=Ex.AU ks:=by
     have:=congrArg List.length hksp;rw [HP,AX,AX,HP,QZ] at this;omega
    have hmem:∀x∈Bj kd (Fa o nm ns sc i),x∈(.mk o nm u ns ks al,sc)::(Bn o nm ns sc 0 ks++CD sc al):=fun x hm=>by
     refine AR _ (Cv _ ?_);rw [hksp];exact Hu _ (Cv _ hm)
    have hil:(Fa o nm ns sc i).length<=1000000:=by
     obtain ⟨ko,kn,ku,kns,kks,kal⟩:=kd;exact (hgood _ (hmem (.mk ko kn ku kns kks kal,Fa o nm ns sc i) (by rw [mG];exact AS ..))).2
    have hul:=jE fs (Bn o nm ns sc 0 (ks.take i));rw [HP] at hul;have hk:=ihN kd (Fa o nm ns sc i) (n+1+Ex.AU (ks.take i)) _ τi (by omega) (by omega) (by simp only [AX];omega) hil (fun x hm=>hgood x (hmem x hm)) hWi
    have hck:∀iv:AV,iv.plain= .d (.sl ((Fa o nm ns sc i).map BF))->AT Tzp 20 [.gp j 0,exA kd,iv] τi (OX σ0 j ps fs dt kd (Fa o nm ns sc i) (n+1+Ex.AU (ks.take i)) (us++ux++HV fs (Bn o nm ns sc 0 (ks.take i)))):=fun iv hiv=>by
     refine AT.plain ?_
     have hp:∀l:List DV,AV.CL (l.map AV.d)=l.map AV.d:=fun l=>by
      induction l with
      |nil=>rfl
      |cons x l ih=>rw [AD,AV.CL,G6,ih]
     simp only [AV.CL,hiv,pR,exA,ND,hp];exact hk
    clear hk
    have hcase:∀(v:AV) (τ2:AI),OX σ0 j ps fs dt kd (Fa o nm ns sc i) (n+1+Ex.AU (ks.take i)) (us++ux++HV fs (Bn o nm ns sc 0 (ks.take i))) v τ2->
     (v= .tup [.d (.int .i64 0),.d (.int .i64 0)]/\Eu (EY fs dt) (Bj kd (Fa o nm ns sc i))=none/\WS σ0 j ps fs dt (n+1+Ex.AU (ks.take i)+kd.size) (us++ux++HV fs (Bn o nm ns sc 0 (ks.take i))++HV fs (Bj kd (Fa o nm ns sc i))) τ2)\/
     (∃k' c,v= .tup [.d (.int .i64 c),.d (.int .i64 ((n+1+Ex.AU (ks.take i)+k':Nat):Int))]/\c≠0/\σ0.le τ2/\Eu (EY fs dt) (Bj kd (Fa o nm ns sc i))=some (k',c)):=fun v τ2 hq=>by
     unfold OX at hq;cases hek:Eu (EY fs dt) (Bj kd (Fa o nm ns sc i)) with
     |none=>rw [hek] at hq;exact .inl ⟨hq.1,rfl,hq.2⟩
     |some r=>obtain ⟨k',c⟩:=r;rw [hek] at hq;exact .inr ⟨k',c,hq.1,dI hek,hq.2,rfl⟩
    have hnext:=fun (τ2:AI) (h1:Eu (EY fs dt) (Bj kd (Fa o nm ns sc i))=none) (h2:WS σ0 j ps fs dt (n+1+Ex.AU (ks.take i)+kd.size) (us++ux++HV fs (Bn o nm ns sc 0 (ks.take i))++HV fs (Bj kd (Fa o nm ns sc i))) τ2)=>
     ih (i+1,τ2) ⟨by simp only;omega,by simp only;rw [hsn,XK _ hno,h1];rfl,by simp only;rw [hszs,hsn,vP,<- Az,<- Wb];exact h2⟩ (by simp only;omega)
    simp only at hnext
    have hbad:∀(k':Nat) (c:Int),Eu (EY fs dt) (Bj kd (Fa o nm ns sc i))=some (k',c)->∀τ2,σ0.le τ2->Q (.tup [.d (.int .i64 c),.d (.int .i64 ((n+1+Ex.AU (ks.take i)+k':Nat):Int))]) τ2:=fun k' c hek τ2 hle=>by
     have:=hErr (k'+Ex.AU (ks.take i)) c (by
      rw [hksp,Az,XK _ hno,Az,SY _ hek,HP];rfl) τ2 hle
     rwa [show n+1+(k'+Ex.AU (ks.take i))=n+1+Ex.AU (ks.take i)+k' by omega] at this
    have hsR:∀r∈sc.map BF,r.length=1:=fun r hr=>by
     obtain ⟨s,_,rfl⟩:=Be.1 hr;rfl
    have hnR:∀r∈ns.map BF,r.length=1:=fun r hr=>by
     obtain ⟨s,_,rfl⟩:=Be.1 hr;rfl
    clear ih hErr hOk hgood hksp hmem;obtain ⟨ko,kn,ku,kns,kks,kal⟩:=kd;simp only [exA,Ex.A2,AD,AJ] at he hck;have hi1:(((1:Nat):Int)==1)=true:=by decide
    by_cases hA:(o=7\/o=17)/\i=1/\nm≠[]
    . obtain ⟨hoo,rfl,hnm⟩:=hA;have hnb:(nm==[])=false:=by simpa using hnm
      have hiv:AV.plain (.d (.sl (sc.map BF++[[.str nm]])))= .d (.sl ((Fa o nm ns sc 1).map BF)):=by
       rw [G6,Fa,if_pos ⟨hoo,rfl⟩,if_neg hnm];simp [BF]
      rcases hoo with rfl|rfl
      . (repeat' (first|refine ctQ rfl ?_|((first|refine rgQ mxQ ?_|refine cdQ ?_|(refine DD.clip rfl hsR (by simp) (by simp;omega) (by decide) ?_)|(refine AH.mk rfl (hck _ hiv) ?_;intro v τ2 hq;refine Or.elim (hcase v τ2 hq) (fun h1=>?_) (fun h2=>?_);obtain ⟨rfl,hn2,hW2⟩:=h1;rotate_left;obtain ⟨k',c,rfl,hcn,hle2,hek⟩:=h2;rotate_left)|(refine Run.Bf BN (AI.le_refl _) ?_))<;>try simp only [Ag hlt,he,hw1,h00,AA,AY,hi1,hnb,DA,go_sem])|(refine ⟨fun h=>?_,fun h=>?_⟩<;>first|(cases h;done)|try simp only [h])|fail))
        all_goals first|exact hnext _ hn2 hW2|exact hbad _ _ hek _ hle2|exact absurd hcn (by simpa using ‹(_ != (0:Int))=false›)
      . (repeat' (first|refine ctQ rfl ?_|((first|refine rgQ mxQ ?_|refine cdQ ?_|(refine DD.clip rfl hsR (by simp) (by simp;omega) (by decide) ?_)|(refine AH.mk rfl (hck _ hiv) ?_;intro v τ2 hq;refine Or.elim (hcase v τ2 hq) (fun h1=>?_) (fun h2=>?_);obtain ⟨rfl,hn2,hW2⟩:=h1;rotate_left;obtain ⟨k',c,rfl,hcn,hle2,hek⟩:=h2;rotate_left)|(refine Run.Bf BN (AI.le_refl _) ?_))<;>try simp only [Ag hlt,he,hw1,h00,AA,AY,hi1,hnb,DA,go_sem])|(refine ⟨fun h=>?_,fun h=>?_⟩<;>first|(cases h;done)|try simp only [h])|fail))
        all_goals first|exact hnext _ hn2 hW2|exact hbad _ _ hek _ hle2|exact absurd hcn (by simpa using ‹(_ != (0:Int))=false›)
    by_cases hB:(o=8/\i=1)\/o=11
    . have hiv:AV.plain (.d (.sl (sc.map BF++ns.map BF)))= .d (.sl ((Fa o nm ns sc i).map BF)):=by
       rw [G6,Fa,if_neg (by omega),if_pos hB];simp
      have hnl:sc.length+ns.length<=1000000:=by
       rw [Fa,if_neg (by omega),if_pos hB,AX] at hil;exact hil
      rcases hB with ⟨rfl,rfl⟩|rfl
      . (repeat' (first|refine ctQ rfl ?_|((first|refine rgQ mxQ ?_|refine cdQ ?_|(refine DD.clip rfl hsR (by exact hnR) (by simp;omega) (by decide) ?_)|(refine AH.mk rfl (hck _ hiv) ?_;intro v τ2 hq;refine Or.elim (hcase v τ2 hq) (fun h1=>?_) (fun h2=>?_);obtain ⟨rfl,hn2,hW2⟩:=h1;rotate_left;obtain ⟨k',c,rfl,hcn,hle2,hek⟩:=h2;rotate_left)|(refine Run.Bf BN (AI.le_refl _) ?_))<;>try simp only [Ag hlt,he,hw1,h00,AA,AY,hi1,go_sem])|(refine ⟨fun h=>?_,fun h=>?_⟩<;>first|(cases h;done)|try simp only [h])|fail))
        all_goals first|exact hnext _ hn2 hW2|exact hbad _ _ hek _ hle2|exact absurd hcn (by simpa using ‹(_ != (0:Int))=false›)
      . (repeat' (first|refine ctQ rfl ?_|((first|refine rgQ mxQ ?_|refine cdQ ?_|(refine DD.clip rfl hsR (by exact hnR) (by simp;omega) (by decide) ?_)|(refine AH.mk rfl (hck _ hiv) ?_;intro v τ2 hq;refine Or.elim (hcase v τ2 hq) (fun h1=>?_) (fun h2=>?_);obtain ⟨rfl,hn2,hW2⟩:=h1;rotate_left;obtain ⟨k',c,rfl,hcn,hle2,hek⟩:=h2;rotate_left)|(refine Run.Bf BN (AI.le_refl _) ?_))<;>try simp only [Ag hlt,he,hw1,h00,AA,AY,go_sem])|(refine ⟨fun h=>?_,fun h=>?_⟩<;>first|(cases h;done)|try simp only [h])|fail))
        all_goals first|exact hnext _ hn2 hW2|exact hbad _ _ hek _ hle2|exact absurd hcn (by simpa using ‹(_ != (0:Int))=false›)
    have hiv:AV.plain (.clip (sc.map BF))= .d (.sl ((Fa o nm ns sc i).map BF)):=by
     unfold Fa;by_cases h7:(o=7\/o=17)/\i=1
     . have hnm:nm=[]:=by
        by_cases hn:nm=[]
        . exact hn
        . exact absurd ⟨h7.1,h7.2,hn⟩ hA
       rw [if_pos h7,if_pos hnm];rfl
     . rw [if_neg h7,if_neg hB];rfl
    by_cases h7:o=7\/o=17
    . by_cases hi1':i=1
      . subst hi1'
        have hnb:(nm==[])=true:=by
         by_cases hn:nm=[]
         . simp [hn]
         . exact absurd ⟨h7,rfl,hn⟩ hA
        rcases h7 with rfl|rfl
        . (repeat' (first|refine ctQ rfl ?_|((first|refine rgQ mxQ ?_|refine cdQ ?_|(refine AH.mk rfl (hck _ hiv) ?_;intro v τ2 hq;refine Or.elim (hcase v τ2 hq) (fun h1=>?_) (fun h2=>?_);obtain ⟨rfl,hn2,hW2⟩:=h1;rotate_left;obtain ⟨k',c,rfl,hcn,hle2,hek⟩:=h2;rotate_left)|(refine Run.Bf BN (AI.le_refl _) ?_))<;>try simp only [Ag hlt,he,hw1,h00,AA,AY,hi1,hnb,DA,go_sem])|(refine ⟨fun h=>?_,fun h=>?_⟩<;>first|(cases h;done)|try simp only [h])|fail))
          all_goals first|exact hnext _ hn2 hW2|exact hbad _ _ hek _ hle2|exact absurd hcn (by simpa using ‹(_ != (0:Int))=false›)
        . (repeat' (first|refine ctQ rfl ?_|((first|refine rgQ mxQ ?_|refine cdQ ?_|(refine AH.mk rfl (hck _ hiv) ?_;intro v τ2 hq;refine Or.elim (hcase v τ2 hq) (fun h1=>?_) (fun h2=>?_);obtain ⟨rfl,hn2,hW2⟩:=h1;rotate_left;obtain ⟨k',c,rfl,hcn,hle2,hek⟩:=h2;rotate_left)|(refine Run.Bf BN (AI.le_refl _) ?_))<;>try simp only [Ag hlt,he,hw1,h00,AA,AY,hi1,hnb,DA,go_sem])|(refine ⟨fun h=>?_,fun h=>?_⟩<;>first|(cases h;done)|try simp only [h])|fail))
          all_goals first|exact hnext _ hn2 hW2|exact hbad _ _ hek _ hle2|exact absurd hcn (by simpa using ‹(_ != (0:Int))=false›)
      . have hib:((i:Int)==1)=false:=Cp (by omega);rcases h7 with rfl|rfl
        . (repeat' (first|refine ctQ rfl ?_|((first|refine rgQ mxQ ?_|refine cdQ ?_|(refine AH.mk rfl (hck _ hiv) ?_;intro v τ2 hq;refine Or.elim (hcase v τ2 hq) (fun h1=>?_) (fun h2=>?_);obtain ⟨rfl,hn2,hW2⟩:=h1;rotate_left;obtain ⟨k',c,rfl,hcn,hle2,hek⟩:=h2;rotate_left)|(refine Run.Bf BN (AI.le_refl _) ?_))<;>try simp only [Ag hlt,he,hw1,h00,AA,AY,hib,go_sem])|(refine ⟨fun h=>?_,fun h=>?_⟩<;>first|(cases h;done)|try simp only [h])|fail))
          all_goals first|exact hnext _ hn2 hW2|exact hbad _ _ hek _ hle2|exact absurd hcn (by simpa using ‹(_ != (0:Int))=false›)
        . (repeat' (first|refine ctQ rfl ?_|((first|refine rgQ mxQ ?_|refine cdQ ?_|(refine AH.mk rfl (hck _ hiv) ?_;intro v τ2 hq;refine Or.elim (hcase v τ2 hq) (fun h1=>?_) (fun h2=>?_);obtain ⟨rfl,hn2,hW2⟩:=h1;rotate_left;obtain ⟨k',c,rfl,hcn,hle2,hek⟩:=h2;rotate_left)|(refine Run.Bf BN (AI.le_refl _) ?_))<;>try simp only [Ag hlt,he,hw1,h00,AA,AY,hib,go_sem])|(refine ⟨fun h=>?_,fun h=>?_⟩<;>first|(cases h;done)|try simp only [h])|fail))
          all_goals first|exact hnext _ hn2 hW2|exact hbad _ _ hek _ hle2|exact absurd hcn (by simpa using ‹(_ != (0:Int))=false›)
    . have h7f:(o==7)=false:=Cp (by omega);have h17f:(o==17)=false:=Cp (by omega);have h11f:(o==11)=false:=Cp (by omega);by_cases h8:o=8
      . subst h8;have hib:((i:Int)==1)=false:=Cp (by omega);(repeat' (first|refine ctQ rfl ?_|((first|refine rgQ mxQ ?_|refine cdQ ?_|(refine AH.mk rfl (hck _ hiv) ?_;intro v τ2 hq;refine Or.elim (hcase v τ2 hq) (fun h1=>?_) (fun h2=>?_);obtain ⟨rfl,hn2,hW2⟩:=h1;rotate_left;obtain ⟨k',c,rfl,hcn,hle2,hek⟩:=h2;rotate_left)|(refine Run.Bf BN (AI.le_refl _) ?_))<;>try simp only [Ag hlt,he,hw1,h00,AA,AY,hib,go_sem])|(refine ⟨fun h=>?_,fun h=>?_⟩<;>first|(cases h;done)|try simp only [h])|fail))
        all_goals first|exact hnext _ hn2 hW2|exact hbad _ _ hek _ hle2|exact absurd hcn (by simpa using ‹(_ != (0:Int))=false›)
      . have h8f:(o==8)=false:=Cp h8;(repeat' (first|refine ctQ rfl ?_|((first|refine rgQ mxQ ?_|refine cdQ ?_|(refine AH.mk rfl (hck _ hiv) ?_;intro v τ2 hq;refine Or.elim (hcase v τ2 hq) (fun h1=>?_) (fun h2=>?_);obtain ⟨rfl,hn2,hW2⟩:=h1;rotate_left;obtain ⟨k',c,rfl,hcn,hle2,hek⟩:=h2;rotate_left)|(refine Run.Bf BN (AI.le_refl _) ?_))<;>try simp only [Ag hlt,he,hw1,h00,AA,h7f,h17f,h8f,h11f,go_sem])|(refine ⟨fun h=>?_,fun h=>?_⟩<;>first|(cases h;done)|try simp only [h])|fail))
        all_goals first|exact hnext _ hn2 hW2|exact hbad _ _ hek _ hle2|exact absurd hcn (by simpa using ‹(_ != (0:Int))=false›)
  . rw [AM (by omega)] at hno hWi;clear ih;(repeat' (first|refine ctQ rfl ?_|((first|refine rgQ mxQ ?_|refine cdQ ?_)<;>try simp only [B5 hlt,AA,go_sem])|fail));refine Run.At ?_
    refine Run.Au ((fun (a0:AV) (a2:AV) (a4:AV)=>fun (y:Nat×AI)=>put 0 a0 (put 2 a2 (put 4 a4 (put 20 (.d (.int .i64 y.1)) U)))) _ _ _) (fun _=>Am 4 [.d (.int .i64 o),.d (.str nm),.d (.int .i64 u),.d (.sl (ns.map BF)),.d (.sl (ks.map Ex.enc)),.d (.sl (al.map Al.enc))] E) (fun y=>y.2)
     (fun y=>y.1<=al.length/\Eu (EY fs dt) (Bn o nm ns sc 0 ks++CD sc (al.take y.1))=none/\WS σ0 j ps fs dt (n+1+Ex.AU ks+Al.AU (al.take y.1)) (us++ux++HV fs (Bn o nm ns sc 0 ks++CD sc (al.take y.1))) y.2)
     (fun y=>al.length - y.1) ?_ (0,τi) ⟨by simp,by simpa [CD] using hno,by simpa [Al.AU,CD] using hWi⟩
    rintro ⟨q,τq⟩ ⟨hq0,hnq,hWq⟩ ih;simp only at hq0 hnq hWq;by_cases hltq:q < al.length
    . obtain ⟨ad,hx⟩:=Ai hltq;have he:=Av (enc:=Al.enc) hx;have hw1:=A4 (show q+1<=9000000000000000000 by omega);obtain ⟨ac,avs,ab⟩:=ad
      have hasp:CD sc al=CD sc (al.take q)++(Bj ab (sc++avs)++CD sc (al.drop (q+1))):=by
       conv=>lhs;rw [<- Ad q al,Bu hx]
       rw [bW,CD,VI]
      have hsn:CD sc (al.take (q+1))=CD sc (al.take q)++Bj ab (sc++avs):=by
       rw [Aa hx,bW,CD,VI,CD,BW]
      have hszs:=Al.Iy hx;rw [Al.size] at hszs
      have hal2:Al.AU (al.take q)+ab.size<=Al.AU al:=by
       have:=congrArg List.length hasp;rw [Kx,AX,AX,Kx,QZ] at this;omega
      have hmem:∀x∈Bj ab (sc++avs),x∈(.mk o nm u ns ks al,sc)::(Bn o nm ns sc 0 ks++CD sc al):=fun x hm=>by
       refine AR _ (Hu _ ?_);rw [hasp];exact Hu _ (Cv _ hm)
      have hil:(sc++avs).length<=1000000:=by
       obtain ⟨ko,kn,ku,kns,kks,kal⟩:=ab;exact (hgood _ (hmem (.mk ko kn ku kns kks kal,sc++avs) (by rw [mG];exact AS ..))).2
      rw [AX] at hil;have hul:=jE fs (Bn o nm ns sc 0 ks++CD sc (al.take q));rw [AX,HP,Kx] at hul;have hk:=ihN ab (sc++avs) (n+1+Ex.AU ks+Al.AU (al.take q)) _ τq (by omega) (by omega) (by simp only [AX];omega) (by rw [AX];exact hil) (fun x hm=>hgood x (hmem x hm)) hWq
      have hck:∀iv:AV,iv.plain= .d (.sl ((sc++avs).map BF))->AT Tzp 20 [.gp j 0,exA ab,iv] τq (OX σ0 j ps fs dt ab (sc++avs) (n+1+Ex.AU ks+Al.AU (al.take q)) (us++ux++HV fs (Bn o nm ns sc 0 ks++CD sc (al.take q)))):=fun iv hiv=>by
       refine AT.plain ?_
       have hp:∀l:List DV,AV.CL (l.map AV.d)=l.map AV.d:=fun l=>by
        induction l with
        |nil=>rfl
        |cons x l ih=>rw [AD,AV.CL,G6,ih]
       simp only [AV.CL,hiv,pR,exA,ND,hp];exact hk
      clear hk
      have hcase:∀(v:AV) (τ2:AI),OX σ0 j ps fs dt ab (sc++avs) (n+1+Ex.AU ks+Al.AU (al.take q)) (us++ux++HV fs (Bn o nm ns sc 0 ks++CD sc (al.take q))) v τ2->
       (v= .tup [.d (.int .i64 0),.d (.int .i64 0)]/\Eu (EY fs dt) (Bj ab (sc++avs))=none/\WS σ0 j ps fs dt (n+1+Ex.AU ks+Al.AU (al.take q)+ab.size) (us++ux++HV fs (Bn o nm ns sc 0 ks++CD sc (al.take q))++HV fs (Bj ab (sc++avs))) τ2)\/
       (∃k' c,v= .tup [.d (.int .i64 c),.d (.int .i64 ((n+1+Ex.AU ks+Al.AU (al.take q)+k':Nat):Int))]/\c≠0/\σ0.le τ2/\Eu (EY fs dt) (Bj ab (sc++avs))=some (k',c)):=fun v τ2 hq=>by
       unfold OX at hq;cases hek:Eu (EY fs dt) (Bj ab (sc++avs)) with
       |none=>rw [hek] at hq;exact .inl ⟨hq.1,rfl,hq.2⟩
       |some r=>obtain ⟨k',c⟩:=r;rw [hek] at hq;exact .inr ⟨k',c,hq.1,dI hek,hq.2,rfl⟩
      have hnext:=fun (τ2:AI) (h1:Eu (EY fs dt) (Bj ab (sc++avs))=none) (h2:WS σ0 j ps fs dt (n+1+Ex.AU ks+Al.AU (al.take q)+ab.size) (us++ux++HV fs (Bn o nm ns sc 0 ks++CD sc (al.take q))++HV fs (Bj ab (sc++avs))) τ2)=>
       ih (q+1,τ2) ⟨by simp only;omega,by simp only;rw [hsn,<- Az,XK _ hnq,h1];rfl,by simp only;rw [hszs,hsn,<- Az,vP fs _ (Bj ab (sc++avs)),<- Az,<- Wb];exact h2⟩ (by simp only;omega)
      simp only at hnext
      have hbad:∀(k':Nat) (c:Int),Eu (EY fs dt) (Bj ab (sc++avs))=some (k',c)->∀τ2,σ0.le τ2->Q (.tup [.d (.int .i64 c),.d (.int .i64 ((n+1+Ex.AU ks+Al.AU (al.take q)+k':Nat):Int))]) τ2:=fun k' c hek τ2 hle=>by
       have:=hErr (k'+(Ex.AU ks+Al.AU (al.take q))) c (by
        rw [hasp,<- Az,XK _ hnq,SY _ hek,AX,HP,Kx];rfl) τ2 hle
       rwa [show n+1+(k'+(Ex.AU ks+Al.AU (al.take q)))=n+1+Ex.AU ks+Al.AU (al.take q)+k' by omega] at this
      have hsR:∀r∈sc.map BF,r.length=1:=fun r hr=>by
       obtain ⟨s,_,rfl⟩:=Be.1 hr;rfl
      have hvR:∀r∈avs.map BF,r.length=1:=fun r hr=>by
       obtain ⟨s,_,rfl⟩:=Be.1 hr;rfl
      have hiv:AV.plain (.d (.sl (sc.map BF++avs.map BF)))= .d (.sl ((sc++avs).map BF)):=by rw [G6];simp
      clear ih hErr hOk hgood hasp hmem;obtain ⟨ko,kn,ku,kns,kks,kal⟩:=ab;simp only [exA,Al.A2,Ex.A2,AD,AJ] at he hck;(repeat' (first|refine ctQ rfl ?_|((first|refine rgQ mxQ ?_|refine cdQ ?_)<;>try simp only [Ag hltq,he,hw1,h00,AA,go_sem])|fail));refine Run.Jf mixed ?_;simp only [he,hw1,h00,AA,and_true,go_sem];refine And.intro ?_ ?_
      all_goals (repeat' (first|refine ctQ rfl ?_|((first|refine rgQ mxQ ?_|refine cdQ ?_|(refine DD.clip rfl hsR (by exact hvR) (by simp;omega) (by decide) ?_)|(refine AH.mk rfl (hck _ hiv) ?_;intro v τ2 hq;refine Or.elim (hcase v τ2 hq) (fun h1=>?_) (fun h2=>?_);obtain ⟨rfl,hn2,hW2⟩:=h1;rotate_left;obtain ⟨k',c,rfl,hcn,hle2,hek⟩:=h2;rotate_left)|(refine Run.Bf BN (AI.le_refl _) ?_))<;>try simp only [he,hw1,h00,AA,go_sem])|(refine ⟨fun h=>?_,fun h=>?_⟩<;>first|(cases h;done)|try simp only [h])|fail))
      all_goals first|exact hnext _ hn2 hW2|exact hbad _ _ hek _ hle2|exact absurd hcn (by simpa using ‹(_ != (0:Int))=false›)
    . rw [AM (by omega)] at hnq hWq;have hfin:=hOk hnq τq hWq;(repeat' (first|refine ctQ rfl ?_|((first|refine rgQ mxQ ?_|refine cdQ ?_|(refine Run.Bf BN (AI.le_refl _) ?_))<;>try simp only [B5 hltq,AA,go_sem])|fail));exact hfin
 have hslt:∀q:Nat,decide ((q:Int) < 0)=false:=fun q=>decide_eq_false (by omega);(repeat' (first|refine Run.cb rfl ?_|((first|refine rgQ mxQ ?_|refine cdQ ?_)<;>try simp only [hb,hw0,hcl,AA,ho.cell,Ek,EG,go_sem])|fail));generalize hσ1:τ.AP j [AV.d (.sl (ps.map DE.enc)),.d (.sl (fs.map FE.enc)),.d (.sl (dt.map Dat.enc)),.d (.int .i64 ((n+1:Nat):Int)),uv]=σ1 at hW1 ⊢;have hb1:σ1.blk j=some [AV.d (.sl (ps.map DE.enc)),.d (.sl (fs.map FE.enc)),.d (.sl (dt.map Dat.enc)),.d (.int .i64 ((n+1:Nat):Int)),uv]:=by rw [<- hσ1,AK,if_pos rfl]
 have ho1:Bz σ0 3 1 (us.map By) uv σ1:=by rw [<- hσ1];exact ho.set hj0 _
 have hle1:=ho1.le;clear hσ1 ho hb hw0;obtain ⟨⟨hg4,hg12,hgal,hgk⟩,hg10⟩:=(hgood _ (AS ..)).1;replace hg4:o=4->nm≠[]:=hg4;replace hg12:o=12->∃h t,ks=h::t/\(h.op=4->h.name≠[]):=hg12;replace hg10:o=10->al≠[]:=hg10
 have hux:o≠4->jD fs (.mk o nm u ns ks al,sc)=[]:=fun h=>by
  unfold jD;rw [if_neg (fun hc=>h hc.1)]
 have hgo:o≠4->EY fs dt (.mk o nm u ns ks al) sc=0->_:=fun h hv=>key hv σ1 (by rw [hux h,BW];exact hW1);have hctr:=Rn dt hdt nm σ1;rw [dsA] at hctr;have hfi:=fun s=>Xx sc s (.clip (sc.map BF)) rfl σ1;have hfun:=fun s=>Xy ps fs dt ((n+1:Nat):Int) uv j s σ1 hfl hb1;by_cases h4:o=4
 . subst h4;rw [if_pos rfl] at hvis;have hfi:=hfi nm;have hfun:=hfun nm;have hin:=Io sc nm;cases hix:C9 sc nm with
   |some q=>
    rw [hix] at hfi hin;simp only [Fi,CX] at hfi hin;rw [<- hin] at hvis;have hv0:EY fs dt (.mk 4 nm u ns ks al) sc=0:=by rw [hvis];rfl
    have hu0:jD fs (.mk 4 nm u ns ks al,sc)=[]:=by
     unfold jD;rw [if_neg (fun h=>by have h2:sc.contains nm=false:=h.2;rw [<- hin] at h2;cases h2)]
    have:=key hv0 σ1 (by rw [hu0,BW];exact hW1);clear key hErr0 hErr hOk hgo;(repeat' (first|refine ctQ rfl ?_|((first|refine rgQ mxQ ?_|refine cdQ ?_|(refine AH.mk rfl hfi ?_;rintro _ _ ⟨rfl,rfl⟩))<;>try simp only [AY,hslt,AA,go_sem])|fail));exact this
   |none=>
   rw [hix] at hfi hin;simp only [Fi,CW] at hfi hin;rw [<- hin] at hvis;have hneg:decide ((-1:Int) < 0)=true:=by decide
   cases hif:C9 (Bo fs) nm with
   |none=>
    rw [hif] at hfun hvis;simp only [Fi] at hfun;replace hvis:EY fs dt (.mk 4 nm u ns ks al) sc=3:=by rw [hvis];rfl
    have:=hErr0 (by rw [hvis];decide) σ1 hle1;rw [hvis] at this;clear key hErr0 hErr hOk hgo;(repeat' (first|refine ctQ rfl ?_|((first|refine rgQ mxQ ?_|refine cdQ ?_|(refine AH.mk rfl hfi ?_;rintro _ _ ⟨rfl,rfl⟩)|(refine Run.Bf BN (AI.le_refl _) ?_)|refine AH.det (hfun) ?_)<;>try simp only [AY,hneg,AA,go_sem])|fail));exact this
   |some f=>
    rw [hif] at hfun hvis;simp only [Fi] at hfun;replace hvis:EY fs dt (.mk 4 nm u ns ks al) sc=0:=by rw [hvis];rfl
    have hu0:jD fs (.mk 4 nm u ns ks al,sc)=[f]:=by
     unfold jD;rw [if_pos ⟨rfl,hin.symm⟩,show (Ex.mk 4 nm u ns ks al,sc).1.name=nm from rfl,hif]
    have hkey:=key hvis;rw [hu0] at hkey;clear key hErr0 hErr hOk hgo;(repeat' (first|refine ctQ rfl ?_|((first|refine rgQ mxQ ?_|refine cdQ ?_|(refine AH.mk rfl hfi ?_;rintro _ _ ⟨rfl,rfl⟩)|(refine DD.own ho1 rfl (by simp) (by simp;omega) (by decide) (fun v2 σ2 ho2 hbk=>?_))|refine AH.det (hfun) ?_)<;>try simp only [AY,hneg,hslt,hb1,AA,ho1.cell,ho1.cells,ho1.BE,ho1.BV,go_sem])|fail));have hb2:=(hbk j).trans hb1;simp only [hb2,ho2.cells,ho2.cell,Ek,EG,go_sem];(repeat' (first|refine ctQ rfl ?_|((first|refine rgQ mxQ ?_|refine cdQ ?_)<;>try simp only [hb2,ho2.cell,ho2.cells,ho2.BV,go_sem])|fail));exact hkey _ ⟨v2,by rw [AK,if_pos rfl];rfl,by simpa [By] using ho2.set hj0 _,hj0⟩
 have hv4:=hvis;rw [if_neg h4] at hv4;have h4f:(o==4)=false:=Cp h4;have hgo:=hgo h4;clear key hvis;by_cases h6:o=6
 . subst h6;rw [if_pos rfl] at hv4;cases hc:EV dt nm with
   |none=>
    rw [hc] at hctr hv4;simp only [ZK] at hctr;replace hv4:EY fs dt (.mk 6 nm u ns ks al) sc=3:=hv4;have:=hErr0 (by rw [hv4];decide) σ1 hle1;rw [hv4] at this;clear hErr0 hErr hOk hgo;(repeat' (first|refine ctQ rfl ?_|((first|refine rgQ mxQ ?_|refine cdQ ?_|(refine Run.Bf BN (AI.le_refl _) ?_)|refine AH.det (hctr) ?_)<;>try simp only [AY,hb1,AA,go_sem])|fail));exact this
   |some x=>
    rw [hc] at hctr hv4;simp only [ZK] at hctr hv4;obtain ⟨d,cc,h1,h2,_⟩:=Pf hc;have har:=Uj (s:=[]) h1 h2;have hd:=PN h1;have hcc:=PM h2;have hbn:=rN ks.length cc.args.length;rw [har] at hv4;cases hne:(ks.length != cc.args.length) with
    |true=>
     rw [hne] at hbn;rw [if_pos (by simpa using hne)] at hv4;have:=hErr0 (by rw [hv4];decide) σ1 hle1;rw [hv4] at this;clear hErr0 hErr hOk hgo;(repeat' (first|refine ctQ rfl ?_|((first|refine rgQ mxQ ?_|refine cdQ ?_|(refine Run.Bf BN (AI.le_refl _) ?_)|refine AH.det (hctr) ?_)<;>try simp only [AY,hb1,hd,hcc,AA,FQ,hbn,go_sem])|fail));exact this
    |false=>
     rw [hne] at hbn;rw [if_neg (by simpa using hne)] at hv4;have:=hgo hv4;clear hErr0 hErr hOk hgo;(repeat' (first|refine ctQ rfl ?_|((first|refine rgQ mxQ ?_|refine cdQ ?_|refine AH.det (hctr) ?_)<;>try simp only [AY,hb1,hd,hcc,AA,FQ,hbn,go_sem])|fail));exact this
 rw [if_neg h6] at hv4;have h6f:(o==6)=false:=Cp h6;by_cases h8:o=8\/o=11
 . rw [if_pos h8] at hv4;have hrep:=Ro ns σ1;cases hB:CP ns with
   |true=>
    rw [hB] at hrep hv4;rw [if_pos rfl] at hv4;have:=hErr0 (by rw [hv4];decide) σ1 hle1;rw [hv4] at this;clear hErr0 hErr hOk hgo;rcases h8 with rfl|rfl
    . (repeat' (first|refine ctQ rfl ?_|((first|refine rgQ mxQ ?_|refine cdQ ?_|(refine Run.Bf BN (AI.le_refl _) ?_)|refine AH.det (hrep) ?_)<;>try simp only [AY,AA,go_sem])|fail));exact this
    . (repeat' (first|refine ctQ rfl ?_|((first|refine rgQ mxQ ?_|refine cdQ ?_|(refine Run.Bf BN (AI.le_refl _) ?_)|refine AH.det (hrep) ?_)<;>try simp only [AY,AA,go_sem])|fail));exact this
   |false=>
    rw [hB] at hrep hv4;rw [if_neg (by simp)] at hv4;have:=hgo hv4;clear hErr0 hErr hOk hgo;rcases h8 with rfl|rfl
    . (repeat' (first|refine ctQ rfl ?_|((first|refine rgQ mxQ ?_|refine cdQ ?_|refine AH.det (hrep) ?_)<;>try simp only [AY,AA,go_sem])|fail));exact this
    . (repeat' (first|refine ctQ rfl ?_|((first|refine rgQ mxQ ?_|refine cdQ ?_|refine AH.det (hrep) ?_)<;>try simp only [AY,AA,go_sem])|fail));exact this
 rw [if_neg h8] at hv4;have h8f:(o==8)=false:=Cp (by omega);have h11f:(o==11)=false:=Cp (by omega);by_cases h10:o=10
 . rw [if_pos h10] at hv4;have hal:=AFH ps fs dt hdt ((n+1:Nat):Int) uv j al σ1 hgal (hg10 h10) hb1;subst h10;by_cases hz:Jm dt al=0
   . have:=hgo (hv4.trans hz);rw [hz] at hal;clear hErr0 hErr hOk hgo;(repeat' (first|refine ctQ rfl ?_|((first|refine rgQ mxQ ?_|refine cdQ ?_|refine AH.det (hal) ?_)<;>try simp only [AY,h00,AA,go_sem])|fail));exact this
   . have:=hErr0 (by rw [hv4];exact hz) σ1 hle1;rw [hv4] at this;have hzb:(Jm dt al != 0)=true:=by simpa using hz
     clear hErr0 hErr hOk hgo;(repeat' (first|refine ctQ rfl ?_|((first|refine rgQ mxQ ?_|refine cdQ ?_|(refine Run.Bf BN (AI.le_refl _) ?_)|refine AH.det (hal) ?_)<;>try simp only [AY,hzb,AA,go_sem])|fail));exact this
 rw [if_neg h10] at hv4;have h10f:(o==10)=false:=Cp h10;by_cases h12:o=12
 . rw [if_pos h12] at hv4;subst h12;obtain ⟨hd,tl,rfl,hh4⟩:=hg12 rfl;obtain ⟨xo,xn,xu,xs,xk,xa⟩:=hd;simp only [Ex.op,Ex.name] at hh4;replace hv4:EY fs dt (.mk 12 nm u ns (.mk xo xn xu xs xk xa::tl) al) sc=if (decide (xo=4)&& !sc.contains xn)=true then (match C9 (Bo fs) xn with|none=>0|some f=>match fs[f]? with|some g=>if g.params.length+1≠tl.length+1 then 5 else 0|none=>0) else 0:=hv4
   have hfi:=hfi xn;have hfun:=hfun xn;have hin:=Io sc xn;by_cases hx4:xo=4
   . subst hx4;cases hix:C9 sc xn with
     |some q=>
      rw [hix] at hfi hin;simp only [Fi,CX] at hfi hin;rw [<- hin] at hv4;have:=hgo hv4;simp only [AD,Ex.A2] at this;clear hErr0 hErr hOk hgo;(repeat' (first|refine ctQ rfl ?_|((first|refine rgQ mxQ ?_|refine cdQ ?_|(refine AH.mk rfl hfi ?_;rintro _ _ ⟨rfl,rfl⟩))<;>try simp only [AY,hslt,AA,AD,Ex.A2,E0,sR,go_sem])|fail));exact this
     |none=>
      rw [hix] at hfi hin;simp only [Fi,CW] at hfi hin;rw [<- hin] at hv4;have hneg:decide ((-1:Int) < 0)=true:=by decide
      cases hif:C9 (Bo fs) xn with
      |none=>
       rw [hif] at hfun hv4;simp only [Fi] at hfun;have hnp:decide ((0:Int)<=-1)=false:=by decide
       have:=hgo hv4;simp only [AD,Ex.A2] at this;clear hErr0 hErr hOk hgo;(repeat' (first|refine ctQ rfl ?_|((first|refine rgQ mxQ ?_|refine cdQ ?_|(refine AH.mk rfl hfi ?_;rintro _ _ ⟨rfl,rfl⟩)|refine AH.det (hfun) ?_)<;>try simp only [AY,hneg,hnp,hb1,AA,AD,Ex.A2,E0,sR,go_sem])|fail));exact this
      |some f=>
       rw [hif] at hfun hv4;simp only [Fi] at hfun;obtain ⟨g,hgf,_⟩:=gN hif;have hge:=Av (enc:=FE.enc) hgf;simp only [hgf] at hv4;obtain ⟨gn,gp,go,gn2,gu,gns,gk,ga⟩:=g;simp only [FE.enc,Ex.A2] at hge;have hpos:decide ((0:Int)<=(f:Int))=true:=by simp
       have hsub:IntKind.i64.wrap (((tl.length+1:Nat):Int) - 1)=(tl.length:Int):=NI (by simp only [A1] at hlen;omega);have hbn:=rN gp.length tl.length;simp only [FL,B7,decide_true,if_true] at hv4;cases hne:(gp.length != tl.length) with
       |true=>
        rw [hne] at hbn;rw [if_pos (by simp only [bne_iff_ne,ne_eq] at hne;omega)] at hv4;have:=hErr0 (by rw [hv4];decide) σ1 hle1;rw [hv4] at this;clear hErr0 hErr hOk hgo;(repeat' (first|refine ctQ rfl ?_|((first|refine rgQ mxQ ?_|refine cdQ ?_|(refine AH.mk rfl hfi ?_;rintro _ _ ⟨rfl,rfl⟩)|(refine Run.Bf BN (AI.le_refl _) ?_)|refine AH.det (hfun) ?_)<;>try simp only [AY,hneg,hpos,hb1,hge,hsub,hbn,A1,AA,AD,Ex.A2,E0,sR,go_sem])|fail));exact this
       |false=>
        rw [hne] at hbn;rw [if_neg (by simp only [bne_eq_false_iff_eq] at hne;omega)] at hv4;have:=hgo hv4;simp only [AD,Ex.A2] at this;clear hErr0 hErr hOk hgo;(repeat' (first|refine ctQ rfl ?_|((first|refine rgQ mxQ ?_|refine cdQ ?_|(refine AH.mk rfl hfi ?_;rintro _ _ ⟨rfl,rfl⟩)|refine AH.det (hfun) ?_)<;>try simp only [AY,hneg,hpos,hb1,hge,hsub,hbn,A1,AA,AD,Ex.A2,E0,sR,go_sem])|fail));exact this
   . rw [decide_eq_false hx4,Bp,if_neg (by simp)] at hv4;have hxf:=Cp hx4;have:=hgo hv4;simp only [AD,Ex.A2] at this;clear hErr0 hErr hOk hgo;(repeat' (first|refine ctQ rfl ?_|((first|refine rgQ mxQ ?_|refine cdQ ?_)<;>try simp only [AY,hxf,AA,AD,Ex.A2,E0,sR,go_sem])|fail));exact this
 rw [if_neg h12] at hv4;have h12f:(o==12)=false:=Cp h12;have:=hgo hv4;clear hErr0 hErr hOk hgo;(repeat' (first|refine ctQ rfl ?_|((first|refine rgQ mxQ ?_|refine cdQ ?_)<;>try simp only [h4f,h6f,h8f,h11f,h10f,h12f,AA,go_sem])|fail));exact this
end Go.Ab
namespace Go.Ab
open Go.Proofs
theorem AMS (o:Int) (n:Str) (ns sc:List Str) (i:Nat) (h:ns.length<=6):(Fa o n ns sc i).length<=sc.length+6:=by
 unfold Fa;split
 . split
   . omega
   . rw [AX];simp
 . split
   . rw [AX];omega
   . omega
theorem ANE {o:Int} {n:Str} {u:Int} {ns:List Str} {nk:Nat} {al:List Al} (h:Lu o n u ns nk al=true):ns.length<=6/\(∀c vs b,Al.mk c vs b∈al->vs.length<=6)/\(o=10->al≠[]):=by
 simp only [Lu,AO] at h;obtain ⟨⟨⟨_,h3⟩,h4⟩,_⟩:=h;refine ⟨?_,fun c vs b hm=>?_,fun ho=>?_⟩
 . unfold nsB at h3;split at h3
   . simp only [AO,decide_eq_true_eq] at h3;omega
   . split at h3
     . simp only [AO,decide_eq_true_eq] at h3;omega
     . simp only [decide_eq_true_eq] at h3;omega
 . unfold asB at h4;split at h4
   . simp only [AO,A8] at h4;have:=h4.2 _ hm;simp only [Vq,AO,decide_eq_true_eq] at this;exact this.1.2
   . simp only [decide_eq_true_eq] at h4;have:=List.length_pos_of_mem hm;omega
 . unfold asB at h4;rw [if_pos ho] at h4;simp only [AO,decide_eq_true_eq] at h4;intro e;rw [e] at h4;simp at h4
theorem pD {o:Int} {n:Str} {ns sc:List Str} {x:Ex×List Str}:∀ {l:List Ex} {i:Nat},x∈Bn o n ns sc i l->∃k∈l,∃i',x∈Bj k (Fa o n ns sc i')
 |[],i,h=>by simp [Bn] at h
 |k::l,i,h=>by
  rw [Bn,A0] at h;rcases h with h|h
  . exact ⟨k,AS ..,_,h⟩
  . obtain ⟨k',h1,h2⟩:=pD h;exact ⟨k',AR _ h1,h2⟩
theorem AF4:∀(d q:Nat) (e:Ex) (r:Nat),vEx d q e=some r->∀sc x,x∈Bj e sc->x.2.length<=sc.length+6 * d/\(x.1.op=10->x.1.alts≠[])
 |0,q,e,r,h=>by simp [vEx] at h
 |d+1,0,.mk ..,r,h=>by cases h
 |d+1,q+1,.mk o n u ns ks al,r,h=>by
  simp only [vEx] at h;split at h
  . rename_i hn;rw [AB] at h;obtain ⟨c,hc,h⟩:=h;obtain ⟨_,h2⟩:=T6 (sz:=Ex.size) (Q:=fun e=>∀sc x,x∈Bj e sc->x.2.length<=sc.length+6 * d/\(x.1.op=10->x.1.alts≠[])) ks q c (fun x _ a b hab=>⟨(YY d a x b hab).1,AF4 d a x b hab⟩) hc
    obtain ⟨_,h4⟩:=T6 (sz:=Al.size) (Q:=fun a=>∀c vs b,a=Al.mk c vs b->∀sc x,x∈Bj b sc->x.2.length<=sc.length+6 * d/\(x.1.op=10->x.1.alts≠[])) al c r (fun x _ a b hab=>by
     cases x with
     |mk cc vs bd=>
      exact ⟨(YY d a _ b hab).1,fun c' vs' b' he=>by cases he;exact AF4 d a _ b hab⟩) h
    obtain ⟨m1,m2,m3⟩:=ANE hn;intro sc x hx;rw [mG,Ar,A0] at hx;rcases hx with rfl|hx|hx
    . exact ⟨by simp only;omega,m3⟩
    . obtain ⟨k,hk,i',hx⟩:=pD hx;have:=h2 k hk _ x hx;have hil:=AMS o n ns sc i' m1;exact ⟨by omega,this.2⟩
    . obtain ⟨a,ha,hx⟩:=Yf hx;obtain ⟨c',vs',b'⟩:=a;rw [VI] at hx;have:=h4 _ ha c' vs' b' rfl _ x hx;have hvl:=m2 _ _ _ ha;rw [AX] at this;exact ⟨by omega,this.2⟩
  . simp at h
theorem oC:∀(l:List FE) (q r:Nat),l.foldlM Qc q=some r->∀f∈l,∀sc x,x∈Bj f.body sc->x.2.length<=sc.length+240/\(x.1.op=10->x.1.alts≠[])
 |[],q,r,_,f,hf=>by simp at hf
 |g::l,q,r,h,f,hf=>by
  rw [OP,AQ,AB] at h;obtain ⟨b,hb,h⟩:=h;unfold Qc at hb;split at hb
  . rcases Ar.1 hf with rfl|hf
    . exact AF4 40 _ _ _ hb
    . exact oC l b r h f hf
  . cases hb
theorem AK2 {p:Pg} (h:Cl p=true):∀f∈p.Ev,∀x∈Bj f.body f.params,okX x/\x.2.length<=1000000:=by
 have hg:=JB h;simp only [Cl,AO,decide_eq_true_eq] at h;obtain ⟨_,h2⟩:=h;obtain ⟨r,hr⟩:=JI.1 h2;intro f hf x hx;obtain ⟨g1,g2,g3⟩:=hg.2 f hf;have:=oC _ _ _ hr f hf _ x hx;exact ⟨⟨g3 _ x hx,this.2⟩,by omega⟩
theorem WS.new {σ τ:AI} {j:Nat} (ps:List DE) (fs:List FE) (dt:List Dat) (hle:σ.le τ) (hj:τ.blk j=none):WS σ j ps fs dt 0 [] (τ.AP j (wkB ps fs dt 0 .Ae)):=by
 have hj0:σ.blk j=none:=by
  cases hc:σ.blk j with
  |none=>rfl
  |some c=>rw [hle.blk j c hc] at hj;cases hj
 have hl:=E6 (cs:=wkB ps fs dt 0 .Ae) hle hj0;exact ⟨.Ae,by rw [AK,if_pos rfl];rfl,⟨⟨_,rfl,hl⟩,hl,rfl,rfl,rfl,rfl,fun _=>rfl,rfl,rfl⟩,hj0⟩
theorem ABL (p:Pg) (σ:AI) (h:∀d∈p.data,KV d):AT Tzp 6 [pgA p] σ (fun v σ'=>v=dgA (K9 p)/\σ'=σ):=by
 have hdat:=AFF p σ h;refine AEC (by simp) ?_;rw [Bq];unfold K9;cases hdp:H4 p with
 |error d=>
  rw [hdp] at hdat;obtain ⟨c,a,b⟩:=d;obtain ⟨ds,fs⟩:=p;simp only [pgA,Pg.enc,AD,AJ,dE,dgA,dsA] at hdat ⊢;have hne:(c != 0)=true:=by simpa using XH hdp
  (repeat' ((first|refine wQ mxQ rfl ?_|refine Run.qR Mp ?_|refine AH.det (hdat) ?_|fail)<;>try simp only [hne,go_sem]))
 |ok dt=>
 rw [hdp] at hdat;obtain ⟨hval,hgo⟩:=Kn hdp;obtain ⟨hfl,hgood⟩:=JB hval;have hokx:=AK2 hval;have hdt:cJ dt:=(N9 hgo).2.2.2.2 1000000 (fun d hd=>by have:=((Ym hval h).2 d hd).1;omega);obtain ⟨ds,fs⟩:=p;simp only [pgA,Pg.enc,AD,AJ,dE,dgA,dsA] at hdat hfl hgood hokx ⊢;have h00:((0:Int) != 0)=false:=by decide
 (repeat' ((first|refine wQ mxQ rfl ?_|refine AH.det (hdat) ?_|fail)<;>try simp only [h00,AA,go_sem]));generalize hQ:(fun (v:AV) (σ':AI)=>v=AV.agg [.d (.int .i64 (Gt fs dt 0 fs).1),.d (.int .i64 (Gt fs dt 0 fs).2.1),.d (.int .i64 (Gt fs dt 0 fs).2.2)]/\σ'=σ)=Q;have hok:∀g1 g2 g3,Gt fs dt 0 fs=(g1,g2,g3)->Q (.agg [.d (.int .i64 g1),.d (.int .i64 g2),.d (.int .i64 g3)]) σ:=fun g1 g2 g3 hg=>by rw [<- hQ,hg];exact ⟨rfl,rfl⟩
 clear hQ;refine Run.At ?_
 refine Run.Au ((fun (a1:AV) (a2:AV) (a3:AV)=>fun (y:Nat×AI)=>put 1 a1 (put 2 a2 (put 3 a3 (put 5 (.d (.int .i64 y.1)) U)))) _ _ _) (fun _=>Am 1 [.d (.sl (ds.map DE.enc)),.d (.sl (fs.map FE.enc))] (Am 2 [.d (.int .i64 0),.d (.int .i64 0),.d (.int .i64 0)] E)) (fun y=>y.2)
  (fun y=>y.1<=fs.length/\(∀k f,fs[k]?=some f->k < y.1->XF fs dt k f=none)/\σ.le y.2) (fun y=>fs.length - y.1) ?_ (0,σ) ⟨by simp,fun k f _ hk=>by simp only at hk;omega,AI.le_refl _⟩
 rintro ⟨i,τ⟩ ⟨hi,hno,hle⟩ ih;simp only at hi hno hle;by_cases hlt:i < fs.length
 . obtain ⟨f,hf⟩:=Ai hlt;have he:=Av (enc:=FE.enc) hf;have hw1:=A4 (show i+1<=9000000000000000000 by omega)
   have hgo2:Gt fs dt 0 fs=Gt fs dt i (f::fs.drop (i+1)):=by
    conv=>lhs;rw [show Gt fs dt 0 fs=Gt fs dt 0 (fs.take i++fs.drop i) by rw [Ad],Bu hf]
    rw [T1 fs dt _ _ 0 (fun k g hg=>?_),BJ,B4,Dd hi];rw [BJ];rw [B2] at hg;split at hg
    . exact hno k g hg (by assumption)
    . cases hg
   rw [Gt] at hgo2;have hfm:=AE hf;obtain ⟨k,hk,hki⟩:=wX (l:=Bo fs) (s:=f.name) (i:=i) (by rw [Bo,Aj,hf];rfl)
   have hF:XF fs dt i f=if k < i\/CP f.params=true then some (4,(i:Int),0) else match Eu (EY fs dt) (Bj f.body f.params) with
    |some (k,c)=>some (c,(i:Int),(k:Int))
    |none=>none:=by
    unfold XF;rw [hk]
    have:(some k≠some i\/CP f.params=true)↔(k < i\/CP f.params=true):=by
     simp only [ne_eq,AL];constructor
     . rintro (h|h)
       . exact .inl (by omega)
       . exact .inr h
     . rintro (h|h)
       . exact .inl (by omega)
       . exact .inr h
    simp only [this];split
    . rfl
    . cases Eu (EY fs dt) (Bj f.body f.params)<;>rfl
   rw [hF] at hgo2
   have hnx:XF fs dt i f=none->∀k g,fs[k]?=some g->k < i+1->XF fs dt k g=none:=fun h0 k g hg hk=>by
    rcases C7 k i with h|h
    . exact hno k g hg h
    . have:k=i:=by omega
      subst this;rw [hf] at hg;cases hg;exact h0
   rw [hF] at hnx;clear hF;have hwsz:=(hgood f hfm).1;have hpl:=(hgood f hfm).2.1;have hox:=hokx f hfm;have hrp:=fun τ=>Ro f.params τ;obtain ⟨nm,fps,fb⟩:=f;simp only at hwsz hpl hox hrp hk hgo2 hnx;have hfn:=fun j τ hb=>Xy ds fs dt 0 .Ae j nm τ (by omega) hb;have hcb:=fun (j:Nat) (τ:AI) (hW:WS σ j ds fs dt 0 [] τ)=>ABM σ j ds fs dt hdt (by omega) fb.size fb fps 0 [] τ (AW _) (by omega) (by simp) (by omega) hox hW;rw [hk] at hfn;simp only [Fi,wkB] at hfn;simp only [FE.enc] at he;unfold OX at hcb;generalize hee:Eu (EY fs dt) (Bj fb fps)=ee at hcb hgo2 hnx;obtain ⟨xo,xn,xu,xns,xks,xal⟩:=fb;simp only [exA,Ex.A2,AD,AJ] at he hcb;(repeat' (refine wQ mxQ rfl ?_<;>try simp only [Ag hlt,he,AA,go_sem]));intro jw hjw;have hW:=WS.new (σ:=σ) ds fs dt hle hjw;have hle1:=hW.le;have hb1:(τ.AP jw (wkB ds fs dt 0 .Ae)).blk jw=some (wkB ds fs dt 0 .Ae):=B0;have hcb:=hcb jw _ hW;have hfn:=hfn jw _ hb1;have hrp:=hrp (τ.AP jw (wkB ds fs dt 0 .Ae));unfold wkB at hle1 hb1 hcb hfn hrp;generalize τ.AP jw [AV.d (.sl (ds.map DE.enc)),.d (.sl (fs.map FE.enc)),.d (.sl (dt.map Dat.enc)),.d (.int .i64 0),.Ae]=τ1 at hle1 hb1 hcb hfn hrp ⊢;by_cases hki2:k < i
   . have hd:decide ((k:Int) < (i:Int))=true:=by simpa using hki2
     rw [if_pos (.inl hki2)] at hgo2;have:=hok _ _ _ hgo2;clear hok;(repeat' ((first|refine wQ mxQ rfl ?_|(refine Run.Bf Mp (σ2:=σ) hle1 ?_)|refine AH.det (hfn) ?_|fail)<;>try simp only [hd,AA,go_sem]));exact this
   have hd:decide ((k:Int) < (i:Int))=false:=by simpa using hki2
   cases htw:CP fps with
   |true=>
    rw [htw] at hgo2 hrp;rw [if_pos (.inr rfl)] at hgo2;have:=hok _ _ _ hgo2;clear hok;(repeat' ((first|refine wQ mxQ rfl ?_|(refine Run.Bf Mp (σ2:=σ) hle1 ?_)|refine AH.det (hfn) ?_|refine AH.det (hrp) ?_|fail)<;>try simp only [hd,AA,go_sem]));exact this
   |false=>
   rw [htw] at hgo2 hrp hnx;rw [if_neg (by simp;omega)] at hgo2 hnx;cases ee with
   |some y=>
    obtain ⟨q,c⟩:=y;simp only at hgo2 hcb;have:=hok _ _ _ hgo2;have hcn:(c != 0)=true:=by simpa using dI hee
    rw [BJ] at hcb;clear hok;(repeat' ((first|refine wQ mxQ rfl ?_|(refine AH.mk rfl hcb ?_;rintro _ τ2 ⟨rfl,hle1⟩)|(refine Run.Bf Mp (σ2:=σ) hle1 ?_)|refine AH.det (hfn) ?_|refine AH.det (hrp) ?_|fail)<;>try simp only [hd,hcn,AA,go_sem]));exact this
   |none=>
    simp only at hcb hnx;clear hok;(repeat' ((first|refine wQ mxQ rfl ?_|(refine AH.mk rfl hcb ?_;rintro _ τ2 ⟨rfl,hW2⟩)|refine AH.det (hfn) ?_|refine AH.det (hrp) ?_|fail)<;>try simp only [hd,h00,hw1,AA,go_sem]));exact ih (i+1,τ2) ⟨by simp only;omega,hnx trivial,hW2.le⟩ (by simp only;omega)
 . have hall:Gt fs dt 0 fs=(0,0,0):=by
    have:=T1 fs dt [] fs 0 (fun k g hg=>by rw [BJ];exact hno k g hg (by have:=(AG.1 hg).1;omega));rw [BW] at this;rw [this];rfl
   have:=hok 0 0 0 hall;clear hok;(repeat' ((first|refine wQ mxQ rfl ?_|(refine Run.Bf Mp (σ2:=σ) hle ?_)|fail)<;>try simp only [B5 hlt,AA,go_sem]));exact this
end Go.Ab
namespace Go.Ab
open Go.Proofs
set_option maxRecDepth 100000
set_option maxHeartbeats 40000000
noncomputable section
noncomputable def Gy:Cx:=⟨Tzp,3,Tryz.f3,42,[300007,300011,300017,300021,300026,300031,300032,300035,300036],[],[.t 2]⟩
theorem Dz:Good Gy:=⟨Tryz.func3,by kernel_rfl⟩
theorem YC:Gy.rs=[.t 2]:=rfl
noncomputable def ZU:=BO Gy [] (G · [])
def Yw:C:=(ZU).1
theorem ZL:Inn Gy Yw 42:=inn [] Dz Tryz.ntmps3
noncomputable def NQ:Cx:=⟨Tzp,11,Tryz.f11,40,[300010,300015,300019,300025,300033],[],[.t 0]⟩
theorem Zj:Good NQ:=⟨Tryz.func11,by kernel_rfl⟩
theorem p6:NQ.rs=[.t 0]:=rfl
noncomputable def sK:=BO NQ [] (G · [])
def rP:C:=(sK).1
theorem sA:Inn NQ rP 40:=inn [] Zj Tryz.ntmps11
attribute [go_sem] YC p6
end
end Go.Ab
namespace Go.Ab
open Go.Proofs
mutual
theorem Ex.OJ:∀e:Ex,e.ren.size=e.size
 | .mk o n u ns ks al=>by rw [Ex.ren,Ex.size,Ex.size,Ex.LC ks,Al.LC al]
theorem Ex.LC:∀l:List Ex,Ex.AU (Ex.Fl l)=Ex.AU l
 |[]=>by rw [Ex.Fl]
 |e::l=>by rw [Ex.Fl,Ex.AU,Ex.AU,Ex.OJ e,Ex.LC l]
theorem Al.OJ:∀a:Al,a.ren.size=a.size
 | .mk c vs b=>by rw [Al.ren,Al.size,Al.size,Ex.OJ b]
theorem Al.LC:∀l:List Al,Al.AU (Al.Fl l)=Al.AU l
 |[]=>by rw [Al.Fl]
 |a::l=>by rw [Al.Fl,Al.AU,Al.AU,Al.OJ a,Al.LC l]
end
theorem AOU (fs:List FE):W8 (fs.map FE.ren)=W8 fs:=by
 simp only [W8,List.map_map];congr 1;exact DL fun f _=>Ex.OJ f.body
theorem DSm.ren {ds:List DE} (h:DSm ds):DSm (ds.map DE.ren):=fun d hd c hc=>by
 obtain ⟨d',hd',rfl⟩:=Be.1 hd;obtain ⟨c',hc',rfl⟩:=Be.1 hc;obtain ⟨h1,h2⟩:=h d' hd' c' hc';refine ⟨by simp only [CE.ren,AA];exact h1,fun t ht=>?_⟩;obtain ⟨t',ht',rfl⟩:=Be.1 ht;rw [TE.OJ];exact h2 t' ht'
def idP:Pg:=⟨[],[⟨[102],[[120]],.mk 4 [120] 0 [] [] []⟩]⟩
theorem AGP:K9 idP=(0,0,0):=by decide+kernel
theorem AD2 {gs:List (List Nat)} (h1:∀ms∈gs,ms≠[]) (h2:gs.flatten.Nodup) (h3:∀k,k∈gs.flatten↔k < 1):gs=[[0]]:=by
 have h0:gs.flatten=[0]:=by
  generalize gs.flatten=l at *;cases l with
  |nil=>have:=(h3 0).2 (by omega);simp at this
  |cons a l=>
   have ha:=(h3 a).1 (AS);have ha:a=0:=by omega
   subst ha;cases l with
   |nil=>rfl
   |cons b l=>
    have hb:=(h3 b).1 (by simp);have hb:b=0:=by omega
    subst hb;simp at h2
 cases gs with
 |nil=>simp at h0
 |cons ms gs=>
  cases ms with
  |nil=>exact absurd rfl (h1 [] (AS))
  |cons a ms=>
   rw [BU,AZ] at h0;simp only [List.cons.injEq,List.append_eq_nil_iff] at h0;obtain ⟨rfl,rfl,hf⟩:=h0;cases gs with
   |nil=>rfl
   |cons m2 gs=>
    rw [BU,List.append_eq_nil_iff] at hf;exact absurd hf.1 (h1 m2 (by simp))
def idR:JH:=([⟨1,[.mk 4 0 []],.mk 4 0 []⟩],[[(.mk 4 0 [],[])]])
theorem AIV:ID idP= .ok idR:=by
 have hc:(K9 idP).1=0:=by rw [AGP]
 obtain ⟨h1,h2,h3,_⟩:=dP hc;have hg:=AD2 h1 h2 h3;have hd:H4 idP= .ok []:=by kernel_rfl
 have hi:Hd idP.Ev [] [[0]] (AF idP.Ev.length iW,AF idP.Ev.length [])= .ok idR:=by kernel_rfl
 unfold ID;rw [AGP,hd,hg];simp only [ne_eq,not_true,if_false,hi]
theorem o5 (σ:AI):AT Tzp 11 [] σ (fun v σ'=>v= .d (.bool true)/\σ'=σ):=by
 have hc:=(O8 idP (fun d hd=>by cases hd) (by decide) σ).mono (Q':=fun v σ'=>v=QM (.ok idR)/\σ'=σ) fun v σ' h=>by rw [<- AIV];exact h.1
 refine sA (by simp) ?_;rw [show Wh []=U from by funext s;simp [Wh,U]];simp only [pgA,idP,Pg.enc,FE.enc,Ex.A2,AD,AJ,QM,idR,MB,Z0,OD,Ty.enc,Ty.Na,Ty.kind,Ty.num,Ty.args,AZ,As] at hc
 have hc':AT Tzp 8 [.agg [.Ae,.d (.sl [[.str [102],.sl [[.str [120]]],.int .i64 4,.str [120],.int .i64 0,.sl [],.sl [],.sl []]])]] σ _:=
  AT.plain (by simp only [AV.CL,ND,Kh,G6];exact hc)
 (repeat' ((first|refine wQ mxQ rfl ?_|refine Run.qP Zj ?_|refine AH.det (hc') ?_|fail)<;>try simp only [Int.le_refl,Int.toNat_zero,go_sem]))
theorem mN (p:Pg) (σ:AI):AT Tzp 3 [pgA p] σ (fun v σ'=>v= .d (.bool true)/\σ'=σ):=by
 have hk:=sP p σ;refine ZL (by simp) ?_;rw [Bq];obtain ⟨ds,fs⟩:=p;simp only [pgA,Pg.enc,AD,AJ] at hk ⊢;(repeat' ((first|refine wQ mxQ rfl ?_|(refine AH.mk rfl hk ?_;rintro _ σ ⟨b,⟨rfl,rfl⟩,hb⟩;cases b)|(refine Run.Bf Dz (AI.le_refl _) ?_)|fail)<;>try simp only [go_sem]));obtain ⟨hsm,hsz⟩:=hb rfl;have hsd:∀d∈(⟨ds,fs⟩:Pg).data,KV d:=fun d hd c hc t ht=>by have:=((hsm.1.2 d hd).2.2.2 c hc).2.2 t ht;omega
 have hck:=ABL ⟨ds,fs⟩ σ hsd;have hlg:=xA ⟨ds,fs⟩ 23 σ;have hren:=lG ⟨ds,fs⟩ hsm σ;have hin:=(O8 ⟨ds,fs⟩ hsm.ds hsz σ).mono (Q':=fun v σ'=>v=QM (ID ⟨ds,fs⟩)/\σ'=σ) fun v σ' h=>h.1;have hin2:=(O8 (Pg.ren ⟨ds,fs⟩) hsm.ds.ren (by rw [show (Pg.ren ⟨ds,fs⟩).Ev=fs.map FE.ren from rfl,AOU];exact hsz) σ).mono (Q':=fun v σ'=>v=QM (ID (Pg.ren ⟨ds,fs⟩))/\σ'=σ) fun v σ' h=>h.1;have haw:=o5 σ
 have hval:(K9 ⟨ds,fs⟩).1=0->Cl ⟨ds,fs⟩=true:=fun h=>by
  cases hd:H4 ⟨ds,fs⟩ with
  |error e=>
   obtain ⟨c,a,b⟩:=e;unfold K9 at h;rw [hd] at h;exact absurd h (XH hd)
  |ok dt=>exact (Kn hd).1
 have hrr:(K9 ⟨ds,fs⟩).1=0->(Pg.sh 23 ⟨ds,fs⟩)->ID (Pg.ren ⟨ds,fs⟩)=ID ⟨ds,fs⟩:=fun h hs=>AEF (hval h) hs;generalize K9 ⟨ds,fs⟩=ck at *;obtain ⟨c1,c2,c3⟩:=ck;simp only [pgA,Pg.enc,AD,AJ,dgA] at hck hlg hin hren hin2;by_cases hc0:c1=0
 . subst hc0;have h0:((0:Int) != 0)=false:=by decide
   (repeat' ((first|refine wQ mxQ rfl ?_|(refine AH.mk rfl hlg ?_;rintro _ σ ⟨b,⟨rfl,rfl⟩,hb2⟩;cases b)|(refine Run.Bf Dz (AI.le_refl _) ?_)|refine AH.det (hck) ?_|fail)<;>try simp only [h0,go_sem]));have hsh:=hb2 rfl;rw [hrr rfl hsh] at hin2;generalize ID ⟨ds,fs⟩=res at hin hin2;simp only [Pg.ren,AD,AJ] at hren hin2;have hq:∀n:Int,(n==n)=true:=fun n=>by simp
   cases res with
   |error d=>
    have hsame:=QV ([],[]) σ;simp only [QM,tyR,AJ] at hin hin2 hsame;(repeat' ((first|refine wQ mxQ rfl ?_|refine Run.qP Dz ?_|refine AH.det (hin) ?_|refine AH.det (hren) ?_|refine AH.det (hin2) ?_|refine AH.det (hsame) ?_|refine AH.det (haw) ?_|fail)<;>try simp only [hq,go_sem]))
   |ok r=>
    have hsame:=QV r σ;simp only [QM,tyR] at hin hin2 hsame;(repeat' ((first|refine wQ mxQ rfl ?_|refine Run.qP Dz ?_|refine AH.det (hin) ?_|refine AH.det (hren) ?_|refine AH.det (hin2) ?_|refine AH.det (hsame) ?_|refine AH.det (haw) ?_|fail)<;>try simp only [hq,go_sem]))
 . have h0:(c1 != 0)=true:=by simpa using hc0
   (repeat' ((first|refine wQ mxQ rfl ?_|(refine Run.Bf Dz (AI.le_refl _) ?_)|refine AH.det (hck) ?_|fail)<;>try simp only [h0,go_sem]))
end Go.Ab
namespace Go.Ab
open Go.Proofs
theorem jB (av:List AV) (h:jG Tzp [25] av):AT Tzp 3 av AFT (fun v _=>v= .d (.bool true)):=by
 obtain ⟨p,rfl⟩:=APO h;exact (mN p AFT).mono (fun _ _ h=>h.1)
end Go.Ab
namespace Go.Proofs.YtfppaadffckcoaaGreat
open Go.ChangeShapes Go.WideShapes Go.ChangeAt Go.RowKit
theorem Tryz.own:ownKnob Tzp.godebug=none:=by kernel_rfl
theorem Tryz.laidOut:laidOutB Tzp=true:=by kernel_rfl
theorem cF (os:Os) (started:os.Started) (H:Type) (enc:TypeId×Value->H):
 ReturnsInHanded {} Tryz.checked os 3 .any (Rows.typingNamesSpec.pre6 enc Tzp Tryz.f3 Rows.typingNamesRow.domain false) (Rows.typingNamesSpec.post enc Tzp Tryz.f3 false true false false):=by
 refine returnsInHanded_of_change (C:=Tryz.checked) Tryz.own started (by kernel_rfl) Tryz.func3
  (ChangeSpec.witness6 (enc:=enc) (C:=Tryz.checked) false ⟨#[],#[.agg #[.slice none 0 0,.slice none 0 0]],[]⟩ 8 (by kernel_rfl) (by kernel_rfl) (by kernel_rfl) (by kernel_rfl)) ?_
 intro W base args ds gs before hval hW _ _;refine Go.Ab.xE (P:=Tzp) [25,22,58,9,55,56,62,60,64,3,23,71,69,2,66,67,117] Tryz.laidOut (by kernel_rfl) ?_ ?_ (tb:=4) (by kernel_rfl) Tryz.underlying4 rfl ?_ ?_ W base args ds gs before hval hW
 . rw [Tryz.params3];simp
 . rw [Tryz.params3];intro t ht;simp only [Ar,List.not_mem_nil,or_false] at ht;subst ht;exact ⟨by kernel_rfl,of_decide_eq_true (by kernel_rfl)⟩
 . rw [Tryz.params3];intro ds hd
   match ds,hd with
   |[d0],_=>rfl
 . rw [Tryz.params3];exact Go.Ab.jB
theorem typingNames_holds:Rows.TypingNamesSaid:=
 OpenClaim.holds_of_wide 3 Tryz.f3 rfl rfl rfl rfl rfl rfl rfl ⟨rfl,rfl,rfl,rfl,rfl⟩ rfl rfl rfl rfl rfl (by kernel_rfl) Tryz.func3 (by kernel_rfl)
  (of_decide_eq_true (by kernel_rfl)) (by unfold Func.isWrapper;first|(rw [if_pos (by decide+kernel)];kernel_rfl)|(rw [if_neg (by decide+kernel)];exact ⟨rfl,rfl⟩))
  (fun os started H enc _=>cF os started H enc)
end Go.Proofs.YtfppaadffckcoaaGreat
#print axioms Go.Proofs.YtfppaadffckcoaaGreat.typingNames_holds
