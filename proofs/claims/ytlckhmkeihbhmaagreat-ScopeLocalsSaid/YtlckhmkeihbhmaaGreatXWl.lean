/- Reference scope: the look at a body. Conditions: none. -/
import Derived.Test.YtlckhmkeihbhmaaGreatXWg
set_option linter.unusedSimpArgs false
set_option linter.unusedVariables false
set_option maxRecDepth 4000
set_option maxHeartbeats 8000000
open List renaming flatMap_cons→MD,length_append→AT,length_cons→A5,cons_append→Ac,append_assoc→Ah,map_cons→AH,map_nil→AM,take_of_length_le→AG,take_append_drop→A4,length_take→Ae,mem_cons_of_mem→Ao,mem_append_left→OQ,mem_cons_self→Ai,mem_map→CN,length_map→AA,append_nil→At,take→DS,drop→DR
open Nat renaming min_eq_left→CT,zero_add→An,add_assoc→OL
open Int renaming reduceBEq→AW,reduceToNat→D4
open Option renaming isSome_some→Br,isSome_none→CD
open Bool renaming not_false→Eb,and_true→Az,false_and→B2
namespace Go.Ab
open Go.Proofs
def TC (fs:List FE) (x:Ex×List Str):List Nat:=if x.1.op=4∧x.2.contains x.1.name=false then (match Cd (Bm fs) x.1.name with|some f=>[f]|none=>[]) else []
def FJ (fs:List FE) (l:List (Ex×List Str)):List Nat:=l.flatMap (TC fs)
theorem aO (fs:List FE) (x:Ex×List Str):(TC fs x).length≤1:=by
 unfold TC
 split
 · split<;>simp
 · simp
theorem TD (fs:List FE):∀l:List (Ex×List Str),(FJ fs l).length≤l.length
 |[]=>by simp [FJ]
 |x::l=>by
  have h1:=TD fs l
  have h2:=aO fs x
  simp only [FJ,MD,AT,A5] at h1 ⊢
  omega
theorem Xq (fs:List FE) (l m:List (Ex×List Str)):FJ fs (l++m)=FJ fs l++FJ fs m:=by simp [FJ]
theorem dX (fs:List FE) (x:Ex×List Str) (m:List (Ex×List Str)):FJ fs (x::m)=TC fs x++FJ fs m:=by simp [FJ]
theorem O5 {vis:Ex→List Str→Int}:∀ {l:List (Ex×List Str)} (m:List (Ex×List Str)),EB vis l=none→EB vis (l++m)=(EB vis m).map fun y=>(y.1+l.length,y.2)
 |[],m,_=>by simp
 |x::l,m,h=>by
  rw [EB] at h
  split at h
  · rename_i h0
    have hl:EB vis l=none:=by simpa using h
    rw [Ac,EB,if_pos h0,O5 m hl]
    cases EB vis m with
    |none=>rfl
    |some y=>simp;omega
  · cases h
theorem Lk {vis:Ex→List Str→Int}:∀ {l:List (Ex×List Str)} (m:List (Ex×List Str)) {r:Nat×Int},EB vis l=some r→EB vis (l++m)=some r
 |[],m,r,h=>by cases h
 |x::l,m,r,h=>by
  rw [EB] at h
  rw [Ac,EB]
  split at h
  · rename_i h0
    rw [if_pos h0]
    cases hl:EB vis l with
    |none=>rw [hl] at h;cases h
    |some y=>rw [hl] at h;rw [Lk m hl];exact h
  · rename_i h0
    rw [if_neg h0];exact h
theorem Qs (sc:List Str) (m:List Al):∀l:List Al,Bj sc (l++m)=Bj sc l++Bj sc m
 |[]=>by rw [Bj];rfl
 |a::l=>by rw [Ac,Bj,Bj,Qs sc m l,Ah]
def WS (σ0:AF) (j:Nat) (ps:List DE) (fs:List FE) (dt:List Dat) (n:Nat) (us:List Nat) (τ:AF):Prop:=
 ∃uv,τ.blk j=some (wkB ps fs dt n uv)∧Cl σ0 3 1 (us.map JY) uv τ∧σ0.blk j=none
theorem WS.le {σ0:AF} {j:Nat} {ps:List DE} {fs:List FE} {dt:List Dat} {n:Nat} {us:List Nat} {τ:AF} (h:WS σ0 j ps fs dt n us τ):σ0.le τ:=by
 obtain ⟨uv,_,h,_⟩:=h;exact h.le
def okX (x:Ex×List Str):Prop:=QW x.1∧(x.1.op=10→x.1.alts≠[])
theorem UQ (o:Int) (n:Str) (u:Int) (ns:List Str) (ks:List Ex) (al:List Al) (sc:List Str):B7 (.mk o n u ns ks al) sc=(.mk o n u ns ks al,sc)::(B9 o n ns sc 0 ks++Bj sc al):=by rw [B7]
theorem XX {vis:Ex→List Str→Int} {x:Ex×List Str} {l:List (Ex×List Str)} (h:vis x.1 x.2=0):EB vis (x::l)=(EB vis l).map fun y=>(y.1+1,y.2):=by rw [EB,if_pos h]
theorem bZ {vis:Ex→List Str→Int} {x:Ex×List Str} {l:List (Ex×List Str)} (h:vis x.1 x.2≠0):EB vis (x::l)=some (0,vis x.1 x.2):=by rw [EB,if_neg h]
def Je (σ0:AF) (j:Nat) (ps:List DE) (fs:List FE) (dt:List Dat) (e:Ex) (sc:List Str) (n:Nat) (us:List Nat) (v:AV) (σ':AF):Prop:=
 match EB (EP fs dt) (B7 e sc) with
 |none=>v= .tup [.d (.int .i64 0),.d (.int .i64 0)]∧WS σ0 j ps fs dt (n+e.size) (us++FJ fs (B7 e sc)) σ'
 |some (k,c)=>v= .tup [.d (.int .i64 c),.d (.int .i64 ((n+k:Nat):Int))]∧σ0.le σ'
set_option maxRecDepth 4000 in
set_option maxHeartbeats 16000000 in
theorem Zr (σ0:AF) (j:Nat) (ps:List DE) (fs:List FE) (dt:List Dat) (hdt:RJ dt) (hfl:fs.length≤1000):
 ∀(N:Nat) (e:Ex) (sc:List Str) (n:Nat) (us:List Nat) (τ:AF),e.size≤N→n+e.size≤1000000→us.length≤n→sc.length≤1000000→(∀x∈B7 e sc,okX x∧x.2.length≤1000000)→WS σ0 j ps fs dt n us τ→
  AK Tryz.prog 34 [.gp j 0,exA e,.d (.sl (sc.map Ak))] τ (Je σ0 j ps fs dt e sc n us):=by
 intro N
 induction N with
 |zero=>intro e sc n us τ h;have:=Ex.size_pos e;omega
 |succ N ihN=>
 rintro ⟨o,nm,u,ns,ks,al⟩ sc n us τ hN hn1 hus hscl hgood ⟨uv,hb,ho,hj0⟩
 simp only [Ex.size] at hN hn1
 have hlen:=Ex.CY ks
 have hlen2:=Al.CY al
 refine Rh (by simp) ?_
 rw [K7,exA,Ex.A3]
 simp only [AH,AM]
 generalize hQ:Je σ0 j ps fs dt (.mk o nm u ns ks al) sc n us=Q
 have hw0:IntKind.i64.wrap ((n:Int)+1)=((n+1:Nat):Int):=A7 (by omega)
 unfold wkB at hb
 have hcl:Yn (sc.map Ak) none (some (.d (.int .i64 (sc.length:Int)))) (some (.d (.int .i64 (sc.length:Int)))) 1=some (.clip (sc.map Ak)):=by
  simp [Yn,SF,Oq]
  rw [AG (by simp)]
 have hW1:WS σ0 j ps fs dt (n+1) us (τ.AQ j (wkB ps fs dt ((n+1:Nat):Int) uv)):=⟨uv,by rw [AP,if_pos rfl],ho.set hj0 _,hj0⟩
 unfold wkB at hW1
 have hvis:=KZ fs dt o nm u ns ks al sc
 have hpre:=UQ o nm u ns ks al sc
 have hErr0:EP fs dt (.mk o nm u ns ks al) sc≠0→∀τ'',σ0.le τ''→Q (.tup [.d (.int .i64 (EP fs dt (.mk o nm u ns ks al) sc)),.d (.int .i64 (n:Int))]) τ'':=fun h τ'' hle=>by
  rw [← hQ,Je,hpre,bZ h]
  exact ⟨by simp,hle⟩
 have hErr:EP fs dt (.mk o nm u ns ks al) sc=0→∀(k:Nat) (c:Int),EB (EP fs dt) (B9 o nm ns sc 0 ks++Bj sc al)=some (k,c)→∀τ'',σ0.le τ''→Q (.tup [.d (.int .i64 c),.d (.int .i64 ((n+1+k:Nat):Int))]) τ'':=fun h k c hk τ'' hle=>by
  rw [← hQ,Je,hpre,XX h,hk]
  rw [show n+1+k=n+(k+1) by omega]
  exact ⟨rfl,hle⟩
 have hOk:EP fs dt (.mk o nm u ns ks al) sc=0→EB (EP fs dt) (B9 o nm ns sc 0 ks++Bj sc al)=none→∀τ'',WS σ0 j ps fs dt (n+1+Ex.A2 ks+Al.A2 al) (us++TC fs (.mk o nm u ns ks al,sc)++FJ fs (B9 o nm ns sc 0 ks++Bj sc al)) τ''→Q (.tup [.d (.int .i64 0),.d (.int .i64 0)]) τ'':=fun h hk τ'' hW=>by
  rw [← hQ,Je,hpre,XX h,hk]
  refine ⟨rfl,?_⟩
  rw [dX,← Ah,Ex.size,show n+(1+Ex.A2 ks+Al.A2 al)=n+1+Ex.A2 ks+Al.A2 al by omega]
  exact hW
 rw [hpre] at hgood
 clear hQ hpre
 have hx0:=aO fs (.mk o nm u ns ks al,sc)
 have h00:((0:Int) != 0)=false:=by decide
 have key:EP fs dt (.mk o nm u ns ks al) sc=0→∀τ':AF,WS σ0 j ps fs dt (n+1) (us++TC fs (.mk o nm u ns ks al,sc)) τ'→
  Run Dz Q [.code (.loop JC),.blk 1,.code (.seq (.seq (.reg [⟨some 20,.mv (.c (.d (.int .i64 0))),none⟩] [0,2,4,20]) (.block 4 (.loop JD))) (.seq (.reg [⟨some 6,.mv (.c (.d (.int .i64 0))),none⟩,⟨some 7,.mv (.c (.d (.int .i64 0))),none⟩] [6,7]) .ret))]
   (put 0 (.gp j 0) (put 2 (.clip (sc.map Ak)) (put 4 (.lp 4 0) (put 16 (.d (.int .i64 0)) U)))) (BA 4 [.d (.int .i64 o),.d (.str nm),.d (.int .i64 u),.d (.sl (ns.map Ak)),.d (.sl (ks.map Ex.enc)),.d (.sl (al.map Al.enc))] E) τ':=by
  intro hv0 τ' hW'
  replace hErr:=hErr hv0
  replace hOk:=hOk hv0
  clear hErr0 hvis hb ho hW1
  generalize TC fs (.mk o nm u ns ks al,sc)=ux at hOk hW' hx0
  refine Run.Ay ?_
  refine Run.BB ((fun (a0:AV) (a2:AV) (a4:AV)=>fun (y:Nat×AF)=>put 0 a0 (put 2 a2 (put 4 a4 (put 16 (.d (.int .i64 y.1)) U)))) _ _ _) (fun _=>BA 4 [.d (.int .i64 o),.d (.str nm),.d (.int .i64 u),.d (.sl (ns.map Ak)),.d (.sl (ks.map Ex.enc)),.d (.sl (al.map Al.enc))] E) (fun y=>y.2)
   (fun y=>y.1≤ks.length∧EB (EP fs dt) (B9 o nm ns sc 0 (ks.take y.1))=none∧WS σ0 j ps fs dt (n+1+Ex.A2 (ks.take y.1)) (us++ux++FJ fs (B9 o nm ns sc 0 (ks.take y.1))) y.2)
   (fun y=>ks.length - y.1) ?_ (0,τ') ⟨by simp,rfl,by simpa [Ex.A2,B9,FJ] using hW'⟩
  rintro ⟨i,τi⟩ ⟨hi,hno,hWi⟩ ih
  simp only at hi hno hWi
  by_cases hlt:i < ks.length
  · obtain ⟨kd,hx⟩:=Aw hlt
    have he:=Aq (enc:=Ex.enc) hx
    have hw1:=A7 (show i+1≤9000000000000000000 by omega)
    have hksp:B9 o nm ns sc 0 ks=B9 o nm ns sc 0 (ks.take i)++(B7 kd (FV o nm ns sc i)++B9 o nm ns sc (i+1) (ks.drop (i+1))):=by
     conv=>lhs;rw [← A4 i ks,Bc hx]
     rw [Sj,B9,Ae,CT hi,An]
    have hsn:B9 o nm ns sc 0 (ks.take (i+1))=B9 o nm ns sc 0 (ks.take i)++B7 kd (FV o nm ns sc i):=by
     rw [Am hx,Qt,Ae,CT hi,An]
    have hszs:=Ex.G7 hx
    have hkl:Ex.A2 (ks.take i)+kd.size≤Ex.A2 ks:=by
     have:=congrArg List.length hksp
     rw [FF,AT,AT,FF,Ks] at this
     omega
    have hmem:∀x∈B7 kd (FV o nm ns sc i),x∈(.mk o nm u ns ks al,sc)::(B9 o nm ns sc 0 ks++Bj sc al):=fun x hm=>by
     refine Ao _ (OQ _ ?_)
     rw [hksp]
     exact List.mem_append_right _ (OQ _ hm)
    have hil:(FV o nm ns sc i).length≤1000000:=by
     obtain ⟨ko,kn,ku,kns,kks,kal⟩:=kd
     exact (hgood _ (hmem (.mk ko kn ku kns kks kal,FV o nm ns sc i) (by rw [UQ];exact Ai ..))).2
    have hul:=TD fs (B9 o nm ns sc 0 (ks.take i))
    rw [FF] at hul
    have hk:=ihN kd (FV o nm ns sc i) (n+1+Ex.A2 (ks.take i)) _ τi (by omega) (by omega) (by simp only [AT];omega) hil (fun x hm=>hgood x (hmem x hm)) hWi
    have hck:∀iv:AV,iv.plain= .d (.sl ((FV o nm ns sc i).map Ak))→AK Tryz.prog 34 [.gp j 0,exA kd,iv] τi (Je σ0 j ps fs dt kd (FV o nm ns sc i) (n+1+Ex.A2 (ks.take i)) (us++ux++FJ fs (B9 o nm ns sc 0 (ks.take i)))):=fun iv hiv=>by
     refine AK.plain ?_
     have hp:∀l:List DV,AV.DA (l.map AV.d)=l.map AV.d:=fun l=>by
      induction l with
      |nil=>rfl
      |cons x l ih=>rw [AH,AV.DA,GG,ih]
     simp only [AV.DA,hiv,Vb,exA,H8,hp]
     exact hk
    clear hk
    have hcase:∀(v:AV) (τ2:AF),Je σ0 j ps fs dt kd (FV o nm ns sc i) (n+1+Ex.A2 (ks.take i)) (us++ux++FJ fs (B9 o nm ns sc 0 (ks.take i))) v τ2→
     (v= .tup [.d (.int .i64 0),.d (.int .i64 0)]∧EB (EP fs dt) (B7 kd (FV o nm ns sc i))=none∧WS σ0 j ps fs dt (n+1+Ex.A2 (ks.take i)+kd.size) (us++ux++FJ fs (B9 o nm ns sc 0 (ks.take i))++FJ fs (B7 kd (FV o nm ns sc i))) τ2)∨
     (∃k' c,v= .tup [.d (.int .i64 c),.d (.int .i64 ((n+1+Ex.A2 (ks.take i)+k':Nat):Int))]∧c≠0∧σ0.le τ2∧EB (EP fs dt) (B7 kd (FV o nm ns sc i))=some (k',c)):=fun v τ2 hq=>by
     unfold Je at hq
     cases hek:EB (EP fs dt) (B7 kd (FV o nm ns sc i)) with
     |none=>rw [hek] at hq;exact .inl ⟨hq.1,rfl,hq.2⟩
     |some r=>obtain ⟨k',c⟩:=r;rw [hek] at hq;exact .inr ⟨k',c,hq.1,PX hek,hq.2,rfl⟩
    have hnext:=fun (τ2:AF) (h1:EB (EP fs dt) (B7 kd (FV o nm ns sc i))=none) (h2:WS σ0 j ps fs dt (n+1+Ex.A2 (ks.take i)+kd.size) (us++ux++FJ fs (B9 o nm ns sc 0 (ks.take i))++FJ fs (B7 kd (FV o nm ns sc i))) τ2)=>
     ih (i+1,τ2) ⟨by simp only;omega,by simp only;rw [hsn,O5 _ hno,h1];rfl,by simp only;rw [hszs,hsn,Xq,← Ah,← OL];exact h2⟩ (by simp only;omega)
    simp only at hnext
    have hbad:∀(k':Nat) (c:Int),EB (EP fs dt) (B7 kd (FV o nm ns sc i))=some (k',c)→∀τ2,σ0.le τ2→Q (.tup [.d (.int .i64 c),.d (.int .i64 ((n+1+Ex.A2 (ks.take i)+k':Nat):Int))]) τ2:=fun k' c hek τ2 hle=>by
     have:=hErr (k'+Ex.A2 (ks.take i)) c (by
      rw [hksp,Ah,O5 _ hno,Ah,Lk _ hek,FF];rfl) τ2 hle
     rwa [show n+1+(k'+Ex.A2 (ks.take i))=n+1+Ex.A2 (ks.take i)+k' by omega] at this
    have hsR:∀r∈sc.map Ak,r.length=1:=fun r hr=>by
     obtain ⟨s,_,rfl⟩:=CN.1 hr;rfl
    have hnR:∀r∈ns.map Ak,r.length=1:=fun r hr=>by
     obtain ⟨s,_,rfl⟩:=CN.1 hr;rfl
    clear ih hErr hOk hgood hksp hmem
    obtain ⟨ko,kn,ku,kns,kks,kal⟩:=kd
    simp only [exA,Ex.A3,AH,AM] at he hck
    have hi1:(((1:Nat):Int)==1)=true:=by decide
    by_cases hA:(o=7∨o=17)∧i=1∧nm≠[]
    · obtain ⟨hoo,rfl,hnm⟩:=hA
      have hnb:(nm==[])=false:=by simpa using hnm
      have hiv:AV.plain (.d (.sl (sc.map Ak++[[.str nm]])))= .d (.sl ((FV o nm ns sc 1).map Ak)):=by
       rw [GG,FV,if_pos ⟨hoo,rfl⟩,if_neg hnm];simp [Ak]
      rcases hoo with rfl|rfl
      · (repeat' (first|refine Run.ct rfl ?_|((first|refine Run.reg mixed ?_|refine Run.AD ?_|(refine Dh.clip rfl hsR (by simp) (by simp;omega) (by decide) ?_)|(refine AI.mk rfl (hck _ hiv) ?_;intro v τ2 hq;refine Or.elim (hcase v τ2 hq) (fun h1=>?_) (fun h2=>?_);obtain ⟨rfl,hn2,hW2⟩:=h1;rotate_left;obtain ⟨k',c,rfl,hcn,hle2,hek⟩:=h2;rotate_left)|(refine Run.A1 Ar (AF.le_refl _) ?_))<;>try simp -implicitDefEqProofs only [A8 hlt,he,hw1,h00,AA,AW,hi1,hnb,C4,go_sem])|(refine ⟨fun h=>?_,fun h=>?_⟩<;>first|(cases h;done)|try simp only [h])|fail))
        all_goals first|exact hnext _ hn2 hW2|exact hbad _ _ hek _ hle2|exact absurd hcn (by simpa using ‹(_ != (0:Int))=false›)
      · (repeat' (first|refine Run.ct rfl ?_|((first|refine Run.reg mixed ?_|refine Run.AD ?_|(refine Dh.clip rfl hsR (by simp) (by simp;omega) (by decide) ?_)|(refine AI.mk rfl (hck _ hiv) ?_;intro v τ2 hq;refine Or.elim (hcase v τ2 hq) (fun h1=>?_) (fun h2=>?_);obtain ⟨rfl,hn2,hW2⟩:=h1;rotate_left;obtain ⟨k',c,rfl,hcn,hle2,hek⟩:=h2;rotate_left)|(refine Run.A1 Ar (AF.le_refl _) ?_))<;>try simp -implicitDefEqProofs only [A8 hlt,he,hw1,h00,AA,AW,hi1,hnb,C4,go_sem])|(refine ⟨fun h=>?_,fun h=>?_⟩<;>first|(cases h;done)|try simp only [h])|fail))
        all_goals first|exact hnext _ hn2 hW2|exact hbad _ _ hek _ hle2|exact absurd hcn (by simpa using ‹(_ != (0:Int))=false›)
    by_cases hB:(o=8∧i=1)∨o=11
    · have hiv:AV.plain (.d (.sl (sc.map Ak++ns.map Ak)))= .d (.sl ((FV o nm ns sc i).map Ak)):=by
       rw [GG,FV,if_neg (by omega),if_pos hB];simp
      have hnl:sc.length+ns.length≤1000000:=by
       rw [FV,if_neg (by omega),if_pos hB,AT] at hil;exact hil
      rcases hB with ⟨rfl,rfl⟩|rfl
      · (repeat' (first|refine Run.ct rfl ?_|((first|refine Run.reg mixed ?_|refine Run.AD ?_|(refine Dh.clip rfl hsR (by exact hnR) (by simp;omega) (by decide) ?_)|(refine AI.mk rfl (hck _ hiv) ?_;intro v τ2 hq;refine Or.elim (hcase v τ2 hq) (fun h1=>?_) (fun h2=>?_);obtain ⟨rfl,hn2,hW2⟩:=h1;rotate_left;obtain ⟨k',c,rfl,hcn,hle2,hek⟩:=h2;rotate_left)|(refine Run.A1 Ar (AF.le_refl _) ?_))<;>try simp -implicitDefEqProofs only [A8 hlt,he,hw1,h00,AA,AW,hi1,go_sem])|(refine ⟨fun h=>?_,fun h=>?_⟩<;>first|(cases h;done)|try simp only [h])|fail))
        all_goals first|exact hnext _ hn2 hW2|exact hbad _ _ hek _ hle2|exact absurd hcn (by simpa using ‹(_ != (0:Int))=false›)
      · (repeat' (first|refine Run.ct rfl ?_|((first|refine Run.reg mixed ?_|refine Run.AD ?_|(refine Dh.clip rfl hsR (by exact hnR) (by simp;omega) (by decide) ?_)|(refine AI.mk rfl (hck _ hiv) ?_;intro v τ2 hq;refine Or.elim (hcase v τ2 hq) (fun h1=>?_) (fun h2=>?_);obtain ⟨rfl,hn2,hW2⟩:=h1;rotate_left;obtain ⟨k',c,rfl,hcn,hle2,hek⟩:=h2;rotate_left)|(refine Run.A1 Ar (AF.le_refl _) ?_))<;>try simp -implicitDefEqProofs only [A8 hlt,he,hw1,h00,AA,AW,go_sem])|(refine ⟨fun h=>?_,fun h=>?_⟩<;>first|(cases h;done)|try simp only [h])|fail))
        all_goals first|exact hnext _ hn2 hW2|exact hbad _ _ hek _ hle2|exact absurd hcn (by simpa using ‹(_ != (0:Int))=false›)
    have hiv:AV.plain (.clip (sc.map Ak))= .d (.sl ((FV o nm ns sc i).map Ak)):=by
     unfold FV
     by_cases h7:(o=7∨o=17)∧i=1
     · have hnm:nm=[]:=by
        by_cases hn:nm=[]
        · exact hn
        · exact absurd ⟨h7.1,h7.2,hn⟩ hA
       rw [if_pos h7,if_pos hnm];rfl
     · rw [if_neg h7,if_neg hB];rfl
    by_cases h7:o=7∨o=17
    · by_cases hi1':i=1
      · subst hi1'
        have hnb:(nm==[])=true:=by
         by_cases hn:nm=[]
         · simp [hn]
         · exact absurd ⟨h7,rfl,hn⟩ hA
        rcases h7 with rfl|rfl
        · (repeat' (first|refine Run.ct rfl ?_|((first|refine Run.reg mixed ?_|refine Run.AD ?_|(refine AI.mk rfl (hck _ hiv) ?_;intro v τ2 hq;refine Or.elim (hcase v τ2 hq) (fun h1=>?_) (fun h2=>?_);obtain ⟨rfl,hn2,hW2⟩:=h1;rotate_left;obtain ⟨k',c,rfl,hcn,hle2,hek⟩:=h2;rotate_left)|(refine Run.A1 Ar (AF.le_refl _) ?_))<;>try simp -implicitDefEqProofs only [A8 hlt,he,hw1,h00,AA,AW,hi1,hnb,C4,go_sem])|(refine ⟨fun h=>?_,fun h=>?_⟩<;>first|(cases h;done)|try simp only [h])|fail))
          all_goals first|exact hnext _ hn2 hW2|exact hbad _ _ hek _ hle2|exact absurd hcn (by simpa using ‹(_ != (0:Int))=false›)
        · (repeat' (first|refine Run.ct rfl ?_|((first|refine Run.reg mixed ?_|refine Run.AD ?_|(refine AI.mk rfl (hck _ hiv) ?_;intro v τ2 hq;refine Or.elim (hcase v τ2 hq) (fun h1=>?_) (fun h2=>?_);obtain ⟨rfl,hn2,hW2⟩:=h1;rotate_left;obtain ⟨k',c,rfl,hcn,hle2,hek⟩:=h2;rotate_left)|(refine Run.A1 Ar (AF.le_refl _) ?_))<;>try simp -implicitDefEqProofs only [A8 hlt,he,hw1,h00,AA,AW,hi1,hnb,C4,go_sem])|(refine ⟨fun h=>?_,fun h=>?_⟩<;>first|(cases h;done)|try simp only [h])|fail))
          all_goals first|exact hnext _ hn2 hW2|exact hbad _ _ hek _ hle2|exact absurd hcn (by simpa using ‹(_ != (0:Int))=false›)
      · have hib:((i:Int)==1)=false:=CA (by omega)
        rcases h7 with rfl|rfl
        · (repeat' (first|refine Run.ct rfl ?_|((first|refine Run.reg mixed ?_|refine Run.AD ?_|(refine AI.mk rfl (hck _ hiv) ?_;intro v τ2 hq;refine Or.elim (hcase v τ2 hq) (fun h1=>?_) (fun h2=>?_);obtain ⟨rfl,hn2,hW2⟩:=h1;rotate_left;obtain ⟨k',c,rfl,hcn,hle2,hek⟩:=h2;rotate_left)|(refine Run.A1 Ar (AF.le_refl _) ?_))<;>try simp -implicitDefEqProofs only [A8 hlt,he,hw1,h00,AA,AW,hib,go_sem])|(refine ⟨fun h=>?_,fun h=>?_⟩<;>first|(cases h;done)|try simp only [h])|fail))
          all_goals first|exact hnext _ hn2 hW2|exact hbad _ _ hek _ hle2|exact absurd hcn (by simpa using ‹(_ != (0:Int))=false›)
        · (repeat' (first|refine Run.ct rfl ?_|((first|refine Run.reg mixed ?_|refine Run.AD ?_|(refine AI.mk rfl (hck _ hiv) ?_;intro v τ2 hq;refine Or.elim (hcase v τ2 hq) (fun h1=>?_) (fun h2=>?_);obtain ⟨rfl,hn2,hW2⟩:=h1;rotate_left;obtain ⟨k',c,rfl,hcn,hle2,hek⟩:=h2;rotate_left)|(refine Run.A1 Ar (AF.le_refl _) ?_))<;>try simp -implicitDefEqProofs only [A8 hlt,he,hw1,h00,AA,AW,hib,go_sem])|(refine ⟨fun h=>?_,fun h=>?_⟩<;>first|(cases h;done)|try simp only [h])|fail))
          all_goals first|exact hnext _ hn2 hW2|exact hbad _ _ hek _ hle2|exact absurd hcn (by simpa using ‹(_ != (0:Int))=false›)
    · have h7f:(o==7)=false:=CA (by omega)
      have h17f:(o==17)=false:=CA (by omega)
      have h11f:(o==11)=false:=CA (by omega)
      by_cases h8:o=8
      · subst h8
        have hib:((i:Int)==1)=false:=CA (by omega)
        (repeat' (first|refine Run.ct rfl ?_|((first|refine Run.reg mixed ?_|refine Run.AD ?_|(refine AI.mk rfl (hck _ hiv) ?_;intro v τ2 hq;refine Or.elim (hcase v τ2 hq) (fun h1=>?_) (fun h2=>?_);obtain ⟨rfl,hn2,hW2⟩:=h1;rotate_left;obtain ⟨k',c,rfl,hcn,hle2,hek⟩:=h2;rotate_left)|(refine Run.A1 Ar (AF.le_refl _) ?_))<;>try simp -implicitDefEqProofs only [A8 hlt,he,hw1,h00,AA,AW,hib,go_sem])|(refine ⟨fun h=>?_,fun h=>?_⟩<;>first|(cases h;done)|try simp only [h])|fail))
        all_goals first|exact hnext _ hn2 hW2|exact hbad _ _ hek _ hle2|exact absurd hcn (by simpa using ‹(_ != (0:Int))=false›)
      · have h8f:(o==8)=false:=CA h8
        (repeat' (first|refine Run.ct rfl ?_|((first|refine Run.reg mixed ?_|refine Run.AD ?_|(refine AI.mk rfl (hck _ hiv) ?_;intro v τ2 hq;refine Or.elim (hcase v τ2 hq) (fun h1=>?_) (fun h2=>?_);obtain ⟨rfl,hn2,hW2⟩:=h1;rotate_left;obtain ⟨k',c,rfl,hcn,hle2,hek⟩:=h2;rotate_left)|(refine Run.A1 Ar (AF.le_refl _) ?_))<;>try simp -implicitDefEqProofs only [A8 hlt,he,hw1,h00,AA,h7f,h17f,h8f,h11f,go_sem])|(refine ⟨fun h=>?_,fun h=>?_⟩<;>first|(cases h;done)|try simp only [h])|fail))
        all_goals first|exact hnext _ hn2 hW2|exact hbad _ _ hek _ hle2|exact absurd hcn (by simpa using ‹(_ != (0:Int))=false›)
  · rw [AG (by omega)] at hno hWi
    clear ih
    (repeat' (first|refine Run.ct rfl ?_|((first|refine Run.reg mixed ?_|refine Run.AD ?_)<;>try simp -implicitDefEqProofs only [B8 hlt,AA,go_sem])|fail))
    refine Run.Ay ?_
    refine Run.BB ((fun (a0:AV) (a2:AV) (a4:AV)=>fun (y:Nat×AF)=>put 0 a0 (put 2 a2 (put 4 a4 (put 20 (.d (.int .i64 y.1)) U)))) _ _ _) (fun _=>BA 4 [.d (.int .i64 o),.d (.str nm),.d (.int .i64 u),.d (.sl (ns.map Ak)),.d (.sl (ks.map Ex.enc)),.d (.sl (al.map Al.enc))] E) (fun y=>y.2)
     (fun y=>y.1≤al.length∧EB (EP fs dt) (B9 o nm ns sc 0 ks++Bj sc (al.take y.1))=none∧WS σ0 j ps fs dt (n+1+Ex.A2 ks+Al.A2 (al.take y.1)) (us++ux++FJ fs (B9 o nm ns sc 0 ks++Bj sc (al.take y.1))) y.2)
     (fun y=>al.length - y.1) ?_ (0,τi) ⟨by simp,by simpa [Bj] using hno,by simpa [Al.A2,Bj] using hWi⟩
    rintro ⟨q,τq⟩ ⟨hq0,hnq,hWq⟩ ih
    simp only at hq0 hnq hWq
    by_cases hltq:q < al.length
    · obtain ⟨ad,hx⟩:=Aw hltq
      have he:=Aq (enc:=Al.enc) hx
      have hw1:=A7 (show q+1≤9000000000000000000 by omega)
      obtain ⟨ac,avs,ab⟩:=ad
      have hasp:Bj sc al=Bj sc (al.take q)++(B7 ab (sc++avs)++Bj sc (al.drop (q+1))):=by
       conv=>lhs;rw [← A4 q al,Bc hx]
       rw [Qs,Bj,Ot]
      have hsn:Bj sc (al.take (q+1))=Bj sc (al.take q)++B7 ab (sc++avs):=by
       rw [Am hx,Qs,Bj,Ot,Bj,At]
      have hszs:=Al.G7 hx
      rw [Al.size] at hszs
      have hal2:Al.A2 (al.take q)+ab.size≤Al.A2 al:=by
       have:=congrArg List.length hasp
       rw [H9,AT,AT,H9,Ks] at this
       omega
      have hmem:∀x∈B7 ab (sc++avs),x∈(.mk o nm u ns ks al,sc)::(B9 o nm ns sc 0 ks++Bj sc al):=fun x hm=>by
       refine Ao _ (List.mem_append_right _ ?_)
       rw [hasp]
       exact List.mem_append_right _ (OQ _ hm)
      have hil:(sc++avs).length≤1000000:=by
       obtain ⟨ko,kn,ku,kns,kks,kal⟩:=ab
       exact (hgood _ (hmem (.mk ko kn ku kns kks kal,sc++avs) (by rw [UQ];exact Ai ..))).2
      rw [AT] at hil
      have hul:=TD fs (B9 o nm ns sc 0 ks++Bj sc (al.take q))
      rw [AT,FF,H9] at hul
      have hk:=ihN ab (sc++avs) (n+1+Ex.A2 ks+Al.A2 (al.take q)) _ τq (by omega) (by omega) (by simp only [AT];omega) (by rw [AT];exact hil) (fun x hm=>hgood x (hmem x hm)) hWq
      have hck:∀iv:AV,iv.plain= .d (.sl ((sc++avs).map Ak))→AK Tryz.prog 34 [.gp j 0,exA ab,iv] τq (Je σ0 j ps fs dt ab (sc++avs) (n+1+Ex.A2 ks+Al.A2 (al.take q)) (us++ux++FJ fs (B9 o nm ns sc 0 ks++Bj sc (al.take q)))):=fun iv hiv=>by
       refine AK.plain ?_
       have hp:∀l:List DV,AV.DA (l.map AV.d)=l.map AV.d:=fun l=>by
        induction l with
        |nil=>rfl
        |cons x l ih=>rw [AH,AV.DA,GG,ih]
       simp only [AV.DA,hiv,Vb,exA,H8,hp]
       exact hk
      clear hk
      have hcase:∀(v:AV) (τ2:AF),Je σ0 j ps fs dt ab (sc++avs) (n+1+Ex.A2 ks+Al.A2 (al.take q)) (us++ux++FJ fs (B9 o nm ns sc 0 ks++Bj sc (al.take q))) v τ2→
       (v= .tup [.d (.int .i64 0),.d (.int .i64 0)]∧EB (EP fs dt) (B7 ab (sc++avs))=none∧WS σ0 j ps fs dt (n+1+Ex.A2 ks+Al.A2 (al.take q)+ab.size) (us++ux++FJ fs (B9 o nm ns sc 0 ks++Bj sc (al.take q))++FJ fs (B7 ab (sc++avs))) τ2)∨
       (∃k' c,v= .tup [.d (.int .i64 c),.d (.int .i64 ((n+1+Ex.A2 ks+Al.A2 (al.take q)+k':Nat):Int))]∧c≠0∧σ0.le τ2∧EB (EP fs dt) (B7 ab (sc++avs))=some (k',c)):=fun v τ2 hq=>by
       unfold Je at hq
       cases hek:EB (EP fs dt) (B7 ab (sc++avs)) with
       |none=>rw [hek] at hq;exact .inl ⟨hq.1,rfl,hq.2⟩
       |some r=>obtain ⟨k',c⟩:=r;rw [hek] at hq;exact .inr ⟨k',c,hq.1,PX hek,hq.2,rfl⟩
      have hnext:=fun (τ2:AF) (h1:EB (EP fs dt) (B7 ab (sc++avs))=none) (h2:WS σ0 j ps fs dt (n+1+Ex.A2 ks+Al.A2 (al.take q)+ab.size) (us++ux++FJ fs (B9 o nm ns sc 0 ks++Bj sc (al.take q))++FJ fs (B7 ab (sc++avs))) τ2)=>
       ih (q+1,τ2) ⟨by simp only;omega,by simp only;rw [hsn,← Ah,O5 _ hnq,h1];rfl,by simp only;rw [hszs,hsn,← Ah,Xq fs _ (B7 ab (sc++avs)),← Ah,← OL];exact h2⟩ (by simp only;omega)
      simp only at hnext
      have hbad:∀(k':Nat) (c:Int),EB (EP fs dt) (B7 ab (sc++avs))=some (k',c)→∀τ2,σ0.le τ2→Q (.tup [.d (.int .i64 c),.d (.int .i64 ((n+1+Ex.A2 ks+Al.A2 (al.take q)+k':Nat):Int))]) τ2:=fun k' c hek τ2 hle=>by
       have:=hErr (k'+(Ex.A2 ks+Al.A2 (al.take q))) c (by
        rw [hasp,← Ah,O5 _ hnq,Lk _ hek,AT,FF,H9];rfl) τ2 hle
       rwa [show n+1+(k'+(Ex.A2 ks+Al.A2 (al.take q)))=n+1+Ex.A2 ks+Al.A2 (al.take q)+k' by omega] at this
      have hsR:∀r∈sc.map Ak,r.length=1:=fun r hr=>by
       obtain ⟨s,_,rfl⟩:=CN.1 hr;rfl
      have hvR:∀r∈avs.map Ak,r.length=1:=fun r hr=>by
       obtain ⟨s,_,rfl⟩:=CN.1 hr;rfl
      have hiv:AV.plain (.d (.sl (sc.map Ak++avs.map Ak)))= .d (.sl ((sc++avs).map Ak)):=by rw [GG];simp
      clear ih hErr hOk hgood hasp hmem
      obtain ⟨ko,kn,ku,kns,kks,kal⟩:=ab
      simp only [exA,Al.A3,Ex.A3,AH,AM] at he hck
      (repeat' (first|refine Run.ct rfl ?_|((first|refine Run.reg mixed ?_|refine Run.AD ?_)<;>try simp -implicitDefEqProofs only [A8 hltq,he,hw1,h00,AA,go_sem])|fail))
      refine Run.Sm mixed ?_
      simp -implicitDefEqProofs only [he,hw1,h00,AA,and_true,go_sem]
      refine And.intro ?_ ?_
      all_goals (repeat' (first|refine Run.ct rfl ?_|((first|refine Run.reg mixed ?_|refine Run.AD ?_|(refine Dh.clip rfl hsR (by exact hvR) (by simp;omega) (by decide) ?_)|(refine AI.mk rfl (hck _ hiv) ?_;intro v τ2 hq;refine Or.elim (hcase v τ2 hq) (fun h1=>?_) (fun h2=>?_);obtain ⟨rfl,hn2,hW2⟩:=h1;rotate_left;obtain ⟨k',c,rfl,hcn,hle2,hek⟩:=h2;rotate_left)|(refine Run.A1 Ar (AF.le_refl _) ?_))<;>try simp -implicitDefEqProofs only [he,hw1,h00,AA,go_sem])|(refine ⟨fun h=>?_,fun h=>?_⟩<;>first|(cases h;done)|try simp only [h])|fail))
      all_goals first|exact hnext _ hn2 hW2|exact hbad _ _ hek _ hle2|exact absurd hcn (by simpa using ‹(_ != (0:Int))=false›)
    · rw [AG (by omega)] at hnq hWq
      have hfin:=hOk hnq τq hWq
      (repeat' (first|refine Run.ct rfl ?_|((first|refine Run.reg mixed ?_|refine Run.AD ?_|(refine Run.A1 Ar (AF.le_refl _) ?_))<;>try simp -implicitDefEqProofs only [B8 hltq,AA,go_sem])|fail))
      exact hfin
 have hslt:∀q:Nat,decide ((q:Int) < 0)=false:=fun q=>decide_eq_false (by omega)
 (repeat' (first|refine Run.cb rfl ?_|((first|refine Run.reg mixed ?_|refine Run.AD ?_)<;>try simp -implicitDefEqProofs only [hb,hw0,hcl,AA,ho.cell,DS,DR,go_sem])|fail))
 generalize hσ1:τ.AQ j [AV.d (.sl (ps.map DE.enc)),.d (.sl (fs.map FE.enc)),.d (.sl (dt.map Dat.enc)),.d (.int .i64 ((n+1:Nat):Int)),uv]=σ1 at hW1 ⊢
 have hb1:σ1.blk j=some [AV.d (.sl (ps.map DE.enc)),.d (.sl (fs.map FE.enc)),.d (.sl (dt.map Dat.enc)),.d (.int .i64 ((n+1:Nat):Int)),uv]:=by rw [← hσ1,AP,if_pos rfl]
 have ho1:Cl σ0 3 1 (us.map JY) uv σ1:=by rw [← hσ1];exact ho.set hj0 _
 have hle1:=ho1.le
 clear hσ1 ho hb hw0
 obtain ⟨⟨hg4,hg12,hgal,hgk⟩,hg10⟩:=(hgood _ (Ai ..)).1
 replace hg4:o=4→nm≠[]:=hg4
 replace hg12:o=12→∃h t,ks=h::t∧(h.op=4→h.name≠[]):=hg12
 replace hg10:o=10→al≠[]:=hg10
 have hux:o≠4→TC fs (.mk o nm u ns ks al,sc)=[]:=fun h=>by
  unfold TC;rw [if_neg (fun hc=>h hc.1)]
 have hgo:o≠4→EP fs dt (.mk o nm u ns ks al) sc=0→_:=fun h hv=>key hv σ1 (by rw [hux h,At];exact hW1)
 have hctr:=L8 dt hdt nm σ1
 rw [dsA] at hctr
 have hfi:=fun s=>Ov sc s (.clip (sc.map Ak)) rfl σ1
 have hfun:=fun s=>Ox ps fs dt ((n+1:Nat):Int) uv j s σ1 hfl hb1
 by_cases h4:o=4
 · subst h4
   rw [if_pos rfl] at hvis
   have hfi:=hfi nm
   have hfun:=hfun nm
   have hin:=G1 sc nm
   cases hix:Cd sc nm with
   |some q=>
    rw [hix] at hfi hin
    simp only [Ee,Br] at hfi hin
    rw [← hin] at hvis
    have hv0:EP fs dt (.mk 4 nm u ns ks al) sc=0:=by rw [hvis];rfl
    have hu0:TC fs (.mk 4 nm u ns ks al,sc)=[]:=by
     unfold TC;rw [if_neg (fun h=>by have h2:sc.contains nm=false:=h.2;rw [← hin] at h2;cases h2)]
    have:=key hv0 σ1 (by rw [hu0,At];exact hW1)
    clear key hErr0 hErr hOk hgo
    (repeat' (first|refine Run.ct rfl ?_|((first|refine Run.reg mixed ?_|refine Run.AD ?_|(refine AI.mk rfl hfi ?_;rintro _ _ ⟨rfl,rfl⟩))<;>try simp -implicitDefEqProofs only [AW,hslt,AA,go_sem])|fail))
    exact this
   |none=>
   rw [hix] at hfi hin
   simp only [Ee,CD] at hfi hin
   rw [← hin] at hvis
   have hneg:decide ((-1:Int) < 0)=true:=by decide
   cases hif:Cd (Bm fs) nm with
   |none=>
    rw [hif] at hfun hvis
    simp only [Ee] at hfun
    replace hvis:EP fs dt (.mk 4 nm u ns ks al) sc=3:=by rw [hvis];rfl
    have:=hErr0 (by rw [hvis];decide) σ1 hle1
    rw [hvis] at this
    clear key hErr0 hErr hOk hgo
    (repeat' (first|refine Run.ct rfl ?_|((first|refine Run.reg mixed ?_|refine Run.AD ?_|(refine AI.mk rfl hfi ?_;rintro _ _ ⟨rfl,rfl⟩)|(refine Run.A1 Ar (AF.le_refl _) ?_)|refine AI.det (hfun) ?_)<;>try simp -implicitDefEqProofs only [AW,hneg,AA,go_sem])|fail))
    exact this
   |some f=>
    rw [hif] at hfun hvis
    simp only [Ee] at hfun
    replace hvis:EP fs dt (.mk 4 nm u ns ks al) sc=0:=by rw [hvis];rfl
    have hu0:TC fs (.mk 4 nm u ns ks al,sc)=[f]:=by
     unfold TC;rw [if_pos ⟨rfl,hin.symm⟩,show (Ex.mk 4 nm u ns ks al,sc).1.name=nm from rfl,hif]
    have hkey:=key hvis
    rw [hu0] at hkey
    clear key hErr0 hErr hOk hgo
    (repeat' (first|refine Run.ct rfl ?_|((first|refine Run.reg mixed ?_|refine Run.AD ?_|(refine AI.mk rfl hfi ?_;rintro _ _ ⟨rfl,rfl⟩)|(refine Dh.own ho1 rfl (by simp) (by simp;omega) (by decide) (fun v2 σ2 ho2 hbk=>?_))|refine AI.det (hfun) ?_)<;>try simp -implicitDefEqProofs only [AW,hneg,hslt,hb1,AA,ho1.cell,ho1.cells,ho1.BF,ho1.BG,go_sem])|fail))
    have hb2:=(hbk j).trans hb1
    simp -implicitDefEqProofs only [hb2,ho2.cells,ho2.cell,DS,DR,go_sem]
    (repeat' (first|refine Run.ct rfl ?_|((first|refine Run.reg mixed ?_|refine Run.AD ?_)<;>try simp -implicitDefEqProofs only [hb2,ho2.cell,ho2.cells,ho2.BG,go_sem])|fail))
    exact hkey _ ⟨v2,by rw [AP,if_pos rfl];rfl,by simpa [JY] using ho2.set hj0 _,hj0⟩
 have hv4:=hvis
 rw [if_neg h4] at hv4
 have h4f:(o==4)=false:=CA h4
 have hgo:=hgo h4
 clear key hvis
 by_cases h6:o=6
 · subst h6
   rw [if_pos rfl] at hv4
   cases hc:Ib dt nm with
   |none=>
    rw [hc] at hctr hv4
    simp only [SP] at hctr
    replace hv4:EP fs dt (.mk 6 nm u ns ks al) sc=3:=hv4
    have:=hErr0 (by rw [hv4];decide) σ1 hle1
    rw [hv4] at this
    clear hErr0 hErr hOk hgo
    (repeat' (first|refine Run.ct rfl ?_|((first|refine Run.reg mixed ?_|refine Run.AD ?_|(refine Run.A1 Ar (AF.le_refl _) ?_)|refine AI.det (hctr) ?_)<;>try simp -implicitDefEqProofs only [AW,hb1,AA,go_sem])|fail))
    exact this
   |some x=>
    rw [hc] at hctr hv4
    simp only [SP] at hctr hv4
    obtain ⟨d,cc,h1,h2,_⟩:=K1 hc
    have har:=NG (s:=[]) h1 h2
    have hd:=NH h1
    have hcc:=ND h2
    have hbn:=Ta ks.length cc.args.length
    rw [har] at hv4
    cases hne:(ks.length != cc.args.length) with
    |true=>
     rw [hne] at hbn
     rw [if_pos (by simpa using hne)] at hv4
     have:=hErr0 (by rw [hv4];decide) σ1 hle1
     rw [hv4] at this
     clear hErr0 hErr hOk hgo
     (repeat' (first|refine Run.ct rfl ?_|((first|refine Run.reg mixed ?_|refine Run.AD ?_|(refine Run.A1 Ar (AF.le_refl _) ?_)|refine AI.det (hctr) ?_)<;>try simp -implicitDefEqProofs only [AW,hb1,hd,hcc,AA,EF,hbn,go_sem])|fail))
     exact this
    |false=>
     rw [hne] at hbn
     rw [if_neg (by simpa using hne)] at hv4
     have:=hgo hv4
     clear hErr0 hErr hOk hgo
     (repeat' (first|refine Run.ct rfl ?_|((first|refine Run.reg mixed ?_|refine Run.AD ?_|refine AI.det (hctr) ?_)<;>try simp -implicitDefEqProofs only [AW,hb1,hd,hcc,AA,EF,hbn,go_sem])|fail))
     exact this
 rw [if_neg h6] at hv4
 have h6f:(o==6)=false:=CA h6
 by_cases h8:o=8∨o=11
 · rw [if_pos h8] at hv4
   have hrep:=L9 ns σ1
   cases hB:Bo ns with
   |true=>
    rw [hB] at hrep hv4
    rw [if_pos rfl] at hv4
    have:=hErr0 (by rw [hv4];decide) σ1 hle1
    rw [hv4] at this
    clear hErr0 hErr hOk hgo
    rcases h8 with rfl|rfl
    · (repeat' (first|refine Run.ct rfl ?_|((first|refine Run.reg mixed ?_|refine Run.AD ?_|(refine Run.A1 Ar (AF.le_refl _) ?_)|refine AI.det (hrep) ?_)<;>try simp -implicitDefEqProofs only [AW,AA,go_sem])|fail))
      exact this
    · (repeat' (first|refine Run.ct rfl ?_|((first|refine Run.reg mixed ?_|refine Run.AD ?_|(refine Run.A1 Ar (AF.le_refl _) ?_)|refine AI.det (hrep) ?_)<;>try simp -implicitDefEqProofs only [AW,AA,go_sem])|fail))
      exact this
   |false=>
    rw [hB] at hrep hv4
    rw [if_neg (by simp)] at hv4
    have:=hgo hv4
    clear hErr0 hErr hOk hgo
    rcases h8 with rfl|rfl
    · (repeat' (first|refine Run.ct rfl ?_|((first|refine Run.reg mixed ?_|refine Run.AD ?_|refine AI.det (hrep) ?_)<;>try simp -implicitDefEqProofs only [AW,AA,go_sem])|fail))
      exact this
    · (repeat' (first|refine Run.ct rfl ?_|((first|refine Run.reg mixed ?_|refine Run.AD ?_|refine AI.det (hrep) ?_)<;>try simp -implicitDefEqProofs only [AW,AA,go_sem])|fail))
      exact this
 rw [if_neg h8] at hv4
 have h8f:(o==8)=false:=CA (by omega)
 have h11f:(o==11)=false:=CA (by omega)
 by_cases h10:o=10
 · rw [if_pos h10] at hv4
   have hal:=dG ps fs dt hdt ((n+1:Nat):Int) uv j al σ1 hgal (hg10 h10) hb1
   subst h10
   by_cases hz:Js dt al=0
   · have:=hgo (hv4.trans hz)
     rw [hz] at hal
     clear hErr0 hErr hOk hgo
     (repeat' (first|refine Run.ct rfl ?_|((first|refine Run.reg mixed ?_|refine Run.AD ?_|refine AI.det (hal) ?_)<;>try simp -implicitDefEqProofs only [AW,h00,AA,go_sem])|fail))
     exact this
   · have:=hErr0 (by rw [hv4];exact hz) σ1 hle1
     rw [hv4] at this
     have hzb:(Js dt al != 0)=true:=by simpa using hz
     clear hErr0 hErr hOk hgo
     (repeat' (first|refine Run.ct rfl ?_|((first|refine Run.reg mixed ?_|refine Run.AD ?_|(refine Run.A1 Ar (AF.le_refl _) ?_)|refine AI.det (hal) ?_)<;>try simp -implicitDefEqProofs only [AW,hzb,AA,go_sem])|fail))
     exact this
 rw [if_neg h10] at hv4
 have h10f:(o==10)=false:=CA h10
 by_cases h12:o=12
 · rw [if_pos h12] at hv4
   subst h12
   obtain ⟨hd,tl,rfl,hh4⟩:=hg12 rfl
   obtain ⟨xo,xn,xu,xs,xk,xa⟩:=hd
   simp only [Ex.op,Ex.name] at hh4
   replace hv4:EP fs dt (.mk 12 nm u ns (.mk xo xn xu xs xk xa::tl) al) sc=if (decide (xo=4)&& !sc.contains xn)=true then (match Cd (Bm fs) xn with|none=>0|some f=>match fs[f]? with|some g=>if g.params.length+1≠tl.length+1 then 5 else 0|none=>0) else 0:=hv4
   have hfi:=hfi xn
   have hfun:=hfun xn
   have hin:=G1 sc xn
   by_cases hx4:xo=4
   · subst hx4
     cases hix:Cd sc xn with
     |some q=>
      rw [hix] at hfi hin
      simp only [Ee,Br] at hfi hin
      rw [← hin] at hv4
      have:=hgo hv4
      simp only [AH,Ex.A3] at this
      clear hErr0 hErr hOk hgo
      (repeat' (first|refine Run.ct rfl ?_|((first|refine Run.reg mixed ?_|refine Run.AD ?_|(refine AI.mk rfl hfi ?_;rintro _ _ ⟨rfl,rfl⟩))<;>try simp -implicitDefEqProofs only [AW,hslt,AA,AH,Ex.A3,D4,Wr,go_sem])|fail))
      exact this
     |none=>
      rw [hix] at hfi hin
      simp only [Ee,CD] at hfi hin
      rw [← hin] at hv4
      have hneg:decide ((-1:Int) < 0)=true:=by decide
      cases hif:Cd (Bm fs) xn with
      |none=>
       rw [hif] at hfun hv4
       simp only [Ee] at hfun
       have hnp:decide ((0:Int)≤-1)=false:=by decide
       have:=hgo hv4
       simp only [AH,Ex.A3] at this
       clear hErr0 hErr hOk hgo
       (repeat' (first|refine Run.ct rfl ?_|((first|refine Run.reg mixed ?_|refine Run.AD ?_|(refine AI.mk rfl hfi ?_;rintro _ _ ⟨rfl,rfl⟩)|refine AI.det (hfun) ?_)<;>try simp -implicitDefEqProofs only [AW,hneg,hnp,hb1,AA,AH,Ex.A3,D4,Wr,go_sem])|fail))
       exact this
      |some f=>
       rw [hif] at hfun hv4
       simp only [Ee] at hfun
       obtain ⟨g,hgf,_⟩:=SW hif
       have hge:=Aq (enc:=FE.enc) hgf
       simp only [hgf] at hv4
       obtain ⟨gn,gp,go,gn2,gu,gns,gk,ga⟩:=g
       simp only [FE.enc,Ex.A3] at hge
       have hpos:decide ((0:Int)≤(f:Int))=true:=by simp
       have hsub:IntKind.i64.wrap (((tl.length+1:Nat):Int) - 1)=(tl.length:Int):=Ir (by simp only [A5] at hlen;omega)
       have hbn:=Ta gp.length tl.length
       simp only [Eb,Az,decide_true,if_true] at hv4
       cases hne:(gp.length != tl.length) with
       |true=>
        rw [hne] at hbn
        rw [if_pos (by simp only [bne_iff_ne,ne_eq] at hne;omega)] at hv4
        have:=hErr0 (by rw [hv4];decide) σ1 hle1
        rw [hv4] at this
        clear hErr0 hErr hOk hgo
        (repeat' (first|refine Run.ct rfl ?_|((first|refine Run.reg mixed ?_|refine Run.AD ?_|(refine AI.mk rfl hfi ?_;rintro _ _ ⟨rfl,rfl⟩)|(refine Run.A1 Ar (AF.le_refl _) ?_)|refine AI.det (hfun) ?_)<;>try simp -implicitDefEqProofs only [AW,hneg,hpos,hb1,hge,hsub,hbn,A5,AA,AH,Ex.A3,D4,Wr,go_sem])|fail))
        exact this
       |false=>
        rw [hne] at hbn
        rw [if_neg (by simp only [bne_eq_false_iff_eq] at hne;omega)] at hv4
        have:=hgo hv4
        simp only [AH,Ex.A3] at this
        clear hErr0 hErr hOk hgo
        (repeat' (first|refine Run.ct rfl ?_|((first|refine Run.reg mixed ?_|refine Run.AD ?_|(refine AI.mk rfl hfi ?_;rintro _ _ ⟨rfl,rfl⟩)|refine AI.det (hfun) ?_)<;>try simp -implicitDefEqProofs only [AW,hneg,hpos,hb1,hge,hsub,hbn,A5,AA,AH,Ex.A3,D4,Wr,go_sem])|fail))
        exact this
   · rw [decide_eq_false hx4,B2,if_neg (by simp)] at hv4
     have hxf:=CA hx4
     have:=hgo hv4
     simp only [AH,Ex.A3] at this
     clear hErr0 hErr hOk hgo
     (repeat' (first|refine Run.ct rfl ?_|((first|refine Run.reg mixed ?_|refine Run.AD ?_)<;>try simp -implicitDefEqProofs only [AW,hxf,AA,AH,Ex.A3,D4,Wr,go_sem])|fail))
     exact this
 rw [if_neg h12] at hv4
 have h12f:(o==12)=false:=CA h12
 have:=hgo hv4
 clear hErr0 hErr hOk hgo
 (repeat' (first|refine Run.ct rfl ?_|((first|refine Run.reg mixed ?_|refine Run.AD ?_)<;>try simp -implicitDefEqProofs only [h4f,h6f,h8f,h11f,h10f,h12f,AA,go_sem])|fail))
 exact this
end Go.Ab
