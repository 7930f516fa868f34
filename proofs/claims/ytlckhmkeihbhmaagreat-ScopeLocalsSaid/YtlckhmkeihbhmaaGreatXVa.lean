/- Scope: names that are bound, functions, repeated names. Scope: the walk over an expression. Conditions: none. -/
import Derived.Test.YtlckhmkeihbhmaaGreatXUj
set_option linter.unusedSimpArgs false
set_option linter.unusedVariables false
set_option maxRecDepth 4000
set_option maxHeartbeats 8000000
open List renaming filter_append→LJ,append_nil→At,contains_cons→LI,length_map→AA,append_assoc→Ah,take_of_length_le→AG,mem_of_getElem?→AS,map_cons→AH,map_nil→AM,nil_append→Au,cons_append→Ac,contains_iff_mem→Aa,mem_append→A6,mem_singleton→B6,take_append_drop→A4,length_cons→A5,length_append→AT,mem_cons_self→Ai,length_take→Ae,mem_cons→BW
open Bool renaming false_or→DW,eq_iff_iff→Af,or_eq_true→Cp,eq_false_iff→Bw,and_eq_true→AN,not_not→J7
open Nat renaming reduceEqDiff→E5,min_eq_left→CT,zero_add→An
open Prod.mk renaming injEq→B1
open Option renaming map_eq_some_iff→AE,map_some→Bl
open Option.some renaming injEq→AJ
open Int renaming reduceBEq→AW
namespace Go.Ab
open Go.Proofs
def bdD:List Str→DV
 |[]=>.FD
 |s::l=>.ptr [.str s,bdD l]
def bdL (sc:List Str):DV:=bdD ((sc.filter (fun s=>!(s==[]))).reverse)
theorem jX (sc:List Str) (s:Str) (h:(s==[])=false):bdL (sc++[s])= .ptr [.str s,bdL sc]:=by
 have h1:List.filter (fun s=>!(s==[])) [s]=[s]:=by rw [List.filter_cons,h];rfl
 rw [bdL,LJ,h1,List.reverse_append];rfl
theorem ZC (sc:List Str) (s:Str) (h:(s==[])=true):bdL (sc++[s])=bdL sc:=by
 have h1:List.filter (fun s=>!(s==[])) [s]=[]:=by rw [List.filter_cons,h];rfl
 rw [bdL,LJ,h1,At];rfl
theorem qE:∀(l:List Str) (s:Str) (σ:AF),AK Tryz.prog 32 [.d (bdD l),.d (.str s)] σ (fun v σ'=>v= .d (.bool (l.contains s))∧σ'=σ):=by
 intro l s σ
 refine Pk (by simp) ?_
 rw [BR]
 (repeat' (first|refine Run.ct rfl ?_|((first|refine Run.reg mixed ?_|refine Run.AD ?_)<;>try simp -implicitDefEqProofs only [go_sem])|fail))
 refine Run.Ay ?_
 have hx:∀l0:List Str,l0.contains s=l.contains s→Run DK (fun v σ'=>v= .d (.bool (l.contains s))∧σ'=σ) [.again Hk,.blk 0,.code (.seq (.reg [⟨some 4,.mv (.c (.d (.bool false))),none⟩] [4]) .ret)] (put 0 (.d (bdD l0)) (put 1 (.d (.str s)) U)) E σ:=by
  intro l0
  induction l0 with
  |nil=>
   intro h
   refine Run.again ?_
   simp only [bdD]
   (repeat' (first|refine Run.ct rfl ?_|((first|refine Run.reg mixed ?_|refine Run.AD ?_|refine Run.A1 Gq (AF.le_refl _) ?_)<;>try simp -implicitDefEqProofs only [go_sem])|fail))
   rw [← h];rfl
  |cons x l0 ih=>
   intro h
   refine Run.again ?_
   simp only [bdD]
   rw [LI] at h
   cases hs:(x==s) with
   |true=>
    (repeat' (first|refine Run.ct rfl ?_|((first|refine Run.reg mixed ?_|refine Run.AD ?_|refine Run.A1 Gq (AF.le_refl _) ?_)<;>try simp -implicitDefEqProofs only [BS,hs,go_sem])|fail))
    rw [← h,BEq.comm,hs];rfl
   |false=>
    rw [show (s==x)=(x==s) from BEq.comm,hs,DW] at h
    (repeat' (first|refine Run.ct rfl ?_|((first|refine Run.reg mixed ?_|refine Run.AD ?_)<;>try simp -implicitDefEqProofs only [BS,hs,go_sem])|fail))
    exact ih h
 exact hx l rfl
theorem YI (sc:List Str) (s:Str) (hs:s≠[]) (σ:AF):AK Tryz.prog 32 [.d (bdL sc),.d (.str s)] σ (fun v σ'=>v= .d (.bool (sc.contains s))∧σ'=σ):=
 (qE _ s σ).mono (by
   rintro v σ' ⟨rfl,rfl⟩
   refine ⟨?_,rfl⟩
   congr 2
   rw [Af];simp [hs])
theorem P7 (sc ns:List Str) (σ:AF):AK Tryz.prog 64 [.d (bdL sc),.d (.sl (ns.map Ak))] σ (fun v σ'=>v= .d (bdL (sc++ns))∧σ'=σ):=by
 refine Oh (by simp) ?_
 rw [BR]
 refine Run.slot 1 (fun hb0=>?_)
 simp only [CZ,E5,if_false,if_true,AV.Dl,AA] at hb0
 (repeat' (first|refine Run.ct rfl ?_|((first|refine Run.reg mixed ?_|refine Run.AD ?_)<;>try simp -implicitDefEqProofs only [AA,go_sem])|fail))
 refine Run.Ay ?_
 refine Run.BB ((fun (a7:AV) (a8:AV)=>fun (i:Nat)=>put 0 (.d (bdL (sc++ns.take i))) (put 7 a7 (put 8 a8 (put 9 (.d (.int .i64 i)) U)))) _ _) (fun _=>E) (fun _=>σ) (fun i=>i≤ns.length) (fun i=>ns.length - i) ?_ 0 (by simp)|>(fun h=>by simpa using h)
 rintro i hi ih
 by_cases hlt:i < ns.length
 · obtain ⟨x,hx⟩:=Aw hlt
   have he:=Aq (enc:=Ak) hx
   simp only [Ak] at he
   have hw1:IntKind.i64.wrap ((i:Int)+1)=((i+1:Nat):Int):=by rw [As (by omega) (by omega)];omega
   have hi1:=ih (i+1) (by omega) (by omega)
   simp only at hi1
   rw [Am hx,← Ah] at hi1
   cases hs:(x==[]) with
   |true=>
    rw [ZC _ _ hs] at hi1
    (repeat' (first|refine Run.ct rfl ?_|((first|refine Run.reg mixed ?_|refine Run.AD ?_)<;>try simp -implicitDefEqProofs only [A8 hlt,he,hw1,C4,hs,go_sem])|fail))
    exact hi1
   |false=>
    rw [jX _ _ hs] at hi1
    (repeat' (first|refine Run.ct rfl ?_|((first|refine Run.reg mixed ?_|refine Run.AD ?_)<;>try simp -implicitDefEqProofs only [A8 hlt,he,hw1,C4,hs,go_sem])|fail))
    exact hi1
 · (repeat' (first|refine Run.ct rfl ?_|((first|refine Run.reg mixed ?_|refine Run.AD ?_|refine Run.A1 JR (AF.le_refl _) ?_)<;>try simp -implicitDefEqProofs only [B8 hlt,go_sem])|fail))
   rw [AG (by omega)]
theorem Le {fid:FuncId} {caps:List AV} (hb:C7 Tryz.prog fid=true) (hcp:caps.all AV.BF=true) (p:FE→Bool) (l:List FE) (σ:AF) (hf:∀x∈l,AK Tryz.prog fid ((feA x)::caps) σ (fun v σ'=>v= .d (.bool (p x))∧σ'=σ)):
 AK Tryz.prog 65 [.d (.sl (l.map FE.enc)),.fn fid [] caps] σ (fun v σ'=>v= .d (.int .i64 (Ee (l.findIdx? p)))∧σ'=σ):=by
 refine Il (by simp) ?_
 rw [BR]
 refine Run.slot 0 (fun hb0=>?_)
 simp only [CZ,if_true,AV.Dl,AA] at hb0
 (repeat' (first|refine Run.ct rfl ?_|((first|refine Run.reg mixed ?_|refine Run.AD ?_)<;>try simp -implicitDefEqProofs only [AA,go_sem])|fail))
 refine Run.Ay ?_
 refine Run.BB ((fun (a0:AV) (a1:AV) (a7:AV)=>fun (i:Nat)=>put 0 a0 (put 1 a1 (put 7 a7 (put 8 (.d (.int .i64 i)) U)))) _ _ _) (fun _=>E) (fun _=>σ) (fun i=>i≤l.length∧∀x∈l.take i,p x=false) (fun i=>l.length - i) ?_ 0 ⟨by simp,by simp⟩
 rintro i ⟨hi,hno⟩ ih
 by_cases hlt:i < l.length
 · obtain ⟨x,hx⟩:=Aw hlt
   have he:=Aq (enc:=FE.enc) hx
   have hw1:IntKind.i64.wrap ((i:Int)+1)=((i+1:Nat):Int):=by rw [As (by omega) (by omega)];omega
   have hc:=hf x (AS hx)
   obtain ⟨nm,ps,o,n,u,ns,ks,al⟩:=x
   simp only [FE.enc,Ex.A3,feA,AH,AM] at he hc
   cases hp:p (⟨nm,ps,.mk o n u ns ks al⟩) with
   |true=>
    rw [hp] at hc
    (repeat' (first|refine Run.ct rfl ?_|((first|refine Run.reg mixed ?_|refine Run.AD ?_|refine Run.A1 Da (AF.le_refl _) ?_|(refine ⟨fid,[],caps,rfl,hb,AI.det hc ?_ (by simp [hcp,Fu,DX])⟩))<;>try simp -implicitDefEqProofs only [A8 hlt,he,hw1,go_sem])|fail))
    rw [D6 hno hx hp];rfl
   |false=>
    rw [hp] at hc
    (repeat' (first|refine Run.ct rfl ?_|((first|refine Run.reg mixed ?_|refine Run.AD ?_|(refine ⟨fid,[],caps,rfl,hb,AI.det hc ?_ (by simp [hcp,Fu,DX])⟩))<;>try simp -implicitDefEqProofs only [A8 hlt,he,hw1,go_sem])|fail))
    exact ih (i+1) ⟨by omega,Eg hno hx hp⟩ (by omega)
 · (repeat' (first|refine Run.ct rfl ?_|((first|refine Run.reg mixed ?_|refine Run.AD ?_|refine Run.A1 Da (AF.le_refl _) ?_)<;>try simp -implicitDefEqProofs only [B8 hlt,go_sem])|fail))
   rw [AG (by omega)] at hno
   rw [D7 hno];rfl
theorem K3 (l:List Str) (s:Str):l.findIdx? (fun x=>x==s)=Cd l s:=by
 induction l with
 |nil=>rfl
 |cons x l ih=>
  rw [List.findIdx?_cons,Cd]
  split
  · rfl
  · rw [ih]
theorem Z5 (fs:List FE) (s:Str):fs.findIdx? (fun x=>x.name==s)=Cd (Bm fs) s:=by
 rw [← K3,Bm,List.findIdx?_map];rfl
theorem We (f:FE) (s:Str) (j:Nat) (σ:AF) (hj:σ.blk j=some [.d (.str s)]):AK Tryz.prog 66 [feA f,.gp j 0] σ (fun v σ'=>v= .d (.bool (f.name==s))∧σ'=σ):=by
 refine Qj (by simp) ?_
 rw [BR]
 obtain ⟨nm,ps,o,n,u,ns,ks,al⟩:=f
 simp only [FE.enc,Ex.A3,feA,AH,AM]
 (repeat' (first|refine Run.ct rfl ?_|((first|refine Run.reg mixed ?_|refine Run.AD ?_|refine Run.A1 Kk (AF.le_refl _) ?_)<;>try simp -implicitDefEqProofs only [hj,BS,go_sem])|fail))
theorem O9 (p:Pg) (s:Str) (σ:AF):AK Tryz.prog 33 [pgA p,.d (.str s)] σ (fun v σ'=>v= .d (.int .i64 (Ee (Cd (Bm p.Hp) s)))∧σ'=σ):=by
 refine S2 (by simp) ?_
 rw [BR]
 obtain ⟨ds,fs⟩:=p
 simp only [Pg.enc,pgA,AH,AM]
 (repeat' (first|refine Run.ct rfl ?_|((first|refine Run.reg mixed ?_|refine Run.AD ?_)<;>try simp -implicitDefEqProofs only [go_sem])|fail))
 intro j hj
 have hle:=Bp (cs:=[AV.d (.str s)]) hj
 have hc:=Le (fid:=66) (caps:=[.gp j 0]) (by kernel_rfl) rfl (fun x=>x.name==s) fs (σ.AQ j [.d (.str s)]) (fun x _=>We x s j _ (by simp only [AP,if_true]))
 rw [Z5] at hc
 (repeat' (first|refine Run.ct rfl ?_|((first|refine Run.reg mixed ?_|refine Run.AD ?_|(refine Run.A1 MY (σ2:=σ) hle ?_)|refine AI.det (hc) ?_)<;>try simp -implicitDefEqProofs only [go_sem])|fail))
theorem N7 (l:List Str) (s:Str) (σ:AF):AK Tryz.prog 101 [.d (.sl (l.map Ak)),.d (.str s)] σ (fun v σ'=>v= .d (.int .i64 (Ee (Cd l s)))∧σ'=σ):=by
 refine OA (by simp) ?_
 rw [BR,← K3]
 refine Run.slot 0 (fun hb0=>?_)
 simp only [CZ,if_true,AV.Dl,AA] at hb0
 (repeat' (first|refine Run.ct rfl ?_|((first|refine Run.reg mixed ?_|refine Run.AD ?_)<;>try simp -implicitDefEqProofs only [AA,go_sem])|fail))
 refine Run.Ay ?_
 refine Run.BB ((fun (a0:AV) (a1:AV) (a7:AV)=>fun (i:Nat)=>put 0 a0 (put 1 a1 (put 7 a7 (put 8 (.d (.int .i64 i)) U)))) _ _ _) (fun _=>E) (fun _=>σ) (fun i=>i≤l.length∧∀x∈l.take i,(x==s)=false) (fun i=>l.length - i) ?_ 0 ⟨by simp,by simp⟩
 rintro i ⟨hi,hno⟩ ih
 by_cases hlt:i < l.length
 · obtain ⟨x,hx⟩:=Aw hlt
   have he:=Aq (enc:=Ak) hx
   simp only [Ak] at he
   have hw1:IntKind.i64.wrap ((i:Int)+1)=((i+1:Nat):Int):=by rw [As (by omega) (by omega)];omega
   cases hp:(x==s) with
   |true=>
    have hp':(s==x)=true:=by rw [BEq.comm];exact hp
    (repeat' (first|refine Run.ct rfl ?_|((first|refine Run.reg mixed ?_|refine Run.AD ?_|refine Run.A1 Fq (AF.le_refl _) ?_)<;>try simp -implicitDefEqProofs only [A8 hlt,he,hw1,BS,hp',go_sem])|fail))
    rw [D6 (p:=fun x=>x==s) hno hx hp];rfl
   |false=>
    have hp':(s==x)=false:=by rw [BEq.comm];exact hp
    (repeat' (first|refine Run.ct rfl ?_|((first|refine Run.reg mixed ?_|refine Run.AD ?_)<;>try simp -implicitDefEqProofs only [A8 hlt,he,hw1,BS,hp',go_sem])|fail))
    exact ih (i+1) ⟨by omega,Eg (p:=fun x=>x==s) hno hx hp⟩ (by omega)
 · (repeat' (first|refine Run.ct rfl ?_|((first|refine Run.reg mixed ?_|refine Run.AD ?_|refine Run.A1 Fq (AF.le_refl _) ?_)<;>try simp -implicitDefEqProofs only [B8 hlt,go_sem])|fail))
   rw [AG (by omega)] at hno
   rw [D7 (p:=fun x=>x==s) hno];rfl
theorem G1 (l:List Str) (s:Str):(Cd l s).isSome=l.contains s:=by
 induction l with
 |nil=>rfl
 |cons x l ih=>
  rw [Cd,LI]
  cases h:(x==s) with
  |true=>rw [BEq.comm,h];rfl
  |false=>rw [show (s==x)=(x==s) from BEq.comm,h];simp [ih]
theorem Q5 (l:List Str) (s:Str) (σ:AF):AK Tryz.prog 73 [.d (.sl (l.map Ak)),.d (.str s)] σ (fun v σ'=>v= .d (.bool (l.contains s))∧σ'=σ):=by
 refine Lq (by simp) ?_
 rw [BR]
 (repeat' (first|refine Run.ct rfl ?_|((first|refine Run.reg mixed ?_|refine Run.AD ?_|refine Run.A1 Gz (AF.le_refl _) ?_|refine AI.det (N7 l s σ) ?_)<;>try simp -implicitDefEqProofs only [PZ,G1,go_sem])|fail))
theorem PJ (l:List Str) (x:Str):Bo (l++[x])=(Bo l||(!(x==[])&&l.contains x)):=by
 induction l with
 |nil=>
  have:Bo [x]=false:=by rw [Bo,Bo];simp
  rw [Au,this];simp [Bo]
 |cons y l ih=>
  rw [Ac,Bo,ih,Bo,LI]
  have h1:(l++[x]).contains y=(l.contains y||(x==y)):=by
   rw [Af];simp only [Aa,A6,B6,Cp,beq_iff_eq]
   constructor
   · rintro (h|h)
     · exact .inl h
     · exact .inr h.symm
   · rintro (h|h)
     · exact .inl h
     · exact .inr h.symm
  rw [h1]
  by_cases hxy:x=y
  · subst hxy
    have h2:(x==x)=true:=by simp
    rw [h2]
    generalize (x==([]:Str))=b1
    generalize Bo l=b2
    generalize l.contains x=b3
    cases b1<;>cases b2<;>cases b3<;>rfl
  · have h2:(x==y)=false:=by simpa using hxy
    rw [h2]
    generalize (x==([]:Str))=b1
    generalize (y==([]:Str))=b4
    generalize Bo l=b2
    generalize l.contains x=b3
    generalize l.contains y=b5
    cases b1<;>cases b2<;>cases b3<;>cases b4<;>cases b5<;>rfl
theorem T5 {l:List Str} {i:Nat} (h:Bo (l.take i)=true):Bo l=true:=by
 rw [← A4 i l]
 generalize l.drop i=m
 generalize l.take i=k at h
 induction m generalizing k with
 |nil=>simpa using h
 |cons x m ih=>
  rw [show k++x::m=(k++[x])++m by simp]
  exact ih (k++[x]) (by rw [PJ,h];rfl)
theorem mE {l:List Str} {i:Nat} (h:i≤l.length):Yn (l.map Ak) none (some (.d (.int .i64 (i:Int)))) none 1=some (.d (.sl ((l.take i).map Ak))):=by
 simp [Yn,SF,Oq,h,List.map_take]
theorem La (l:List Str) (σ:AF):AK Tryz.prog 45 [.d (.sl (l.map Ak))] σ (fun v σ'=>v= .d (.bool (Bo l))∧σ'=σ):=by
 refine S3 (by simp) ?_
 rw [Bf]
 refine Run.slot 0 (fun hb0=>?_)
 simp only [CZ,if_true,AV.Dl,AA] at hb0
 (repeat' (first|refine Run.ct rfl ?_|((first|refine Run.reg mixed ?_|refine Run.AD ?_)<;>try simp -implicitDefEqProofs only [AA,go_sem])|fail))
 refine Run.Ay ?_
 refine Run.BB ((fun (a0:AV) (a5:AV) (a6:AV)=>fun (i:Nat)=>put 0 a0 (put 5 a5 (put 6 a6 (put 7 (.d (.int .i64 i)) U)))) _ _ _) (fun _=>E) (fun _=>σ) (fun i=>i≤l.length∧Bo (l.take i)=false) (fun i=>l.length - i) ?_ 0 ⟨by simp,by simp [Bo]⟩
 rintro i ⟨hi,hno⟩ ih
 by_cases hlt:i < l.length
 · obtain ⟨x,hx⟩:=Aw hlt
   have he:=Aq (enc:=Ak) hx
   simp only [Ak] at he
   have hw1:IntKind.i64.wrap ((i:Int)+1)=((i+1:Nat):Int):=by rw [As (by omega) (by omega)];omega
   have hs:=mE hi
   have hsn:=PJ (l.take i) x
   rw [← Am hx,hno,DW] at hsn
   cases h0:(x==[]) with
   |true=>
    rw [h0] at hsn
    (repeat' (first|refine Run.ct rfl ?_|((first|refine Run.reg mixed ?_|refine Run.AD ?_)<;>try simp -implicitDefEqProofs only [A8 hlt,he,hw1,C4,h0,go_sem])|fail))
    exact ih (i+1) ⟨by omega,by simpa using hsn⟩ (by omega)
   |false=>
    rw [h0] at hsn
    have hc:=Q5 (l.take i) x σ
    cases hct:(l.take i).contains x with
    |true=>
     rw [hct] at hc hsn
     (repeat' (first|refine Run.ct rfl ?_|((first|refine Run.reg mixed ?_|refine Run.AD ?_|refine Run.A1 Ij (AF.le_refl _) ?_|refine AI.det (hc) ?_)<;>try simp -implicitDefEqProofs only [A8 hlt,he,hw1,C4,h0,hs,go_sem])|fail))
     rw [T5 (i:=i+1) (by simpa using hsn)]
    |false=>
     rw [hct] at hc hsn
     (repeat' (first|refine Run.ct rfl ?_|((first|refine Run.reg mixed ?_|refine Run.AD ?_|refine AI.det (hc) ?_)<;>try simp -implicitDefEqProofs only [A8 hlt,he,hw1,C4,h0,hs,go_sem])|fail))
     exact ih (i+1) ⟨by omega,by simpa using hsn⟩ (by omega)
 · (repeat' (first|refine Run.ct rfl ?_|((first|refine Run.reg mixed ?_|refine Run.AD ?_|refine Run.A1 Ij (AF.le_refl _) ?_)<;>try simp -implicitDefEqProofs only [B8 hlt,go_sem])|fail))
   rw [AG (by omega)] at hno
   rw [hno]
end Go.Ab
namespace Go.Ab
open Go.Proofs
def Gr {S X:Type} (vis:S→X→Int×S):List X→S→Option (Nat×Int)×S
 |[],s=>(none,s)
 |x::l,s=>if (vis s x).1=0 then (((Gr vis l (vis s x).2).1.map fun y=>(y.1+1,y.2)),(Gr vis l (vis s x).2).2) else (some (0,(vis s x).1),(vis s x).2)
theorem Vv {S X:Type} {vis:S→X→Int×S}:∀(l m:List X) (s s':S),Gr vis l s=(none,s')→Gr vis (l++m) s=(((Gr vis m s').1.map fun y=>(y.1+l.length,y.2)),(Gr vis m s').2)
 |[],m,s,s',h=>by
  simp only [Gr,B1,true_and] at h
  subst h
  simp
 |x::l,m,s,s',h=>by
  simp only [Gr] at h
  split at h
  · rename_i h0
    simp only [B1,Option.map_eq_none_iff] at h
    have:=Vv l m (vis s x).2 s' (Prod.ext h.1 h.2)
    rw [Ac,Gr,if_pos h0,this]
    simp only [Option.map_map,A5,B1,and_true]
    congr 1
  · simp at h
theorem Xi {S X:Type} {vis:S→X→Int×S}:∀(l m:List X) (s s':S) (r:Nat×Int),Gr vis l s=(some r,s')→Gr vis (l++m) s=(some r,s')
 |[],m,s,s',r,h=>by simp [Gr] at h
 |x::l,m,s,s',r,h=>by
  simp only [Gr] at h
  split at h
  · rename_i h0
    simp only [B1,AE] at h
    obtain ⟨⟨y,hy,rfl⟩,h2⟩:=h
    have:=Xi l m (vis s x).2 s' y (Prod.ext hy h2)
    rw [Ac,Gr,if_pos h0,this];rfl
  · rename_i h0
    rw [Ac,Gr,if_neg h0];exact h
theorem UR {S X:Type} {vis:S→X→Int×S}:∀(l:List X) (s s':S) (r:Nat×Int),Gr vis l s=(some r,s')→r.2≠0
 |[],s,s',r,h=>by simp [Gr] at h
 |x::l,s,s',r,h=>by
  simp only [Gr] at h
  split at h
  · simp only [B1,AE] at h
    obtain ⟨⟨y,hy,rfl⟩,h2⟩:=h
    exact UR l (vis s x).2 s' y (Prod.ext hy h2)
  · rename_i h0
    simp only [B1,AJ] at h
    rw [← h.1];exact h0
theorem Qt (o:Int) (n:Str) (ns sc:List Str) (k:Ex):∀(l:List Ex) (i:Nat),B9 o n ns sc i (l++[k])=B9 o n ns sc i l++B7 k (FV o n ns sc (i+l.length))
 |[],i=>by simp [B9]
 |x::l,i=>by
  rw [Ac,B9,B9,Qt o n ns sc k l (i+1),Ah,A5,show i+1+l.length=i+(l.length+1) by omega]
theorem Sj (o:Int) (n:Str) (ns sc:List Str) (m:List Ex):∀(l:List Ex) (i:Nat),B9 o n ns sc i (l++m)=B9 o n ns sc i l++B9 o n ns sc (i+l.length) m
 |[],i=>by simp [B9]
 |x::l,i=>by
  rw [Ac,B9,B9,Sj o n ns sc m l (i+1),Ah,A5,show i+1+l.length=i+(l.length+1) by omega]
theorem Si (sc:List Str) (m:List Al):∀l:List Al,Bj sc (l++m)=Bj sc l++Bj sc m
 |[]=>by simp [Bj]
 |x::l=>by rw [Ac,Bj,Bj,Si sc m l,Ah]
mutual
theorem Ks:∀(e:Ex) (sc:List Str),(B7 e sc).length=e.size
 | .mk o n u ns ks al,sc=>by rw [B7,A5,AT,FF o n ns sc 0 ks,H9 sc al,Ex.size];omega
theorem FF (o:Int) (n:Str) (ns sc:List Str):∀(i:Nat) (l:List Ex),(B9 o n ns sc i l).length=Ex.A2 l
 |_,[]=>by simp [B9,Ex.A2]
 |i,k::l=>by rw [B9,AT,Ks k _,FF o n ns sc (i+1) l,Ex.A2]
theorem lW:∀(a:Al) (sc:List Str),(Ot a sc).length=a.size
 | .mk c vs b,sc=>by rw [Ot,Ks b _,Al.size]
theorem H9 (sc:List Str):∀l:List Al,(Bj sc l).length=Al.A2 l
 |[]=>by simp [Bj,Al.A2]
 |a::l=>by rw [Bj,AT,lW a sc,H9 sc l,Al.A2]
end
section
variable {S:Type} (vis:S→Ex×List Str→Int×S) (hS:S→AF) (j:Nat) (fv:AV)
def WH (n:Nat) (s:S):AF:=(hS s).AQ j [.d (.int .i64 n),fv]
def WQ (l:List (Ex×List Str)) (n:Nat) (s:S) (v:AV) (σ':AF):Prop:=
 match Gr vis l s with
 |(none,s')=>v= .d (.int .i64 0)∧σ'=WH hS j fv (n+l.length - 1) s'
 |(some (k,c),s')=>c≠0∧v= .d (.int .i64 c)∧σ'=WH hS j fv (n+k) s'
def eI (fid:FuncId) (first caps:List AV) (l:List (Ex×List Str)):Prop:=
 ∀x∈l,∀(s:S) (n:Nat),AK Tryz.prog fid (first++[exA x.1,.d (bdL x.2)]++caps) (WH hS j fv n s) (fun v σ'=>v= .d (.int .i64 (vis s x).1)∧σ'=WH hS j fv n (vis s x).2)
end
theorem qG (o:Int) (n:Str) (ns sc:List Str) (i:Nat):bdL (FV o n ns sc i)=bdL (if (o=7∨o=17)∧i=1 then sc++[n] else if (o=8∧i=1)∨o=11 then sc++ns else sc):=by
 unfold FV
 split
 · split
   · rename_i h;rw [ZC _ _ (by simp [h])]
   · rfl
 · rfl
theorem oR {S:Type} (vis:S→Ex×List Str→Int×S) (hS:S→AF) (j:Nat) (fid:FuncId) (first caps:List AV) (hb:C7 Tryz.prog fid=true) (hfi:first.all AV.BF=true) (hca:caps.all AV.BF=true):
 ∀(N:Nat) (e:Ex) (sc:List Str) (n:Nat) (s:S),e.size≤N→n+e.size≤1000000000→eI vis hS j (.fn fid first caps) fid first caps (B7 e sc)→
 AK Tryz.prog 63 [.gp j 0,exA e,.d (bdL sc)] (WH hS j (.fn fid first caps) n s) (WQ vis hS j (.fn fid first caps) (B7 e sc) n s):=by
 intro N
 induction N with
 |zero=>intro e sc n s h;have:=Ex.size_pos e;omega
 |succ N ihN=>
 intro e sc n s hN hsz hvis
 have hcall:=hvis (e,sc) (by cases e;rw [B7];exact Ai ..) s n
 obtain ⟨o,nm,u,ns,ks,al⟩:=e
 simp only [Ex.size] at hN hsz
 have hkl:=Ex.CY ks
 have hal:=Al.CY al
 refine Pl (by simp) ?_
 rw [K7,exA,Ex.A3]
 simp only [exA,Ex.A3,AH,AM] at hcall
 generalize hV:WQ vis hS j (.fn fid first caps) (B7 (.mk o nm u ns ks al) sc) n s=V
 have hnl:(first++[AV.agg [.d (.int .i64 o),.d (.str nm),.d (.int .i64 u),.d (.sl (ns.map Ak)),.d (.sl (ks.map Ex.enc)),.d (.sl (al.map Al.enc))],.d (bdL sc)]++caps).all AV.BF=true:=by
  simp [hfi,hca,Fu,DX]
 have hblk:∀n s,(WH hS j (.fn fid first caps) n s).blk j=some [.d (.int .i64 n),.fn fid first caps]:=fun n s=>by simp only [WH,AP,if_true]
 cases hv:decide ((vis s (.mk o nm u ns ks al,sc)).1=0) with
 |false=>
  have hv':(vis s (.mk o nm u ns ks al,sc)).1≠0:=by simpa using hv
  have hne:((vis s (.mk o nm u ns ks al,sc)).1 != 0)=true:=by simpa using hv'
  (repeat' (first|refine Run.ct rfl ?_|((first|refine Run.reg mixed ?_|refine Run.AD ?_|refine Run.Er EG (AF.le_refl _) ?_|(refine ⟨fid,first,caps,rfl,hb,AI.mk hnl hcall ?_⟩;rintro _ _ ⟨rfl,rfl⟩))<;>try simp -implicitDefEqProofs only [hblk,hne,go_sem])|fail))
  rw [← hV,WQ,B7,Gr,if_neg hv']
  exact ⟨hv',rfl,rfl⟩
 |true=>
 have hv':(vis s (.mk o nm u ns ks al,sc)).1=0:=by simpa using hv
 have hne:((vis s (.mk o nm u ns ks al,sc)).1 != 0)=false:=by simp [hv']
 (repeat' (first|refine Run.ct rfl ?_|((first|refine Run.reg mixed ?_|refine Run.AD ?_|(refine ⟨fid,first,caps,rfl,hb,AI.mk hnl hcall ?_⟩;rintro _ _ ⟨rfl,rfl⟩))<;>try simp -implicitDefEqProofs only [hblk,hne,AA,go_sem])|fail))
 have hr0:Gr vis [((.mk o nm u ns ks al:Ex),sc)] s=(none,(vis s (.mk o nm u ns ks al,sc)).2):=by simp [Gr,hv']
 generalize (vis s (.mk o nm u ns ks al,sc)).2=s0 at hr0 ⊢
 clear hcall hnl hv hv' hne
 have hfail:∀(l m:List (Ex×List Str)) (k:Nat) (c:Int) (s':S),B7 (.mk o nm u ns ks al) sc=l++m→c≠0→Gr vis l s=(some (k,c),s')→V (.d (.int .i64 c)) (WH hS j (.fn fid first caps) (n+k) s'):=fun l m k c s' he hc hr=>by
  rw [← hV,WQ,he,Xi l m s s' (k,c) hr]
  exact ⟨hc,rfl,rfl⟩
 have hpre:B7 (.mk o nm u ns ks al) sc=((.mk o nm u ns ks al:Ex),sc)::(B9 o nm ns sc 0 ks++Bj sc al):=by rw [B7]
 refine Run.Ay ?_
 refine Run.BB ((fun (a0:AV) (a2:AV) (a4:AV) (a26:AV) (a27:AV)=>fun (y:Nat×S)=>put 0 a0 (put 2 a2 (put 4 a4 (put 26 a26 (put 27 a27 (put 28 (.d (.int .i64 y.1)) U)))))) _ _ _ _ _) (fun _=>BA 4 [.d (.int .i64 o),.d (.str nm),.d (.int .i64 u),.d (.sl (ns.map Ak)),.d (.sl (ks.map Ex.enc)),.d (.sl (al.map Al.enc))] E) (fun y=>WH hS j (.fn fid first caps) (n+Ex.A2 (ks.take y.1)) y.2)
  (fun y=>y.1≤ks.length∧Gr vis (((.mk o nm u ns ks al:Ex),sc)::B9 o nm ns sc 0 (ks.take y.1)) s=(none,y.2)) (fun y=>ks.length - y.1) ?_ (0,s0) ⟨by simp,by simpa [B9] using hr0⟩
 rintro ⟨i,t⟩ ⟨hi,hok⟩ ih
 simp only at hi hok
 by_cases hlt:i < ks.length
 · obtain ⟨x,hx⟩:=Aw hlt
   have he:=Aq (enc:=Ex.enc) hx
   have hw1:IntKind.i64.wrap ((i:Int)+1)=((i+1:Nat):Int):=by rw [As (by omega) (by omega)];omega
   have hxs:=Ex.G2 (AS hx)
   have hsum:Ex.A2 (ks.take i)+x.size+Ex.A2 (ks.drop (i+1))=Ex.A2 ks:=by
    conv=>rhs;rw [← A4 i ks,Ex.CC,Bc hx,Ex.A2]
    omega
   have hst:Ex.A2 (ks.take (i+1))=Ex.A2 (ks.take i)+x.size:=by rw [Am hx,Ex.CC];simp [Ex.A2]
   have hwn:IntKind.i64.wrap (((n+Ex.A2 (ks.take i):Nat):Int)+1)=((n+Ex.A2 (ks.take i)+1:Nat):Int):=A7 (by omega)
   have hks:B9 o nm ns sc 0 (ks.take (i+1))=B9 o nm ns sc 0 (ks.take i)++B7 x (FV o nm ns sc i):=by
    rw [Am hx,Qt,Ae,CT (by omega),An]
   have hall:B7 (.mk o nm u ns ks al) sc=(((.mk o nm u ns ks al:Ex),sc)::B9 o nm ns sc 0 (ks.take (i+1)))++(B9 o nm ns sc (i+1) (ks.drop (i+1))++Bj sc al):=by
    rw [hpre,Ac,← Ah]
    congr 2
    conv=>lhs;rw [← A4 (i+1) ks,Sj,Ae,CT (by omega),An]
   have hlen:(((.mk o nm u ns ks al:Ex),sc)::B9 o nm ns sc 0 (ks.take i)).length=1+Ex.A2 (ks.take i):=by
    rw [A5,FF];omega
   have happ:=Vv (vis:=vis) _ (B7 x (FV o nm ns sc i)) s t hok
   rw [Ac,← hks,hlen] at happ
   have hvx:eI vis hS j (.fn fid first caps) fid first caps (B7 x (FV o nm ns sc i)):=fun y hy=>hvis y (by
    rw [hall,A6,BW,hks,A6];exact .inl (.inr (.inr hy)))
   have hc:=ihN x (FV o nm ns sc i) (n+Ex.A2 (ks.take i)+1) t (by omega) (by omega) hvx
   have hbd:=qG o nm ns sc i
   generalize hsi:FV o nm ns sc i=sci at hc happ hbd hvx hks
   have hset:∀m:Nat,(WH hS j (.fn fid first caps) (n+Ex.A2 (ks.take i)) t).AQ j [.d (.int .i64 (m:Int)),.fn fid first caps]=WH hS j (.fn fid first caps) m t:=fun m=>by simp only [WH,F6]
   rcases hrx:Gr vis (B7 x sci) t with ⟨_|⟨k,c⟩,t'⟩
   · have hc:AK Tryz.prog 63 [.gp j 0,exA x,.d (bdL sci)] (WH hS j (.fn fid first caps) (n+Ex.A2 (ks.take i)+1) t) (fun v σ'=>v= .d (.int .i64 0)∧σ'=WH hS j (.fn fid first caps) (n+Ex.A2 (ks.take (i+1))) t'):=hc.mono (by
      intro v σ' h
      simp only [WQ,hrx] at h
      rw [Ks] at h
      obtain ⟨rfl,rfl⟩:=h
      have:=Ex.size_pos x
      refine ⟨rfl,?_⟩
      congr 1;omega)
     rw [hrx] at happ
     simp only [Option.map_none] at happ
     obtain ⟨xo,xn,xu,xs,xk,xa⟩:=x
     simp only [Ex.A3,exA,AH,AM] at he hc
     (repeat' (first|refine Run.cb rfl ?_|((first|refine Run.reg mixed ?_|refine Run.AD ?_)<;>try simp -implicitDefEqProofs only [A8 hlt,he,go_sem])|fail))
     refine Run.block ?_
     (repeat' (first|refine Run.cb rfl ?_|((first|refine Run.reg mixed ?_|refine Run.AD ?_)<;>try simp -implicitDefEqProofs only [A8 hlt,he,go_sem])|fail))
     refine Run.cU (α:=Unit) [0,2,4,9,10,26,27,28] (fun _=>put 0 (.gp j 0) (put 2 (.d (bdL sc)) (put 4 (.lp 4 0) (put 9 (.lp 9 0) (put 10 (.d (bdL sci)) (put 26 (.d (.sl (ks.map Ex.enc))) (put 27 (.d (.int .i64 ks.length)) (put 28 (.d (.int .i64 i)) U)))))))) (BA 4 [.d (.int .i64 o),.d (.str nm),.d (.int .i64 u),.d (.sl (ns.map Ak)),.d (.sl (ks.map Ex.enc)),.d (.sl (al.map Al.enc))] (BA 9 [.d (.int .i64 xo),.d (.str xn),.d (.int .i64 xu),.d (.sl (xs.map Ak)),.d (.sl (xk.map Ex.enc)),.d (.sl (xa.map Al.enc))] E)) (WH hS j (.fn fid first caps) (n+Ex.A2 (ks.take i)) t) (fun _=>True) ?_ ?_
     · rintro ⟨⟩ _
       (repeat' (first|refine Run.ct rfl ?_|((first|refine Run.reg mixed ?_|refine Run.AD ?_|(refine AI.mk rfl hc ?_;rintro _ _ ⟨rfl,rfl⟩))<;>try simp -implicitDefEqProofs only [hblk,hwn,hset,hw1,go_sem])|(refine ⟨fun h=>?_,fun h=>?_⟩<;>first|(cases h;done)|try simp only [h])|fail))
       exact ih (i+1,t') ⟨by simp only;omega,happ⟩ (by simp only;omega)
     · intro hrest
       clear hc
       have hwi:((i:Int)==1)=decide (i=1):=by rw [Af];simp only [beq_iff_eq,decide_eq_true_eq];omega
       have hws1:=P7 sc ns (WH hS j (.fn fid first caps) (n+Ex.A2 (ks.take i)) t)
       have hws2:=P7 sc [nm] (WH hS j (.fn fid first caps) (n+Ex.A2 (ks.take i)) t)
       simp only [AH,AM,Ak] at hws2
       have key:=fun (F':Fm) (L':Lm) h1 h2=>hrest F' L' () h1 h2 trivial
       clear hrest
       by_cases h11:o=11
       · subst h11
         rw [if_neg (by omega),if_pos (.inr rfl)] at hbd
         rw [← hbd] at hws1
         (repeat' (first|(refine key _ _ (by simp only [go_sem]) (by simp only [go_sem]))|refine Run.ct rfl ?_|((first|refine Run.reg mixed ?_|refine Run.AD ?_|refine AI.det (hws1) ?_)<;>try simp -implicitDefEqProofs only [AW,go_sem])|fail))
       by_cases h8:o=8∧i=1
       · obtain ⟨rfl,rfl⟩:=h8
         rw [if_neg (by omega),if_pos (.inl ⟨rfl,rfl⟩)] at hbd
         rw [← hbd] at hws1
         (repeat' (first|(refine key _ _ (by simp only [go_sem]) (by simp only [go_sem]))|refine Run.ct rfl ?_|((first|refine Run.reg mixed ?_|refine Run.AD ?_|refine AI.det (hws1) ?_)<;>try simp -implicitDefEqProofs only [AW,hwi,go_sem])|fail))
       by_cases h7:(o=7∨o=17)∧i=1
       · rw [if_pos h7] at hbd
         rw [← hbd] at hws2
         obtain ⟨h7,rfl⟩:=h7
         rcases h7 with rfl|rfl
         all_goals (repeat' (first|(refine key _ _ (by simp only [go_sem]) (by simp only [go_sem]))|refine Run.ct rfl ?_|((first|refine Run.reg mixed ?_|refine Run.AD ?_|refine AI.det (hws2) ?_)<;>try simp -implicitDefEqProofs only [AW,hwi,go_sem])|fail))
       · rw [if_neg h7,if_neg (by omega)] at hbd
         have hA:(o==8&&decide (i=1))=false:=by
          rw [Bw];intro h;exact h8 (by simpa using h)
         have hB:((o==7||o==17)&&decide (i=1))=false:=by
          rw [Bw];intro h;exact h7 (by simpa using h)
         (repeat' (first|(refine key _ _ (by simp only [go_sem,hbd]) (by simp only [go_sem]))|refine Run.ct rfl ?_|(refine RF (by first|exact GV.t|exact GV.f|exact GV.st|exact GV.sf) ⟨?_,fun h=>?_,?_⟩;rotate_left;(focus ((try simp only [AN,J7] at h);simp -implicitDefEqProofs only [CA h11,hwi,hA,hB,go_sem];first|exact Is.mk|exact Is.pv (by simp -implicitDefEqProofs only [h,Q0,↓Ej,↓HC,↓Ek,CA h11,hwi,hA,hB,go_sem];rfl)));(try simp -implicitDefEqProofs only [GI,IE,IF,↓Ej,↓HC,↓Ek,CA h11,hwi,hA,hB,G6,go_sem]))|((first|refine Run.reg mixed ?_|refine Run.AD ?_)<;>try simp -implicitDefEqProofs only [GI,IE,IF,↓Ej,↓HC,↓Ek,CA h11,hwi,hA,hB,go_sem])|fail))
   · have hc:AK Tryz.prog 63 [.gp j 0,exA x,.d (bdL sci)] (WH hS j (.fn fid first caps) (n+Ex.A2 (ks.take i)+1) t) (fun v σ'=>v= .d (.int .i64 c)∧σ'=WH hS j (.fn fid first caps) (n+(k+(1+Ex.A2 (ks.take i)))) t'∧c≠0):=hc.mono (by
      intro v σ' h
      simp only [WQ,hrx] at h
      obtain ⟨hc0,rfl,rfl⟩:=h
      refine ⟨rfl,?_,hc0⟩
      congr 1;omega)
     rw [hrx] at happ
     simp only [Bl] at happ
     have hc0:c≠0:=UR _ _ _ _ hrx
     have hne:(c != 0)=true:=by simpa using hc0
     obtain ⟨xo,xn,xu,xs,xk,xa⟩:=x
     simp only [Ex.A3,exA,AH,AM] at he hc
     (repeat' (first|refine Run.cb rfl ?_|((first|refine Run.reg mixed ?_|refine Run.AD ?_)<;>try simp -implicitDefEqProofs only [A8 hlt,he,go_sem])|fail))
     refine Run.block ?_
     (repeat' (first|refine Run.cb rfl ?_|((first|refine Run.reg mixed ?_|refine Run.AD ?_)<;>try simp -implicitDefEqProofs only [A8 hlt,he,go_sem])|fail))
     refine Run.cU (α:=Unit) [0,2,4,9,10,26,27,28] (fun _=>put 0 (.gp j 0) (put 2 (.d (bdL sc)) (put 4 (.lp 4 0) (put 9 (.lp 9 0) (put 10 (.d (bdL sci)) (put 26 (.d (.sl (ks.map Ex.enc))) (put 27 (.d (.int .i64 ks.length)) (put 28 (.d (.int .i64 i)) U)))))))) (BA 4 [.d (.int .i64 o),.d (.str nm),.d (.int .i64 u),.d (.sl (ns.map Ak)),.d (.sl (ks.map Ex.enc)),.d (.sl (al.map Al.enc))] (BA 9 [.d (.int .i64 xo),.d (.str xn),.d (.int .i64 xu),.d (.sl (xs.map Ak)),.d (.sl (xk.map Ex.enc)),.d (.sl (xa.map Al.enc))] E)) (WH hS j (.fn fid first caps) (n+Ex.A2 (ks.take i)) t) (fun _=>True) ?_ ?_
     · rintro ⟨⟩ _
       (repeat' (first|refine Run.ct rfl ?_|((first|refine Run.reg mixed ?_|refine Run.AD ?_|refine Run.Er EG (AF.le_refl _) ?_|(refine AI.mk rfl hc ?_;rintro _ _ ⟨rfl,rfl,_⟩))<;>try simp -implicitDefEqProofs only [hblk,hwn,hset,hw1,hne,go_sem])|fail))
       exact hfail _ _ _ _ _ hall hc0 happ
     · intro hrest
       clear hc
       have hwi:((i:Int)==1)=decide (i=1):=by rw [Af];simp only [beq_iff_eq,decide_eq_true_eq];omega
       have hws1:=P7 sc ns (WH hS j (.fn fid first caps) (n+Ex.A2 (ks.take i)) t)
       have hws2:=P7 sc [nm] (WH hS j (.fn fid first caps) (n+Ex.A2 (ks.take i)) t)
       simp only [AH,AM,Ak] at hws2
       have key:=fun (F':Fm) (L':Lm) h1 h2=>hrest F' L' () h1 h2 trivial
       clear hrest
       by_cases h11:o=11
       · subst h11
         rw [if_neg (by omega),if_pos (.inr rfl)] at hbd
         rw [← hbd] at hws1
         (repeat' (first|(refine key _ _ (by simp only [go_sem]) (by simp only [go_sem]))|refine Run.ct rfl ?_|((first|refine Run.reg mixed ?_|refine Run.AD ?_|refine AI.det (hws1) ?_)<;>try simp -implicitDefEqProofs only [AW,go_sem])|fail))
       by_cases h8:o=8∧i=1
       · obtain ⟨rfl,rfl⟩:=h8
         rw [if_neg (by omega),if_pos (.inl ⟨rfl,rfl⟩)] at hbd
         rw [← hbd] at hws1
         (repeat' (first|(refine key _ _ (by simp only [go_sem]) (by simp only [go_sem]))|refine Run.ct rfl ?_|((first|refine Run.reg mixed ?_|refine Run.AD ?_|refine AI.det (hws1) ?_)<;>try simp -implicitDefEqProofs only [AW,hwi,go_sem])|fail))
       by_cases h7:(o=7∨o=17)∧i=1
       · rw [if_pos h7] at hbd
         rw [← hbd] at hws2
         obtain ⟨h7,rfl⟩:=h7
         rcases h7 with rfl|rfl
         all_goals (repeat' (first|(refine key _ _ (by simp only [go_sem]) (by simp only [go_sem]))|refine Run.ct rfl ?_|((first|refine Run.reg mixed ?_|refine Run.AD ?_|refine AI.det (hws2) ?_)<;>try simp -implicitDefEqProofs only [AW,hwi,go_sem])|fail))
       · rw [if_neg h7,if_neg (by omega)] at hbd
         have hA:(o==8&&decide (i=1))=false:=by
          rw [Bw];intro h;exact h8 (by simpa using h)
         have hB:((o==7||o==17)&&decide (i=1))=false:=by
          rw [Bw];intro h;exact h7 (by simpa using h)
         (repeat' (first|(refine key _ _ (by simp only [go_sem,hbd]) (by simp only [go_sem]))|refine Run.ct rfl ?_|(refine RF (by first|exact GV.t|exact GV.f|exact GV.st|exact GV.sf) ⟨?_,fun h=>?_,?_⟩;rotate_left;(focus ((try simp only [AN,J7] at h);simp -implicitDefEqProofs only [CA h11,hwi,hA,hB,go_sem];first|exact Is.mk|exact Is.pv (by simp -implicitDefEqProofs only [h,Q0,↓Ej,↓HC,↓Ek,CA h11,hwi,hA,hB,go_sem];rfl)));(try simp -implicitDefEqProofs only [GI,IE,IF,↓Ej,↓HC,↓Ek,CA h11,hwi,hA,hB,G6,go_sem]))|((first|refine Run.reg mixed ?_|refine Run.AD ?_)<;>try simp -implicitDefEqProofs only [GI,IE,IF,↓Ej,↓HC,↓Ek,CA h11,hwi,hA,hB,go_sem])|fail))
 · have hik:ks.take i=ks:=AG (by omega)
   rw [hik] at hok
   clear ih
   (repeat' (first|refine Run.ct rfl ?_|((first|refine Run.reg mixed ?_|refine Run.AD ?_)<;>try simp -implicitDefEqProofs only [B8 hlt,AA,hik,go_sem])|fail))
   refine Run.Ay ?_
   refine Run.BB ((fun (a0:AV) (a2:AV) (a83:AV) (a84:AV)=>fun (y:Nat×S)=>put 0 a0 (put 2 a2 (put 83 a83 (put 84 a84 (put 85 (.d (.int .i64 y.1)) U))))) _ _ _ _) (fun _=>E) (fun y=>WH hS j (.fn fid first caps) (n+Ex.A2 ks+Al.A2 (al.take y.1)) y.2)
    (fun y=>y.1≤al.length∧Gr vis (((.mk o nm u ns ks al:Ex),sc)::(B9 o nm ns sc 0 ks++Bj sc (al.take y.1))) s=(none,y.2)) (fun y=>al.length - y.1) ?_ (0,t) ⟨by simp,by simpa [Bj] using hok⟩
   clear hok hi hlt hik
   rintro ⟨i,t⟩ ⟨hi,hok⟩ ih
   simp only at hi hok
   by_cases hlt:i < al.length
   · obtain ⟨a,hx⟩:=Aw hlt
     have he:=Aq (enc:=Al.enc) hx
     have hw1:IntKind.i64.wrap ((i:Int)+1)=((i+1:Nat):Int):=by rw [As (by omega) (by omega)];omega
     have hxs:=Al.G2 (AS hx)
     have hsum:Al.A2 (al.take i)+a.size+Al.A2 (al.drop (i+1))=Al.A2 al:=by
      conv=>rhs;rw [← A4 i al,Al.CC,Bc hx,Al.A2]
      omega
     have hst:Al.A2 (al.take (i+1))=Al.A2 (al.take i)+a.size:=by rw [Am hx,Al.CC];simp [Al.A2]
     have hwn:IntKind.i64.wrap (((n+Ex.A2 ks+Al.A2 (al.take i):Nat):Int)+1)=((n+Ex.A2 ks+Al.A2 (al.take i)+1:Nat):Int):=A7 (by omega)
     have hks:Bj sc (al.take (i+1))=Bj sc (al.take i)++Ot a sc:=by
      rw [Am hx,Si];simp [Bj]
     have hall:B7 (.mk o nm u ns ks al) sc=(((.mk o nm u ns ks al:Ex),sc)::(B9 o nm ns sc 0 ks++Bj sc (al.take (i+1))))++Bj sc (al.drop (i+1)):=by
      rw [hpre,Ac,Ah,← Si,A4]
     have hlen:(((.mk o nm u ns ks al:Ex),sc)::(B9 o nm ns sc 0 ks++Bj sc (al.take i))).length=1+Ex.A2 ks+Al.A2 (al.take i):=by
      rw [A5,AT,FF,H9];omega
     have happ:=Vv (vis:=vis) _ (Ot a sc) s t hok
     rw [Ac,Ah,← hks,hlen] at happ
     obtain ⟨ac,av,x⟩:=a
     rw [Ot] at happ hks
     simp only [Al.size] at hxs hst hsum
     have hvx:eI vis hS j (.fn fid first caps) fid first caps (B7 x (sc++av)):=fun y hy=>hvis y (by
      rw [hall,A6,BW,A6,hks,A6];exact .inl (.inr (.inr (.inr hy))))
     have hc:=ihN x (sc++av) (n+Ex.A2 ks+Al.A2 (al.take i)+1) t (by omega) (by omega) hvx
     have hws:=P7 sc av
     generalize sc++av=sci at hc happ hvx hks hws
     have hset:∀m:Nat,(WH hS j (.fn fid first caps) (n+Ex.A2 ks+Al.A2 (al.take i)) t).AQ j [.d (.int .i64 (m:Int)),.fn fid first caps]=WH hS j (.fn fid first caps) m t:=fun m=>by simp only [WH,F6]
     rcases hrx:Gr vis (B7 x sci) t with ⟨_|⟨k,c⟩,t'⟩
     · have hc:AK Tryz.prog 63 [.gp j 0,exA x,.d (bdL sci)] (WH hS j (.fn fid first caps) (n+Ex.A2 ks+Al.A2 (al.take i)+1) t) (fun v σ'=>v= .d (.int .i64 0)∧σ'=WH hS j (.fn fid first caps) (n+Ex.A2 ks+Al.A2 (al.take (i+1))) t'):=hc.mono (by
        intro v σ' h
        simp only [WQ,hrx] at h
        rw [Ks] at h
        obtain ⟨rfl,rfl⟩:=h
        have:=Ex.size_pos x
        refine ⟨rfl,?_⟩
        congr 1;omega)
       rw [hrx] at happ
       simp only [Option.map_none] at happ
       obtain ⟨xo,xn,xu,xs,xk,xa⟩:=x
       simp only [Al.A3,Ex.A3,exA,AH,AM] at he hc
       (repeat' (first|refine Run.ct rfl ?_|((first|refine Run.reg mixed ?_|refine Run.AD ?_|(refine AI.mk rfl hc ?_;rintro _ _ ⟨rfl,rfl⟩)|refine AI.det (hws _) ?_)<;>try simp -implicitDefEqProofs only [A8 hlt,he,hblk,hwn,hset,hw1,go_sem])|(refine ⟨fun h=>?_,fun h=>?_⟩<;>first|(cases h;done)|try simp only [h])|fail))
       exact ih (i+1,t') ⟨by simp only;omega,happ⟩ (by simp only;omega)
     · have hc:AK Tryz.prog 63 [.gp j 0,exA x,.d (bdL sci)] (WH hS j (.fn fid first caps) (n+Ex.A2 ks+Al.A2 (al.take i)+1) t) (fun v σ'=>v= .d (.int .i64 c)∧σ'=WH hS j (.fn fid first caps) (n+(k+(1+Ex.A2 ks+Al.A2 (al.take i)))) t'∧c≠0):=hc.mono (by
        intro v σ' h
        simp only [WQ,hrx] at h
        obtain ⟨hc0,rfl,rfl⟩:=h
        refine ⟨rfl,?_,hc0⟩
        congr 1;omega)
       rw [hrx] at happ
       simp only [Bl] at happ
       have hc0:c≠0:=UR _ _ _ _ hrx
       have hne:(c != 0)=true:=by simpa using hc0
       obtain ⟨xo,xn,xu,xs,xk,xa⟩:=x
       simp only [Al.A3,Ex.A3,exA,AH,AM] at he hc
       (repeat' (first|refine Run.ct rfl ?_|((first|refine Run.reg mixed ?_|refine Run.AD ?_|refine Run.Er EG (AF.le_refl _) ?_|(refine AI.mk rfl hc ?_;rintro _ _ ⟨rfl,rfl,_⟩)|refine AI.det (hws _) ?_)<;>try simp -implicitDefEqProofs only [A8 hlt,he,hblk,hwn,hset,hw1,hne,go_sem])|fail))
       exact hfail _ _ _ _ _ hall hc0 happ
   · rw [AG (by omega)] at hok
     have hia:al.take i=al:=AG (by omega)
     (repeat' (first|refine Run.ct rfl ?_|((first|refine Run.reg mixed ?_|refine Run.AD ?_|refine Run.Er EG (AF.le_refl _) ?_)<;>try simp -implicitDefEqProofs only [B8 hlt,go_sem])|fail))
     rw [← hV,WQ,hpre,hok,hia]
     refine ⟨rfl,?_⟩
     congr 1
     rw [A5,AT,FF,H9];omega
end Go.Ab
