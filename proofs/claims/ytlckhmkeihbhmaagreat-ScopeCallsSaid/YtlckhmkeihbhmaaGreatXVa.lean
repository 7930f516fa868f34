/- Scope: names that are bound, functions, repeated names. Scope: the walk over an expression. Conditions: none. -/
import Derived.Test.YtlckhmkeihbhmaaGreatXUj
set_option linter.unusedSimpArgs false
set_option linter.unusedVariables false
set_option maxRecDepth 4000
set_option maxHeartbeats 8000000
open List renaming filter_append→F8,append_nil→Aq,length_map→AA,append_assoc→Ag,take_of_length_le→AH,mem_of_getElem?→AT,map_cons→AI,map_nil→AO,nil_append→Au,cons_append→Ad,contains_iff_mem→Aa,mem_append→A3,mem_singleton→B5,take_append_drop→A4,length_cons→A5,length_append→AS,mem_cons_self→BT,length_take→Aj,mem_cons→Bf
open Bool renaming false_or→DP,eq_iff_iff→Ac,or_eq_true→DZ,eq_false_iff→Bv,and_eq_true→AQ,not_not→JZ
open Prod.mk renaming injEq→B6
open Option renaming map_eq_some_iff→AE,map_some→Bn
open Option.some renaming injEq→AK
open Nat renaming min_eq_left→CO,zero_add→Ak
open Int renaming reduceBEq→AU
namespace Go.Ab
open Go.Proofs
def bdD:List Str→DV
 |[]=>.FD
 |s::l=>.ptr [.str s,bdD l]
def bdL (sc:List Str):DV:=bdD ((sc.filter (fun s=>!(s==[]))).reverse)
theorem gF (sc:List Str) (s:Str) (h:(s==[])=false):bdL (sc++[s])= .ptr [.str s,bdL sc]:=by
 have h1:List.filter (fun s=>!(s==[])) [s]=[s]:=by rw [List.filter_cons,h];rfl
 rw [bdL,F8,h1,List.reverse_append];rfl
theorem Xz (sc:List Str) (s:Str) (h:(s==[])=true):bdL (sc++[s])=bdL sc:=by
 have h1:List.filter (fun s=>!(s==[])) [s]=[]:=by rw [List.filter_cons,h];rfl
 rw [bdL,F8,h1,Aq];rfl
theorem nG:∀(l:List Str) (s:Str) (σ:AF),AM Tryz.prog 32 [.d (bdD l),.d (.str s)] σ (fun v σ'=>v= .d (.bool (l.contains s))∧σ'=σ):=by
 intro l s σ
 refine P4 (by simp) ?_
 rw [BY]
 (repeat' (first|refine Run.ct rfl ?_|((first|refine Run.reg mixed ?_|refine Run.AD ?_)<;>try simp -implicitDefEqProofs only [go_sem])|fail))
 refine Run.BD ?_
 have hx:∀l0:List Str,l0.contains s=l.contains s→Run DG (fun v σ'=>v= .d (.bool (l.contains s))∧σ'=σ) [.again He,.blk 0,.code (.seq (.reg [⟨some 4,.mv (.c (.d (.bool false))),none⟩] [4]) .ret)] (put 0 (.d (bdD l0)) (put 1 (.d (.str s)) U)) E σ:=by
  intro l0
  induction l0 with
  |nil=>
   intro h
   refine Run.again ?_
   simp only [bdD]
   (repeat' (first|refine Run.ct rfl ?_|((first|refine Run.reg mixed ?_|refine Run.AD ?_|refine Run.A1 Gk (AF.le_refl _) ?_)<;>try simp -implicitDefEqProofs only [go_sem])|fail))
   rw [← h];rfl
  |cons x l0 ih=>
   intro h
   refine Run.again ?_
   simp only [bdD]
   rw [List.contains_cons] at h
   cases hs:(x==s) with
   |true=>
    (repeat' (first|refine Run.ct rfl ?_|((first|refine Run.reg mixed ?_|refine Run.AD ?_|refine Run.A1 Gk (AF.le_refl _) ?_)<;>try simp -implicitDefEqProofs only [BS,hs,go_sem])|fail))
    rw [← h,BEq.comm,hs];rfl
   |false=>
    rw [show (s==x)=(x==s) from BEq.comm,hs,DP] at h
    (repeat' (first|refine Run.ct rfl ?_|((first|refine Run.reg mixed ?_|refine Run.AD ?_)<;>try simp -implicitDefEqProofs only [BS,hs,go_sem])|fail))
    exact ih h
 exact hx l rfl
theorem XX (sc:List Str) (s:Str) (hs:s≠[]) (σ:AF):AM Tryz.prog 32 [.d (bdL sc),.d (.str s)] σ (fun v σ'=>v= .d (.bool (sc.contains s))∧σ'=σ):=
 (nG _ s σ).mono (by
   rintro v σ' ⟨rfl,rfl⟩
   refine ⟨?_,rfl⟩
   congr 2
   rw [Ac];simp [hs])
theorem PV (sc ns:List Str) (σ:AF):AM Tryz.prog 64 [.d (bdL sc),.d (.sl (ns.map BF))] σ (fun v σ'=>v= .d (bdL (sc++ns))∧σ'=σ):=by
 refine O7 (by simp) ?_
 rw [BY]
 refine Run.slot 1 (fun hb0=>?_)
 simp only [Dn,Nat.reduceEqDiff,if_false,if_true,AV.FB,AA] at hb0
 (repeat' (first|refine Run.ct rfl ?_|((first|refine Run.reg mixed ?_|refine Run.AD ?_)<;>try simp -implicitDefEqProofs only [AA,go_sem])|fail))
 refine Run.BD ?_
 refine Run.BG ((fun (a7:AV) (a8:AV)=>fun (i:Nat)=>put 0 (.d (bdL (sc++ns.take i))) (put 7 a7 (put 8 a8 (put 9 (.d (.int .i64 i)) U)))) _ _) (fun _=>E) (fun _=>σ) (fun i=>i≤ns.length) (fun i=>ns.length - i) ?_ 0 (by simp)|>(fun h=>by simpa using h)
 rintro i hi ih
 by_cases hlt:i < ns.length
 · obtain ⟨x,hx⟩:=BC hlt
   have he:=Ay (enc:=BF) hx
   simp only [BF] at he
   have hw1:IntKind.i64.wrap ((i:Int)+1)=((i+1:Nat):Int):=by rw [BI (by omega) (by omega)];omega
   have hi1:=ih (i+1) (by omega) (by omega)
   simp only at hi1
   rw [Aw hx,← Ag] at hi1
   cases hs:(x==[]) with
   |true=>
    rw [Xz _ _ hs] at hi1
    (repeat' (first|refine Run.ct rfl ?_|((first|refine Run.reg mixed ?_|refine Run.AD ?_)<;>try simp -implicitDefEqProofs only [A8 hlt,he,hw1,Cd,hs,go_sem])|fail))
    exact hi1
   |false=>
    rw [gF _ _ hs] at hi1
    (repeat' (first|refine Run.ct rfl ?_|((first|refine Run.reg mixed ?_|refine Run.AD ?_)<;>try simp -implicitDefEqProofs only [A8 hlt,he,hw1,Cd,hs,go_sem])|fail))
    exact hi1
 · (repeat' (first|refine Run.ct rfl ?_|((first|refine Run.reg mixed ?_|refine Run.AD ?_|refine Run.A1 JL (AF.le_refl _) ?_)<;>try simp -implicitDefEqProofs only [Bd hlt,go_sem])|fail))
   rw [AH (by omega)]
theorem Lb {fid:FuncId} {caps:List AV} (hb:C0 Tryz.prog fid=true) (hcp:caps.all AV.BZ=true) (p:FE→Bool) (l:List FE) (σ:AF) (hf:∀x∈l,AM Tryz.prog fid ((feA x)::caps) σ (fun v σ'=>v= .d (.bool (p x))∧σ'=σ)):
 AM Tryz.prog 65 [.d (.sl (l.map FE.enc)),.fn fid [] caps] σ (fun v σ'=>v= .d (.int .i64 (Ee (l.findIdx? p)))∧σ'=σ):=by
 refine Ii (by simp) ?_
 rw [BY]
 refine Run.slot 0 (fun hb0=>?_)
 simp only [Dn,if_true,AV.FB,AA] at hb0
 (repeat' (first|refine Run.ct rfl ?_|((first|refine Run.reg mixed ?_|refine Run.AD ?_)<;>try simp -implicitDefEqProofs only [AA,go_sem])|fail))
 refine Run.BD ?_
 refine Run.BG ((fun (a0:AV) (a1:AV) (a7:AV)=>fun (i:Nat)=>put 0 a0 (put 1 a1 (put 7 a7 (put 8 (.d (.int .i64 i)) U)))) _ _ _) (fun _=>E) (fun _=>σ) (fun i=>i≤l.length∧∀x∈l.take i,p x=false) (fun i=>l.length - i) ?_ 0 ⟨by simp,by simp⟩
 rintro i ⟨hi,hno⟩ ih
 by_cases hlt:i < l.length
 · obtain ⟨x,hx⟩:=BC hlt
   have he:=Ay (enc:=FE.enc) hx
   have hw1:IntKind.i64.wrap ((i:Int)+1)=((i+1:Nat):Int):=by rw [BI (by omega) (by omega)];omega
   have hc:=hf x (AT hx)
   obtain ⟨nm,ps,o,n,u,ns,ks,al⟩:=x
   simp only [FE.enc,Ex.A7,feA,AI,AO] at he hc
   cases hp:p (⟨nm,ps,.mk o n u ns ks al⟩) with
   |true=>
    rw [hp] at hc
    (repeat' (first|refine Run.ct rfl ?_|((first|refine Run.reg mixed ?_|refine Run.AD ?_|refine Run.A1 D5 (AF.le_refl _) ?_|(refine ⟨fid,[],caps,rfl,hb,AJ.det hc ?_ (by simp [hcp,Ft,DR])⟩))<;>try simp -implicitDefEqProofs only [A8 hlt,he,hw1,go_sem])|fail))
    rw [D1 hno hx hp];rfl
   |false=>
    rw [hp] at hc
    (repeat' (first|refine Run.ct rfl ?_|((first|refine Run.reg mixed ?_|refine Run.AD ?_|(refine ⟨fid,[],caps,rfl,hb,AJ.det hc ?_ (by simp [hcp,Ft,DR])⟩))<;>try simp -implicitDefEqProofs only [A8 hlt,he,hw1,go_sem])|fail))
    exact ih (i+1) ⟨by omega,Eg hno hx hp⟩ (by omega)
 · (repeat' (first|refine Run.ct rfl ?_|((first|refine Run.reg mixed ?_|refine Run.AD ?_|refine Run.A1 D5 (AF.le_refl _) ?_)<;>try simp -implicitDefEqProofs only [Bd hlt,go_sem])|fail))
   rw [AH (by omega)] at hno
   rw [D2 hno];rfl
theorem KQ (l:List Str) (s:Str):l.findIdx? (fun x=>x==s)=Ct l s:=by
 induction l with
 |nil=>rfl
 |cons x l ih=>
  rw [List.findIdx?_cons,Ct]
  split
  · rfl
  · rw [ih]
theorem YX (fs:List FE) (s:Str):fs.findIdx? (fun x=>x.name==s)=Ct (CU fs) s:=by
 rw [← KQ,CU,List.findIdx?_map];rfl
theorem WA (f:FE) (s:Str) (j:Nat) (σ:AF) (hj:σ.blk j=some [.d (.str s)]):AM Tryz.prog 66 [feA f,.gp j 0] σ (fun v σ'=>v= .d (.bool (f.name==s))∧σ'=σ):=by
 refine Qa (by simp) ?_
 rw [BY]
 obtain ⟨nm,ps,o,n,u,ns,ks,al⟩:=f
 simp only [FE.enc,Ex.A7,feA,AI,AO]
 (repeat' (first|refine Run.ct rfl ?_|((first|refine Run.reg mixed ?_|refine Run.AD ?_|refine Run.A1 Kg (AF.le_refl _) ?_)<;>try simp -implicitDefEqProofs only [hj,BS,go_sem])|fail))
theorem O0 (p:Pg) (s:Str) (σ:AF):AM Tryz.prog 33 [pgA p,.d (.str s)] σ (fun v σ'=>v= .d (.int .i64 (Ee (Ct (CU p.MW) s)))∧σ'=σ):=by
 refine SO (by simp) ?_
 rw [BY]
 obtain ⟨ds,fs⟩:=p
 simp only [Pg.enc,pgA,AI,AO]
 (repeat' (first|refine Run.ct rfl ?_|((first|refine Run.reg mixed ?_|refine Run.AD ?_)<;>try simp -implicitDefEqProofs only [go_sem])|fail))
 intro j hj
 have hle:=Bj (cs:=[AV.d (.str s)]) hj
 have hc:=Lb (fid:=66) (caps:=[.gp j 0]) (by kernel_rfl) rfl (fun x=>x.name==s) fs (σ.AP j [.d (.str s)]) (fun x _=>WA x s j _ (by simp only [AL,if_true]))
 rw [YX] at hc
 (repeat' (first|refine Run.ct rfl ?_|((first|refine Run.reg mixed ?_|refine Run.AD ?_|(refine Run.A1 MY (σ2:=σ) hle ?_)|refine AJ.det (hc) ?_)<;>try simp -implicitDefEqProofs only [go_sem])|fail))
theorem N3 (l:List Str) (s:Str) (σ:AF):AM Tryz.prog 101 [.d (.sl (l.map BF)),.d (.str s)] σ (fun v σ'=>v= .d (.int .i64 (Ee (Ct l s)))∧σ'=σ):=by
 refine Nq (by simp) ?_
 rw [BY,← KQ]
 refine Run.slot 0 (fun hb0=>?_)
 simp only [Dn,if_true,AV.FB,AA] at hb0
 (repeat' (first|refine Run.ct rfl ?_|((first|refine Run.reg mixed ?_|refine Run.AD ?_)<;>try simp -implicitDefEqProofs only [AA,go_sem])|fail))
 refine Run.BD ?_
 refine Run.BG ((fun (a0:AV) (a1:AV) (a7:AV)=>fun (i:Nat)=>put 0 a0 (put 1 a1 (put 7 a7 (put 8 (.d (.int .i64 i)) U)))) _ _ _) (fun _=>E) (fun _=>σ) (fun i=>i≤l.length∧∀x∈l.take i,(x==s)=false) (fun i=>l.length - i) ?_ 0 ⟨by simp,by simp⟩
 rintro i ⟨hi,hno⟩ ih
 by_cases hlt:i < l.length
 · obtain ⟨x,hx⟩:=BC hlt
   have he:=Ay (enc:=BF) hx
   simp only [BF] at he
   have hw1:IntKind.i64.wrap ((i:Int)+1)=((i+1:Nat):Int):=by rw [BI (by omega) (by omega)];omega
   cases hp:(x==s) with
   |true=>
    have hp':(s==x)=true:=by rw [BEq.comm];exact hp
    (repeat' (first|refine Run.ct rfl ?_|((first|refine Run.reg mixed ?_|refine Run.AD ?_|refine Run.A1 Fq (AF.le_refl _) ?_)<;>try simp -implicitDefEqProofs only [A8 hlt,he,hw1,BS,hp',go_sem])|fail))
    rw [D1 (p:=fun x=>x==s) hno hx hp];rfl
   |false=>
    have hp':(s==x)=false:=by rw [BEq.comm];exact hp
    (repeat' (first|refine Run.ct rfl ?_|((first|refine Run.reg mixed ?_|refine Run.AD ?_)<;>try simp -implicitDefEqProofs only [A8 hlt,he,hw1,BS,hp',go_sem])|fail))
    exact ih (i+1) ⟨by omega,Eg (p:=fun x=>x==s) hno hx hp⟩ (by omega)
 · (repeat' (first|refine Run.ct rfl ?_|((first|refine Run.reg mixed ?_|refine Run.AD ?_|refine Run.A1 Fq (AF.le_refl _) ?_)<;>try simp -implicitDefEqProofs only [Bd hlt,go_sem])|fail))
   rw [AH (by omega)] at hno
   rw [D2 (p:=fun x=>x==s) hno];rfl
theorem GW (l:List Str) (s:Str):(Ct l s).isSome=l.contains s:=by
 induction l with
 |nil=>rfl
 |cons x l ih=>
  rw [Ct,List.contains_cons]
  cases h:(x==s) with
  |true=>rw [BEq.comm,h];rfl
  |false=>rw [show (s==x)=(x==s) from BEq.comm,h];simp [ih]
theorem QR (l:List Str) (s:Str) (σ:AF):AM Tryz.prog 73 [.d (.sl (l.map BF)),.d (.str s)] σ (fun v σ'=>v= .d (.bool (l.contains s))∧σ'=σ):=by
 refine Lo (by simp) ?_
 rw [BY]
 (repeat' (first|refine Run.ct rfl ?_|((first|refine Run.reg mixed ?_|refine Run.AD ?_|refine Run.A1 Gt (AF.le_refl _) ?_|refine AJ.det (N3 l s σ) ?_)<;>try simp -implicitDefEqProofs only [PL,GW,go_sem])|fail))
theorem PA (l:List Str) (x:Str):CC (l++[x])=(CC l||(!(x==[])&&l.contains x)):=by
 induction l with
 |nil=>
  have:CC [x]=false:=by rw [CC,CC];simp
  rw [Au,this];simp [CC]
 |cons y l ih=>
  rw [Ad,CC,ih,CC,List.contains_cons]
  have h1:(l++[x]).contains y=(l.contains y||(x==y)):=by
   rw [Ac];simp only [Aa,A3,B5,DZ,beq_iff_eq]
   constructor
   · rintro (h|h)
     · exact .inl h
     · exact .inr h.symm
   · rintro (h|h)
     · exact .inl h
     · exact .inr h.symm
  rw [h1]
  by_cases hxy:x=y
  · subst hxy
    have h2:(x==x)=true:=by simp
    rw [h2]
    generalize (x==([]:Str))=b1
    generalize CC l=b2
    generalize l.contains x=b3
    cases b1<;>cases b2<;>cases b3<;>rfl
  · have h2:(x==y)=false:=by simpa using hxy
    rw [h2]
    generalize (x==([]:Str))=b1
    generalize (y==([]:Str))=b4
    generalize CC l=b2
    generalize l.contains x=b3
    generalize l.contains y=b5
    cases b1<;>cases b2<;>cases b3<;>cases b4<;>cases b5<;>rfl
theorem TN {l:List Str} {i:Nat} (h:CC (l.take i)=true):CC l=true:=by
 rw [← A4 i l]
 generalize l.drop i=m
 generalize l.take i=k at h
 induction m generalizing k with
 |nil=>simpa using h
 |cons x m ih=>
  rw [show k++x::m=(k++[x])++m by simp]
  exact ih (k++[x]) (by rw [PA,h];rfl)
theorem jI {l:List Str} {i:Nat} (h:i≤l.length):bA (l.map BF) none (some (.d (.int .i64 (i:Int)))) none 1=some (.d (.sl ((l.take i).map BF))):=by
 simp [bA,TT,Of,h,List.map_take]
theorem L5 (l:List Str) (σ:AF):AM Tryz.prog 45 [.d (.sl (l.map BF))] σ (fun v σ'=>v= .d (.bool (CC l))∧σ'=σ):=by
 refine SP (by simp) ?_
 rw [Bg]
 refine Run.slot 0 (fun hb0=>?_)
 simp only [Dn,if_true,AV.FB,AA] at hb0
 (repeat' (first|refine Run.ct rfl ?_|((first|refine Run.reg mixed ?_|refine Run.AD ?_)<;>try simp -implicitDefEqProofs only [AA,go_sem])|fail))
 refine Run.BD ?_
 refine Run.BG ((fun (a0:AV) (a5:AV) (a6:AV)=>fun (i:Nat)=>put 0 a0 (put 5 a5 (put 6 a6 (put 7 (.d (.int .i64 i)) U)))) _ _ _) (fun _=>E) (fun _=>σ) (fun i=>i≤l.length∧CC (l.take i)=false) (fun i=>l.length - i) ?_ 0 ⟨by simp,by simp [CC]⟩
 rintro i ⟨hi,hno⟩ ih
 by_cases hlt:i < l.length
 · obtain ⟨x,hx⟩:=BC hlt
   have he:=Ay (enc:=BF) hx
   simp only [BF] at he
   have hw1:IntKind.i64.wrap ((i:Int)+1)=((i+1:Nat):Int):=by rw [BI (by omega) (by omega)];omega
   have hs:=jI hi
   have hsn:=PA (l.take i) x
   rw [← Aw hx,hno,DP] at hsn
   cases h0:(x==[]) with
   |true=>
    rw [h0] at hsn
    (repeat' (first|refine Run.ct rfl ?_|((first|refine Run.reg mixed ?_|refine Run.AD ?_)<;>try simp -implicitDefEqProofs only [A8 hlt,he,hw1,Cd,h0,go_sem])|fail))
    exact ih (i+1) ⟨by omega,by simpa using hsn⟩ (by omega)
   |false=>
    rw [h0] at hsn
    have hc:=QR (l.take i) x σ
    cases hct:(l.take i).contains x with
    |true=>
     rw [hct] at hc hsn
     (repeat' (first|refine Run.ct rfl ?_|((first|refine Run.reg mixed ?_|refine Run.AD ?_|refine Run.A1 Ig (AF.le_refl _) ?_|refine AJ.det (hc) ?_)<;>try simp -implicitDefEqProofs only [A8 hlt,he,hw1,Cd,h0,hs,go_sem])|fail))
     rw [TN (i:=i+1) (by simpa using hsn)]
    |false=>
     rw [hct] at hc hsn
     (repeat' (first|refine Run.ct rfl ?_|((first|refine Run.reg mixed ?_|refine Run.AD ?_|refine AJ.det (hc) ?_)<;>try simp -implicitDefEqProofs only [A8 hlt,he,hw1,Cd,h0,hs,go_sem])|fail))
     exact ih (i+1) ⟨by omega,by simpa using hsn⟩ (by omega)
 · (repeat' (first|refine Run.ct rfl ?_|((first|refine Run.reg mixed ?_|refine Run.AD ?_|refine Run.A1 Ig (AF.le_refl _) ?_)<;>try simp -implicitDefEqProofs only [Bd hlt,go_sem])|fail))
   rw [AH (by omega)] at hno
   rw [hno]
end Go.Ab
namespace Go.Ab
open Go.Proofs
def Gl {S X:Type} (vis:S→X→Int×S):List X→S→Option (Nat×Int)×S
 |[],s=>(none,s)
 |x::l,s=>if (vis s x).1=0 then (((Gl vis l (vis s x).2).1.map fun y=>(y.1+1,y.2)),(Gl vis l (vis s x).2).2) else (some (0,(vis s x).1),(vis s x).2)
theorem VW {S X:Type} {vis:S→X→Int×S}:∀(l m:List X) (s s':S),Gl vis l s=(none,s')→Gl vis (l++m) s=(((Gl vis m s').1.map fun y=>(y.1+l.length,y.2)),(Gl vis m s').2)
 |[],m,s,s',h=>by
  simp only [Gl,B6,true_and] at h
  subst h
  simp
 |x::l,m,s,s',h=>by
  simp only [Gl] at h
  split at h
  · rename_i h0
    simp only [B6,Option.map_eq_none_iff] at h
    have:=VW l m (vis s x).2 s' (Prod.ext h.1 h.2)
    rw [Ad,Gl,if_pos h0,this]
    simp only [Option.map_map,A5,B6,and_true]
    congr 1
  · simp at h
theorem Ww {S X:Type} {vis:S→X→Int×S}:∀(l m:List X) (s s':S) (r:Nat×Int),Gl vis l s=(some r,s')→Gl vis (l++m) s=(some r,s')
 |[],m,s,s',r,h=>by simp [Gl] at h
 |x::l,m,s,s',r,h=>by
  simp only [Gl] at h
  split at h
  · rename_i h0
    simp only [B6,AE] at h
    obtain ⟨⟨y,hy,rfl⟩,h2⟩:=h
    have:=Ww l m (vis s x).2 s' y (Prod.ext hy h2)
    rw [Ad,Gl,if_pos h0,this];rfl
  · rename_i h0
    rw [Ad,Gl,if_neg h0];exact h
theorem UB {S X:Type} {vis:S→X→Int×S}:∀(l:List X) (s s':S) (r:Nat×Int),Gl vis l s=(some r,s')→r.2≠0
 |[],s,s',r,h=>by simp [Gl] at h
 |x::l,s,s',r,h=>by
  simp only [Gl] at h
  split at h
  · simp only [B6,AE] at h
    obtain ⟨⟨y,hy,rfl⟩,h2⟩:=h
    exact UB l (vis s x).2 s' y (Prod.ext hy h2)
  · rename_i h0
    simp only [B6,AK] at h
    rw [← h.1];exact h0
theorem Qi (o:Int) (n:Str) (ns sc:List Str) (k:Ex):∀(l:List Ex) (i:Nat),Bi o n ns sc i (l++[k])=Bi o n ns sc i l++B7 k (GX o n ns sc (i+l.length))
 |[],i=>by simp [Bi]
 |x::l,i=>by
  rw [Ad,Bi,Bi,Qi o n ns sc k l (i+1),Ag,A5,show i+1+l.length=i+(l.length+1) by omega]
theorem S5 (o:Int) (n:Str) (ns sc:List Str) (m:List Ex):∀(l:List Ex) (i:Nat),Bi o n ns sc i (l++m)=Bi o n ns sc i l++Bi o n ns sc (i+l.length) m
 |[],i=>by simp [Bi]
 |x::l,i=>by
  rw [Ad,Bi,Bi,S5 o n ns sc m l (i+1),Ag,A5,show i+1+l.length=i+(l.length+1) by omega]
theorem S4 (sc:List Str) (m:List Al):∀l:List Al,Bx sc (l++m)=Bx sc l++Bx sc m
 |[]=>by simp [Bx]
 |x::l=>by rw [Ad,Bx,Bx,S4 sc m l,Ag]
mutual
theorem JT:∀(e:Ex) (sc:List Str),(B7 e sc).length=e.size
 | .mk o n u ns ks al,sc=>by rw [B7,A5,AS,FF o n ns sc 0 ks,H2 sc al,Ex.size];omega
theorem FF (o:Int) (n:Str) (ns sc:List Str):∀(i:Nat) (l:List Ex),(Bi o n ns sc i l).length=Ex.A2 l
 |_,[]=>by simp [Bi,Ex.A2]
 |i,k::l=>by rw [Bi,AS,JT k _,FF o n ns sc (i+1) l,Ex.A2]
theorem iV:∀(a:Al) (sc:List Str),(S3 a sc).length=a.size
 | .mk c vs b,sc=>by rw [S3,JT b _,Al.size]
theorem H2 (sc:List Str):∀l:List Al,(Bx sc l).length=Al.A2 l
 |[]=>by simp [Bx,Al.A2]
 |a::l=>by rw [Bx,AS,iV a sc,H2 sc l,Al.A2]
end
section
variable {S:Type} (vis:S→Ex×List Str→Int×S) (hS:S→AF) (j:Nat) (fv:AV)
def WH (n:Nat) (s:S):AF:=(hS s).AP j [.d (.int .i64 n),fv]
def WQ (l:List (Ex×List Str)) (n:Nat) (s:S) (v:AV) (σ':AF):Prop:=
 match Gl vis l s with
 |(none,s')=>v= .d (.int .i64 0)∧σ'=WH hS j fv (n+l.length - 1) s'
 |(some (k,c),s')=>c≠0∧v= .d (.int .i64 c)∧σ'=WH hS j fv (n+k) s'
def bN (fid:FuncId) (first caps:List AV) (l:List (Ex×List Str)):Prop:=
 ∀x∈l,∀(s:S) (n:Nat),AM Tryz.prog fid (first++[exA x.1,.d (bdL x.2)]++caps) (WH hS j fv n s) (fun v σ'=>v= .d (.int .i64 (vis s x).1)∧σ'=WH hS j fv n (vis s x).2)
end
theorem nI (o:Int) (n:Str) (ns sc:List Str) (i:Nat):bdL (GX o n ns sc i)=bdL (if (o=7∨o=17)∧i=1 then sc++[n] else if (o=8∧i=1)∨o=11 then sc++ns else sc):=by
 unfold GX
 split
 · split
   · rename_i h;rw [Xz _ _ (by simp [h])]
   · rfl
 · rfl
theorem lQ {S:Type} (vis:S→Ex×List Str→Int×S) (hS:S→AF) (j:Nat) (fid:FuncId) (first caps:List AV) (hb:C0 Tryz.prog fid=true) (hfi:first.all AV.BZ=true) (hca:caps.all AV.BZ=true):
 ∀(N:Nat) (e:Ex) (sc:List Str) (n:Nat) (s:S),e.size≤N→n+e.size≤1000000000→bN vis hS j (.fn fid first caps) fid first caps (B7 e sc)→
 AM Tryz.prog 63 [.gp j 0,exA e,.d (bdL sc)] (WH hS j (.fn fid first caps) n s) (WQ vis hS j (.fn fid first caps) (B7 e sc) n s):=by
 intro N
 induction N with
 |zero=>intro e sc n s h;have:=Ex.size_pos e;omega
 |succ N ihN=>
 intro e sc n s hN hsz hvis
 have hcall:=hvis (e,sc) (by cases e;rw [B7];exact BT ..) s n
 obtain ⟨o,nm,u,ns,ks,al⟩:=e
 simp only [Ex.size] at hN hsz
 have hkl:=Ex.C9 ks
 have hal:=Al.C9 al
 refine P5 (by simp) ?_
 rw [Lc,exA,Ex.A7]
 simp only [exA,Ex.A7,AI,AO] at hcall
 generalize hV:WQ vis hS j (.fn fid first caps) (B7 (.mk o nm u ns ks al) sc) n s=V
 have hnl:(first++[AV.agg [.d (.int .i64 o),.d (.str nm),.d (.int .i64 u),.d (.sl (ns.map BF)),.d (.sl (ks.map Ex.enc)),.d (.sl (al.map Al.enc))],.d (bdL sc)]++caps).all AV.BZ=true:=by
  simp [hfi,hca,Ft,DR]
 have hblk:∀n s,(WH hS j (.fn fid first caps) n s).blk j=some [.d (.int .i64 n),.fn fid first caps]:=fun n s=>by simp only [WH,AL,if_true]
 cases hv:decide ((vis s (.mk o nm u ns ks al,sc)).1=0) with
 |false=>
  have hv':(vis s (.mk o nm u ns ks al,sc)).1≠0:=by simpa using hv
  have hne:((vis s (.mk o nm u ns ks al,sc)).1 != 0)=true:=by simpa using hv'
  (repeat' (first|refine Run.ct rfl ?_|((first|refine Run.reg mixed ?_|refine Run.AD ?_|refine Run.Fu EA (AF.le_refl _) ?_|(refine ⟨fid,first,caps,rfl,hb,AJ.mk hnl hcall ?_⟩;rintro _ _ ⟨rfl,rfl⟩))<;>try simp -implicitDefEqProofs only [hblk,hne,go_sem])|fail))
  rw [← hV,WQ,B7,Gl,if_neg hv']
  exact ⟨hv',rfl,rfl⟩
 |true=>
 have hv':(vis s (.mk o nm u ns ks al,sc)).1=0:=by simpa using hv
 have hne:((vis s (.mk o nm u ns ks al,sc)).1 != 0)=false:=by simp [hv']
 (repeat' (first|refine Run.ct rfl ?_|((first|refine Run.reg mixed ?_|refine Run.AD ?_|(refine ⟨fid,first,caps,rfl,hb,AJ.mk hnl hcall ?_⟩;rintro _ _ ⟨rfl,rfl⟩))<;>try simp -implicitDefEqProofs only [hblk,hne,AA,go_sem])|fail))
 have hr0:Gl vis [((.mk o nm u ns ks al:Ex),sc)] s=(none,(vis s (.mk o nm u ns ks al,sc)).2):=by simp [Gl,hv']
 generalize (vis s (.mk o nm u ns ks al,sc)).2=s0 at hr0 ⊢
 clear hcall hnl hv hv' hne
 have hfail:∀(l m:List (Ex×List Str)) (k:Nat) (c:Int) (s':S),B7 (.mk o nm u ns ks al) sc=l++m→c≠0→Gl vis l s=(some (k,c),s')→V (.d (.int .i64 c)) (WH hS j (.fn fid first caps) (n+k) s'):=fun l m k c s' he hc hr=>by
  rw [← hV,WQ,he,Ww l m s s' (k,c) hr]
  exact ⟨hc,rfl,rfl⟩
 have hpre:B7 (.mk o nm u ns ks al) sc=((.mk o nm u ns ks al:Ex),sc)::(Bi o nm ns sc 0 ks++Bx sc al):=by rw [B7]
 refine Run.BD ?_
 refine Run.BG ((fun (a0:AV) (a2:AV) (a4:AV) (a26:AV) (a27:AV)=>fun (y:Nat×S)=>put 0 a0 (put 2 a2 (put 4 a4 (put 26 a26 (put 27 a27 (put 28 (.d (.int .i64 y.1)) U)))))) _ _ _ _ _) (fun _=>BE 4 [.d (.int .i64 o),.d (.str nm),.d (.int .i64 u),.d (.sl (ns.map BF)),.d (.sl (ks.map Ex.enc)),.d (.sl (al.map Al.enc))] E) (fun y=>WH hS j (.fn fid first caps) (n+Ex.A2 (ks.take y.1)) y.2)
  (fun y=>y.1≤ks.length∧Gl vis (((.mk o nm u ns ks al:Ex),sc)::Bi o nm ns sc 0 (ks.take y.1)) s=(none,y.2)) (fun y=>ks.length - y.1) ?_ (0,s0) ⟨by simp,by simpa [Bi] using hr0⟩
 rintro ⟨i,t⟩ ⟨hi,hok⟩ ih
 simp only at hi hok
 by_cases hlt:i < ks.length
 · obtain ⟨x,hx⟩:=BC hlt
   have he:=Ay (enc:=Ex.enc) hx
   have hw1:IntKind.i64.wrap ((i:Int)+1)=((i+1:Nat):Int):=by rw [BI (by omega) (by omega)];omega
   have hxs:=Ex.Ja (AT hx)
   have hsum:Ex.A2 (ks.take i)+x.size+Ex.A2 (ks.drop (i+1))=Ex.A2 ks:=by
    conv=>rhs;rw [← A4 i ks,Ex.CA,Bb hx,Ex.A2]
    omega
   have hst:Ex.A2 (ks.take (i+1))=Ex.A2 (ks.take i)+x.size:=by rw [Aw hx,Ex.CA];simp [Ex.A2]
   have hwn:IntKind.i64.wrap (((n+Ex.A2 (ks.take i):Nat):Int)+1)=((n+Ex.A2 (ks.take i)+1:Nat):Int):=A6 (by omega)
   have hks:Bi o nm ns sc 0 (ks.take (i+1))=Bi o nm ns sc 0 (ks.take i)++B7 x (GX o nm ns sc i):=by
    rw [Aw hx,Qi,Aj,CO (by omega),Ak]
   have hall:B7 (.mk o nm u ns ks al) sc=(((.mk o nm u ns ks al:Ex),sc)::Bi o nm ns sc 0 (ks.take (i+1)))++(Bi o nm ns sc (i+1) (ks.drop (i+1))++Bx sc al):=by
    rw [hpre,Ad,← Ag]
    congr 2
    conv=>lhs;rw [← A4 (i+1) ks,S5,Aj,CO (by omega),Ak]
   have hlen:(((.mk o nm u ns ks al:Ex),sc)::Bi o nm ns sc 0 (ks.take i)).length=1+Ex.A2 (ks.take i):=by
    rw [A5,FF];omega
   have happ:=VW (vis:=vis) _ (B7 x (GX o nm ns sc i)) s t hok
   rw [Ad,← hks,hlen] at happ
   have hvx:bN vis hS j (.fn fid first caps) fid first caps (B7 x (GX o nm ns sc i)):=fun y hy=>hvis y (by
    rw [hall,A3,Bf,hks,A3];exact .inl (.inr (.inr hy)))
   have hc:=ihN x (GX o nm ns sc i) (n+Ex.A2 (ks.take i)+1) t (by omega) (by omega) hvx
   have hbd:=nI o nm ns sc i
   generalize hsi:GX o nm ns sc i=sci at hc happ hbd hvx hks
   have hset:∀m:Nat,(WH hS j (.fn fid first caps) (n+Ex.A2 (ks.take i)) t).AP j [.d (.int .i64 (m:Int)),.fn fid first caps]=WH hS j (.fn fid first caps) m t:=fun m=>by simp only [WH,F5]
   rcases hrx:Gl vis (B7 x sci) t with ⟨_|⟨k,c⟩,t'⟩
   · have hc:AM Tryz.prog 63 [.gp j 0,exA x,.d (bdL sci)] (WH hS j (.fn fid first caps) (n+Ex.A2 (ks.take i)+1) t) (fun v σ'=>v= .d (.int .i64 0)∧σ'=WH hS j (.fn fid first caps) (n+Ex.A2 (ks.take (i+1))) t'):=hc.mono (by
      intro v σ' h
      simp only [WQ,hrx] at h
      rw [JT] at h
      obtain ⟨rfl,rfl⟩:=h
      have:=Ex.size_pos x
      refine ⟨rfl,?_⟩
      congr 1;omega)
     rw [hrx] at happ
     simp only [Option.map_none] at happ
     obtain ⟨xo,xn,xu,xs,xk,xa⟩:=x
     simp only [Ex.A7,exA,AI,AO] at he hc
     (repeat' (first|refine Run.cb rfl ?_|((first|refine Run.reg mixed ?_|refine Run.AD ?_)<;>try simp -implicitDefEqProofs only [A8 hlt,he,go_sem])|fail))
     refine Run.block ?_
     (repeat' (first|refine Run.cb rfl ?_|((first|refine Run.reg mixed ?_|refine Run.AD ?_)<;>try simp -implicitDefEqProofs only [A8 hlt,he,go_sem])|fail))
     refine Run.Zz (α:=Unit) [0,2,4,9,10,26,27,28] (fun _=>put 0 (.gp j 0) (put 2 (.d (bdL sc)) (put 4 (.lp 4 0) (put 9 (.lp 9 0) (put 10 (.d (bdL sci)) (put 26 (.d (.sl (ks.map Ex.enc))) (put 27 (.d (.int .i64 ks.length)) (put 28 (.d (.int .i64 i)) U)))))))) (BE 4 [.d (.int .i64 o),.d (.str nm),.d (.int .i64 u),.d (.sl (ns.map BF)),.d (.sl (ks.map Ex.enc)),.d (.sl (al.map Al.enc))] (BE 9 [.d (.int .i64 xo),.d (.str xn),.d (.int .i64 xu),.d (.sl (xs.map BF)),.d (.sl (xk.map Ex.enc)),.d (.sl (xa.map Al.enc))] E)) (WH hS j (.fn fid first caps) (n+Ex.A2 (ks.take i)) t) (fun _=>True) ?_ ?_
     · rintro ⟨⟩ _
       (repeat' (first|refine Run.ct rfl ?_|((first|refine Run.reg mixed ?_|refine Run.AD ?_|(refine AJ.mk rfl hc ?_;rintro _ _ ⟨rfl,rfl⟩))<;>try simp -implicitDefEqProofs only [hblk,hwn,hset,hw1,go_sem])|(refine ⟨fun h=>?_,fun h=>?_⟩<;>first|(cases h;done)|try simp only [h])|fail))
       exact ih (i+1,t') ⟨by simp only;omega,happ⟩ (by simp only;omega)
     · intro hrest
       clear hc
       have hwi:((i:Int)==1)=decide (i=1):=by rw [Ac];simp only [beq_iff_eq,decide_eq_true_eq];omega
       have hws1:=PV sc ns (WH hS j (.fn fid first caps) (n+Ex.A2 (ks.take i)) t)
       have hws2:=PV sc [nm] (WH hS j (.fn fid first caps) (n+Ex.A2 (ks.take i)) t)
       simp only [AI,AO,BF] at hws2
       have key:=fun (F':Fm) (L':Lm) h1 h2=>hrest F' L' () h1 h2 trivial
       clear hrest
       by_cases h11:o=11
       · subst h11
         rw [if_neg (by omega),if_pos (.inr rfl)] at hbd
         rw [← hbd] at hws1
         (repeat' (first|(refine key _ _ (by simp only [go_sem]) (by simp only [go_sem]))|refine Run.ct rfl ?_|((first|refine Run.reg mixed ?_|refine Run.AD ?_|refine AJ.det (hws1) ?_)<;>try simp -implicitDefEqProofs only [AU,go_sem])|fail))
       by_cases h8:o=8∧i=1
       · obtain ⟨rfl,rfl⟩:=h8
         rw [if_neg (by omega),if_pos (.inl ⟨rfl,rfl⟩)] at hbd
         rw [← hbd] at hws1
         (repeat' (first|(refine key _ _ (by simp only [go_sem]) (by simp only [go_sem]))|refine Run.ct rfl ?_|((first|refine Run.reg mixed ?_|refine Run.AD ?_|refine AJ.det (hws1) ?_)<;>try simp -implicitDefEqProofs only [AU,hwi,go_sem])|fail))
       by_cases h7:(o=7∨o=17)∧i=1
       · rw [if_pos h7] at hbd
         rw [← hbd] at hws2
         obtain ⟨h7,rfl⟩:=h7
         rcases h7 with rfl|rfl
         all_goals (repeat' (first|(refine key _ _ (by simp only [go_sem]) (by simp only [go_sem]))|refine Run.ct rfl ?_|((first|refine Run.reg mixed ?_|refine Run.AD ?_|refine AJ.det (hws2) ?_)<;>try simp -implicitDefEqProofs only [AU,hwi,go_sem])|fail))
       · rw [if_neg h7,if_neg (by omega)] at hbd
         have hA:(o==8&&decide (i=1))=false:=by
          rw [Bv];intro h;exact h8 (by simpa using h)
         have hB:((o==7||o==17)&&decide (i=1))=false:=by
          rw [Bv];intro h;exact h7 (by simpa using h)
         (repeat' (first|(refine key _ _ (by simp only [go_sem,hbd]) (by simp only [go_sem]))|refine Run.ct rfl ?_|(refine Qt (by first|exact GV.t|exact GV.f|exact GV.st|exact GV.sf) ⟨?_,fun h=>?_,?_⟩;rotate_left;(focus ((try simp only [AQ,JZ] at h);simp -implicitDefEqProofs only [CZ h11,hwi,hA,hB,go_sem];first|exact Is.mk|exact Is.pv (by simp -implicitDefEqProofs only [h,QN,↓Ek,↓Gv,↓El,CZ h11,hwi,hA,hB,go_sem];rfl)));(try simp -implicitDefEqProofs only [GF,Hz,IA,↓Ek,↓Gv,↓El,CZ h11,hwi,hA,hB,G0,go_sem]))|((first|refine Run.reg mixed ?_|refine Run.AD ?_)<;>try simp -implicitDefEqProofs only [GF,Hz,IA,↓Ek,↓Gv,↓El,CZ h11,hwi,hA,hB,go_sem])|fail))
   · have hc:AM Tryz.prog 63 [.gp j 0,exA x,.d (bdL sci)] (WH hS j (.fn fid first caps) (n+Ex.A2 (ks.take i)+1) t) (fun v σ'=>v= .d (.int .i64 c)∧σ'=WH hS j (.fn fid first caps) (n+(k+(1+Ex.A2 (ks.take i)))) t'∧c≠0):=hc.mono (by
      intro v σ' h
      simp only [WQ,hrx] at h
      obtain ⟨hc0,rfl,rfl⟩:=h
      refine ⟨rfl,?_,hc0⟩
      congr 1;omega)
     rw [hrx] at happ
     simp only [Bn] at happ
     have hc0:c≠0:=UB _ _ _ _ hrx
     have hne:(c != 0)=true:=by simpa using hc0
     obtain ⟨xo,xn,xu,xs,xk,xa⟩:=x
     simp only [Ex.A7,exA,AI,AO] at he hc
     (repeat' (first|refine Run.cb rfl ?_|((first|refine Run.reg mixed ?_|refine Run.AD ?_)<;>try simp -implicitDefEqProofs only [A8 hlt,he,go_sem])|fail))
     refine Run.block ?_
     (repeat' (first|refine Run.cb rfl ?_|((first|refine Run.reg mixed ?_|refine Run.AD ?_)<;>try simp -implicitDefEqProofs only [A8 hlt,he,go_sem])|fail))
     refine Run.Zz (α:=Unit) [0,2,4,9,10,26,27,28] (fun _=>put 0 (.gp j 0) (put 2 (.d (bdL sc)) (put 4 (.lp 4 0) (put 9 (.lp 9 0) (put 10 (.d (bdL sci)) (put 26 (.d (.sl (ks.map Ex.enc))) (put 27 (.d (.int .i64 ks.length)) (put 28 (.d (.int .i64 i)) U)))))))) (BE 4 [.d (.int .i64 o),.d (.str nm),.d (.int .i64 u),.d (.sl (ns.map BF)),.d (.sl (ks.map Ex.enc)),.d (.sl (al.map Al.enc))] (BE 9 [.d (.int .i64 xo),.d (.str xn),.d (.int .i64 xu),.d (.sl (xs.map BF)),.d (.sl (xk.map Ex.enc)),.d (.sl (xa.map Al.enc))] E)) (WH hS j (.fn fid first caps) (n+Ex.A2 (ks.take i)) t) (fun _=>True) ?_ ?_
     · rintro ⟨⟩ _
       (repeat' (first|refine Run.ct rfl ?_|((first|refine Run.reg mixed ?_|refine Run.AD ?_|refine Run.Fu EA (AF.le_refl _) ?_|(refine AJ.mk rfl hc ?_;rintro _ _ ⟨rfl,rfl,_⟩))<;>try simp -implicitDefEqProofs only [hblk,hwn,hset,hw1,hne,go_sem])|fail))
       exact hfail _ _ _ _ _ hall hc0 happ
     · intro hrest
       clear hc
       have hwi:((i:Int)==1)=decide (i=1):=by rw [Ac];simp only [beq_iff_eq,decide_eq_true_eq];omega
       have hws1:=PV sc ns (WH hS j (.fn fid first caps) (n+Ex.A2 (ks.take i)) t)
       have hws2:=PV sc [nm] (WH hS j (.fn fid first caps) (n+Ex.A2 (ks.take i)) t)
       simp only [AI,AO,BF] at hws2
       have key:=fun (F':Fm) (L':Lm) h1 h2=>hrest F' L' () h1 h2 trivial
       clear hrest
       by_cases h11:o=11
       · subst h11
         rw [if_neg (by omega),if_pos (.inr rfl)] at hbd
         rw [← hbd] at hws1
         (repeat' (first|(refine key _ _ (by simp only [go_sem]) (by simp only [go_sem]))|refine Run.ct rfl ?_|((first|refine Run.reg mixed ?_|refine Run.AD ?_|refine AJ.det (hws1) ?_)<;>try simp -implicitDefEqProofs only [AU,go_sem])|fail))
       by_cases h8:o=8∧i=1
       · obtain ⟨rfl,rfl⟩:=h8
         rw [if_neg (by omega),if_pos (.inl ⟨rfl,rfl⟩)] at hbd
         rw [← hbd] at hws1
         (repeat' (first|(refine key _ _ (by simp only [go_sem]) (by simp only [go_sem]))|refine Run.ct rfl ?_|((first|refine Run.reg mixed ?_|refine Run.AD ?_|refine AJ.det (hws1) ?_)<;>try simp -implicitDefEqProofs only [AU,hwi,go_sem])|fail))
       by_cases h7:(o=7∨o=17)∧i=1
       · rw [if_pos h7] at hbd
         rw [← hbd] at hws2
         obtain ⟨h7,rfl⟩:=h7
         rcases h7 with rfl|rfl
         all_goals (repeat' (first|(refine key _ _ (by simp only [go_sem]) (by simp only [go_sem]))|refine Run.ct rfl ?_|((first|refine Run.reg mixed ?_|refine Run.AD ?_|refine AJ.det (hws2) ?_)<;>try simp -implicitDefEqProofs only [AU,hwi,go_sem])|fail))
       · rw [if_neg h7,if_neg (by omega)] at hbd
         have hA:(o==8&&decide (i=1))=false:=by
          rw [Bv];intro h;exact h8 (by simpa using h)
         have hB:((o==7||o==17)&&decide (i=1))=false:=by
          rw [Bv];intro h;exact h7 (by simpa using h)
         (repeat' (first|(refine key _ _ (by simp only [go_sem,hbd]) (by simp only [go_sem]))|refine Run.ct rfl ?_|(refine Qt (by first|exact GV.t|exact GV.f|exact GV.st|exact GV.sf) ⟨?_,fun h=>?_,?_⟩;rotate_left;(focus ((try simp only [AQ,JZ] at h);simp -implicitDefEqProofs only [CZ h11,hwi,hA,hB,go_sem];first|exact Is.mk|exact Is.pv (by simp -implicitDefEqProofs only [h,QN,↓Ek,↓Gv,↓El,CZ h11,hwi,hA,hB,go_sem];rfl)));(try simp -implicitDefEqProofs only [GF,Hz,IA,↓Ek,↓Gv,↓El,CZ h11,hwi,hA,hB,G0,go_sem]))|((first|refine Run.reg mixed ?_|refine Run.AD ?_)<;>try simp -implicitDefEqProofs only [GF,Hz,IA,↓Ek,↓Gv,↓El,CZ h11,hwi,hA,hB,go_sem])|fail))
 · have hik:ks.take i=ks:=AH (by omega)
   rw [hik] at hok
   clear ih
   (repeat' (first|refine Run.ct rfl ?_|((first|refine Run.reg mixed ?_|refine Run.AD ?_)<;>try simp -implicitDefEqProofs only [Bd hlt,AA,hik,go_sem])|fail))
   refine Run.BD ?_
   refine Run.BG ((fun (a0:AV) (a2:AV) (a83:AV) (a84:AV)=>fun (y:Nat×S)=>put 0 a0 (put 2 a2 (put 83 a83 (put 84 a84 (put 85 (.d (.int .i64 y.1)) U))))) _ _ _ _) (fun _=>E) (fun y=>WH hS j (.fn fid first caps) (n+Ex.A2 ks+Al.A2 (al.take y.1)) y.2)
    (fun y=>y.1≤al.length∧Gl vis (((.mk o nm u ns ks al:Ex),sc)::(Bi o nm ns sc 0 ks++Bx sc (al.take y.1))) s=(none,y.2)) (fun y=>al.length - y.1) ?_ (0,t) ⟨by simp,by simpa [Bx] using hok⟩
   clear hok hi hlt hik
   rintro ⟨i,t⟩ ⟨hi,hok⟩ ih
   simp only at hi hok
   by_cases hlt:i < al.length
   · obtain ⟨a,hx⟩:=BC hlt
     have he:=Ay (enc:=Al.enc) hx
     have hw1:IntKind.i64.wrap ((i:Int)+1)=((i+1:Nat):Int):=by rw [BI (by omega) (by omega)];omega
     have hxs:=Al.Ja (AT hx)
     have hsum:Al.A2 (al.take i)+a.size+Al.A2 (al.drop (i+1))=Al.A2 al:=by
      conv=>rhs;rw [← A4 i al,Al.CA,Bb hx,Al.A2]
      omega
     have hst:Al.A2 (al.take (i+1))=Al.A2 (al.take i)+a.size:=by rw [Aw hx,Al.CA];simp [Al.A2]
     have hwn:IntKind.i64.wrap (((n+Ex.A2 ks+Al.A2 (al.take i):Nat):Int)+1)=((n+Ex.A2 ks+Al.A2 (al.take i)+1:Nat):Int):=A6 (by omega)
     have hks:Bx sc (al.take (i+1))=Bx sc (al.take i)++S3 a sc:=by
      rw [Aw hx,S4];simp [Bx]
     have hall:B7 (.mk o nm u ns ks al) sc=(((.mk o nm u ns ks al:Ex),sc)::(Bi o nm ns sc 0 ks++Bx sc (al.take (i+1))))++Bx sc (al.drop (i+1)):=by
      rw [hpre,Ad,Ag,← S4,A4]
     have hlen:(((.mk o nm u ns ks al:Ex),sc)::(Bi o nm ns sc 0 ks++Bx sc (al.take i))).length=1+Ex.A2 ks+Al.A2 (al.take i):=by
      rw [A5,AS,FF,H2];omega
     have happ:=VW (vis:=vis) _ (S3 a sc) s t hok
     rw [Ad,Ag,← hks,hlen] at happ
     obtain ⟨ac,av,x⟩:=a
     rw [S3] at happ hks
     simp only [Al.size] at hxs hst hsum
     have hvx:bN vis hS j (.fn fid first caps) fid first caps (B7 x (sc++av)):=fun y hy=>hvis y (by
      rw [hall,A3,Bf,A3,hks,A3];exact .inl (.inr (.inr (.inr hy))))
     have hc:=ihN x (sc++av) (n+Ex.A2 ks+Al.A2 (al.take i)+1) t (by omega) (by omega) hvx
     have hws:=PV sc av
     generalize sc++av=sci at hc happ hvx hks hws
     have hset:∀m:Nat,(WH hS j (.fn fid first caps) (n+Ex.A2 ks+Al.A2 (al.take i)) t).AP j [.d (.int .i64 (m:Int)),.fn fid first caps]=WH hS j (.fn fid first caps) m t:=fun m=>by simp only [WH,F5]
     rcases hrx:Gl vis (B7 x sci) t with ⟨_|⟨k,c⟩,t'⟩
     · have hc:AM Tryz.prog 63 [.gp j 0,exA x,.d (bdL sci)] (WH hS j (.fn fid first caps) (n+Ex.A2 ks+Al.A2 (al.take i)+1) t) (fun v σ'=>v= .d (.int .i64 0)∧σ'=WH hS j (.fn fid first caps) (n+Ex.A2 ks+Al.A2 (al.take (i+1))) t'):=hc.mono (by
        intro v σ' h
        simp only [WQ,hrx] at h
        rw [JT] at h
        obtain ⟨rfl,rfl⟩:=h
        have:=Ex.size_pos x
        refine ⟨rfl,?_⟩
        congr 1;omega)
       rw [hrx] at happ
       simp only [Option.map_none] at happ
       obtain ⟨xo,xn,xu,xs,xk,xa⟩:=x
       simp only [Al.A7,Ex.A7,exA,AI,AO] at he hc
       (repeat' (first|refine Run.ct rfl ?_|((first|refine Run.reg mixed ?_|refine Run.AD ?_|(refine AJ.mk rfl hc ?_;rintro _ _ ⟨rfl,rfl⟩)|refine AJ.det (hws _) ?_)<;>try simp -implicitDefEqProofs only [A8 hlt,he,hblk,hwn,hset,hw1,go_sem])|(refine ⟨fun h=>?_,fun h=>?_⟩<;>first|(cases h;done)|try simp only [h])|fail))
       exact ih (i+1,t') ⟨by simp only;omega,happ⟩ (by simp only;omega)
     · have hc:AM Tryz.prog 63 [.gp j 0,exA x,.d (bdL sci)] (WH hS j (.fn fid first caps) (n+Ex.A2 ks+Al.A2 (al.take i)+1) t) (fun v σ'=>v= .d (.int .i64 c)∧σ'=WH hS j (.fn fid first caps) (n+(k+(1+Ex.A2 ks+Al.A2 (al.take i)))) t'∧c≠0):=hc.mono (by
        intro v σ' h
        simp only [WQ,hrx] at h
        obtain ⟨hc0,rfl,rfl⟩:=h
        refine ⟨rfl,?_,hc0⟩
        congr 1;omega)
       rw [hrx] at happ
       simp only [Bn] at happ
       have hc0:c≠0:=UB _ _ _ _ hrx
       have hne:(c != 0)=true:=by simpa using hc0
       obtain ⟨xo,xn,xu,xs,xk,xa⟩:=x
       simp only [Al.A7,Ex.A7,exA,AI,AO] at he hc
       (repeat' (first|refine Run.ct rfl ?_|((first|refine Run.reg mixed ?_|refine Run.AD ?_|refine Run.Fu EA (AF.le_refl _) ?_|(refine AJ.mk rfl hc ?_;rintro _ _ ⟨rfl,rfl,_⟩)|refine AJ.det (hws _) ?_)<;>try simp -implicitDefEqProofs only [A8 hlt,he,hblk,hwn,hset,hw1,hne,go_sem])|fail))
       exact hfail _ _ _ _ _ hall hc0 happ
   · rw [AH (by omega)] at hok
     have hia:al.take i=al:=AH (by omega)
     (repeat' (first|refine Run.ct rfl ?_|((first|refine Run.reg mixed ?_|refine Run.AD ?_|refine Run.Fu EA (AF.le_refl _) ?_)<;>try simp -implicitDefEqProofs only [Bd hlt,go_sem])|fail))
     rw [← hV,WQ,hpre,hok,hia]
     refine ⟨rfl,?_⟩
     congr 1
     rw [A5,AS,FF,H2];omega
end Go.Ab
