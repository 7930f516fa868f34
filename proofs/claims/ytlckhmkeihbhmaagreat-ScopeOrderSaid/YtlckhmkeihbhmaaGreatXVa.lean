/- Scope: names that are bound, functions, repeated names. Scope: the walk over an expression. Conditions: none. -/
import Derived.Test.YtlckhmkeihbhmaaGreatXUj
set_option linter.unusedSimpArgs false
set_option linter.unusedVariables false
set_option maxRecDepth 4000
set_option maxHeartbeats 8000000
open List renaming filter_append→Ki,append_nil→Ao,length_map→AA,append_assoc→Ae,take_of_length_le→AK,mem_of_getElem?→AT,map_cons→AG,map_nil→AQ,nil_append→Ay,cons_append→Aa,contains_iff_mem→A8,mem_append→A7,mem_singleton→Bd,take_append_drop→A3,length_cons→A9,length_append→AS,mem_cons_self→BG,length_take→Ai,mem_cons→Bc
open Bool renaming false_or→DL,eq_iff_iff→Af,or_eq_true→DU,eq_false_iff→CU,and_eq_true→AP,not_not→JN
open Prod.mk renaming injEq→B4
open Option renaming map_eq_some_iff→AD,map_some→Bs
open Option.some renaming injEq→AJ
open Nat renaming min_eq_left→CO,zero_add→Am
open Int renaming reduceBEq→AU
namespace Go.Ab
open Go.Proofs
def bdD:List Str→DV
 |[]=>.Es
 |s::l=>.ptr [.str s,bdD l]
def bdL (sc:List Str):DV:=bdD ((sc.filter (fun s=>!(s==[]))).reverse)
theorem eH (sc:List Str) (s:Str) (h:(s==[])=false):bdL (sc++[s])= .ptr [.str s,bdL sc]:=by
 have h1:List.filter (fun s=>!(s==[])) [s]=[s]:=by rw [List.filter_cons,h];rfl
 rw [bdL,Ki,h1,List.reverse_append];rfl
theorem XI (sc:List Str) (s:Str) (h:(s==[])=true):bdL (sc++[s])=bdL sc:=by
 have h1:List.filter (fun s=>!(s==[])) [s]=[]:=by rw [List.filter_cons,h];rfl
 rw [bdL,Ki,h1,Ao];rfl
theorem lS:∀(l:List Str) (s:Str) (σ:AF),AL Tryz.prog 32 [.d (bdD l),.d (.str s)] σ (fun v σ'=>v= .d (.bool (l.contains s))∧σ'=σ):=by
 intro l s σ
 refine Oz (by simp) ?_
 rw [BX]
 (repeat' (first|refine Run.ct rfl ?_|((first|refine Run.reg mixed ?_|refine Run.AE ?_)<;>try simp -implicitDefEqProofs only [go_sem])|fail))
 refine Run.BD ?_
 have hx:∀l0:List Str,l0.contains s=l.contains s→Run DB (fun v σ'=>v= .d (.bool (l.contains s))∧σ'=σ) [.again H2,.blk 0,.code (.seq (.reg [⟨some 4,.mv (.c (.d (.bool false))),none⟩] [4]) .ret)] (put 0 (.d (bdD l0)) (put 1 (.d (.str s)) U)) E σ:=by
  intro l0
  induction l0 with
  |nil=>
   intro h
   refine Run.again ?_
   simp only [bdD]
   (repeat' (first|refine Run.ct rfl ?_|((first|refine Run.reg mixed ?_|refine Run.AE ?_|refine Run.A1 G8 (AF.le_refl _) ?_)<;>try simp -implicitDefEqProofs only [go_sem])|fail))
   rw [← h];rfl
  |cons x l0 ih=>
   intro h
   refine Run.again ?_
   simp only [bdD]
   rw [List.contains_cons] at h
   cases hs:(x==s) with
   |true=>
    (repeat' (first|refine Run.ct rfl ?_|((first|refine Run.reg mixed ?_|refine Run.AE ?_|refine Run.A1 G8 (AF.le_refl _) ?_)<;>try simp -implicitDefEqProofs only [BM,hs,go_sem])|fail))
    rw [← h,BEq.comm,hs];rfl
   |false=>
    rw [show (s==x)=(x==s) from BEq.comm,hs,DL] at h
    (repeat' (first|refine Run.ct rfl ?_|((first|refine Run.reg mixed ?_|refine Run.AE ?_)<;>try simp -implicitDefEqProofs only [BM,hs,go_sem])|fail))
    exact ih h
 exact hx l rfl
theorem W6 (sc:List Str) (s:Str) (hs:s≠[]) (σ:AF):AL Tryz.prog 32 [.d (bdL sc),.d (.str s)] σ (fun v σ'=>v= .d (.bool (sc.contains s))∧σ'=σ):=
 (lS _ s σ).mono (by
   rintro v σ' ⟨rfl,rfl⟩
   refine ⟨?_,rfl⟩
   congr 2
   rw [Af];simp [hs])
theorem Ol (sc ns:List Str) (σ:AF):AL Tryz.prog 64 [.d (bdL sc),.d (.sl (ns.map Aw))] σ (fun v σ'=>v= .d (bdL (sc++ns))∧σ'=σ):=by
 refine OE (by simp) ?_
 rw [BX]
 refine Run.slot 1 (fun hb0=>?_)
 simp only [EX,Nat.reduceEqDiff,if_false,if_true,AV.FY,AA] at hb0
 (repeat' (first|refine Run.ct rfl ?_|((first|refine Run.reg mixed ?_|refine Run.AE ?_)<;>try simp -implicitDefEqProofs only [AA,go_sem])|fail))
 refine Run.BD ?_
 refine Run.BK ((fun (a7:AV) (a8:AV)=>fun (i:Nat)=>put 0 (.d (bdL (sc++ns.take i))) (put 7 a7 (put 8 a8 (put 9 (.d (.int .i64 i)) U)))) _ _) (fun _=>E) (fun _=>σ) (fun i=>i≤ns.length) (fun i=>ns.length - i) ?_ 0 (by simp)|>(fun h=>by simpa using h)
 rintro i hi ih
 by_cases hlt:i < ns.length
 · obtain ⟨x,hx⟩:=BC hlt
   have he:=BA (enc:=Aw) hx
   simp only [Aw] at he
   have hw1:IntKind.i64.wrap ((i:Int)+1)=((i+1:Nat):Int):=by rw [BL (by omega) (by omega)];omega
   have hi1:=ih (i+1) (by omega) (by omega)
   simp only at hi1
   rw [BH hx,← Ae] at hi1
   cases hs:(x==[]) with
   |true=>
    rw [XI _ _ hs] at hi1
    (repeat' (first|refine Run.ct rfl ?_|((first|refine Run.reg mixed ?_|refine Run.AE ?_)<;>try simp -implicitDefEqProofs only [Ac hlt,he,hw1,Cb,hs,go_sem])|fail))
    exact hi1
   |false=>
    rw [eH _ _ hs] at hi1
    (repeat' (first|refine Run.ct rfl ?_|((first|refine Run.reg mixed ?_|refine Run.AE ?_)<;>try simp -implicitDefEqProofs only [Ac hlt,he,hw1,Cb,hs,go_sem])|fail))
    exact hi1
 · (repeat' (first|refine Run.ct rfl ?_|((first|refine Run.reg mixed ?_|refine Run.AE ?_|refine Run.A1 JC (AF.le_refl _) ?_)<;>try simp -implicitDefEqProofs only [Bi hlt,go_sem])|fail))
   rw [AK (by omega)]
theorem LM {fid:FuncId} {caps:List AV} (hb:C2 Tryz.prog fid=true) (hcp:caps.all AV.BY=true) (p:FE→Bool) (l:List FE) (σ:AF) (hf:∀x∈l,AL Tryz.prog fid ((feA x)::caps) σ (fun v σ'=>v= .d (.bool (p x))∧σ'=σ)):
 AL Tryz.prog 65 [.d (.sl (l.map FE.enc)),.fn fid [] caps] σ (fun v σ'=>v= .d (.int .i64 (E9 (l.findIdx? p)))∧σ'=σ):=by
 refine I6 (by simp) ?_
 rw [BX]
 refine Run.slot 0 (fun hb0=>?_)
 simp only [EX,if_true,AV.FY,AA] at hb0
 (repeat' (first|refine Run.ct rfl ?_|((first|refine Run.reg mixed ?_|refine Run.AE ?_)<;>try simp -implicitDefEqProofs only [AA,go_sem])|fail))
 refine Run.BD ?_
 refine Run.BK ((fun (a0:AV) (a1:AV) (a7:AV)=>fun (i:Nat)=>put 0 a0 (put 1 a1 (put 7 a7 (put 8 (.d (.int .i64 i)) U)))) _ _ _) (fun _=>E) (fun _=>σ) (fun i=>i≤l.length∧∀x∈l.take i,p x=false) (fun i=>l.length - i) ?_ 0 ⟨by simp,by simp⟩
 rintro i ⟨hi,hno⟩ ih
 by_cases hlt:i < l.length
 · obtain ⟨x,hx⟩:=BC hlt
   have he:=BA (enc:=FE.enc) hx
   have hw1:IntKind.i64.wrap ((i:Int)+1)=((i+1:Nat):Int):=by rw [BL (by omega) (by omega)];omega
   have hc:=hf x (AT hx)
   obtain ⟨nm,ps,o,n,u,ns,ks,al⟩:=x
   simp only [FE.enc,Ex.A4,feA,AG,AQ] at he hc
   cases hp:p (⟨nm,ps,.mk o n u ns ks al⟩) with
   |true=>
    rw [hp] at hc
    (repeat' (first|refine Run.ct rfl ?_|((first|refine Run.reg mixed ?_|refine Run.AE ?_|refine Run.A1 D1 (AF.le_refl _) ?_|(refine ⟨fid,[],caps,rfl,hb,AI.det hc ?_ (by simp [hcp,Fb,DM])⟩))<;>try simp -implicitDefEqProofs only [Ac hlt,he,hw1,go_sem])|fail))
    rw [DX hno hx hp];rfl
   |false=>
    rw [hp] at hc
    (repeat' (first|refine Run.ct rfl ?_|((first|refine Run.reg mixed ?_|refine Run.AE ?_|(refine ⟨fid,[],caps,rfl,hb,AI.det hc ?_ (by simp [hcp,Fb,DM])⟩))<;>try simp -implicitDefEqProofs only [Ac hlt,he,hw1,go_sem])|fail))
    exact ih (i+1) ⟨by omega,Eb hno hx hp⟩ (by omega)
 · (repeat' (first|refine Run.ct rfl ?_|((first|refine Run.reg mixed ?_|refine Run.AE ?_|refine Run.A1 D1 (AF.le_refl _) ?_)<;>try simp -implicitDefEqProofs only [Bi hlt,go_sem])|fail))
   rw [AK (by omega)] at hno
   rw [DY hno];rfl
theorem KB (l:List Str) (s:Str):l.findIdx? (fun x=>x==s)=Ct l s:=by
 induction l with
 |nil=>rfl
 |cons x l ih=>
  rw [List.findIdx?_cons,Ct]
  split
  · rfl
  · rw [ih]
theorem X9 (fs:List FE) (s:Str):fs.findIdx? (fun x=>x.name==s)=Ct (CX fs) s:=by
 rw [← KB,CX,List.findIdx?_map];rfl
theorem VO (f:FE) (s:Str) (j:Nat) (σ:AF) (hj:σ.blk j=some [.d (.str s)]):AL Tryz.prog 66 [feA f,.gp j 0] σ (fun v σ'=>v= .d (.bool (f.name==s))∧σ'=σ):=by
 refine Pz (by simp) ?_
 rw [BX]
 obtain ⟨nm,ps,o,n,u,ns,ks,al⟩:=f
 simp only [FE.enc,Ex.A4,feA,AG,AQ]
 (repeat' (first|refine Run.ct rfl ?_|((first|refine Run.reg mixed ?_|refine Run.AE ?_|refine Run.A1 KT (AF.le_refl _) ?_)<;>try simp -implicitDefEqProofs only [hj,BM,go_sem])|fail))
theorem Nx (p:Pg) (s:Str) (σ:AF):AL Tryz.prog 33 [pgA p,.d (.str s)] σ (fun v σ'=>v= .d (.int .i64 (E9 (Ct (CX p.NP) s)))∧σ'=σ):=by
 refine Re (by simp) ?_
 rw [BX]
 obtain ⟨ds,fs⟩:=p
 simp only [Pg.enc,pgA,AG,AQ]
 (repeat' (first|refine Run.ct rfl ?_|((first|refine Run.reg mixed ?_|refine Run.AE ?_)<;>try simp -implicitDefEqProofs only [go_sem])|fail))
 intro j hj
 have hle:=Bl (cs:=[AV.d (.str s)]) hj
 have hc:=LM (fid:=66) (caps:=[.gp j 0]) (by kernel_rfl) rfl (fun x=>x.name==s) fs (σ.AO j [.d (.str s)]) (fun x _=>VO x s j _ (by simp only [AM,if_true]))
 rw [X9] at hc
 (repeat' (first|refine Run.ct rfl ?_|((first|refine Run.reg mixed ?_|refine Run.AE ?_|(refine Run.A1 Ly (σ2:=σ) hle ?_)|refine AI.det (hc) ?_)<;>try simp -implicitDefEqProofs only [go_sem])|fail))
theorem Mw (l:List Str) (s:Str) (σ:AF):AL Tryz.prog 101 [.d (.sl (l.map Aw)),.d (.str s)] σ (fun v σ'=>v= .d (.int .i64 (E9 (Ct l s)))∧σ'=σ):=by
 refine NS (by simp) ?_
 rw [BX,← KB]
 refine Run.slot 0 (fun hb0=>?_)
 simp only [EX,if_true,AV.FY,AA] at hb0
 (repeat' (first|refine Run.ct rfl ?_|((first|refine Run.reg mixed ?_|refine Run.AE ?_)<;>try simp -implicitDefEqProofs only [AA,go_sem])|fail))
 refine Run.BD ?_
 refine Run.BK ((fun (a0:AV) (a1:AV) (a7:AV)=>fun (i:Nat)=>put 0 a0 (put 1 a1 (put 7 a7 (put 8 (.d (.int .i64 i)) U)))) _ _ _) (fun _=>E) (fun _=>σ) (fun i=>i≤l.length∧∀x∈l.take i,(x==s)=false) (fun i=>l.length - i) ?_ 0 ⟨by simp,by simp⟩
 rintro i ⟨hi,hno⟩ ih
 by_cases hlt:i < l.length
 · obtain ⟨x,hx⟩:=BC hlt
   have he:=BA (enc:=Aw) hx
   simp only [Aw] at he
   have hw1:IntKind.i64.wrap ((i:Int)+1)=((i+1:Nat):Int):=by rw [BL (by omega) (by omega)];omega
   cases hp:(x==s) with
   |true=>
    have hp':(s==x)=true:=by rw [BEq.comm];exact hp
    (repeat' (first|refine Run.ct rfl ?_|((first|refine Run.reg mixed ?_|refine Run.AE ?_|refine Run.A1 Fa (AF.le_refl _) ?_)<;>try simp -implicitDefEqProofs only [Ac hlt,he,hw1,BM,hp',go_sem])|fail))
    rw [DX (p:=fun x=>x==s) hno hx hp];rfl
   |false=>
    have hp':(s==x)=false:=by rw [BEq.comm];exact hp
    (repeat' (first|refine Run.ct rfl ?_|((first|refine Run.reg mixed ?_|refine Run.AE ?_)<;>try simp -implicitDefEqProofs only [Ac hlt,he,hw1,BM,hp',go_sem])|fail))
    exact ih (i+1) ⟨by omega,Eb (p:=fun x=>x==s) hno hx hp⟩ (by omega)
 · (repeat' (first|refine Run.ct rfl ?_|((first|refine Run.reg mixed ?_|refine Run.AE ?_|refine Run.A1 Fa (AF.le_refl _) ?_)<;>try simp -implicitDefEqProofs only [Bi hlt,go_sem])|fail))
   rw [AK (by omega)] at hno
   rw [DY (p:=fun x=>x==s) hno];rfl
theorem GI (l:List Str) (s:Str):(Ct l s).isSome=l.contains s:=by
 induction l with
 |nil=>rfl
 |cons x l ih=>
  rw [Ct,List.contains_cons]
  cases h:(x==s) with
  |true=>rw [BEq.comm,h];rfl
  |false=>rw [show (s==x)=(x==s) from BEq.comm,h];simp [ih]
theorem Pl (l:List Str) (s:Str) (σ:AF):AL Tryz.prog 73 [.d (.sl (l.map Aw)),.d (.str s)] σ (fun v σ'=>v= .d (.bool (l.contains s))∧σ'=σ):=by
 refine L1 (by simp) ?_
 rw [BX]
 (repeat' (first|refine Run.ct rfl ?_|((first|refine Run.reg mixed ?_|refine Run.AE ?_|refine Run.A1 Gg (AF.le_refl _) ?_|refine AI.det (Mw l s σ) ?_)<;>try simp -implicitDefEqProofs only [Od,GI,go_sem])|fail))
theorem O3 (l:List Str) (x:Str):CA (l++[x])=(CA l||(!(x==[])&&l.contains x)):=by
 induction l with
 |nil=>
  have:CA [x]=false:=by rw [CA,CA];simp
  rw [Ay,this];simp [CA]
 |cons y l ih=>
  rw [Aa,CA,ih,CA,List.contains_cons]
  have h1:(l++[x]).contains y=(l.contains y||(x==y)):=by
   rw [Af];simp only [A8,A7,Bd,DU,beq_iff_eq]
   constructor
   · rintro (h|h)
     · exact .inl h
     · exact .inr h.symm
   · rintro (h|h)
     · exact .inl h
     · exact .inr h.symm
  rw [h1]
  by_cases hxy:x=y
  · subst hxy
    have h2:(x==x)=true:=by simp
    rw [h2]
    generalize (x==([]:Str))=b1
    generalize CA l=b2
    generalize l.contains x=b3
    cases b1<;>cases b2<;>cases b3<;>rfl
  · have h2:(x==y)=false:=by simpa using hxy
    rw [h2]
    generalize (x==([]:Str))=b1
    generalize (y==([]:Str))=b4
    generalize CA l=b2
    generalize l.contains x=b3
    generalize l.contains y=b5
    cases b1<;>cases b2<;>cases b3<;>cases b4<;>cases b5<;>rfl
theorem S4 {l:List Str} {i:Nat} (h:CA (l.take i)=true):CA l=true:=by
 rw [← A3 i l]
 generalize l.drop i=m
 generalize l.take i=k at h
 induction m generalizing k with
 |nil=>simpa using h
 |cons x m ih=>
  rw [show k++x::m=(k++[x])++m by simp]
  exact ih (k++[x]) (by rw [O3,h];rfl)
theorem gX {l:List Str} {i:Nat} (h:i≤l.length):Z8 (l.map Aw) none (some (.d (.int .i64 (i:Int)))) none 1=some (.d (.sl ((l.take i).map Aw))):=by
 simp [Z8,Sb,PC,h,List.map_take]
theorem LG (l:List Str) (σ:AF):AL Tryz.prog 45 [.d (.sl (l.map Aw))] σ (fun v σ'=>v= .d (.bool (CA l))∧σ'=σ):=by
 refine Rf (by simp) ?_
 rw [Bj]
 refine Run.slot 0 (fun hb0=>?_)
 simp only [EX,if_true,AV.FY,AA] at hb0
 (repeat' (first|refine Run.ct rfl ?_|((first|refine Run.reg mixed ?_|refine Run.AE ?_)<;>try simp -implicitDefEqProofs only [AA,go_sem])|fail))
 refine Run.BD ?_
 refine Run.BK ((fun (a0:AV) (a5:AV) (a6:AV)=>fun (i:Nat)=>put 0 a0 (put 5 a5 (put 6 a6 (put 7 (.d (.int .i64 i)) U)))) _ _ _) (fun _=>E) (fun _=>σ) (fun i=>i≤l.length∧CA (l.take i)=false) (fun i=>l.length - i) ?_ 0 ⟨by simp,by simp [CA]⟩
 rintro i ⟨hi,hno⟩ ih
 by_cases hlt:i < l.length
 · obtain ⟨x,hx⟩:=BC hlt
   have he:=BA (enc:=Aw) hx
   simp only [Aw] at he
   have hw1:IntKind.i64.wrap ((i:Int)+1)=((i+1:Nat):Int):=by rw [BL (by omega) (by omega)];omega
   have hs:=gX hi
   have hsn:=O3 (l.take i) x
   rw [← BH hx,hno,DL] at hsn
   cases h0:(x==[]) with
   |true=>
    rw [h0] at hsn
    (repeat' (first|refine Run.ct rfl ?_|((first|refine Run.reg mixed ?_|refine Run.AE ?_)<;>try simp -implicitDefEqProofs only [Ac hlt,he,hw1,Cb,h0,go_sem])|fail))
    exact ih (i+1) ⟨by omega,by simpa using hsn⟩ (by omega)
   |false=>
    rw [h0] at hsn
    have hc:=Pl (l.take i) x σ
    cases hct:(l.take i).contains x with
    |true=>
     rw [hct] at hc hsn
     (repeat' (first|refine Run.ct rfl ?_|((first|refine Run.reg mixed ?_|refine Run.AE ?_|refine Run.A1 I4 (AF.le_refl _) ?_|refine AI.det (hc) ?_)<;>try simp -implicitDefEqProofs only [Ac hlt,he,hw1,Cb,h0,hs,go_sem])|fail))
     rw [S4 (i:=i+1) (by simpa using hsn)]
    |false=>
     rw [hct] at hc hsn
     (repeat' (first|refine Run.ct rfl ?_|((first|refine Run.reg mixed ?_|refine Run.AE ?_|refine AI.det (hc) ?_)<;>try simp -implicitDefEqProofs only [Ac hlt,he,hw1,Cb,h0,hs,go_sem])|fail))
     exact ih (i+1) ⟨by omega,by simpa using hsn⟩ (by omega)
 · (repeat' (first|refine Run.ct rfl ?_|((first|refine Run.reg mixed ?_|refine Run.AE ?_|refine Run.A1 I4 (AF.le_refl _) ?_)<;>try simp -implicitDefEqProofs only [Bi hlt,go_sem])|fail))
   rw [AK (by omega)] at hno
   rw [hno]
end Go.Ab
namespace Go.Ab
open Go.Proofs
def G9 {S X:Type} (vis:S→X→Int×S):List X→S→Option (Nat×Int)×S
 |[],s=>(none,s)
 |x::l,s=>if (vis s x).1=0 then (((G9 vis l (vis s x).2).1.map fun y=>(y.1+1,y.2)),(G9 vis l (vis s x).2).2) else (some (0,(vis s x).1),(vis s x).2)
theorem Ua {S X:Type} {vis:S→X→Int×S}:∀(l m:List X) (s s':S),G9 vis l s=(none,s')→G9 vis (l++m) s=(((G9 vis m s').1.map fun y=>(y.1+l.length,y.2)),(G9 vis m s').2)
 |[],m,s,s',h=>by
  simp only [G9,B4,true_and] at h
  subst h
  simp
 |x::l,m,s,s',h=>by
  simp only [G9] at h
  split at h
  · rename_i h0
    simp only [B4,Option.map_eq_none_iff] at h
    have:=Ua l m (vis s x).2 s' (Prod.ext h.1 h.2)
    rw [Aa,G9,if_pos h0,this]
    simp only [Option.map_map,A9,B4,and_true]
    congr 1
  · simp at h
theorem WD {S X:Type} {vis:S→X→Int×S}:∀(l m:List X) (s s':S) (r:Nat×Int),G9 vis l s=(some r,s')→G9 vis (l++m) s=(some r,s')
 |[],m,s,s',r,h=>by simp [G9] at h
 |x::l,m,s,s',r,h=>by
  simp only [G9] at h
  split at h
  · rename_i h0
    simp only [B4,AD] at h
    obtain ⟨⟨y,hy,rfl⟩,h2⟩:=h
    have:=WD l m (vis s x).2 s' y (Prod.ext hy h2)
    rw [Aa,G9,if_pos h0,this];rfl
  · rename_i h0
    rw [Aa,G9,if_neg h0];exact h
theorem TO {S X:Type} {vis:S→X→Int×S}:∀(l:List X) (s s':S) (r:Nat×Int),G9 vis l s=(some r,s')→r.2≠0
 |[],s,s',r,h=>by simp [G9] at h
 |x::l,s,s',r,h=>by
  simp only [G9] at h
  split at h
  · simp only [B4,AD] at h
    obtain ⟨⟨y,hy,rfl⟩,h2⟩:=h
    exact TO l (vis s x).2 s' y (Prod.ext hy h2)
  · rename_i h0
    simp only [B4,AJ] at h
    rw [← h.1];exact h0
theorem QH (o:Int) (n:Str) (ns sc:List Str) (k:Ex):∀(l:List Ex) (i:Nat),Bf o n ns sc i (l++[k])=Bf o n ns sc i l++Ba k (GJ o n ns sc (i+l.length))
 |[],i=>by simp [Bf]
 |x::l,i=>by
  rw [Aa,Bf,Bf,QH o n ns sc k l (i+1),Ae,A9,show i+1+l.length=i+(l.length+1) by omega]
theorem Rs (o:Int) (n:Str) (ns sc:List Str) (m:List Ex):∀(l:List Ex) (i:Nat),Bf o n ns sc i (l++m)=Bf o n ns sc i l++Bf o n ns sc (i+l.length) m
 |[],i=>by simp [Bf]
 |x::l,i=>by
  rw [Aa,Bf,Bf,Rs o n ns sc m l (i+1),Ae,A9,show i+1+l.length=i+(l.length+1) by omega]
theorem Rr (sc:List Str) (m:List Al):∀l:List Al,Bw sc (l++m)=Bw sc l++Bw sc m
 |[]=>by simp [Bw]
 |x::l=>by rw [Aa,Bw,Bw,Rr sc m l,Ae]
mutual
theorem K4:∀(e:Ex) (sc:List Str),(Ba e sc).length=e.size
 | .mk o n u ns ks al,sc=>by rw [Ba,A9,AS,Et o n ns sc 0 ks,HN sc al,Ex.size];omega
theorem Et (o:Int) (n:Str) (ns sc:List Str):∀(i:Nat) (l:List Ex),(Bf o n ns sc i l).length=Ex.A2 l
 |_,[]=>by simp [Bf,Ex.A2]
 |i,k::l=>by rw [Bf,AS,K4 k _,Et o n ns sc (i+1) l,Ex.A2]
theorem gK:∀(a:Al) (sc:List Str),(Rp a sc).length=a.size
 | .mk c vs b,sc=>by rw [Rp,K4 b _,Al.size]
theorem HN (sc:List Str):∀l:List Al,(Bw sc l).length=Al.A2 l
 |[]=>by simp [Bw,Al.A2]
 |a::l=>by rw [Bw,AS,gK a sc,HN sc l,Al.A2]
end
section
variable {S:Type} (vis:S→Ex×List Str→Int×S) (hS:S→AF) (j:Nat) (fv:AV)
def WH (n:Nat) (s:S):AF:=(hS s).AO j [.d (.int .i64 n),fv]
def WQ (l:List (Ex×List Str)) (n:Nat) (s:S) (v:AV) (σ':AF):Prop:=
 match G9 vis l s with
 |(none,s')=>v= .d (.int .i64 0)∧σ'=WH hS j fv (n+l.length - 1) s'
 |(some (k,c),s')=>c≠0∧v= .d (.int .i64 c)∧σ'=WH hS j fv (n+k) s'
def Zm (fid:FuncId) (first caps:List AV) (l:List (Ex×List Str)):Prop:=
 ∀x∈l,∀(s:S) (n:Nat),AL Tryz.prog fid (first++[exA x.1,.d (bdL x.2)]++caps) (WH hS j fv n s) (fun v σ'=>v= .d (.int .i64 (vis s x).1)∧σ'=WH hS j fv n (vis s x).2)
end
theorem lU (o:Int) (n:Str) (ns sc:List Str) (i:Nat):bdL (GJ o n ns sc i)=bdL (if (o=7∨o=17)∧i=1 then sc++[n] else if (o=8∧i=1)∨o=11 then sc++ns else sc):=by
 unfold GJ
 split
 · split
   · rename_i h;rw [XI _ _ (by simp [h])]
   · rfl
 · rfl
theorem jZ {S:Type} (vis:S→Ex×List Str→Int×S) (hS:S→AF) (j:Nat) (fid:FuncId) (first caps:List AV) (hb:C2 Tryz.prog fid=true) (hfi:first.all AV.BY=true) (hca:caps.all AV.BY=true):
 ∀(N:Nat) (e:Ex) (sc:List Str) (n:Nat) (s:S),e.size≤N→n+e.size≤1000000000→Zm vis hS j (.fn fid first caps) fid first caps (Ba e sc)→
 AL Tryz.prog 63 [.gp j 0,exA e,.d (bdL sc)] (WH hS j (.fn fid first caps) n s) (WQ vis hS j (.fn fid first caps) (Ba e sc) n s):=by
 intro N
 induction N with
 |zero=>intro e sc n s h;have:=Ex.size_pos e;omega
 |succ N ihN=>
 intro e sc n s hN hsz hvis
 have hcall:=hvis (e,sc) (by cases e;rw [Ba];exact BG ..) s n
 obtain ⟨o,nm,u,ns,ks,al⟩:=e
 simp only [Ex.size] at hN hsz
 have hkl:=Ex.C8 ks
 have hal:=Al.C8 al
 refine PA (by simp) ?_
 rw [LO,exA,Ex.A4]
 simp only [exA,Ex.A4,AG,AQ] at hcall
 generalize hV:WQ vis hS j (.fn fid first caps) (Ba (.mk o nm u ns ks al) sc) n s=V
 have hnl:(first++[AV.agg [.d (.int .i64 o),.d (.str nm),.d (.int .i64 u),.d (.sl (ns.map Aw)),.d (.sl (ks.map Ex.enc)),.d (.sl (al.map Al.enc))],.d (bdL sc)]++caps).all AV.BY=true:=by
  simp [hfi,hca,Fb,DM]
 have hblk:∀n s,(WH hS j (.fn fid first caps) n s).blk j=some [.d (.int .i64 n),.fn fid first caps]:=fun n s=>by simp only [WH,AM,if_true]
 cases hv:decide ((vis s (.mk o nm u ns ks al,sc)).1=0) with
 |false=>
  have hv':(vis s (.mk o nm u ns ks al,sc)).1≠0:=by simpa using hv
  have hne:((vis s (.mk o nm u ns ks al,sc)).1 != 0)=true:=by simpa using hv'
  (repeat' (first|refine Run.ct rfl ?_|((first|refine Run.reg mixed ?_|refine Run.AE ?_|refine Run.Fp Du (AF.le_refl _) ?_|(refine ⟨fid,first,caps,rfl,hb,AI.mk hnl hcall ?_⟩;rintro _ _ ⟨rfl,rfl⟩))<;>try simp -implicitDefEqProofs only [hblk,hne,go_sem])|fail))
  rw [← hV,WQ,Ba,G9,if_neg hv']
  exact ⟨hv',rfl,rfl⟩
 |true=>
 have hv':(vis s (.mk o nm u ns ks al,sc)).1=0:=by simpa using hv
 have hne:((vis s (.mk o nm u ns ks al,sc)).1 != 0)=false:=by simp [hv']
 (repeat' (first|refine Run.ct rfl ?_|((first|refine Run.reg mixed ?_|refine Run.AE ?_|(refine ⟨fid,first,caps,rfl,hb,AI.mk hnl hcall ?_⟩;rintro _ _ ⟨rfl,rfl⟩))<;>try simp -implicitDefEqProofs only [hblk,hne,AA,go_sem])|fail))
 have hr0:G9 vis [((.mk o nm u ns ks al:Ex),sc)] s=(none,(vis s (.mk o nm u ns ks al,sc)).2):=by simp [G9,hv']
 generalize (vis s (.mk o nm u ns ks al,sc)).2=s0 at hr0 ⊢
 clear hcall hnl hv hv' hne
 have hfail:∀(l m:List (Ex×List Str)) (k:Nat) (c:Int) (s':S),Ba (.mk o nm u ns ks al) sc=l++m→c≠0→G9 vis l s=(some (k,c),s')→V (.d (.int .i64 c)) (WH hS j (.fn fid first caps) (n+k) s'):=fun l m k c s' he hc hr=>by
  rw [← hV,WQ,he,WD l m s s' (k,c) hr]
  exact ⟨hc,rfl,rfl⟩
 have hpre:Ba (.mk o nm u ns ks al) sc=((.mk o nm u ns ks al:Ex),sc)::(Bf o nm ns sc 0 ks++Bw sc al):=by rw [Ba]
 refine Run.BD ?_
 refine Run.BK ((fun (a0:AV) (a2:AV) (a4:AV) (a26:AV) (a27:AV)=>fun (y:Nat×S)=>put 0 a0 (put 2 a2 (put 4 a4 (put 26 a26 (put 27 a27 (put 28 (.d (.int .i64 y.1)) U)))))) _ _ _ _ _) (fun _=>Az 4 [.d (.int .i64 o),.d (.str nm),.d (.int .i64 u),.d (.sl (ns.map Aw)),.d (.sl (ks.map Ex.enc)),.d (.sl (al.map Al.enc))] E) (fun y=>WH hS j (.fn fid first caps) (n+Ex.A2 (ks.take y.1)) y.2)
  (fun y=>y.1≤ks.length∧G9 vis (((.mk o nm u ns ks al:Ex),sc)::Bf o nm ns sc 0 (ks.take y.1)) s=(none,y.2)) (fun y=>ks.length - y.1) ?_ (0,s0) ⟨by simp,by simpa [Bf] using hr0⟩
 rintro ⟨i,t⟩ ⟨hi,hok⟩ ih
 simp only at hi hok
 by_cases hlt:i < ks.length
 · obtain ⟨x,hx⟩:=BC hlt
   have he:=BA (enc:=Ex.enc) hx
   have hw1:IntKind.i64.wrap ((i:Int)+1)=((i+1:Nat):Int):=by rw [BL (by omega) (by omega)];omega
   have hxs:=Ex.J0 (AT hx)
   have hsum:Ex.A2 (ks.take i)+x.size+Ex.A2 (ks.drop (i+1))=Ex.A2 ks:=by
    conv=>rhs;rw [← A3 i ks,Ex.Bz,B3 hx,Ex.A2]
    omega
   have hst:Ex.A2 (ks.take (i+1))=Ex.A2 (ks.take i)+x.size:=by rw [BH hx,Ex.Bz];simp [Ex.A2]
   have hwn:IntKind.i64.wrap (((n+Ex.A2 (ks.take i):Nat):Int)+1)=((n+Ex.A2 (ks.take i)+1:Nat):Int):=A5 (by omega)
   have hks:Bf o nm ns sc 0 (ks.take (i+1))=Bf o nm ns sc 0 (ks.take i)++Ba x (GJ o nm ns sc i):=by
    rw [BH hx,QH,Ai,CO (by omega),Am]
   have hall:Ba (.mk o nm u ns ks al) sc=(((.mk o nm u ns ks al:Ex),sc)::Bf o nm ns sc 0 (ks.take (i+1)))++(Bf o nm ns sc (i+1) (ks.drop (i+1))++Bw sc al):=by
    rw [hpre,Aa,← Ae]
    congr 2
    conv=>lhs;rw [← A3 (i+1) ks,Rs,Ai,CO (by omega),Am]
   have hlen:(((.mk o nm u ns ks al:Ex),sc)::Bf o nm ns sc 0 (ks.take i)).length=1+Ex.A2 (ks.take i):=by
    rw [A9,Et];omega
   have happ:=Ua (vis:=vis) _ (Ba x (GJ o nm ns sc i)) s t hok
   rw [Aa,← hks,hlen] at happ
   have hvx:Zm vis hS j (.fn fid first caps) fid first caps (Ba x (GJ o nm ns sc i)):=fun y hy=>hvis y (by
    rw [hall,A7,Bc,hks,A7];exact .inl (.inr (.inr hy)))
   have hc:=ihN x (GJ o nm ns sc i) (n+Ex.A2 (ks.take i)+1) t (by omega) (by omega) hvx
   have hbd:=lU o nm ns sc i
   generalize hsi:GJ o nm ns sc i=sci at hc happ hbd hvx hks
   have hset:∀m:Nat,(WH hS j (.fn fid first caps) (n+Ex.A2 (ks.take i)) t).AO j [.d (.int .i64 (m:Int)),.fn fid first caps]=WH hS j (.fn fid first caps) m t:=fun m=>by simp only [WH,FU]
   rcases hrx:G9 vis (Ba x sci) t with ⟨_|⟨k,c⟩,t'⟩
   · have hc:AL Tryz.prog 63 [.gp j 0,exA x,.d (bdL sci)] (WH hS j (.fn fid first caps) (n+Ex.A2 (ks.take i)+1) t) (fun v σ'=>v= .d (.int .i64 0)∧σ'=WH hS j (.fn fid first caps) (n+Ex.A2 (ks.take (i+1))) t'):=hc.mono (by
      intro v σ' h
      simp only [WQ,hrx] at h
      rw [K4] at h
      obtain ⟨rfl,rfl⟩:=h
      have:=Ex.size_pos x
      refine ⟨rfl,?_⟩
      congr 1;omega)
     rw [hrx] at happ
     simp only [Option.map_none] at happ
     obtain ⟨xo,xn,xu,xs,xk,xa⟩:=x
     simp only [Ex.A4,exA,AG,AQ] at he hc
     (repeat' (first|refine Run.cb rfl ?_|((first|refine Run.reg mixed ?_|refine Run.AE ?_)<;>try simp -implicitDefEqProofs only [Ac hlt,he,go_sem])|fail))
     refine Run.block ?_
     (repeat' (first|refine Run.cb rfl ?_|((first|refine Run.reg mixed ?_|refine Run.AE ?_)<;>try simp -implicitDefEqProofs only [Ac hlt,he,go_sem])|fail))
     refine Run.ZI (α:=Unit) [0,2,4,9,10,26,27,28] (fun _=>put 0 (.gp j 0) (put 2 (.d (bdL sc)) (put 4 (.lp 4 0) (put 9 (.lp 9 0) (put 10 (.d (bdL sci)) (put 26 (.d (.sl (ks.map Ex.enc))) (put 27 (.d (.int .i64 ks.length)) (put 28 (.d (.int .i64 i)) U)))))))) (Az 4 [.d (.int .i64 o),.d (.str nm),.d (.int .i64 u),.d (.sl (ns.map Aw)),.d (.sl (ks.map Ex.enc)),.d (.sl (al.map Al.enc))] (Az 9 [.d (.int .i64 xo),.d (.str xn),.d (.int .i64 xu),.d (.sl (xs.map Aw)),.d (.sl (xk.map Ex.enc)),.d (.sl (xa.map Al.enc))] E)) (WH hS j (.fn fid first caps) (n+Ex.A2 (ks.take i)) t) (fun _=>True) ?_ ?_
     · rintro ⟨⟩ _
       (repeat' (first|refine Run.ct rfl ?_|((first|refine Run.reg mixed ?_|refine Run.AE ?_|(refine AI.mk rfl hc ?_;rintro _ _ ⟨rfl,rfl⟩))<;>try simp -implicitDefEqProofs only [hblk,hwn,hset,hw1,go_sem])|(refine ⟨fun h=>?_,fun h=>?_⟩<;>first|(cases h;done)|try simp only [h])|fail))
       exact ih (i+1,t') ⟨by simp only;omega,happ⟩ (by simp only;omega)
     · intro hrest
       clear hc
       have hwi:((i:Int)==1)=decide (i=1):=by rw [Af];simp only [beq_iff_eq,decide_eq_true_eq];omega
       have hws1:=Ol sc ns (WH hS j (.fn fid first caps) (n+Ex.A2 (ks.take i)) t)
       have hws2:=Ol sc [nm] (WH hS j (.fn fid first caps) (n+Ex.A2 (ks.take i)) t)
       simp only [AG,AQ,Aw] at hws2
       have key:=fun (F':Fm) (L':Lm) h1 h2=>hrest F' L' () h1 h2 trivial
       clear hrest
       by_cases h11:o=11
       · subst h11
         rw [if_neg (by omega),if_pos (.inr rfl)] at hbd
         rw [← hbd] at hws1
         (repeat' (first|(refine key _ _ (by simp only [go_sem]) (by simp only [go_sem]))|refine Run.ct rfl ?_|((first|refine Run.reg mixed ?_|refine Run.AE ?_|refine AI.det (hws1) ?_)<;>try simp -implicitDefEqProofs only [AU,go_sem])|fail))
       by_cases h8:o=8∧i=1
       · obtain ⟨rfl,rfl⟩:=h8
         rw [if_neg (by omega),if_pos (.inl ⟨rfl,rfl⟩)] at hbd
         rw [← hbd] at hws1
         (repeat' (first|(refine key _ _ (by simp only [go_sem]) (by simp only [go_sem]))|refine Run.ct rfl ?_|((first|refine Run.reg mixed ?_|refine Run.AE ?_|refine AI.det (hws1) ?_)<;>try simp -implicitDefEqProofs only [AU,hwi,go_sem])|fail))
       by_cases h7:(o=7∨o=17)∧i=1
       · rw [if_pos h7] at hbd
         rw [← hbd] at hws2
         obtain ⟨h7,rfl⟩:=h7
         rcases h7 with rfl|rfl
         all_goals (repeat' (first|(refine key _ _ (by simp only [go_sem]) (by simp only [go_sem]))|refine Run.ct rfl ?_|((first|refine Run.reg mixed ?_|refine Run.AE ?_|refine AI.det (hws2) ?_)<;>try simp -implicitDefEqProofs only [AU,hwi,go_sem])|fail))
       · rw [if_neg h7,if_neg (by omega)] at hbd
         have hA:(o==8&&decide (i=1))=false:=by
          rw [CU];intro h;exact h8 (by simpa using h)
         have hB:((o==7||o==17)&&decide (i=1))=false:=by
          rw [CU];intro h;exact h7 (by simpa using h)
         (repeat' (first|(refine key _ _ (by simp only [go_sem,hbd]) (by simp only [go_sem]))|refine Run.ct rfl ?_|(refine QP (by first|exact GV.t|exact GV.f|exact GV.st|exact GV.sf) ⟨?_,fun h=>?_,?_⟩;rotate_left;(focus ((try simp only [AP,JN] at h);simp -implicitDefEqProofs only [C1 h11,hwi,hA,hB,go_sem];first|exact Is.mk|exact Is.pv (by simp -implicitDefEqProofs only [h,Pf,↓Ef,↓Gk,↓Eg,C1 h11,hwi,hA,hB,go_sem];rfl)));(try simp -implicitDefEqProofs only [Fo,Hm,Hn,↓Ef,↓Gk,↓Eg,C1 h11,hwi,hA,hB,GN,go_sem]))|((first|refine Run.reg mixed ?_|refine Run.AE ?_)<;>try simp -implicitDefEqProofs only [Fo,Hm,Hn,↓Ef,↓Gk,↓Eg,C1 h11,hwi,hA,hB,go_sem])|fail))
   · have hc:AL Tryz.prog 63 [.gp j 0,exA x,.d (bdL sci)] (WH hS j (.fn fid first caps) (n+Ex.A2 (ks.take i)+1) t) (fun v σ'=>v= .d (.int .i64 c)∧σ'=WH hS j (.fn fid first caps) (n+(k+(1+Ex.A2 (ks.take i)))) t'∧c≠0):=hc.mono (by
      intro v σ' h
      simp only [WQ,hrx] at h
      obtain ⟨hc0,rfl,rfl⟩:=h
      refine ⟨rfl,?_,hc0⟩
      congr 1;omega)
     rw [hrx] at happ
     simp only [Bs] at happ
     have hc0:c≠0:=TO _ _ _ _ hrx
     have hne:(c != 0)=true:=by simpa using hc0
     obtain ⟨xo,xn,xu,xs,xk,xa⟩:=x
     simp only [Ex.A4,exA,AG,AQ] at he hc
     (repeat' (first|refine Run.cb rfl ?_|((first|refine Run.reg mixed ?_|refine Run.AE ?_)<;>try simp -implicitDefEqProofs only [Ac hlt,he,go_sem])|fail))
     refine Run.block ?_
     (repeat' (first|refine Run.cb rfl ?_|((first|refine Run.reg mixed ?_|refine Run.AE ?_)<;>try simp -implicitDefEqProofs only [Ac hlt,he,go_sem])|fail))
     refine Run.ZI (α:=Unit) [0,2,4,9,10,26,27,28] (fun _=>put 0 (.gp j 0) (put 2 (.d (bdL sc)) (put 4 (.lp 4 0) (put 9 (.lp 9 0) (put 10 (.d (bdL sci)) (put 26 (.d (.sl (ks.map Ex.enc))) (put 27 (.d (.int .i64 ks.length)) (put 28 (.d (.int .i64 i)) U)))))))) (Az 4 [.d (.int .i64 o),.d (.str nm),.d (.int .i64 u),.d (.sl (ns.map Aw)),.d (.sl (ks.map Ex.enc)),.d (.sl (al.map Al.enc))] (Az 9 [.d (.int .i64 xo),.d (.str xn),.d (.int .i64 xu),.d (.sl (xs.map Aw)),.d (.sl (xk.map Ex.enc)),.d (.sl (xa.map Al.enc))] E)) (WH hS j (.fn fid first caps) (n+Ex.A2 (ks.take i)) t) (fun _=>True) ?_ ?_
     · rintro ⟨⟩ _
       (repeat' (first|refine Run.ct rfl ?_|((first|refine Run.reg mixed ?_|refine Run.AE ?_|refine Run.Fp Du (AF.le_refl _) ?_|(refine AI.mk rfl hc ?_;rintro _ _ ⟨rfl,rfl,_⟩))<;>try simp -implicitDefEqProofs only [hblk,hwn,hset,hw1,hne,go_sem])|fail))
       exact hfail _ _ _ _ _ hall hc0 happ
     · intro hrest
       clear hc
       have hwi:((i:Int)==1)=decide (i=1):=by rw [Af];simp only [beq_iff_eq,decide_eq_true_eq];omega
       have hws1:=Ol sc ns (WH hS j (.fn fid first caps) (n+Ex.A2 (ks.take i)) t)
       have hws2:=Ol sc [nm] (WH hS j (.fn fid first caps) (n+Ex.A2 (ks.take i)) t)
       simp only [AG,AQ,Aw] at hws2
       have key:=fun (F':Fm) (L':Lm) h1 h2=>hrest F' L' () h1 h2 trivial
       clear hrest
       by_cases h11:o=11
       · subst h11
         rw [if_neg (by omega),if_pos (.inr rfl)] at hbd
         rw [← hbd] at hws1
         (repeat' (first|(refine key _ _ (by simp only [go_sem]) (by simp only [go_sem]))|refine Run.ct rfl ?_|((first|refine Run.reg mixed ?_|refine Run.AE ?_|refine AI.det (hws1) ?_)<;>try simp -implicitDefEqProofs only [AU,go_sem])|fail))
       by_cases h8:o=8∧i=1
       · obtain ⟨rfl,rfl⟩:=h8
         rw [if_neg (by omega),if_pos (.inl ⟨rfl,rfl⟩)] at hbd
         rw [← hbd] at hws1
         (repeat' (first|(refine key _ _ (by simp only [go_sem]) (by simp only [go_sem]))|refine Run.ct rfl ?_|((first|refine Run.reg mixed ?_|refine Run.AE ?_|refine AI.det (hws1) ?_)<;>try simp -implicitDefEqProofs only [AU,hwi,go_sem])|fail))
       by_cases h7:(o=7∨o=17)∧i=1
       · rw [if_pos h7] at hbd
         rw [← hbd] at hws2
         obtain ⟨h7,rfl⟩:=h7
         rcases h7 with rfl|rfl
         all_goals (repeat' (first|(refine key _ _ (by simp only [go_sem]) (by simp only [go_sem]))|refine Run.ct rfl ?_|((first|refine Run.reg mixed ?_|refine Run.AE ?_|refine AI.det (hws2) ?_)<;>try simp -implicitDefEqProofs only [AU,hwi,go_sem])|fail))
       · rw [if_neg h7,if_neg (by omega)] at hbd
         have hA:(o==8&&decide (i=1))=false:=by
          rw [CU];intro h;exact h8 (by simpa using h)
         have hB:((o==7||o==17)&&decide (i=1))=false:=by
          rw [CU];intro h;exact h7 (by simpa using h)
         (repeat' (first|(refine key _ _ (by simp only [go_sem,hbd]) (by simp only [go_sem]))|refine Run.ct rfl ?_|(refine QP (by first|exact GV.t|exact GV.f|exact GV.st|exact GV.sf) ⟨?_,fun h=>?_,?_⟩;rotate_left;(focus ((try simp only [AP,JN] at h);simp -implicitDefEqProofs only [C1 h11,hwi,hA,hB,go_sem];first|exact Is.mk|exact Is.pv (by simp -implicitDefEqProofs only [h,Pf,↓Ef,↓Gk,↓Eg,C1 h11,hwi,hA,hB,go_sem];rfl)));(try simp -implicitDefEqProofs only [Fo,Hm,Hn,↓Ef,↓Gk,↓Eg,C1 h11,hwi,hA,hB,GN,go_sem]))|((first|refine Run.reg mixed ?_|refine Run.AE ?_)<;>try simp -implicitDefEqProofs only [Fo,Hm,Hn,↓Ef,↓Gk,↓Eg,C1 h11,hwi,hA,hB,go_sem])|fail))
 · have hik:ks.take i=ks:=AK (by omega)
   rw [hik] at hok
   clear ih
   (repeat' (first|refine Run.ct rfl ?_|((first|refine Run.reg mixed ?_|refine Run.AE ?_)<;>try simp -implicitDefEqProofs only [Bi hlt,AA,hik,go_sem])|fail))
   refine Run.BD ?_
   refine Run.BK ((fun (a0:AV) (a2:AV) (a83:AV) (a84:AV)=>fun (y:Nat×S)=>put 0 a0 (put 2 a2 (put 83 a83 (put 84 a84 (put 85 (.d (.int .i64 y.1)) U))))) _ _ _ _) (fun _=>E) (fun y=>WH hS j (.fn fid first caps) (n+Ex.A2 ks+Al.A2 (al.take y.1)) y.2)
    (fun y=>y.1≤al.length∧G9 vis (((.mk o nm u ns ks al:Ex),sc)::(Bf o nm ns sc 0 ks++Bw sc (al.take y.1))) s=(none,y.2)) (fun y=>al.length - y.1) ?_ (0,t) ⟨by simp,by simpa [Bw] using hok⟩
   clear hok hi hlt hik
   rintro ⟨i,t⟩ ⟨hi,hok⟩ ih
   simp only at hi hok
   by_cases hlt:i < al.length
   · obtain ⟨a,hx⟩:=BC hlt
     have he:=BA (enc:=Al.enc) hx
     have hw1:IntKind.i64.wrap ((i:Int)+1)=((i+1:Nat):Int):=by rw [BL (by omega) (by omega)];omega
     have hxs:=Al.J0 (AT hx)
     have hsum:Al.A2 (al.take i)+a.size+Al.A2 (al.drop (i+1))=Al.A2 al:=by
      conv=>rhs;rw [← A3 i al,Al.Bz,B3 hx,Al.A2]
      omega
     have hst:Al.A2 (al.take (i+1))=Al.A2 (al.take i)+a.size:=by rw [BH hx,Al.Bz];simp [Al.A2]
     have hwn:IntKind.i64.wrap (((n+Ex.A2 ks+Al.A2 (al.take i):Nat):Int)+1)=((n+Ex.A2 ks+Al.A2 (al.take i)+1:Nat):Int):=A5 (by omega)
     have hks:Bw sc (al.take (i+1))=Bw sc (al.take i)++Rp a sc:=by
      rw [BH hx,Rr];simp [Bw]
     have hall:Ba (.mk o nm u ns ks al) sc=(((.mk o nm u ns ks al:Ex),sc)::(Bf o nm ns sc 0 ks++Bw sc (al.take (i+1))))++Bw sc (al.drop (i+1)):=by
      rw [hpre,Aa,Ae,← Rr,A3]
     have hlen:(((.mk o nm u ns ks al:Ex),sc)::(Bf o nm ns sc 0 ks++Bw sc (al.take i))).length=1+Ex.A2 ks+Al.A2 (al.take i):=by
      rw [A9,AS,Et,HN];omega
     have happ:=Ua (vis:=vis) _ (Rp a sc) s t hok
     rw [Aa,Ae,← hks,hlen] at happ
     obtain ⟨ac,av,x⟩:=a
     rw [Rp] at happ hks
     simp only [Al.size] at hxs hst hsum
     have hvx:Zm vis hS j (.fn fid first caps) fid first caps (Ba x (sc++av)):=fun y hy=>hvis y (by
      rw [hall,A7,Bc,A7,hks,A7];exact .inl (.inr (.inr (.inr hy))))
     have hc:=ihN x (sc++av) (n+Ex.A2 ks+Al.A2 (al.take i)+1) t (by omega) (by omega) hvx
     have hws:=Ol sc av
     generalize sc++av=sci at hc happ hvx hks hws
     have hset:∀m:Nat,(WH hS j (.fn fid first caps) (n+Ex.A2 ks+Al.A2 (al.take i)) t).AO j [.d (.int .i64 (m:Int)),.fn fid first caps]=WH hS j (.fn fid first caps) m t:=fun m=>by simp only [WH,FU]
     rcases hrx:G9 vis (Ba x sci) t with ⟨_|⟨k,c⟩,t'⟩
     · have hc:AL Tryz.prog 63 [.gp j 0,exA x,.d (bdL sci)] (WH hS j (.fn fid first caps) (n+Ex.A2 ks+Al.A2 (al.take i)+1) t) (fun v σ'=>v= .d (.int .i64 0)∧σ'=WH hS j (.fn fid first caps) (n+Ex.A2 ks+Al.A2 (al.take (i+1))) t'):=hc.mono (by
        intro v σ' h
        simp only [WQ,hrx] at h
        rw [K4] at h
        obtain ⟨rfl,rfl⟩:=h
        have:=Ex.size_pos x
        refine ⟨rfl,?_⟩
        congr 1;omega)
       rw [hrx] at happ
       simp only [Option.map_none] at happ
       obtain ⟨xo,xn,xu,xs,xk,xa⟩:=x
       simp only [Al.A4,Ex.A4,exA,AG,AQ] at he hc
       (repeat' (first|refine Run.ct rfl ?_|((first|refine Run.reg mixed ?_|refine Run.AE ?_|(refine AI.mk rfl hc ?_;rintro _ _ ⟨rfl,rfl⟩)|refine AI.det (hws _) ?_)<;>try simp -implicitDefEqProofs only [Ac hlt,he,hblk,hwn,hset,hw1,go_sem])|(refine ⟨fun h=>?_,fun h=>?_⟩<;>first|(cases h;done)|try simp only [h])|fail))
       exact ih (i+1,t') ⟨by simp only;omega,happ⟩ (by simp only;omega)
     · have hc:AL Tryz.prog 63 [.gp j 0,exA x,.d (bdL sci)] (WH hS j (.fn fid first caps) (n+Ex.A2 ks+Al.A2 (al.take i)+1) t) (fun v σ'=>v= .d (.int .i64 c)∧σ'=WH hS j (.fn fid first caps) (n+(k+(1+Ex.A2 ks+Al.A2 (al.take i)))) t'∧c≠0):=hc.mono (by
        intro v σ' h
        simp only [WQ,hrx] at h
        obtain ⟨hc0,rfl,rfl⟩:=h
        refine ⟨rfl,?_,hc0⟩
        congr 1;omega)
       rw [hrx] at happ
       simp only [Bs] at happ
       have hc0:c≠0:=TO _ _ _ _ hrx
       have hne:(c != 0)=true:=by simpa using hc0
       obtain ⟨xo,xn,xu,xs,xk,xa⟩:=x
       simp only [Al.A4,Ex.A4,exA,AG,AQ] at he hc
       (repeat' (first|refine Run.ct rfl ?_|((first|refine Run.reg mixed ?_|refine Run.AE ?_|refine Run.Fp Du (AF.le_refl _) ?_|(refine AI.mk rfl hc ?_;rintro _ _ ⟨rfl,rfl,_⟩)|refine AI.det (hws _) ?_)<;>try simp -implicitDefEqProofs only [Ac hlt,he,hblk,hwn,hset,hw1,hne,go_sem])|fail))
       exact hfail _ _ _ _ _ hall hc0 happ
   · rw [AK (by omega)] at hok
     have hia:al.take i=al:=AK (by omega)
     (repeat' (first|refine Run.ct rfl ?_|((first|refine Run.reg mixed ?_|refine Run.AE ?_|refine Run.Fp Du (AF.le_refl _) ?_)<;>try simp -implicitDefEqProofs only [Bi hlt,go_sem])|fail))
     rw [← hV,WQ,hpre,hok,hia]
     refine ⟨rfl,?_⟩
     congr 1
     rw [A9,AS,Et,HN];omega
end Go.Ab
