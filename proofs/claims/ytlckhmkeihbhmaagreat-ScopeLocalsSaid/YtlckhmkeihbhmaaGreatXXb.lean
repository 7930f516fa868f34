/- Renamed programs, in plain data: validity, names and calls. Rows of ints compared; the longest names of programs. The longest names of a program: Long. Renamed programs: suffixed, renamedType, renamed. Conditions: none. -/
import Derived.Test.YtlckhmkeihbhmaaGreatXVr
set_option linter.unusedSimpArgs false
set_option linter.unusedVariables false
set_option maxRecDepth 4000
set_option maxHeartbeats 8000000
open List renaming foldlM_cons→E4,map_cons→AH,mem_cons_self→Ai,mem_cons_of_mem→Ao,length_map→AA,take_of_length_le→AG,map_nil→AM,mem_of_getElem?→AS,take→DS
open Option renaming bind_eq_bind→AL,bind_eq_some_iff→AB,bind_some→Di
open Bool renaming eq_false_iff→Bw
open Nat renaming reduceEqDiff→E5,le_refl→A0,lt_or_ge→Bt,le_trans→BY
namespace Go.Ab
def XD (m:Nat) (l:List Str):Prop:=∀s∈l,s.length≤m
mutual
def TE.sh (m:Nat):TE→Prop
 | .mk _ n l=>n.length≤m∧TE.shs m l
def TE.shs (m:Nat):List TE→Prop
 |[]=>True
 |t::l=>t.sh m∧TE.shs m l
end
mutual
def Ex.sh (m:Nat):Ex→Prop
 | .mk _ n _ ns ks al=>n.length≤m∧XD m ns∧Ex.shs m ks∧Al.shs m al
def Ex.shs (m:Nat):List Ex→Prop
 |[]=>True
 |t::l=>t.sh m∧Ex.shs m l
def Al.sh (m:Nat):Al→Prop
 | .mk _ vs b=>XD m vs∧b.sh m
def Al.shs (m:Nat):List Al→Prop
 |[]=>True
 |t::l=>t.sh m∧Al.shs m l
end
theorem TE.N3 {m:Nat}:∀ {l:List TE},TE.shs m l↔∀t∈l,t.sh m
 |[]=>by simp [TE.shs]
 |t::l=>by simp [TE.shs,TE.N3 (l:=l)]
theorem Ex.N3 {m:Nat}:∀ {l:List Ex},Ex.shs m l↔∀t∈l,t.sh m
 |[]=>by simp [Ex.shs]
 |t::l=>by simp [Ex.shs,Ex.N3 (l:=l)]
theorem Al.N3 {m:Nat}:∀ {l:List Al},Al.shs m l↔∀t∈l,t.sh m
 |[]=>by simp [Al.shs]
 |t::l=>by simp [Al.shs,Al.N3 (l:=l)]
def DE.sh (m:Nat) (d:DE):Prop:=XD m d.vars∧∀c∈d.cons,∀t∈c.args,t.sh m
def FE.sh (m:Nat) (f:FE):Prop:=f.name.length≤m∧XD m f.params∧f.body.sh m
def Pg.sh (m:Nat) (p:Pg):Prop:=(∀d∈p.data,d.sh m)∧∀f∈p.Hp,f.sh m
theorem SX {α β:Type} {f:Nat→α→Option Nat} {g:Nat→β→Option Nat} {m:α→β}:∀(l:List α) (q r:Nat),(∀x∈l,∀a b,f a x=some b→g a (m x)=some b)→l.foldlM f q=some r→(l.map m).foldlM g q=some r
 |[],q,r,_,h=>h
 |x::l,q,r,hf,h=>by
  rw [E4,AL,AB] at h
  obtain ⟨b,hb,h⟩:=h
  rw [AH,E4,AL,hf x (Ai ..) q b hb,Di]
  exact SX l b r (fun y hy=>hf y (Ao _ hy)) h
mutual
def TE.vn:TE→Prop
 | .mk k n l=>(k=4→n≠[])∧TE.vns l
def TE.vns:List TE→Prop
 |[]=>True
 |t::l=>t.vn∧TE.vns l
end
theorem TE.N6:∀ {l:List TE},TE.vns l↔∀t∈l,t.vn
 |[]=>by simp [TE.vns]
 |t::l=>by simp [TE.vns,TE.N6 (l:=l)]
end Go.Ab
namespace Go.Ab
open Go.Proofs
theorem V6 (n:Nat):JY n=[.int .i64 (n:Int)]:=rfl
theorem lK {a b:Nat} (h:a≠b):((a:Int) != (b:Int))=true:=by rw [Ta];simpa using h
theorem pI {a b:Nat} (h:a=b):((a:Int) != (b:Int))=false:=by rw [Ta,h];simp
theorem S8 (a b:List Nat) (σ:AF):AK Tryz.prog 29 [.d (.sl (a.map JY)),.d (.sl (b.map JY))] σ (fun v σ'=>v= .d (.bool (a==b))∧σ'=σ):=by
 refine Th (by simp) ?_
 rw [BR]
 refine Run.slot 0 (fun hb0=>?_)
 simp only [CZ,if_true,AV.Dl,AA] at hb0
 by_cases hl:a.length=b.length
 case neg=>
  have hl':((a.length:Int) != (b.length:Int))=true:=lK hl
  have hf:(a==b)=false:=by
   rw [Bw];intro h;rw [beq_iff_eq] at h;exact hl (by rw [h])
  (repeat' (first|refine Run.ct rfl ?_|((first|refine Run.reg mixed ?_|refine Run.AD ?_|refine Run.A1 HQ (AF.le_refl _) ?_)<;>try simp -implicitDefEqProofs only [AA,hl',hf,go_sem])|fail))
 have hl':((a.length:Int) != (b.length:Int))=false:=pI hl
 (repeat' (first|refine Run.ct rfl ?_|((first|refine Run.reg mixed ?_|refine Run.AD ?_)<;>try simp -implicitDefEqProofs only [AA,hl',go_sem])|fail))
 refine Run.Ay ?_
 refine Run.BB ((fun (a0:AV) (a1:AV) (a12:AV)=>fun (i:Nat)=>put 0 a0 (put 1 a1 (put 12 a12 (put 13 (.d (.int .i64 i)) U)))) _ _ _) (fun _=>E) (fun _=>σ) (fun i=>i≤a.length∧a.take i=b.take i) (fun i=>a.length - i) ?_ 0 ⟨by simp,by simp⟩
 rintro i ⟨hi,hno⟩ ih
 by_cases hlt:i < a.length
 · obtain ⟨x,hx⟩:=Aw hlt
   obtain ⟨y,hy⟩:=Aw (show i < b.length by omega)
   have he:=Aq (enc:=JY) hx
   have he2:=Aq (enc:=JY) hy
   rw [V6] at he he2
   have hw1:IntKind.i64.wrap ((i:Int)+1)=((i+1:Nat):Int):=by rw [As (by omega) (by omega)];omega
   by_cases hxy:x=y
   · subst hxy
     have hn:((x:Int) != (x:Int))=false:=by simp
     (repeat' (first|refine Run.ct rfl ?_|((first|refine Run.reg mixed ?_|refine Run.AD ?_)<;>try simp -implicitDefEqProofs only [A8 hlt,he,he2,hw1,hn,AA,go_sem])|fail))
     exact ih (i+1) ⟨by omega,by rw [Am hx,Am hy,hno]⟩ (by omega)
   · have hn:((x:Int) != (y:Int))=true:=lK hxy
     have hf:(a==b)=false:=by
      rw [Bw];intro h;rw [beq_iff_eq] at h;rw [h,hy] at hx;cases hx;exact hxy rfl
     (repeat' (first|refine Run.ct rfl ?_|((first|refine Run.reg mixed ?_|refine Run.AD ?_|refine Run.A1 HQ (AF.le_refl _) ?_)<;>try simp -implicitDefEqProofs only [A8 hlt,he,he2,hw1,hn,hf,AA,go_sem])|fail))
 · rw [AG (by omega),AG (by omega)] at hno
   have ht:(a==b)=true:=by rw [beq_iff_eq];exact hno
   (repeat' (first|refine Run.ct rfl ?_|((first|refine Run.reg mixed ?_|refine Run.AD ?_|refine Run.A1 HQ (AF.le_refl _) ?_)<;>try simp -implicitDefEqProofs only [B8 hlt,ht,AA,go_sem])|fail))
def Md (r:List Nat):List DV:=[.sl (r.map JY)]
theorem TP (l:List (List Nat)):Kf l= .d (.sl (l.map Md)):=rfl
theorem Zs (r:List Nat):Md r=[.sl (r.map JY)]:=rfl
theorem M5 (a b:List (List Nat)) (σ:AF):AK Tryz.prog 9 [Kf a,Kf b] σ (fun v σ'=>v= .d (.bool (a==b))∧σ'=σ):=by
 refine Ti (by simp) ?_
 rw [BR,TP,TP]
 refine Run.slot 0 (fun hb0=>?_)
 simp only [CZ,if_true,AV.Dl,AA] at hb0
 by_cases hl:a.length=b.length
 case neg=>
  have hl':((a.length:Int) != (b.length:Int))=true:=lK hl
  have hf:(a==b)=false:=by
   rw [Bw];intro h;rw [beq_iff_eq] at h;exact hl (by rw [h])
  (repeat' (first|refine Run.ct rfl ?_|((first|refine Run.reg mixed ?_|refine Run.AD ?_|refine Run.A1 HR (AF.le_refl _) ?_)<;>try simp -implicitDefEqProofs only [AA,hl',hf,go_sem])|fail))
 have hl':((a.length:Int) != (b.length:Int))=false:=pI hl
 (repeat' (first|refine Run.ct rfl ?_|((first|refine Run.reg mixed ?_|refine Run.AD ?_)<;>try simp -implicitDefEqProofs only [AA,hl',go_sem])|fail))
 refine Run.Ay ?_
 refine Run.BB ((fun (a0:AV) (a1:AV) (a12:AV)=>fun (i:Nat)=>put 0 a0 (put 1 a1 (put 12 a12 (put 13 (.d (.int .i64 i)) U)))) _ _ _) (fun _=>E) (fun _=>σ) (fun i=>i≤a.length∧a.take i=b.take i) (fun i=>a.length - i) ?_ 0 ⟨by simp,by simp⟩
 rintro i ⟨hi,hno⟩ ih
 by_cases hlt:i < a.length
 · obtain ⟨x,hx⟩:=Aw hlt
   obtain ⟨y,hy⟩:=Aw (show i < b.length by omega)
   have he:=Aq (enc:=Md) hx
   have he2:=Aq (enc:=Md) hy
   rw [Zs] at he he2
   have hw1:IntKind.i64.wrap ((i:Int)+1)=((i+1:Nat):Int):=by rw [As (by omega) (by omega)];omega
   have hc:=S8 x y σ
   by_cases hxy:x=y
   · subst hxy
     rw [show (x==x)=true by simp] at hc
     (repeat' (first|refine Run.ct rfl ?_|((first|refine Run.reg mixed ?_|refine Run.AD ?_|refine AI.det (hc) ?_)<;>try simp -implicitDefEqProofs only [A8 hlt,he,he2,hw1,AA,go_sem])|fail))
     exact ih (i+1) ⟨by omega,by rw [Am hx,Am hy,hno]⟩ (by omega)
   · rw [show (x==y)=false by simpa using hxy] at hc
     have hf:(a==b)=false:=by
      rw [Bw];intro h;rw [beq_iff_eq] at h;rw [h,hy] at hx;cases hx;exact hxy rfl
     (repeat' (first|refine Run.ct rfl ?_|((first|refine Run.reg mixed ?_|refine Run.AD ?_|refine Run.A1 HR (AF.le_refl _) ?_|refine AI.det (hc) ?_)<;>try simp -implicitDefEqProofs only [A8 hlt,he,he2,hw1,hf,AA,go_sem])|fail))
 · rw [AG (by omega),AG (by omega)] at hno
   have ht:(a==b)=true:=by rw [beq_iff_eq];exact hno
   (repeat' (first|refine Run.ct rfl ?_|((first|refine Run.reg mixed ?_|refine Run.AD ?_|refine Run.A1 HR (AF.le_refl _) ?_)<;>try simp -implicitDefEqProofs only [B8 hlt,ht,AA,go_sem])|fail))
def lgS (n:Nat) (l:List Str):Nat:=l.foldl (fun n s=>max n s.length) n
mutual
def lgT:TE→Nat
 | .mk _ n l=>VZ n.length l
def VZ (n:Nat):List TE→Nat
 |[]=>n
 |t::l=>VZ (max n (lgT t)) l
end
mutual
def lgE:Ex→Nat
 | .mk _ n _ ns ks al=>VX (Tr (max n.length (lgS 0 ns)) ks) al
def Tr (n:Nat):List Ex→Nat
 |[]=>n
 |t::l=>Tr (max n (lgE t)) l
def lgA:Al→Nat
 | .mk _ vs b=>max (lgS 0 vs) (lgE b)
def VX (n:Nat):List Al→Nat
 |[]=>n
 |t::l=>VX (max n (lgA t)) l
end
theorem k7 (n:Nat) (l:List Str) (s:Str):lgS n (l++[s])=max (lgS n l) s.length:=by simp [lgS]
theorem X5 (t:TE):∀(l:List TE) (n:Nat),VZ n (l++[t])=max (VZ n l) (lgT t)
 |[],n=>by simp [VZ]
 |u::l,n=>by simp [VZ,X5 t l]
theorem X4 (t:Ex):∀(l:List Ex) (n:Nat),Tr n (l++[t])=max (Tr n l) (lgE t)
 |[],n=>by simp [Tr]
 |u::l,n=>by simp [Tr,X4 t l]
theorem X3 (t:Al):∀(l:List Al) (n:Nat),VX n (l++[t])=max (VX n l) (lgA t)
 |[],n=>by simp [VX]
 |u::l,n=>by simp [VX,X3 t l]
theorem VY {m:Nat}:∀ {l:List Str} {n:Nat},lgS n l≤m↔n≤m∧XD m l
 |[],n=>by simp [lgS,XD]
 |s::l,n=>by
  rw [show lgS n (s::l)=lgS (max n s.length) l from rfl,VY (l:=l)]
  simp [XD,Nat.max_le,and_assoc]
mutual
theorem cR {m:Nat}:∀ {t:TE},lgT t≤m↔t.sh m
 | .mk k n l=>by rw [lgT,TE.sh,eV]
theorem eV {m:Nat}:∀ {l:List TE} {n:Nat},VZ n l≤m↔n≤m∧TE.shs m l
 |[],n=>by simp [VZ,TE.shs]
 |t::l,n=>by rw [VZ,eV (l:=l),TE.shs,← cR (t:=t),Nat.max_le,and_assoc]
end
mutual
theorem cQ {m:Nat}:∀ {t:Ex},lgE t≤m↔t.sh m
 | .mk o n u ns ks al=>by
  rw [lgE,Ex.sh,eT,eU,Nat.max_le,VY]
  simp [and_assoc]
theorem eU {m:Nat}:∀ {l:List Ex} {n:Nat},Tr n l≤m↔n≤m∧Ex.shs m l
 |[],n=>by simp [Tr,Ex.shs]
 |t::l,n=>by rw [Tr,eU (l:=l),Ex.shs,← cQ (t:=t),Nat.max_le,and_assoc]
theorem qK {m:Nat}:∀ {t:Al},lgA t≤m↔t.sh m
 | .mk c vs b=>by rw [lgA,Al.sh,Nat.max_le,VY,cQ (t:=b)];simp
theorem eT {m:Nat}:∀ {l:List Al} {n:Nat},VX n l≤m↔n≤m∧Al.shs m l
 |[],n=>by simp [VX,Al.shs]
 |t::l,n=>by rw [VX,eT (l:=l),Al.shs,← qK (t:=t),Nat.max_le,and_assoc]
end
theorem V3 (a b:Nat):mmA true (.d (.int .i64 (a:Int))) (.d (.int .i64 (b:Int)))=some (.d (.int .i64 ((max a b:Nat):Int))):=by
 simp only [mmA];simp [Int.max_def,Nat.max_def];split<;>split<;>first|rfl|omega
theorem Nq (l:List Str) (σ:AF):AK Tryz.prog 39 [.d (.sl (l.map Ak))] σ (fun v σ'=>v= .d (.int .i64 (lgS 0 l:Nat))∧σ'=σ):=by
 refine VL (by simp) ?_
 rw [Bf]
 refine Run.slot 0 (fun hb0=>?_)
 simp only [CZ,if_true,AV.Dl,AA] at hb0
 (repeat' (first|refine Run.ct rfl ?_|((first|refine Run.reg mixed ?_|refine Run.AD ?_)<;>try simp -implicitDefEqProofs only [AA,go_sem])|fail))
 refine Run.Ay ?_
 refine Run.BB ((fun (a6:AV) (a7:AV)=>fun (i:Nat)=>put 3 (.d (.int .i64 (lgS 0 (l.take i):Nat))) (put 6 a6 (put 7 a7 (put 8 (.d (.int .i64 i)) U)))) _ _) (fun _=>E) (fun _=>σ) (fun i=>i≤l.length) (fun i=>l.length - i) ?_ 0 (by simp)|>(fun h=>by simpa [lgS] using h)
 rintro i hi ih
 by_cases hlt:i < l.length
 · obtain ⟨x,hx⟩:=Aw hlt
   have he:=Aq (enc:=Ak) hx
   simp only [Ak] at he
   have hw1:IntKind.i64.wrap ((i:Int)+1)=((i+1:Nat):Int):=by rw [As (by omega) (by omega)];omega
   have:=ih (i+1) (by omega) (by omega)
   simp only at this
   rw [Am hx,k7] at this
   (repeat' (first|refine Run.ct rfl ?_|((first|refine Run.reg mixed ?_|refine Run.AD ?_)<;>try simp -implicitDefEqProofs only [A8 hlt,he,hw1,V3,go_sem])|fail))
   exact this
 · (repeat' (first|refine Run.ct rfl ?_|((first|refine Run.reg mixed ?_|refine Run.AD ?_|refine Run.A1 Oa (AF.le_refl _) ?_)<;>try simp -implicitDefEqProofs only [B8 hlt,go_sem])|fail))
   rw [AG (by omega)];rfl
theorem S9:∀(N:Nat) (t:TE) (σ:AF),t.size≤N→AK Tryz.prog 40 [teA t] σ (fun v σ'=>v= .d (.int .i64 (lgT t:Nat))∧σ'=σ):=by
 intro N
 induction N with
 |zero=>intro t σ h;have:=TE.size_pos t;omega
 |succ N ihN=>
 rintro ⟨k,n,l⟩ σ hN
 simp only [TE.size] at hN
 refine Tj (by simp) ?_
 rw [Bf,teA,TE.A3,lgT]
 simp only [AH,AM]
 (repeat' (first|refine Run.ct rfl ?_|((first|refine Run.reg mixed ?_|refine Run.AD ?_)<;>try simp -implicitDefEqProofs only [AA,go_sem])|fail))
 refine Run.slot 10 (fun hb0=>?_)
 simp only [CZ,E5,if_false,if_true,AV.Dl,AA] at hb0
 refine Run.Ay ?_
 refine Run.BB ((fun (a10:AV) (a11:AV)=>fun (i:Nat)=>put 3 (.d (.int .i64 (VZ n.length (l.take i):Nat))) (put 10 a10 (put 11 a11 (put 12 (.d (.int .i64 i)) U)))) _ _) (fun _=>E) (fun _=>σ) (fun i=>i≤l.length) (fun i=>l.length - i) ?_ 0 (by simp)|>(fun h=>by simpa [VZ] using h)
 rintro i hi ih
 by_cases hlt:i < l.length
 · obtain ⟨x,hx⟩:=Aw hlt
   have he:=Aq (enc:=TE.enc) hx
   have hw1:IntKind.i64.wrap ((i:Int)+1)=((i+1:Nat):Int):=by rw [As (by omega) (by omega)];omega
   have hxs:=TE.G2 (AS hx)
   have hc:=ihN x σ (by omega)
   have:=ih (i+1) (by omega) (by omega)
   simp only at this
   rw [Am hx,X5] at this
   obtain ⟨xk,xn,xl⟩:=x
   simp only [teA,TE.A3,AH,AM] at he hc
   (repeat' (first|refine Run.ct rfl ?_|((first|refine Run.reg mixed ?_|refine Run.AD ?_|refine AI.det (hc) ?_)<;>try simp -implicitDefEqProofs only [A8 hlt,he,hw1,V3,go_sem])|fail))
   exact this
 · (repeat' (first|refine Run.ct rfl ?_|((first|refine Run.reg mixed ?_|refine Run.AD ?_|refine Run.A1 Nm (AF.le_refl _) ?_)<;>try simp -implicitDefEqProofs only [B8 hlt,go_sem])|fail))
   rw [AG (by omega)]
set_option maxHeartbeats 4000000 in
theorem YX:∀(N:Nat) (e:Ex) (σ:AF),e.size≤N→AK Tryz.prog 41 [exA e] σ (fun v σ'=>v= .d (.int .i64 (lgE e:Nat))∧σ'=σ):=by
 intro N
 induction N with
 |zero=>intro t σ h;have:=Ex.size_pos t;omega
 |succ N ihN=>
 rintro ⟨o,n,u,ns,ks,al⟩ σ hN
 simp only [Ex.size] at hN
 have hln:=fun l=>Nq l σ
 have hns:=hln ns
 refine Z2 (by simp) ?_
 rw [Bf,exA,Ex.A3,lgE]
 simp only [AH,AM]
 (repeat' (first|refine Run.ct rfl ?_|((first|refine Run.reg mixed ?_|refine Run.AD ?_|refine AI.det (hns) ?_)<;>try simp -implicitDefEqProofs only [V3,AA,go_sem])|fail))
 refine Run.slot 16 (fun hb0=>?_)
 simp only [CZ,E5,if_false,if_true,AV.Dl,AA] at hb0
 refine Run.Ay ?_
 refine Run.BB ((fun (a1:AV) (a16:AV) (a17:AV)=>fun (i:Nat)=>put 1 a1 (put 3 (.d (.int .i64 (Tr (max n.length (lgS 0 ns)) (ks.take i):Nat))) (put 16 a16 (put 17 a17 (put 18 (.d (.int .i64 i)) U))))) _ _ _) (fun _=>BA 1 [.d (.int .i64 o),.d (.str n),.d (.int .i64 u),.d (.sl (ns.map Ak)),.d (.sl (ks.map Ex.enc)),.d (.sl (al.map Al.enc))] E) (fun _=>σ) (fun i=>i≤ks.length) (fun i=>ks.length - i) ?_ 0 (by simp)|>(fun h=>by simpa [Tr] using h)
 rintro i hi ih
 by_cases hlt:i < ks.length
 · obtain ⟨x,hx⟩:=Aw hlt
   have he:=Aq (enc:=Ex.enc) hx
   have hw1:IntKind.i64.wrap ((i:Int)+1)=((i+1:Nat):Int):=by rw [As (by omega) (by omega)];omega
   have hxs:=Ex.G2 (AS hx)
   have hc:=ihN x σ (by omega)
   have:=ih (i+1) (by omega) (by omega)
   simp only at this
   rw [Am hx,X4] at this
   obtain ⟨xo,xn,xu,xns,xks,xal⟩:=x
   simp only [exA,Ex.A3,AH,AM] at he hc
   (repeat' (first|refine Run.ct rfl ?_|((first|refine Run.reg mixed ?_|refine Run.AD ?_|refine AI.det (hc) ?_)<;>try simp -implicitDefEqProofs only [A8 hlt,he,hw1,V3,go_sem])|fail))
   exact this
 · clear ih
   have htk:DS i ks=ks:=AG (by omega)
   (repeat' (first|refine Run.ct rfl ?_|((first|refine Run.reg mixed ?_|refine Run.AD ?_)<;>try simp -implicitDefEqProofs only [B8 hlt,htk,AA,go_sem])|fail))
   refine Run.slot 28 (fun hb1=>?_)
   simp only [CZ,E5,if_false,if_true,AV.Dl,AA] at hb1
   refine Run.Ay ?_
   refine Run.BB ((fun (a28:AV) (a29:AV)=>fun (i:Nat)=>put 3 (.d (.int .i64 (VX (Tr (max n.length (lgS 0 ns)) ks) (al.take i):Nat))) (put 28 a28 (put 29 a29 (put 30 (.d (.int .i64 i)) U)))) _ _) (fun _=>E) (fun _=>σ) (fun i=>i≤al.length) (fun i=>al.length - i) ?_ 0 (by simp)|>(fun h=>by simpa [VX] using h)
   rintro i hi ih
   by_cases hlt:i < al.length
   · obtain ⟨x,hx⟩:=Aw hlt
     have he:=Aq (enc:=Al.enc) hx
     have hw1:IntKind.i64.wrap ((i:Int)+1)=((i+1:Nat):Int):=by rw [As (by omega) (by omega)];omega
     have hxs:=Al.G2 (AS hx)
     have:=ih (i+1) (by omega) (by omega)
     simp only at this
     rw [Am hx,X3] at this
     obtain ⟨xc,xvs,xb⟩:=x
     rw [Al.size] at hxs
     rw [lgA,← Nat.max_assoc] at this
     have hc:=ihN xb σ (by omega)
     have hvs:=hln xvs
     obtain ⟨xo,xn,xu,xns,xks,xal⟩:=xb
     simp only [exA,Al.A3,Ex.A3,AH,AM] at he hc
     (repeat' (first|refine Run.ct rfl ?_|((first|refine Run.reg mixed ?_|refine Run.AD ?_|refine AI.det (hc) ?_|refine AI.det (hvs) ?_)<;>try simp -implicitDefEqProofs only [A8 hlt,he,hw1,V3,go_sem])|fail))
     exact this
   · (repeat' (first|refine Run.ct rfl ?_|((first|refine Run.reg mixed ?_|refine Run.AD ?_|refine Run.A1 TW (AF.le_refl _) ?_)<;>try simp -implicitDefEqProofs only [B8 hlt,go_sem])|fail))
     rw [AG (by omega)]
end Go.Ab
namespace Go.Ab
open Go.Proofs
theorem ZY (m n:Nat):decide ((m:Int) < (n:Int))=decide (m < n):=decide_eq_decide.2 (by omega)
theorem YU (p:Pg) (m:Nat) (σ:AF):AK Tryz.prog 16 [pgA p,.d (.int .i64 m)] σ (fun v σ'=>∃b,(v= .d (.bool b)∧σ'=σ)∧(b=false→p.sh m)):=by
 refine ZZ (by simp) ?_
 rw [BR]
 obtain ⟨ds,fs⟩:=p
 simp only [pgA,Pg.enc,AH,AM]
 generalize hQ:(fun (v:AV) (σ':AF)=>∃b,(v= .d (.bool b)∧σ'=σ)∧(b=false→Pg.sh m ⟨ds,fs⟩))=Q
 have hno:Q (.d (.bool true)) σ:=by rw [← hQ];exact ⟨true,⟨rfl,rfl⟩,fun h=>by cases h⟩
 have hyes:Pg.sh m ⟨ds,fs⟩→Q (.d (.bool false)) σ:=fun h=>by rw [← hQ];exact ⟨false,⟨rfl,rfl⟩,fun _=>h⟩
 clear hQ
 have hls:=fun l=>Nq l σ
 have hlt':=fun t=>S9 _ t σ (A0 _)
 have hle':=fun t=>YX _ t σ (A0 _)
 (repeat' (first|refine Run.ct rfl ?_|((first|refine Run.reg mixed ?_|refine Run.AD ?_|(refine BO rfl (fun h=>?_) (fun h=>?_)<;>try (cases h;done)))<;>try simp -implicitDefEqProofs only [AA,go_sem])|(refine ⟨fun h=>?_,fun h=>?_⟩<;>first|(cases h;done)|try simp only [h])|fail))
 refine Run.slot 14 (fun hb0=>?_)
 simp only [CZ,E5,if_false,if_true,AV.Dl,AA] at hb0
 refine Run.Ay ?_
 refine Run.BB ((fun (a1:AV) (a2:AV) (a14:AV) (a15:AV)=>fun (i:Nat)=>put 1 a1 (put 2 a2 (put 14 a14 (put 15 a15 (put 16 (.d (.int .i64 i)) U))))) _ _ _ _) (fun _=>BA 2 [.d (.sl (ds.map DE.enc)),.d (.sl (fs.map FE.enc))] E) (fun _=>σ)
  (fun i=>i≤ds.length∧∀d∈ds.take i,d.sh m) (fun i=>ds.length - i) ?_ 0 ⟨by simp,by simp⟩
 rintro i ⟨hi,hsm⟩ ih
 by_cases hlt:i < ds.length
 · obtain ⟨d,hd⟩:=Aw hlt
   have he:=Aq (enc:=DE.enc) hd
   have hw1:IntKind.i64.wrap ((i:Int)+1)=((i+1:Nat):Int):=by rw [As (by omega) (by omega)];omega
   have hms:=fun hp=>Ch (p:=DE.sh m) hsm hd hp
   obtain ⟨dn,dvs',dcs⟩:=d
   simp only [DE.enc] at he
   have hnm:=hls dvs'
   by_cases h40:m < lgS 0 dvs'
   · (repeat' (first|refine Run.ct rfl ?_|((first|refine Run.reg mixed ?_|refine Run.AD ?_|refine Run.Er GR (AF.le_refl _) ?_|refine AI.det (hnm) ?_|(refine BO rfl (fun h=>?_) (fun h=>?_)<;>try (cases h;done)))<;>try simp -implicitDefEqProofs only [A8 hlt,he,ZY,decide_eq_true h40,AA,go_sem])|(refine ⟨fun h=>?_,fun h=>?_⟩<;>first|(cases h;done)|try simp only [h])|fail))
     exact hno
   (repeat' (first|refine Run.ct rfl ?_|((first|refine Run.reg mixed ?_|refine Run.AD ?_|refine AI.det (hnm) ?_|(refine BO rfl (fun h=>?_) (fun h=>?_)<;>try (cases h;done)))<;>try simp -implicitDefEqProofs only [A8 hlt,he,ZY,decide_eq_false h40,AA,go_sem])|(refine ⟨fun h=>?_,fun h=>?_⟩<;>first|(cases h;done)|try simp only [h])|fail))
   refine Run.slot 26 (fun hb1=>?_)
   simp only [CZ,E5,if_false,if_true,AV.Dl,AA] at hb1
   refine Run.Ay ?_
   refine Run.BB ((fun (a1:AV) (a2:AV) (a14:AV) (a15:AV) (a16:AV) (a26:AV) (a27:AV)=>fun (i:Nat)=>put 1 a1 (put 2 a2 (put 14 a14 (put 15 a15 (put 16 a16 (put 26 a26 (put 27 a27 (put 28 (.d (.int .i64 i)) U)))))))) _ _ _ _ _ _ _) (fun _=>BA 2 [.d (.sl (ds.map DE.enc)),.d (.sl (fs.map FE.enc))] E) (fun _=>σ)
    (fun i=>i≤dcs.length∧∀d∈dcs.take i,∀t∈d.args,t.sh m) (fun i=>dcs.length - i) ?_ 0 ⟨by simp,by simp⟩
   rintro i1 ⟨hi1,hsm1⟩ ih1
   by_cases hlt1:i1 < dcs.length
   · obtain ⟨c,hc⟩:=Aw hlt1
     have he1:=Aq (enc:=CE.enc) hc
     have hw2:IntKind.i64.wrap ((i1:Int)+1)=((i1+1:Nat):Int):=by rw [As (by omega) (by omega)];omega
     have hms1:=fun hp=>Ch (p:=fun (c:CE)=>∀t∈c.args,t.sh m) hsm1 hc hp
     obtain ⟨cn,ar⟩:=c
     simp only [CE.enc] at he1
     (repeat' (first|refine Run.ct rfl ?_|((first|refine Run.reg mixed ?_|refine Run.AD ?_|(refine BO rfl (fun h=>?_) (fun h=>?_)<;>try (cases h;done)))<;>try simp -implicitDefEqProofs only [A8 hlt1,he1,AA,go_sem])|(refine ⟨fun h=>?_,fun h=>?_⟩<;>first|(cases h;done)|try simp only [h])|fail))
     refine Run.slot 33 (fun hb2=>?_)
     simp only [CZ,E5,if_false,if_true,AV.Dl,AA] at hb2
     refine Run.Ay ?_
     refine Run.BB ((fun (a1:AV) (a2:AV) (a14:AV) (a15:AV) (a16:AV) (a26:AV) (a27:AV) (a28:AV) (a33:AV) (a34:AV)=>fun (i:Nat)=>put 1 a1 (put 2 a2 (put 14 a14 (put 15 a15 (put 16 a16 (put 26 a26 (put 27 a27 (put 28 a28 (put 33 a33 (put 34 a34 (put 35 (.d (.int .i64 i)) U))))))))))) _ _ _ _ _ _ _ _ _ _) (fun _=>BA 2 [.d (.sl (ds.map DE.enc)),.d (.sl (fs.map FE.enc))] E) (fun _=>σ)
      (fun i=>i≤ar.length∧∀t∈ar.take i,t.sh m) (fun i=>ar.length - i) ?_ 0 ⟨by simp,by simp⟩
     rintro i2 ⟨hi2,hsm2⟩ ih2
     by_cases hlt2:i2 < ar.length
     · obtain ⟨x,hx⟩:=Aw hlt2
       have he2:=Aq (enc:=TE.enc) hx
       have hw3:IntKind.i64.wrap ((i2:Int)+1)=((i2+1:Nat):Int):=by rw [As (by omega) (by omega)];omega
       have hms2:=fun hp=>Ch (p:=fun t=>TE.sh m t) hsm2 hx hp
       have hcl:=hlt' x
       have hgt:m < lgT x∨x.sh m:=by
        rcases Bt m (lgT x) with h|h
        · exact .inl h
        · exact .inr (cR.1 h)
       rcases hgt with hgt|hgt
       · obtain ⟨xk,xn,xl⟩:=x
         simp only [teA,TE.A3,AH,AM] at he2 hcl
         (repeat' (first|refine Run.ct rfl ?_|((first|refine Run.reg mixed ?_|refine Run.AD ?_|refine Run.Er GR (AF.le_refl _) ?_|refine AI.det (hcl) ?_|(refine BO rfl (fun h=>?_) (fun h=>?_)<;>try (cases h;done)))<;>try simp -implicitDefEqProofs only [A8 hlt2,he2,ZY,decide_eq_true hgt,AA,go_sem])|(refine ⟨fun h=>?_,fun h=>?_⟩<;>first|(cases h;done)|try simp only [h])|fail))
         exact hno
       · have hgt':¬m < lgT x:=Nat.not_lt.2 (cR.2 hgt)
         obtain ⟨xk,xn,xl⟩:=x
         simp only [teA,TE.A3,AH,AM] at he2 hcl
         (repeat' (first|refine Run.ct rfl ?_|((first|refine Run.reg mixed ?_|refine Run.AD ?_|refine AI.det (hcl) ?_|(refine BO rfl (fun h=>?_) (fun h=>?_)<;>try (cases h;done)))<;>try simp -implicitDefEqProofs only [A8 hlt2,he2,hw3,ZY,decide_eq_false hgt',AA,go_sem])|(refine ⟨fun h=>?_,fun h=>?_⟩<;>first|(cases h;done)|try simp only [h])|fail))
         exact ih2 (i2+1) ⟨by omega,hms2 hgt⟩ (by omega)
     · rw [AG (by omega)] at hsm2
       (repeat' (first|refine Run.ct rfl ?_|((first|refine Run.reg mixed ?_|refine Run.AD ?_|(refine BO rfl (fun h=>?_) (fun h=>?_)<;>try (cases h;done)))<;>try simp -implicitDefEqProofs only [B8 hlt2,hw2,AA,go_sem])|(refine ⟨fun h=>?_,fun h=>?_⟩<;>first|(cases h;done)|try simp only [h])|fail))
       exact ih1 (i1+1) ⟨by omega,hms1 hsm2⟩ (by omega)
   · rw [AG (by omega)] at hsm1
     (repeat' (first|refine Run.ct rfl ?_|((first|refine Run.reg mixed ?_|refine Run.AD ?_|(refine BO rfl (fun h=>?_) (fun h=>?_)<;>try (cases h;done)))<;>try simp -implicitDefEqProofs only [B8 hlt1,hw1,AA,go_sem])|(refine ⟨fun h=>?_,fun h=>?_⟩<;>first|(cases h;done)|try simp only [h])|fail))
     exact ih (i+1) ⟨by omega,hms ⟨(VY.1 (Nat.not_lt.1 h40)).2,hsm1⟩⟩ (by omega)
 · rw [AG (by omega)] at hsm
   clear ih
   (repeat' (first|refine Run.ct rfl ?_|((first|refine Run.reg mixed ?_|refine Run.AD ?_|(refine BO rfl (fun h=>?_) (fun h=>?_)<;>try (cases h;done)))<;>try simp -implicitDefEqProofs only [B8 hlt,AA,go_sem])|(refine ⟨fun h=>?_,fun h=>?_⟩<;>first|(cases h;done)|try simp only [h])|fail))
   refine Run.slot 47 (fun hb1=>?_)
   simp only [CZ,E5,if_false,if_true,AV.Dl,AA] at hb1
   refine Run.Ay ?_
   refine Run.BB ((fun (a1:AV) (a47:AV) (a48:AV)=>fun (i:Nat)=>put 1 a1 (put 47 a47 (put 48 a48 (put 49 (.d (.int .i64 i)) U)))) _ _ _) (fun _=>E) (fun _=>σ)
    (fun i=>i≤fs.length∧∀d∈fs.take i,d.sh m) (fun i=>fs.length - i) ?_ 0 ⟨by simp,by simp⟩
   rintro i1 ⟨hi1,hsm1⟩ ih
   by_cases hlt1:i1 < fs.length
   · obtain ⟨f,hf⟩:=Aw hlt1
     have he:=Aq (enc:=FE.enc) hf
     have hw1:IntKind.i64.wrap ((i1:Int)+1)=((i1+1:Nat):Int):=by rw [As (by omega) (by omega)];omega
     have hms:=fun hp=>Ch (p:=FE.sh m) hsm1 hf hp
     obtain ⟨fn,fps,fb⟩:=f
     have hnm:=hls fps
     have hcl:=hle' fb
     have hbd:lgE fb≤m↔fb.sh m:=cQ
     generalize lgE fb=lb at hcl hbd
     obtain ⟨xo,xn,xu,xns,xks,xal⟩:=fb
     simp only [FE.enc,exA,Ex.A3,AH,AM] at he hcl
     by_cases h1:m < fn.length
     · (repeat' (first|refine Run.ct rfl ?_|((first|refine Run.reg mixed ?_|refine Run.AD ?_|refine Run.Er GR (AF.le_refl _) ?_|(refine BO rfl (fun h=>?_) (fun h=>?_)<;>try (cases h;done)))<;>try simp -implicitDefEqProofs only [A8 hlt1,he,ZY,decide_eq_true h1,AA,go_sem])|(refine ⟨fun h=>?_,fun h=>?_⟩<;>first|(cases h;done)|try simp only [h])|fail))
       exact hno
     by_cases h2:m < lgS 0 fps
     · (repeat' (first|refine Run.ct rfl ?_|((first|refine Run.reg mixed ?_|refine Run.AD ?_|refine Run.Er GR (AF.le_refl _) ?_|refine AI.det (hnm) ?_|(refine BO rfl (fun h=>?_) (fun h=>?_)<;>try (cases h;done)))<;>try simp -implicitDefEqProofs only [A8 hlt1,he,ZY,decide_eq_false h1,decide_eq_true h2,AA,go_sem])|(refine ⟨fun h=>?_,fun h=>?_⟩<;>first|(cases h;done)|try simp only [h])|fail))
       exact hno
     by_cases h3:m < lb
     · (repeat' (first|refine Run.ct rfl ?_|((first|refine Run.reg mixed ?_|refine Run.AD ?_|refine Run.Er GR (AF.le_refl _) ?_|refine AI.det (hnm) ?_|refine AI.det (hcl) ?_|(refine BO rfl (fun h=>?_) (fun h=>?_)<;>try (cases h;done)))<;>try simp -implicitDefEqProofs only [A8 hlt1,he,ZY,decide_eq_false h1,decide_eq_false h2,decide_eq_true h3,AA,go_sem])|(refine ⟨fun h=>?_,fun h=>?_⟩<;>first|(cases h;done)|try simp only [h])|fail))
       exact hno
     (repeat' (first|refine Run.ct rfl ?_|((first|refine Run.reg mixed ?_|refine Run.AD ?_|refine AI.det (hnm) ?_|refine AI.det (hcl) ?_|(refine BO rfl (fun h=>?_) (fun h=>?_)<;>try (cases h;done)))<;>try simp -implicitDefEqProofs only [A8 hlt1,he,hw1,ZY,decide_eq_false h1,decide_eq_false h2,decide_eq_false h3,AA,go_sem])|(refine ⟨fun h=>?_,fun h=>?_⟩<;>first|(cases h;done)|try simp only [h])|fail))
     exact ih (i1+1) ⟨by omega,hms ⟨Nat.not_lt.1 h1,(VY.1 (Nat.not_lt.1 h2)).2,hbd.1 (Nat.not_lt.1 h3)⟩⟩ (by omega)
   · rw [AG (by omega)] at hsm1
     (repeat' (first|refine Run.ct rfl ?_|((first|refine Run.reg mixed ?_|refine Run.AD ?_|refine Run.Er GR (AF.le_refl _) ?_|(refine BO rfl (fun h=>?_) (fun h=>?_)<;>try (cases h;done)))<;>try simp -implicitDefEqProofs only [B8 hlt1,AA,go_sem])|(refine ⟨fun h=>?_,fun h=>?_⟩<;>first|(cases h;done)|try simp only [h])|fail))
     exact hyes ⟨hsm,hsm1⟩
end Go.Ab
namespace Go.Ab
open Go.Proofs
theorem Xm {a b:List UInt8} (h:a.length+b.length≤1000000000):aL .add a b=some (.d (.str (a++b))):=by
 exact if_pos (BY h (by decide))
def dV (x s:Str):Str:=if s=[] then [] else s++x
theorem Sa (x:Str) (hxl:x.length≤100) (l:List Str) (hl:l.length≤1000) (hs:∀s∈l,s.length≤1000) (σ:AF):AK Tryz.prog 42 [.d (.sl (l.map Ak)),.d (.str x)] σ (fun v σ'=>v= .d (.sl ((l.map (dV x)).map Ak))∧σ'=σ):=by
 refine Tk (by simp) ?_
 rw [BR]
 (repeat' (first|refine Run.ct rfl ?_|((first|refine Run.reg mixed ?_|refine Run.AD ?_|(refine BO rfl (fun h=>?_) (fun h=>?_)<;>try (cases h;done)))<;>try simp -implicitDefEqProofs only [AA,go_sem])|(refine ⟨fun h=>?_,fun h=>?_⟩<;>first|(cases h;done)|try simp only [h])|fail))
 refine Run.Ay ?_
 refine Run.BB ((fun (a1:AV) (a8:AV) (a9:AV)=>fun (y:Nat×AV×AF)=>put 1 a1 (put 5 (y.2.1) (put 8 a8 (put 9 a9 (put 10 (.d (.int .i64 y.1)) U))))) _ _ _) (fun _=>E) (fun y=>y.2.2) (fun y=>y.1≤l.length∧Cl σ 9 1 (((l.take y.1).map (dV x)).map Ak) y.2.1 y.2.2) (fun y=>l.length - y.1) ?_ (0,.AU,σ) ⟨by simp,Cl.nil _ _ _⟩
 rintro ⟨i,v,τ⟩ ⟨hi,ho⟩ ih
 simp only at hi ho
 by_cases hlt:i < l.length
 · obtain ⟨s,hx⟩:=Aw hlt
   have he:=Aq (enc:=Ak) hx
   simp only [Ak] at he
   have hw1:=A7 (show i+1≤9000000000000000000 by omega)
   have hsl:=hs s (AS hx)
   have hnx:((l.take (i+1)).map (dV x)).map Ak=((l.take i).map (dV x)).map Ak++[[DV.str (dV x s)]]:=by
    rw [Am hx];simp [Ak]
   cases hs0:(s==[]) with
   |true=>
    have hsn:s=[]:=by simpa using hs0
    subst hsn
    rw [show dV x []=[] from rfl] at hnx
    (repeat' (first|refine Run.ct rfl ?_|((first|refine Run.reg mixed ?_|refine Run.AD ?_|(refine Dh.own ho rfl (by simp) (by simp;omega) (by decide) (fun v2 σ2 ho2 hbk=>?_))|(refine BO rfl (fun h=>?_) (fun h=>?_)<;>try (cases h;done)))<;>try simp -implicitDefEqProofs only [A8 hlt,he,hw1,C4,hs0,go_sem])|(refine ⟨fun h=>?_,fun h=>?_⟩<;>first|(cases h;done)|try simp only [h])|fail))
    (repeat' (first|refine Run.ct rfl ?_|((first|refine Run.reg mixed ?_|refine Run.AD ?_|(refine BO rfl (fun h=>?_) (fun h=>?_)<;>try (cases h;done)))<;>try simp -implicitDefEqProofs only [hw1,go_sem])|(refine ⟨fun h=>?_,fun h=>?_⟩<;>first|(cases h;done)|try simp only [h])|fail))
    exact ih (i+1,v2,σ2) ⟨by simp only;omega,by simp only;rw [hnx];exact ho2⟩ (by simp only;omega)
   |false=>
    have hsn:s≠[]:=by simpa using hs0
    rw [show dV x s=s++x from if_neg hsn] at hnx
    (repeat' (first|refine Run.ct rfl ?_|((first|refine Run.reg mixed ?_|refine Run.AD ?_|(refine Dh.own ho rfl (by simp) (by simp;omega) (by decide) (fun v2 σ2 ho2 hbk=>?_))|(refine BO rfl (fun h=>?_) (fun h=>?_)<;>try (cases h;done)))<;>try simp -implicitDefEqProofs only [A8 hlt,he,hw1,C4,hs0,Xm (a:=s) (b:=x) (by omega),go_sem])|(refine ⟨fun h=>?_,fun h=>?_⟩<;>first|(cases h;done)|try simp only [h])|fail))
    (repeat' (first|refine Run.ct rfl ?_|((first|refine Run.reg mixed ?_|refine Run.AD ?_|(refine BO rfl (fun h=>?_) (fun h=>?_)<;>try (cases h;done)))<;>try simp -implicitDefEqProofs only [hw1,go_sem])|(refine ⟨fun h=>?_,fun h=>?_⟩<;>first|(cases h;done)|try simp only [h])|fail))
    exact ih (i+1,v2,σ2) ⟨by simp only;omega,by simp only;rw [hnx];exact ho2⟩ (by simp only;omega)
 · rw [AG (by omega)] at ho
   (repeat' (first|refine Run.ct rfl ?_|((first|refine Run.reg mixed ?_|refine Run.AD ?_|(refine Run.A1 Nn (σ2:=σ) ho.le ?_)|(refine BO rfl (fun h=>?_) (fun h=>?_)<;>try (cases h;done)))<;>try simp -implicitDefEqProofs only [B8 hlt,ho.BF,go_sem])|(refine ⟨fun h=>?_,fun h=>?_⟩<;>first|(cases h;done)|try simp only [h])|fail))
   simp -implicitDefEqProofs only [ho.plain,ho.BF,go_sem]
end Go.Ab
