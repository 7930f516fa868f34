/- Reference scope: functions and alternatives. Reference scope: the look at a body. Conditions: none. -/
import Derived.Test.YtlckhmkeihbhmaaGreatXWd
set_option linter.unusedSimpArgs false
set_option linter.unusedVariables false
set_option maxRecDepth 4000
set_option maxHeartbeats 8000000
open List renaming length_map→AA,getElem?_map→Ag,take_of_length_le→AK,all_eq_true→Ah,contains_iff_mem→A8,any_cons→N4,take_append_drop→A3,map_nil→AQ,length_pos_iff→El,mem_cons_self→BG,getElem?_eq_some_iff→AR,flatMap_cons→Lb,length_append→AS,length_cons→A9,cons_append→Aa,append_assoc→Ae,map_cons→AG,length_take→Ai,mem_cons_of_mem→B6,mem_append_left→Nb,mem_map→Dr,append_nil→Ao,take→DJ,drop→Cq
open Bool renaming and_eq_true→AP,eq_iff_iff→Af,not_false→E7,and_true→As,or_false→GZ,false_and→B5,true_and→Au
open Except renaming map→CP
open Nat renaming min_eq_left→CO,zero_add→Am,add_assoc→N5
open Int renaming reduceBEq→AU,reduceToNat→DW
open Option renaming isSome_some→Bn,isSome_none→CC
namespace Go.Ab
open Go.Proofs
def wkB (ps:List DE) (fs:List FE) (dt:List Dat) (n:Int) (uv:AV):List AV:=[.d (.sl (ps.map DE.enc)),.d (.sl (fs.map FE.enc)),.d (.sl (dt.map Dat.enc)),.d (.int .i64 n),uv]
theorem OP (ps:List DE) (fs:List FE) (dt:List Dat) (n:Int) (uv:AV) (j:Nat) (s:Str) (σ:AF) (hfl:fs.length≤1000) (hb:σ.blk j=some (wkB ps fs dt n uv)):
 AL Tryz.prog 37 [.gp j 0,.d (.str s)] σ (fun v σ'=>v= .d (.int .i64 (E9 (Ct (CX fs) s)))∧σ'=σ):=by
 refine OD (by simp) ?_
 rw [BX,← KB]
 unfold wkB at hb
 (repeat' (first|refine Run.ct rfl ?_|((first|refine Run.reg mixed ?_|refine Run.AE ?_)<;>try simp -implicitDefEqProofs only [AA,hb,go_sem])|fail))
 refine Run.BD ?_
 refine Run.BK ((fun (a0:AV) (a1:AV)=>fun (i:Nat)=>put 0 a0 (put 1 a1 (put 5 (.d (.int .i64 i)) U))) _ _) (fun _=>E) (fun _=>σ) (fun i=>i≤fs.length∧∀x∈(CX fs).take i,(x==s)=false) (fun i=>fs.length - i) ?_ 0 ⟨by simp,by simp⟩
 rintro i ⟨hi,hno⟩ ih
 by_cases hlt:i < fs.length
 · obtain ⟨f,hf⟩:=BC hlt
   have he:=BA (enc:=FE.enc) hf
   have hx:(CX fs)[i]?=some f.name:=by rw [CX,Ag,hf];rfl
   obtain ⟨nm,fps,⟨o,n',u,ns,ks,al⟩⟩:=f
   simp only [FE.enc,Ex.A4] at he hx
   cases hp:(nm==s) with
   |true=>
    (repeat' (first|refine Run.ct rfl ?_|((first|refine Run.reg mixed ?_|refine Run.AE ?_|refine Run.A1 GD (AF.le_refl _) ?_)<;>try simp -implicitDefEqProofs only [Ac hlt,he,hb,BM,hp,AA,go_sem])|fail))
    rw [DX (p:=fun x=>x==s) hno hx hp];rfl
   |false=>
    have hw1:=A5 (show i+1≤9000000000000000000 by omega)
    (repeat' (first|refine Run.ct rfl ?_|((first|refine Run.reg mixed ?_|refine Run.AE ?_)<;>try simp -implicitDefEqProofs only [Ac hlt,he,hb,hw1,BM,hp,AA,go_sem])|fail))
    exact ih (i+1) ⟨by omega,Eb (p:=fun x=>x==s) hno hx hp⟩ (by omega)
 · (repeat' (first|refine Run.ct rfl ?_|((first|refine Run.reg mixed ?_|refine Run.AE ?_|refine Run.A1 GD (AF.le_refl _) ?_)<;>try simp -implicitDefEqProofs only [Bi hlt,hb,AA,go_sem])|fail))
   rw [AK (by rw [CX,AA];omega)] at hno
   rw [DY (p:=fun x=>x==s) hno];rfl
theorem Dh.form {σ τ:AF} {e s:Nat} {rows:List (List DV)} {v:AV} (h:Dh σ e s rows v τ):(v= .AZ∧rows=[])∨∃t,v= .own t e s rows:=by
 obtain ⟨σ1,ha,_⟩:=h.app
 unfold NM at ha
 split at ha
 · cases ha;exact .inl ⟨rfl,rfl⟩
 · split at ha
   · rename_i hc
     cases ha
     obtain ⟨rfl,rfl,_⟩:=hc
     exact .inr ⟨_,rfl⟩
   · cases ha
 · cases ha
theorem iT {xs:List (Nat×Nat)} (h:exB xs=true) (q:Nat):(xs.map (·.2)).any (fun c=>c==q)=xs.contains (Cn xs,q):=by
 cases xs with
 |nil=>rfl
 |cons x l=>
  simp only [exB,AP,Ah,beq_iff_eq] at h
  rw [Af,A8]
  simp only [List.any_map,List.any_eq_true,Function.comp,beq_iff_eq,Cn]
  constructor
  · rintro ⟨y,hy,rfl⟩
    have:=h.1 y hy
    rw [← this];exact hy
  · intro hm
    exact ⟨_,hm,rfl⟩
theorem eX (xs:List (Nat×Nat)) (hne:xs≠[]) (d k:Nat):(exB xs&&(d==Cn xs)&& !((xs.map (·.2)).any (fun c=>c==k)))=exB (xs++[(d,k)]):=by
 rw [XZ hne]
 cases he:exB xs with
 |false=>simp
 |true=>
  rw [iT he]
  by_cases hd:d=Cn xs
  · simp [hd]
  · have h1:(d==Cn xs)=false:=by simpa using hd
    have h2:(d != Cn xs)=true:=by simpa using hd
    rw [h1,h2];rfl
theorem bG {dt:List Dat} {xs:List (Nat×Nat)} (hne:xs≠[]):Tp dt xs=(exB xs&&decide (xs.length=Fl dt (Cn xs))):=by
 cases xs with
 |nil=>exact absurd rfl hne
 |cons x l=>rfl
def X2 (xs:List (Nat×Nat)):Int:=match xs with|[]=>-1|x::_=>x.1
theorem e8 {xs:List (Nat×Nat)} (h:xs≠[]) (y:Nat×Nat):X2 (xs++[y])=X2 xs:=by
 cases xs with
 |nil=>exact absurd rfl h
 |cons x l=>rfl
theorem e7 {xs:List (Nat×Nat)} (h:xs≠[]):X2 xs=Cn xs:=by
 cases xs with
 |nil=>exact absurd rfl h
 |cons x l=>rfl
set_option maxHeartbeats 4000000 in
theorem ZY (Q:AV→AF→Prop) (rest:List CI) (j:Nat) (alv:AV) (i:Nat) (ys:List Nat) (sv:AV) (σ τ:AF) (ho:Dh σ 3 1 (ys.map HX) sv τ) (f d c:Nat) (s0:Bool) (hlen:ys.length≤1000000) (hs0:s0=true→d=f) (halp:∀k,alv.BO k=false)
 (hfin:Run D4 Q rest (put 0 (.gp j 0) (put 1 alv (put 5 sv (put 6 (.d (.int .i64 f)) (put 7 (.d (.bool (s0&& !(ys.any (fun q=>q==c))))) (put 8 (.d (.int .i64 i)) (put 9 (.d (.int .i64 d)) (put 10 (.d (.int .i64 c)) (put 12 (.d (.int .i64 ys.length)) (put 73 (.d (.bool false)) U)))))))))) E τ):
 Run D4 Q (.code (.loop J9)::.blk 2::rest) (put 0 (.gp j 0) (put 1 alv (put 5 sv (put 6 (.d (.int .i64 f)) (put 7 (.d (.bool s0)) (put 8 (.d (.int .i64 i)) (put 9 (.d (.int .i64 d)) (put 10 (.d (.int .i64 c)) (put 12 (.d (.int .i64 0)) U))))))))) E τ:=by
 refine Run.BD ?_
 refine Run.BK ((fun (a0:AV) (a1:AV) (a5:AV) (a6:AV) (a8:AV) (a9:AV) (a10:AV)=>fun (q:Nat)=>put 0 a0 (put 1 a1 (put 5 a5 (put 6 a6 (put 7 (.d (.bool (s0&& !((ys.take q).any (fun q=>q==c))))) (put 8 a8 (put 9 a9 (put 10 a10 (put 12 (.d (.int .i64 q)) U))))))))) _ _ _ _ _ _ _) (fun _=>E) (fun _=>τ) (fun q=>q≤ys.length) (fun q=>ys.length - q) ?_ 0 (by simp)|>(fun h=>by simpa using h)
 rintro q hq ih
 rcases ho.form with ⟨rfl,hr⟩|⟨tk,rfl⟩
 · have:ys=[]:=by simpa using hr
   subst this
   have hq0:q=0:=by simpa using hq
   subst hq0
   have h00:decide ((0:Int) < 0)=false:=by decide
   clear ih
   (repeat' (first|refine Run.ct rfl ?_|((first|refine Run.reg mixed ?_|refine Run.AE ?_)<;>try simp -implicitDefEqProofs only [List.take_nil,List.any_nil,E7,As,h00,halp,go_sem])|(refine ⟨fun h=>?_,fun h=>?_⟩<;>first|(cases h;done)|try simp only [h])|fail))
   simpa using hfin
 by_cases hlt:q < ys.length
 · obtain ⟨y,hy⟩:=BC hlt
   have hw1:=A5 (show q+1≤9000000000000000000 by omega)
   have hi1:=ih (q+1) (by omega) (by omega)
   simp only at hi1
   rw [BH hy,List.any_append,N4,List.any_nil,GZ] at hi1
   have hey:=BA (enc:=HX) hy
   rw [Xh] at hey
   clear ih
   cases hb:(s0&& !((ys.take q).any (fun q=>q==c))) with
   |false=>
    have hb2:(s0&& !((ys.take q).any (fun q=>q==c)||y==c))=false:=by
     rw [Bool.not_or,← Bool.and_assoc,hb,B5]
    rw [hb2] at hi1
    (repeat' (first|refine Run.ct rfl ?_|((first|refine Run.reg mixed ?_|refine Run.AE ?_)<;>try simp -implicitDefEqProofs only [Ac hlt,AA,hw1,hb,halp,go_sem])|fail))
    exact hi1
   |true=>
    have hs:s0=true:=by
     cases s0 with
     |true=>rfl
     |false=>simp at hb
    have hdf:=hs0 hs
    subst hdf
    have hb2:(s0&& !((ys.take q).any (fun q=>q==c)||y==c))=!(y==c):=by
     rw [Bool.not_or,← Bool.and_assoc,hb,Au]
    rw [hb2] at hi1
    have hdd:((d:Int)==(d:Int))=true:=by simp
    have hyc:((y:Int)==(c:Int))=(y==c):=nB y c
    (repeat' (first|refine Run.ct rfl ?_|((first|refine Run.reg mixed ?_|refine Run.AE ?_)<;>try simp -implicitDefEqProofs only [Ac hlt,AA,hw1,hb,halp,hey,hdd,hyc,go_sem])|fail))
    exact hi1
 · have hqe:q=ys.length:=by omega
   subst hqe
   have htk:ys.take ys.length=ys:=List.take_length
   (repeat' (first|refine Run.ct rfl ?_|((first|refine Run.reg mixed ?_|refine Run.AE ?_)<;>try simp -implicitDefEqProofs only [Bi hlt,AA,htk,halp,go_sem])|fail))
   exact hfin
theorem ZZ (ps:List DE) (fs:List FE) (dt:List Dat) (hdt:QS dt) (n0:Int) (uv:AV) (j:Nat) (al:List Al) (σ:AF) (hal:al.length≤1000000) (hne0:al≠[]) (hb:σ.blk j=some (wkB ps fs dt n0 uv)):
 AL Tryz.prog 68 [.gp j 0,.d (.sl (al.map Al.enc))] σ (fun v σ'=>v= .d (.int .i64 (KE dt al))∧σ'=σ):=by
 refine Rd (by simp) ?_
 rw [BX]
 unfold wkB at hb
 (repeat' (first|refine Run.ct rfl ?_|((first|refine Run.reg mixed ?_|refine Run.AE ?_)<;>try simp -implicitDefEqProofs only [AA,go_sem])|fail))
 refine Run.BD ?_
 refine Run.BK ((fun (a0:AV) (a1:AV)=>fun (y:Nat×List (Nat×Nat)×AV×AF)=>put 0 a0 (put 1 a1 (put 5 (y.2.2.1) (put 6 (.d (.int .i64 (X2 y.2.1))) (put 7 (.d (.bool (exB y.2.1))) (put 8 (.d (.int .i64 y.1)) U)))))) _ _) (fun _=>E) (fun y=>y.2.2.2)
  (fun y=>y.1≤al.length∧y.2.1.length=y.1∧Cg dt (al.take y.1)= .ok y.2.1∧Dh σ 3 1 ((y.2.1.map (·.2)).map HX) y.2.2.1 y.2.2.2) (fun y=>al.length - y.1) ?_ (0,[],.AZ,σ) ⟨by simp,rfl,rfl,Dh.nil _ _ _⟩
 rintro ⟨i,xs,sv,τ⟩ ⟨hi,hlx,hok,ho⟩ ih
 simp only at hi hlx hok ho
 have hb1:=ho.le.blk j _ hb
 by_cases hlt:i < al.length
 · obtain ⟨a,ha⟩:=BC hlt
   have he:=BA (enc:=Al.enc) ha
   have hw1:=A5 (show i+1≤9000000000000000000 by omega)
   have hall:Cg dt al=(Cg dt (a::al.drop (i+1))).map (xs++·):=by
    conv=>lhs;rw [← A3 i al,B3 ha]
    exact KD dt _ hok
   have hsn:Cg dt (al.take (i+1))=(Cg dt [a]).map (xs++·):=by
    rw [BH ha];exact KD dt _ hok
   obtain ⟨c,vs,o,n,u,ns,ks,aa⟩:=a
   rw [Cg] at hall hsn
   simp only [Al.A4] at he
   have hctr:=LD dt hdt c τ
   rw [dsA] at hctr
   have herr:∀e:Int,Cg dt al= .error e→KE dt al=e:=fun e h=>by rw [KE,h]
   cases hc:IX dt c with
   |none=>
    rw [hc] at hctr hall
    simp only [R4] at hctr
    (repeat' (first|refine Run.ct rfl ?_|((first|refine Run.reg mixed ?_|refine Run.AE ?_|(refine Run.A1 DZ ho.le ?_)|refine AI.det (hctr) ?_)<;>try simp -implicitDefEqProofs only [Ac hlt,he,hb1,AA,go_sem])|fail))
    rw [herr 3 (by rw [hall];rfl)]
   |some x=>
   rw [hc] at hctr hall hsn
   simp only [R4] at hctr hall hsn
   obtain ⟨d,cc,h1,h2,_⟩:=KA hc
   have har:=M7 (s:=[]) h1 h2
   have hd:=M8 h1
   have hcc:=M6 h2
   rw [har] at hall hsn
   by_cases hA:vs.length≠cc.args.length
   · rw [if_pos hA] at hall
     have hA':((vs.length:Int) != (cc.args.length:Int))=true:=by rw [VB];simpa using hA
     (repeat' (first|refine Run.ct rfl ?_|((first|refine Run.reg mixed ?_|refine Run.AE ?_|(refine Run.A1 DZ ho.le ?_)|refine AI.det (hctr) ?_)<;>try simp -implicitDefEqProofs only [Ac hlt,he,hb1,hd,hcc,AA,Dt,hA',go_sem])|fail))
     rw [herr 5 (by rw [hall];rfl)]
   rw [if_neg hA] at hall hsn
   have hA':((vs.length:Int) != (cc.args.length:Int))=false:=by rw [VB];simpa using hA
   have hrep:=LF vs τ
   cases hB:CA vs with
   |true=>
    rw [hB] at hrep hall
    rw [if_pos rfl] at hall
    (repeat' (first|refine Run.ct rfl ?_|((first|refine Run.reg mixed ?_|refine Run.AE ?_|(refine Run.A1 DZ ho.le ?_)|refine AI.det (hctr) ?_|refine AI.det (hrep) ?_)<;>try simp -implicitDefEqProofs only [Ac hlt,he,hb1,hd,hcc,AA,Dt,hA',go_sem])|fail))
    rw [herr 4 (by rw [hall];rfl)]
   |false=>
   rw [hB] at hrep hsn
   rw [if_neg (by simp)] at hsn
   simp only [Cg,CP] at hsn
   rw [show xs++[x]=xs++[(x.1,x.2)] from rfl] at hsn
   have hgo:∀(sv':AV) (τ':AF),Dh σ 3 1 (((xs++[(x.1,x.2)]).map (·.2)).map HX) sv' τ'→_:=fun sv' τ' h=>ih (i+1,xs++[(x.1,x.2)],sv',τ') ⟨by simp only;omega,by simp [hlx],hsn,h⟩ (by simp only;omega)
   simp only at hgo
   clear hall hsn ih herr
   have hL0:=fun Q rest f s0 (hs0:s0=true→x.1=f)=>ZY Q rest j (.d (.sl (al.map Al.enc))) i (xs.map (·.2)) sv σ τ ho f x.1 x.2 s0 (by rw [AA];omega) hs0 (fun _=>rfl)
   by_cases hx0:xs=[]
   · subst hx0
     have hm1:decide ((-1:Int) < 0)=true:=by decide
     have hself:((x.1:Int)==(x.1:Int))=true:=by simp
     (repeat' (first|refine Run.ct rfl ?_|((first|refine Run.reg mixed ?_|refine Run.AE ?_|refine AI.det (hctr) ?_|refine AI.det (hrep) ?_)<;>try simp -implicitDefEqProofs only [Ac hlt,he,hb1,hd,hcc,AA,Dt,hA',X2,exB,hm1,hself,ho.BO,go_sem])|fail))
     have h1:exB ([]++[(x.1,x.2)])=true:=by simp [exB]
     refine hL0 _ _ x.1 true (fun _=>rfl) ?_
     simp only [AQ,List.any_nil,E7,As]
     (repeat' (first|refine Run.ct rfl ?_|((first|refine Run.reg mixed ?_|refine Run.AE ?_|(refine EY.own ho rfl (by simp) (by simp) (by decide) (fun v2 τ2 ho2 hbk=>?_)))<;>try simp -implicitDefEqProofs only [hw1,AA,ho.BO,go_sem])|fail))
     have hg:=hgo v2 τ2 (by simpa [HX] using ho2)
     rw [h1,show X2 ([]++[(x.1,x.2)])=x.1 from rfl] at hg
     exact hg
   · have hf0:decide ((Cn xs:Int) < 0)=false:=decide_eq_false (by omega)
     have hdd:((x.1:Int)==(Cn xs:Int))=(x.1==Cn xs):=nB _ _
     have hsl:=El.2 hx0
     have hex:=eX xs hx0 x.1 x.2
     rw [e8 hx0] at hgo
     have hfi:X2 xs=(Cn xs:Int):=e7 hx0
     rw [hfi,← hex] at hgo
     cases hxb:exB xs with
     |true=>
      rw [hxb,Au] at hgo
      (repeat' (first|refine Run.ct rfl ?_|((first|refine Run.reg mixed ?_|refine Run.AE ?_|refine AI.det (hctr) ?_|refine AI.det (hrep) ?_)<;>try simp -implicitDefEqProofs only [Ac hlt,he,hb1,hd,hcc,AA,Dt,hA',hfi,hf0,hdd,hxb,ho.BO,go_sem])|fail))
      refine hL0 _ _ (Cn xs) (x.1==Cn xs) (fun h=>by simpa using h) ?_
      (repeat' (first|refine Run.ct rfl ?_|((first|refine Run.reg mixed ?_|refine Run.AE ?_|(refine EY.own ho rfl (by simp) (by simp;omega) (by decide) (fun v2 τ2 ho2 hbk=>?_)))<;>try simp -implicitDefEqProofs only [hw1,AA,ho.BO,go_sem])|fail))
      exact hgo v2 τ2 (by simpa [HX] using ho2)
     |false=>
      rw [hxb,B5,B5] at hgo
      (repeat' (first|refine Run.ct rfl ?_|((first|refine Run.reg mixed ?_|refine Run.AE ?_|refine AI.det (hctr) ?_|refine AI.det (hrep) ?_)<;>try simp -implicitDefEqProofs only [Ac hlt,he,hb1,hd,hcc,AA,Dt,hA',hfi,hf0,hdd,hxb,ho.BO,go_sem])|fail))
      refine hL0 _ _ (Cn xs) false (fun h=>by cases h) ?_
      rw [B5]
      (repeat' (first|refine Run.ct rfl ?_|((first|refine Run.reg mixed ?_|refine Run.AE ?_|(refine EY.own ho rfl (by simp) (by simp;omega) (by decide) (fun v2 τ2 ho2 hbk=>?_)))<;>try simp -implicitDefEqProofs only [hw1,AA,ho.BO,go_sem])|fail))
      exact hgo v2 τ2 (by simpa [HX] using ho2)
 · rw [AK (by omega)] at hok
   have hne:xs≠[]:=by
    intro e;subst e;simp at hlx
    have:=El.2 hne0;omega
   have hres:KE dt al=if exB xs&&decide (xs.length=Fl dt (Cn xs)) then 0 else 7:=by rw [KE,hok];simp only;rw [bG hne]
   have hfi:X2 xs=(Cn xs:Int):=e7 hne
   have hial:i=al.length:=by omega
   obtain ⟨hbd,hfd⟩:(∀x∈xs,x.2 < Fl dt x.1)∧Cn xs < dt.length:=by
    refine ⟨O9 hok,?_⟩
    cases xs with
    |nil=>exact absurd rfl hne
    |cons x l=>
     have:=O9 hok x (BG ..)
     simp only [Cn]
     unfold Fl at this
     cases hd:dt[x.1]? with
     |none=>rw [hd] at this;simp at this
     |some d=>exact (AR.1 hd).1
   obtain ⟨d,hd⟩:=BC hfd
   have hed:=M8 hd
   have hnc:Fl dt (Cn xs)=d.cons.length:=UN hd
   have hne2:((al.length:Int) != (d.cons.length:Int))=!decide (xs.length=Fl dt (Cn xs)):=by
    rw [VB,hnc,hlx,hial,Af];simp
   cases hxb:exB xs with
   |false=>
    rw [hxb,B5] at hres
    (repeat' (first|refine Run.ct rfl ?_|((first|refine Run.reg mixed ?_|refine Run.AE ?_|(refine Run.A1 DZ ho.le ?_))<;>try simp -implicitDefEqProofs only [Bi hlt,hxb,AA,go_sem])|fail))
    rw [hres];rfl
   |true=>
    rw [hxb,Au] at hres
    cases hde:decide (xs.length=Fl dt (Cn xs)) with
    |true=>
     rw [hde] at hne2 hres
     (repeat' (first|refine Run.ct rfl ?_|((first|refine Run.reg mixed ?_|refine Run.AE ?_|(refine Run.A1 DZ ho.le ?_))<;>try simp -implicitDefEqProofs only [Bi hlt,hxb,hb1,hfi,hed,hne2,AA,go_sem])|fail))
     rw [hres];rfl
    |false=>
     rw [hde] at hne2 hres
     (repeat' (first|refine Run.ct rfl ?_|((first|refine Run.reg mixed ?_|refine Run.AE ?_|(refine Run.A1 DZ ho.le ?_))<;>try simp -implicitDefEqProofs only [Bi hlt,hxb,hb1,hfi,hed,hne2,AA,go_sem])|fail))
     rw [hres];rfl
end Go.Ab
namespace Go.Ab
open Go.Proofs
def SE (fs:List FE) (x:Ex×List Str):List Nat:=if x.1.op=4∧x.2.contains x.1.name=false then (match Ct (CX fs) x.1.name with|some f=>[f]|none=>[]) else []
def Ew (fs:List FE) (l:List (Ex×List Str)):List Nat:=l.flatMap (SE fs)
theorem YM (fs:List FE) (x:Ex×List Str):(SE fs x).length≤1:=by
 unfold SE
 split
 · split<;>simp
 · simp
theorem SF (fs:List FE):∀l:List (Ex×List Str),(Ew fs l).length≤l.length
 |[]=>by simp [Ew]
 |x::l=>by
  have h1:=SF fs l
  have h2:=YM fs x
  simp only [Ew,Lb,AS,A9] at h1 ⊢
  omega
theorem WM (fs:List FE) (l m:List (Ex×List Str)):Ew fs (l++m)=Ew fs l++Ew fs m:=by simp [Ew]
theorem Zf (fs:List FE) (x:Ex×List Str) (m:List (Ex×List Str)):Ew fs (x::m)=SE fs x++Ew fs m:=by simp [Ew]
theorem Nt {vis:Ex→List Str→Int}:∀ {l:List (Ex×List Str)} (m:List (Ex×List Str)),EL vis l=none→EL vis (l++m)=(EL vis m).map fun y=>(y.1+l.length,y.2)
 |[],m,_=>by simp
 |x::l,m,h=>by
  rw [EL] at h
  split at h
  · rename_i h0
    have hl:EL vis l=none:=by simpa using h
    rw [Aa,EL,if_pos h0,Nt m hl]
    cases EL vis m with
    |none=>rfl
    |some y=>simp;omega
  · cases h
theorem LV {vis:Ex→List Str→Int}:∀ {l:List (Ex×List Str)} (m:List (Ex×List Str)) {r:Nat×Int},EL vis l=some r→EL vis (l++m)=some r
 |[],m,r,h=>by cases h
 |x::l,m,r,h=>by
  rw [EL] at h
  rw [Aa,EL]
  split at h
  · rename_i h0
    rw [if_pos h0]
    cases hl:EL vis l with
    |none=>rw [hl] at h;cases h
    |some y=>rw [hl] at h;rw [LV m hl];exact h
  · rename_i h0
    rw [if_neg h0];exact h
theorem QG (sc:List Str) (m:List Al):∀l:List Al,Bw sc (l++m)=Bw sc l++Bw sc m
 |[]=>by rw [Bw];rfl
 |a::l=>by rw [Aa,Bw,Bw,QG sc m l,Ae]
def WS (σ0:AF) (j:Nat) (ps:List DE) (fs:List FE) (dt:List Dat) (n:Nat) (us:List Nat) (τ:AF):Prop:=
 ∃uv,τ.blk j=some (wkB ps fs dt n uv)∧Dh σ0 3 1 (us.map HX) uv τ∧σ0.blk j=none
theorem WS.le {σ0:AF} {j:Nat} {ps:List DE} {fs:List FE} {dt:List Dat} {n:Nat} {us:List Nat} {τ:AF} (h:WS σ0 j ps fs dt n us τ):σ0.le τ:=by
 obtain ⟨uv,_,h,_⟩:=h;exact h.le
def okX (x:Ex×List Str):Prop:=X4 x.1∧(x.1.op=10→x.1.alts≠[])
theorem TN (o:Int) (n:Str) (u:Int) (ns:List Str) (ks:List Ex) (al:List Al) (sc:List Str):Ba (.mk o n u ns ks al) sc=(.mk o n u ns ks al,sc)::(Bf o n ns sc 0 ks++Bw sc al):=by rw [Ba]
theorem Vq {vis:Ex→List Str→Int} {x:Ex×List Str} {l:List (Ex×List Str)} (h:vis x.1 x.2=0):EL vis (x::l)=(EL vis l).map fun y=>(y.1+1,y.2):=by rw [EL,if_pos h]
theorem Yo {vis:Ex→List Str→Int} {x:Ex×List Str} {l:List (Ex×List Str)} (h:vis x.1 x.2≠0):EL vis (x::l)=some (0,vis x.1 x.2):=by rw [EL,if_neg h]
def JT (σ0:AF) (j:Nat) (ps:List DE) (fs:List FE) (dt:List Dat) (e:Ex) (sc:List Str) (n:Nat) (us:List Nat) (v:AV) (σ':AF):Prop:=
 match EL (E0 fs dt) (Ba e sc) with
 |none=>v= .tup [.d (.int .i64 0),.d (.int .i64 0)]∧WS σ0 j ps fs dt (n+e.size) (us++Ew fs (Ba e sc)) σ'
 |some (k,c)=>v= .tup [.d (.int .i64 c),.d (.int .i64 ((n+k:Nat):Int))]∧σ0.le σ'
set_option maxRecDepth 4000 in
set_option maxHeartbeats 16000000 in
theorem Xs (σ0:AF) (j:Nat) (ps:List DE) (fs:List FE) (dt:List Dat) (hdt:QS dt) (hfl:fs.length≤1000):
 ∀(N:Nat) (e:Ex) (sc:List Str) (n:Nat) (us:List Nat) (τ:AF),e.size≤N→n+e.size≤1000000→us.length≤n→sc.length≤1000000→(∀x∈Ba e sc,okX x∧x.2.length≤1000000)→WS σ0 j ps fs dt n us τ→
  AL Tryz.prog 34 [.gp j 0,exA e,.d (.sl (sc.map Aw))] τ (JT σ0 j ps fs dt e sc n us):=by
 intro N
 induction N with
 |zero=>intro e sc n us τ h;have:=Ex.size_pos e;omega
 |succ N ihN=>
 rintro ⟨o,nm,u,ns,ks,al⟩ sc n us τ hN hn1 hus hscl hgood ⟨uv,hb,ho,hj0⟩
 simp only [Ex.size] at hN hn1
 have hlen:=Ex.C8 ks
 have hlen2:=Al.C8 al
 refine Qq (by simp) ?_
 rw [LO,exA,Ex.A4]
 simp only [AG,AQ]
 generalize hQ:JT σ0 j ps fs dt (.mk o nm u ns ks al) sc n us=Q
 have hw0:IntKind.i64.wrap ((n:Int)+1)=((n+1:Nat):Int):=A5 (by omega)
 unfold wkB at hb
 have hcl:Z8 (sc.map Aw) none (some (.d (.int .i64 (sc.length:Int)))) (some (.d (.int .i64 (sc.length:Int)))) 1=some (.clip (sc.map Aw)):=by
  simp [Z8,Sb,PC]
  rw [AK (by simp)]
 have hW1:WS σ0 j ps fs dt (n+1) us (τ.AO j (wkB ps fs dt ((n+1:Nat):Int) uv)):=⟨uv,by rw [AM,if_pos rfl],ho.set hj0 _,hj0⟩
 unfold wkB at hW1
 have hvis:=LK fs dt o nm u ns ks al sc
 have hpre:=TN o nm u ns ks al sc
 have hErr0:E0 fs dt (.mk o nm u ns ks al) sc≠0→∀τ'',σ0.le τ''→Q (.tup [.d (.int .i64 (E0 fs dt (.mk o nm u ns ks al) sc)),.d (.int .i64 (n:Int))]) τ'':=fun h τ'' hle=>by
  rw [← hQ,JT,hpre,Yo h]
  exact ⟨by simp,hle⟩
 have hErr:E0 fs dt (.mk o nm u ns ks al) sc=0→∀(k:Nat) (c:Int),EL (E0 fs dt) (Bf o nm ns sc 0 ks++Bw sc al)=some (k,c)→∀τ'',σ0.le τ''→Q (.tup [.d (.int .i64 c),.d (.int .i64 ((n+1+k:Nat):Int))]) τ'':=fun h k c hk τ'' hle=>by
  rw [← hQ,JT,hpre,Vq h,hk]
  rw [show n+1+k=n+(k+1) by omega]
  exact ⟨rfl,hle⟩
 have hOk:E0 fs dt (.mk o nm u ns ks al) sc=0→EL (E0 fs dt) (Bf o nm ns sc 0 ks++Bw sc al)=none→∀τ'',WS σ0 j ps fs dt (n+1+Ex.A2 ks+Al.A2 al) (us++SE fs (.mk o nm u ns ks al,sc)++Ew fs (Bf o nm ns sc 0 ks++Bw sc al)) τ''→Q (.tup [.d (.int .i64 0),.d (.int .i64 0)]) τ'':=fun h hk τ'' hW=>by
  rw [← hQ,JT,hpre,Vq h,hk]
  refine ⟨rfl,?_⟩
  rw [Zf,← Ae,Ex.size,show n+(1+Ex.A2 ks+Al.A2 al)=n+1+Ex.A2 ks+Al.A2 al by omega]
  exact hW
 rw [hpre] at hgood
 clear hQ hpre
 have hx0:=YM fs (.mk o nm u ns ks al,sc)
 have h00:((0:Int) != 0)=false:=by decide
 have key:E0 fs dt (.mk o nm u ns ks al) sc=0→∀τ':AF,WS σ0 j ps fs dt (n+1) (us++SE fs (.mk o nm u ns ks al,sc)) τ'→
  Run Dl Q [.code (.loop Im),.blk 1,.code (.seq (.seq (.reg [⟨some 20,.mv (.c (.d (.int .i64 0))),none⟩] [0,2,4,20]) (.block 4 (.loop Io))) (.seq (.reg [⟨some 6,.mv (.c (.d (.int .i64 0))),none⟩,⟨some 7,.mv (.c (.d (.int .i64 0))),none⟩] [6,7]) .ret))]
   (put 0 (.gp j 0) (put 2 (.clip (sc.map Aw)) (put 4 (.lp 4 0) (put 16 (.d (.int .i64 0)) U)))) (Az 4 [.d (.int .i64 o),.d (.str nm),.d (.int .i64 u),.d (.sl (ns.map Aw)),.d (.sl (ks.map Ex.enc)),.d (.sl (al.map Al.enc))] E) τ':=by
  intro hv0 τ' hW'
  replace hErr:=hErr hv0
  replace hOk:=hOk hv0
  clear hErr0 hvis hb ho hW1
  generalize SE fs (.mk o nm u ns ks al,sc)=ux at hOk hW' hx0
  refine Run.BD ?_
  refine Run.BK ((fun (a0:AV) (a2:AV) (a4:AV)=>fun (y:Nat×AF)=>put 0 a0 (put 2 a2 (put 4 a4 (put 16 (.d (.int .i64 y.1)) U)))) _ _ _) (fun _=>Az 4 [.d (.int .i64 o),.d (.str nm),.d (.int .i64 u),.d (.sl (ns.map Aw)),.d (.sl (ks.map Ex.enc)),.d (.sl (al.map Al.enc))] E) (fun y=>y.2)
   (fun y=>y.1≤ks.length∧EL (E0 fs dt) (Bf o nm ns sc 0 (ks.take y.1))=none∧WS σ0 j ps fs dt (n+1+Ex.A2 (ks.take y.1)) (us++ux++Ew fs (Bf o nm ns sc 0 (ks.take y.1))) y.2)
   (fun y=>ks.length - y.1) ?_ (0,τ') ⟨by simp,rfl,by simpa [Ex.A2,Bf,Ew] using hW'⟩
  rintro ⟨i,τi⟩ ⟨hi,hno,hWi⟩ ih
  simp only at hi hno hWi
  by_cases hlt:i < ks.length
  · obtain ⟨kd,hx⟩:=BC hlt
    have he:=BA (enc:=Ex.enc) hx
    have hw1:=A5 (show i+1≤9000000000000000000 by omega)
    have hksp:Bf o nm ns sc 0 ks=Bf o nm ns sc 0 (ks.take i)++(Ba kd (GJ o nm ns sc i)++Bf o nm ns sc (i+1) (ks.drop (i+1))):=by
     conv=>lhs;rw [← A3 i ks,B3 hx]
     rw [Rs,Bf,Ai,CO hi,Am]
    have hsn:Bf o nm ns sc 0 (ks.take (i+1))=Bf o nm ns sc 0 (ks.take i)++Ba kd (GJ o nm ns sc i):=by
     rw [BH hx,QH,Ai,CO hi,Am]
    have hszs:=Ex.GO hx
    have hkl:Ex.A2 (ks.take i)+kd.size≤Ex.A2 ks:=by
     have:=congrArg List.length hksp
     rw [Et,AS,AS,Et,K4] at this
     omega
    have hmem:∀x∈Ba kd (GJ o nm ns sc i),x∈(.mk o nm u ns ks al,sc)::(Bf o nm ns sc 0 ks++Bw sc al):=fun x hm=>by
     refine B6 _ (Nb _ ?_)
     rw [hksp]
     exact List.mem_append_right _ (Nb _ hm)
    have hil:(GJ o nm ns sc i).length≤1000000:=by
     obtain ⟨ko,kn,ku,kns,kks,kal⟩:=kd
     exact (hgood _ (hmem (.mk ko kn ku kns kks kal,GJ o nm ns sc i) (by rw [TN];exact BG ..))).2
    have hul:=SF fs (Bf o nm ns sc 0 (ks.take i))
    rw [Et] at hul
    have hk:=ihN kd (GJ o nm ns sc i) (n+1+Ex.A2 (ks.take i)) _ τi (by omega) (by omega) (by simp only [AS];omega) hil (fun x hm=>hgood x (hmem x hm)) hWi
    have hck:∀iv:AV,iv.plain= .d (.sl ((GJ o nm ns sc i).map Aw))→AL Tryz.prog 34 [.gp j 0,exA kd,iv] τi (JT σ0 j ps fs dt kd (GJ o nm ns sc i) (n+1+Ex.A2 (ks.take i)) (us++ux++Ew fs (Bf o nm ns sc 0 (ks.take i)))):=fun iv hiv=>by
     refine AL.plain ?_
     have hp:∀l:List DV,AV.DI (l.map AV.d)=l.map AV.d:=fun l=>by
      induction l with
      |nil=>rfl
      |cons x l ih=>rw [AG,AV.DI,G0,ih]
     simp only [AV.DI,hiv,UQ,exA,I9,hp]
     exact hk
    clear hk
    have hcase:∀(v:AV) (τ2:AF),JT σ0 j ps fs dt kd (GJ o nm ns sc i) (n+1+Ex.A2 (ks.take i)) (us++ux++Ew fs (Bf o nm ns sc 0 (ks.take i))) v τ2→
     (v= .tup [.d (.int .i64 0),.d (.int .i64 0)]∧EL (E0 fs dt) (Ba kd (GJ o nm ns sc i))=none∧WS σ0 j ps fs dt (n+1+Ex.A2 (ks.take i)+kd.size) (us++ux++Ew fs (Bf o nm ns sc 0 (ks.take i))++Ew fs (Ba kd (GJ o nm ns sc i))) τ2)∨
     (∃k' c,v= .tup [.d (.int .i64 c),.d (.int .i64 ((n+1+Ex.A2 (ks.take i)+k':Nat):Int))]∧c≠0∧σ0.le τ2∧EL (E0 fs dt) (Ba kd (GJ o nm ns sc i))=some (k',c)):=fun v τ2 hq=>by
     unfold JT at hq
     cases hek:EL (E0 fs dt) (Ba kd (GJ o nm ns sc i)) with
     |none=>rw [hek] at hq;exact .inl ⟨hq.1,rfl,hq.2⟩
     |some r=>obtain ⟨k',c⟩:=r;rw [hek] at hq;exact .inr ⟨k',c,hq.1,Qi hek,hq.2,rfl⟩
    have hnext:=fun (τ2:AF) (h1:EL (E0 fs dt) (Ba kd (GJ o nm ns sc i))=none) (h2:WS σ0 j ps fs dt (n+1+Ex.A2 (ks.take i)+kd.size) (us++ux++Ew fs (Bf o nm ns sc 0 (ks.take i))++Ew fs (Ba kd (GJ o nm ns sc i))) τ2)=>
     ih (i+1,τ2) ⟨by simp only;omega,by simp only;rw [hsn,Nt _ hno,h1];rfl,by simp only;rw [hszs,hsn,WM,← Ae,← N5];exact h2⟩ (by simp only;omega)
    simp only at hnext
    have hbad:∀(k':Nat) (c:Int),EL (E0 fs dt) (Ba kd (GJ o nm ns sc i))=some (k',c)→∀τ2,σ0.le τ2→Q (.tup [.d (.int .i64 c),.d (.int .i64 ((n+1+Ex.A2 (ks.take i)+k':Nat):Int))]) τ2:=fun k' c hek τ2 hle=>by
     have:=hErr (k'+Ex.A2 (ks.take i)) c (by
      rw [hksp,Ae,Nt _ hno,Ae,LV _ hek,Et];rfl) τ2 hle
     rwa [show n+1+(k'+Ex.A2 (ks.take i))=n+1+Ex.A2 (ks.take i)+k' by omega] at this
    have hsR:∀r∈sc.map Aw,r.length=1:=fun r hr=>by
     obtain ⟨s,_,rfl⟩:=Dr.1 hr;rfl
    have hnR:∀r∈ns.map Aw,r.length=1:=fun r hr=>by
     obtain ⟨s,_,rfl⟩:=Dr.1 hr;rfl
    clear ih hErr hOk hgood hksp hmem
    obtain ⟨ko,kn,ku,kns,kks,kal⟩:=kd
    simp only [exA,Ex.A4,AG,AQ] at he hck
    have hi1:(((1:Nat):Int)==1)=true:=by decide
    by_cases hA:(o=7∨o=17)∧i=1∧nm≠[]
    · obtain ⟨hoo,rfl,hnm⟩:=hA
      have hnb:(nm==[])=false:=by simpa using hnm
      have hiv:AV.plain (.d (.sl (sc.map Aw++[[.str nm]])))= .d (.sl ((GJ o nm ns sc 1).map Aw)):=by
       rw [G0,GJ,if_pos ⟨hoo,rfl⟩,if_neg hnm];simp [Aw]
      rcases hoo with rfl|rfl
      · (repeat' (first|refine Run.ct rfl ?_|((first|refine Run.reg mixed ?_|refine Run.AE ?_|(refine EY.clip rfl hsR (by simp) (by simp;omega) (by decide) ?_)|(refine AI.mk rfl (hck _ hiv) ?_;intro v τ2 hq;refine Or.elim (hcase v τ2 hq) (fun h1=>?_) (fun h2=>?_);obtain ⟨rfl,hn2,hW2⟩:=h1;rotate_left;obtain ⟨k',c,rfl,hcn,hle2,hek⟩:=h2;rotate_left)|(refine Run.A1 Ak (AF.le_refl _) ?_))<;>try simp -implicitDefEqProofs only [Ac hlt,he,hw1,h00,AA,AU,hi1,hnb,Cb,go_sem])|(refine ⟨fun h=>?_,fun h=>?_⟩<;>first|(cases h;done)|try simp only [h])|fail))
        all_goals first|exact hnext _ hn2 hW2|exact hbad _ _ hek _ hle2|exact absurd hcn (by simpa using ‹(_ != (0:Int))=false›)
      · (repeat' (first|refine Run.ct rfl ?_|((first|refine Run.reg mixed ?_|refine Run.AE ?_|(refine EY.clip rfl hsR (by simp) (by simp;omega) (by decide) ?_)|(refine AI.mk rfl (hck _ hiv) ?_;intro v τ2 hq;refine Or.elim (hcase v τ2 hq) (fun h1=>?_) (fun h2=>?_);obtain ⟨rfl,hn2,hW2⟩:=h1;rotate_left;obtain ⟨k',c,rfl,hcn,hle2,hek⟩:=h2;rotate_left)|(refine Run.A1 Ak (AF.le_refl _) ?_))<;>try simp -implicitDefEqProofs only [Ac hlt,he,hw1,h00,AA,AU,hi1,hnb,Cb,go_sem])|(refine ⟨fun h=>?_,fun h=>?_⟩<;>first|(cases h;done)|try simp only [h])|fail))
        all_goals first|exact hnext _ hn2 hW2|exact hbad _ _ hek _ hle2|exact absurd hcn (by simpa using ‹(_ != (0:Int))=false›)
    by_cases hB:(o=8∧i=1)∨o=11
    · have hiv:AV.plain (.d (.sl (sc.map Aw++ns.map Aw)))= .d (.sl ((GJ o nm ns sc i).map Aw)):=by
       rw [G0,GJ,if_neg (by omega),if_pos hB];simp
      have hnl:sc.length+ns.length≤1000000:=by
       rw [GJ,if_neg (by omega),if_pos hB,AS] at hil;exact hil
      rcases hB with ⟨rfl,rfl⟩|rfl
      · (repeat' (first|refine Run.ct rfl ?_|((first|refine Run.reg mixed ?_|refine Run.AE ?_|(refine EY.clip rfl hsR (by exact hnR) (by simp;omega) (by decide) ?_)|(refine AI.mk rfl (hck _ hiv) ?_;intro v τ2 hq;refine Or.elim (hcase v τ2 hq) (fun h1=>?_) (fun h2=>?_);obtain ⟨rfl,hn2,hW2⟩:=h1;rotate_left;obtain ⟨k',c,rfl,hcn,hle2,hek⟩:=h2;rotate_left)|(refine Run.A1 Ak (AF.le_refl _) ?_))<;>try simp -implicitDefEqProofs only [Ac hlt,he,hw1,h00,AA,AU,hi1,go_sem])|(refine ⟨fun h=>?_,fun h=>?_⟩<;>first|(cases h;done)|try simp only [h])|fail))
        all_goals first|exact hnext _ hn2 hW2|exact hbad _ _ hek _ hle2|exact absurd hcn (by simpa using ‹(_ != (0:Int))=false›)
      · (repeat' (first|refine Run.ct rfl ?_|((first|refine Run.reg mixed ?_|refine Run.AE ?_|(refine EY.clip rfl hsR (by exact hnR) (by simp;omega) (by decide) ?_)|(refine AI.mk rfl (hck _ hiv) ?_;intro v τ2 hq;refine Or.elim (hcase v τ2 hq) (fun h1=>?_) (fun h2=>?_);obtain ⟨rfl,hn2,hW2⟩:=h1;rotate_left;obtain ⟨k',c,rfl,hcn,hle2,hek⟩:=h2;rotate_left)|(refine Run.A1 Ak (AF.le_refl _) ?_))<;>try simp -implicitDefEqProofs only [Ac hlt,he,hw1,h00,AA,AU,go_sem])|(refine ⟨fun h=>?_,fun h=>?_⟩<;>first|(cases h;done)|try simp only [h])|fail))
        all_goals first|exact hnext _ hn2 hW2|exact hbad _ _ hek _ hle2|exact absurd hcn (by simpa using ‹(_ != (0:Int))=false›)
    have hiv:AV.plain (.clip (sc.map Aw))= .d (.sl ((GJ o nm ns sc i).map Aw)):=by
     unfold GJ
     by_cases h7:(o=7∨o=17)∧i=1
     · have hnm:nm=[]:=by
        by_cases hn:nm=[]
        · exact hn
        · exact absurd ⟨h7.1,h7.2,hn⟩ hA
       rw [if_pos h7,if_pos hnm];rfl
     · rw [if_neg h7,if_neg hB];rfl
    by_cases h7:o=7∨o=17
    · by_cases hi1':i=1
      · subst hi1'
        have hnb:(nm==[])=true:=by
         by_cases hn:nm=[]
         · simp [hn]
         · exact absurd ⟨h7,rfl,hn⟩ hA
        rcases h7 with rfl|rfl
        · (repeat' (first|refine Run.ct rfl ?_|((first|refine Run.reg mixed ?_|refine Run.AE ?_|(refine AI.mk rfl (hck _ hiv) ?_;intro v τ2 hq;refine Or.elim (hcase v τ2 hq) (fun h1=>?_) (fun h2=>?_);obtain ⟨rfl,hn2,hW2⟩:=h1;rotate_left;obtain ⟨k',c,rfl,hcn,hle2,hek⟩:=h2;rotate_left)|(refine Run.A1 Ak (AF.le_refl _) ?_))<;>try simp -implicitDefEqProofs only [Ac hlt,he,hw1,h00,AA,AU,hi1,hnb,Cb,go_sem])|(refine ⟨fun h=>?_,fun h=>?_⟩<;>first|(cases h;done)|try simp only [h])|fail))
          all_goals first|exact hnext _ hn2 hW2|exact hbad _ _ hek _ hle2|exact absurd hcn (by simpa using ‹(_ != (0:Int))=false›)
        · (repeat' (first|refine Run.ct rfl ?_|((first|refine Run.reg mixed ?_|refine Run.AE ?_|(refine AI.mk rfl (hck _ hiv) ?_;intro v τ2 hq;refine Or.elim (hcase v τ2 hq) (fun h1=>?_) (fun h2=>?_);obtain ⟨rfl,hn2,hW2⟩:=h1;rotate_left;obtain ⟨k',c,rfl,hcn,hle2,hek⟩:=h2;rotate_left)|(refine Run.A1 Ak (AF.le_refl _) ?_))<;>try simp -implicitDefEqProofs only [Ac hlt,he,hw1,h00,AA,AU,hi1,hnb,Cb,go_sem])|(refine ⟨fun h=>?_,fun h=>?_⟩<;>first|(cases h;done)|try simp only [h])|fail))
          all_goals first|exact hnext _ hn2 hW2|exact hbad _ _ hek _ hle2|exact absurd hcn (by simpa using ‹(_ != (0:Int))=false›)
      · have hib:((i:Int)==1)=false:=C1 (by omega)
        rcases h7 with rfl|rfl
        · (repeat' (first|refine Run.ct rfl ?_|((first|refine Run.reg mixed ?_|refine Run.AE ?_|(refine AI.mk rfl (hck _ hiv) ?_;intro v τ2 hq;refine Or.elim (hcase v τ2 hq) (fun h1=>?_) (fun h2=>?_);obtain ⟨rfl,hn2,hW2⟩:=h1;rotate_left;obtain ⟨k',c,rfl,hcn,hle2,hek⟩:=h2;rotate_left)|(refine Run.A1 Ak (AF.le_refl _) ?_))<;>try simp -implicitDefEqProofs only [Ac hlt,he,hw1,h00,AA,AU,hib,go_sem])|(refine ⟨fun h=>?_,fun h=>?_⟩<;>first|(cases h;done)|try simp only [h])|fail))
          all_goals first|exact hnext _ hn2 hW2|exact hbad _ _ hek _ hle2|exact absurd hcn (by simpa using ‹(_ != (0:Int))=false›)
        · (repeat' (first|refine Run.ct rfl ?_|((first|refine Run.reg mixed ?_|refine Run.AE ?_|(refine AI.mk rfl (hck _ hiv) ?_;intro v τ2 hq;refine Or.elim (hcase v τ2 hq) (fun h1=>?_) (fun h2=>?_);obtain ⟨rfl,hn2,hW2⟩:=h1;rotate_left;obtain ⟨k',c,rfl,hcn,hle2,hek⟩:=h2;rotate_left)|(refine Run.A1 Ak (AF.le_refl _) ?_))<;>try simp -implicitDefEqProofs only [Ac hlt,he,hw1,h00,AA,AU,hib,go_sem])|(refine ⟨fun h=>?_,fun h=>?_⟩<;>first|(cases h;done)|try simp only [h])|fail))
          all_goals first|exact hnext _ hn2 hW2|exact hbad _ _ hek _ hle2|exact absurd hcn (by simpa using ‹(_ != (0:Int))=false›)
    · have h7f:(o==7)=false:=C1 (by omega)
      have h17f:(o==17)=false:=C1 (by omega)
      have h11f:(o==11)=false:=C1 (by omega)
      by_cases h8:o=8
      · subst h8
        have hib:((i:Int)==1)=false:=C1 (by omega)
        (repeat' (first|refine Run.ct rfl ?_|((first|refine Run.reg mixed ?_|refine Run.AE ?_|(refine AI.mk rfl (hck _ hiv) ?_;intro v τ2 hq;refine Or.elim (hcase v τ2 hq) (fun h1=>?_) (fun h2=>?_);obtain ⟨rfl,hn2,hW2⟩:=h1;rotate_left;obtain ⟨k',c,rfl,hcn,hle2,hek⟩:=h2;rotate_left)|(refine Run.A1 Ak (AF.le_refl _) ?_))<;>try simp -implicitDefEqProofs only [Ac hlt,he,hw1,h00,AA,AU,hib,go_sem])|(refine ⟨fun h=>?_,fun h=>?_⟩<;>first|(cases h;done)|try simp only [h])|fail))
        all_goals first|exact hnext _ hn2 hW2|exact hbad _ _ hek _ hle2|exact absurd hcn (by simpa using ‹(_ != (0:Int))=false›)
      · have h8f:(o==8)=false:=C1 h8
        (repeat' (first|refine Run.ct rfl ?_|((first|refine Run.reg mixed ?_|refine Run.AE ?_|(refine AI.mk rfl (hck _ hiv) ?_;intro v τ2 hq;refine Or.elim (hcase v τ2 hq) (fun h1=>?_) (fun h2=>?_);obtain ⟨rfl,hn2,hW2⟩:=h1;rotate_left;obtain ⟨k',c,rfl,hcn,hle2,hek⟩:=h2;rotate_left)|(refine Run.A1 Ak (AF.le_refl _) ?_))<;>try simp -implicitDefEqProofs only [Ac hlt,he,hw1,h00,AA,h7f,h17f,h8f,h11f,go_sem])|(refine ⟨fun h=>?_,fun h=>?_⟩<;>first|(cases h;done)|try simp only [h])|fail))
        all_goals first|exact hnext _ hn2 hW2|exact hbad _ _ hek _ hle2|exact absurd hcn (by simpa using ‹(_ != (0:Int))=false›)
  · rw [AK (by omega)] at hno hWi
    clear ih
    (repeat' (first|refine Run.ct rfl ?_|((first|refine Run.reg mixed ?_|refine Run.AE ?_)<;>try simp -implicitDefEqProofs only [Bi hlt,AA,go_sem])|fail))
    refine Run.BD ?_
    refine Run.BK ((fun (a0:AV) (a2:AV) (a4:AV)=>fun (y:Nat×AF)=>put 0 a0 (put 2 a2 (put 4 a4 (put 20 (.d (.int .i64 y.1)) U)))) _ _ _) (fun _=>Az 4 [.d (.int .i64 o),.d (.str nm),.d (.int .i64 u),.d (.sl (ns.map Aw)),.d (.sl (ks.map Ex.enc)),.d (.sl (al.map Al.enc))] E) (fun y=>y.2)
     (fun y=>y.1≤al.length∧EL (E0 fs dt) (Bf o nm ns sc 0 ks++Bw sc (al.take y.1))=none∧WS σ0 j ps fs dt (n+1+Ex.A2 ks+Al.A2 (al.take y.1)) (us++ux++Ew fs (Bf o nm ns sc 0 ks++Bw sc (al.take y.1))) y.2)
     (fun y=>al.length - y.1) ?_ (0,τi) ⟨by simp,by simpa [Bw] using hno,by simpa [Al.A2,Bw] using hWi⟩
    rintro ⟨q,τq⟩ ⟨hq0,hnq,hWq⟩ ih
    simp only at hq0 hnq hWq
    by_cases hltq:q < al.length
    · obtain ⟨ad,hx⟩:=BC hltq
      have he:=BA (enc:=Al.enc) hx
      have hw1:=A5 (show q+1≤9000000000000000000 by omega)
      obtain ⟨ac,avs,ab⟩:=ad
      have hasp:Bw sc al=Bw sc (al.take q)++(Ba ab (sc++avs)++Bw sc (al.drop (q+1))):=by
       conv=>lhs;rw [← A3 q al,B3 hx]
       rw [QG,Bw,Rp]
      have hsn:Bw sc (al.take (q+1))=Bw sc (al.take q)++Ba ab (sc++avs):=by
       rw [BH hx,QG,Bw,Rp,Bw,Ao]
      have hszs:=Al.GO hx
      rw [Al.size] at hszs
      have hal2:Al.A2 (al.take q)+ab.size≤Al.A2 al:=by
       have:=congrArg List.length hasp
       rw [HN,AS,AS,HN,K4] at this
       omega
      have hmem:∀x∈Ba ab (sc++avs),x∈(.mk o nm u ns ks al,sc)::(Bf o nm ns sc 0 ks++Bw sc al):=fun x hm=>by
       refine B6 _ (List.mem_append_right _ ?_)
       rw [hasp]
       exact List.mem_append_right _ (Nb _ hm)
      have hil:(sc++avs).length≤1000000:=by
       obtain ⟨ko,kn,ku,kns,kks,kal⟩:=ab
       exact (hgood _ (hmem (.mk ko kn ku kns kks kal,sc++avs) (by rw [TN];exact BG ..))).2
      rw [AS] at hil
      have hul:=SF fs (Bf o nm ns sc 0 ks++Bw sc (al.take q))
      rw [AS,Et,HN] at hul
      have hk:=ihN ab (sc++avs) (n+1+Ex.A2 ks+Al.A2 (al.take q)) _ τq (by omega) (by omega) (by simp only [AS];omega) (by rw [AS];exact hil) (fun x hm=>hgood x (hmem x hm)) hWq
      have hck:∀iv:AV,iv.plain= .d (.sl ((sc++avs).map Aw))→AL Tryz.prog 34 [.gp j 0,exA ab,iv] τq (JT σ0 j ps fs dt ab (sc++avs) (n+1+Ex.A2 ks+Al.A2 (al.take q)) (us++ux++Ew fs (Bf o nm ns sc 0 ks++Bw sc (al.take q)))):=fun iv hiv=>by
       refine AL.plain ?_
       have hp:∀l:List DV,AV.DI (l.map AV.d)=l.map AV.d:=fun l=>by
        induction l with
        |nil=>rfl
        |cons x l ih=>rw [AG,AV.DI,G0,ih]
       simp only [AV.DI,hiv,UQ,exA,I9,hp]
       exact hk
      clear hk
      have hcase:∀(v:AV) (τ2:AF),JT σ0 j ps fs dt ab (sc++avs) (n+1+Ex.A2 ks+Al.A2 (al.take q)) (us++ux++Ew fs (Bf o nm ns sc 0 ks++Bw sc (al.take q))) v τ2→
       (v= .tup [.d (.int .i64 0),.d (.int .i64 0)]∧EL (E0 fs dt) (Ba ab (sc++avs))=none∧WS σ0 j ps fs dt (n+1+Ex.A2 ks+Al.A2 (al.take q)+ab.size) (us++ux++Ew fs (Bf o nm ns sc 0 ks++Bw sc (al.take q))++Ew fs (Ba ab (sc++avs))) τ2)∨
       (∃k' c,v= .tup [.d (.int .i64 c),.d (.int .i64 ((n+1+Ex.A2 ks+Al.A2 (al.take q)+k':Nat):Int))]∧c≠0∧σ0.le τ2∧EL (E0 fs dt) (Ba ab (sc++avs))=some (k',c)):=fun v τ2 hq=>by
       unfold JT at hq
       cases hek:EL (E0 fs dt) (Ba ab (sc++avs)) with
       |none=>rw [hek] at hq;exact .inl ⟨hq.1,rfl,hq.2⟩
       |some r=>obtain ⟨k',c⟩:=r;rw [hek] at hq;exact .inr ⟨k',c,hq.1,Qi hek,hq.2,rfl⟩
      have hnext:=fun (τ2:AF) (h1:EL (E0 fs dt) (Ba ab (sc++avs))=none) (h2:WS σ0 j ps fs dt (n+1+Ex.A2 ks+Al.A2 (al.take q)+ab.size) (us++ux++Ew fs (Bf o nm ns sc 0 ks++Bw sc (al.take q))++Ew fs (Ba ab (sc++avs))) τ2)=>
       ih (q+1,τ2) ⟨by simp only;omega,by simp only;rw [hsn,← Ae,Nt _ hnq,h1];rfl,by simp only;rw [hszs,hsn,← Ae,WM fs _ (Ba ab (sc++avs)),← Ae,← N5];exact h2⟩ (by simp only;omega)
      simp only at hnext
      have hbad:∀(k':Nat) (c:Int),EL (E0 fs dt) (Ba ab (sc++avs))=some (k',c)→∀τ2,σ0.le τ2→Q (.tup [.d (.int .i64 c),.d (.int .i64 ((n+1+Ex.A2 ks+Al.A2 (al.take q)+k':Nat):Int))]) τ2:=fun k' c hek τ2 hle=>by
       have:=hErr (k'+(Ex.A2 ks+Al.A2 (al.take q))) c (by
        rw [hasp,← Ae,Nt _ hnq,LV _ hek,AS,Et,HN];rfl) τ2 hle
       rwa [show n+1+(k'+(Ex.A2 ks+Al.A2 (al.take q)))=n+1+Ex.A2 ks+Al.A2 (al.take q)+k' by omega] at this
      have hsR:∀r∈sc.map Aw,r.length=1:=fun r hr=>by
       obtain ⟨s,_,rfl⟩:=Dr.1 hr;rfl
      have hvR:∀r∈avs.map Aw,r.length=1:=fun r hr=>by
       obtain ⟨s,_,rfl⟩:=Dr.1 hr;rfl
      have hiv:AV.plain (.d (.sl (sc.map Aw++avs.map Aw)))= .d (.sl ((sc++avs).map Aw)):=by rw [G0];simp
      clear ih hErr hOk hgood hasp hmem
      obtain ⟨ko,kn,ku,kns,kks,kal⟩:=ab
      simp only [exA,Al.A4,Ex.A4,AG,AQ] at he hck
      (repeat' (first|refine Run.ct rfl ?_|((first|refine Run.reg mixed ?_|refine Run.AE ?_)<;>try simp -implicitDefEqProofs only [Ac hltq,he,hw1,h00,AA,go_sem])|fail))
      refine Run.Rv mixed ?_
      simp -implicitDefEqProofs only [he,hw1,h00,AA,and_true,go_sem]
      refine And.intro ?_ ?_
      all_goals (repeat' (first|refine Run.ct rfl ?_|((first|refine Run.reg mixed ?_|refine Run.AE ?_|(refine EY.clip rfl hsR (by exact hvR) (by simp;omega) (by decide) ?_)|(refine AI.mk rfl (hck _ hiv) ?_;intro v τ2 hq;refine Or.elim (hcase v τ2 hq) (fun h1=>?_) (fun h2=>?_);obtain ⟨rfl,hn2,hW2⟩:=h1;rotate_left;obtain ⟨k',c,rfl,hcn,hle2,hek⟩:=h2;rotate_left)|(refine Run.A1 Ak (AF.le_refl _) ?_))<;>try simp -implicitDefEqProofs only [he,hw1,h00,AA,go_sem])|(refine ⟨fun h=>?_,fun h=>?_⟩<;>first|(cases h;done)|try simp only [h])|fail))
      all_goals first|exact hnext _ hn2 hW2|exact hbad _ _ hek _ hle2|exact absurd hcn (by simpa using ‹(_ != (0:Int))=false›)
    · rw [AK (by omega)] at hnq hWq
      have hfin:=hOk hnq τq hWq
      (repeat' (first|refine Run.ct rfl ?_|((first|refine Run.reg mixed ?_|refine Run.AE ?_|(refine Run.A1 Ak (AF.le_refl _) ?_))<;>try simp -implicitDefEqProofs only [Bi hltq,AA,go_sem])|fail))
      exact hfin
 have hslt:∀q:Nat,decide ((q:Int) < 0)=false:=fun q=>decide_eq_false (by omega)
 (repeat' (first|refine Run.cb rfl ?_|((first|refine Run.reg mixed ?_|refine Run.AE ?_)<;>try simp -implicitDefEqProofs only [hb,hw0,hcl,AA,ho.cell,DJ,Cq,go_sem])|fail))
 generalize hσ1:τ.AO j [AV.d (.sl (ps.map DE.enc)),.d (.sl (fs.map FE.enc)),.d (.sl (dt.map Dat.enc)),.d (.int .i64 ((n+1:Nat):Int)),uv]=σ1 at hW1 ⊢
 have hb1:σ1.blk j=some [AV.d (.sl (ps.map DE.enc)),.d (.sl (fs.map FE.enc)),.d (.sl (dt.map Dat.enc)),.d (.int .i64 ((n+1:Nat):Int)),uv]:=by rw [← hσ1,AM,if_pos rfl]
 have ho1:Dh σ0 3 1 (us.map HX) uv σ1:=by rw [← hσ1];exact ho.set hj0 _
 have hle1:=ho1.le
 clear hσ1 ho hb hw0
 obtain ⟨⟨hg4,hg12,hgal,hgk⟩,hg10⟩:=(hgood _ (BG ..)).1
 replace hg4:o=4→nm≠[]:=hg4
 replace hg12:o=12→∃h t,ks=h::t∧(h.op=4→h.name≠[]):=hg12
 replace hg10:o=10→al≠[]:=hg10
 have hux:o≠4→SE fs (.mk o nm u ns ks al,sc)=[]:=fun h=>by
  unfold SE;rw [if_neg (fun hc=>h hc.1)]
 have hgo:o≠4→E0 fs dt (.mk o nm u ns ks al) sc=0→_:=fun h hv=>key hv σ1 (by rw [hux h,Ao];exact hW1)
 have hctr:=LD dt hdt nm σ1
 rw [dsA] at hctr
 have hfi:=fun s=>OO sc s (.clip (sc.map Aw)) rfl σ1
 have hfun:=fun s=>OP ps fs dt ((n+1:Nat):Int) uv j s σ1 hfl hb1
 by_cases h4:o=4
 · subst h4
   rw [if_pos rfl] at hvis
   have hfi:=hfi nm
   have hfun:=hfun nm
   have hin:=GI sc nm
   cases hix:Ct sc nm with
   |some q=>
    rw [hix] at hfi hin
    simp only [E9,Bn] at hfi hin
    rw [← hin] at hvis
    have hv0:E0 fs dt (.mk 4 nm u ns ks al) sc=0:=by rw [hvis];rfl
    have hu0:SE fs (.mk 4 nm u ns ks al,sc)=[]:=by
     unfold SE;rw [if_neg (fun h=>by have h2:sc.contains nm=false:=h.2;rw [← hin] at h2;cases h2)]
    have:=key hv0 σ1 (by rw [hu0,Ao];exact hW1)
    clear key hErr0 hErr hOk hgo
    (repeat' (first|refine Run.ct rfl ?_|((first|refine Run.reg mixed ?_|refine Run.AE ?_|(refine AI.mk rfl hfi ?_;rintro _ _ ⟨rfl,rfl⟩))<;>try simp -implicitDefEqProofs only [AU,hslt,AA,go_sem])|fail))
    exact this
   |none=>
   rw [hix] at hfi hin
   simp only [E9,CC] at hfi hin
   rw [← hin] at hvis
   have hneg:decide ((-1:Int) < 0)=true:=by decide
   cases hif:Ct (CX fs) nm with
   |none=>
    rw [hif] at hfun hvis
    simp only [E9] at hfun
    replace hvis:E0 fs dt (.mk 4 nm u ns ks al) sc=3:=by rw [hvis];rfl
    have:=hErr0 (by rw [hvis];decide) σ1 hle1
    rw [hvis] at this
    clear key hErr0 hErr hOk hgo
    (repeat' (first|refine Run.ct rfl ?_|((first|refine Run.reg mixed ?_|refine Run.AE ?_|(refine AI.mk rfl hfi ?_;rintro _ _ ⟨rfl,rfl⟩)|(refine Run.A1 Ak (AF.le_refl _) ?_)|refine AI.det (hfun) ?_)<;>try simp -implicitDefEqProofs only [AU,hneg,AA,go_sem])|fail))
    exact this
   |some f=>
    rw [hif] at hfun hvis
    simp only [E9] at hfun
    replace hvis:E0 fs dt (.mk 4 nm u ns ks al) sc=0:=by rw [hvis];rfl
    have hu0:SE fs (.mk 4 nm u ns ks al,sc)=[f]:=by
     unfold SE;rw [if_pos ⟨rfl,hin.symm⟩,show (Ex.mk 4 nm u ns ks al,sc).1.name=nm from rfl,hif]
    have hkey:=key hvis
    rw [hu0] at hkey
    clear key hErr0 hErr hOk hgo
    (repeat' (first|refine Run.ct rfl ?_|((first|refine Run.reg mixed ?_|refine Run.AE ?_|(refine AI.mk rfl hfi ?_;rintro _ _ ⟨rfl,rfl⟩)|(refine EY.own ho1 rfl (by simp) (by simp;omega) (by decide) (fun v2 σ2 ho2 hbk=>?_))|refine AI.det (hfun) ?_)<;>try simp -implicitDefEqProofs only [AU,hneg,hslt,hb1,AA,ho1.cell,ho1.cells,ho1.BY,ho1.BO,go_sem])|fail))
    have hb2:=(hbk j).trans hb1
    simp -implicitDefEqProofs only [hb2,ho2.cells,ho2.cell,DJ,Cq,go_sem]
    (repeat' (first|refine Run.ct rfl ?_|((first|refine Run.reg mixed ?_|refine Run.AE ?_)<;>try simp -implicitDefEqProofs only [hb2,ho2.cell,ho2.cells,ho2.BO,go_sem])|fail))
    exact hkey _ ⟨v2,by rw [AM,if_pos rfl];rfl,by simpa [HX] using ho2.set hj0 _,hj0⟩
 have hv4:=hvis
 rw [if_neg h4] at hv4
 have h4f:(o==4)=false:=C1 h4
 have hgo:=hgo h4
 clear key hvis
 by_cases h6:o=6
 · subst h6
   rw [if_pos rfl] at hv4
   cases hc:IX dt nm with
   |none=>
    rw [hc] at hctr hv4
    simp only [R4] at hctr
    replace hv4:E0 fs dt (.mk 6 nm u ns ks al) sc=3:=hv4
    have:=hErr0 (by rw [hv4];decide) σ1 hle1
    rw [hv4] at this
    clear hErr0 hErr hOk hgo
    (repeat' (first|refine Run.ct rfl ?_|((first|refine Run.reg mixed ?_|refine Run.AE ?_|(refine Run.A1 Ak (AF.le_refl _) ?_)|refine AI.det (hctr) ?_)<;>try simp -implicitDefEqProofs only [AU,hb1,AA,go_sem])|fail))
    exact this
   |some x=>
    rw [hc] at hctr hv4
    simp only [R4] at hctr hv4
    obtain ⟨d,cc,h1,h2,_⟩:=KA hc
    have har:=M7 (s:=[]) h1 h2
    have hd:=M8 h1
    have hcc:=M6 h2
    have hbn:=VB ks.length cc.args.length
    rw [har] at hv4
    cases hne:(ks.length != cc.args.length) with
    |true=>
     rw [hne] at hbn
     rw [if_pos (by simpa using hne)] at hv4
     have:=hErr0 (by rw [hv4];decide) σ1 hle1
     rw [hv4] at this
     clear hErr0 hErr hOk hgo
     (repeat' (first|refine Run.ct rfl ?_|((first|refine Run.reg mixed ?_|refine Run.AE ?_|(refine Run.A1 Ak (AF.le_refl _) ?_)|refine AI.det (hctr) ?_)<;>try simp -implicitDefEqProofs only [AU,hb1,hd,hcc,AA,Dt,hbn,go_sem])|fail))
     exact this
    |false=>
     rw [hne] at hbn
     rw [if_neg (by simpa using hne)] at hv4
     have:=hgo hv4
     clear hErr0 hErr hOk hgo
     (repeat' (first|refine Run.ct rfl ?_|((first|refine Run.reg mixed ?_|refine Run.AE ?_|refine AI.det (hctr) ?_)<;>try simp -implicitDefEqProofs only [AU,hb1,hd,hcc,AA,Dt,hbn,go_sem])|fail))
     exact this
 rw [if_neg h6] at hv4
 have h6f:(o==6)=false:=C1 h6
 by_cases h8:o=8∨o=11
 · rw [if_pos h8] at hv4
   have hrep:=LF ns σ1
   cases hB:CA ns with
   |true=>
    rw [hB] at hrep hv4
    rw [if_pos rfl] at hv4
    have:=hErr0 (by rw [hv4];decide) σ1 hle1
    rw [hv4] at this
    clear hErr0 hErr hOk hgo
    rcases h8 with rfl|rfl
    · (repeat' (first|refine Run.ct rfl ?_|((first|refine Run.reg mixed ?_|refine Run.AE ?_|(refine Run.A1 Ak (AF.le_refl _) ?_)|refine AI.det (hrep) ?_)<;>try simp -implicitDefEqProofs only [AU,AA,go_sem])|fail))
      exact this
    · (repeat' (first|refine Run.ct rfl ?_|((first|refine Run.reg mixed ?_|refine Run.AE ?_|(refine Run.A1 Ak (AF.le_refl _) ?_)|refine AI.det (hrep) ?_)<;>try simp -implicitDefEqProofs only [AU,AA,go_sem])|fail))
      exact this
   |false=>
    rw [hB] at hrep hv4
    rw [if_neg (by simp)] at hv4
    have:=hgo hv4
    clear hErr0 hErr hOk hgo
    rcases h8 with rfl|rfl
    · (repeat' (first|refine Run.ct rfl ?_|((first|refine Run.reg mixed ?_|refine Run.AE ?_|refine AI.det (hrep) ?_)<;>try simp -implicitDefEqProofs only [AU,AA,go_sem])|fail))
      exact this
    · (repeat' (first|refine Run.ct rfl ?_|((first|refine Run.reg mixed ?_|refine Run.AE ?_|refine AI.det (hrep) ?_)<;>try simp -implicitDefEqProofs only [AU,AA,go_sem])|fail))
      exact this
 rw [if_neg h8] at hv4
 have h8f:(o==8)=false:=C1 (by omega)
 have h11f:(o==11)=false:=C1 (by omega)
 by_cases h10:o=10
 · rw [if_pos h10] at hv4
   have hal:=ZZ ps fs dt hdt ((n+1:Nat):Int) uv j al σ1 hgal (hg10 h10) hb1
   subst h10
   by_cases hz:KE dt al=0
   · have:=hgo (hv4.trans hz)
     rw [hz] at hal
     clear hErr0 hErr hOk hgo
     (repeat' (first|refine Run.ct rfl ?_|((first|refine Run.reg mixed ?_|refine Run.AE ?_|refine AI.det (hal) ?_)<;>try simp -implicitDefEqProofs only [AU,h00,AA,go_sem])|fail))
     exact this
   · have:=hErr0 (by rw [hv4];exact hz) σ1 hle1
     rw [hv4] at this
     have hzb:(KE dt al != 0)=true:=by simpa using hz
     clear hErr0 hErr hOk hgo
     (repeat' (first|refine Run.ct rfl ?_|((first|refine Run.reg mixed ?_|refine Run.AE ?_|(refine Run.A1 Ak (AF.le_refl _) ?_)|refine AI.det (hal) ?_)<;>try simp -implicitDefEqProofs only [AU,hzb,AA,go_sem])|fail))
     exact this
 rw [if_neg h10] at hv4
 have h10f:(o==10)=false:=C1 h10
 by_cases h12:o=12
 · rw [if_pos h12] at hv4
   subst h12
   obtain ⟨hd,tl,rfl,hh4⟩:=hg12 rfl
   obtain ⟨xo,xn,xu,xs,xk,xa⟩:=hd
   simp only [Ex.op,Ex.name] at hh4
   replace hv4:E0 fs dt (.mk 12 nm u ns (.mk xo xn xu xs xk xa::tl) al) sc=if (decide (xo=4)&& !sc.contains xn)=true then (match Ct (CX fs) xn with|none=>0|some f=>match fs[f]? with|some g=>if g.params.length+1≠tl.length+1 then 5 else 0|none=>0) else 0:=hv4
   have hfi:=hfi xn
   have hfun:=hfun xn
   have hin:=GI sc xn
   by_cases hx4:xo=4
   · subst hx4
     cases hix:Ct sc xn with
     |some q=>
      rw [hix] at hfi hin
      simp only [E9,Bn] at hfi hin
      rw [← hin] at hv4
      have:=hgo hv4
      simp only [AG,Ex.A4] at this
      clear hErr0 hErr hOk hgo
      (repeat' (first|refine Run.ct rfl ?_|((first|refine Run.reg mixed ?_|refine Run.AE ?_|(refine AI.mk rfl hfi ?_;rintro _ _ ⟨rfl,rfl⟩))<;>try simp -implicitDefEqProofs only [AU,hslt,AA,AG,Ex.A4,DW,V0,go_sem])|fail))
      exact this
     |none=>
      rw [hix] at hfi hin
      simp only [E9,CC] at hfi hin
      rw [← hin] at hv4
      have hneg:decide ((-1:Int) < 0)=true:=by decide
      cases hif:Ct (CX fs) xn with
      |none=>
       rw [hif] at hfun hv4
       simp only [E9] at hfun
       have hnp:decide ((0:Int)≤-1)=false:=by decide
       have:=hgo hv4
       simp only [AG,Ex.A4] at this
       clear hErr0 hErr hOk hgo
       (repeat' (first|refine Run.ct rfl ?_|((first|refine Run.reg mixed ?_|refine Run.AE ?_|(refine AI.mk rfl hfi ?_;rintro _ _ ⟨rfl,rfl⟩)|refine AI.det (hfun) ?_)<;>try simp -implicitDefEqProofs only [AU,hneg,hnp,hb1,AA,AG,Ex.A4,DW,V0,go_sem])|fail))
       exact this
      |some f=>
       rw [hif] at hfun hv4
       simp only [E9] at hfun
       obtain ⟨g,hgf,_⟩:=R9 hif
       have hge:=BA (enc:=FE.enc) hgf
       simp only [hgf] at hv4
       obtain ⟨gn,gp,go,gn2,gu,gns,gk,ga⟩:=g
       simp only [FE.enc,Ex.A4] at hge
       have hpos:decide ((0:Int)≤(f:Int))=true:=by simp
       have hsub:IntKind.i64.wrap (((tl.length+1:Nat):Int) - 1)=(tl.length:Int):=Ie (by simp only [A9] at hlen;omega)
       have hbn:=VB gp.length tl.length
       simp only [E7,As,decide_true,if_true] at hv4
       cases hne:(gp.length != tl.length) with
       |true=>
        rw [hne] at hbn
        rw [if_pos (by simp only [bne_iff_ne,ne_eq] at hne;omega)] at hv4
        have:=hErr0 (by rw [hv4];decide) σ1 hle1
        rw [hv4] at this
        clear hErr0 hErr hOk hgo
        (repeat' (first|refine Run.ct rfl ?_|((first|refine Run.reg mixed ?_|refine Run.AE ?_|(refine AI.mk rfl hfi ?_;rintro _ _ ⟨rfl,rfl⟩)|(refine Run.A1 Ak (AF.le_refl _) ?_)|refine AI.det (hfun) ?_)<;>try simp -implicitDefEqProofs only [AU,hneg,hpos,hb1,hge,hsub,hbn,A9,AA,AG,Ex.A4,DW,V0,go_sem])|fail))
        exact this
       |false=>
        rw [hne] at hbn
        rw [if_neg (by simp only [bne_eq_false_iff_eq] at hne;omega)] at hv4
        have:=hgo hv4
        simp only [AG,Ex.A4] at this
        clear hErr0 hErr hOk hgo
        (repeat' (first|refine Run.ct rfl ?_|((first|refine Run.reg mixed ?_|refine Run.AE ?_|(refine AI.mk rfl hfi ?_;rintro _ _ ⟨rfl,rfl⟩)|refine AI.det (hfun) ?_)<;>try simp -implicitDefEqProofs only [AU,hneg,hpos,hb1,hge,hsub,hbn,A9,AA,AG,Ex.A4,DW,V0,go_sem])|fail))
        exact this
   · rw [decide_eq_false hx4,B5,if_neg (by simp)] at hv4
     have hxf:=C1 hx4
     have:=hgo hv4
     simp only [AG,Ex.A4] at this
     clear hErr0 hErr hOk hgo
     (repeat' (first|refine Run.ct rfl ?_|((first|refine Run.reg mixed ?_|refine Run.AE ?_)<;>try simp -implicitDefEqProofs only [AU,hxf,AA,AG,Ex.A4,DW,V0,go_sem])|fail))
     exact this
 rw [if_neg h12] at hv4
 have h12f:(o==12)=false:=C1 h12
 have:=hgo hv4
 clear hErr0 hErr hOk hgo
 (repeat' (first|refine Run.ct rfl ?_|((first|refine Run.reg mixed ?_|refine Run.AE ?_)<;>try simp -implicitDefEqProofs only [h4f,h6f,h8f,h11f,h10f,h12f,AA,go_sem])|fail))
 exact this
end Go.Ab
