/- Parse of the program. The sanity check of the laws of syntax. The guards on programs: Names, written, expr. The guards on programs: Prog. Conditions: none. -/
import Derived.Test.YtifplkldbbcldaaGreatDoorXUj
set_option linter.unusedSimpArgs false
set_option linter.unusedVariables false
set_option maxRecDepth 4000
set_option maxHeartbeats 8000000
open List renaming map_cons→AG,map_nil→AH,length_map→AE,all_eq_true→A4,mem_of_getElem?→Aa,all_append→CM,take_of_length_le→A6,mem_append→BY,mem_singleton→Dy,take→Jl,drop→GN,append_nil→AY,nil_append→A1,length_take→B1
open Nat renaming le_trans→BC,eq_zero_or_pos→Dz,min_eq_left→Nl,le_refl→A8
open Bool renaming false_eq_true→AU,eq_false_iff→F5,false_and→Ea,and_true→BH,and_eq_true→AM
open Int renaming reduceBEq→AP
namespace Go.Ab
open Go.Proofs
def rG (r:Pg×Nat×Int):AV:= .tup [pgA r.1,.d (.int .i64 ((r.2.1:Nat):Int)),.d (.int .i64 r.2.2)]
theorem ADZ (L:List Tok):[AV.d (.sl (L.map Tok.enc)),.d (.int .i64 0),.d (.bool false),.d (.int .i64 0)]=psA L ⟨L,false,0⟩:=by
 unfold psA Zu;simp
theorem x9 {σ:AN} {j:Nat} (h:σ.blk j=none) (cs:List AV):σ.le (σ.AK j cs):=Vb (AN.le_refl σ) h cs
theorem Xf (src:Str) (σ:AN) (g0:Xt σ):AQ Tryz.prog 12 [.d (.str src)] σ (fun v σ'=>v=rG (Ka src)∧σ'=σ):=by
 refine Yl (by simp) ?_
 rw [Ax]
 have hsp:=TC src σ
 by_cases he:(BN src).2.2=0
 · obtain ⟨hw,ho⟩:=jL he
   have hN:=rW he
   have hne:((BN src).2.2 != 0)=false:=by rw [he];rfl
   rw [Uk he]
   have hprog:=fun (j:Nat) (hj:σ.blk j=none)=>mD j hN (σ.AK j (psA (BN src).1 ⟨(BN src).1,false,0⟩)) ⟨(BN src).1,false,0⟩ g0 ⟨hw,List.suffix_refl _,ho.1⟩ (by have:=Fg;have:=ho.1;simp only;omega) (by rw [AO,if_pos rfl])
   have hsm:=iQ (p:=0) hw ho.1
   simp only [Hq] at hsp
   generalize (BN src).1=L at hsp hw ho hN hprog hsm ⊢
   generalize (BN src).2.1=pos at hsp ⊢
   rw [he] at hsp
   generalize NZ.run ⟨L,false,0⟩=y at hprog hsm ⊢
   obtain ⟨p,s1⟩:=y
   simp only at hprog hsm
   simp only [A2] at hprog
   obtain ⟨ds,fs⟩:=p
   simp only [pgA,Pg.enc,AG,AH] at hprog
   have h00:((0:Int) != 0)=false:=rfl
   (repeat' (first|refine Run.ct rfl ?_|((first|refine Run.reg mixed ?_|refine Run.AJ ?_|refine AI.det (hsp) ?_)<;>try simp -implicitDefEqProofs only [h00,go_sem])|fail))
   intro j hj
   have hle:=x9 hj (psA L s1)
   have hb:(σ.AK j (psA L s1)).blk j=some (psA L s1):=by rw [AO,if_pos rfl]
   have hst:psA L s1=[.d (Zu L),.d (.int .i64 ((L.length - s1.r.length:Nat):Int)),.d (.bool s1.f),.d (.int .i64 ((s1.p:Nat):Int))]:=rfl
   rw [ADZ]
   cases hf:s1.f with
   |true=>
    rw [hf] at hst
    have hfin:dR (⟨ds,fs⟩,s1)=(⟨[],[]⟩,s1.p,2):=if_pos hf
    rw [hfin]
    simp only [rG,pgA,Pg.enc,AG,AH]
    (repeat' (first|refine Run.ct rfl ?_|((first|refine Run.reg mixed ?_|refine Run.AJ ?_|(refine AI.upd (hprog j hj) ?_))<;>try simp -implicitDefEqProofs only [hst,hf,go_sem])|fail))
    rw [← hst]
    refine Run.FA mixed ?_;simp -implicitDefEqProofs only [hst,hf,go_sem]
    rw [← hst]
    (repeat' (first|refine Run.ct rfl ?_|((first|refine Run.reg mixed ?_|refine Run.AJ ?_|(refine Run.A9 HM hle ?_))<;>try simp -implicitDefEqProofs only [go_sem])|fail))
   |false=>
    rw [hf] at hst
    have hV:=RF ⟨ds,fs⟩ (σ.AK j (psA L s1)) (fun d hd c hc t ht=>BC (hsm hf d hd c hc t ht) (by omega))
    simp only [pgA,Pg.enc,AG,AH] at hV
    have hfin:dR (⟨ds,fs⟩,s1)=if Cq ⟨ds,fs⟩ then (⟨ds,fs⟩,0,0) else (⟨[],[]⟩,0,9):=if_neg (by rw [hf];decide)
    rw [hfin]
    cases hv:Cq ⟨ds,fs⟩ with
    |true=>
     rw [hv] at hV
     simp only [if_true,rG,pgA,Pg.enc,AG,AH]
     (repeat' (first|refine Run.ct rfl ?_|((first|refine Run.reg mixed ?_|refine Run.AJ ?_|(refine AI.upd (hprog j hj) ?_))<;>try simp -implicitDefEqProofs only [hst,hf,go_sem])|fail))
     rw [← hst]
     (repeat' (first|refine Run.ct rfl ?_|((first|refine Run.reg mixed ?_|refine Run.AJ ?_|(refine Run.A9 HM hle ?_)|refine AI.det (hV) ?_)<;>try simp -implicitDefEqProofs only [hf,go_sem])|fail))
     rfl
    |false=>
     rw [hv] at hV
     simp only [if_false,AU,rG,pgA,Pg.enc,AG,AH]
     (repeat' (first|refine Run.ct rfl ?_|((first|refine Run.reg mixed ?_|refine Run.AJ ?_|(refine AI.upd (hprog j hj) ?_))<;>try simp -implicitDefEqProofs only [hst,hf,go_sem])|fail))
     rw [← hst]
     (repeat' (first|refine Run.ct rfl ?_|((first|refine Run.reg mixed ?_|refine Run.AJ ?_|(refine Run.A9 HM hle ?_)|refine AI.det (hV) ?_)<;>try simp -implicitDefEqProofs only [hf,go_sem])|fail))
     rfl
 · have hne:((BN src).2.2 != 0)=true:=by simpa using he
   have hp:Ka src=(⟨[],[]⟩,(BN src).2.1,(BN src).2.2):=if_pos he
   rw [hp]
   simp only [Hq] at hsp
   simp only [rG,pgA,Pg.enc,AG,AH]
   (repeat' (first|refine Run.ct rfl ?_|((first|refine Run.reg mixed ?_|refine Run.AJ ?_|refine Run.A9 HM (AN.le_refl _) ?_|refine AI.det (hsp) ?_)<;>try simp -implicitDefEqProofs only [hne,go_sem])|fail))
end Go.Ab
namespace Go.Ab
open Go.Proofs
def bP:Str:=[102,117,110,32,102,40,120,41,61,105,102,32,120,60,61,48,32,116,104,101,110,40,41,32,101,108,115,101,32,102,40,120,45,49,41,59]
def sU:Str:=[102,117,110,32,102,40,120,41,32,61,32,105,102,32,120,32,60,61,32,48,32,116,104,101,110,32,40,41,32,101,108,115,101,32,102,40,120,32,45,32,49,41,59,10]
def nmE (s:Str):Ex:= .mk 4 s 0 [] [] []
def awE:Ex:= .mk 9 [] 0 [] [.mk 13 [] 7 [] [nmE [120],.mk 3 [] 0 [] [] []] [],.mk 1 [] 0 [] [] [],.mk 12 [] 0 [] [nmE [102],.mk 13 [] 2 [] [nmE [120],.mk 3 [] 1 [] [] []] []] []] []
def awQ:Pg:=⟨[],[⟨[102],[[120]],awE⟩]⟩
theorem nV:Lib.itoa 0=[48]∧Lib.itoa 1=[49]:=by
 constructor<;>simp [Lib.itoa,Lib.decDigits]
theorem dI:V1 awQ=sU:=by
 have h0:=nV.1
 have h1:=nV.2
 have e1:Af (.mk 3 [] 0 [] [] [])=[48]:=by rw [← h0];rfl
 have e2:Af (.mk 3 [] 1 [] [] [])=[49]:=by rw [← h1];rfl
 have e3:Af (.mk 13 [] 7 [] [nmE [120],.mk 3 [] 0 [] [] []] [])=[120,32,60,61,32]++Af (.mk 3 [] 0 [] [] []):=rfl
 have e4:Af (.mk 13 [] 2 [] [nmE [120],.mk 3 [] 1 [] [] []] [])=[120,32,45,32]++Af (.mk 3 [] 1 [] [] []):=rfl
 have e6:Af (.mk 12 [] 0 [] [nmE [102],.mk 13 [] 2 [] [nmE [120],.mk 3 [] 1 [] [] []] []] [])=[102,40]++(Lib.join [Af (.mk 13 [] 2 [] [nmE [120],.mk 3 [] 1 [] [] []] [])] [44,32]++[41]):=rfl
 have e7:Af awE=[105,102,32]++(Af (.mk 13 [] 7 [] [nmE [120],.mk 3 [] 0 [] [] []] [])++([32,116,104,101,110,32]++([40,41]++([32,101,108,115,101,32]++Af (.mk 12 [] 0 [] [nmE [102],.mk 13 [] 2 [] [nmE [120],.mk 3 [] 1 [] [] []] []] []))))):=rfl
 have e8:V1 awQ=(([102,117,110,32]++([102]++(FU [[120]]++([32,61,32]++(Af awE++[59,10])))))++[]):=rfl
 have e9:FU [[120]]=[40,120,41]:=by decide
 rw [e8,e7,e6,Lib.join_one,e3,e4,e1,e2,e9];rfl
theorem bO:Cq awQ=true:=by decide+kernel
theorem pG:(BN bP).2.2=0∧(BN sU).2.2=0∧strip (BN bP).1=strip (BN sU).1:=by decide+kernel
theorem pF:(Ka bP).1=awQ∧(Ka bP).2.2=0:=by
 obtain ⟨h1,h2,h3⟩:=pG
 have hb:=lV bO (by rw [dI];decide)
 rw [dI] at hb
 have hp:=iM h1 h2 h3
 rw [hb] at hp
 exact hp
theorem Yz (σ:AN) (hg:Xt σ) (hp:σ.gt Sk=some Un):AQ Tryz.prog 15 [] σ (fun v σ'=>v= .d (.bool true)∧σ'=σ):=by
 have hpa:=Xf bP σ hg
 have hfm:=Pl awQ σ hp (fun d hd=>by cases hd)
 rw [bO,if_pos rfl,dI] at hfm
 obtain ⟨h1,h2⟩:=pF
 generalize Ka bP=r at hpa h1 h2
 obtain ⟨q,at',code⟩:=r
 simp only at h1 h2
 subst h1 h2
 simp only [rG,pgA,Pg.enc,AG,AH] at hpa hfm
 refine aN (by simp) ?_
 rw [show Ar []=U from by funext s;simp [Ar,U]]
 (repeat' (first|refine Run.ct rfl ?_|((first|refine Run.reg mixed ?_|refine Run.AJ ?_|refine Run.A9 UI (AN.le_refl _) ?_|refine AI.det (hpa) ?_|refine AI.det (hfm) ?_)<;>try simp -implicitDefEqProofs only [AP,go_sem])|fail))
 exact ⟨rfl,rfl⟩
end Go.Ab
namespace Go.Ab
open Go.Proofs
def WZ (l:List Str):Bool:=l.all fun s=>decide (s.length≤40)
theorem Nq (n:Nat):decide ((40:Int) < (n:Int))=decide (40 < n):=decide_eq_decide.2 (by omega)
theorem kW (n:Nat):decide ((10:Int) < (n:Int))=decide (10 < n):=decide_eq_decide.2 (by omega)
theorem x8 (n:Nat):decide ((n:Int)≤(10:Int))=decide (n≤10):=decide_eq_decide.2 (by omega)
theorem Km (l:List Str) (σ:AN):AQ Tryz.prog 39 [.d (.sl (l.map BM)),.d (.int .i64 10)] σ (fun v σ'=>v= .d (.bool (decide (l.length≤10)&&WZ l))∧σ'=σ):=by
 refine dW (by simp) ?_
 rw [BP]
 refine Run.slot 0 (fun hb0=>?_)
 simp only [IX,if_true,AV.HW,AE] at hb0
 (repeat' (first|refine Run.ct rfl ?_|((first|refine Run.reg mixed ?_|refine Run.AJ ?_)<;>try simp -implicitDefEqProofs only [AE,go_sem])|fail))
 refine Run.B3 ?_
 refine Run.B6 ((fun (a0:AV) (a1:AV)=>fun (i:Nat)=>put 0 a0 (put 1 a1 (put 5 (.d (.int .i64 i)) U))) _ _) (fun _=>E) (fun _=>σ) (fun i=>i≤l.length∧i≤11∧WZ (l.take i)=true) (fun i=>l.length - i) ?_ 0 ⟨by simp,by simp,by simp [WZ]⟩
 rintro i ⟨hi,h11,hno⟩ ih
 by_cases hlt:i < l.length
 · obtain ⟨x,hx⟩:=Bu hlt
   have he:=Bi (enc:=BM) hx
   simp only [BM] at he
   have hw1:IntKind.i64.wrap ((i:Int)+1)=((i+1:Nat):Int):=by rw [Av (by omega) (by omega)];omega
   by_cases h10:i≤10
   · by_cases hs:40 < x.length
     · have hf:(decide (l.length≤10)&&WZ l)=false:=by
        rw [Bool.and_eq_false_iff];right
        rw [F5]
        intro h
        rw [WZ,A4] at h
        have:=h x (Aa hx)
        rw [decide_eq_true_eq] at this;omega
       (repeat' (first|refine Run.ct rfl ?_|((first|refine Run.reg mixed ?_|refine Run.AJ ?_|refine Run.A9 Mb (AN.le_refl _) ?_)<;>try simp -implicitDefEqProofs only [BQ hlt,he,hw1,x8,decide_eq_true h10,Nq,decide_eq_true hs,AE,go_sem])|fail))
       rw [hf]
     · (repeat' (first|refine Run.ct rfl ?_|((first|refine Run.reg mixed ?_|refine Run.AJ ?_)<;>try simp -implicitDefEqProofs only [BQ hlt,he,hw1,x8,decide_eq_true h10,Nq,decide_eq_false hs,AE,go_sem])|fail))
       exact ih (i+1) ⟨by omega,by omega,by
        rw [E3 hx,WZ,CM]
        rw [WZ] at hno
        rw [hno];simp;omega⟩ (by omega)
   · have hgt:decide (l.length≤10)=false:=decide_eq_false (by omega)
     (repeat' (first|refine Run.ct rfl ?_|((first|refine Run.reg mixed ?_|refine Run.AJ ?_|refine Run.A9 Mb (AN.le_refl _) ?_)<;>try simp -implicitDefEqProofs only [BQ hlt,he,hw1,x8,decide_eq_false h10,AE,hgt,go_sem])|fail))
     try rw [Ea]
 · have hile:i=l.length:=by omega
   subst hile
   rw [A6 (by omega)] at hno
   (repeat' (first|refine Run.ct rfl ?_|((first|refine Run.reg mixed ?_|refine Run.AJ ?_|refine Run.A9 Mb (AN.le_refl _) ?_)<;>try simp -implicitDefEqProofs only [DA hlt,x8,AE,go_sem])|fail))
   rw [hno,BH]
mutual
def TE.sm:TE→Prop
 | .mk _ n l=>n.length≤40∧TE.sms l
def TE.sms:List TE→Prop
 |[]=>True
 |t::l=>t.sm∧TE.sms l
end
def rB (l:List Str):Prop:=l.length≤10∧∀s∈l,s.length≤40
mutual
def Ex.sm:Ex→Prop
 | .mk _ n _ ns ks al=>n.length≤40∧rB ns∧Ex.sms ks∧Al.sms al
def Ex.sms:List Ex→Prop
 |[]=>True
 |t::l=>t.sm∧Ex.sms l
def Al.sm:Al→Prop
 | .mk c vs b=>c.length≤40∧rB vs∧b.sm
def Al.sms:List Al→Prop
 |[]=>True
 |t::l=>t.sm∧Al.sms l
end
theorem TE.ON:∀ {l:List TE},TE.sms l↔∀t∈l,t.sm
 |[]=>by simp [TE.sms]
 |t::l=>by simp [TE.sms,TE.ON (l:=l)]
theorem Ex.ON:∀ {l:List Ex},Ex.sms l↔∀t∈l,t.sm
 |[]=>by simp [Ex.sms]
 |t::l=>by simp [Ex.sms,Ex.ON (l:=l)]
theorem Al.ON:∀ {l:List Al},Al.sms l↔∀t∈l,t.sm
 |[]=>by simp [Al.sms]
 |t::l=>by simp [Al.sms,Al.ON (l:=l)]
theorem eM {l:List Str} (h:(decide (l.length≤10)&&WZ l)=true):rB l:=by
 simp only [WZ,AM,decide_eq_true_eq,A4] at h;exact h
theorem F3 {α:Type} {p:α→Prop} {l:List α} {i:Nat} {x:α} (h:∀t∈l.take i,p t) (hx:l[i]?=some x) (hp:p x):∀t∈l.take (i+1),p t:=by
 intro t ht
 rw [E3 hx,BY,Dy] at ht
 rcases ht with ht|rfl
 · exact h t ht
 · exact hp
theorem TE.Ke {l:List TE} {i:Nat} {x:TE} (h:l[i]?=some x):TE.BA (l.take (i+1))=TE.BA (l.take i)+x.size:=by
 rw [E3 h,TE.DB];simp [TE.BA]
theorem Ex.Ke {l:List Ex} {i:Nat} {x:Ex} (h:l[i]?=some x):Ex.BA (l.take (i+1))=Ex.BA (l.take i)+x.size:=by
 rw [E3 h,Ex.DB];simp [Ex.BA]
theorem Al.Ke {l:List Al} {i:Nat} {x:Al} (h:l[i]?=some x):Al.BA (l.take (i+1))=Al.BA (l.take i)+x.size:=by
 rw [E3 h,Al.DB];simp [Al.BA]
def wY (good:Prop) (size q:Nat) (b:Bool) (z:Int):Prop:=b=true→good∧∃q':Nat,z=q'∧size+q'=q
theorem ZG {q:Nat}:decide ((q:Int) < 0)=false:=decide_eq_false (by omega)
set_option maxHeartbeats 4000000 in
theorem X1 (j:Nat):∀(N:Nat) (t:TE) (q:Nat) (σ:AN),t.size≤N→q≤1000→σ.blk j=some [.d (.int .i64 q)]→
 AQ Tryz.prog 40 [teA t,.gp j 0] σ (fun v σ'=>∃b z,(v= .d (.bool b)∧σ'=σ.AK j [.d (.int .i64 z)])∧wY t.sm t.size q b z):=by
 intro N
 induction N with
 |zero=>intro t q σ h;have:=TE.size_pos t;omega
 |succ N ihN=>
 rintro ⟨k,n,l⟩ q σ hN hq hj
 simp only [TE.size] at hN
 refine Yj (by simp) ?_
 rw [BP,teA,TE.A3]
 simp only [AG,AH]
 generalize hQ:(fun (v:AV) (σ':AN)=>∃b z,(v= .d (.bool b)∧σ'=σ.AK j [.d (.int .i64 z)])∧wY (TE.mk k n l).sm (TE.mk k n l).size q b z)=Q
 have hno:∀z,Q (.d (.bool false)) (σ.AK j [.d (.int .i64 z)]):=fun z=>by rw [← hQ];exact ⟨false,z,⟨rfl,rfl⟩,fun h=>by cases h⟩
 have hyes:∀q':Nat,n.length≤40→(∀t∈l,t.sm)→1+TE.BA l+q'=q→Q (.d (.bool true)) (σ.AK j [.d (.int .i64 q')]):=fun q' h1 h2 h3=>by
  rw [← hQ];exact ⟨true,q',⟨rfl,rfl⟩,fun _=>⟨by rw [TE.sm,TE.ON];exact ⟨h1,h2⟩,q',rfl,by rw [TE.size];exact h3⟩⟩
 clear hQ
 rcases Dz q with rfl|hq0
 · have hm1:IntKind.i64.wrap (((0:Nat):Int) - 1)=-1:=by decide
   have hn1:decide ((-1:Int) < 0)=true:=by decide
   (repeat' (first|refine Run.ct rfl ?_|((first|refine Run.reg mixed ?_|refine Run.AJ ?_|(refine Run.A9 HJ (AN.le_refl _) ?_))<;>try simp -implicitDefEqProofs only [hj,hm1,hn1,AO,Jl,GN,AY,A1,go_sem])|fail))
   exact hno _
 obtain ⟨q,rfl⟩:∃m,q=m+1:=⟨q - 1,by omega⟩
 have hm1:IntKind.i64.wrap (((q+1:Nat):Int) - 1)=(q:Int):=by rw [Av (by omega) (by omega)];omega
 by_cases h40:40 < n.length
 · (repeat' (first|refine Run.ct rfl ?_|((first|refine Run.reg mixed ?_|refine Run.AJ ?_|(refine Run.A9 HJ (AN.le_refl _) ?_))<;>try simp -implicitDefEqProofs only [hj,hm1,ZG,Nq,decide_eq_true h40,AO,Jl,GN,AY,A1,go_sem])|fail))
   exact hno _
 (repeat' (first|refine Run.ct rfl ?_|((first|refine Run.reg mixed ?_|refine Run.AJ ?_)<;>try simp -implicitDefEqProofs only [hj,hm1,ZG,Nq,decide_eq_false h40,AO,Jl,GN,AY,A1,go_sem])|fail))
 refine Run.B3 ?_
 refine Run.B6 ((fun (a1:AV) (a2:AV)=>fun (y:Nat×Nat)=>put 1 a1 (put 2 a2 (put 5 (.d (.int .i64 y.1)) U))) _ _) (fun _=>BZ 2 [.d (.int .i64 k),.d (.str n),.d (.sl (l.map TE.enc))] E) (fun y=>σ.AK j [.d (.int .i64 y.2)])
  (fun y=>y.1≤l.length∧(∀t∈l.take y.1,t.sm)∧TE.BA (l.take y.1)+y.2=q) (fun y=>l.length - y.1) ?_ (0,q) ⟨by simp,by simp,by simp [TE.BA]⟩
 rintro ⟨i,q'⟩ ⟨hi,hsm,hsz⟩ ih
 simp only at hi hsm hsz
 have hil:=TE.Es (l.take i)
 rw [B1,Nl hi] at hil
 by_cases hlt:i < l.length
 · obtain ⟨x,hx⟩:=Bu hlt
   have he:=Bi (enc:=TE.enc) hx
   have hw1:=BV (show i+1≤9000000000000000000 by omega)
   have hxs:=TE.Ly (Aa hx)
   have hc:=ihN x q' (σ.AK j [.d (.int .i64 q')]) (by omega) (by omega) (by rw [AO,if_pos rfl])
   have hst:=TE.Ke hx
   have hms:=fun hp=>F3 (p:=TE.sm) hsm hx hp
   obtain ⟨xk,xn,xl⟩:=x
   simp only [teA,TE.A3,AG,AH] at he hc
   (repeat' (first|refine Run.ct rfl ?_|((first|refine Run.reg mixed ?_|refine Run.AJ ?_|(refine AI.mk rfl hc ?_;rintro v σ' ⟨b,z,⟨rfl,rfl⟩,hres⟩;cases b<;>rw [A2])|(refine Run.A9 HJ (AN.le_refl _) ?_))<;>try simp -implicitDefEqProofs only [BQ hlt,he,hw1,AE,go_sem])|fail))
   · exact hno z
   · obtain ⟨g1,q2,rfl,g2⟩:=hres rfl
     exact ih (i+1,q2) ⟨by simp only;omega,hms g1,by simp only;omega⟩ (by simp only;omega)
 · rw [A6 (by omega)] at hsm hsz
   (repeat' (first|refine Run.ct rfl ?_|((first|refine Run.reg mixed ?_|refine Run.AJ ?_|(refine Run.A9 HJ (AN.le_refl _) ?_))<;>try simp -implicitDefEqProofs only [DA hlt,AE,go_sem])|fail))
   exact hyes q' (by omega) hsm (by omega)
theorem eE (j:Nat):∀(N:Nat) (e:Ex) (q:Nat) (σ:AN),e.size≤N→q≤1000→σ.blk j=some [.d (.int .i64 q)]→
 AQ Tryz.prog 41 [exA e,.gp j 0] σ (fun v σ'=>∃b z,(v= .d (.bool b)∧σ'=σ.AK j [.d (.int .i64 z)])∧wY e.sm e.size q b z):=by
 intro N
 induction N with
 |zero=>intro t q σ h;have:=Ex.size_pos t;omega
 |succ N ihN=>
 rintro ⟨o,n,u,ns,ks,al⟩ q σ hN hq hj
 simp only [Ex.size] at hN
 refine gQ (by simp) ?_
 rw [BP,exA,Ex.A3]
 simp only [AG,AH]
 generalize hQ:(fun (v:AV) (σ':AN)=>∃b z,(v= .d (.bool b)∧σ'=σ.AK j [.d (.int .i64 z)])∧wY (Ex.mk o n u ns ks al).sm (Ex.mk o n u ns ks al).size q b z)=Q
 have hno:∀z,Q (.d (.bool false)) (σ.AK j [.d (.int .i64 z)]):=fun z=>by rw [← hQ];exact ⟨false,z,⟨rfl,rfl⟩,fun h=>by cases h⟩
 have hyes:∀q':Nat,n.length≤40→rB ns→(∀t∈ks,t.sm)→(∀t∈al,t.sm)→1+Ex.BA ks+Al.BA al+q'=q→Q (.d (.bool true)) (σ.AK j [.d (.int .i64 q')]):=fun q' h1 h2 h3 h4 h5=>by
  rw [← hQ];exact ⟨true,q',⟨rfl,rfl⟩,fun _=>⟨by rw [Ex.sm,Ex.ON,Al.ON];exact ⟨h1,h2,h3,h4⟩,q',rfl,by rw [Ex.size];exact h5⟩⟩
 clear hQ
 have hnm:=fun σ=>Km ns σ
 rcases Dz q with rfl|hq0
 · have hm1:IntKind.i64.wrap (((0:Nat):Int) - 1)=-1:=by decide
   have hn1:decide ((-1:Int) < 0)=true:=by decide
   (repeat' (first|refine Run.ct rfl ?_|((first|refine Run.reg mixed ?_|refine Run.AJ ?_|(refine Run.A9 EE (AN.le_refl _) ?_))<;>try simp -implicitDefEqProofs only [hj,hm1,hn1,AO,Jl,GN,AY,A1,go_sem])|fail))
   exact hno _
 obtain ⟨q,rfl⟩:∃m,q=m+1:=⟨q - 1,by omega⟩
 have hm1:IntKind.i64.wrap (((q+1:Nat):Int) - 1)=(q:Int):=by rw [Av (by omega) (by omega)];omega
 by_cases h40:40 < n.length
 · (repeat' (first|refine Run.ct rfl ?_|((first|refine Run.reg mixed ?_|refine Run.AJ ?_|(refine Run.A9 EE (AN.le_refl _) ?_))<;>try simp -implicitDefEqProofs only [hj,hm1,ZG,Nq,decide_eq_true h40,AO,Jl,GN,AY,A1,go_sem])|fail))
   exact hno _
 cases hnk:(decide (ns.length≤10)&&WZ ns) with
 |false=>
  rw [hnk] at hnm
  (repeat' (first|refine Run.ct rfl ?_|((first|refine Run.reg mixed ?_|refine Run.AJ ?_|(refine Run.A9 EE (AN.le_refl _) ?_)|refine AI.det (hnm _) ?_)<;>try simp -implicitDefEqProofs only [hj,hm1,ZG,Nq,decide_eq_false h40,AO,Jl,GN,AY,A1,go_sem])|fail))
  exact hno _
 |true=>
 rw [hnk] at hnm
 by_cases hk10:10 < ks.length
 · (repeat' (first|refine Run.ct rfl ?_|((first|refine Run.reg mixed ?_|refine Run.AJ ?_|(refine Run.A9 EE (AN.le_refl _) ?_)|refine AI.det (hnm _) ?_)<;>try simp -implicitDefEqProofs only [hj,hm1,ZG,Nq,decide_eq_false h40,kW,AE,decide_eq_true hk10,AO,Jl,GN,AY,A1,go_sem])|fail))
   exact hno _
 by_cases ha10:10 < al.length
 · (repeat' (first|refine Run.ct rfl ?_|((first|refine Run.reg mixed ?_|refine Run.AJ ?_|(refine Run.A9 EE (AN.le_refl _) ?_)|refine AI.det (hnm _) ?_)<;>try simp -implicitDefEqProofs only [hj,hm1,ZG,Nq,decide_eq_false h40,kW,AE,decide_eq_false hk10,decide_eq_true ha10,AO,Jl,GN,AY,A1,go_sem])|fail))
   exact hno _
 (repeat' (first|refine Run.ct rfl ?_|((first|refine Run.reg mixed ?_|refine Run.AJ ?_|refine AI.det (hnm _) ?_)<;>try simp -implicitDefEqProofs only [hj,hm1,ZG,Nq,decide_eq_false h40,kW,AE,decide_eq_false hk10,decide_eq_false ha10,AO,Jl,GN,AY,A1,go_sem])|fail))
 refine Run.B3 ?_
 refine Run.B6 ((fun (a1:AV) (a2:AV)=>fun (y:Nat×Nat)=>put 1 a1 (put 2 a2 (put 5 (.d (.int .i64 y.1)) U))) _ _) (fun _=>BZ 2 [.d (.int .i64 o),.d (.str n),.d (.int .i64 u),.d (.sl (ns.map BM)),.d (.sl (ks.map Ex.enc)),.d (.sl (al.map Al.enc))] E) (fun y=>σ.AK j [.d (.int .i64 y.2)])
  (fun y=>y.1≤ks.length∧(∀t∈ks.take y.1,t.sm)∧Ex.BA (ks.take y.1)+y.2=q) (fun y=>ks.length - y.1) ?_ (0,q) ⟨by simp,by simp,by simp [Ex.BA]⟩
 rintro ⟨i,q'⟩ ⟨hi,hsm,hsz⟩ ih
 simp only at hi hsm hsz
 by_cases hlt:i < ks.length
 · obtain ⟨x,hx⟩:=Bu hlt
   have he:=Bi (enc:=Ex.enc) hx
   have hw1:=BV (show i+1≤9000000000000000000 by omega)
   have hxs:=Ex.Ly (Aa hx)
   have hc:=ihN x q' (σ.AK j [.d (.int .i64 q')]) (by omega) (by omega) (by rw [AO,if_pos rfl])
   have hst:=Ex.Ke hx
   have hms:=fun hp=>F3 (p:=Ex.sm) hsm hx hp
   obtain ⟨xo,xn,xu,xns,xks,xal⟩:=x
   simp only [exA,Ex.A3,AG,AH] at he hc
   (repeat' (first|refine Run.ct rfl ?_|((first|refine Run.reg mixed ?_|refine Run.AJ ?_|(refine AI.mk rfl hc ?_;rintro v σ' ⟨b,z,⟨rfl,rfl⟩,hres⟩;cases b<;>rw [A2])|(refine Run.A9 EE (AN.le_refl _) ?_))<;>try simp -implicitDefEqProofs only [BQ hlt,he,hw1,AE,go_sem])|fail))
   · exact hno z
   · obtain ⟨g1,q2,rfl,g2⟩:=hres rfl
     exact ih (i+1,q2) ⟨by simp only;omega,hms g1,by simp only;omega⟩ (by simp only;omega)
 · rw [A6 (by omega)] at hsm hsz
   clear ih
   (repeat' (first|refine Run.ct rfl ?_|((first|refine Run.reg mixed ?_|refine Run.AJ ?_)<;>try simp -implicitDefEqProofs only [DA hlt,AE,go_sem])|fail))
   refine Run.B3 ?_
   refine Run.B6 ((fun (a1:AV) (a2:AV)=>fun (y:Nat×Nat)=>put 1 a1 (put 2 a2 (put 6 (.d (.int .i64 y.1)) U))) _ _) (fun _=>BZ 2 [.d (.int .i64 o),.d (.str n),.d (.int .i64 u),.d (.sl (ns.map BM)),.d (.sl (ks.map Ex.enc)),.d (.sl (al.map Al.enc))] E) (fun y=>σ.AK j [.d (.int .i64 y.2)])
    (fun y=>y.1≤al.length∧(∀t∈al.take y.1,t.sm)∧Al.BA (al.take y.1)+y.2=q') (fun y=>al.length - y.1) ?_ (0,q') ⟨by simp,by simp,by simp [Al.BA]⟩
   rintro ⟨i2,q2⟩ ⟨hi2,hsm2,hsz2⟩ ih
   simp only at hi2 hsm2 hsz2
   by_cases hlt:i2 < al.length
   · obtain ⟨x,hx⟩:=Bu hlt
     have he:=Bi (enc:=Al.enc) hx
     have hw1:=BV (show i2+1≤9000000000000000000 by omega)
     have hxs:=Al.Ly (Aa hx)
     have hst:=Al.Ke hx
     have hms:=fun hp=>F3 (p:=Al.sm) hsm2 hx hp
     obtain ⟨xc,xvs,xb⟩:=x
     rw [Al.size] at hxs hst
     have hc:=ihN xb q2 (σ.AK j [.d (.int .i64 q2)]) (by omega) (by omega) (by rw [AO,if_pos rfl])
     have hnv:=fun σ=>Km xvs σ
     obtain ⟨xo,xn,xu,xns,xks,xal⟩:=xb
     simp only [exA,Al.A3,Ex.A3,AG,AH] at he hc
     by_cases hc40:40 < xc.length
     · (repeat' (first|refine Run.ct rfl ?_|((first|refine Run.reg mixed ?_|refine Run.AJ ?_|(refine Run.A9 EE (AN.le_refl _) ?_))<;>try simp -implicitDefEqProofs only [BQ hlt,he,Nq,decide_eq_true hc40,AE,go_sem])|fail))
       exact hno _
     cases hvk:(decide (xvs.length≤10)&&WZ xvs) with
     |false=>
      rw [hvk] at hnv
      (repeat' (first|refine Run.ct rfl ?_|((first|refine Run.reg mixed ?_|refine Run.AJ ?_|(refine Run.A9 EE (AN.le_refl _) ?_)|refine AI.det (hnv _) ?_)<;>try simp -implicitDefEqProofs only [BQ hlt,he,Nq,decide_eq_false hc40,AE,go_sem])|fail))
      exact hno _
     |true=>
     rw [hvk] at hnv
     (repeat' (first|refine Run.ct rfl ?_|((first|refine Run.reg mixed ?_|refine Run.AJ ?_|(refine AI.mk rfl hc ?_;rintro v σ' ⟨b,z,⟨rfl,rfl⟩,hres⟩;cases b<;>rw [A2])|(refine Run.A9 EE (AN.le_refl _) ?_)|refine AI.det (hnv _) ?_)<;>try simp -implicitDefEqProofs only [BQ hlt,he,hw1,Nq,decide_eq_false hc40,AE,go_sem])|fail))
     · exact hno z
     · obtain ⟨g1,q3,rfl,g2⟩:=hres rfl
       exact ih (i2+1,q3) ⟨by simp only;omega,hms (by rw [Al.sm];exact ⟨by omega,eM hvk,g1⟩),by simp only;omega⟩ (by simp only;omega)
   · rw [A6 (by omega)] at hsm2 hsz2
     (repeat' (first|refine Run.ct rfl ?_|((first|refine Run.reg mixed ?_|refine Run.AJ ?_|(refine Run.A9 EE (AN.le_refl _) ?_))<;>try simp -implicitDefEqProofs only [DA hlt,AE,go_sem])|fail))
     exact hyes q2 (by omega) (eM hnk) hsm hsm2 (by omega)
end Go.Ab
namespace Go.Ab
open Go.Proofs
def CE.sm (c:CE):Prop:=c.name.length≤40∧c.args.length≤10∧∀t∈c.args,t.sm∧t.size≤200
def DE.sm (d:DE):Prop:=d.name.length≤40∧rB d.vars∧d.cons.length≤10∧∀c∈d.cons,c.sm
def FE.sm (f:FE):Prop:=f.name.length≤40∧rB f.params∧f.body.sm∧f.body.size≤200
def Pg.sm (p:Pg):Prop:=(p.data.length≤14∧∀d∈p.data,d.sm)∧p.SI.length≤26∧∀f∈p.SI,f.sm
theorem ABR (n:Nat):decide ((14:Int) < (n:Int))=decide (14 < n):=decide_eq_decide.2 (by omega)
theorem ADR (n:Nat):decide ((26:Int) < (n:Int))=decide (26 < n):=decide_eq_decide.2 (by omega)
theorem eD (p:Pg) (σ:AN):AQ Tryz.prog 16 [pgA p] σ (fun v σ'=>∃b,(v= .d (.bool b)∧σ'=σ)∧(b=true→p.sm)):=by
 refine gP (by simp) ?_
 rw [Ax]
 obtain ⟨ds,fs⟩:=p
 simp only [pgA,Pg.enc,AG,AH]
 generalize hQ:(fun (v:AV) (σ':AN)=>∃b,(v= .d (.bool b)∧σ'=σ)∧(b=true→Pg.sm ⟨ds,fs⟩))=Q
 have hno:Q (.d (.bool false)) σ:=by rw [← hQ];exact ⟨false,⟨rfl,rfl⟩,fun h=>by cases h⟩
 have hyes:Pg.sm ⟨ds,fs⟩→Q (.d (.bool true)) σ:=fun h=>by rw [← hQ];exact ⟨true,⟨rfl,rfl⟩,fun _=>h⟩
 clear hQ
 by_cases hd14:14 < ds.length
 · (repeat' (first|refine Run.ct rfl ?_|((first|refine Run.reg mixed ?_|refine Run.AJ ?_|refine Run.Fq DD (AN.le_refl _) ?_)<;>try simp -implicitDefEqProofs only [AE,ABR,decide_eq_true hd14,go_sem])|fail))
   exact hno
 by_cases hf26:26 < fs.length
 · (repeat' (first|refine Run.ct rfl ?_|((first|refine Run.reg mixed ?_|refine Run.AJ ?_|refine Run.Fq DD (AN.le_refl _) ?_)<;>try simp -implicitDefEqProofs only [AE,ABR,decide_eq_false hd14,ADR,decide_eq_true hf26,go_sem])|fail))
   exact hno
 (repeat' (first|refine Run.ct rfl ?_|((first|refine Run.reg mixed ?_|refine Run.AJ ?_)<;>try simp -implicitDefEqProofs only [AE,ABR,decide_eq_false hd14,ADR,decide_eq_false hf26,go_sem])|fail))
 rintro j ⟨hj,hjb⟩
 obtain ⟨hle0,hbj⟩:=sP (z:=[AV.d (.int .i64 0)]) (x:=(1,3)) ⟨hj,hjb⟩
 generalize hτ:(σ.AK j [AV.d (.int .i64 0)]).Ge j (1,3)=τ0 at hle0 hbj ⊢
 have hle:∀q:Nat,σ.le (τ0.AK j [.d (.int .i64 q)]):=fun q=>ZA hle0 hj
 have hbk:∀q:Nat,(τ0.AK j [.d (.int .i64 q)]).blk j=some [.d (.int .i64 q)]:=fun q=>by rw [AO,if_pos rfl]
 clear hτ
 simp -implicitDefEqProofs only [hbj,GN,go_sem]
 (repeat' (first|refine Run.ct rfl ?_|((first|refine Run.reg mixed ?_|refine Run.AJ ?_)<;>try simp -implicitDefEqProofs only [AE,hbj,GN,go_sem])|fail))
 refine Run.B3 ?_
 refine Run.B6 ((fun (a1:AV) (a3:AV) (a23:AV) (a24:AV)=>fun (y:Nat×Nat)=>put 1 a1 (put 3 a3 (put 23 a23 (put 24 a24 (put 25 (.d (.int .i64 y.1)) U))))) _ _ _ _) (fun _=>BZ 1 [.d (.sl (ds.map DE.enc)),.d (.sl (fs.map FE.enc))] E) (fun y=>τ0.AK j [.d (.int .i64 y.2)])
  (fun y=>y.1≤ds.length∧y.2≤200∧∀d∈ds.take y.1,d.sm) (fun y=>ds.length - y.1) ?_ (0,200) ⟨by simp,by simp,by simp⟩
 rintro ⟨i,q⟩ ⟨hi,hq,hsm⟩ ih
 simp only at hi hq hsm
 by_cases hlt:i < ds.length
 · obtain ⟨d,hd⟩:=Bu hlt
   have he:=Bi (enc:=DE.enc) hd
   have hw1:=BV (show i+1≤9000000000000000000 by omega)
   have hms:=fun hp=>F3 (p:=DE.sm) hsm hd hp
   obtain ⟨dn,dvs',dcs⟩:=d
   simp only [DE.enc] at he
   have hnm:=fun σ=>Km dvs' σ
   by_cases h40:40 < dn.length
   · (repeat' (first|refine Run.ct rfl ?_|((first|refine Run.reg mixed ?_|refine Run.AJ ?_|(refine Run.A9 DD (σ2:=σ) (hle _) ?_))<;>try simp -implicitDefEqProofs only [BQ hlt,he,Nq,decide_eq_true h40,AE,go_sem])|fail))
     exact hno
   cases hnk:(decide (dvs'.length≤10)&&WZ dvs') with
   |false=>
    rw [hnk] at hnm
    (repeat' (first|refine Run.ct rfl ?_|((first|refine Run.reg mixed ?_|refine Run.AJ ?_|(refine Run.A9 DD (σ2:=σ) (hle _) ?_)|refine AI.det (hnm _) ?_)<;>try simp -implicitDefEqProofs only [BQ hlt,he,Nq,decide_eq_false h40,AE,go_sem])|fail))
    exact hno
   |true=>
   rw [hnk] at hnm
   by_cases hc10:10 < dcs.length
   · (repeat' (first|refine Run.ct rfl ?_|((first|refine Run.reg mixed ?_|refine Run.AJ ?_|(refine Run.A9 DD (σ2:=σ) (hle _) ?_)|refine AI.det (hnm _) ?_)<;>try simp -implicitDefEqProofs only [BQ hlt,he,Nq,decide_eq_false h40,kW,decide_eq_true hc10,AE,go_sem])|fail))
     exact hno
   (repeat' (first|refine Run.ct rfl ?_|((first|refine Run.reg mixed ?_|refine Run.AJ ?_|refine AI.det (hnm _) ?_)<;>try simp -implicitDefEqProofs only [BQ hlt,he,Nq,decide_eq_false h40,kW,decide_eq_false hc10,AE,go_sem])|fail))
   refine Run.B3 ?_
   refine Run.B6 ((fun (a1:AV) (a3:AV) (a23:AV) (a24:AV) (a25:AV) (a46:AV) (a47:AV)=>fun (y:Nat×Nat)=>put 1 a1 (put 3 a3 (put 23 a23 (put 24 a24 (put 25 a25 (put 46 a46 (put 47 a47 (put 48 (.d (.int .i64 y.1)) U)))))))) _ _ _ _ _ _ _) (fun _=>BZ 1 [.d (.sl (ds.map DE.enc)),.d (.sl (fs.map FE.enc))] E) (fun y=>τ0.AK j [.d (.int .i64 y.2)])
    (fun y=>y.1≤dcs.length∧y.2≤200∧∀d∈dcs.take y.1,d.sm) (fun y=>dcs.length - y.1) ?_ (0,q) ⟨by simp,hq,by simp⟩
   rintro ⟨i1,q1⟩ ⟨hi1,hq1,hsm1⟩ ih1
   simp only at hi1 hq1 hsm1
   by_cases hlt1:i1 < dcs.length
   · obtain ⟨c,hc⟩:=Bu hlt1
     have he1:=Bi (enc:=CE.enc) hc
     have hw2:=BV (show i1+1≤9000000000000000000 by omega)
     have hms1:=fun hp=>F3 (p:=CE.sm) hsm1 hc hp
     obtain ⟨cn,ar⟩:=c
     simp only [CE.enc] at he1
     by_cases hcn40:40 < cn.length
     · (repeat' (first|refine Run.ct rfl ?_|((first|refine Run.reg mixed ?_|refine Run.AJ ?_|(refine Run.A9 DD (σ2:=σ) (hle _) ?_))<;>try simp -implicitDefEqProofs only [BQ hlt1,he1,Nq,decide_eq_true hcn40,AE,go_sem])|fail))
       exact hno
     by_cases ha10:10 < ar.length
     · (repeat' (first|refine Run.ct rfl ?_|((first|refine Run.reg mixed ?_|refine Run.AJ ?_|(refine Run.A9 DD (σ2:=σ) (hle _) ?_))<;>try simp -implicitDefEqProofs only [BQ hlt1,he1,Nq,decide_eq_false hcn40,kW,decide_eq_true ha10,AE,go_sem])|fail))
       exact hno
     (repeat' (first|refine Run.ct rfl ?_|((first|refine Run.reg mixed ?_|refine Run.AJ ?_)<;>try simp -implicitDefEqProofs only [BQ hlt1,he1,Nq,decide_eq_false hcn40,kW,decide_eq_false ha10,AE,go_sem])|fail))
     refine Run.B3 ?_
     refine Run.B6 ((fun (a1:AV) (a3:AV) (a23:AV) (a24:AV) (a25:AV) (a46:AV) (a47:AV) (a48:AV) (a63:AV) (a64:AV)=>fun (y:Nat×Nat)=>put 1 a1 (put 3 a3 (put 23 a23 (put 24 a24 (put 25 a25 (put 46 a46 (put 47 a47 (put 48 a48 (put 63 a63 (put 64 a64 (put 65 (.d (.int .i64 y.1)) U))))))))))) _ _ _ _ _ _ _ _ _ _) (fun _=>BZ 1 [.d (.sl (ds.map DE.enc)),.d (.sl (fs.map FE.enc))] E) (fun y=>τ0.AK j [.d (.int .i64 y.2)])
      (fun y=>y.1≤ar.length∧y.2≤200∧∀t∈ar.take y.1,t.sm∧t.size≤200) (fun y=>ar.length - y.1) ?_ (0,q1) ⟨by simp,hq1,by simp⟩
     rintro ⟨i2,q2⟩ ⟨hi2,hq2,hsm2⟩ ih2
     simp only at hi2 hq2 hsm2
     by_cases hlt2:i2 < ar.length
     · obtain ⟨x,hx⟩:=Bu hlt2
       have he2:=Bi (enc:=TE.enc) hx
       have hw3:=BV (show i2+1≤9000000000000000000 by omega)
       have hms2:=fun hp=>F3 (p:=fun t=>TE.sm t∧t.size≤200) hsm2 hx hp
       have hcl:=X1 j x.size x q2 (τ0.AK j [.d (.int .i64 q2)]) (A8 _) (by omega) (hbk q2)
       obtain ⟨xk,xn,xl⟩:=x
       simp only [teA,TE.A3,AG,AH] at he2 hcl
       (repeat' (first|refine Run.ct rfl ?_|((first|refine Run.reg mixed ?_|refine Run.AJ ?_|(refine AI.mk rfl hcl ?_;rintro v σ' ⟨b,z,⟨rfl,rfl⟩,hres⟩;cases b<;>rw [A2])|(refine Run.A9 DD (σ2:=σ) (ZA hle0 hj) ?_))<;>try simp -implicitDefEqProofs only [BQ hlt2,he2,hw3,AE,go_sem])|fail))
       · exact hno
       · obtain ⟨g1,q3,rfl,g2⟩:=hres rfl
         exact ih2 (i2+1,q3) ⟨by simp only;omega,by simp only;omega,hms2 ⟨g1,by omega⟩⟩ (by simp only;omega)
     · rw [A6 (by omega)] at hsm2
       (repeat' (first|refine Run.ct rfl ?_|((first|refine Run.reg mixed ?_|refine Run.AJ ?_)<;>try simp -implicitDefEqProofs only [DA hlt2,hw2,AE,go_sem])|fail))
       exact ih1 (i1+1,q2) ⟨by simp only;omega,hq2,hms1 ⟨by simp only;omega,by simp only;omega,hsm2⟩⟩ (by simp only;omega)
   · rw [A6 (by omega)] at hsm1
     (repeat' (first|refine Run.ct rfl ?_|((first|refine Run.reg mixed ?_|refine Run.AJ ?_)<;>try simp -implicitDefEqProofs only [DA hlt1,hw1,AE,go_sem])|fail))
     exact ih (i+1,q1) ⟨by simp only;omega,hq1,hms ⟨by simp only;omega,eM hnk,by simp only;omega,hsm1⟩⟩ (by simp only;omega)
 · rw [A6 (by omega)] at hsm
   clear ih
   (repeat' (first|refine Run.ct rfl ?_|((first|refine Run.reg mixed ?_|refine Run.AJ ?_)<;>try simp -implicitDefEqProofs only [DA hlt,AE,go_sem])|fail))
   refine Run.B3 ?_
   refine Run.B6 ((fun (a3:AV) (a76:AV) (a77:AV)=>fun (y:Nat×Nat)=>put 3 a3 (put 76 a76 (put 77 a77 (put 78 (.d (.int .i64 y.1)) U)))) _ _ _) (fun _=>E) (fun y=>τ0.AK j [.d (.int .i64 y.2)])
    (fun y=>y.1≤fs.length∧y.2≤200∧∀d∈fs.take y.1,d.sm) (fun y=>fs.length - y.1) ?_ (0,q) ⟨by simp,hq,by simp⟩
   rintro ⟨i1,q1⟩ ⟨hi1,hq1,hsm1⟩ ih
   simp only at hi1 hq1 hsm1
   by_cases hlt1:i1 < fs.length
   · obtain ⟨f,hf⟩:=Bu hlt1
     have he:=Bi (enc:=FE.enc) hf
     have hw1:=BV (show i1+1≤9000000000000000000 by omega)
     have hms:=fun hp=>F3 (p:=FE.sm) hsm1 hf hp
     obtain ⟨fn,fps,fb⟩:=f
     have hnm:=fun σ=>Km fps σ
     have hcl:=eE j fb.size fb q1 (τ0.AK j [.d (.int .i64 q1)]) (A8 _) (by omega) (hbk q1)
     obtain ⟨xo,xn,xu,xns,xks,xal⟩:=fb
     simp only [FE.enc,exA,Ex.A3,AG,AH] at he hcl
     by_cases h40:40 < fn.length
     · (repeat' (first|refine Run.ct rfl ?_|((first|refine Run.reg mixed ?_|refine Run.AJ ?_|(refine Run.A9 DD (σ2:=σ) (hle _) ?_))<;>try simp -implicitDefEqProofs only [BQ hlt1,he,Nq,decide_eq_true h40,AE,go_sem])|fail))
       exact hno
     cases hnk:(decide (fps.length≤10)&&WZ fps) with
     |false=>
      rw [hnk] at hnm
      (repeat' (first|refine Run.ct rfl ?_|((first|refine Run.reg mixed ?_|refine Run.AJ ?_|(refine Run.A9 DD (σ2:=σ) (hle _) ?_)|refine AI.det (hnm _) ?_)<;>try simp -implicitDefEqProofs only [BQ hlt1,he,Nq,decide_eq_false h40,AE,go_sem])|fail))
      exact hno
     |true=>
     rw [hnk] at hnm
     (repeat' (first|refine Run.ct rfl ?_|((first|refine Run.reg mixed ?_|refine Run.AJ ?_|(refine AI.mk rfl hcl ?_;rintro v σ' ⟨b,z,⟨rfl,rfl⟩,hres⟩;cases b<;>rw [A2])|(refine Run.A9 DD (σ2:=σ) (ZA hle0 hj) ?_)|refine AI.det (hnm _) ?_)<;>try simp -implicitDefEqProofs only [BQ hlt1,he,hw1,Nq,decide_eq_false h40,AE,go_sem])|fail))
     · exact hno
     · obtain ⟨g1,q3,rfl,g2⟩:=hres rfl
       exact ih (i1+1,q3) ⟨by simp only;omega,by simp only;omega,hms ⟨by simp only;omega,eM hnk,g1,by simp only;omega⟩⟩ (by simp only;omega)
   · rw [A6 (by omega)] at hsm1
     (repeat' (first|refine Run.ct rfl ?_|((first|refine Run.reg mixed ?_|refine Run.AJ ?_|(refine Run.A9 DD (σ2:=σ) (hle _) ?_))<;>try simp -implicitDefEqProofs only [DA hlt1,AE,go_sem])|fail))
     exact hyes ⟨⟨by simp only;omega,hsm⟩,by simp only;omega,hsm1⟩
end Go.Ab
