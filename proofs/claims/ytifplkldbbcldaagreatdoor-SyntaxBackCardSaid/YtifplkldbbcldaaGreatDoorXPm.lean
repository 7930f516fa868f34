/- Parse of the program. The sanity check of the laws of syntax. The guards on programs: Names, written, expr. Conditions: none. -/
import Derived.Test.YtifplkldbbcldaaGreatDoorXWe2
set_option linter.unusedSimpArgs false
set_option linter.unusedVariables false
set_option maxRecDepth 4000
set_option maxHeartbeats 8000000
open List renaming map_cons→AF,map_nil→AI,length_map→AB,all_eq_true→A6,mem_of_getElem?→Ad,all_append→CC,take_of_length_le→A8,mem_append→BU,mem_singleton→Dn,take→LZ,drop→Gl,append_nil→AZ,nil_append→A3,length_take→B2
open Nat renaming le_trans→BD,eq_zero_or_pos→Dp,min_eq_left→N0
open Bool renaming false_eq_true→AU,eq_false_iff→FV,false_and→EX,and_true→BB,and_eq_true→AN
open Int renaming reduceBEq→A4
namespace Go.Ab
open Go.Proofs
def jS (r:Pg×Nat×Int):AV:= .tup [pgA r.1,.d (.int .i64 ((r.2.1:Nat):Int)),.d (.int .i64 r.2.2)]
theorem ABX (L:List Tok):[AV.d (.sl (L.map Tok.enc)),.d (.int .i64 0),.d (.bool false),.d (.int .i64 0)]=psA L ⟨L,false,0⟩:=by
 unfold psA ZG;simp
theorem vJ {σ:AM} {j:Nat} (h:σ.blk j=none) (cs:List AV):σ.le (σ.AL j cs):=XE (AM.le_refl σ) h cs
theorem Qa (src:Str) (σ:AM) (g0:XR σ):AR Tryz.prog 12 [.d (.str src)] σ (fun v σ'=>v=jS (KM src)∧σ'=σ):=by
 refine YB (by simp) ?_
 rw [BC]
 have hsp:=S4 src σ
 by_cases he:(BJ src).2.2=0
 · obtain ⟨hw,ho⟩:=gE he
   have hN:=pB he
   have hne:((BJ src).2.2 != 0)=false:=by rw [he];rfl
   rw [UL he]
   have hprog:=fun (j:Nat) (hj:σ.blk j=none)=>j0 j hN (σ.AL j (psA (BJ src).1 ⟨(BJ src).1,false,0⟩)) ⟨(BJ src).1,false,0⟩ g0 ⟨hw,List.suffix_refl _,ho.1⟩ (by have:=F6;have:=ho.1;simp only;omega) (by rw [AO,if_pos rfl])
   have hsm:=fM (p:=0) hw ho.1
   simp only [Hd] at hsp
   generalize (BJ src).1=L at hsp hw ho hN hprog hsm ⊢
   generalize (BJ src).2.1=pos at hsp ⊢
   rw [he] at hsp
   generalize NJ.run ⟨L,false,0⟩=y at hprog hsm ⊢
   obtain ⟨p,s1⟩:=y
   simp only at hprog hsm
   simp only [A2] at hprog
   obtain ⟨ds,fs⟩:=p
   simp only [pgA,Pg.enc,AF,AI] at hprog
   have h00:((0:Int) != 0)=false:=rfl
   (repeat' (first|refine Run.ct rfl ?_|((first|refine Run.reg mixed ?_|refine Run.AJ ?_|refine AG.det (hsp) ?_|(refine AP rfl (fun h=>?_) (fun h=>?_)<;>try (cases h;done)))<;>try simp -implicitDefEqProofs only [h00,go_sem])|(refine ⟨fun h=>?_,fun h=>?_⟩<;>first|(cases h;done)|try simp only [h])|fail))
   intro j hj
   have hle:=vJ hj (psA L s1)
   have hb:(σ.AL j (psA L s1)).blk j=some (psA L s1):=by rw [AO,if_pos rfl]
   have hst:psA L s1=[.d (ZG L),.d (.int .i64 ((L.length - s1.r.length:Nat):Int)),.d (.bool s1.f),.d (.int .i64 ((s1.p:Nat):Int))]:=rfl
   rw [ABX]
   cases hf:s1.f with
   |true=>
    rw [hf] at hst
    have hfin:bQ (⟨ds,fs⟩,s1)=(⟨[],[]⟩,s1.p,2):=if_pos hf
    rw [hfin]
    simp only [jS,pgA,Pg.enc,AF,AI]
    (repeat' (first|refine Run.ct rfl ?_|((first|refine Run.reg mixed ?_|refine Run.AJ ?_|(refine AG.upd (hprog j hj) ?_)|(refine AP rfl (fun h=>?_) (fun h=>?_)<;>try (cases h;done)))<;>try simp -implicitDefEqProofs only [hst,hf,go_sem])|(refine ⟨fun h=>?_,fun h=>?_⟩<;>first|(cases h;done)|try simp only [h])|fail))
    rw [← hst]
    refine Run.SO mixed ?_;simp -implicitDefEqProofs only [hst,hf,go_sem]
    rw [← hst]
    (repeat' (first|refine Run.ct rfl ?_|((first|refine Run.reg mixed ?_|refine Run.AJ ?_|(refine Run.Aa Gz hle ?_)|(refine AP rfl (fun h=>?_) (fun h=>?_)<;>try (cases h;done)))<;>try simp -implicitDefEqProofs only [go_sem])|(refine ⟨fun h=>?_,fun h=>?_⟩<;>first|(cases h;done)|try simp only [h])|fail))
   |false=>
    rw [hf] at hst
    have hV:=Qb ⟨ds,fs⟩ (σ.AL j (psA L s1)) (fun d hd c hc t ht=>BD (hsm hf d hd c hc t ht) (by omega))
    simp only [pgA,Pg.enc,AF,AI] at hV
    have hfin:bQ (⟨ds,fs⟩,s1)=if DA ⟨ds,fs⟩ then (⟨ds,fs⟩,0,0) else (⟨[],[]⟩,0,9):=if_neg (by rw [hf];decide)
    rw [hfin]
    cases hv:DA ⟨ds,fs⟩ with
    |true=>
     rw [hv] at hV
     simp only [if_true,jS,pgA,Pg.enc,AF,AI]
     (repeat' (first|refine Run.ct rfl ?_|((first|refine Run.reg mixed ?_|refine Run.AJ ?_|(refine AG.upd (hprog j hj) ?_)|(refine AP rfl (fun h=>?_) (fun h=>?_)<;>try (cases h;done)))<;>try simp -implicitDefEqProofs only [hst,hf,go_sem])|(refine ⟨fun h=>?_,fun h=>?_⟩<;>first|(cases h;done)|try simp only [h])|fail))
     rw [← hst]
     (repeat' (first|refine Run.ct rfl ?_|((first|refine Run.reg mixed ?_|refine Run.AJ ?_|(refine Run.Aa Gz hle ?_)|refine AG.det (hV) ?_|(refine AP rfl (fun h=>?_) (fun h=>?_)<;>try (cases h;done)))<;>try simp -implicitDefEqProofs only [hf,go_sem])|(refine ⟨fun h=>?_,fun h=>?_⟩<;>first|(cases h;done)|try simp only [h])|fail))
     rfl
    |false=>
     rw [hv] at hV
     simp only [if_false,AU,jS,pgA,Pg.enc,AF,AI]
     (repeat' (first|refine Run.ct rfl ?_|((first|refine Run.reg mixed ?_|refine Run.AJ ?_|(refine AG.upd (hprog j hj) ?_)|(refine AP rfl (fun h=>?_) (fun h=>?_)<;>try (cases h;done)))<;>try simp -implicitDefEqProofs only [hst,hf,go_sem])|(refine ⟨fun h=>?_,fun h=>?_⟩<;>first|(cases h;done)|try simp only [h])|fail))
     rw [← hst]
     (repeat' (first|refine Run.ct rfl ?_|((first|refine Run.reg mixed ?_|refine Run.AJ ?_|(refine Run.Aa Gz hle ?_)|refine AG.det (hV) ?_|(refine AP rfl (fun h=>?_) (fun h=>?_)<;>try (cases h;done)))<;>try simp -implicitDefEqProofs only [hf,go_sem])|(refine ⟨fun h=>?_,fun h=>?_⟩<;>first|(cases h;done)|try simp only [h])|fail))
     rfl
 · have hne:((BJ src).2.2 != 0)=true:=by simpa using he
   have hp:KM src=(⟨[],[]⟩,(BJ src).2.1,(BJ src).2.2):=if_pos he
   rw [hp]
   simp only [Hd] at hsp
   simp only [jS,pgA,Pg.enc,AF,AI]
   (repeat' (first|refine Run.ct rfl ?_|((first|refine Run.reg mixed ?_|refine Run.AJ ?_|refine Run.Aa Gz (AM.le_refl _) ?_|refine AG.det (hsp) ?_|(refine AP rfl (fun h=>?_) (fun h=>?_)<;>try (cases h;done)))<;>try simp -implicitDefEqProofs only [hne,go_sem])|(refine ⟨fun h=>?_,fun h=>?_⟩<;>first|(cases h;done)|try simp only [h])|fail))
end Go.Ab
namespace Go.Ab
open Go.Proofs
def Zv:Str:=[102,117,110,32,102,40,120,41,61,105,102,32,120,60,61,48,32,116,104,101,110,40,41,32,101,108,115,101,32,102,40,120,45,49,41,59]
def qC:Str:=[102,117,110,32,102,40,120,41,32,61,32,105,102,32,120,32,60,61,32,48,32,116,104,101,110,32,40,41,32,101,108,115,101,32,102,40,120,32,45,32,49,41,59,10]
def nmE (s:Str):Ex:= .mk 4 s 0 [] [] []
def awE:Ex:= .mk 9 [] 0 [] [.mk 13 [] 7 [] [nmE [120],.mk 3 [] 0 [] [] []] [],.mk 1 [] 0 [] [] [],.mk 12 [] 0 [] [nmE [102],.mk 13 [] 2 [] [nmE [120],.mk 3 [] 1 [] [] []] []] []] []
def awQ:Pg:=⟨[],[⟨[102],[[120]],awE⟩]⟩
theorem lC:Lib.itoa 0=[48]∧Lib.itoa 1=[49]:=by
 constructor<;>simp [Lib.itoa,Lib.decDigits]
theorem bK:Wa awQ=qC:=by
 have h0:=lC.1
 have h1:=lC.2
 have e1:Az (.mk 3 [] 0 [] [] [])=[48]:=by rw [← h0];rfl
 have e2:Az (.mk 3 [] 1 [] [] [])=[49]:=by rw [← h1];rfl
 have e3:Az (.mk 13 [] 7 [] [nmE [120],.mk 3 [] 0 [] [] []] [])=[120,32,60,61,32]++Az (.mk 3 [] 0 [] [] []):=rfl
 have e4:Az (.mk 13 [] 2 [] [nmE [120],.mk 3 [] 1 [] [] []] [])=[120,32,45,32]++Az (.mk 3 [] 1 [] [] []):=rfl
 have e6:Az (.mk 12 [] 0 [] [nmE [102],.mk 13 [] 2 [] [nmE [120],.mk 3 [] 1 [] [] []] []] [])=[102,40]++(Lib.join [Az (.mk 13 [] 2 [] [nmE [120],.mk 3 [] 1 [] [] []] [])] [44,32]++[41]):=rfl
 have e7:Az awE=[105,102,32]++(Az (.mk 13 [] 7 [] [nmE [120],.mk 3 [] 0 [] [] []] [])++([32,116,104,101,110,32]++([40,41]++([32,101,108,115,101,32]++Az (.mk 12 [] 0 [] [nmE [102],.mk 13 [] 2 [] [nmE [120],.mk 3 [] 1 [] [] []] []] []))))):=rfl
 have e8:Wa awQ=(([102,117,110,32]++([102]++(Il [[120]]++([32,61,32]++(Az awE++[59,10])))))++[]):=rfl
 have e9:Il [[120]]=[40,120,41]:=by decide
 rw [e8,e7,e6,Lib.join_one,e3,e4,e1,e2,e9];rfl
theorem Zu:DA awQ=true:=by decide+kernel
theorem mQ:(BJ Zv).2.2=0∧(BJ qC).2.2=0∧strip (BJ Zv).1=strip (BJ qC).1:=by decide+kernel
theorem mP:(KM Zv).1=awQ∧(KM Zv).2.2=0:=by
 obtain ⟨h1,h2,h3⟩:=mQ
 have hb:=YT Zu (by rw [bK];decide)
 rw [bK] at hb
 have hp:=fH h1 h2 h3
 rw [hb] at hp
 exact hp
theorem YK (σ:AM) (hg:XR σ) (hp:σ.gt SM=some UO):AR Tryz.prog 15 [] σ (fun v σ'=>v= .d (.bool true)∧σ'=σ):=by
 have hpa:=Qa Zv σ hg
 have hfm:=PV awQ σ hp (fun d hd=>by cases hd)
 rw [Zu,if_pos rfl,bK] at hfm
 obtain ⟨h1,h2⟩:=mP
 generalize KM Zv=r at hpa h1 h2
 obtain ⟨q,at',code⟩:=r
 simp only at h1 h2
 subst h1 h2
 simp only [jS,pgA,Pg.enc,AF,AI] at hpa hfm
 refine Z3 (by simp) ?_
 rw [show An []=U from by funext s;simp [An,U]]
 (repeat' (first|refine Run.ct rfl ?_|((first|refine Run.reg mixed ?_|refine Run.AJ ?_|refine Run.Aa Tb (AM.le_refl _) ?_|refine AG.det (hpa) ?_|refine AG.det (hfm) ?_|(refine AP rfl (fun h=>?_) (fun h=>?_)<;>try (cases h;done)))<;>try simp -implicitDefEqProofs only [A4,go_sem])|(refine ⟨fun h=>?_,fun h=>?_⟩<;>first|(cases h;done)|try simp only [h])|fail))
 exact ⟨rfl,rfl⟩
end Go.Ab
namespace Go.Ab
open Go.Proofs
def Vi (l:List Str):Bool:=l.all fun s=>decide (s.length≤40)
theorem N4 (n:Nat):decide ((40:Int) < (n:Int))=decide (40 < n):=decide_eq_decide.2 (by omega)
theorem iQ (n:Nat):decide ((10:Int) < (n:Int))=decide (10 < n):=decide_eq_decide.2 (by omega)
theorem vI (n:Nat):decide ((n:Int)≤(10:Int))=decide (n≤10):=decide_eq_decide.2 (by omega)
theorem K0 (l:List Str) (σ:AM):AR Tryz.prog 39 [.d (.sl (l.map Cn)),.d (.int .i64 10)] σ (fun v σ'=>v= .d (.bool (decide (l.length≤10)&&Vi l))∧σ'=σ):=by
 refine bV (by simp) ?_
 rw [BF]
 refine Run.slot 0 (fun hb0=>?_)
 simp only [II,if_true,AV.FJ,AB] at hb0
 (repeat' (first|refine Run.ct rfl ?_|((first|refine Run.reg mixed ?_|refine Run.AJ ?_|(refine AP rfl (fun h=>?_) (fun h=>?_)<;>try (cases h;done)))<;>try simp -implicitDefEqProofs only [AB,go_sem])|(refine ⟨fun h=>?_,fun h=>?_⟩<;>first|(cases h;done)|try simp only [h])|fail))
 refine Run.B1 ?_
 refine Run.B7 ((fun (a0:AV) (a1:AV)=>fun (i:Nat)=>put 0 a0 (put 1 a1 (put 5 (.d (.int .i64 i)) U))) _ _) (fun _=>E) (fun _=>σ) (fun i=>i≤l.length∧i≤11∧Vi (l.take i)=true) (fun i=>l.length - i) ?_ 0 ⟨by simp,by simp,by simp [Vi]⟩
 rintro i ⟨hi,h11,hno⟩ ih
 by_cases hlt:i < l.length
 · obtain ⟨x,hx⟩:=Ba hlt
   have he:=BX (enc:=Cn) hx
   simp only [Cn] at he
   have hw1:IntKind.i64.wrap ((i:Int)+1)=((i+1:Nat):Int):=by rw [Aw (by omega) (by omega)];omega
   by_cases h10:i≤10
   · by_cases hs:40 < x.length
     · have hf:(decide (l.length≤10)&&Vi l)=false:=by
        rw [Bool.and_eq_false_iff];right
        rw [FV]
        intro h
        rw [Vi,A6] at h
        have:=h x (Ad hx)
        rw [decide_eq_true_eq] at this;omega
       (repeat' (first|refine Run.ct rfl ?_|((first|refine Run.reg mixed ?_|refine Run.AJ ?_|refine Run.Aa MQ (AM.le_refl _) ?_|(refine AP rfl (fun h=>?_) (fun h=>?_)<;>try (cases h;done)))<;>try simp -implicitDefEqProofs only [BG hlt,he,hw1,vI,decide_eq_true h10,N4,decide_eq_true hs,AB,go_sem])|(refine ⟨fun h=>?_,fun h=>?_⟩<;>first|(cases h;done)|try simp only [h])|fail))
       rw [hf]
     · (repeat' (first|refine Run.ct rfl ?_|((first|refine Run.reg mixed ?_|refine Run.AJ ?_|(refine AP rfl (fun h=>?_) (fun h=>?_)<;>try (cases h;done)))<;>try simp -implicitDefEqProofs only [BG hlt,he,hw1,vI,decide_eq_true h10,N4,decide_eq_false hs,AB,go_sem])|(refine ⟨fun h=>?_,fun h=>?_⟩<;>first|(cases h;done)|try simp only [h])|fail))
       exact ih (i+1) ⟨by omega,by omega,by
        rw [Ff hx,Vi,CC]
        rw [Vi] at hno
        rw [hno];simp;omega⟩ (by omega)
   · have hgt:decide (l.length≤10)=false:=decide_eq_false (by omega)
     (repeat' (first|refine Run.ct rfl ?_|((first|refine Run.reg mixed ?_|refine Run.AJ ?_|refine Run.Aa MQ (AM.le_refl _) ?_|(refine AP rfl (fun h=>?_) (fun h=>?_)<;>try (cases h;done)))<;>try simp -implicitDefEqProofs only [BG hlt,he,hw1,vI,decide_eq_false h10,AB,hgt,go_sem])|(refine ⟨fun h=>?_,fun h=>?_⟩<;>first|(cases h;done)|try simp only [h])|fail))
     try rw [EX]
 · have hile:i=l.length:=by omega
   subst hile
   rw [A8 (by omega)] at hno
   (repeat' (first|refine Run.ct rfl ?_|((first|refine Run.reg mixed ?_|refine Run.AJ ?_|refine Run.Aa MQ (AM.le_refl _) ?_|(refine AP rfl (fun h=>?_) (fun h=>?_)<;>try (cases h;done)))<;>try simp -implicitDefEqProofs only [E0 hlt,vI,AB,go_sem])|(refine ⟨fun h=>?_,fun h=>?_⟩<;>first|(cases h;done)|try simp only [h])|fail))
   rw [hno,BB]
mutual
def TE.sm:TE→Prop
 | .mk _ n l=>n.length≤40∧TE.sms l
def TE.sms:List TE→Prop
 |[]=>True
 |t::l=>t.sm∧TE.sms l
end
def oK (l:List Str):Prop:=l.length≤10∧∀s∈l,s.length≤40
mutual
def Ex.sm:Ex→Prop
 | .mk _ n _ ns ks al=>n.length≤40∧oK ns∧Ex.sms ks∧Al.sms al
def Ex.sms:List Ex→Prop
 |[]=>True
 |t::l=>t.sm∧Ex.sms l
def Al.sm:Al→Prop
 | .mk c vs b=>c.length≤40∧oK vs∧b.sm
def Al.sms:List Al→Prop
 |[]=>True
 |t::l=>t.sm∧Al.sms l
end
theorem TE.Ns:∀ {l:List TE},TE.sms l↔∀t∈l,t.sm
 |[]=>by simp [TE.sms]
 |t::l=>by simp [TE.sms,TE.Ns (l:=l)]
theorem Ex.Ns:∀ {l:List Ex},Ex.sms l↔∀t∈l,t.sm
 |[]=>by simp [Ex.sms]
 |t::l=>by simp [Ex.sms,Ex.Ns (l:=l)]
theorem Al.Ns:∀ {l:List Al},Al.sms l↔∀t∈l,t.sm
 |[]=>by simp [Al.sms]
 |t::l=>by simp [Al.sms,Al.Ns (l:=l)]
theorem cN {l:List Str} (h:(decide (l.length≤10)&&Vi l)=true):oK l:=by
 simp only [Vi,AN,decide_eq_true_eq,A6] at h;exact h
theorem FT {α:Type} {p:α→Prop} {l:List α} {i:Nat} {x:α} (h:∀t∈l.take i,p t) (hx:l[i]?=some x) (hp:p x):∀t∈l.take (i+1),p t:=by
 intro t ht
 rw [Ff hx,BU,Dn] at ht
 rcases ht with ht|rfl
 · exact h t ht
 · exact hp
theorem TE.KR {l:List TE} {i:Nat} {x:TE} (h:l[i]?=some x):TE.At (l.take (i+1))=TE.At (l.take i)+x.size:=by
 rw [Ff h,TE.Cp];simp [TE.At]
theorem Ex.KR {l:List Ex} {i:Nat} {x:Ex} (h:l[i]?=some x):Ex.At (l.take (i+1))=Ex.At (l.take i)+x.size:=by
 rw [Ff h,Ex.Cp];simp [Ex.At]
theorem Al.KR {l:List Al} {i:Nat} {x:Al} (h:l[i]?=some x):Al.At (l.take (i+1))=Al.At (l.take i)+x.size:=by
 rw [Ff h,Al.Cp];simp [Al.At]
def uA (good:Prop) (size q:Nat) (b:Bool) (z:Int):Prop:=b=true→good∧∃q':Nat,z=q'∧size+q'=q
theorem YR {q:Nat}:decide ((q:Int) < 0)=false:=decide_eq_false (by omega)
set_option maxHeartbeats 4000000 in
theorem Wh (j:Nat):∀(N:Nat) (t:TE) (q:Nat) (σ:AM),t.size≤N→q≤1000→σ.blk j=some [.d (.int .i64 q)]→
 AR Tryz.prog 40 [teA t,.gp j 0] σ (fun v σ'=>∃b z,(v= .d (.bool b)∧σ'=σ.AL j [.d (.int .i64 z)])∧uA t.sm t.size q b z):=by
 intro N
 induction N with
 |zero=>intro t q σ h;have:=TE.size_pos t;omega
 |succ N ihN=>
 rintro ⟨k,n,l⟩ q σ hN hq hj
 simp only [TE.size] at hN
 refine Xy (by simp) ?_
 rw [BF,teA,TE.A1]
 simp only [AF,AI]
 generalize hQ:(fun (v:AV) (σ':AM)=>∃b z,(v= .d (.bool b)∧σ'=σ.AL j [.d (.int .i64 z)])∧uA (TE.mk k n l).sm (TE.mk k n l).size q b z)=Q
 have hno:∀z,Q (.d (.bool false)) (σ.AL j [.d (.int .i64 z)]):=fun z=>by rw [← hQ];exact ⟨false,z,⟨rfl,rfl⟩,fun h=>by cases h⟩
 have hyes:∀q':Nat,n.length≤40→(∀t∈l,t.sm)→1+TE.At l+q'=q→Q (.d (.bool true)) (σ.AL j [.d (.int .i64 q')]):=fun q' h1 h2 h3=>by
  rw [← hQ];exact ⟨true,q',⟨rfl,rfl⟩,fun _=>⟨by rw [TE.sm,TE.Ns];exact ⟨h1,h2⟩,q',rfl,by rw [TE.size];exact h3⟩⟩
 clear hQ
 rcases Dp q with rfl|hq0
 · have hm1:IntKind.i64.wrap (((0:Nat):Int) - 1)=-1:=by decide
   have hn1:decide ((-1:Int) < 0)=true:=by decide
   (repeat' (first|refine Run.ct rfl ?_|((first|refine Run.reg mixed ?_|refine Run.AJ ?_|(refine Run.Aa Gw (AM.le_refl _) ?_)|(refine AP rfl (fun h=>?_) (fun h=>?_)<;>try (cases h;done)))<;>try simp -implicitDefEqProofs only [hj,hm1,hn1,AO,LZ,Gl,AZ,A3,go_sem])|(refine ⟨fun h=>?_,fun h=>?_⟩<;>first|(cases h;done)|try simp only [h])|fail))
   exact hno _
 obtain ⟨q,rfl⟩:∃m,q=m+1:=⟨q - 1,by omega⟩
 have hm1:IntKind.i64.wrap (((q+1:Nat):Int) - 1)=(q:Int):=by rw [Aw (by omega) (by omega)];omega
 by_cases h40:40 < n.length
 · (repeat' (first|refine Run.ct rfl ?_|((first|refine Run.reg mixed ?_|refine Run.AJ ?_|(refine Run.Aa Gw (AM.le_refl _) ?_)|(refine AP rfl (fun h=>?_) (fun h=>?_)<;>try (cases h;done)))<;>try simp -implicitDefEqProofs only [hj,hm1,YR,N4,decide_eq_true h40,AO,LZ,Gl,AZ,A3,go_sem])|(refine ⟨fun h=>?_,fun h=>?_⟩<;>first|(cases h;done)|try simp only [h])|fail))
   exact hno _
 (repeat' (first|refine Run.ct rfl ?_|((first|refine Run.reg mixed ?_|refine Run.AJ ?_|(refine AP rfl (fun h=>?_) (fun h=>?_)<;>try (cases h;done)))<;>try simp -implicitDefEqProofs only [hj,hm1,YR,N4,decide_eq_false h40,AO,LZ,Gl,AZ,A3,go_sem])|(refine ⟨fun h=>?_,fun h=>?_⟩<;>first|(cases h;done)|try simp only [h])|fail))
 refine Run.B1 ?_
 refine Run.B7 ((fun (a1:AV) (a2:AV)=>fun (y:Nat×Nat)=>put 1 a1 (put 2 a2 (put 5 (.d (.int .i64 y.1)) U))) _ _) (fun _=>BW 2 [.d (.int .i64 k),.d (.str n),.d (.sl (l.map TE.enc))] E) (fun y=>σ.AL j [.d (.int .i64 y.2)])
  (fun y=>y.1≤l.length∧(∀t∈l.take y.1,t.sm)∧TE.At (l.take y.1)+y.2=q) (fun y=>l.length - y.1) ?_ (0,q) ⟨by simp,by simp,by simp [TE.At]⟩
 rintro ⟨i,q'⟩ ⟨hi,hsm,hsz⟩ ih
 simp only at hi hsm hsz
 have hil:=TE.G4 (l.take i)
 rw [B2,N0 hi] at hil
 by_cases hlt:i < l.length
 · obtain ⟨x,hx⟩:=Ba hlt
   have he:=BX (enc:=TE.enc) hx
   have hw1:=BQ (show i+1≤9000000000000000000 by omega)
   have hxs:=TE.NF (Ad hx)
   have hc:=ihN x q' (σ.AL j [.d (.int .i64 q')]) (by omega) (by omega) (by rw [AO,if_pos rfl])
   have hst:=TE.KR hx
   have hms:=fun hp=>FT (p:=TE.sm) hsm hx hp
   obtain ⟨xk,xn,xl⟩:=x
   simp only [teA,TE.A1,AF,AI] at he hc
   (repeat' (first|refine Run.ct rfl ?_|((first|refine Run.reg mixed ?_|refine Run.AJ ?_|(refine AG.mk rfl hc ?_;rintro v σ' ⟨b,z,⟨rfl,rfl⟩,hres⟩;cases b<;>rw [A2])|(refine Run.Aa Gw (AM.le_refl _) ?_)|(refine AP rfl (fun h=>?_) (fun h=>?_)<;>try (cases h;done)))<;>try simp -implicitDefEqProofs only [BG hlt,he,hw1,AB,go_sem])|(refine ⟨fun h=>?_,fun h=>?_⟩<;>first|(cases h;done)|try simp only [h])|fail))
   · exact hno z
   · obtain ⟨g1,q2,rfl,g2⟩:=hres rfl
     exact ih (i+1,q2) ⟨by simp only;omega,hms g1,by simp only;omega⟩ (by simp only;omega)
 · rw [A8 (by omega)] at hsm hsz
   (repeat' (first|refine Run.ct rfl ?_|((first|refine Run.reg mixed ?_|refine Run.AJ ?_|(refine Run.Aa Gw (AM.le_refl _) ?_)|(refine AP rfl (fun h=>?_) (fun h=>?_)<;>try (cases h;done)))<;>try simp -implicitDefEqProofs only [E0 hlt,AB,go_sem])|(refine ⟨fun h=>?_,fun h=>?_⟩<;>first|(cases h;done)|try simp only [h])|fail))
   exact hyes q' (by omega) hsm (by omega)
theorem cC (j:Nat):∀(N:Nat) (e:Ex) (q:Nat) (σ:AM),e.size≤N→q≤1000→σ.blk j=some [.d (.int .i64 q)]→
 AR Tryz.prog 41 [exA e,.gp j 0] σ (fun v σ'=>∃b z,(v= .d (.bool b)∧σ'=σ.AL j [.d (.int .i64 z)])∧uA e.sm e.size q b z):=by
 intro N
 induction N with
 |zero=>intro t q σ h;have:=Ex.size_pos t;omega
 |succ N ihN=>
 rintro ⟨o,n,u,ns,ks,al⟩ q σ hN hq hj
 simp only [Ex.size] at hN
 refine eJ (by simp) ?_
 rw [BF,exA,Ex.A1]
 simp only [AF,AI]
 generalize hQ:(fun (v:AV) (σ':AM)=>∃b z,(v= .d (.bool b)∧σ'=σ.AL j [.d (.int .i64 z)])∧uA (Ex.mk o n u ns ks al).sm (Ex.mk o n u ns ks al).size q b z)=Q
 have hno:∀z,Q (.d (.bool false)) (σ.AL j [.d (.int .i64 z)]):=fun z=>by rw [← hQ];exact ⟨false,z,⟨rfl,rfl⟩,fun h=>by cases h⟩
 have hyes:∀q':Nat,n.length≤40→oK ns→(∀t∈ks,t.sm)→(∀t∈al,t.sm)→1+Ex.At ks+Al.At al+q'=q→Q (.d (.bool true)) (σ.AL j [.d (.int .i64 q')]):=fun q' h1 h2 h3 h4 h5=>by
  rw [← hQ];exact ⟨true,q',⟨rfl,rfl⟩,fun _=>⟨by rw [Ex.sm,Ex.Ns,Al.Ns];exact ⟨h1,h2,h3,h4⟩,q',rfl,by rw [Ex.size];exact h5⟩⟩
 clear hQ
 have hnm:=fun σ=>K0 ns σ
 rcases Dp q with rfl|hq0
 · have hm1:IntKind.i64.wrap (((0:Nat):Int) - 1)=-1:=by decide
   have hn1:decide ((-1:Int) < 0)=true:=by decide
   (repeat' (first|refine Run.ct rfl ?_|((first|refine Run.reg mixed ?_|refine Run.AJ ?_|(refine Run.Aa Du (AM.le_refl _) ?_)|(refine AP rfl (fun h=>?_) (fun h=>?_)<;>try (cases h;done)))<;>try simp -implicitDefEqProofs only [hj,hm1,hn1,AO,LZ,Gl,AZ,A3,go_sem])|(refine ⟨fun h=>?_,fun h=>?_⟩<;>first|(cases h;done)|try simp only [h])|fail))
   exact hno _
 obtain ⟨q,rfl⟩:∃m,q=m+1:=⟨q - 1,by omega⟩
 have hm1:IntKind.i64.wrap (((q+1:Nat):Int) - 1)=(q:Int):=by rw [Aw (by omega) (by omega)];omega
 by_cases h40:40 < n.length
 · (repeat' (first|refine Run.ct rfl ?_|((first|refine Run.reg mixed ?_|refine Run.AJ ?_|(refine Run.Aa Du (AM.le_refl _) ?_)|(refine AP rfl (fun h=>?_) (fun h=>?_)<;>try (cases h;done)))<;>try simp -implicitDefEqProofs only [hj,hm1,YR,N4,decide_eq_true h40,AO,LZ,Gl,AZ,A3,go_sem])|(refine ⟨fun h=>?_,fun h=>?_⟩<;>first|(cases h;done)|try simp only [h])|fail))
   exact hno _
 cases hnk:(decide (ns.length≤10)&&Vi ns) with
 |false=>
  rw [hnk] at hnm
  (repeat' (first|refine Run.ct rfl ?_|((first|refine Run.reg mixed ?_|refine Run.AJ ?_|(refine Run.Aa Du (AM.le_refl _) ?_)|refine AG.det (hnm _) ?_|(refine AP rfl (fun h=>?_) (fun h=>?_)<;>try (cases h;done)))<;>try simp -implicitDefEqProofs only [hj,hm1,YR,N4,decide_eq_false h40,AO,LZ,Gl,AZ,A3,go_sem])|(refine ⟨fun h=>?_,fun h=>?_⟩<;>first|(cases h;done)|try simp only [h])|fail))
  exact hno _
 |true=>
 rw [hnk] at hnm
 by_cases hk10:10 < ks.length
 · (repeat' (first|refine Run.ct rfl ?_|((first|refine Run.reg mixed ?_|refine Run.AJ ?_|(refine Run.Aa Du (AM.le_refl _) ?_)|refine AG.det (hnm _) ?_|(refine AP rfl (fun h=>?_) (fun h=>?_)<;>try (cases h;done)))<;>try simp -implicitDefEqProofs only [hj,hm1,YR,N4,decide_eq_false h40,iQ,AB,decide_eq_true hk10,AO,LZ,Gl,AZ,A3,go_sem])|(refine ⟨fun h=>?_,fun h=>?_⟩<;>first|(cases h;done)|try simp only [h])|fail))
   exact hno _
 by_cases ha10:10 < al.length
 · (repeat' (first|refine Run.ct rfl ?_|((first|refine Run.reg mixed ?_|refine Run.AJ ?_|(refine Run.Aa Du (AM.le_refl _) ?_)|refine AG.det (hnm _) ?_|(refine AP rfl (fun h=>?_) (fun h=>?_)<;>try (cases h;done)))<;>try simp -implicitDefEqProofs only [hj,hm1,YR,N4,decide_eq_false h40,iQ,AB,decide_eq_false hk10,decide_eq_true ha10,AO,LZ,Gl,AZ,A3,go_sem])|(refine ⟨fun h=>?_,fun h=>?_⟩<;>first|(cases h;done)|try simp only [h])|fail))
   exact hno _
 (repeat' (first|refine Run.ct rfl ?_|((first|refine Run.reg mixed ?_|refine Run.AJ ?_|refine AG.det (hnm _) ?_|(refine AP rfl (fun h=>?_) (fun h=>?_)<;>try (cases h;done)))<;>try simp -implicitDefEqProofs only [hj,hm1,YR,N4,decide_eq_false h40,iQ,AB,decide_eq_false hk10,decide_eq_false ha10,AO,LZ,Gl,AZ,A3,go_sem])|(refine ⟨fun h=>?_,fun h=>?_⟩<;>first|(cases h;done)|try simp only [h])|fail))
 refine Run.B1 ?_
 refine Run.B7 ((fun (a1:AV) (a2:AV)=>fun (y:Nat×Nat)=>put 1 a1 (put 2 a2 (put 5 (.d (.int .i64 y.1)) U))) _ _) (fun _=>BW 2 [.d (.int .i64 o),.d (.str n),.d (.int .i64 u),.d (.sl (ns.map Cn)),.d (.sl (ks.map Ex.enc)),.d (.sl (al.map Al.enc))] E) (fun y=>σ.AL j [.d (.int .i64 y.2)])
  (fun y=>y.1≤ks.length∧(∀t∈ks.take y.1,t.sm)∧Ex.At (ks.take y.1)+y.2=q) (fun y=>ks.length - y.1) ?_ (0,q) ⟨by simp,by simp,by simp [Ex.At]⟩
 rintro ⟨i,q'⟩ ⟨hi,hsm,hsz⟩ ih
 simp only at hi hsm hsz
 by_cases hlt:i < ks.length
 · obtain ⟨x,hx⟩:=Ba hlt
   have he:=BX (enc:=Ex.enc) hx
   have hw1:=BQ (show i+1≤9000000000000000000 by omega)
   have hxs:=Ex.NF (Ad hx)
   have hc:=ihN x q' (σ.AL j [.d (.int .i64 q')]) (by omega) (by omega) (by rw [AO,if_pos rfl])
   have hst:=Ex.KR hx
   have hms:=fun hp=>FT (p:=Ex.sm) hsm hx hp
   obtain ⟨xo,xn,xu,xns,xks,xal⟩:=x
   simp only [exA,Ex.A1,AF,AI] at he hc
   (repeat' (first|refine Run.ct rfl ?_|((first|refine Run.reg mixed ?_|refine Run.AJ ?_|(refine AG.mk rfl hc ?_;rintro v σ' ⟨b,z,⟨rfl,rfl⟩,hres⟩;cases b<;>rw [A2])|(refine Run.Aa Du (AM.le_refl _) ?_)|(refine AP rfl (fun h=>?_) (fun h=>?_)<;>try (cases h;done)))<;>try simp -implicitDefEqProofs only [BG hlt,he,hw1,AB,go_sem])|(refine ⟨fun h=>?_,fun h=>?_⟩<;>first|(cases h;done)|try simp only [h])|fail))
   · exact hno z
   · obtain ⟨g1,q2,rfl,g2⟩:=hres rfl
     exact ih (i+1,q2) ⟨by simp only;omega,hms g1,by simp only;omega⟩ (by simp only;omega)
 · rw [A8 (by omega)] at hsm hsz
   clear ih
   (repeat' (first|refine Run.ct rfl ?_|((first|refine Run.reg mixed ?_|refine Run.AJ ?_|(refine AP rfl (fun h=>?_) (fun h=>?_)<;>try (cases h;done)))<;>try simp -implicitDefEqProofs only [E0 hlt,AB,go_sem])|(refine ⟨fun h=>?_,fun h=>?_⟩<;>first|(cases h;done)|try simp only [h])|fail))
   refine Run.B1 ?_
   refine Run.B7 ((fun (a1:AV) (a2:AV)=>fun (y:Nat×Nat)=>put 1 a1 (put 2 a2 (put 6 (.d (.int .i64 y.1)) U))) _ _) (fun _=>BW 2 [.d (.int .i64 o),.d (.str n),.d (.int .i64 u),.d (.sl (ns.map Cn)),.d (.sl (ks.map Ex.enc)),.d (.sl (al.map Al.enc))] E) (fun y=>σ.AL j [.d (.int .i64 y.2)])
    (fun y=>y.1≤al.length∧(∀t∈al.take y.1,t.sm)∧Al.At (al.take y.1)+y.2=q') (fun y=>al.length - y.1) ?_ (0,q') ⟨by simp,by simp,by simp [Al.At]⟩
   rintro ⟨i2,q2⟩ ⟨hi2,hsm2,hsz2⟩ ih
   simp only at hi2 hsm2 hsz2
   by_cases hlt:i2 < al.length
   · obtain ⟨x,hx⟩:=Ba hlt
     have he:=BX (enc:=Al.enc) hx
     have hw1:=BQ (show i2+1≤9000000000000000000 by omega)
     have hxs:=Al.NF (Ad hx)
     have hst:=Al.KR hx
     have hms:=fun hp=>FT (p:=Al.sm) hsm2 hx hp
     obtain ⟨xc,xvs,xb⟩:=x
     rw [Al.size] at hxs hst
     have hc:=ihN xb q2 (σ.AL j [.d (.int .i64 q2)]) (by omega) (by omega) (by rw [AO,if_pos rfl])
     have hnv:=fun σ=>K0 xvs σ
     obtain ⟨xo,xn,xu,xns,xks,xal⟩:=xb
     simp only [exA,Al.A1,Ex.A1,AF,AI] at he hc
     by_cases hc40:40 < xc.length
     · (repeat' (first|refine Run.ct rfl ?_|((first|refine Run.reg mixed ?_|refine Run.AJ ?_|(refine Run.Aa Du (AM.le_refl _) ?_)|(refine AP rfl (fun h=>?_) (fun h=>?_)<;>try (cases h;done)))<;>try simp -implicitDefEqProofs only [BG hlt,he,N4,decide_eq_true hc40,AB,go_sem])|(refine ⟨fun h=>?_,fun h=>?_⟩<;>first|(cases h;done)|try simp only [h])|fail))
       exact hno _
     cases hvk:(decide (xvs.length≤10)&&Vi xvs) with
     |false=>
      rw [hvk] at hnv
      (repeat' (first|refine Run.ct rfl ?_|((first|refine Run.reg mixed ?_|refine Run.AJ ?_|(refine Run.Aa Du (AM.le_refl _) ?_)|refine AG.det (hnv _) ?_|(refine AP rfl (fun h=>?_) (fun h=>?_)<;>try (cases h;done)))<;>try simp -implicitDefEqProofs only [BG hlt,he,N4,decide_eq_false hc40,AB,go_sem])|(refine ⟨fun h=>?_,fun h=>?_⟩<;>first|(cases h;done)|try simp only [h])|fail))
      exact hno _
     |true=>
     rw [hvk] at hnv
     (repeat' (first|refine Run.ct rfl ?_|((first|refine Run.reg mixed ?_|refine Run.AJ ?_|(refine AG.mk rfl hc ?_;rintro v σ' ⟨b,z,⟨rfl,rfl⟩,hres⟩;cases b<;>rw [A2])|(refine Run.Aa Du (AM.le_refl _) ?_)|refine AG.det (hnv _) ?_|(refine AP rfl (fun h=>?_) (fun h=>?_)<;>try (cases h;done)))<;>try simp -implicitDefEqProofs only [BG hlt,he,hw1,N4,decide_eq_false hc40,AB,go_sem])|(refine ⟨fun h=>?_,fun h=>?_⟩<;>first|(cases h;done)|try simp only [h])|fail))
     · exact hno z
     · obtain ⟨g1,q3,rfl,g2⟩:=hres rfl
       exact ih (i2+1,q3) ⟨by simp only;omega,hms (by rw [Al.sm];exact ⟨by omega,cN hvk,g1⟩),by simp only;omega⟩ (by simp only;omega)
   · rw [A8 (by omega)] at hsm2 hsz2
     (repeat' (first|refine Run.ct rfl ?_|((first|refine Run.reg mixed ?_|refine Run.AJ ?_|(refine Run.Aa Du (AM.le_refl _) ?_)|(refine AP rfl (fun h=>?_) (fun h=>?_)<;>try (cases h;done)))<;>try simp -implicitDefEqProofs only [E0 hlt,AB,go_sem])|(refine ⟨fun h=>?_,fun h=>?_⟩<;>first|(cases h;done)|try simp only [h])|fail))
     exact hyes q2 (by omega) (cN hnk) hsm hsm2 (by omega)
end Go.Ab
