/- Parse of the program. The sanity check of the laws of syntax. The guards on programs: Names, written, expr. Conditions: none. -/
import Derived.Test.YtifplkldbbcldaaGreatDoorXWe2
set_option linter.unusedSimpArgs false
set_option linter.unusedVariables false
set_option maxRecDepth 4000
set_option maxHeartbeats 8000000
open List renaming map_cons→AF,map_nil→AI,length_map→AE,all_eq_true→A6,mem_of_getElem?→Af,all_append→Bz,take_of_length_le→A8,mem_append→BS,mem_singleton→Di,take→LN,drop→Gc,append_nil→AY,nil_append→A3,length_take→BY
open Nat renaming le_trans→BC,eq_zero_or_pos→Dj,min_eq_left→NN
open Bool renaming false_eq_true→AU,eq_false_iff→FN,false_and→EU,and_true→BA,and_eq_true→AM
open Int renaming reduceBEq→A5
namespace Go.Ab
open Go.Proofs
def mZ (r:Pg×Nat×Int):AV:= .tup [pgA r.1,.d (.int .i64 ((r.2.1:Nat):Int)),.d (.int .i64 r.2.2)]
theorem AAH (L:List Tok):[AV.d (.sl (L.map Tok.enc)),.d (.int .i64 0),.d (.bool false),.d (.int .i64 0)]=psA L ⟨L,false,0⟩:=by
 unfold psA Ya;simp
theorem tN {σ:AN} {j:Nat} (h:σ.blk j=none) (cs:List AV):σ.le (σ.AK j cs):=Wf (AN.le_refl σ) h cs
theorem W8 (src:Str) (σ:AN) (g0:Wo σ):AQ Tryz.prog 12 [.d (.str src)] σ (fun v σ'=>v=mZ (KC src)∧σ'=σ):=by
 refine Xa (by simp) ?_
 rw [BB]
 have hsp:=SL src σ
 by_cases he:(BG src).2.2=0
 · obtain ⟨hw,ho⟩:=eP he
   have hN:=nP he
   have hne:((BG src).2.2 != 0)=false:=by rw [he];rfl
   rw [Tq he]
   have hprog:=fun (j:Nat) (hj:σ.blk j=none)=>iJ j hN (σ.AK j (psA (BG src).1 ⟨(BG src).1,false,0⟩)) ⟨(BG src).1,false,0⟩ g0 ⟨hw,List.suffix_refl _,ho.1⟩ (by have:=FZ;have:=ho.1;simp only;omega) (by rw [AO,if_pos rfl])
   have hsm:=dZ (p:=0) hw ho.1
   simp only [H6] at hsp
   generalize (BG src).1=L at hsp hw ho hN hprog hsm ⊢
   generalize (BG src).2.1=pos at hsp ⊢
   rw [he] at hsp
   generalize Mw.run ⟨L,false,0⟩=y at hprog hsm ⊢
   obtain ⟨p,s1⟩:=y
   simp only at hprog hsm
   simp only [A1] at hprog
   obtain ⟨ds,fs⟩:=p
   simp only [pgA,Pg.enc,AF,AI] at hprog
   have h00:((0:Int) != 0)=false:=rfl
   (repeat' (first|refine Run.ct rfl ?_|((first|refine Run.reg mixed ?_|refine Run.AL ?_|refine AH.det (hsp) ?_|(refine AR rfl (fun h=>?_) (fun h=>?_)<;>try (cases h;done)))<;>try simp -implicitDefEqProofs only [h00,go_sem])|(refine ⟨fun h=>?_,fun h=>?_⟩<;>first|(cases h;done)|try simp only [h])|fail))
   intro j hj
   have hle:=tN hj (psA L s1)
   have hb:(σ.AK j (psA L s1)).blk j=some (psA L s1):=by rw [AO,if_pos rfl]
   have hst:psA L s1=[.d (Ya L),.d (.int .i64 ((L.length - s1.r.length:Nat):Int)),.d (.bool s1.f),.d (.int .i64 ((s1.p:Nat):Int))]:=rfl
   rw [AAH]
   cases hf:s1.f with
   |true=>
    rw [hf] at hst
    have hfin:aF (⟨ds,fs⟩,s1)=(⟨[],[]⟩,s1.p,2):=if_pos hf
    rw [hfin]
    simp only [mZ,pgA,Pg.enc,AF,AI]
    (repeat' (first|refine Run.ct rfl ?_|((first|refine Run.reg mixed ?_|refine Run.AL ?_|(refine AH.upd (hprog j hj) ?_)|(refine AR rfl (fun h=>?_) (fun h=>?_)<;>try (cases h;done)))<;>try simp -implicitDefEqProofs only [hst,hf,go_sem])|(refine ⟨fun h=>?_,fun h=>?_⟩<;>first|(cases h;done)|try simp only [h])|fail))
    rw [← hst]
    refine Run.Tu mixed ?_;simp -implicitDefEqProofs only [hst,hf,go_sem]
    rw [← hst]
    (repeat' (first|refine Run.ct rfl ?_|((first|refine Run.reg mixed ?_|refine Run.AL ?_|(refine Run.Ad Gq hle ?_)|(refine AR rfl (fun h=>?_) (fun h=>?_)<;>try (cases h;done)))<;>try simp -implicitDefEqProofs only [go_sem])|(refine ⟨fun h=>?_,fun h=>?_⟩<;>first|(cases h;done)|try simp only [h])|fail))
   |false=>
    rw [hf] at hst
    have hV:=Ld ⟨ds,fs⟩ (σ.AK j (psA L s1)) (fun d hd c hc t ht=>BC (hsm hf d hd c hc t ht) (by omega))
    simp only [pgA,Pg.enc,AF,AI] at hV
    have hfin:aF (⟨ds,fs⟩,s1)=if Cw ⟨ds,fs⟩ then (⟨ds,fs⟩,0,0) else (⟨[],[]⟩,0,9):=if_neg (by rw [hf];decide)
    rw [hfin]
    cases hv:Cw ⟨ds,fs⟩ with
    |true=>
     rw [hv] at hV
     simp only [if_true,mZ,pgA,Pg.enc,AF,AI]
     (repeat' (first|refine Run.ct rfl ?_|((first|refine Run.reg mixed ?_|refine Run.AL ?_|(refine AH.upd (hprog j hj) ?_)|(refine AR rfl (fun h=>?_) (fun h=>?_)<;>try (cases h;done)))<;>try simp -implicitDefEqProofs only [hst,hf,go_sem])|(refine ⟨fun h=>?_,fun h=>?_⟩<;>first|(cases h;done)|try simp only [h])|fail))
     rw [← hst]
     (repeat' (first|refine Run.ct rfl ?_|((first|refine Run.reg mixed ?_|refine Run.AL ?_|(refine Run.Ad Gq hle ?_)|refine AH.det (hV) ?_|(refine AR rfl (fun h=>?_) (fun h=>?_)<;>try (cases h;done)))<;>try simp -implicitDefEqProofs only [hf,go_sem])|(refine ⟨fun h=>?_,fun h=>?_⟩<;>first|(cases h;done)|try simp only [h])|fail))
     rfl
    |false=>
     rw [hv] at hV
     simp only [if_false,AU,mZ,pgA,Pg.enc,AF,AI]
     (repeat' (first|refine Run.ct rfl ?_|((first|refine Run.reg mixed ?_|refine Run.AL ?_|(refine AH.upd (hprog j hj) ?_)|(refine AR rfl (fun h=>?_) (fun h=>?_)<;>try (cases h;done)))<;>try simp -implicitDefEqProofs only [hst,hf,go_sem])|(refine ⟨fun h=>?_,fun h=>?_⟩<;>first|(cases h;done)|try simp only [h])|fail))
     rw [← hst]
     (repeat' (first|refine Run.ct rfl ?_|((first|refine Run.reg mixed ?_|refine Run.AL ?_|(refine Run.Ad Gq hle ?_)|refine AH.det (hV) ?_|(refine AR rfl (fun h=>?_) (fun h=>?_)<;>try (cases h;done)))<;>try simp -implicitDefEqProofs only [hf,go_sem])|(refine ⟨fun h=>?_,fun h=>?_⟩<;>first|(cases h;done)|try simp only [h])|fail))
     rfl
 · have hne:((BG src).2.2 != 0)=true:=by simpa using he
   have hp:KC src=(⟨[],[]⟩,(BG src).2.1,(BG src).2.2):=if_pos he
   rw [hp]
   simp only [H6] at hsp
   simp only [mZ,pgA,Pg.enc,AF,AI]
   (repeat' (first|refine Run.ct rfl ?_|((first|refine Run.reg mixed ?_|refine Run.AL ?_|refine Run.Ad Gq (AN.le_refl _) ?_|refine AH.det (hsp) ?_|(refine AR rfl (fun h=>?_) (fun h=>?_)<;>try (cases h;done)))<;>try simp -implicitDefEqProofs only [hne,go_sem])|(refine ⟨fun h=>?_,fun h=>?_⟩<;>first|(cases h;done)|try simp only [h])|fail))
end Go.Ab
namespace Go.Ab
open Go.Proofs
def ZU:Str:=[102,117,110,32,102,40,120,41,61,105,102,32,120,60,61,48,32,116,104,101,110,40,41,32,101,108,115,101,32,102,40,120,45,49,41,59]
def oO:Str:=[102,117,110,32,102,40,120,41,32,61,32,105,102,32,120,32,60,61,32,48,32,116,104,101,110,32,40,41,32,101,108,115,101,32,102,40,120,32,45,32,49,41,59,10]
def nmE (s:Str):Ex:= .mk 4 s 0 [] [] []
def awE:Ex:= .mk 9 [] 0 [] [.mk 13 [] 7 [] [nmE [120],.mk 3 [] 0 [] [] []] [],.mk 1 [] 0 [] [] [],.mk 12 [] 0 [] [nmE [102],.mk 13 [] 2 [] [nmE [120],.mk 3 [] 1 [] [] []] []] []] []
def awQ:Pg:=⟨[],[⟨[102],[[120]],awE⟩]⟩
theorem jY:Lib.itoa 0=[48]∧Lib.itoa 1=[49]:=by
 constructor<;>simp [Lib.itoa,Lib.decDigits]
theorem Zz:Ys awQ=oO:=by
 have h0:=jY.1
 have h1:=jY.2
 have e1:Ay (.mk 3 [] 0 [] [] [])=[48]:=by rw [← h0];rfl
 have e2:Ay (.mk 3 [] 1 [] [] [])=[49]:=by rw [← h1];rfl
 have e3:Ay (.mk 13 [] 7 [] [nmE [120],.mk 3 [] 0 [] [] []] [])=[120,32,60,61,32]++Ay (.mk 3 [] 0 [] [] []):=rfl
 have e4:Ay (.mk 13 [] 2 [] [nmE [120],.mk 3 [] 1 [] [] []] [])=[120,32,45,32]++Ay (.mk 3 [] 1 [] [] []):=rfl
 have e6:Ay (.mk 12 [] 0 [] [nmE [102],.mk 13 [] 2 [] [nmE [120],.mk 3 [] 1 [] [] []] []] [])=[102,40]++(Lib.join [Ay (.mk 13 [] 2 [] [nmE [120],.mk 3 [] 1 [] [] []] [])] [44,32]++[41]):=rfl
 have e7:Ay awE=[105,102,32]++(Ay (.mk 13 [] 7 [] [nmE [120],.mk 3 [] 0 [] [] []] [])++([32,116,104,101,110,32]++([40,41]++([32,101,108,115,101,32]++Ay (.mk 12 [] 0 [] [nmE [102],.mk 13 [] 2 [] [nmE [120],.mk 3 [] 1 [] [] []] []] []))))):=rfl
 have e8:Ys awQ=(([102,117,110,32]++([102]++(I9 [[120]]++([32,61,32]++(Ay awE++[59,10])))))++[]):=rfl
 have e9:I9 [[120]]=[40,120,41]:=by decide
 rw [e8,e7,e6,Lib.join_one,e3,e4,e1,e2,e9];rfl
theorem ZT:Cw awQ=true:=by decide+kernel
theorem k7:(BG ZU).2.2=0∧(BG oO).2.2=0∧strip (BG ZU).1=strip (BG oO).1:=by decide+kernel
theorem k6:(KC ZU).1=awQ∧(KC ZU).2.2=0:=by
 obtain ⟨h1,h2,h3⟩:=k7
 have hb:=iB ZT (by rw [Zz];decide)
 rw [Zz] at hb
 have hp:=dV h1 h2 h3
 rw [hb] at hp
 exact hp
theorem Xj (σ:AN) (hg:Wo σ) (hp:σ.gt Rv=some Tt):AQ Tryz.prog 15 [] σ (fun v σ'=>v= .d (.bool true)∧σ'=σ):=by
 have hpa:=W8 ZU σ hg
 have hfm:=Va awQ σ hp (fun d hd=>by cases hd)
 rw [ZT,if_pos rfl,Zz] at hfm
 obtain ⟨h1,h2⟩:=k6
 generalize KC ZU=r at hpa h1 h2
 obtain ⟨q,at',code⟩:=r
 simp only at h1 h2
 subst h1 h2
 simp only [mZ,pgA,Pg.enc,AF,AI] at hpa hfm
 refine Yt (by simp) ?_
 rw [show Ao []=U from by funext s;simp [Ao,U]]
 (repeat' (first|refine Run.ct rfl ?_|((first|refine Run.reg mixed ?_|refine Run.AL ?_|refine Run.Ad TS (AN.le_refl _) ?_|refine AH.det (hpa) ?_|refine AH.det (hfm) ?_|(refine AR rfl (fun h=>?_) (fun h=>?_)<;>try (cases h;done)))<;>try simp -implicitDefEqProofs only [A5,go_sem])|(refine ⟨fun h=>?_,fun h=>?_⟩<;>first|(cases h;done)|try simp only [h])|fail))
 exact ⟨rfl,rfl⟩
end Go.Ab
namespace Go.Ab
open Go.Proofs
def VV (l:List Str):Bool:=l.all fun s=>decide (s.length≤40)
theorem NR (n:Nat):decide ((40:Int) < (n:Int))=decide (40 < n):=decide_eq_decide.2 (by omega)
theorem gJ (n:Nat):decide ((10:Int) < (n:Int))=decide (10 < n):=decide_eq_decide.2 (by omega)
theorem tM (n:Nat):decide ((n:Int)≤(10:Int))=decide (n≤10):=decide_eq_decide.2 (by omega)
theorem KO (l:List Str) (σ:AN):AQ Tryz.prog 39 [.d (.sl (l.map Dr)),.d (.int .i64 10)] σ (fun v σ'=>v= .d (.bool (decide (l.length≤10)&&VV l))∧σ'=σ):=by
 refine aK (by simp) ?_
 rw [BK]
 refine Run.slot 0 (fun hb0=>?_)
 simp only [JI,if_true,AV.HY,AE] at hb0
 (repeat' (first|refine Run.ct rfl ?_|((first|refine Run.reg mixed ?_|refine Run.AL ?_|(refine AR rfl (fun h=>?_) (fun h=>?_)<;>try (cases h;done)))<;>try simp -implicitDefEqProofs only [AE,go_sem])|(refine ⟨fun h=>?_,fun h=>?_⟩<;>first|(cases h;done)|try simp only [h])|fail))
 refine Run.Bb ?_
 refine Run.Bh ((fun (a0:AV) (a1:AV)=>fun (i:Nat)=>put 0 a0 (put 1 a1 (put 5 (.d (.int .i64 i)) U))) _ _) (fun _=>E) (fun _=>σ) (fun i=>i≤l.length∧i≤11∧VV (l.take i)=true) (fun i=>l.length - i) ?_ 0 ⟨by simp,by simp,by simp [VV]⟩
 rintro i ⟨hi,h11,hno⟩ ih
 by_cases hlt:i < l.length
 · obtain ⟨x,hx⟩:=Cd hlt
   have he:=C5 (enc:=Dr) hx
   simp only [Dr] at he
   have hw1:IntKind.i64.wrap ((i:Int)+1)=((i+1:Nat):Int):=by rw [BO (by omega) (by omega)];omega
   by_cases h10:i≤10
   · by_cases hs:40 < x.length
     · have hf:(decide (l.length≤10)&&VV l)=false:=by
        rw [Bool.and_eq_false_iff];right
        rw [FN]
        intro h
        rw [VV,A6] at h
        have:=h x (Af hx)
        rw [decide_eq_true_eq] at this;omega
       (repeat' (first|refine Run.ct rfl ?_|((first|refine Run.reg mixed ?_|refine Run.AL ?_|refine Run.Ad MH (AN.le_refl _) ?_|(refine AR rfl (fun h=>?_) (fun h=>?_)<;>try (cases h;done)))<;>try simp -implicitDefEqProofs only [BU hlt,he,hw1,tM,decide_eq_true h10,NR,decide_eq_true hs,AE,go_sem])|(refine ⟨fun h=>?_,fun h=>?_⟩<;>first|(cases h;done)|try simp only [h])|fail))
       rw [hf]
     · (repeat' (first|refine Run.ct rfl ?_|((first|refine Run.reg mixed ?_|refine Run.AL ?_|(refine AR rfl (fun h=>?_) (fun h=>?_)<;>try (cases h;done)))<;>try simp -implicitDefEqProofs only [BU hlt,he,hw1,tM,decide_eq_true h10,NR,decide_eq_false hs,AE,go_sem])|(refine ⟨fun h=>?_,fun h=>?_⟩<;>first|(cases h;done)|try simp only [h])|fail))
       exact ih (i+1) ⟨by omega,by omega,by
        rw [HQ hx,VV,Bz]
        rw [VV] at hno
        rw [hno];simp;omega⟩ (by omega)
   · have hgt:decide (l.length≤10)=false:=decide_eq_false (by omega)
     (repeat' (first|refine Run.ct rfl ?_|((first|refine Run.reg mixed ?_|refine Run.AL ?_|refine Run.Ad MH (AN.le_refl _) ?_|(refine AR rfl (fun h=>?_) (fun h=>?_)<;>try (cases h;done)))<;>try simp -implicitDefEqProofs only [BU hlt,he,hw1,tM,decide_eq_false h10,AE,hgt,go_sem])|(refine ⟨fun h=>?_,fun h=>?_⟩<;>first|(cases h;done)|try simp only [h])|fail))
     try rw [EU]
 · have hile:i=l.length:=by omega
   subst hile
   rw [A8 (by omega)] at hno
   (repeat' (first|refine Run.ct rfl ?_|((first|refine Run.reg mixed ?_|refine Run.AL ?_|refine Run.Ad MH (AN.le_refl _) ?_|(refine AR rfl (fun h=>?_) (fun h=>?_)<;>try (cases h;done)))<;>try simp -implicitDefEqProofs only [FR hlt,tM,AE,go_sem])|(refine ⟨fun h=>?_,fun h=>?_⟩<;>first|(cases h;done)|try simp only [h])|fail))
   rw [hno,BA]
mutual
def TE.sm:TE→Prop
 | .mk _ n l=>n.length≤40∧TE.sms l
def TE.sms:List TE→Prop
 |[]=>True
 |t::l=>t.sm∧TE.sms l
end
def mU (l:List Str):Prop:=l.length≤10∧∀s∈l,s.length≤40
mutual
def Ex.sm:Ex→Prop
 | .mk _ n _ ns ks al=>n.length≤40∧mU ns∧Ex.sms ks∧Al.sms al
def Ex.sms:List Ex→Prop
 |[]=>True
 |t::l=>t.sm∧Ex.sms l
def Al.sm:Al→Prop
 | .mk c vs b=>c.length≤40∧mU vs∧b.sm
def Al.sms:List Al→Prop
 |[]=>True
 |t::l=>t.sm∧Al.sms l
end
theorem TE.Nd:∀ {l:List TE},TE.sms l↔∀t∈l,t.sm
 |[]=>by simp [TE.sms]
 |t::l=>by simp [TE.sms,TE.Nd (l:=l)]
theorem Ex.Nd:∀ {l:List Ex},Ex.sms l↔∀t∈l,t.sm
 |[]=>by simp [Ex.sms]
 |t::l=>by simp [Ex.sms,Ex.Nd (l:=l)]
theorem Al.Nd:∀ {l:List Al},Al.sms l↔∀t∈l,t.sm
 |[]=>by simp [Al.sms]
 |t::l=>by simp [Al.sms,Al.Nd (l:=l)]
theorem bC {l:List Str} (h:(decide (l.length≤10)&&VV l)=true):mU l:=by
 simp only [VV,AM,decide_eq_true_eq,A6] at h;exact h
theorem FL {α:Type} {p:α→Prop} {l:List α} {i:Nat} {x:α} (h:∀t∈l.take i,p t) (hx:l[i]?=some x) (hp:p x):∀t∈l.take (i+1),p t:=by
 intro t ht
 rw [HQ hx,BS,Di] at ht
 rcases ht with ht|rfl
 · exact h t ht
 · exact hp
theorem TE.KG {l:List TE} {i:Nat} {x:TE} (h:l[i]?=some x):TE.As (l.take (i+1))=TE.As (l.take i)+x.size:=by
 rw [HQ h,TE.Cm];simp [TE.As]
theorem Ex.KG {l:List Ex} {i:Nat} {x:Ex} (h:l[i]?=some x):Ex.As (l.take (i+1))=Ex.As (l.take i)+x.size:=by
 rw [HQ h,Ex.Cm];simp [Ex.As]
theorem Al.KG {l:List Al} {i:Nat} {x:Al} (h:l[i]?=some x):Al.As (l.take (i+1))=Al.As (l.take i)+x.size:=by
 rw [HQ h,Al.Cm];simp [Al.As]
def sE (good:Prop) (size q:Nat) (b:Bool) (z:Int):Prop:=b=true→good∧∃q':Nat,z=q'∧size+q'=q
theorem Xp {q:Nat}:decide ((q:Int) < 0)=false:=decide_eq_false (by omega)
set_option maxHeartbeats 4000000 in
theorem WS (j:Nat):∀(N:Nat) (t:TE) (q:Nat) (σ:AN),t.size≤N→q≤1000→σ.blk j=some [.d (.int .i64 q)]→
 AQ Tryz.prog 40 [teA t,.gp j 0] σ (fun v σ'=>∃b z,(v= .d (.bool b)∧σ'=σ.AK j [.d (.int .i64 z)])∧sE t.sm t.size q b z):=by
 intro N
 induction N with
 |zero=>intro t q σ h;have:=TE.size_pos t;omega
 |succ N ihN=>
 rintro ⟨k,n,l⟩ q σ hN hq hj
 simp only [TE.size] at hN
 refine X8 (by simp) ?_
 rw [BK,teA,TE.A2]
 simp only [AF,AI]
 generalize hQ:(fun (v:AV) (σ':AN)=>∃b z,(v= .d (.bool b)∧σ'=σ.AK j [.d (.int .i64 z)])∧sE (TE.mk k n l).sm (TE.mk k n l).size q b z)=Q
 have hno:∀z,Q (.d (.bool false)) (σ.AK j [.d (.int .i64 z)]):=fun z=>by rw [← hQ];exact ⟨false,z,⟨rfl,rfl⟩,fun h=>by cases h⟩
 have hyes:∀q':Nat,n.length≤40→(∀t∈l,t.sm)→1+TE.As l+q'=q→Q (.d (.bool true)) (σ.AK j [.d (.int .i64 q')]):=fun q' h1 h2 h3=>by
  rw [← hQ];exact ⟨true,q',⟨rfl,rfl⟩,fun _=>⟨by rw [TE.sm,TE.Nd];exact ⟨h1,h2⟩,q',rfl,by rw [TE.size];exact h3⟩⟩
 clear hQ
 rcases Dj q with rfl|hq0
 · have hm1:IntKind.i64.wrap (((0:Nat):Int) - 1)=-1:=by decide
   have hn1:decide ((-1:Int) < 0)=true:=by decide
   (repeat' (first|refine Run.ct rfl ?_|((first|refine Run.reg mixed ?_|refine Run.AL ?_|(refine Run.Ad Gl (AN.le_refl _) ?_)|(refine AR rfl (fun h=>?_) (fun h=>?_)<;>try (cases h;done)))<;>try simp -implicitDefEqProofs only [hj,hm1,hn1,AO,LN,Gc,AY,A3,go_sem])|(refine ⟨fun h=>?_,fun h=>?_⟩<;>first|(cases h;done)|try simp only [h])|fail))
   exact hno _
 obtain ⟨q,rfl⟩:∃m,q=m+1:=⟨q - 1,by omega⟩
 have hm1:IntKind.i64.wrap (((q+1:Nat):Int) - 1)=(q:Int):=by rw [BO (by omega) (by omega)];omega
 by_cases h40:40 < n.length
 · (repeat' (first|refine Run.ct rfl ?_|((first|refine Run.reg mixed ?_|refine Run.AL ?_|(refine Run.Ad Gl (AN.le_refl _) ?_)|(refine AR rfl (fun h=>?_) (fun h=>?_)<;>try (cases h;done)))<;>try simp -implicitDefEqProofs only [hj,hm1,Xp,NR,decide_eq_true h40,AO,LN,Gc,AY,A3,go_sem])|(refine ⟨fun h=>?_,fun h=>?_⟩<;>first|(cases h;done)|try simp only [h])|fail))
   exact hno _
 (repeat' (first|refine Run.ct rfl ?_|((first|refine Run.reg mixed ?_|refine Run.AL ?_|(refine AR rfl (fun h=>?_) (fun h=>?_)<;>try (cases h;done)))<;>try simp -implicitDefEqProofs only [hj,hm1,Xp,NR,decide_eq_false h40,AO,LN,Gc,AY,A3,go_sem])|(refine ⟨fun h=>?_,fun h=>?_⟩<;>first|(cases h;done)|try simp only [h])|fail))
 refine Run.Bb ?_
 refine Run.Bh ((fun (a1:AV) (a2:AV)=>fun (y:Nat×Nat)=>put 1 a1 (put 2 a2 (put 5 (.d (.int .i64 y.1)) U))) _ _) (fun _=>B4 2 [.d (.int .i64 k),.d (.str n),.d (.sl (l.map TE.enc))] E) (fun y=>σ.AK j [.d (.int .i64 y.2)])
  (fun y=>y.1≤l.length∧(∀t∈l.take y.1,t.sm)∧TE.As (l.take y.1)+y.2=q) (fun y=>l.length - y.1) ?_ (0,q) ⟨by simp,by simp,by simp [TE.As]⟩
 rintro ⟨i,q'⟩ ⟨hi,hsm,hsz⟩ ih
 simp only at hi hsm hsz
 have hil:=TE.GW (l.take i)
 rw [BY,NN hi] at hil
 by_cases hlt:i < l.length
 · obtain ⟨x,hx⟩:=Cd hlt
   have he:=C5 (enc:=TE.enc) hx
   have hw1:=BN (show i+1≤9000000000000000000 by omega)
   have hxs:=TE.Rq (Af hx)
   have hc:=ihN x q' (σ.AK j [.d (.int .i64 q')]) (by omega) (by omega) (by rw [AO,if_pos rfl])
   have hst:=TE.KG hx
   have hms:=fun hp=>FL (p:=TE.sm) hsm hx hp
   obtain ⟨xk,xn,xl⟩:=x
   simp only [teA,TE.A2,AF,AI] at he hc
   (repeat' (first|refine Run.ct rfl ?_|((first|refine Run.reg mixed ?_|refine Run.AL ?_|(refine AH.mk rfl hc ?_;rintro v σ' ⟨b,z,⟨rfl,rfl⟩,hres⟩;cases b<;>rw [A1])|(refine Run.Ad Gl (AN.le_refl _) ?_)|(refine AR rfl (fun h=>?_) (fun h=>?_)<;>try (cases h;done)))<;>try simp -implicitDefEqProofs only [BU hlt,he,hw1,AE,go_sem])|(refine ⟨fun h=>?_,fun h=>?_⟩<;>first|(cases h;done)|try simp only [h])|fail))
   · exact hno z
   · obtain ⟨g1,q2,rfl,g2⟩:=hres rfl
     exact ih (i+1,q2) ⟨by simp only;omega,hms g1,by simp only;omega⟩ (by simp only;omega)
 · rw [A8 (by omega)] at hsm hsz
   (repeat' (first|refine Run.ct rfl ?_|((first|refine Run.reg mixed ?_|refine Run.AL ?_|(refine Run.Ad Gl (AN.le_refl _) ?_)|(refine AR rfl (fun h=>?_) (fun h=>?_)<;>try (cases h;done)))<;>try simp -implicitDefEqProofs only [FR hlt,AE,go_sem])|(refine ⟨fun h=>?_,fun h=>?_⟩<;>first|(cases h;done)|try simp only [h])|fail))
   exact hyes q' (by omega) hsm (by omega)
theorem aS (j:Nat):∀(N:Nat) (e:Ex) (q:Nat) (σ:AN),e.size≤N→q≤1000→σ.blk j=some [.d (.int .i64 q)]→
 AQ Tryz.prog 41 [exA e,.gp j 0] σ (fun v σ'=>∃b z,(v= .d (.bool b)∧σ'=σ.AK j [.d (.int .i64 z)])∧sE e.sm e.size q b z):=by
 intro N
 induction N with
 |zero=>intro t q σ h;have:=Ex.size_pos t;omega
 |succ N ihN=>
 rintro ⟨o,n,u,ns,ks,al⟩ q σ hN hq hj
 simp only [Ex.size] at hN
 refine cY (by simp) ?_
 rw [BK,exA,Ex.A2]
 simp only [AF,AI]
 generalize hQ:(fun (v:AV) (σ':AN)=>∃b z,(v= .d (.bool b)∧σ'=σ.AK j [.d (.int .i64 z)])∧sE (Ex.mk o n u ns ks al).sm (Ex.mk o n u ns ks al).size q b z)=Q
 have hno:∀z,Q (.d (.bool false)) (σ.AK j [.d (.int .i64 z)]):=fun z=>by rw [← hQ];exact ⟨false,z,⟨rfl,rfl⟩,fun h=>by cases h⟩
 have hyes:∀q':Nat,n.length≤40→mU ns→(∀t∈ks,t.sm)→(∀t∈al,t.sm)→1+Ex.As ks+Al.As al+q'=q→Q (.d (.bool true)) (σ.AK j [.d (.int .i64 q')]):=fun q' h1 h2 h3 h4 h5=>by
  rw [← hQ];exact ⟨true,q',⟨rfl,rfl⟩,fun _=>⟨by rw [Ex.sm,Ex.Nd,Al.Nd];exact ⟨h1,h2,h3,h4⟩,q',rfl,by rw [Ex.size];exact h5⟩⟩
 clear hQ
 have hnm:=fun σ=>KO ns σ
 rcases Dj q with rfl|hq0
 · have hm1:IntKind.i64.wrap (((0:Nat):Int) - 1)=-1:=by decide
   have hn1:decide ((-1:Int) < 0)=true:=by decide
   (repeat' (first|refine Run.ct rfl ?_|((first|refine Run.reg mixed ?_|refine Run.AL ?_|(refine Run.Ad Dp (AN.le_refl _) ?_)|(refine AR rfl (fun h=>?_) (fun h=>?_)<;>try (cases h;done)))<;>try simp -implicitDefEqProofs only [hj,hm1,hn1,AO,LN,Gc,AY,A3,go_sem])|(refine ⟨fun h=>?_,fun h=>?_⟩<;>first|(cases h;done)|try simp only [h])|fail))
   exact hno _
 obtain ⟨q,rfl⟩:∃m,q=m+1:=⟨q - 1,by omega⟩
 have hm1:IntKind.i64.wrap (((q+1:Nat):Int) - 1)=(q:Int):=by rw [BO (by omega) (by omega)];omega
 by_cases h40:40 < n.length
 · (repeat' (first|refine Run.ct rfl ?_|((first|refine Run.reg mixed ?_|refine Run.AL ?_|(refine Run.Ad Dp (AN.le_refl _) ?_)|(refine AR rfl (fun h=>?_) (fun h=>?_)<;>try (cases h;done)))<;>try simp -implicitDefEqProofs only [hj,hm1,Xp,NR,decide_eq_true h40,AO,LN,Gc,AY,A3,go_sem])|(refine ⟨fun h=>?_,fun h=>?_⟩<;>first|(cases h;done)|try simp only [h])|fail))
   exact hno _
 cases hnk:(decide (ns.length≤10)&&VV ns) with
 |false=>
  rw [hnk] at hnm
  (repeat' (first|refine Run.ct rfl ?_|((first|refine Run.reg mixed ?_|refine Run.AL ?_|(refine Run.Ad Dp (AN.le_refl _) ?_)|refine AH.det (hnm _) ?_|(refine AR rfl (fun h=>?_) (fun h=>?_)<;>try (cases h;done)))<;>try simp -implicitDefEqProofs only [hj,hm1,Xp,NR,decide_eq_false h40,AO,LN,Gc,AY,A3,go_sem])|(refine ⟨fun h=>?_,fun h=>?_⟩<;>first|(cases h;done)|try simp only [h])|fail))
  exact hno _
 |true=>
 rw [hnk] at hnm
 by_cases hk10:10 < ks.length
 · (repeat' (first|refine Run.ct rfl ?_|((first|refine Run.reg mixed ?_|refine Run.AL ?_|(refine Run.Ad Dp (AN.le_refl _) ?_)|refine AH.det (hnm _) ?_|(refine AR rfl (fun h=>?_) (fun h=>?_)<;>try (cases h;done)))<;>try simp -implicitDefEqProofs only [hj,hm1,Xp,NR,decide_eq_false h40,gJ,AE,decide_eq_true hk10,AO,LN,Gc,AY,A3,go_sem])|(refine ⟨fun h=>?_,fun h=>?_⟩<;>first|(cases h;done)|try simp only [h])|fail))
   exact hno _
 by_cases ha10:10 < al.length
 · (repeat' (first|refine Run.ct rfl ?_|((first|refine Run.reg mixed ?_|refine Run.AL ?_|(refine Run.Ad Dp (AN.le_refl _) ?_)|refine AH.det (hnm _) ?_|(refine AR rfl (fun h=>?_) (fun h=>?_)<;>try (cases h;done)))<;>try simp -implicitDefEqProofs only [hj,hm1,Xp,NR,decide_eq_false h40,gJ,AE,decide_eq_false hk10,decide_eq_true ha10,AO,LN,Gc,AY,A3,go_sem])|(refine ⟨fun h=>?_,fun h=>?_⟩<;>first|(cases h;done)|try simp only [h])|fail))
   exact hno _
 (repeat' (first|refine Run.ct rfl ?_|((first|refine Run.reg mixed ?_|refine Run.AL ?_|refine AH.det (hnm _) ?_|(refine AR rfl (fun h=>?_) (fun h=>?_)<;>try (cases h;done)))<;>try simp -implicitDefEqProofs only [hj,hm1,Xp,NR,decide_eq_false h40,gJ,AE,decide_eq_false hk10,decide_eq_false ha10,AO,LN,Gc,AY,A3,go_sem])|(refine ⟨fun h=>?_,fun h=>?_⟩<;>first|(cases h;done)|try simp only [h])|fail))
 refine Run.Bb ?_
 refine Run.Bh ((fun (a1:AV) (a2:AV)=>fun (y:Nat×Nat)=>put 1 a1 (put 2 a2 (put 5 (.d (.int .i64 y.1)) U))) _ _) (fun _=>B4 2 [.d (.int .i64 o),.d (.str n),.d (.int .i64 u),.d (.sl (ns.map Dr)),.d (.sl (ks.map Ex.enc)),.d (.sl (al.map Al.enc))] E) (fun y=>σ.AK j [.d (.int .i64 y.2)])
  (fun y=>y.1≤ks.length∧(∀t∈ks.take y.1,t.sm)∧Ex.As (ks.take y.1)+y.2=q) (fun y=>ks.length - y.1) ?_ (0,q) ⟨by simp,by simp,by simp [Ex.As]⟩
 rintro ⟨i,q'⟩ ⟨hi,hsm,hsz⟩ ih
 simp only at hi hsm hsz
 by_cases hlt:i < ks.length
 · obtain ⟨x,hx⟩:=Cd hlt
   have he:=C5 (enc:=Ex.enc) hx
   have hw1:=BN (show i+1≤9000000000000000000 by omega)
   have hxs:=Ex.Rq (Af hx)
   have hc:=ihN x q' (σ.AK j [.d (.int .i64 q')]) (by omega) (by omega) (by rw [AO,if_pos rfl])
   have hst:=Ex.KG hx
   have hms:=fun hp=>FL (p:=Ex.sm) hsm hx hp
   obtain ⟨xo,xn,xu,xns,xks,xal⟩:=x
   simp only [exA,Ex.A2,AF,AI] at he hc
   (repeat' (first|refine Run.ct rfl ?_|((first|refine Run.reg mixed ?_|refine Run.AL ?_|(refine AH.mk rfl hc ?_;rintro v σ' ⟨b,z,⟨rfl,rfl⟩,hres⟩;cases b<;>rw [A1])|(refine Run.Ad Dp (AN.le_refl _) ?_)|(refine AR rfl (fun h=>?_) (fun h=>?_)<;>try (cases h;done)))<;>try simp -implicitDefEqProofs only [BU hlt,he,hw1,AE,go_sem])|(refine ⟨fun h=>?_,fun h=>?_⟩<;>first|(cases h;done)|try simp only [h])|fail))
   · exact hno z
   · obtain ⟨g1,q2,rfl,g2⟩:=hres rfl
     exact ih (i+1,q2) ⟨by simp only;omega,hms g1,by simp only;omega⟩ (by simp only;omega)
 · rw [A8 (by omega)] at hsm hsz
   clear ih
   (repeat' (first|refine Run.ct rfl ?_|((first|refine Run.reg mixed ?_|refine Run.AL ?_|(refine AR rfl (fun h=>?_) (fun h=>?_)<;>try (cases h;done)))<;>try simp -implicitDefEqProofs only [FR hlt,AE,go_sem])|(refine ⟨fun h=>?_,fun h=>?_⟩<;>first|(cases h;done)|try simp only [h])|fail))
   refine Run.Bb ?_
   refine Run.Bh ((fun (a1:AV) (a2:AV)=>fun (y:Nat×Nat)=>put 1 a1 (put 2 a2 (put 6 (.d (.int .i64 y.1)) U))) _ _) (fun _=>B4 2 [.d (.int .i64 o),.d (.str n),.d (.int .i64 u),.d (.sl (ns.map Dr)),.d (.sl (ks.map Ex.enc)),.d (.sl (al.map Al.enc))] E) (fun y=>σ.AK j [.d (.int .i64 y.2)])
    (fun y=>y.1≤al.length∧(∀t∈al.take y.1,t.sm)∧Al.As (al.take y.1)+y.2=q') (fun y=>al.length - y.1) ?_ (0,q') ⟨by simp,by simp,by simp [Al.As]⟩
   rintro ⟨i2,q2⟩ ⟨hi2,hsm2,hsz2⟩ ih
   simp only at hi2 hsm2 hsz2
   by_cases hlt:i2 < al.length
   · obtain ⟨x,hx⟩:=Cd hlt
     have he:=C5 (enc:=Al.enc) hx
     have hw1:=BN (show i2+1≤9000000000000000000 by omega)
     have hxs:=Al.Rq (Af hx)
     have hst:=Al.KG hx
     have hms:=fun hp=>FL (p:=Al.sm) hsm2 hx hp
     obtain ⟨xc,xvs,xb⟩:=x
     rw [Al.size] at hxs hst
     have hc:=ihN xb q2 (σ.AK j [.d (.int .i64 q2)]) (by omega) (by omega) (by rw [AO,if_pos rfl])
     have hnv:=fun σ=>KO xvs σ
     obtain ⟨xo,xn,xu,xns,xks,xal⟩:=xb
     simp only [exA,Al.A2,Ex.A2,AF,AI] at he hc
     by_cases hc40:40 < xc.length
     · (repeat' (first|refine Run.ct rfl ?_|((first|refine Run.reg mixed ?_|refine Run.AL ?_|(refine Run.Ad Dp (AN.le_refl _) ?_)|(refine AR rfl (fun h=>?_) (fun h=>?_)<;>try (cases h;done)))<;>try simp -implicitDefEqProofs only [BU hlt,he,NR,decide_eq_true hc40,AE,go_sem])|(refine ⟨fun h=>?_,fun h=>?_⟩<;>first|(cases h;done)|try simp only [h])|fail))
       exact hno _
     cases hvk:(decide (xvs.length≤10)&&VV xvs) with
     |false=>
      rw [hvk] at hnv
      (repeat' (first|refine Run.ct rfl ?_|((first|refine Run.reg mixed ?_|refine Run.AL ?_|(refine Run.Ad Dp (AN.le_refl _) ?_)|refine AH.det (hnv _) ?_|(refine AR rfl (fun h=>?_) (fun h=>?_)<;>try (cases h;done)))<;>try simp -implicitDefEqProofs only [BU hlt,he,NR,decide_eq_false hc40,AE,go_sem])|(refine ⟨fun h=>?_,fun h=>?_⟩<;>first|(cases h;done)|try simp only [h])|fail))
      exact hno _
     |true=>
     rw [hvk] at hnv
     (repeat' (first|refine Run.ct rfl ?_|((first|refine Run.reg mixed ?_|refine Run.AL ?_|(refine AH.mk rfl hc ?_;rintro v σ' ⟨b,z,⟨rfl,rfl⟩,hres⟩;cases b<;>rw [A1])|(refine Run.Ad Dp (AN.le_refl _) ?_)|refine AH.det (hnv _) ?_|(refine AR rfl (fun h=>?_) (fun h=>?_)<;>try (cases h;done)))<;>try simp -implicitDefEqProofs only [BU hlt,he,hw1,NR,decide_eq_false hc40,AE,go_sem])|(refine ⟨fun h=>?_,fun h=>?_⟩<;>first|(cases h;done)|try simp only [h])|fail))
     · exact hno z
     · obtain ⟨g1,q3,rfl,g2⟩:=hres rfl
       exact ih (i2+1,q3) ⟨by simp only;omega,hms (by rw [Al.sm];exact ⟨by omega,bC hvk,g1⟩),by simp only;omega⟩ (by simp only;omega)
   · rw [A8 (by omega)] at hsm2 hsz2
     (repeat' (first|refine Run.ct rfl ?_|((first|refine Run.reg mixed ?_|refine Run.AL ?_|(refine Run.Ad Dp (AN.le_refl _) ?_)|(refine AR rfl (fun h=>?_) (fun h=>?_)<;>try (cases h;done)))<;>try simp -implicitDefEqProofs only [FR hlt,AE,go_sem])|(refine ⟨fun h=>?_,fun h=>?_⟩<;>first|(cases h;done)|try simp only [h])|fail))
     exact hyes q2 (by omega) (bC hnk) hsm hsm2 (by omega)
end Go.Ab
