/- Parse of the program. The sanity check of the laws of syntax. The guards on programs: Names, written, expr. The guards on programs: Prog. The law on sizes: SyntaxLimits, over abstract values. The reference's texts: joins, numbers, names, levels. Conditions: none. -/
import Derived.Test.YtifplkldbbcldaaGreatDoorXWe2
set_option linter.unusedSimpArgs false
set_option linter.unusedVariables false
set_option maxRecDepth 4000
set_option maxHeartbeats 8000000
open List renaming map_cons→AF,map_nil→AI,length_map→AG,all_eq_true→A7,mem_of_getElem?→Ae,all_append→CH,take_of_length_le→A8,mem_append→BW,mem_singleton→Dv,take→L9,drop→Ja,append_nil→A1,nil_append→A3,length→Kd,length_append→AA,length_cons→AB,length_nil→AE
open Nat renaming le_trans→BD,eq_zero_or_pos→FB,le_refl→A9
open Bool renaming false_eq_true→AW,eq_false_iff→F1,false_and→E5,and_true→BH,and_eq_true→AN
open Int renaming reduceBEq→AS
open UInt8 renaming ofNat→I2
namespace Go.Ab
open Go.Proofs
def qX (r:Pg×Nat×Int):AV:= .tup [pgA r.1,.d (.int .i64 ((r.2.1:Nat):Int)),.d (.int .i64 r.2.2)]
theorem ADI (L:List Tok):[AV.d (.sl (L.map Tok.enc)),.d (.int .i64 0),.d (.bool false),.d (.int .i64 0)]=psA L ⟨L,false,0⟩:=by
 unfold psA Zh;simp
theorem xO {σ:AM} {j:Nat} (h:σ.blk j=none) (cs:List AV):σ.le (σ.AL j cs):=VY (AM.le_refl σ) h cs
theorem X6 (src:Str) (σ:AM) (g0:Xl σ):AP Tryz.prog 12 [.d (.str src)] σ (fun v σ'=>v=qX (KY src)∧σ'=σ):=by
 refine Ya (by simp) ?_
 rw [Av]
 have hsp:=Sp src σ
 by_cases he:(BL src).2.2=0
 · obtain ⟨hw,ho⟩:=iY he
   have hN:=rJ he
   have hne:((BL src).2.2 != 0)=false:=by rw [he];rfl
   rw [Ue he]
   have hprog:=fun (j:Nat) (hj:σ.blk j=none)=>lR j hN (σ.AL j (psA (BL src).1 ⟨(BL src).1,false,0⟩)) ⟨(BL src).1,false,0⟩ g0 ⟨hw,List.suffix_refl _,ho.1⟩ (by have:=Fb;have:=ho.1;simp only;omega) (by rw [AO,if_pos rfl])
   have hsm:=iC (p:=0) hw ho.1
   simp only [Hk] at hsp
   generalize (BL src).1=L at hsp hw ho hN hprog hsm ⊢
   generalize (BL src).2.1=pos at hsp ⊢
   rw [he] at hsp
   generalize NT.run ⟨L,false,0⟩=y at hprog hsm ⊢
   obtain ⟨p,s1⟩:=y
   simp only at hprog hsm
   simp only [A4] at hprog
   obtain ⟨ds,fs⟩:=p
   simp only [pgA,Pg.enc,AF,AI] at hprog
   have h00:((0:Int) != 0)=false:=rfl
   (repeat' (first|refine Run.ct rfl ?_|((first|refine Run.reg mixed ?_|refine Run.AJ ?_|refine AH.det (hsp) ?_|(refine AQ rfl (fun h=>?_) (fun h=>?_)<;>try (cases h;done)))<;>try simp -implicitDefEqProofs only [h00,go_sem])|(refine ⟨fun h=>?_,fun h=>?_⟩<;>first|(cases h;done)|try simp only [h])|fail))
   intro j hj
   have hle:=xO hj (psA L s1)
   have hb:(σ.AL j (psA L s1)).blk j=some (psA L s1):=by rw [AO,if_pos rfl]
   have hst:psA L s1=[.d (Zh L),.d (.int .i64 ((L.length - s1.r.length:Nat):Int)),.d (.bool s1.f),.d (.int .i64 ((s1.p:Nat):Int))]:=rfl
   rw [ADI]
   cases hf:s1.f with
   |true=>
    rw [hf] at hst
    have hfin:dJ (⟨ds,fs⟩,s1)=(⟨[],[]⟩,s1.p,2):=if_pos hf
    rw [hfin]
    simp only [qX,pgA,Pg.enc,AF,AI]
    (repeat' (first|refine Run.ct rfl ?_|((first|refine Run.reg mixed ?_|refine Run.AJ ?_|(refine AH.upd (hprog j hj) ?_)|(refine AQ rfl (fun h=>?_) (fun h=>?_)<;>try (cases h;done)))<;>try simp -implicitDefEqProofs only [hst,hf,go_sem])|(refine ⟨fun h=>?_,fun h=>?_⟩<;>first|(cases h;done)|try simp only [h])|fail))
    rw [← hst]
    refine Run.FZ mixed ?_;simp -implicitDefEqProofs only [hst,hf,go_sem]
    rw [← hst]
    (repeat' (first|refine Run.ct rfl ?_|((first|refine Run.reg mixed ?_|refine Run.AJ ?_|(refine Run.Ad HH hle ?_)|(refine AQ rfl (fun h=>?_) (fun h=>?_)<;>try (cases h;done)))<;>try simp -implicitDefEqProofs only [go_sem])|(refine ⟨fun h=>?_,fun h=>?_⟩<;>first|(cases h;done)|try simp only [h])|fail))
   |false=>
    rw [hf] at hst
    have hV:=MB ⟨ds,fs⟩ (σ.AL j (psA L s1)) (fun d hd c hc t ht=>BD (hsm hf d hd c hc t ht) (by omega))
    simp only [pgA,Pg.enc,AF,AI] at hV
    have hfin:dJ (⟨ds,fs⟩,s1)=if C0 ⟨ds,fs⟩ then (⟨ds,fs⟩,0,0) else (⟨[],[]⟩,0,9):=if_neg (by rw [hf];decide)
    rw [hfin]
    cases hv:C0 ⟨ds,fs⟩ with
    |true=>
     rw [hv] at hV
     simp only [if_true,qX,pgA,Pg.enc,AF,AI]
     (repeat' (first|refine Run.ct rfl ?_|((first|refine Run.reg mixed ?_|refine Run.AJ ?_|(refine AH.upd (hprog j hj) ?_)|(refine AQ rfl (fun h=>?_) (fun h=>?_)<;>try (cases h;done)))<;>try simp -implicitDefEqProofs only [hst,hf,go_sem])|(refine ⟨fun h=>?_,fun h=>?_⟩<;>first|(cases h;done)|try simp only [h])|fail))
     rw [← hst]
     (repeat' (first|refine Run.ct rfl ?_|((first|refine Run.reg mixed ?_|refine Run.AJ ?_|(refine Run.Ad HH hle ?_)|refine AH.det (hV) ?_|(refine AQ rfl (fun h=>?_) (fun h=>?_)<;>try (cases h;done)))<;>try simp -implicitDefEqProofs only [hf,go_sem])|(refine ⟨fun h=>?_,fun h=>?_⟩<;>first|(cases h;done)|try simp only [h])|fail))
     rfl
    |false=>
     rw [hv] at hV
     simp only [if_false,AW,qX,pgA,Pg.enc,AF,AI]
     (repeat' (first|refine Run.ct rfl ?_|((first|refine Run.reg mixed ?_|refine Run.AJ ?_|(refine AH.upd (hprog j hj) ?_)|(refine AQ rfl (fun h=>?_) (fun h=>?_)<;>try (cases h;done)))<;>try simp -implicitDefEqProofs only [hst,hf,go_sem])|(refine ⟨fun h=>?_,fun h=>?_⟩<;>first|(cases h;done)|try simp only [h])|fail))
     rw [← hst]
     (repeat' (first|refine Run.ct rfl ?_|((first|refine Run.reg mixed ?_|refine Run.AJ ?_|(refine Run.Ad HH hle ?_)|refine AH.det (hV) ?_|(refine AQ rfl (fun h=>?_) (fun h=>?_)<;>try (cases h;done)))<;>try simp -implicitDefEqProofs only [hf,go_sem])|(refine ⟨fun h=>?_,fun h=>?_⟩<;>first|(cases h;done)|try simp only [h])|fail))
     rfl
 · have hne:((BL src).2.2 != 0)=true:=by simpa using he
   have hp:KY src=(⟨[],[]⟩,(BL src).2.1,(BL src).2.2):=if_pos he
   rw [hp]
   simp only [Hk] at hsp
   simp only [qX,pgA,Pg.enc,AF,AI]
   (repeat' (first|refine Run.ct rfl ?_|((first|refine Run.reg mixed ?_|refine Run.AJ ?_|refine Run.Ad HH (AM.le_refl _) ?_|refine AH.det (hsp) ?_|(refine AQ rfl (fun h=>?_) (fun h=>?_)<;>try (cases h;done)))<;>try simp -implicitDefEqProofs only [hne,go_sem])|(refine ⟨fun h=>?_,fun h=>?_⟩<;>first|(cases h;done)|try simp only [h])|fail))
end Go.Ab
namespace Go.Ab
open Go.Proofs
def bG:Str:=[102,117,110,32,102,40,120,41,61,105,102,32,120,60,61,48,32,116,104,101,110,40,41,32,101,108,115,101,32,102,40,120,45,49,41,59]
def sG:Str:=[102,117,110,32,102,40,120,41,32,61,32,105,102,32,120,32,60,61,32,48,32,116,104,101,110,32,40,41,32,101,108,115,101,32,102,40,120,32,45,32,49,41,59,10]
def nmE (s:Str):Ex:= .mk 4 s 0 [] [] []
def awE:Ex:= .mk 9 [] 0 [] [.mk 13 [] 7 [] [nmE [120],.mk 3 [] 0 [] [] []] [],.mk 1 [] 0 [] [] [],.mk 12 [] 0 [] [nmE [102],.mk 13 [] 2 [] [nmE [120],.mk 3 [] 1 [] [] []] []] []] []
def awQ:Pg:=⟨[],[⟨[102],[[120]],awE⟩]⟩
theorem nK:Lib.itoa 0=[48]∧Lib.itoa 1=[49]:=by
 constructor<;>simp [Lib.itoa,Lib.decDigits]
theorem dB:aC awQ=sG:=by
 have h0:=nK.1
 have h1:=nK.2
 have e1:Af (.mk 3 [] 0 [] [] [])=[48]:=by rw [← h0];rfl
 have e2:Af (.mk 3 [] 1 [] [] [])=[49]:=by rw [← h1];rfl
 have e3:Af (.mk 13 [] 7 [] [nmE [120],.mk 3 [] 0 [] [] []] [])=[120,32,60,61,32]++Af (.mk 3 [] 0 [] [] []):=rfl
 have e4:Af (.mk 13 [] 2 [] [nmE [120],.mk 3 [] 1 [] [] []] [])=[120,32,45,32]++Af (.mk 3 [] 1 [] [] []):=rfl
 have e6:Af (.mk 12 [] 0 [] [nmE [102],.mk 13 [] 2 [] [nmE [120],.mk 3 [] 1 [] [] []] []] [])=[102,40]++(Lib.join [Af (.mk 13 [] 2 [] [nmE [120],.mk 3 [] 1 [] [] []] [])] [44,32]++[41]):=rfl
 have e7:Af awE=[105,102,32]++(Af (.mk 13 [] 7 [] [nmE [120],.mk 3 [] 0 [] [] []] [])++([32,116,104,101,110,32]++([40,41]++([32,101,108,115,101,32]++Af (.mk 12 [] 0 [] [nmE [102],.mk 13 [] 2 [] [nmE [120],.mk 3 [] 1 [] [] []] []] []))))):=rfl
 have e8:aC awQ=(([102,117,110,32]++([102]++(FC [[120]]++([32,61,32]++(Af awE++[59,10])))))++[]):=rfl
 have e9:FC [[120]]=[40,120,41]:=by decide
 rw [e8,e7,e6,Lib.join_one,e3,e4,e1,e2,e9];rfl
theorem bF:C0 awQ=true:=by decide+kernel
theorem oX:(BL bG).2.2=0∧(BL sG).2.2=0∧strip (BL bG).1=strip (BL sG).1:=by decide+kernel
theorem oW:(KY bG).1=awQ∧(KY bG).2.2=0:=by
 obtain ⟨h1,h2,h3⟩:=oX
 have hb:=lI bF (by rw [dB];decide)
 rw [dB] at hb
 have hp:=hY h1 h2 h3
 rw [hb] at hp
 exact hp
theorem Yo (σ:AM) (hg:Xl σ) (hp:σ.gt RT=some T7):AP Tryz.prog 15 [] σ (fun v σ'=>v= .d (.bool true)∧σ'=σ):=by
 have hpa:=X6 bG σ hg
 have hfm:=W3 awQ σ hp (fun d hd=>by cases hd)
 rw [bF,if_pos rfl,dB] at hfm
 obtain ⟨h1,h2⟩:=oW
 generalize KY bG=r at hpa h1 h2
 obtain ⟨q,at',code⟩:=r
 simp only at h1 h2
 subst h1 h2
 simp only [qX,pgA,Pg.enc,AF,AI] at hpa hfm
 refine aE (by simp) ?_
 rw [show At []=U from by funext s;simp [At,U]]
 (repeat' (first|refine Run.ct rfl ?_|((first|refine Run.reg mixed ?_|refine Run.AJ ?_|refine Run.Ad Tx (AM.le_refl _) ?_|refine AH.det (hpa) ?_|refine AH.det (hfm) ?_|(refine AQ rfl (fun h=>?_) (fun h=>?_)<;>try (cases h;done)))<;>try simp -implicitDefEqProofs only [AS,go_sem])|(refine ⟨fun h=>?_,fun h=>?_⟩<;>first|(cases h;done)|try simp only [h])|fail))
 exact ⟨rfl,rfl⟩
end Go.Ab
namespace Go.Ab
open Go.Proofs
def Yt (l:List Str):Bool:=l.all fun s=>decide (s.length≤40)
theorem aD (n:Nat):decide ((40:Int) < (n:Int))=decide (40 < n):=decide_eq_decide.2 (by omega)
theorem ABA (n:Nat):decide ((10:Int) < (n:Int))=decide (10 < n):=decide_eq_decide.2 (by omega)
theorem xN (n:Nat):decide ((n:Int)≤(10:Int))=decide (n≤10):=decide_eq_decide.2 (by omega)
theorem UG (l:List Str) (σ:AM):AP Tryz.prog 39 [.d (.sl (l.map B0)),.d (.int .i64 10)] σ (fun v σ'=>v= .d (.bool (decide (l.length≤10)&&Yt l))∧σ'=σ):=by
 refine dO (by simp) ?_
 rw [BP]
 refine Run.slot 0 (fun hb0=>?_)
 simp only [IQ,if_true,AV.HR,AG] at hb0
 (repeat' (first|refine Run.ct rfl ?_|((first|refine Run.reg mixed ?_|refine Run.AJ ?_|(refine AQ rfl (fun h=>?_) (fun h=>?_)<;>try (cases h;done)))<;>try simp -implicitDefEqProofs only [AG,go_sem])|(refine ⟨fun h=>?_,fun h=>?_⟩<;>first|(cases h;done)|try simp only [h])|fail))
 refine Run.Ba ?_
 refine Run.Bd ((fun (a0:AV) (a1:AV)=>fun (i:Nat)=>put 0 a0 (put 1 a1 (put 5 (.d (.int .i64 i)) U))) _ _) (fun _=>E) (fun _=>σ) (fun i=>i≤l.length∧i≤11∧Yt (l.take i)=true) (fun i=>l.length - i) ?_ 0 ⟨by simp,by simp,by simp [Yt]⟩
 rintro i ⟨hi,h11,hno⟩ ih
 by_cases hlt:i < l.length
 · obtain ⟨x,hx⟩:=C7 hlt
   have he:=CR (enc:=B0) hx
   simp only [B0] at he
   have hw1:IntKind.i64.wrap ((i:Int)+1)=((i+1:Nat):Int):=by rw [BF (by omega) (by omega)];omega
   by_cases h10:i≤10
   · by_cases hs:40 < x.length
     · have hf:(decide (l.length≤10)&&Yt l)=false:=by
        rw [Bool.and_eq_false_iff];right
        rw [F1]
        intro h
        rw [Yt,A7] at h
        have:=h x (Ae hx)
        rw [decide_eq_true_eq] at this;omega
       (repeat' (first|refine Run.ct rfl ?_|((first|refine Run.reg mixed ?_|refine Run.AJ ?_|refine Run.Ad M4 (AM.le_refl _) ?_|(refine AQ rfl (fun h=>?_) (fun h=>?_)<;>try (cases h;done)))<;>try simp -implicitDefEqProofs only [BZ hlt,he,hw1,xN,decide_eq_true h10,aD,decide_eq_true hs,AG,go_sem])|(refine ⟨fun h=>?_,fun h=>?_⟩<;>first|(cases h;done)|try simp only [h])|fail))
       rw [hf]
     · (repeat' (first|refine Run.ct rfl ?_|((first|refine Run.reg mixed ?_|refine Run.AJ ?_|(refine AQ rfl (fun h=>?_) (fun h=>?_)<;>try (cases h;done)))<;>try simp -implicitDefEqProofs only [BZ hlt,he,hw1,xN,decide_eq_true h10,aD,decide_eq_false hs,AG,go_sem])|(refine ⟨fun h=>?_,fun h=>?_⟩<;>first|(cases h;done)|try simp only [h])|fail))
       exact ih (i+1) ⟨by omega,by omega,by
        rw [Fl hx,Yt,CH]
        rw [Yt] at hno
        rw [hno];simp;omega⟩ (by omega)
   · have hgt:decide (l.length≤10)=false:=decide_eq_false (by omega)
     (repeat' (first|refine Run.ct rfl ?_|((first|refine Run.reg mixed ?_|refine Run.AJ ?_|refine Run.Ad M4 (AM.le_refl _) ?_|(refine AQ rfl (fun h=>?_) (fun h=>?_)<;>try (cases h;done)))<;>try simp -implicitDefEqProofs only [BZ hlt,he,hw1,xN,decide_eq_false h10,AG,hgt,go_sem])|(refine ⟨fun h=>?_,fun h=>?_⟩<;>first|(cases h;done)|try simp only [h])|fail))
     try rw [E5]
 · have hile:i=l.length:=by omega
   subst hile
   rw [A8 (by omega)] at hno
   (repeat' (first|refine Run.ct rfl ?_|((first|refine Run.reg mixed ?_|refine Run.AJ ?_|refine Run.Ad M4 (AM.le_refl _) ?_|(refine AQ rfl (fun h=>?_) (fun h=>?_)<;>try (cases h;done)))<;>try simp -implicitDefEqProofs only [FD hlt,xN,AG,go_sem])|(refine ⟨fun h=>?_,fun h=>?_⟩<;>first|(cases h;done)|try simp only [h])|fail))
   rw [hno,BH]
mutual
def TE.sm:TE→Prop
 | .mk _ n l=>n.length≤40∧TE.sms l
def TE.sms:List TE→Prop
 |[]=>True
 |t::l=>t.sm∧TE.sms l
end
def qS (l:List Str):Prop:=l.length≤10∧∀s∈l,s.length≤40
mutual
def Ex.sm:Ex→Prop
 | .mk _ n _ ns ks al=>n.length≤40∧qS ns∧Ex.sms ks∧Al.sms al
def Ex.sms:List Ex→Prop
 |[]=>True
 |t::l=>t.sm∧Ex.sms l
def Al.sm:Al→Prop
 | .mk c vs b=>c.length≤40∧qS vs∧b.sm
def Al.sms:List Al→Prop
 |[]=>True
 |t::l=>t.sm∧Al.sms l
end
theorem TE.Qc:∀ {l:List TE},TE.sms l↔∀t∈l,t.sm
 |[]=>by simp [TE.sms]
 |t::l=>by simp [TE.sms,TE.Qc (l:=l)]
theorem Ex.Qc:∀ {l:List Ex},Ex.sms l↔∀t∈l,t.sm
 |[]=>by simp [Ex.sms]
 |t::l=>by simp [Ex.sms,Ex.Qc (l:=l)]
theorem Al.Qc:∀ {l:List Al},Al.sms l↔∀t∈l,t.sm
 |[]=>by simp [Al.sms]
 |t::l=>by simp [Al.sms,Al.Qc (l:=l)]
theorem uK {l:List Str} (h:(decide (l.length≤10)&&Yt l)=true):qS l:=by
 simp only [Yt,AN,decide_eq_true_eq,A7] at h;exact h
theorem UH {α:Type} {p:α→Prop} {l:List α} {i:Nat} {x:α} (h:∀t∈l.take i,p t) (hx:l[i]?=some x) (hp:p x):∀t∈l.take (i+1),p t:=by
 intro t ht
 rw [Fl hx,BW,Dv] at ht
 rcases ht with ht|rfl
 · exact h t ht
 · exact hp
theorem TE.GU {l:List TE} {i:Nat} {x:TE} (h:l[i]?=some x):TE.Ar (l.take (i+1))=TE.Ar (l.take i)+x.size:=by
 rw [Fl h,TE.Cw];simp [TE.Ar]
theorem Ex.GU {l:List Ex} {i:Nat} {x:Ex} (h:l[i]?=some x):Ex.Ar (l.take (i+1))=Ex.Ar (l.take i)+x.size:=by
 rw [Fl h,Ex.Cw];simp [Ex.Ar]
theorem Al.GU {l:List Al} {i:Nat} {x:Al} (h:l[i]?=some x):Al.Ar (l.take (i+1))=Al.Ar (l.take i)+x.size:=by
 rw [Fl h,Al.Cw];simp [Al.Ar]
def ACU (good:Prop) (size q:Nat) (b:Bool) (z:Int):Prop:=b=true→good∧∃q':Nat,z=q'∧size+q'=q
theorem gZ {q:Nat}:decide ((q:Int) < 0)=false:=decide_eq_false (by omega)
theorem dW (j:Nat):∀(N:Nat) (e:Ex) (q:Nat) (σ:AM),e.size≤N→q≤1000→σ.blk j=some [.d (.int .i64 q)]→
 AP Tryz.prog 41 [exA e,.gp j 0] σ (fun v σ'=>∃b z,(v= .d (.bool b)∧σ'=σ.AL j [.d (.int .i64 z)])∧ACU e.sm e.size q b z):=by
 intro N
 induction N with
 |zero=>intro t q σ h;have:=Ex.size_pos t;omega
 |succ N ihN=>
 rintro ⟨o,n,u,ns,ks,al⟩ q σ hN hq hj
 simp only [Ex.size] at hN
 refine gD (by simp) ?_
 rw [BP,exA,Ex.A2]
 simp only [AF,AI]
 generalize hQ:(fun (v:AV) (σ':AM)=>∃b z,(v= .d (.bool b)∧σ'=σ.AL j [.d (.int .i64 z)])∧ACU (Ex.mk o n u ns ks al).sm (Ex.mk o n u ns ks al).size q b z)=Q
 have hno:∀z,Q (.d (.bool false)) (σ.AL j [.d (.int .i64 z)]):=fun z=>by rw [← hQ];exact ⟨false,z,⟨rfl,rfl⟩,fun h=>by cases h⟩
 have hyes:∀q':Nat,n.length≤40→qS ns→(∀t∈ks,t.sm)→(∀t∈al,t.sm)→1+Ex.Ar ks+Al.Ar al+q'=q→Q (.d (.bool true)) (σ.AL j [.d (.int .i64 q')]):=fun q' h1 h2 h3 h4 h5=>by
  rw [← hQ];exact ⟨true,q',⟨rfl,rfl⟩,fun _=>⟨by rw [Ex.sm,Ex.Qc,Al.Qc];exact ⟨h1,h2,h3,h4⟩,q',rfl,by rw [Ex.size];exact h5⟩⟩
 clear hQ
 have hnm:=fun σ=>UG ns σ
 rcases FB q with rfl|hq0
 · have hm1:IntKind.i64.wrap (((0:Nat):Int) - 1)=-1:=by decide
   have hn1:decide ((-1:Int) < 0)=true:=by decide
   (repeat' (first|refine Run.ct rfl ?_|((first|refine Run.reg mixed ?_|refine Run.AJ ?_|(refine Run.Ad Dz (AM.le_refl _) ?_)|(refine AQ rfl (fun h=>?_) (fun h=>?_)<;>try (cases h;done)))<;>try simp -implicitDefEqProofs only [hj,hm1,hn1,AO,L9,Ja,A1,A3,go_sem])|(refine ⟨fun h=>?_,fun h=>?_⟩<;>first|(cases h;done)|try simp only [h])|fail))
   exact hno _
 obtain ⟨q,rfl⟩:∃m,q=m+1:=⟨q - 1,by omega⟩
 have hm1:IntKind.i64.wrap (((q+1:Nat):Int) - 1)=(q:Int):=by rw [BF (by omega) (by omega)];omega
 by_cases h40:40 < n.length
 · (repeat' (first|refine Run.ct rfl ?_|((first|refine Run.reg mixed ?_|refine Run.AJ ?_|(refine Run.Ad Dz (AM.le_refl _) ?_)|(refine AQ rfl (fun h=>?_) (fun h=>?_)<;>try (cases h;done)))<;>try simp -implicitDefEqProofs only [hj,hm1,gZ,aD,decide_eq_true h40,AO,L9,Ja,A1,A3,go_sem])|(refine ⟨fun h=>?_,fun h=>?_⟩<;>first|(cases h;done)|try simp only [h])|fail))
   exact hno _
 cases hnk:(decide (ns.length≤10)&&Yt ns) with
 |false=>
  rw [hnk] at hnm
  (repeat' (first|refine Run.ct rfl ?_|((first|refine Run.reg mixed ?_|refine Run.AJ ?_|(refine Run.Ad Dz (AM.le_refl _) ?_)|refine AH.det (hnm _) ?_|(refine AQ rfl (fun h=>?_) (fun h=>?_)<;>try (cases h;done)))<;>try simp -implicitDefEqProofs only [hj,hm1,gZ,aD,decide_eq_false h40,AO,L9,Ja,A1,A3,go_sem])|(refine ⟨fun h=>?_,fun h=>?_⟩<;>first|(cases h;done)|try simp only [h])|fail))
  exact hno _
 |true=>
 rw [hnk] at hnm
 by_cases hk10:10 < ks.length
 · (repeat' (first|refine Run.ct rfl ?_|((first|refine Run.reg mixed ?_|refine Run.AJ ?_|(refine Run.Ad Dz (AM.le_refl _) ?_)|refine AH.det (hnm _) ?_|(refine AQ rfl (fun h=>?_) (fun h=>?_)<;>try (cases h;done)))<;>try simp -implicitDefEqProofs only [hj,hm1,gZ,aD,decide_eq_false h40,ABA,AG,decide_eq_true hk10,AO,L9,Ja,A1,A3,go_sem])|(refine ⟨fun h=>?_,fun h=>?_⟩<;>first|(cases h;done)|try simp only [h])|fail))
   exact hno _
 by_cases ha10:10 < al.length
 · (repeat' (first|refine Run.ct rfl ?_|((first|refine Run.reg mixed ?_|refine Run.AJ ?_|(refine Run.Ad Dz (AM.le_refl _) ?_)|refine AH.det (hnm _) ?_|(refine AQ rfl (fun h=>?_) (fun h=>?_)<;>try (cases h;done)))<;>try simp -implicitDefEqProofs only [hj,hm1,gZ,aD,decide_eq_false h40,ABA,AG,decide_eq_false hk10,decide_eq_true ha10,AO,L9,Ja,A1,A3,go_sem])|(refine ⟨fun h=>?_,fun h=>?_⟩<;>first|(cases h;done)|try simp only [h])|fail))
   exact hno _
 (repeat' (first|refine Run.ct rfl ?_|((first|refine Run.reg mixed ?_|refine Run.AJ ?_|refine AH.det (hnm _) ?_|(refine AQ rfl (fun h=>?_) (fun h=>?_)<;>try (cases h;done)))<;>try simp -implicitDefEqProofs only [hj,hm1,gZ,aD,decide_eq_false h40,ABA,AG,decide_eq_false hk10,decide_eq_false ha10,AO,L9,Ja,A1,A3,go_sem])|(refine ⟨fun h=>?_,fun h=>?_⟩<;>first|(cases h;done)|try simp only [h])|fail))
 refine Run.Ba ?_
 refine Run.Bd ((fun (a1:AV) (a2:AV)=>fun (y:Nat×Nat)=>put 1 a1 (put 2 a2 (put 5 (.d (.int .i64 y.1)) U))) _ _) (fun _=>B8 2 [.d (.int .i64 o),.d (.str n),.d (.int .i64 u),.d (.sl (ns.map B0)),.d (.sl (ks.map Ex.enc)),.d (.sl (al.map Al.enc))] E) (fun y=>σ.AL j [.d (.int .i64 y.2)])
  (fun y=>y.1≤ks.length∧(∀t∈ks.take y.1,t.sm)∧Ex.Ar (ks.take y.1)+y.2=q) (fun y=>ks.length - y.1) ?_ (0,q) ⟨by simp,by simp,by simp [Ex.Ar]⟩
 rintro ⟨i,q'⟩ ⟨hi,hsm,hsz⟩ ih
 simp only at hi hsm hsz
 by_cases hlt:i < ks.length
 · obtain ⟨x,hx⟩:=C7 hlt
   have he:=CR (enc:=Ex.enc) hx
   have hw1:=BU (show i+1≤9000000000000000000 by omega)
   have hxs:=Ex.KS (Ae hx)
   have hc:=ihN x q' (σ.AL j [.d (.int .i64 q')]) (by omega) (by omega) (by rw [AO,if_pos rfl])
   have hst:=Ex.GU hx
   have hms:=fun hp=>UH (p:=Ex.sm) hsm hx hp
   obtain ⟨xo,xn,xu,xns,xks,xal⟩:=x
   simp only [exA,Ex.A2,AF,AI] at he hc
   (repeat' (first|refine Run.ct rfl ?_|((first|refine Run.reg mixed ?_|refine Run.AJ ?_|(refine AH.mk rfl hc ?_;rintro v σ' ⟨b,z,⟨rfl,rfl⟩,hres⟩;cases b<;>rw [A4])|(refine Run.Ad Dz (AM.le_refl _) ?_)|(refine AQ rfl (fun h=>?_) (fun h=>?_)<;>try (cases h;done)))<;>try simp -implicitDefEqProofs only [BZ hlt,he,hw1,AG,go_sem])|(refine ⟨fun h=>?_,fun h=>?_⟩<;>first|(cases h;done)|try simp only [h])|fail))
   · exact hno z
   · obtain ⟨g1,q2,rfl,g2⟩:=hres rfl
     exact ih (i+1,q2) ⟨by simp only;omega,hms g1,by simp only;omega⟩ (by simp only;omega)
 · rw [A8 (by omega)] at hsm hsz
   clear ih
   (repeat' (first|refine Run.ct rfl ?_|((first|refine Run.reg mixed ?_|refine Run.AJ ?_|(refine AQ rfl (fun h=>?_) (fun h=>?_)<;>try (cases h;done)))<;>try simp -implicitDefEqProofs only [FD hlt,AG,go_sem])|(refine ⟨fun h=>?_,fun h=>?_⟩<;>first|(cases h;done)|try simp only [h])|fail))
   refine Run.Ba ?_
   refine Run.Bd ((fun (a1:AV) (a2:AV)=>fun (y:Nat×Nat)=>put 1 a1 (put 2 a2 (put 6 (.d (.int .i64 y.1)) U))) _ _) (fun _=>B8 2 [.d (.int .i64 o),.d (.str n),.d (.int .i64 u),.d (.sl (ns.map B0)),.d (.sl (ks.map Ex.enc)),.d (.sl (al.map Al.enc))] E) (fun y=>σ.AL j [.d (.int .i64 y.2)])
    (fun y=>y.1≤al.length∧(∀t∈al.take y.1,t.sm)∧Al.Ar (al.take y.1)+y.2=q') (fun y=>al.length - y.1) ?_ (0,q') ⟨by simp,by simp,by simp [Al.Ar]⟩
   rintro ⟨i2,q2⟩ ⟨hi2,hsm2,hsz2⟩ ih
   simp only at hi2 hsm2 hsz2
   by_cases hlt:i2 < al.length
   · obtain ⟨x,hx⟩:=C7 hlt
     have he:=CR (enc:=Al.enc) hx
     have hw1:=BU (show i2+1≤9000000000000000000 by omega)
     have hxs:=Al.KS (Ae hx)
     have hst:=Al.GU hx
     have hms:=fun hp=>UH (p:=Al.sm) hsm2 hx hp
     obtain ⟨xc,xvs,xb⟩:=x
     rw [Al.size] at hxs hst
     have hc:=ihN xb q2 (σ.AL j [.d (.int .i64 q2)]) (by omega) (by omega) (by rw [AO,if_pos rfl])
     have hnv:=fun σ=>UG xvs σ
     obtain ⟨xo,xn,xu,xns,xks,xal⟩:=xb
     simp only [exA,Al.A2,Ex.A2,AF,AI] at he hc
     by_cases hc40:40 < xc.length
     · (repeat' (first|refine Run.ct rfl ?_|((first|refine Run.reg mixed ?_|refine Run.AJ ?_|(refine Run.Ad Dz (AM.le_refl _) ?_)|(refine AQ rfl (fun h=>?_) (fun h=>?_)<;>try (cases h;done)))<;>try simp -implicitDefEqProofs only [BZ hlt,he,aD,decide_eq_true hc40,AG,go_sem])|(refine ⟨fun h=>?_,fun h=>?_⟩<;>first|(cases h;done)|try simp only [h])|fail))
       exact hno _
     cases hvk:(decide (xvs.length≤10)&&Yt xvs) with
     |false=>
      rw [hvk] at hnv
      (repeat' (first|refine Run.ct rfl ?_|((first|refine Run.reg mixed ?_|refine Run.AJ ?_|(refine Run.Ad Dz (AM.le_refl _) ?_)|refine AH.det (hnv _) ?_|(refine AQ rfl (fun h=>?_) (fun h=>?_)<;>try (cases h;done)))<;>try simp -implicitDefEqProofs only [BZ hlt,he,aD,decide_eq_false hc40,AG,go_sem])|(refine ⟨fun h=>?_,fun h=>?_⟩<;>first|(cases h;done)|try simp only [h])|fail))
      exact hno _
     |true=>
     rw [hvk] at hnv
     (repeat' (first|refine Run.ct rfl ?_|((first|refine Run.reg mixed ?_|refine Run.AJ ?_|(refine AH.mk rfl hc ?_;rintro v σ' ⟨b,z,⟨rfl,rfl⟩,hres⟩;cases b<;>rw [A4])|(refine Run.Ad Dz (AM.le_refl _) ?_)|refine AH.det (hnv _) ?_|(refine AQ rfl (fun h=>?_) (fun h=>?_)<;>try (cases h;done)))<;>try simp -implicitDefEqProofs only [BZ hlt,he,hw1,aD,decide_eq_false hc40,AG,go_sem])|(refine ⟨fun h=>?_,fun h=>?_⟩<;>first|(cases h;done)|try simp only [h])|fail))
     · exact hno z
     · obtain ⟨g1,q3,rfl,g2⟩:=hres rfl
       exact ih (i2+1,q3) ⟨by simp only;omega,hms (by rw [Al.sm];exact ⟨by omega,uK hvk,g1⟩),by simp only;omega⟩ (by simp only;omega)
   · rw [A8 (by omega)] at hsm2 hsz2
     (repeat' (first|refine Run.ct rfl ?_|((first|refine Run.reg mixed ?_|refine Run.AJ ?_|(refine Run.Ad Dz (AM.le_refl _) ?_)|(refine AQ rfl (fun h=>?_) (fun h=>?_)<;>try (cases h;done)))<;>try simp -implicitDefEqProofs only [FD hlt,AG,go_sem])|(refine ⟨fun h=>?_,fun h=>?_⟩<;>first|(cases h;done)|try simp only [h])|fail))
     exact hyes q2 (by omega) (uK hnk) hsm hsm2 (by omega)
end Go.Ab
namespace Go.Ab
open Go.Proofs
def CE.sm (c:CE):Prop:=c.name.length≤40∧c.args.length≤10∧∀t∈c.args,t.sm∧t.size≤200
def DE.sm (d:DE):Prop:=d.name.length≤40∧qS d.vars∧d.cons.length≤10∧∀c∈d.cons,c.sm
def FE.sm (f:FE):Prop:=f.name.length≤40∧qS f.params∧f.body.sm∧f.body.size≤200
def Pg.sm (p:Pg):Prop:=(p.data.length≤14∧∀d∈p.data,d.sm)∧p.Rx.length≤26∧∀f∈p.Rx,f.sm
end Go.Ab
namespace Go.Ab
open Go.Proofs
end Go.Ab
namespace Go.Ab
open Go.Proofs
theorem XPv.cat {K:CV} {F:Fm} {L:Lm} {σ:AM} {d:Nat} {a b:List UInt8} (h:a.length+b.length≤100000000000000) (hk:K (put d (.d (.str (a++b))) F) L σ):XPv (aX .add a b) (some d) K F L σ:=by
 rw [DB h];exact hk
theorem Wh (n:Nat):((n:Int).tmod 10)=((n % 10:Nat):Int):=by rw [Int.tmod_eq_emod_of_nonneg (by omega)];omega
theorem Wg (n:Nat):((n:Int).tdiv 10)=((n / 10:Nat):Int):=by rw [Int.tdiv_eq_ediv_of_nonneg (by omega)];omega
theorem fV (n:Nat):IntKind.i64.wrap (48+((n % 10:Nat):Int))=((48+n % 10:Nat):Int):=by rw [BF (by omega) (by omega)];omega
theorem jF {n:Nat} (h:n < 256):IntKind.u8.wrap (n:Int)=(n:Int):=by
 unfold IntKind.wrap
 simp only [IntKind.signed,IntKind.bits]
 simp
 omega
theorem bK {n:Nat} (h:n < 256):bytesOf [[.int .u8 (n:Int)]]=some [I2 n]:=by
 have h1:(0:Int)≤(n:Int)∧(n:Int) < 256:=by omega
 simp [bytesOf,byteOf,h1]
def ZB (m:Nat):List UInt8:=if m=0 then [] else Lib.decDigits m
theorem bR (n:Nat):Lib.decDigits n=ZB (n / 10)++[I2 (48+n % 10)]:=by
 unfold ZB
 rw [Lib.decDigits]
 split
 · rename_i h
   rw [if_pos (by omega),Nat.mod_eq_of_lt h];rfl
 · rename_i h
   rw [if_neg (by omega)]
theorem lQ {n:Nat} (h:0 < n):ZB n=ZB (n / 10)++[I2 (48+n % 10)]:=by
 rw [← bR,ZB,if_neg (by omega)]
theorem cM (n:Nat) (σ:AM) (hn:n≤1000000000000):AP Tryz.prog 97 [.d (.int .i64 n)] σ (fun v σ'=>v= .d (.str (Lib.decDigits n))∧σ'=σ):=by
 refine Wm (by simp) ?_
 rw [Av]
 have h10:((10:Int)=0)=False:=by simp
 have hneg:decide ((n:Int) < 0)=false:=by simp
 have hlen:(Lib.decDigits n).length≤21:=by
  rw [← Lib.itoa_nonneg];exact Lib.itoa_length_le _ (by omega) (by omega)
 have hw10:∀m:Nat,m≤n→IntKind.i64.wrap ((m / 10:Nat):Int)=((m / 10:Nat):Int):=fun m hm=>BF (by omega) (by omega)
 (repeat' (first|refine Run.ct rfl ?_|((first|refine Run.reg mixed ?_|refine Run.AJ ?_|(refine AQ rfl (fun h=>?_) (fun h=>?_)<;>try (cases h;done)))<;>try simp -implicitDefEqProofs only [hneg,h10,Wh,fV,jF (show 48+n % 10 < 256 by omega),bK (show 48+n % 10 < 256 by omega),Wg,hw10 n (A9 n),go_sem])|(refine ⟨fun h=>?_,fun h=>?_⟩<;>first|(cases h;done)|try simp only [h])|fail))
 refine Run.Ba ?_
 refine Run.Bd (fun (y:Nat×List UInt8)=>put 0 (.d (.int .i64 y.1)) (put 3 (.d (.str y.2)) U)) (fun _=>E) (fun _=>σ) (fun y=>y.1≤n∧Lib.decDigits n=ZB y.1++y.2) (fun y=>y.1) ?_ (n / 10,[I2 (48+n % 10)]) ⟨by simp only;omega,bR n⟩
 rintro ⟨m,s⟩ ⟨hm,hs⟩ ih
 simp only at hm hs
 have hsl:s.length≤21:=by
  have:=congrArg Kd hs
  rw [AA] at this;omega
 by_cases h0:0 < m
 · have hd:decide ((0:Int) < (m:Int))=true:=by simpa using h0
   (repeat' (first|refine Run.ct rfl ?_|((first|refine Run.reg mixed ?_|refine Run.AJ ?_|(refine XPv.cat (by (try simp only [AA,AB,AE]);omega) ?_)|(refine AQ rfl (fun h=>?_) (fun h=>?_)<;>try (cases h;done)))<;>try simp -implicitDefEqProofs only [hd,h10,Wh,fV,jF (show 48+m % 10 < 256 by omega),bK (show 48+m % 10 < 256 by omega),Wg,hw10 m hm,go_sem])|(refine ⟨fun h=>?_,fun h=>?_⟩<;>first|(cases h;done)|try simp only [h])|fail))
   refine ih (m / 10,_) ⟨by simp only;omega,?_⟩ (by simp only;omega)
   simp only
   rw [hs,lQ h0];simp
 · have hd:decide ((0:Int) < (m:Int))=false:=by simp;omega
   (repeat' (first|refine Run.ct rfl ?_|((first|refine Run.reg mixed ?_|refine Run.AJ ?_|refine Run.Ad Ry (AM.le_refl _) ?_|(refine AQ rfl (fun h=>?_) (fun h=>?_)<;>try (cases h;done)))<;>try simp -implicitDefEqProofs only [hd,go_sem])|(refine ⟨fun h=>?_,fun h=>?_⟩<;>first|(cases h;done)|try simp only [h])|fail))
   have:m=0:=by omega
   subst this
   simpa [ZB] using hs.symm
theorem V9 (u:Int) (σ:AM) (h0: -1000000≤u) (h1:u≤1000000):AP Tryz.prog 97 [.d (.int .i64 u)] σ (fun v σ'=>v= .d (.str (Lib.itoa u))∧σ'=σ):=by
 by_cases hn:u < 0
 · have hi:Lib.itoa u=[45]++Lib.decDigits u.natAbs:=by unfold Lib.itoa;rw [if_pos hn];rfl
   have hl:(Lib.itoa u).length≤21:=Lib.itoa_length_le _ (by omega) (by omega)
   have hc:=cM u.natAbs σ (by omega)
   have hw:IntKind.i64.wrap (0 - u)=((u.natAbs:Nat):Int):=by
    have e:0 - u=((u.natAbs:Nat):Int):=by omega
    rw [e,BF (by omega) (by omega)]
   refine Wm (by simp) ?_
   rw [Av]
   rw [hi] at hl ⊢
   have ha:=DB (a:=[45]) (b:=Lib.decDigits u.natAbs) (by rw [AA] at hl;omega)
   (repeat' (first|refine Run.ct rfl ?_|((first|refine Run.reg mixed ?_|refine Run.AJ ?_|refine Run.Ad Ry (AM.le_refl _) ?_|refine AH.det (hc) ?_|(refine AQ rfl (fun h=>?_) (fun h=>?_)<;>try (cases h;done)))<;>try simp -implicitDefEqProofs only [decide_eq_true hn,hw,ha,go_sem])|(refine ⟨fun h=>?_,fun h=>?_⟩<;>first|(cases h;done)|try simp only [h])|fail))
 · obtain ⟨m,rfl⟩:∃m:Nat,u=m:=⟨u.toNat,by omega⟩
   have hi:Lib.itoa (m:Int)=Lib.decDigits m:=by unfold Lib.itoa;rw [if_neg hn];rfl
   rw [hi]
   exact cM m σ (by omega)
theorem S9 (s:Str) (σ:AM):AP Tryz.prog 98 [.d (.str s)] σ (fun v σ'=>v= .d (.str (shown s))∧σ'=σ):=by
 refine kT (by simp) ?_
 rw [Av]
 by_cases hs:s=[]
 · subst hs
   (repeat' (first|refine Run.ct rfl ?_|((first|refine Run.reg mixed ?_|refine Run.AJ ?_|refine Run.Ad U4 (AM.le_refl _) ?_|(refine AQ rfl (fun h=>?_) (fun h=>?_)<;>try (cases h;done)))<;>try simp -implicitDefEqProofs only [EB,go_sem])|(refine ⟨fun h=>?_,fun h=>?_⟩<;>first|(cases h;done)|try simp only [h])|fail))
   all_goals rfl
 · rw [shown,if_neg hs]
   have he:(s==([]:List UInt8))=false:=by cases s with|nil=>exact absurd rfl hs|cons a l=>rfl
   (repeat' (first|refine Run.ct rfl ?_|((first|refine Run.reg mixed ?_|refine Run.AJ ?_|refine Run.Ad U4 (AM.le_refl _) ?_|(refine AQ rfl (fun h=>?_) (fun h=>?_)<;>try (cases h;done)))<;>try simp -implicitDefEqProofs only [EB,he,go_sem])|(refine ⟨fun h=>?_,fun h=>?_⟩<;>first|(cases h;done)|try simp only [h])|fail))
end Go.Ab
