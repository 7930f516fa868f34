/- Parse of the program. The sanity check of the laws of syntax. The guards on programs: Names, written, expr. The guards on programs: Prog. The law on sizes: SyntaxLimits, over abstract values. Equality of trees, the reference's. Equality of expressions, the reference's. Conditions: none. -/
import Derived.Test.YtifplkldbbcldaaGreatDoorXWe2
set_option linter.unusedSimpArgs false
set_option linter.unusedVariables false
set_option maxRecDepth 4000
set_option maxHeartbeats 8000000
open List renaming map_cons→AF,map_nil→AI,take_of_length_le→Ad,length_map→AE,mem_of_getElem?→Ae
open Nat renaming le_trans→Ay
open Bool renaming false_eq_true→AU
open Int renaming reduceBEq→A3
open Classical renaming propDecidable→XD
open Option.some renaming inj→Gj
namespace Go.Ab
open Go.Proofs
def eE (r:Pg×Nat×Int):AV:= .tup [pgA r.1,.d (.int .i64 ((r.2.1:Nat):Int)),.d (.int .i64 r.2.2)]
theorem ABB (L:List Tok):[AV.d (.sl (L.map Tok.enc)),.d (.int .i64 0),.d (.bool false),.d (.int .i64 0)]=psA L ⟨L,false,0⟩:=by
 unfold psA Ym;simp
theorem uP {σ:AN} {j:Nat} (h:σ.blk j=none) (cs:List AV):σ.le (σ.AM j cs):=Wv (AN.le_refl σ) h cs
theorem II (src:Str) (σ:AN) (g0:WV σ):AQ Tryz.prog 12 [.d (.str src)] σ (fun v σ'=>v=eE (C8 src)∧σ'=σ):=by
 refine Xn (by simp) ?_
 rw [BE]
 have hsp:=SR src σ
 by_cases he:(Am src).2.2=0
 · obtain ⟨hw,ho⟩:=PI he
   have hN:=oE he
   have hne:((Am src).2.2 != 0)=false:=by rw [he];rfl
   rw [Mv he]
   have hprog:=fun (j:Nat) (hj:σ.blk j=none)=>iX j hN (σ.AM j (psA (Am src).1 ⟨(Am src).1,false,0⟩)) ⟨(Am src).1,false,0⟩ g0 ⟨hw,List.suffix_refl _,ho.1⟩ (by have:=FL;have:=ho.1;simp only;omega) (by rw [AO,if_pos rfl])
   have hsm:=WQ (p:=0) hw ho.1
   simp only [Hc] at hsp
   generalize (Am src).1=L at hsp hw ho hN hprog hsm ⊢
   generalize (Am src).2.1=pos at hsp ⊢
   rw [he] at hsp
   generalize HL.run ⟨L,false,0⟩=y at hprog hsm ⊢
   obtain ⟨p,s1⟩:=y
   simp only at hprog hsm
   simp only [A2] at hprog
   obtain ⟨ds,fs⟩:=p
   simp only [pgA,Pg.enc,AF,AI] at hprog
   have h00:((0:Int) != 0)=false:=rfl
   (repeat' (first|refine Run.ct rfl ?_|((first|refine Run.reg mixed ?_|refine Run.AJ ?_|refine AH.det (hsp) ?_|(refine AR rfl (fun h=>?_) (fun h=>?_)<;>try (cases h;done)))<;>try simp -implicitDefEqProofs only [h00,go_sem])|(refine ⟨fun h=>?_,fun h=>?_⟩<;>first|(cases h;done)|try simp only [h])|fail))
   intro j hj
   have hle:=uP hj (psA L s1)
   have hb:(σ.AM j (psA L s1)).blk j=some (psA L s1):=by rw [AO,if_pos rfl]
   have hst:psA L s1=[.d (Ym L),.d (.int .i64 ((L.length - s1.r.length:Nat):Int)),.d (.bool s1.f),.d (.int .i64 ((s1.p:Nat):Int))]:=rfl
   rw [ABB]
   cases hf:s1.f with
   |true=>
    rw [hf] at hst
    have hfin:Xc (⟨ds,fs⟩,s1)=(⟨[],[]⟩,s1.p,2):=if_pos hf
    rw [hfin]
    simp only [eE,pgA,Pg.enc,AF,AI]
    (repeat' (first|refine Run.ct rfl ?_|((first|refine Run.reg mixed ?_|refine Run.AJ ?_|(refine AH.upd (hprog j hj) ?_)|(refine AR rfl (fun h=>?_) (fun h=>?_)<;>try (cases h;done)))<;>try simp -implicitDefEqProofs only [hst,hf,go_sem])|(refine ⟨fun h=>?_,fun h=>?_⟩<;>first|(cases h;done)|try simp only [h])|fail))
    rw [← hst]
    refine Run.SD mixed ?_;simp -implicitDefEqProofs only [hst,hf,go_sem]
    rw [← hst]
    (repeat' (first|refine Run.ct rfl ?_|((first|refine Run.reg mixed ?_|refine Run.AJ ?_|(refine Run.A9 Gy hle ?_)|(refine AR rfl (fun h=>?_) (fun h=>?_)<;>try (cases h;done)))<;>try simp -implicitDefEqProofs only [go_sem])|(refine ⟨fun h=>?_,fun h=>?_⟩<;>first|(cases h;done)|try simp only [h])|fail))
   |false=>
    rw [hf] at hst
    have hV:=Q2 ⟨ds,fs⟩ (σ.AM j (psA L s1)) (fun d hd c hc t ht=>Ay (hsm hf d hd c hc t ht) (by omega))
    simp only [pgA,Pg.enc,AF,AI] at hV
    have hfin:Xc (⟨ds,fs⟩,s1)=if CW ⟨ds,fs⟩ then (⟨ds,fs⟩,0,0) else (⟨[],[]⟩,0,9):=if_neg (by rw [hf];decide)
    rw [hfin]
    cases hv:CW ⟨ds,fs⟩ with
    |true=>
     rw [hv] at hV
     simp only [if_true,eE,pgA,Pg.enc,AF,AI]
     (repeat' (first|refine Run.ct rfl ?_|((first|refine Run.reg mixed ?_|refine Run.AJ ?_|(refine AH.upd (hprog j hj) ?_)|(refine AR rfl (fun h=>?_) (fun h=>?_)<;>try (cases h;done)))<;>try simp -implicitDefEqProofs only [hst,hf,go_sem])|(refine ⟨fun h=>?_,fun h=>?_⟩<;>first|(cases h;done)|try simp only [h])|fail))
     rw [← hst]
     (repeat' (first|refine Run.ct rfl ?_|((first|refine Run.reg mixed ?_|refine Run.AJ ?_|(refine Run.A9 Gy hle ?_)|refine AH.det (hV) ?_|(refine AR rfl (fun h=>?_) (fun h=>?_)<;>try (cases h;done)))<;>try simp -implicitDefEqProofs only [hf,go_sem])|(refine ⟨fun h=>?_,fun h=>?_⟩<;>first|(cases h;done)|try simp only [h])|fail))
     rfl
    |false=>
     rw [hv] at hV
     simp only [if_false,AU,eE,pgA,Pg.enc,AF,AI]
     (repeat' (first|refine Run.ct rfl ?_|((first|refine Run.reg mixed ?_|refine Run.AJ ?_|(refine AH.upd (hprog j hj) ?_)|(refine AR rfl (fun h=>?_) (fun h=>?_)<;>try (cases h;done)))<;>try simp -implicitDefEqProofs only [hst,hf,go_sem])|(refine ⟨fun h=>?_,fun h=>?_⟩<;>first|(cases h;done)|try simp only [h])|fail))
     rw [← hst]
     (repeat' (first|refine Run.ct rfl ?_|((first|refine Run.reg mixed ?_|refine Run.AJ ?_|(refine Run.A9 Gy hle ?_)|refine AH.det (hV) ?_|(refine AR rfl (fun h=>?_) (fun h=>?_)<;>try (cases h;done)))<;>try simp -implicitDefEqProofs only [hf,go_sem])|(refine ⟨fun h=>?_,fun h=>?_⟩<;>first|(cases h;done)|try simp only [h])|fail))
     rfl
 · have hne:((Am src).2.2 != 0)=true:=by simpa using he
   have hp:C8 src=(⟨[],[]⟩,(Am src).2.1,(Am src).2.2):=if_pos he
   rw [hp]
   simp only [Hc] at hsp
   simp only [eE,pgA,Pg.enc,AF,AI]
   (repeat' (first|refine Run.ct rfl ?_|((first|refine Run.reg mixed ?_|refine Run.AJ ?_|refine Run.A9 Gy (AN.le_refl _) ?_|refine AH.det (hsp) ?_|(refine AR rfl (fun h=>?_) (fun h=>?_)<;>try (cases h;done)))<;>try simp -implicitDefEqProofs only [hne,go_sem])|(refine ⟨fun h=>?_,fun h=>?_⟩<;>first|(cases h;done)|try simp only [h])|fail))
end Go.Ab
namespace Go.Ab
open Go.Proofs
def Zb:Str:=[102,117,110,32,102,40,120,41,61,105,102,32,120,60,61,48,32,116,104,101,110,40,41,32,101,108,115,101,32,102,40,120,45,49,41,59]
def o9:Str:=[102,117,110,32,102,40,120,41,32,61,32,105,102,32,120,32,60,61,32,48,32,116,104,101,110,32,40,41,32,101,108,115,101,32,102,40,120,32,45,32,49,41,59,10]
def nmE (s:Str):Ex:= .mk 4 s 0 [] [] []
def awE:Ex:= .mk 9 [] 0 [] [.mk 13 [] 7 [] [nmE [120],.mk 3 [] 0 [] [] []] [],.mk 1 [] 0 [] [] [],.mk 12 [] 0 [] [nmE [102],.mk 13 [] 2 [] [nmE [120],.mk 3 [] 1 [] [] []] []] []] []
def awQ:Pg:=⟨[],[⟨[102],[[120]],awE⟩]⟩
theorem kH:Lib.itoa 0=[48]∧Lib.itoa 1=[49]:=by
 constructor<;>simp [Lib.itoa,Lib.decDigits]
theorem aS:ZL awQ=o9:=by
 have h0:=kH.1
 have h1:=kH.2
 have e1:BA (.mk 3 [] 0 [] [] [])=[48]:=by rw [← h0];rfl
 have e2:BA (.mk 3 [] 1 [] [] [])=[49]:=by rw [← h1];rfl
 have e3:BA (.mk 13 [] 7 [] [nmE [120],.mk 3 [] 0 [] [] []] [])=[120,32,60,61,32]++BA (.mk 3 [] 0 [] [] []):=rfl
 have e4:BA (.mk 13 [] 2 [] [nmE [120],.mk 3 [] 1 [] [] []] [])=[120,32,45,32]++BA (.mk 3 [] 1 [] [] []):=rfl
 have e6:BA (.mk 12 [] 0 [] [nmE [102],.mk 13 [] 2 [] [nmE [120],.mk 3 [] 1 [] [] []] []] [])=[102,40]++(Lib.join [BA (.mk 13 [] 2 [] [nmE [120],.mk 3 [] 1 [] [] []] [])] [44,32]++[41]):=rfl
 have e7:BA awE=[105,102,32]++(BA (.mk 13 [] 7 [] [nmE [120],.mk 3 [] 0 [] [] []] [])++([32,116,104,101,110,32]++([40,41]++([32,101,108,115,101,32]++BA (.mk 12 [] 0 [] [nmE [102],.mk 13 [] 2 [] [nmE [120],.mk 3 [] 1 [] [] []] []] []))))):=rfl
 have e8:ZL awQ=(([102,117,110,32]++([102]++(Ij [[120]]++([32,61,32]++(BA awE++[59,10])))))++[]):=rfl
 have e9:Ij [[120]]=[40,120,41]:=by decide
 rw [e8,e7,e6,Lib.join_one,e3,e4,e1,e2,e9];rfl
theorem Za:CW awQ=true:=by decide+kernel
theorem lS:(Am Zb).2.2=0∧(Am o9).2.2=0∧strip (Am Zb).1=strip (Am o9).1:=by decide+kernel
theorem lR:(C8 Zb).1=awQ∧(C8 Zb).2.2=0:=by
 obtain ⟨h1,h2,h3⟩:=lS
 have hb:=iO Za (by rw [aS];decide)
 rw [aS] at hb
 have hp:=eF h1 h2 h3
 rw [hb] at hp
 exact hp
theorem Ru (σ:AN) (hg:WV σ) (hp:σ.gt Qq=some Sz):AQ Tryz.prog 15 [] σ (fun v σ'=>v= .d (.bool true)∧σ'=σ):=by
 have hpa:=II Zb σ hg
 have hfm:=Vp awQ σ hp (fun d hd=>by cases hd)
 rw [Za,if_pos rfl,aS] at hfm
 obtain ⟨h1,h2⟩:=lR
 generalize C8 Zb=r at hpa h1 h2
 obtain ⟨q,at',code⟩:=r
 simp only at h1 h2
 subst h1 h2
 simp only [eE,pgA,Pg.enc,AF,AI] at hpa hfm
 refine ZM (by simp) ?_
 rw [show Aq []=U from by funext s;simp [Aq,U]]
 (repeat' (first|refine Run.ct rfl ?_|((first|refine Run.reg mixed ?_|refine Run.AJ ?_|refine Run.A9 T4 (AN.le_refl _) ?_|refine AH.det (hpa) ?_|refine AH.det (hfm) ?_|(refine AR rfl (fun h=>?_) (fun h=>?_)<;>try (cases h;done)))<;>try simp -implicitDefEqProofs only [A3,go_sem])|(refine ⟨fun h=>?_,fun h=>?_⟩<;>first|(cases h;done)|try simp only [h])|fail))
 exact ⟨rfl,rfl⟩
end Go.Ab
namespace Go.Ab
open Go.Proofs
end Go.Ab
namespace Go.Ab
open Go.Proofs
end Go.Ab
namespace Go.Ab
open Go.Proofs
end Go.Ab
namespace Go.Ab
open Go.Proofs
noncomputable def eqB {α:Type} (a b:α):Bool:=@decide (a=b) (XD _)
theorem pU {α:Type} {a b:α} (h:a=b):eqB a b=true:=@decide_eq_true _ (XD _) h
theorem Dr {α:Type} {a b:α} (h:a≠b):eqB a b=false:=@decide_eq_false _ (XD _) h
theorem QV {α:Type} (a:α):eqB a a=true:=pU rfl
theorem Rw {α:Type} {l m:List α} (h:l.length≠m.length):l≠m:=fun e=>h (by rw [e])
theorem Vv {α:Type} {l m:List α} {i:Nat} {x y:α} (hx:l[i]?=some x) (hy:m[i]?=some y) (h:x≠y):l≠m:=fun e=>h (by rw [e,hy] at hx;exact (Gj hx).symm)
theorem Ib {α:Type} {l m:List α} {i:Nat} {x:α} (h:l.take i=m.take i) (hx:l[i]?=some x) (hy:m[i]?=some x):l.take (i+1)=m.take (i+1):=by rw [MX hx,MX hy,h]
theorem LN {α:Type} {l m:List α} {i:Nat} (h:l.take i=m.take i) (hl:l.length=m.length) (hi:¬i < l.length):l=m:=by
 rwa [Ad (by omega),Ad (by omega)] at h
theorem y4 {a b:Nat} (h:a≠b):((a:Int)==(b:Int))=false:=Cb (by omega)
theorem Rv {a b:Nat} (h:a≠b):((a:Int) != (b:Int))=true:=by rw [bne,y4 h];rfl
theorem Xt {a b:Int} (h:a≠b):(a != b)=true:=by rw [bne,Cb h];rfl
theorem Vn {a b:List UInt8} (h:¬a=b):(a==b)=false:=by simpa using h
theorem zO {a b:Str} (h:a≠b):(a==b)=false:=by simpa using h
theorem MU (l m:List Str) (σ:AN):AQ Tryz.prog 36 [.d (.sl (l.map D3)),.d (.sl (m.map D3))] σ (fun v σ'=>v= .d (.bool (eqB l m))∧σ'=σ):=by
 refine Xm (by simp) ?_
 rw [BI]
 refine Run.slot 0 (fun hb0=>?_)
 have hb0:l.length≤9223372036854775807:=by simpa [HX,AV.FA] using hb0
 by_cases hl:l.length=m.length
 · (repeat' (first|refine Run.ct rfl ?_|((first|refine Run.reg mixed ?_|refine Run.AJ ?_|(refine AR rfl (fun h=>?_) (fun h=>?_)<;>try (cases h;done)))<;>try simp -implicitDefEqProofs only [AE,hl,beq_self_eq_true,bne_self_eq_false,BO,go_sem])|(refine ⟨fun h=>?_,fun h=>?_⟩<;>first|(cases h;done)|try simp only [h])|fail))
   refine Run.Be ?_
   refine Run.Bn ((fun (a0:AV) (a1:AV)=>fun (i:Nat)=>put 0 a0 (put 1 a1 (put 5 (.d (.int .i64 i)) U))) _ _) (fun _=>E) (fun _=>σ) (fun i=>i≤l.length∧l.take i=m.take i) (fun i=>l.length - i) ?_ 0 ⟨by simp,by simp⟩
   rintro i ⟨hi,ht⟩ ih
   by_cases hlt:i < l.length
   · obtain ⟨x,hx⟩:=Bw hlt
     obtain ⟨y,hy⟩:=Bw (show i < m.length by omega)
     have he:=Bh (enc:=D3) hx
     have he':=Bh (enc:=D3) hy
     simp only [D3] at he he'
     have hw1:IntKind.i64.wrap ((i:Int)+1)=((i+1:Nat):Int):=by rw [Ax (by omega) (by omega)];omega
     by_cases hxy:x=y
     · subst hxy
       (repeat' (first|refine Run.ct rfl ?_|((first|refine Run.reg mixed ?_|refine Run.AJ ?_|(refine AR rfl (fun h=>?_) (fun h=>?_)<;>try (cases h;done)))<;>try simp -implicitDefEqProofs only [BX hlt,he,he',hw1,beq_self_eq_true,bne_self_eq_false,BO,AE,go_sem])|(refine ⟨fun h=>?_,fun h=>?_⟩<;>first|(cases h;done)|try simp only [h])|fail))
       exact ih (i+1) ⟨by omega,Ib ht hx hy⟩ (by omega)
     · rw [Dr (Vv hx hy hxy)]
       (repeat' (first|refine Run.ct rfl ?_|((first|refine Run.reg mixed ?_|refine Run.AJ ?_|refine Run.A9 JE (AN.le_refl _) ?_|(refine AR rfl (fun h=>?_) (fun h=>?_)<;>try (cases h;done)))<;>try simp -implicitDefEqProofs only [BX hlt,he,he',zO hxy,BO,AE,go_sem])|(refine ⟨fun h=>?_,fun h=>?_⟩<;>first|(cases h;done)|try simp only [h])|fail))
   · rw [pU (LN ht hl hlt)]
     (repeat' (first|refine Run.ct rfl ?_|((first|refine Run.reg mixed ?_|refine Run.AJ ?_|refine Run.A9 JE (AN.le_refl _) ?_|(refine AR rfl (fun h=>?_) (fun h=>?_)<;>try (cases h;done)))<;>try simp -implicitDefEqProofs only [F2 hlt,AE,go_sem])|(refine ⟨fun h=>?_,fun h=>?_⟩<;>first|(cases h;done)|try simp only [h])|fail))
 · rw [Dr (Rw hl)]
   (repeat' (first|refine Run.ct rfl ?_|((first|refine Run.reg mixed ?_|refine Run.AJ ?_|refine Run.A9 JE (AN.le_refl _) ?_|(refine AR rfl (fun h=>?_) (fun h=>?_)<;>try (cases h;done)))<;>try simp -implicitDefEqProofs only [AE,Rv hl,go_sem])|(refine ⟨fun h=>?_,fun h=>?_⟩<;>first|(cases h;done)|try simp only [h])|fail))
theorem Vu:∀(N:Nat) (t u:TE),t.size≤N→∀σ,AQ Tryz.prog 37 [teA t,teA u] σ (fun v σ'=>v= .d (.bool (eqB t u))∧σ'=σ)
 |0,t,u,h,_=>by have:=TE.size_pos t;omega
 |N+1,.mk k n l,.mk k' n' m,h,σ=>by
  rw [TE.size] at h
  have ihN:=fun x hx u=>Vu N x u (by have:=TE.Rx (l:=l) (t:=x) hx;omega) σ
  refine ZO (by simp) ?_
  rw [BI]
  simp only [teA,TE.A0,AF,AI]
  by_cases hk:k=k'
  · subst hk
    by_cases hn:n=n'
    · subst hn
      by_cases hl:l.length=m.length
      · (repeat' (first|refine Run.ct rfl ?_|((first|refine Run.reg mixed ?_|refine Run.AJ ?_|(refine AR rfl (fun h=>?_) (fun h=>?_)<;>try (cases h;done)))<;>try simp -implicitDefEqProofs only [AE,hl,beq_self_eq_true,bne_self_eq_false,BO,go_sem])|(refine ⟨fun h=>?_,fun h=>?_⟩<;>first|(cases h;done)|try simp only [h])|fail))
        refine Run.cell 2 2 rfl rfl (fun hb0=>?_)
        have hb0:l.length≤9223372036854775807:=by simpa [AV.FA] using hb0
        refine Run.Be ?_
        refine Run.Bn ((fun (a2:AV) (a3:AV)=>fun (i:Nat)=>put 2 a2 (put 3 a3 (put 5 (.d (.int .i64 i)) U))) _ _) (fun _=>B0 2 [.d (.int .i64 k),.d (.str n),.d (.sl (l.map TE.enc))] (B0 3 [.d (.int .i64 k),.d (.str n),.d (.sl (m.map TE.enc))] E)) (fun _=>σ) (fun i=>i≤l.length∧l.take i=m.take i) (fun i=>l.length - i) ?_ 0 ⟨by simp,by simp⟩
        rintro i ⟨hi,ht⟩ ih
        by_cases hlt:i < l.length
        · obtain ⟨x,hx⟩:=Bw hlt
          obtain ⟨y,hy⟩:=Bw (show i < m.length by omega)
          have he:=Bh (enc:=TE.enc) hx
          have he':=Bh (enc:=TE.enc) hy
          have hw1:IntKind.i64.wrap ((i:Int)+1)=((i+1:Nat):Int):=by rw [Ax (by omega) (by omega)];omega
          have hc:=ihN x (Ae hx) y
          by_cases hxy:x=y
          · subst hxy
            rw [QV] at hc
            obtain ⟨k0,n0,l0⟩:=x
            simp only [teA,TE.A0,AF,AI] at he he' hc
            (repeat' (first|refine Run.ct rfl ?_|((first|refine Run.reg mixed ?_|refine Run.AJ ?_|refine AH.det (hc) ?_|(refine AR rfl (fun h=>?_) (fun h=>?_)<;>try (cases h;done)))<;>try simp -implicitDefEqProofs only [BX hlt,he,he',hw1,AE,go_sem])|(refine ⟨fun h=>?_,fun h=>?_⟩<;>first|(cases h;done)|try simp only [h])|fail))
            exact ih (i+1) ⟨by omega,Ib ht hx hy⟩ (by omega)
          · rw [Dr (show TE.mk k n l≠TE.mk k n m from fun e=>Vv hx hy hxy (by injection e))]
            rw [Dr hxy] at hc
            obtain ⟨k0,n0,l0⟩:=x
            obtain ⟨k1,n1,l1⟩:=y
            simp only [teA,TE.A0,AF,AI] at he he' hc
            (repeat' (first|refine Run.ct rfl ?_|((first|refine Run.reg mixed ?_|refine Run.AJ ?_|refine Run.A9 G1 (AN.le_refl _) ?_|refine AH.det (hc) ?_|(refine AR rfl (fun h=>?_) (fun h=>?_)<;>try (cases h;done)))<;>try simp -implicitDefEqProofs only [BX hlt,he,he',AE,go_sem])|(refine ⟨fun h=>?_,fun h=>?_⟩<;>first|(cases h;done)|try simp only [h])|fail))
        · rw [pU (show TE.mk k n l=TE.mk k n m by rw [LN ht hl hlt])]
          (repeat' (first|refine Run.ct rfl ?_|((first|refine Run.reg mixed ?_|refine Run.AJ ?_|refine Run.A9 G1 (AN.le_refl _) ?_|(refine AR rfl (fun h=>?_) (fun h=>?_)<;>try (cases h;done)))<;>try simp -implicitDefEqProofs only [F2 hlt,AE,go_sem])|(refine ⟨fun h=>?_,fun h=>?_⟩<;>first|(cases h;done)|try simp only [h])|fail))
      · rw [Dr (show TE.mk k n l≠TE.mk k n m from fun e=>Rw hl (by injection e))]
        (repeat' (first|refine Run.ct rfl ?_|((first|refine Run.reg mixed ?_|refine Run.AJ ?_|refine Run.A9 G1 (AN.le_refl _) ?_|(refine AR rfl (fun h=>?_) (fun h=>?_)<;>try (cases h;done)))<;>try simp -implicitDefEqProofs only [AE,Rv hl,beq_self_eq_true,bne_self_eq_false,BO,go_sem])|(refine ⟨fun h=>?_,fun h=>?_⟩<;>first|(cases h;done)|try simp only [h])|fail))
    · rw [Dr (show TE.mk k n l≠TE.mk k n' m from fun e=>hn (by injection e))]
      (repeat' (first|refine Run.ct rfl ?_|((first|refine Run.reg mixed ?_|refine Run.AJ ?_|refine Run.A9 G1 (AN.le_refl _) ?_|(refine AR rfl (fun h=>?_) (fun h=>?_)<;>try (cases h;done)))<;>try simp -implicitDefEqProofs only [Vn hn,BO,beq_self_eq_true,bne_self_eq_false,BO,go_sem])|(refine ⟨fun h=>?_,fun h=>?_⟩<;>first|(cases h;done)|try simp only [h])|fail))
  · rw [Dr (show TE.mk k n l≠TE.mk k' n' m from fun e=>hk (by injection e))]
    (repeat' (first|refine Run.ct rfl ?_|((first|refine Run.reg mixed ?_|refine Run.AJ ?_|refine Run.A9 G1 (AN.le_refl _) ?_|(refine AR rfl (fun h=>?_) (fun h=>?_)<;>try (cases h;done)))<;>try simp -implicitDefEqProofs only [Xt hk,go_sem])|(refine ⟨fun h=>?_,fun h=>?_⟩<;>first|(cases h;done)|try simp only [h])|fail))
end Go.Ab
namespace Go.Ab
open Go.Proofs
set_option maxHeartbeats 8000000 in
theorem RP:∀(N:Nat) (t u:Ex),t.size≤N→∀σ,AQ Tryz.prog 38 [exA t,exA u] σ (fun v σ'=>v= .d (.bool (eqB t u))∧σ'=σ)
 |0,t,u,h,_=>by have:=Ex.size_pos t;omega
 |N+1,.mk o n u ns ks al,.mk o' n' u' ns' ks' al',h,σ=>by
  rw [Ex.size] at h
  have ihN:=fun x hx u=>RP N x u (by have:=Ex.Rx (l:=ks) (t:=x) hx;omega) σ
  have ihA:∀c vs b,Al.mk c vs b∈al→∀u,AQ Tryz.prog 38 [exA b,exA u] σ (fun v σ'=>v= .d (.bool (eqB b u))∧σ'=σ):=fun c vs b hx u=>RP N b u (by have:=Al.Rx (l:=al) hx;rw [Al.size] at this;omega) σ
  have hsn:=MU ns ns' σ
  refine ZN (by simp) ?_
  rw [BI]
  simp only [exA,Ex.A0,AF,AI]
  by_cases ho:o=o'
  rotate_left
  · rw [Dr (fun e=>ho (by injection e))]
    (repeat' (first|refine Run.ct rfl ?_|((first|refine Run.reg mixed ?_|refine Run.AJ ?_|refine Run.A9 C2 (AN.le_refl _) ?_|(refine AR rfl (fun h=>?_) (fun h=>?_)<;>try (cases h;done)))<;>try simp -implicitDefEqProofs only [Xt ho,go_sem])|(refine ⟨fun h=>?_,fun h=>?_⟩<;>first|(cases h;done)|try simp only [h])|fail))
  subst ho
  by_cases hn:n=n'
  rotate_left
  · rw [Dr (fun e=>hn (by injection e))]
    (repeat' (first|refine Run.ct rfl ?_|((first|refine Run.reg mixed ?_|refine Run.AJ ?_|refine Run.A9 C2 (AN.le_refl _) ?_|(refine AR rfl (fun h=>?_) (fun h=>?_)<;>try (cases h;done)))<;>try simp -implicitDefEqProofs only [Vn hn,BO,bne_self_eq_false,go_sem])|(refine ⟨fun h=>?_,fun h=>?_⟩<;>first|(cases h;done)|try simp only [h])|fail))
  subst hn
  by_cases hu:u=u'
  rotate_left
  · rw [Dr (fun e=>hu (by injection e))]
    (repeat' (first|refine Run.ct rfl ?_|((first|refine Run.reg mixed ?_|refine Run.AJ ?_|refine Run.A9 C2 (AN.le_refl _) ?_|(refine AR rfl (fun h=>?_) (fun h=>?_)<;>try (cases h;done)))<;>try simp -implicitDefEqProofs only [Xt hu,beq_self_eq_true,BO,bne_self_eq_false,go_sem])|(refine ⟨fun h=>?_,fun h=>?_⟩<;>first|(cases h;done)|try simp only [h])|fail))
  subst hu
  by_cases hs:ns=ns'
  rotate_left
  · rw [Dr hs] at hsn
    rw [Dr (fun e=>hs (by injection e))]
    (repeat' (first|refine Run.ct rfl ?_|((first|refine Run.reg mixed ?_|refine Run.AJ ?_|refine Run.A9 C2 (AN.le_refl _) ?_|refine AH.det (hsn) ?_|(refine AR rfl (fun h=>?_) (fun h=>?_)<;>try (cases h;done)))<;>try simp -implicitDefEqProofs only [beq_self_eq_true,BO,bne_self_eq_false,go_sem])|(refine ⟨fun h=>?_,fun h=>?_⟩<;>first|(cases h;done)|try simp only [h])|fail))
  subst hs
  rw [QV] at hsn
  by_cases hk:ks.length=ks'.length
  rotate_left
  · rw [Dr (fun e=>Rw hk (by injection e))]
    (repeat' (first|refine Run.ct rfl ?_|((first|refine Run.reg mixed ?_|refine Run.AJ ?_|refine Run.A9 C2 (AN.le_refl _) ?_|refine AH.det (hsn) ?_|(refine AR rfl (fun h=>?_) (fun h=>?_)<;>try (cases h;done)))<;>try simp -implicitDefEqProofs only [beq_self_eq_true,BO,bne_self_eq_false,Rv hk,AE,go_sem])|(refine ⟨fun h=>?_,fun h=>?_⟩<;>first|(cases h;done)|try simp only [h])|fail))
  by_cases ha:al.length=al'.length
  rotate_left
  · rw [Dr (fun e=>Rw ha (by injection e))]
    (repeat' (first|refine Run.ct rfl ?_|((first|refine Run.reg mixed ?_|refine Run.AJ ?_|refine Run.A9 C2 (AN.le_refl _) ?_|refine AH.det (hsn) ?_|(refine AR rfl (fun h=>?_) (fun h=>?_)<;>try (cases h;done)))<;>try simp -implicitDefEqProofs only [beq_self_eq_true,BO,bne_self_eq_false,Rv ha,AE,hk,go_sem])|(refine ⟨fun h=>?_,fun h=>?_⟩<;>first|(cases h;done)|try simp only [h])|fail))
  (repeat' (first|refine Run.ct rfl ?_|((first|refine Run.reg mixed ?_|refine Run.AJ ?_|refine AH.det (hsn) ?_|(refine AR rfl (fun h=>?_) (fun h=>?_)<;>try (cases h;done)))<;>try simp -implicitDefEqProofs only [beq_self_eq_true,BO,bne_self_eq_false,AE,hk,ha,go_sem])|(refine ⟨fun h=>?_,fun h=>?_⟩<;>first|(cases h;done)|try simp only [h])|fail))
  refine Run.cell 2 4 rfl rfl (fun hb0=>?_)
  refine Run.cell 2 5 rfl rfl (fun hb1=>?_)
  have hb0:ks.length≤9223372036854775807:=by simpa [AV.FA] using hb0
  have hb1:al.length≤9223372036854775807:=by simpa [AV.FA] using hb1
  refine Run.Be ?_
  refine Run.Bn ((fun (a2:AV) (a3:AV)=>fun (i:Nat)=>put 2 a2 (put 3 a3 (put 5 (.d (.int .i64 i)) U))) _ _) (fun _=>B0 2 [.d (.int .i64 o),.d (.str n),.d (.int .i64 u),.d (.sl (ns.map D3)),.d (.sl (ks.map Ex.enc)),.d (.sl (al.map Al.enc))] (B0 3 [.d (.int .i64 o),.d (.str n),.d (.int .i64 u),.d (.sl (ns.map D3)),.d (.sl (ks'.map Ex.enc)),.d (.sl (al'.map Al.enc))] E)) (fun _=>σ) (fun i=>i≤ks.length∧ks.take i=ks'.take i) (fun i=>ks.length - i) ?_ 0 ⟨by simp,by simp⟩
  rintro i ⟨hi,ht⟩ ih
  by_cases hlt:i < ks.length
  · obtain ⟨x,hx⟩:=Bw hlt
    obtain ⟨y,hy⟩:=Bw (show i < ks'.length by omega)
    have he:=Bh (enc:=Ex.enc) hx
    have he':=Bh (enc:=Ex.enc) hy
    have hw1:IntKind.i64.wrap ((i:Int)+1)=((i+1:Nat):Int):=by rw [Ax (by omega) (by omega)];omega
    have hc:=ihN x (Ae hx) y
    by_cases hxy:x=y
    · subst hxy
      rw [QV] at hc
      obtain ⟨o0,n0,u0,ns0,ks0,al0⟩:=x
      simp only [exA,Ex.A0,AF,AI] at he he' hc
      (repeat' (first|refine Run.ct rfl ?_|((first|refine Run.reg mixed ?_|refine Run.AJ ?_|refine AH.det (hc) ?_|(refine AR rfl (fun h=>?_) (fun h=>?_)<;>try (cases h;done)))<;>try simp -implicitDefEqProofs only [BX hlt,he,he',hw1,AE,go_sem])|(refine ⟨fun h=>?_,fun h=>?_⟩<;>first|(cases h;done)|try simp only [h])|fail))
      exact ih (i+1) ⟨by omega,Ib ht hx hy⟩ (by omega)
    · rw [Dr (fun e=>Vv hx hy hxy (by injection e))]
      rw [Dr hxy] at hc
      obtain ⟨o0,n0,u0,ns0,ks0,al0⟩:=x
      obtain ⟨o1,n1,u1,ns1,ks1,al1⟩:=y
      simp only [exA,Ex.A0,AF,AI] at he he' hc
      (repeat' (first|refine Run.ct rfl ?_|((first|refine Run.reg mixed ?_|refine Run.AJ ?_|refine Run.A9 C2 (AN.le_refl _) ?_|refine AH.det (hc) ?_|(refine AR rfl (fun h=>?_) (fun h=>?_)<;>try (cases h;done)))<;>try simp -implicitDefEqProofs only [BX hlt,he,he',AE,go_sem])|(refine ⟨fun h=>?_,fun h=>?_⟩<;>first|(cases h;done)|try simp only [h])|fail))
  have hke:=LN ht hk hlt
  subst hke
  (repeat' (first|refine Run.ct rfl ?_|((first|refine Run.reg mixed ?_|refine Run.AJ ?_|(refine AR rfl (fun h=>?_) (fun h=>?_)<;>try (cases h;done)))<;>try simp -implicitDefEqProofs only [F2 hlt,AE,go_sem])|(refine ⟨fun h=>?_,fun h=>?_⟩<;>first|(cases h;done)|try simp only [h])|fail))
  refine Run.Be ?_
  refine Run.Bn ((fun (a2:AV) (a3:AV)=>fun (i:Nat)=>put 2 a2 (put 3 a3 (put 6 (.d (.int .i64 i)) U))) _ _) (fun _=>B0 2 [.d (.int .i64 o),.d (.str n),.d (.int .i64 u),.d (.sl (ns.map D3)),.d (.sl (ks.map Ex.enc)),.d (.sl (al.map Al.enc))] (B0 3 [.d (.int .i64 o),.d (.str n),.d (.int .i64 u),.d (.sl (ns.map D3)),.d (.sl (ks.map Ex.enc)),.d (.sl (al'.map Al.enc))] E)) (fun _=>σ) (fun i=>i≤al.length∧al.take i=al'.take i) (fun i=>al.length - i) ?_ 0 ⟨by simp,by simp⟩
  rintro q ⟨hq,htq⟩ ihq
  by_cases hltq:q < al.length
  · obtain ⟨x,hx⟩:=Bw hltq
    obtain ⟨y,hy⟩:=Bw (show q < al'.length by omega)
    have he:=Bh (enc:=Al.enc) hx
    have he':=Bh (enc:=Al.enc) hy
    have hw1:IntKind.i64.wrap ((q:Int)+1)=((q+1:Nat):Int):=by rw [Ax (by omega) (by omega)];omega
    obtain ⟨c,vs,b⟩:=x
    obtain ⟨c',vs',b'⟩:=y
    have hc:=ihA c vs b (Ae hx) b'
    have hv:=MU vs vs' σ
    have hne:¬Al.mk c vs b= .mk c' vs' b'→Ex.mk o n u ns ks al≠.mk o n u ns ks al':=fun h e=>Vv hx hy h (by injection e)
    by_cases hcc:c=c'
    rotate_left
    · rw [Dr (hne fun e=>hcc (by injection e))]
      obtain ⟨o0,n0,u0,ns0,ks0,al0⟩:=b
      obtain ⟨o1,n1,u1,ns1,ks1,al1⟩:=b'
      simp only [Al.A0,Ex.A0] at he he'
      (repeat' (first|refine Run.ct rfl ?_|((first|refine Run.reg mixed ?_|refine Run.AJ ?_|refine Run.A9 C2 (AN.le_refl _) ?_|(refine AR rfl (fun h=>?_) (fun h=>?_)<;>try (cases h;done)))<;>try simp -implicitDefEqProofs only [BX hltq,he,he',AE,BO,Vn hcc,go_sem])|(refine ⟨fun h=>?_,fun h=>?_⟩<;>first|(cases h;done)|try simp only [h])|fail))
    subst hcc
    by_cases hvv:vs=vs'
    rotate_left
    · rw [Dr (hne fun e=>hvv (by injection e))]
      rw [Dr hvv] at hv
      obtain ⟨o0,n0,u0,ns0,ks0,al0⟩:=b
      obtain ⟨o1,n1,u1,ns1,ks1,al1⟩:=b'
      simp only [Al.A0,Ex.A0] at he he'
      (repeat' (first|refine Run.ct rfl ?_|((first|refine Run.reg mixed ?_|refine Run.AJ ?_|refine Run.A9 C2 (AN.le_refl _) ?_|refine AH.det (hv) ?_|(refine AR rfl (fun h=>?_) (fun h=>?_)<;>try (cases h;done)))<;>try simp -implicitDefEqProofs only [BX hltq,he,he',AE,BO,beq_self_eq_true,go_sem])|(refine ⟨fun h=>?_,fun h=>?_⟩<;>first|(cases h;done)|try simp only [h])|fail))
    subst hvv
    rw [QV] at hv
    by_cases hxy:b=b'
    · subst hxy
      rw [QV] at hc
      obtain ⟨o0,n0,u0,ns0,ks0,al0⟩:=b
      simp only [exA,Al.A0,Ex.A0,AF,AI] at he he' hc
      (repeat' (first|refine Run.ct rfl ?_|((first|refine Run.reg mixed ?_|refine Run.AJ ?_|refine AH.det (hv) ?_|refine AH.det (hc) ?_|(refine AR rfl (fun h=>?_) (fun h=>?_)<;>try (cases h;done)))<;>try simp -implicitDefEqProofs only [BX hltq,he,he',hw1,AE,BO,beq_self_eq_true,go_sem])|(refine ⟨fun h=>?_,fun h=>?_⟩<;>first|(cases h;done)|try simp only [h])|fail))
      exact ihq (q+1) ⟨by omega,Ib htq hx hy⟩ (by omega)
    · rw [Dr (hne fun e=>hxy (by injection e))]
      rw [Dr hxy] at hc
      obtain ⟨o0,n0,u0,ns0,ks0,al0⟩:=b
      obtain ⟨o1,n1,u1,ns1,ks1,al1⟩:=b'
      simp only [exA,Al.A0,Ex.A0,AF,AI] at he he' hc
      (repeat' (first|refine Run.ct rfl ?_|((first|refine Run.reg mixed ?_|refine Run.AJ ?_|refine Run.A9 C2 (AN.le_refl _) ?_|refine AH.det (hv) ?_|refine AH.det (hc) ?_|(refine AR rfl (fun h=>?_) (fun h=>?_)<;>try (cases h;done)))<;>try simp -implicitDefEqProofs only [BX hltq,he,he',AE,BO,beq_self_eq_true,go_sem])|(refine ⟨fun h=>?_,fun h=>?_⟩<;>first|(cases h;done)|try simp only [h])|fail))
  · have hae:=LN htq ha hltq
    subst hae
    rw [QV]
    (repeat' (first|refine Run.ct rfl ?_|((first|refine Run.reg mixed ?_|refine Run.AJ ?_|refine Run.A9 C2 (AN.le_refl _) ?_|(refine AR rfl (fun h=>?_) (fun h=>?_)<;>try (cases h;done)))<;>try simp -implicitDefEqProofs only [F2 hltq,AE,go_sem])|(refine ⟨fun h=>?_,fun h=>?_⟩<;>first|(cases h;done)|try simp only [h])|fail))
end Go.Ab
