/- Equality of programs, the reference's. The law SyntaxBack over abstract values. The given statement SyntaxBack, as a card: for every input the law returns true. Conditions: none. -/
import Derived.Test.YtifplkldbbcldaaGreatDoorXXd2
set_option linter.unusedSimpArgs false
set_option linter.unusedVariables false
set_option maxRecDepth 4000
set_option maxHeartbeats 8000000
open List renaming map_cons→AF,map_nil→AI,length_map→AB,mem_of_getElem?→Ad,cons_append→A0,nil_append→A3,mem_cons→CN,all_eq_true→A6
open Nat renaming le_refl→A7
open Int renaming reduceBEq→A4
open Option.some renaming inj→Gm
namespace Go.Ab
open Go.Proofs
theorem k5 {n n':Str} {vs vs':List Str} {cs cs':List CE}:(⟨n,vs,cs⟩:DE)=⟨n',vs',cs'⟩↔n=n'∧vs=vs'∧cs=cs':=by simp
theorem qH {n n':Str} {l l':List TE}:(⟨n,l⟩:CE)=⟨n',l'⟩↔n=n'∧l=l':=by simp
theorem q7 {n n':Str} {l l':List Str} {b b':Ex}:(⟨n,l,b⟩:FE)=⟨n',l',b'⟩↔n=n'∧l=l'∧b=b':=by simp
theorem lW {a a':List DE} {b b':List FE}:(⟨a,b⟩:Pg)=⟨a',b'⟩↔a=a'∧b=b':=by simp
abbrev eqL (ds:List DE) (fs:List FE) (ds':List DE) (fs':List FE):Lm:=BW 2 [.d (.sl (ds.map DE.enc)),.d (.sl (fs.map FE.enc))] (BW 3 [.d (.sl (ds'.map DE.enc)),.d (.sl (fs'.map FE.enc))] E)
abbrev eqD (ds:List DE) (fs:List FE) (ds':List DE) (fs':List FE) (n:Str) (vs:List Str) (cs cs':List CE):Lm:=BW 2 [.d (.sl (ds.map DE.enc)),.d (.sl (fs.map FE.enc))] (BW 3 [.d (.sl (ds'.map DE.enc)),.d (.sl (fs'.map FE.enc))] (BW 6 [.d (.str n),.d (.sl (vs.map Cn)),.d (.sl (cs.map CE.enc))] (BW 7 [.d (.str n),.d (.sl (vs.map Cn)),.d (.sl (cs'.map CE.enc))] E)))
set_option maxHeartbeats 8000000 in
theorem fQ (p q:Pg) (σ:AM) (hsz:∀d∈p.data,∀c∈d.cons,c.args.length≤1000000):AR Tryz.prog 14 [pgA p,pgA q] σ (fun v σ'=>v= .d (.bool (eqB p q))∧σ'=σ):=by
 refine iX (by simp) ?_
 rw [BF]
 obtain ⟨ds,fs⟩:=p
 obtain ⟨ds',fs'⟩:=q
 simp only [pgA,Pg.enc,AF,AI]
 by_cases hd:ds.length=ds'.length
 rotate_left
 · rw [Dm (fun e=>SH hd (lW.1 e).1)]
   (repeat' (first|refine Run.ct rfl ?_|((first|refine Run.reg mixed ?_|refine Run.AJ ?_|refine Run.Aa Dh (AM.le_refl _) ?_|(refine AP rfl (fun h=>?_) (fun h=>?_)<;>try (cases h;done)))<;>try simp -implicitDefEqProofs only [AB,SG hd,go_sem])|(refine ⟨fun h=>?_,fun h=>?_⟩<;>first|(cases h;done)|try simp only [h])|fail))
 by_cases hf:fs.length=fs'.length
 rotate_left
 · rw [Dm (fun e=>SH hf (lW.1 e).2)]
   (repeat' (first|refine Run.ct rfl ?_|((first|refine Run.reg mixed ?_|refine Run.AJ ?_|refine Run.Aa Dh (AM.le_refl _) ?_|(refine AP rfl (fun h=>?_) (fun h=>?_)<;>try (cases h;done)))<;>try simp -implicitDefEqProofs only [AB,hd,bne_self_eq_false,SG hf,go_sem])|(refine ⟨fun h=>?_,fun h=>?_⟩<;>first|(cases h;done)|try simp only [h])|fail))
 (repeat' (first|refine Run.ct rfl ?_|((first|refine Run.reg mixed ?_|refine Run.AJ ?_|(refine AP rfl (fun h=>?_) (fun h=>?_)<;>try (cases h;done)))<;>try simp -implicitDefEqProofs only [AB,hd,hf,bne_self_eq_false,go_sem])|(refine ⟨fun h=>?_,fun h=>?_⟩<;>first|(cases h;done)|try simp only [h])|fail))
 refine Run.cell 2 0 rfl rfl (fun hb0=>?_)
 refine Run.cell 2 1 rfl rfl (fun hb1=>?_)
 have hb0:ds.length≤9223372036854775807:=by simpa [AV.FJ] using hb0
 have hb1:fs.length≤9223372036854775807:=by simpa [AV.FJ] using hb1
 refine Run.B1 ?_
 refine Run.B7 ((fun (a2:AV) (a3:AV)=>fun (i:Nat)=>put 2 a2 (put 3 a3 (put 5 (.d (.int .i64 i)) U))) _ _) (fun _=>eqL ds fs ds' fs') (fun _=>σ) (fun i=>i≤ds.length∧ds.take i=ds'.take i) (fun i=>ds.length - i) ?_ 0 ⟨by simp,by simp⟩
 rintro i ⟨hi,ht⟩ ih
 by_cases hlt:i < ds.length
 · obtain ⟨x,hx⟩:=Ba hlt
   obtain ⟨y,hy⟩:=Ba (show i < ds'.length by omega)
   have he:=BX (enc:=DE.enc) hx
   have he':=BX (enc:=DE.enc) hy
   have hw1:IntKind.i64.wrap ((i:Int)+1)=((i+1:Nat):Int):=by rw [Aw (by omega) (by omega)];omega
   obtain ⟨n,vs,cs⟩:=x
   obtain ⟨n',vs',cs'⟩:=y
   simp only [DE.enc] at he he'
   have hv:=M4 vs vs' σ
   have hne:¬(⟨n,vs,cs⟩:DE)=⟨n',vs',cs'⟩→(⟨ds,fs⟩:Pg)≠⟨ds',fs'⟩:=fun h e=>WE hx hy h (lW.1 e).1
   (repeat' (first|refine Run.ct rfl ?_|((first|refine Run.reg mixed ?_|refine Run.AJ ?_|(refine AP rfl (fun h=>?_) (fun h=>?_)<;>try (cases h;done)))<;>try simp -implicitDefEqProofs only [BG hlt,he,he',AB,go_sem])|(refine ⟨fun h=>?_,fun h=>?_⟩<;>first|(cases h;done)|try simp only [h])|fail))
   refine Run.SO mixed ?_
   simp -implicitDefEqProofs only [BG hlt,he,he',AB,and_self,go_sem]
   by_cases hcc:n=n'
   rotate_left
   · rw [Dm (hne fun e=>hcc (k5.1 e).1)]
     (repeat' (first|refine Run.ct rfl ?_|((first|refine Run.reg mixed ?_|refine Run.AJ ?_|refine Run.Aa Dh (AM.le_refl _) ?_|(refine AP rfl (fun h=>?_) (fun h=>?_)<;>try (cases h;done)))<;>try simp -implicitDefEqProofs only [BO,Vw hcc,go_sem])|(refine ⟨fun h=>?_,fun h=>?_⟩<;>first|(cases h;done)|try simp only [h])|fail))
   subst hcc
   by_cases hvv:vs=vs'
   rotate_left
   · rw [Dm (hne fun e=>hvv (k5.1 e).2.1)]
     rw [Dm hvv] at hv
     (repeat' (first|refine Run.ct rfl ?_|((first|refine Run.reg mixed ?_|refine Run.AJ ?_|refine Run.Aa Dh (AM.le_refl _) ?_|refine AG.det (hv) ?_|(refine AP rfl (fun h=>?_) (fun h=>?_)<;>try (cases h;done)))<;>try simp -implicitDefEqProofs only [BO,beq_self_eq_true,go_sem])|(refine ⟨fun h=>?_,fun h=>?_⟩<;>first|(cases h;done)|try simp only [h])|fail))
   subst hvv
   rw [Q4] at hv
   by_cases hl:cs.length=cs'.length
   rotate_left
   · rw [Dm (hne fun e=>SH hl (k5.1 e).2.2)]
     (repeat' (first|refine Run.ct rfl ?_|((first|refine Run.reg mixed ?_|refine Run.AJ ?_|refine Run.Aa Dh (AM.le_refl _) ?_|refine AG.det (hv) ?_|(refine AP rfl (fun h=>?_) (fun h=>?_)<;>try (cases h;done)))<;>try simp -implicitDefEqProofs only [BO,beq_self_eq_true,AB,SG hl,go_sem])|(refine ⟨fun h=>?_,fun h=>?_⟩<;>first|(cases h;done)|try simp only [h])|fail))
   (repeat' (first|refine Run.ct rfl ?_|((first|refine Run.reg mixed ?_|refine Run.AJ ?_|refine AG.det (hv) ?_|(refine AP rfl (fun h=>?_) (fun h=>?_)<;>try (cases h;done)))<;>try simp -implicitDefEqProofs only [BO,beq_self_eq_true,bne_self_eq_false,AB,hl,go_sem])|(refine ⟨fun h=>?_,fun h=>?_⟩<;>first|(cases h;done)|try simp only [h])|fail))
   refine Run.cell 6 2 rfl rfl (fun hb2=>?_)
   have hb2:cs.length≤9223372036854775807:=by simpa [AV.FJ] using hb2
   refine Run.B1 ?_
   refine Run.B7 ((fun (a2:AV) (a3:AV) (a5:AV) (a6:AV) (a7:AV)=>fun (k:Nat)=>put 2 a2 (put 3 a3 (put 5 a5 (put 6 a6 (put 7 a7 (put 8 (.d (.int .i64 k)) U)))))) _ _ _ _ _) (fun _=>eqD ds fs ds' fs' n vs cs cs') (fun _=>σ) (fun k=>k≤cs.length∧cs.take k=cs'.take k) (fun k=>cs.length - k) ?_ 0 ⟨by simp,by simp⟩
   rintro k ⟨hk,htk⟩ ihk
   by_cases hltk:k < cs.length
   · obtain ⟨c,hcx⟩:=Ba hltk
     obtain ⟨d,hdx⟩:=Ba (show k < cs'.length by omega)
     have hce:=BX (enc:=CE.enc) hcx
     have hde:=BX (enc:=CE.enc) hdx
     have hwk:IntKind.i64.wrap ((k:Int)+1)=((k+1:Nat):Int):=by rw [Aw (by omega) (by omega)];omega
     obtain ⟨m,l⟩:=c
     obtain ⟨m',l'⟩:=d
     simp only [CE.enc] at hce hde
     have hnc:¬(⟨m,l⟩:CE)=⟨m',l'⟩→(⟨ds,fs⟩:Pg)≠⟨ds',fs'⟩:=fun h=>hne fun e=>WE hcx hdx h (k5.1 e).2.2
     by_cases hm:m=m'
     rotate_left
     · rw [Dm (hnc fun e=>hm (qH.1 e).1)]
       (repeat' (first|refine Run.ct rfl ?_|((first|refine Run.reg mixed ?_|refine Run.AJ ?_|refine Run.Aa Dh (AM.le_refl _) ?_|(refine AP rfl (fun h=>?_) (fun h=>?_)<;>try (cases h;done)))<;>try simp -implicitDefEqProofs only [BG hltk,hce,hde,AB,BO,Vw hm,go_sem])|(refine ⟨fun h=>?_,fun h=>?_⟩<;>first|(cases h;done)|try simp only [h])|fail))
     subst hm
     by_cases hll:l.length=l'.length
     rotate_left
     · rw [Dm (hnc fun e=>SH hll (qH.1 e).2)]
       (repeat' (first|refine Run.ct rfl ?_|((first|refine Run.reg mixed ?_|refine Run.AJ ?_|refine Run.Aa Dh (AM.le_refl _) ?_|(refine AP rfl (fun h=>?_) (fun h=>?_)<;>try (cases h;done)))<;>try simp -implicitDefEqProofs only [BG hltk,hce,hde,AB,BO,beq_self_eq_true,SG hll,go_sem])|(refine ⟨fun h=>?_,fun h=>?_⟩<;>first|(cases h;done)|try simp only [h])|fail))
     (repeat' (first|refine Run.ct rfl ?_|((first|refine Run.reg mixed ?_|refine Run.AJ ?_|(refine AP rfl (fun h=>?_) (fun h=>?_)<;>try (cases h;done)))<;>try simp -implicitDefEqProofs only [BG hltk,hce,hde,AB,BO,beq_self_eq_true,bne_self_eq_false,hll,go_sem])|(refine ⟨fun h=>?_,fun h=>?_⟩<;>first|(cases h;done)|try simp only [h])|fail))
     refine Run.B1 ?_
     refine Run.B7 ((fun (a2:AV) (a3:AV) (a5:AV) (a6:AV) (a7:AV) (a8:AV)=>fun (z:Nat)=>put 2 a2 (put 3 a3 (put 5 a5 (put 6 a6 (put 7 a7 (put 8 a8 (put 9 (.d (.int .i64 z)) U))))))) _ _ _ _ _ _) (fun _=>eqD ds fs ds' fs' n vs cs cs') (fun _=>σ) (fun z=>z≤l.length∧l.take z=l'.take z) (fun z=>l.length - z) ?_ 0 ⟨by simp,by simp⟩
     rintro z ⟨hz,htz⟩ ihz
     by_cases hltz:z < l.length
     · obtain ⟨t,htx⟩:=Ba hltz
       obtain ⟨w,hwx⟩:=Ba (show z < l'.length by omega)
       have hte:=BX (enc:=TE.enc) htx
       have hwe:=BX (enc:=TE.enc) hwx
       have hc:=WB t.size t w (A7 _) σ
       have hls:=hsz _ (Ad hx) _ (Ad hcx)
       simp only at hls
       have hwz:IntKind.i64.wrap ((z:Int)+1)=((z+1:Nat):Int):=by rw [Aw (by omega) (by omega)];omega
       by_cases hxy:t=w
       · subst hxy
         rw [Q4] at hc
         obtain ⟨k0,n0,l0⟩:=t
         simp only [teA,TE.A1,AF,AI] at hte hwe hc
         (repeat' (first|refine Run.ct rfl ?_|((first|refine Run.reg mixed ?_|refine Run.AJ ?_|refine AG.det (hc) ?_|(refine AP rfl (fun h=>?_) (fun h=>?_)<;>try (cases h;done)))<;>try simp -implicitDefEqProofs only [BG hltz,BG hltk,hce,hde,hte,hwe,AB,hwz,go_sem])|(refine ⟨fun h=>?_,fun h=>?_⟩<;>first|(cases h;done)|try simp only [h])|fail))
         exact ihz (z+1) ⟨by omega,Ie htz htx hwx⟩ (by omega)
       · rw [Dm (hnc fun e=>WE htx hwx hxy (qH.1 e).2)]
         rw [Dm hxy] at hc
         obtain ⟨k0,n0,l0⟩:=t
         obtain ⟨k1,n1,l1⟩:=w
         simp only [teA,TE.A1,AF,AI] at hte hwe hc
         (repeat' (first|refine Run.ct rfl ?_|((first|refine Run.reg mixed ?_|refine Run.AJ ?_|refine Run.Aa Dh (AM.le_refl _) ?_|refine AG.det (hc) ?_|(refine AP rfl (fun h=>?_) (fun h=>?_)<;>try (cases h;done)))<;>try simp -implicitDefEqProofs only [BG hltz,BG hltk,hce,hde,hte,hwe,AB,go_sem])|(refine ⟨fun h=>?_,fun h=>?_⟩<;>first|(cases h;done)|try simp only [h])|fail))
     · have hle:=LQ htz hll hltz
       subst hle
       (repeat' (first|refine Run.ct rfl ?_|((first|refine Run.reg mixed ?_|refine Run.AJ ?_|(refine AP rfl (fun h=>?_) (fun h=>?_)<;>try (cases h;done)))<;>try simp -implicitDefEqProofs only [E0 hltz,BG hltk,hce,hde,AB,hwk,go_sem])|(refine ⟨fun h=>?_,fun h=>?_⟩<;>first|(cases h;done)|try simp only [h])|fail))
       exact ihk (k+1) ⟨by omega,Ie htk hcx hdx⟩ (by omega)
   · have hce:=LQ htk hl hltk
     subst hce
     (repeat' (first|refine Run.ct rfl ?_|((first|refine Run.reg mixed ?_|refine Run.AJ ?_|(refine AP rfl (fun h=>?_) (fun h=>?_)<;>try (cases h;done)))<;>try simp -implicitDefEqProofs only [E0 hltk,AB,hw1,go_sem])|(refine ⟨fun h=>?_,fun h=>?_⟩<;>first|(cases h;done)|try simp only [h])|fail))
     exact ih (i+1) ⟨by omega,Ie ht hx hy⟩ (by omega)
 have hde:=LQ ht hd hlt
 subst hde
 (repeat' (first|refine Run.ct rfl ?_|((first|refine Run.reg mixed ?_|refine Run.AJ ?_|(refine AP rfl (fun h=>?_) (fun h=>?_)<;>try (cases h;done)))<;>try simp -implicitDefEqProofs only [E0 hlt,AB,go_sem])|(refine ⟨fun h=>?_,fun h=>?_⟩<;>first|(cases h;done)|try simp only [h])|fail))
 refine Run.B1 ?_
 refine Run.B7 ((fun (a2:AV) (a3:AV)=>fun (i:Nat)=>put 2 a2 (put 3 a3 (put 10 (.d (.int .i64 i)) U))) _ _) (fun _=>eqL ds fs ds fs') (fun _=>σ) (fun i=>i≤fs.length∧fs.take i=fs'.take i) (fun i=>fs.length - i) ?_ 0 ⟨by simp,by simp⟩
 rintro g ⟨hg,htg⟩ ihg
 by_cases hltg:g < fs.length
 · obtain ⟨x,hx⟩:=Ba hltg
   obtain ⟨y,hy⟩:=Ba (show g < fs'.length by omega)
   have he:=BX (enc:=FE.enc) hx
   have he':=BX (enc:=FE.enc) hy
   have hw1:IntKind.i64.wrap ((g:Int)+1)=((g+1:Nat):Int):=by rw [Aw (by omega) (by omega)];omega
   obtain ⟨n,ps,b⟩:=x
   obtain ⟨n',ps',b'⟩:=y
   have hv:=M4 ps ps' σ
   have hc:=RY b.size b b' (A7 _) σ
   have hne:¬(⟨n,ps,b⟩:FE)=⟨n',ps',b'⟩→(⟨ds,fs⟩:Pg)≠⟨ds,fs'⟩:=fun h e=>WE hx hy h (lW.1 e).2
   by_cases hcc:n=n'
   rotate_left
   · rw [Dm (hne fun e=>hcc (q7.1 e).1)]
     obtain ⟨o0,n0,u0,ns0,ks0,al0⟩:=b
     obtain ⟨o1,n1,u1,ns1,ks1,al1⟩:=b'
     simp only [FE.enc,Ex.A1,A0,A3] at he he'
     (repeat' (first|refine Run.ct rfl ?_|((first|refine Run.reg mixed ?_|refine Run.AJ ?_|refine Run.Aa Dh (AM.le_refl _) ?_|(refine AP rfl (fun h=>?_) (fun h=>?_)<;>try (cases h;done)))<;>try simp -implicitDefEqProofs only [BG hltg,he,he',AB,BO,Vw hcc,go_sem])|(refine ⟨fun h=>?_,fun h=>?_⟩<;>first|(cases h;done)|try simp only [h])|fail))
   subst hcc
   by_cases hvv:ps=ps'
   rotate_left
   · rw [Dm (hne fun e=>hvv (q7.1 e).2.1)]
     rw [Dm hvv] at hv
     obtain ⟨o0,n0,u0,ns0,ks0,al0⟩:=b
     obtain ⟨o1,n1,u1,ns1,ks1,al1⟩:=b'
     simp only [FE.enc,Ex.A1,A0,A3] at he he'
     (repeat' (first|refine Run.ct rfl ?_|((first|refine Run.reg mixed ?_|refine Run.AJ ?_|refine Run.Aa Dh (AM.le_refl _) ?_|refine AG.det (hv) ?_|(refine AP rfl (fun h=>?_) (fun h=>?_)<;>try (cases h;done)))<;>try simp -implicitDefEqProofs only [BG hltg,he,he',AB,BO,beq_self_eq_true,go_sem])|(refine ⟨fun h=>?_,fun h=>?_⟩<;>first|(cases h;done)|try simp only [h])|fail))
   subst hvv
   rw [Q4] at hv
   by_cases hxy:b=b'
   · subst hxy
     rw [Q4] at hc
     obtain ⟨o0,n0,u0,ns0,ks0,al0⟩:=b
     simp only [exA,FE.enc,Ex.A1,A0,A3,AF,AI] at he he' hc
     (repeat' (first|refine Run.ct rfl ?_|((first|refine Run.reg mixed ?_|refine Run.AJ ?_|refine AG.det (hv) ?_|refine AG.det (hc) ?_|(refine AP rfl (fun h=>?_) (fun h=>?_)<;>try (cases h;done)))<;>try simp -implicitDefEqProofs only [BG hltg,he,he',hw1,AB,BO,beq_self_eq_true,go_sem])|(refine ⟨fun h=>?_,fun h=>?_⟩<;>first|(cases h;done)|try simp only [h])|fail))
     exact ihg (g+1) ⟨by omega,Ie htg hx hy⟩ (by omega)
   · rw [Dm (hne fun e=>hxy (q7.1 e).2.2)]
     rw [Dm hxy] at hc
     obtain ⟨o0,n0,u0,ns0,ks0,al0⟩:=b
     obtain ⟨o1,n1,u1,ns1,ks1,al1⟩:=b'
     simp only [exA,FE.enc,Ex.A1,A0,A3,AF,AI] at he he' hc
     (repeat' (first|refine Run.ct rfl ?_|((first|refine Run.reg mixed ?_|refine Run.AJ ?_|refine Run.Aa Dh (AM.le_refl _) ?_|refine AG.det (hv) ?_|refine AG.det (hc) ?_|(refine AP rfl (fun h=>?_) (fun h=>?_)<;>try (cases h;done)))<;>try simp -implicitDefEqProofs only [BG hltg,he,he',AB,BO,beq_self_eq_true,go_sem])|(refine ⟨fun h=>?_,fun h=>?_⟩<;>first|(cases h;done)|try simp only [h])|fail))
 · have hfe:=LQ htg hf hltg
   subst hfe
   rw [Q4]
   (repeat' (first|refine Run.ct rfl ?_|((first|refine Run.reg mixed ?_|refine Run.AJ ?_|refine Run.Aa Dh (AM.le_refl _) ?_|(refine AP rfl (fun h=>?_) (fun h=>?_)<;>try (cases h;done)))<;>try simp -implicitDefEqProofs only [E0 hltg,AB,go_sem])|(refine ⟨fun h=>?_,fun h=>?_⟩<;>first|(cases h;done)|try simp only [h])|fail))
end Go.Ab
namespace Go.Ab
open Go.Proofs
theorem tG {p:Pg} (h:p.sm):(∀d∈p.data,XH d)∧(∀d∈p.data,∀c∈d.cons,∀t∈c.args,t.size≤100000)∧∀d∈p.data,∀c∈d.cons,c.args.length≤1000000:=
 ⟨fun d hd c hc t ht=>by have:=((h.1.2 d hd).2.2.2 c hc).2.2 t ht;omega,fun d hd c hc t ht=>by have:=((h.1.2 d hd).2.2.2 c hc).2.2 t ht;omega,fun d hd c hc=>by have:=((h.1.2 d hd).2.2.2 c hc).2.1;omega⟩
theorem ABN (n:Nat):decide ((16384:Int) < (n:Int))=decide (16384 < n):=decide_eq_decide.2 (by omega)
theorem ZN (p:Pg) (σ:AM) (hg:XR σ) (hp:σ.gt SM=some UO):AR Tryz.prog 6 [pgA p] σ (fun v σ'=>v= .d (.bool true)∧σ'=σ):=by
 have hk:=cB p σ
 have haw:=YK σ hg hp
 refine UD (by simp) ?_
 rw [BC]
 have hr:=fR p σ
 have hf:=PV p σ hp
 have hpa:=Qa (Wa p) σ hg
 have heq:=fQ p p σ
 rw [Q4] at heq
 have hbk:=fun h hl=>YT (p:=p) h hl
 obtain ⟨ds,fs⟩:=p
 simp only [pgA,Pg.enc,AF,AI] at hk hr hf heq ⊢
 (repeat' (first|refine Run.ct rfl ?_|((first|refine Run.reg mixed ?_|refine Run.AJ ?_|(refine AG.mk rfl hk ?_;rintro _ σ ⟨b,⟨rfl,rfl⟩,hb⟩;cases b)|(refine Run.Aa Ej (AM.le_refl _) ?_)|(refine AP rfl (fun h=>?_) (fun h=>?_)<;>try (cases h;done)))<;>try simp -implicitDefEqProofs only [go_sem])|(refine ⟨fun h=>?_,fun h=>?_⟩<;>first|(cases h;done)|try simp only [h])|fail))
 obtain ⟨s1,s2,s3⟩:=tG (hb rfl)
 have hr:=hr s1
 have hf:=hf s2
 have heq:=heq s3
 cases hv:DA ⟨ds,fs⟩ with
 |false=>
  rw [hv] at hr
  (repeat' (first|refine Run.ct rfl ?_|((first|refine Run.reg mixed ?_|refine Run.AJ ?_|refine Run.Aa Ej (AM.le_refl _) ?_|refine AG.det (hr) ?_|(refine AP rfl (fun h=>?_) (fun h=>?_)<;>try (cases h;done)))<;>try simp -implicitDefEqProofs only [go_sem])|(refine ⟨fun h=>?_,fun h=>?_⟩<;>first|(cases h;done)|try simp only [h])|fail))
 |true=>
 rw [hv] at hr hf
 simp only [if_true] at hf
 generalize Wa ⟨ds,fs⟩=txt at hf hpa hbk
 by_cases hl:16384 < txt.length
 · (repeat' (first|refine Run.ct rfl ?_|((first|refine Run.reg mixed ?_|refine Run.AJ ?_|refine Run.Aa Ej (AM.le_refl _) ?_|refine AG.det (hr) ?_|refine AG.det (hf) ?_|refine AG.det (haw) ?_|(refine AP rfl (fun h=>?_) (fun h=>?_)<;>try (cases h;done)))<;>try simp -implicitDefEqProofs only [ABN,decide_eq_true hl,go_sem])|(refine ⟨fun h=>?_,fun h=>?_⟩<;>first|(cases h;done)|try simp only [h])|fail))
 · have hq:=hbk hv (by omega)
   rw [hq] at hpa
   simp only [jS,pgA,Pg.enc,AF,AI] at hpa
   (repeat' (first|refine Run.ct rfl ?_|((first|refine Run.reg mixed ?_|refine Run.AJ ?_|refine Run.Aa Ej (AM.le_refl _) ?_|refine AG.det (hr) ?_|refine AG.det (hf) ?_|refine AG.det (hpa) ?_|refine AG.det (heq) ?_|refine AG.det (haw) ?_|(refine AP rfl (fun h=>?_) (fun h=>?_)<;>try (cases h;done)))<;>try simp -implicitDefEqProofs only [ABN,decide_eq_false hl,A4,go_sem])|(refine ⟨fun h=>?_,fun h=>?_⟩<;>first|(cases h;done)|try simp only [h])|fail))
end Go.Ab
namespace Go.Ab
open Go.Proofs
theorem Wx (te:TypeId) (pe:Value) (av:List AV) (h:XP Tryz.prog [25] av):AR Tryz.prog 6 av (Ln (gtT te pe)) (fun v _=>v= .d (.bool true)):=by
 obtain ⟨x0,rfl⟩:=uI h
 exact (ZN x0 (Ln (gtT te pe)) (uY te pe) (uZ te pe)).mono (fun _ _ h=>h.1)
end Go.Ab
namespace Go.Proofs.YtifplkldbbcldaaGreatDoor
open Go.ChangeShapes Go.WideShapes Go.ChangeAt Go.RowKit
set_option maxRecDepth 100000 in
theorem VM (os:Os) (started:os.Started) (H:Type) (enc:TypeId×Value→H):
 ReturnsInHanded {} Tryz.checked os 6 .any (fun w args=>(Rows.syntaxBackSpec.pre enc Tryz.prog Tryz.f6 [] false w args∧laidMetH Tryz.prog eV w)∧sizedMet enc Tryz.prog Tryz.f6 (OpenSpec.ofChange Rows.syntaxBackSpec) false w args)
  (Rows.syntaxBackSpec.post enc Tryz.prog Tryz.f6 false true false false):=by
 refine returnsInHanded_of_change_and (C:=Tryz.checked) (X:=fun w _=>laidMetH Tryz.prog eV w) (fun _ _ _ hh h=>h.of_heap hh) Tryz.own started (by kernel_rfl) Tryz.func6
  (ChangeSpec.witness_shaped (enc:=enc) (C:=Tryz.checked) (os:=os) (X:=fun w _=>laidMetH Tryz.prog eV w) false (World.doorLaid Tryz.prog 400 os) #[.agg #[.slice none 0 0,.slice none 0 0]] 8 rfl (World.shaped_of_RefB (by kernel_rfl) (by kernel_rfl)) (by kernel_rfl) (by kernel_rfl) (by kernel_rfl) (qV os _)) ?_
 intro W base args ds gs before hval hW _ _ hL _
 obtain ⟨te,pe,hT⟩:=u6 hL
 refine Go.Ab.Zc (P:=Tryz.prog) (gt:=Go.Ab.gtT te pe) [25,22,61,9,40,59,72,70,75,3,23,66,44,2,41,42,112] Tryz.laidOut (by kernel_rfl) ?_ ?_ (tb:=4) (by kernel_rfl) Tryz.underlying4 rfl ?_ ?_ W hT base args ds gs before hval hW
 · rw [Tryz.params6];simp
 · rw [Tryz.params6]
   intro t ht
   simp only [CN,List.not_mem_nil,or_false] at ht
   subst ht
   exact ⟨by kernel_rfl,of_decide_eq_true (by kernel_rfl)⟩
 · rw [Tryz.params6]
   intro ds hd
   match ds,hd with
   |[d0],_=>rfl
 · rw [Tryz.params6]
   exact Go.Ab.Wx te pe
theorem Yz:Rows.SyntaxBackSaid:=
 OpenClaim.holds_of_wide 6 Tryz.f6 rfl rfl rfl rfl rfl rfl rfl ⟨rfl,rfl,rfl,rfl,rfl⟩ rfl rfl rfl rfl rfl (by kernel_rfl) Tryz.func6 (by kernel_rfl)
  (of_decide_eq_true (by kernel_rfl)) (by unfold Func.isWrapper;first|(rw [if_pos (by decide+kernel)];kernel_rfl)|(rw [if_neg (by decide+kernel)];exact ⟨rfl,rfl⟩))
  (fun os started H enc _=>VM os started H enc)
theorem syntaxBack_holds:Rows.SyntaxBackCardSaid:=
 Claim7.holds_tied_plain_at .later [] [.data,.data,.data,.sentinel,.sentinel] true (true,"21a277a3e8a610eced9e93bcce68d99d4ad37844a2772ead4278e0ed35489f0c") true
  Yz (fun _ h=>by cases h) (by kernel_rfl) (fun _ h=>by cases h) syntaxBack_row_tie rfl ⟨rfl,rfl⟩ (by kernel_rfl) rfl
  (fun f fn hf hfn=>by
    obtain rfl:f=6:=Gm ((show Tryz.prog.funcNamed "amortcost/amortcostlaw04.SyntaxBack"=some 6 by kernel_rfl).symm.trans hf)|>.symm
    obtain rfl:fn=Tryz.f6:=(Gm (Tryz.func6.symm.trans hfn)).symm
    exact ⟨by kernel_rfl,fun j t ht=>by
     rw [Tryz.params6] at ht
     have hm:t∈[25]:=by simpa using Array.mem_of_getElem? ht
     have hall:([25].all fun u=>!Tryz.prog.wantsStandIn u)=true:=by kernel_rfl
     exact (show Tryz.prog.wantsStandIn t=false by simpa using A6.1 hall t hm)⟩)
  (by kernel_rfl)
end Go.Proofs.YtifplkldbbcldaaGreatDoor
#print axioms Go.Proofs.YtifplkldbbcldaaGreatDoor.syntaxBack_holds
