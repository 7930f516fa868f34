/- Equality of programs, the reference's. The law SyntaxBack over abstract values. The law SyntaxTexts over abstract values. The law SyntaxRows over abstract values. The given statement SyntaxRows, as a card: for every input the law returns true. Conditions: none. -/
import Derived.Test.YtifplkldbbcldaaGreatDoorXPm
set_option linter.unusedSimpArgs false
set_option linter.unusedVariables false
set_option maxRecDepth 4000
set_option maxHeartbeats 8000000
open List renaming map_cons→AF,map_nil→AI,length_map→AE,mem_of_getElem?→Ae,cons_append→AY,nil_append→A6,all_eq_true→A5,mem_map→Gl,length_nil→AG,length_cons→AD,length_append→AA,mem_append→BV,map_append→BU,mem_cons→Bv
open Nat renaming le_refl→A7,le_trans→Ay
open Bool renaming and_eq_true→AL,false_eq_true→AU
open Prod.mk renaming injEq→BH
open Int renaming reduceBEq→A3
open Option.some renaming inj→Gj
namespace Go.Ab
open Go.Proofs
theorem j9 {n n':Str} {vs vs':List Str} {cs cs':List CE}:(⟨n,vs,cs⟩:DE)=⟨n',vs',cs'⟩↔n=n'∧vs=vs'∧cs=cs':=by simp
theorem pD {n n':Str} {l l':List TE}:(⟨n,l⟩:CE)=⟨n',l'⟩↔n=n'∧l=l':=by simp
theorem pZ {n n':Str} {l l':List Str} {b b':Ex}:(⟨n,l,b⟩:FE)=⟨n',l',b'⟩↔n=n'∧l=l'∧b=b':=by simp
theorem k6 {a a':List DE} {b b':List FE}:(⟨a,b⟩:Pg)=⟨a',b'⟩↔a=a'∧b=b':=by simp
abbrev eqL (ds:List DE) (fs:List FE) (ds':List DE) (fs':List FE):Lm:=B0 2 [.d (.sl (ds.map DE.enc)),.d (.sl (fs.map FE.enc))] (B0 3 [.d (.sl (ds'.map DE.enc)),.d (.sl (fs'.map FE.enc))] E)
abbrev eqD (ds:List DE) (fs:List FE) (ds':List DE) (fs':List FE) (n:Str) (vs:List Str) (cs cs':List CE):Lm:=B0 2 [.d (.sl (ds.map DE.enc)),.d (.sl (fs.map FE.enc))] (B0 3 [.d (.sl (ds'.map DE.enc)),.d (.sl (fs'.map FE.enc))] (B0 6 [.d (.str n),.d (.sl (vs.map D3)),.d (.sl (cs.map CE.enc))] (B0 7 [.d (.str n),.d (.sl (vs.map D3)),.d (.sl (cs'.map CE.enc))] E)))
set_option maxHeartbeats 8000000 in
theorem eM (p q:Pg) (σ:AN) (hsz:∀d∈p.data,∀c∈d.cons,c.args.length≤1000000):AQ Tryz.prog 14 [pgA p,pgA q] σ (fun v σ'=>v= .d (.bool (eqB p q))∧σ'=σ):=by
 refine hO (by simp) ?_
 rw [BI]
 obtain ⟨ds,fs⟩:=p
 obtain ⟨ds',fs'⟩:=q
 simp only [pgA,Pg.enc,AF,AI]
 by_cases hd:ds.length=ds'.length
 rotate_left
 · rw [Dr (fun e=>Rw hd (k6.1 e).1)]
   (repeat' (first|refine Run.ct rfl ?_|((first|refine Run.reg mixed ?_|refine Run.AJ ?_|refine Run.A9 Dl (AN.le_refl _) ?_|(refine AR rfl (fun h=>?_) (fun h=>?_)<;>try (cases h;done)))<;>try simp -implicitDefEqProofs only [AE,Rv hd,go_sem])|(refine ⟨fun h=>?_,fun h=>?_⟩<;>first|(cases h;done)|try simp only [h])|fail))
 by_cases hf:fs.length=fs'.length
 rotate_left
 · rw [Dr (fun e=>Rw hf (k6.1 e).2)]
   (repeat' (first|refine Run.ct rfl ?_|((first|refine Run.reg mixed ?_|refine Run.AJ ?_|refine Run.A9 Dl (AN.le_refl _) ?_|(refine AR rfl (fun h=>?_) (fun h=>?_)<;>try (cases h;done)))<;>try simp -implicitDefEqProofs only [AE,hd,bne_self_eq_false,Rv hf,go_sem])|(refine ⟨fun h=>?_,fun h=>?_⟩<;>first|(cases h;done)|try simp only [h])|fail))
 (repeat' (first|refine Run.ct rfl ?_|((first|refine Run.reg mixed ?_|refine Run.AJ ?_|(refine AR rfl (fun h=>?_) (fun h=>?_)<;>try (cases h;done)))<;>try simp -implicitDefEqProofs only [AE,hd,hf,bne_self_eq_false,go_sem])|(refine ⟨fun h=>?_,fun h=>?_⟩<;>first|(cases h;done)|try simp only [h])|fail))
 refine Run.cell 2 0 rfl rfl (fun hb0=>?_)
 refine Run.cell 2 1 rfl rfl (fun hb1=>?_)
 have hb0:ds.length≤9223372036854775807:=by simpa [AV.FA] using hb0
 have hb1:fs.length≤9223372036854775807:=by simpa [AV.FA] using hb1
 refine Run.Be ?_
 refine Run.Bn ((fun (a2:AV) (a3:AV)=>fun (i:Nat)=>put 2 a2 (put 3 a3 (put 5 (.d (.int .i64 i)) U))) _ _) (fun _=>eqL ds fs ds' fs') (fun _=>σ) (fun i=>i≤ds.length∧ds.take i=ds'.take i) (fun i=>ds.length - i) ?_ 0 ⟨by simp,by simp⟩
 rintro i ⟨hi,ht⟩ ih
 by_cases hlt:i < ds.length
 · obtain ⟨x,hx⟩:=Bw hlt
   obtain ⟨y,hy⟩:=Bw (show i < ds'.length by omega)
   have he:=Bh (enc:=DE.enc) hx
   have he':=Bh (enc:=DE.enc) hy
   have hw1:IntKind.i64.wrap ((i:Int)+1)=((i+1:Nat):Int):=by rw [Ax (by omega) (by omega)];omega
   obtain ⟨n,vs,cs⟩:=x
   obtain ⟨n',vs',cs'⟩:=y
   simp only [DE.enc] at he he'
   have hv:=MU vs vs' σ
   have hne:¬(⟨n,vs,cs⟩:DE)=⟨n',vs',cs'⟩→(⟨ds,fs⟩:Pg)≠⟨ds',fs'⟩:=fun h e=>Vv hx hy h (k6.1 e).1
   (repeat' (first|refine Run.ct rfl ?_|((first|refine Run.reg mixed ?_|refine Run.AJ ?_|(refine AR rfl (fun h=>?_) (fun h=>?_)<;>try (cases h;done)))<;>try simp -implicitDefEqProofs only [BX hlt,he,he',AE,go_sem])|(refine ⟨fun h=>?_,fun h=>?_⟩<;>first|(cases h;done)|try simp only [h])|fail))
   refine Run.SD mixed ?_
   simp -implicitDefEqProofs only [BX hlt,he,he',AE,and_self,go_sem]
   by_cases hcc:n=n'
   rotate_left
   · rw [Dr (hne fun e=>hcc (j9.1 e).1)]
     (repeat' (first|refine Run.ct rfl ?_|((first|refine Run.reg mixed ?_|refine Run.AJ ?_|refine Run.A9 Dl (AN.le_refl _) ?_|(refine AR rfl (fun h=>?_) (fun h=>?_)<;>try (cases h;done)))<;>try simp -implicitDefEqProofs only [BO,Vn hcc,go_sem])|(refine ⟨fun h=>?_,fun h=>?_⟩<;>first|(cases h;done)|try simp only [h])|fail))
   subst hcc
   by_cases hvv:vs=vs'
   rotate_left
   · rw [Dr (hne fun e=>hvv (j9.1 e).2.1)]
     rw [Dr hvv] at hv
     (repeat' (first|refine Run.ct rfl ?_|((first|refine Run.reg mixed ?_|refine Run.AJ ?_|refine Run.A9 Dl (AN.le_refl _) ?_|refine AH.det (hv) ?_|(refine AR rfl (fun h=>?_) (fun h=>?_)<;>try (cases h;done)))<;>try simp -implicitDefEqProofs only [BO,beq_self_eq_true,go_sem])|(refine ⟨fun h=>?_,fun h=>?_⟩<;>first|(cases h;done)|try simp only [h])|fail))
   subst hvv
   rw [QV] at hv
   by_cases hl:cs.length=cs'.length
   rotate_left
   · rw [Dr (hne fun e=>Rw hl (j9.1 e).2.2)]
     (repeat' (first|refine Run.ct rfl ?_|((first|refine Run.reg mixed ?_|refine Run.AJ ?_|refine Run.A9 Dl (AN.le_refl _) ?_|refine AH.det (hv) ?_|(refine AR rfl (fun h=>?_) (fun h=>?_)<;>try (cases h;done)))<;>try simp -implicitDefEqProofs only [BO,beq_self_eq_true,AE,Rv hl,go_sem])|(refine ⟨fun h=>?_,fun h=>?_⟩<;>first|(cases h;done)|try simp only [h])|fail))
   (repeat' (first|refine Run.ct rfl ?_|((first|refine Run.reg mixed ?_|refine Run.AJ ?_|refine AH.det (hv) ?_|(refine AR rfl (fun h=>?_) (fun h=>?_)<;>try (cases h;done)))<;>try simp -implicitDefEqProofs only [BO,beq_self_eq_true,bne_self_eq_false,AE,hl,go_sem])|(refine ⟨fun h=>?_,fun h=>?_⟩<;>first|(cases h;done)|try simp only [h])|fail))
   refine Run.cell 6 2 rfl rfl (fun hb2=>?_)
   have hb2:cs.length≤9223372036854775807:=by simpa [AV.FA] using hb2
   refine Run.Be ?_
   refine Run.Bn ((fun (a2:AV) (a3:AV) (a5:AV) (a6:AV) (a7:AV)=>fun (k:Nat)=>put 2 a2 (put 3 a3 (put 5 a5 (put 6 a6 (put 7 a7 (put 8 (.d (.int .i64 k)) U)))))) _ _ _ _ _) (fun _=>eqD ds fs ds' fs' n vs cs cs') (fun _=>σ) (fun k=>k≤cs.length∧cs.take k=cs'.take k) (fun k=>cs.length - k) ?_ 0 ⟨by simp,by simp⟩
   rintro k ⟨hk,htk⟩ ihk
   by_cases hltk:k < cs.length
   · obtain ⟨c,hcx⟩:=Bw hltk
     obtain ⟨d,hdx⟩:=Bw (show k < cs'.length by omega)
     have hce:=Bh (enc:=CE.enc) hcx
     have hde:=Bh (enc:=CE.enc) hdx
     have hwk:IntKind.i64.wrap ((k:Int)+1)=((k+1:Nat):Int):=by rw [Ax (by omega) (by omega)];omega
     obtain ⟨m,l⟩:=c
     obtain ⟨m',l'⟩:=d
     simp only [CE.enc] at hce hde
     have hnc:¬(⟨m,l⟩:CE)=⟨m',l'⟩→(⟨ds,fs⟩:Pg)≠⟨ds',fs'⟩:=fun h=>hne fun e=>Vv hcx hdx h (j9.1 e).2.2
     by_cases hm:m=m'
     rotate_left
     · rw [Dr (hnc fun e=>hm (pD.1 e).1)]
       (repeat' (first|refine Run.ct rfl ?_|((first|refine Run.reg mixed ?_|refine Run.AJ ?_|refine Run.A9 Dl (AN.le_refl _) ?_|(refine AR rfl (fun h=>?_) (fun h=>?_)<;>try (cases h;done)))<;>try simp -implicitDefEqProofs only [BX hltk,hce,hde,AE,BO,Vn hm,go_sem])|(refine ⟨fun h=>?_,fun h=>?_⟩<;>first|(cases h;done)|try simp only [h])|fail))
     subst hm
     by_cases hll:l.length=l'.length
     rotate_left
     · rw [Dr (hnc fun e=>Rw hll (pD.1 e).2)]
       (repeat' (first|refine Run.ct rfl ?_|((first|refine Run.reg mixed ?_|refine Run.AJ ?_|refine Run.A9 Dl (AN.le_refl _) ?_|(refine AR rfl (fun h=>?_) (fun h=>?_)<;>try (cases h;done)))<;>try simp -implicitDefEqProofs only [BX hltk,hce,hde,AE,BO,beq_self_eq_true,Rv hll,go_sem])|(refine ⟨fun h=>?_,fun h=>?_⟩<;>first|(cases h;done)|try simp only [h])|fail))
     (repeat' (first|refine Run.ct rfl ?_|((first|refine Run.reg mixed ?_|refine Run.AJ ?_|(refine AR rfl (fun h=>?_) (fun h=>?_)<;>try (cases h;done)))<;>try simp -implicitDefEqProofs only [BX hltk,hce,hde,AE,BO,beq_self_eq_true,bne_self_eq_false,hll,go_sem])|(refine ⟨fun h=>?_,fun h=>?_⟩<;>first|(cases h;done)|try simp only [h])|fail))
     refine Run.Be ?_
     refine Run.Bn ((fun (a2:AV) (a3:AV) (a5:AV) (a6:AV) (a7:AV) (a8:AV)=>fun (z:Nat)=>put 2 a2 (put 3 a3 (put 5 a5 (put 6 a6 (put 7 a7 (put 8 a8 (put 9 (.d (.int .i64 z)) U))))))) _ _ _ _ _ _) (fun _=>eqD ds fs ds' fs' n vs cs cs') (fun _=>σ) (fun z=>z≤l.length∧l.take z=l'.take z) (fun z=>l.length - z) ?_ 0 ⟨by simp,by simp⟩
     rintro z ⟨hz,htz⟩ ihz
     by_cases hltz:z < l.length
     · obtain ⟨t,htx⟩:=Bw hltz
       obtain ⟨w,hwx⟩:=Bw (show z < l'.length by omega)
       have hte:=Bh (enc:=TE.enc) htx
       have hwe:=Bh (enc:=TE.enc) hwx
       have hc:=Vu t.size t w (A7 _) σ
       have hls:=hsz _ (Ae hx) _ (Ae hcx)
       simp only at hls
       have hwz:IntKind.i64.wrap ((z:Int)+1)=((z+1:Nat):Int):=by rw [Ax (by omega) (by omega)];omega
       by_cases hxy:t=w
       · subst hxy
         rw [QV] at hc
         obtain ⟨k0,n0,l0⟩:=t
         simp only [teA,TE.A0,AF,AI] at hte hwe hc
         (repeat' (first|refine Run.ct rfl ?_|((first|refine Run.reg mixed ?_|refine Run.AJ ?_|refine AH.det (hc) ?_|(refine AR rfl (fun h=>?_) (fun h=>?_)<;>try (cases h;done)))<;>try simp -implicitDefEqProofs only [BX hltz,BX hltk,hce,hde,hte,hwe,AE,hwz,go_sem])|(refine ⟨fun h=>?_,fun h=>?_⟩<;>first|(cases h;done)|try simp only [h])|fail))
         exact ihz (z+1) ⟨by omega,Ib htz htx hwx⟩ (by omega)
       · rw [Dr (hnc fun e=>Vv htx hwx hxy (pD.1 e).2)]
         rw [Dr hxy] at hc
         obtain ⟨k0,n0,l0⟩:=t
         obtain ⟨k1,n1,l1⟩:=w
         simp only [teA,TE.A0,AF,AI] at hte hwe hc
         (repeat' (first|refine Run.ct rfl ?_|((first|refine Run.reg mixed ?_|refine Run.AJ ?_|refine Run.A9 Dl (AN.le_refl _) ?_|refine AH.det (hc) ?_|(refine AR rfl (fun h=>?_) (fun h=>?_)<;>try (cases h;done)))<;>try simp -implicitDefEqProofs only [BX hltz,BX hltk,hce,hde,hte,hwe,AE,go_sem])|(refine ⟨fun h=>?_,fun h=>?_⟩<;>first|(cases h;done)|try simp only [h])|fail))
     · have hle:=LN htz hll hltz
       subst hle
       (repeat' (first|refine Run.ct rfl ?_|((first|refine Run.reg mixed ?_|refine Run.AJ ?_|(refine AR rfl (fun h=>?_) (fun h=>?_)<;>try (cases h;done)))<;>try simp -implicitDefEqProofs only [F2 hltz,BX hltk,hce,hde,AE,hwk,go_sem])|(refine ⟨fun h=>?_,fun h=>?_⟩<;>first|(cases h;done)|try simp only [h])|fail))
       exact ihk (k+1) ⟨by omega,Ib htk hcx hdx⟩ (by omega)
   · have hce:=LN htk hl hltk
     subst hce
     (repeat' (first|refine Run.ct rfl ?_|((first|refine Run.reg mixed ?_|refine Run.AJ ?_|(refine AR rfl (fun h=>?_) (fun h=>?_)<;>try (cases h;done)))<;>try simp -implicitDefEqProofs only [F2 hltk,AE,hw1,go_sem])|(refine ⟨fun h=>?_,fun h=>?_⟩<;>first|(cases h;done)|try simp only [h])|fail))
     exact ih (i+1) ⟨by omega,Ib ht hx hy⟩ (by omega)
 have hde:=LN ht hd hlt
 subst hde
 (repeat' (first|refine Run.ct rfl ?_|((first|refine Run.reg mixed ?_|refine Run.AJ ?_|(refine AR rfl (fun h=>?_) (fun h=>?_)<;>try (cases h;done)))<;>try simp -implicitDefEqProofs only [F2 hlt,AE,go_sem])|(refine ⟨fun h=>?_,fun h=>?_⟩<;>first|(cases h;done)|try simp only [h])|fail))
 refine Run.Be ?_
 refine Run.Bn ((fun (a2:AV) (a3:AV)=>fun (i:Nat)=>put 2 a2 (put 3 a3 (put 10 (.d (.int .i64 i)) U))) _ _) (fun _=>eqL ds fs ds fs') (fun _=>σ) (fun i=>i≤fs.length∧fs.take i=fs'.take i) (fun i=>fs.length - i) ?_ 0 ⟨by simp,by simp⟩
 rintro g ⟨hg,htg⟩ ihg
 by_cases hltg:g < fs.length
 · obtain ⟨x,hx⟩:=Bw hltg
   obtain ⟨y,hy⟩:=Bw (show g < fs'.length by omega)
   have he:=Bh (enc:=FE.enc) hx
   have he':=Bh (enc:=FE.enc) hy
   have hw1:IntKind.i64.wrap ((g:Int)+1)=((g+1:Nat):Int):=by rw [Ax (by omega) (by omega)];omega
   obtain ⟨n,ps,b⟩:=x
   obtain ⟨n',ps',b'⟩:=y
   have hv:=MU ps ps' σ
   have hc:=RP b.size b b' (A7 _) σ
   have hne:¬(⟨n,ps,b⟩:FE)=⟨n',ps',b'⟩→(⟨ds,fs⟩:Pg)≠⟨ds,fs'⟩:=fun h e=>Vv hx hy h (k6.1 e).2
   by_cases hcc:n=n'
   rotate_left
   · rw [Dr (hne fun e=>hcc (pZ.1 e).1)]
     obtain ⟨o0,n0,u0,ns0,ks0,al0⟩:=b
     obtain ⟨o1,n1,u1,ns1,ks1,al1⟩:=b'
     simp only [FE.enc,Ex.A0,AY,A6] at he he'
     (repeat' (first|refine Run.ct rfl ?_|((first|refine Run.reg mixed ?_|refine Run.AJ ?_|refine Run.A9 Dl (AN.le_refl _) ?_|(refine AR rfl (fun h=>?_) (fun h=>?_)<;>try (cases h;done)))<;>try simp -implicitDefEqProofs only [BX hltg,he,he',AE,BO,Vn hcc,go_sem])|(refine ⟨fun h=>?_,fun h=>?_⟩<;>first|(cases h;done)|try simp only [h])|fail))
   subst hcc
   by_cases hvv:ps=ps'
   rotate_left
   · rw [Dr (hne fun e=>hvv (pZ.1 e).2.1)]
     rw [Dr hvv] at hv
     obtain ⟨o0,n0,u0,ns0,ks0,al0⟩:=b
     obtain ⟨o1,n1,u1,ns1,ks1,al1⟩:=b'
     simp only [FE.enc,Ex.A0,AY,A6] at he he'
     (repeat' (first|refine Run.ct rfl ?_|((first|refine Run.reg mixed ?_|refine Run.AJ ?_|refine Run.A9 Dl (AN.le_refl _) ?_|refine AH.det (hv) ?_|(refine AR rfl (fun h=>?_) (fun h=>?_)<;>try (cases h;done)))<;>try simp -implicitDefEqProofs only [BX hltg,he,he',AE,BO,beq_self_eq_true,go_sem])|(refine ⟨fun h=>?_,fun h=>?_⟩<;>first|(cases h;done)|try simp only [h])|fail))
   subst hvv
   rw [QV] at hv
   by_cases hxy:b=b'
   · subst hxy
     rw [QV] at hc
     obtain ⟨o0,n0,u0,ns0,ks0,al0⟩:=b
     simp only [exA,FE.enc,Ex.A0,AY,A6,AF,AI] at he he' hc
     (repeat' (first|refine Run.ct rfl ?_|((first|refine Run.reg mixed ?_|refine Run.AJ ?_|refine AH.det (hv) ?_|refine AH.det (hc) ?_|(refine AR rfl (fun h=>?_) (fun h=>?_)<;>try (cases h;done)))<;>try simp -implicitDefEqProofs only [BX hltg,he,he',hw1,AE,BO,beq_self_eq_true,go_sem])|(refine ⟨fun h=>?_,fun h=>?_⟩<;>first|(cases h;done)|try simp only [h])|fail))
     exact ihg (g+1) ⟨by omega,Ib htg hx hy⟩ (by omega)
   · rw [Dr (hne fun e=>hxy (pZ.1 e).2.2)]
     rw [Dr hxy] at hc
     obtain ⟨o0,n0,u0,ns0,ks0,al0⟩:=b
     obtain ⟨o1,n1,u1,ns1,ks1,al1⟩:=b'
     simp only [exA,FE.enc,Ex.A0,AY,A6,AF,AI] at he he' hc
     (repeat' (first|refine Run.ct rfl ?_|((first|refine Run.reg mixed ?_|refine Run.AJ ?_|refine Run.A9 Dl (AN.le_refl _) ?_|refine AH.det (hv) ?_|refine AH.det (hc) ?_|(refine AR rfl (fun h=>?_) (fun h=>?_)<;>try (cases h;done)))<;>try simp -implicitDefEqProofs only [BX hltg,he,he',AE,BO,beq_self_eq_true,go_sem])|(refine ⟨fun h=>?_,fun h=>?_⟩<;>first|(cases h;done)|try simp only [h])|fail))
 · have hfe:=LN htg hf hltg
   subst hfe
   rw [QV]
   (repeat' (first|refine Run.ct rfl ?_|((first|refine Run.reg mixed ?_|refine Run.AJ ?_|refine Run.A9 Dl (AN.le_refl _) ?_|(refine AR rfl (fun h=>?_) (fun h=>?_)<;>try (cases h;done)))<;>try simp -implicitDefEqProofs only [F2 hltg,AE,go_sem])|(refine ⟨fun h=>?_,fun h=>?_⟩<;>first|(cases h;done)|try simp only [h])|fail))
end Go.Ab
namespace Go.Ab
open Go.Proofs
theorem jS {p:Pg} (h:CW p=true):∀d∈p.data,∀c∈d.cons,c.args.length≤1000000:=fun d hd c hc=>by
 have:=(LO h).1.2 d hd
 simp only [GP,AL,decide_eq_true_eq,A5] at this
 have:=this.2 c hc
 simp only [Q9,AL,decide_eq_true_eq] at this
 omega
theorem AA1 (n:Nat):decide ((16384:Int) < (n:Int))=decide (16384 < n):=decide_eq_decide.2 (by omega)
end Go.Ab
namespace Go.Ab
open Go.Proofs
theorem WL {a:Str} (h:(C8 a).2.2=0):∀d∈(C8 a).1.data,∀c∈d.cons,∀t∈c.args,t.size≤17000:=by
 obtain ⟨h1,h2,h3,_⟩:=Oi h
 obtain ⟨w,o⟩:=PI h1
 rw [h3]
 exact WQ w (by have:=o.1;omega) h2
theorem WM {a:Str} (h:(C8 a).2.2=0):CW (C8 a).1=true:=by
 obtain ⟨_,_,_,h4⟩:=Oi h
 first|exact h4|exact h4.1
end Go.Ab
namespace Go.Ab
open Go.Proofs
theorem pQ (ds:List DE):∀r∈ds.map DE.enc,r.length=3:=fun r hr=>by
 obtain ⟨d,_,rfl⟩:=Gl.1 hr
 rfl
theorem pY (fs:List FE):∀r∈fs.map FE.enc,r.length=8:=fun r hr=>by
 obtain ⟨⟨n,ps,⟨o,m,u,ns,ks,al⟩⟩,_,rfl⟩:=Gl.1 hr
 rfl
theorem yZ {σ:AN} {t1 t2 t3 t4:Nat} (h1:σ.tok t1=false) (h2:(σ.BW t1).tok t2=false) (h3:(((σ.BW t1).C6 t1).BW t2).tok t3=false)
 (h4:((((σ.BW t1).C6 t1).BW t2).BW t3).tok t4=false):σ.le ((((((σ.BW t1).C6 t1).BW t2).BW t3).C6 t3).BW t4):=by
 refine ⟨fun _ _ h=>h,fun u hu=>?_,rfl,fun _ _ h=>h⟩
 have n1:u≠t1:=fun e=>by rw [e,h1] at hu;cases hu
 have n3:u≠t3:=fun e=>by
  subst e
  simp [AN.BW,AN.C6,n1,hu] at h3
 simp [AN.BW,AN.C6,n1,n3,hu]
theorem Yu (a b:Str) (σ:AN) (hg:WV σ) (hp:σ.gt Qq=some Sz):AQ Tryz.prog 9 [.d (.str a),.d (.str b)] σ (fun v σ'=>v= .d (.bool true)∧σ'=σ):=by
 have haw:=Ru σ hg hp
 have hpa:=II a σ hg
 have hpb:=II b σ hg
 have hpc:=fun τ h=>II (a++10::b) τ h
 refine Tt (by simp) ?_
 rw [BI]
 refine Run.slot 0 (fun hb0=>?_)
 refine Run.slot 1 (fun hb1=>?_)
 have hb0:a.length≤9223372036854775807:=by simpa [HX,AV.FA] using hb0
 have hb1:b.length≤9223372036854775807:=by simpa [HX,AV.FA] using hb1
 have hva:=WM (a:=a)
 have hvb:=WM (a:=b)
 have hsa:=WL (a:=a)
 have hsb:=WL (a:=b)
 have hla:(C8 a).2.2=0→a.length≤16384:=fun h=>by
  have:=(Oi h).1
  unfold Am at this
  split at this
  · cases this
  · omega
 have hlb:(C8 b).2.2=0→b.length≤16384:=fun h=>by
  have:=(Oi h).1
  unfold Am at this
  split at this
  · cases this
  · omega
 have hrw:=iP (a:=a) (b:=b)
 generalize C8 (a++10::b)=r3 at hpc hrw
 generalize C8 a=r1 at hpa hva hsa hla hrw
 generalize C8 b=r2 at hpb hvb hsb hlb hrw
 obtain ⟨⟨ds,fs⟩,at1,c1⟩:=r1
 obtain ⟨⟨ds',fs'⟩,at2,c2⟩:=r2
 obtain ⟨p3,at3,c3⟩:=r3
 simp only [tP] at hva hvb hsa hsb hla hlb hrw
 simp only [eE,pgA,Pg.enc,AF,AI] at hpa hpb hpc
 by_cases h1:c1=0
 rotate_left
 · (repeat' (first|refine Run.ct rfl ?_|((first|refine Run.reg mixed ?_|refine Run.AJ ?_|refine Run.A9 Dk (AN.le_refl _) ?_|refine AH.det (hpa) ?_|refine AH.det (hpb) ?_|refine AH.det (haw) ?_|(refine AR rfl (fun h=>?_) (fun h=>?_)<;>try (cases h;done)))<;>try simp -implicitDefEqProofs only [Xt h1,go_sem])|(refine ⟨fun h=>?_,fun h=>?_⟩<;>first|(cases h;done)|try simp only [h])|fail))
 subst h1
 by_cases h2:c2=0
 rotate_left
 · (repeat' (first|refine Run.ct rfl ?_|((first|refine Run.reg mixed ?_|refine Run.AJ ?_|refine Run.A9 Dk (AN.le_refl _) ?_|refine AH.det (hpa) ?_|refine AH.det (hpb) ?_|refine AH.det (haw) ?_|(refine AR rfl (fun h=>?_) (fun h=>?_)<;>try (cases h;done)))<;>try simp -implicitDefEqProofs only [Xt h2,bne_self_eq_false,go_sem])|(refine ⟨fun h=>?_,fun h=>?_⟩<;>first|(cases h;done)|try simp only [h])|fail))
 subst h2
 have hva:=hva rfl
 have hvb:=hvb rfl
 have hsa:=hsa rfl
 have hsb:=hsb rfl
 have hla:=hla rfl
 have hlb:=hlb rfl
 have hw1:IntKind.i64.wrap ((a.length:Int)+(b.length:Int))=((a.length+b.length:Nat):Int):=by rw [Ax (by omega) (by omega)];omega
 have hw2:IntKind.i64.wrap (((a.length+b.length:Nat):Int)+1)=((a.length+b.length+1:Nat):Int):=by rw [Ax (by omega) (by omega)];omega
 by_cases hl:16384 < a.length+b.length+1
 · (repeat' (first|refine Run.ct rfl ?_|((first|refine Run.reg mixed ?_|refine Run.AJ ?_|refine Run.A9 Dk (AN.le_refl _) ?_|refine AH.det (hpa) ?_|refine AH.det (hpb) ?_|refine AH.det (haw) ?_|(refine AR rfl (fun h=>?_) (fun h=>?_)<;>try (cases h;done)))<;>try simp -implicitDefEqProofs only [bne_self_eq_false,hw1,hw2,AA1,decide_eq_true hl,go_sem])|(refine ⟨fun h=>?_,fun h=>?_⟩<;>first|(cases h;done)|try simp only [h])|fail))
 (repeat' (first|refine Run.ct rfl ?_|((first|refine Run.reg mixed ?_|refine Run.AJ ?_|refine AH.det (hpa) ?_|refine AH.det (hpb) ?_|(refine AR rfl (fun h=>?_) (fun h=>?_)<;>try (cases h;done)))<;>try simp -implicitDefEqProofs only [bne_self_eq_false,hw1,hw2,AA1,decide_eq_false hl,go_sem])|(refine ⟨fun h=>?_,fun h=>?_⟩<;>first|(cases h;done)|try simp only [h])|fail))
 obtain ⟨⟨hd1,_⟩,hf1,_⟩:=LO hva
 obtain ⟨⟨hd2,_⟩,hf2,_⟩:=LO hvb
 simp only at hd1 hf1 hd2 hf2
 have hm:(1000:Nat)≤maxLen:=by decide+kernel
 refine Io.mk (rows:=[]) (srows:=ds.map DE.enc) (σ1:=σ) rfl rfl (pQ ds) (by simp only [AE,AG];omega) (by simp only [AE,AG];omega) (fun t1 ht1=>?_)
 simp -implicitDefEqProofs only [go_sem]
 refine Io.mk (rows:=ds.map DE.enc) (srows:=ds'.map DE.enc) (σ1:=(σ.BW t1).C6 t1) (by simp [Np,AN.BW]) rfl (pQ ds') (by simp only [AE];omega) (by simp only [AE];omega) (fun t2 ht2=>?_)
 simp -implicitDefEqProofs only [go_sem]
 refine Io.mk (rows:=[]) (srows:=fs.map FE.enc) (σ1:=((σ.BW t1).C6 t1).BW t2) rfl rfl (pY fs) (by simp only [AE,AG];omega) (by simp only [AE,AG];omega) (fun t3 ht3=>?_)
 simp -implicitDefEqProofs only [go_sem]
 refine Io.mk (rows:=fs.map FE.enc) (srows:=fs'.map FE.enc) (σ1:=((((σ.BW t1).C6 t1).BW t2).BW t3).C6 t3) (by simp [Np,AN.BW]) rfl (pY fs') (by simp only [AE];omega) (by simp only [AE];omega) (fun t4 ht4=>?_)
 have hle:=yZ ht1 ht2 ht3 ht4
 generalize (((((σ.BW t1).C6 t1).BW t2).BW t3).C6 t3).BW t4=τ at hle ⊢
 have hg4:WV τ:=by obtain ⟨te,pe,h⟩:=hg;exact ⟨te,pe,by rw [← hle.gt];exact h⟩
 have hp4:τ.gt Qq=some Sz:=by rw [← hle.gt];exact hp
 have haw4:=Ru τ hg4 hp4
 have hpc4:=hpc τ hg4
 have ha1:=Fe (a:=a) (b:=[10]) (by simp only [AD,AG];omega)
 have ha2:Z1 .add (a++[10]) b=some (.d (.str (a++10::b))):=by
  rw [Fe (by simp only [AA,AD,AG];omega)];simp
 have hsm:∀d∈ds++ds',∀c∈d.cons,∀t∈c.args,t.size≤17000:=fun d hd=>by
  rcases BV.1 hd with hd|hd
  · exact hsa d hd
  · exact hsb d hd
 have hvl:=eN ⟨ds++ds',fs++fs'⟩ τ (fun d hd c hc t ht=>Ay (hsm d hd c hc t ht) (by omega))
 have heq:=fun h=>eM ⟨ds++ds',fs++fs'⟩ ⟨ds++ds',fs++fs'⟩ τ (jS h)
 rw [QV] at heq
 simp only [pgA,Pg.enc,AF,AI,BU,eE] at hvl heq hpc4
 have hvl:=AQ.plain (f:=20) (args:=[.agg [.own t2 61 3 (ds.map DE.enc++ds'.map DE.enc),.own t4 66 8 (fs.map FE.enc++fs'.map FE.enc)]]) (by simp only [AV.Ef,AV.plain];exact hvl)
 have heq:=fun h=>AQ.plain (f:=14) (args:=[.agg [.d (.sl (ds.map DE.enc++ds'.map DE.enc)),.d (.sl (fs.map FE.enc++fs'.map FE.enc))],.agg [.own t2 61 3 (ds.map DE.enc++ds'.map DE.enc),.own t4 66 8 (fs.map FE.enc++fs'.map FE.enc)]]) (by simp only [AV.Ef,AV.plain];exact heq h)
 have hrw:(p3,c3)=if CW ⟨ds++ds',fs++fs'⟩=true then ((⟨ds++ds',fs++fs'⟩:Pg),(0:Int)) else (⟨[],[]⟩,9):=hrw rfl rfl (by omega)
 simp -implicitDefEqProofs only [go_sem]
 cases hvv:CW ⟨ds++ds',fs++fs'⟩ with
 |false=>
  rw [hvv] at hvl hrw
  simp only [AU,if_false,BH] at hrw
  obtain ⟨e1,e2⟩:=hrw
  subst e1 e2
  (repeat' (first|refine Run.ct rfl ?_|((first|refine Run.reg mixed ?_|refine Run.AJ ?_|(refine Run.A9 Dk (σ2:=σ) hle ?_)|refine AH.det (hpc4) ?_|refine AH.det (hvl) ?_|refine AH.det (haw4) ?_|(refine AR rfl (fun h=>?_) (fun h=>?_)<;>try (cases h;done)))<;>try simp -implicitDefEqProofs only [ha1,ha2,A3,beq_self_eq_true,go_sem])|(refine ⟨fun h=>?_,fun h=>?_⟩<;>first|(cases h;done)|try simp only [h])|fail))
 |true=>
  rw [hvv] at hvl hrw
  simp only [if_true,BH] at hrw
  obtain ⟨e1,e2⟩:=hrw
  subst e1 e2
  have heq:=heq hvv
  (repeat' (first|refine Run.ct rfl ?_|((first|refine Run.reg mixed ?_|refine Run.AJ ?_|(refine Run.A9 Dk (σ2:=σ) hle ?_)|refine AH.det (hpc4) ?_|refine AH.det (hvl) ?_|refine AH.det (heq) ?_|refine AH.det (haw4) ?_|(refine AR rfl (fun h=>?_) (fun h=>?_)<;>try (cases h;done)))<;>try simp -implicitDefEqProofs only [ha1,ha2,A3,beq_self_eq_true,BU,go_sem])|(refine ⟨fun h=>?_,fun h=>?_⟩<;>first|(cases h;done)|try simp only [h])|fail))
end Go.Ab
namespace Go.Ab
open Go.Proofs
theorem Wo (te:TypeId) (pe:Value) (av:List AV) (h:XE Tryz.prog [9,9] av):AQ Tryz.prog 9 av (Lf (gtT te pe)) (fun v _=>v= .d (.bool true)):=by
 obtain ⟨x0,x1,rfl⟩:=lQ h
 exact (Yu x0 x1 (Lf (gtT te pe)) (uE te pe) (uF te pe)).mono (fun _ _ h=>h.1)
end Go.Ab
namespace Go.Proofs.YtifplkldbbcldaaGreatDoor
open Go.ChangeShapes Go.WideShapes Go.ChangeAt Go.RowKit
set_option maxRecDepth 100000 in
theorem VE (os:Os) (started:os.Started) (H:Type) (enc:TypeId×Value→H):
 ReturnsInHanded {} Tryz.checked os 9 .any (fun w args=>(Rows.syntaxRowsSpec.pre enc Tryz.prog Tryz.f9 [] false w args∧laidMetH Tryz.prog dT w)∧sizedMet enc Tryz.prog Tryz.f9 (OpenSpec.ofChange Rows.syntaxRowsSpec) false w args)
  (Rows.syntaxRowsSpec.post enc Tryz.prog Tryz.f9 false true false false):=by
 refine returnsInHanded_of_change_and (C:=Tryz.checked) (X:=fun w _=>laidMetH Tryz.prog dT w) (fun _ _ _ hh h=>h.of_heap hh) Tryz.own started (by kernel_rfl) Tryz.func9
  (ChangeSpec.witness_shaped (enc:=enc) (C:=Tryz.checked) (os:=os) (X:=fun w _=>laidMetH Tryz.prog dT w) false (World.doorLaid Tryz.prog 400 os) #[.string ⟨#[]⟩,.string ⟨#[]⟩] 8 rfl (World.shaped_of_RefB (by kernel_rfl) (by kernel_rfl)) (by kernel_rfl) (by kernel_rfl) (by kernel_rfl) (pS os _)) ?_
 intro W base args ds gs before hval hW _ _ hL _
 obtain ⟨te,pe,hT⟩:=uG hL
 refine Go.Ab.ZV (P:=Tryz.prog) (gt:=Go.Ab.gtT te pe) [9] Tryz.laidOut (by kernel_rfl) ?_ ?_ (tb:=4) (by kernel_rfl) Tryz.underlying4 rfl ?_ ?_ W hT base args ds gs before hval hW
 · rw [Tryz.params9];simp
 · rw [Tryz.params9]
   intro t ht
   simp only [Bv,List.not_mem_nil,or_false,or_self] at ht
   subst ht
   exact ⟨by kernel_rfl,of_decide_eq_true (by kernel_rfl)⟩
 · rw [Tryz.params9]
   intro ds hd
   match ds,hd with
   |[d0,d1],_=>rfl
 · rw [Tryz.params9]
   exact Go.Ab.Wo te pe
theorem Yf:Rows.SyntaxRowsSaid:=
 OpenClaim.holds_of_wide 9 Tryz.f9 rfl rfl rfl rfl rfl rfl rfl ⟨rfl,rfl,rfl,rfl,rfl⟩ rfl rfl rfl rfl rfl (by kernel_rfl) Tryz.func9 (by kernel_rfl)
  (of_decide_eq_true (by kernel_rfl)) (by unfold Func.isWrapper;first|(rw [if_pos (by decide+kernel)];kernel_rfl)|(rw [if_neg (by decide+kernel)];exact ⟨rfl,rfl⟩))
  (fun os started H enc _=>VE os started H enc)
theorem syntaxRows_holds:Rows.SyntaxRowsCardSaid:=
 Claim7.holds_tied_plain_at .later [] [.data,.data,.data,.sentinel,.sentinel] true (true,"21a277a3e8a610eced9e93bcce68d99d4ad37844a2772ead4278e0ed35489f0c") true
  Yf (fun _ h=>by cases h) (by kernel_rfl) (fun _ h=>by cases h) syntaxRows_row_tie rfl ⟨rfl,rfl⟩ (by kernel_rfl) rfl
  (fun f fn hf hfn=>by
    obtain rfl:f=9:=Gj ((show Tryz.prog.funcNamed "amortcost/amortcostlaw04.SyntaxRows"=some 9 by kernel_rfl).symm.trans hf)|>.symm
    obtain rfl:fn=Tryz.f9:=(Gj (Tryz.func9.symm.trans hfn)).symm
    exact ⟨by kernel_rfl,fun j t ht=>by
     rw [Tryz.params9] at ht
     have hm:t∈[9,9]:=by simpa using Array.mem_of_getElem? ht
     have hall:([9,9].all fun u=>!Tryz.prog.wantsStandIn u)=true:=by kernel_rfl
     exact (show Tryz.prog.wantsStandIn t=false by simpa using A5.1 hall t hm)⟩)
  (by kernel_rfl)
end Go.Proofs.YtifplkldbbcldaaGreatDoor
#print axioms Go.Proofs.YtifplkldbbcldaaGreatDoor.syntaxRows_holds
