/- Texts split into tokens, as the reference does it. Lists searched with a function. Conditions: none. -/
import Derived.Test.YtlckhmkeihbhmaaGreatXXc
set_option linter.unusedSimpArgs false
set_option linter.unusedVariables false
set_option maxRecDepth 4000
set_option maxHeartbeats 8000000
open List renaming getElem?_drop→BL,getElem?_eq_none→BP,getElem?_eq_some_iff→AR,length_drop→BZ,drop_take→Iy,drop_drop→ED,length_append→AT,mem_singleton→B6,length_take→Ae,drop_length→Ja,findIdx?_eq_some_iff_getElem→jM,mem_append→A6,length_map→AA,mem_of_getElem?→AS,take_of_length_le→AG,any_eq_not_all_not→LV,map_cons→AH,map_nil→AM
open Nat renaming lt_or_ge→Bt,add_zero→D5,add_sub_cancel_left→LX,le_refl→A0
open Bool renaming false_eq_true→AZ,or_eq_false_iff→Ix,and_true→Az,and_false→Bg,true_and→BD,false_and→B2,eq_iff_iff→Af
open Option renaming isSome_some→Br,isSome_none→CD
namespace Go.Ab
open Go.Proofs
theorem Yx (z:UInt8):EE H2 z=(Sc z.toNat||SA z.toNat||Ho z.toNat||((z.toNat:Int)==95)):=rfl
theorem Vi (s:Str) (i:Nat) (x:UInt8) (hx:s[i]?=some x) (hw:EE H2 x=true) (hl:s.length≤16384) (σ1:AF) (a5 a7:AV) (K:AV→AF→Prop) (k:List CI)
 (hk:Run F7 K k (put 0 (.d (.str s)) (put 5 a5 (put 6 (.d (.int .i64 i)) (put 7 a7 (put 8 (.d (.int .i64 (((s.drop i).takeWhile (EE H2)).length:Nat))) U))))) E σ1):
 Run F7 K (.again QB::.blk 5::k) (put 0 (.d (.str s)) (put 5 a5 (put 6 (.d (.int .i64 i)) (put 7 a7 (put 8 (.d (.int .i64 1)) U))))) E σ1:=by
 refine Run.BB ((fun (a0:AV) (a5:AV) (a6:AV) (a7:AV)=>fun (m:Nat)=>put 0 a0 (put 5 a5 (put 6 a6 (put 7 a7 (put 8 (.d (.int .i64 m)) U))))) _ _ _ _) (fun _=>E) (fun _=>σ1) (fun m=>1≤m∧i+m≤s.length∧∀q b,q < m→(s.drop i)[q]?=some b→EE H2 b=true) (fun m=>s.length - m) ?_ 1 ⟨by omega,?_,?_⟩
 · rintro m ⟨h1,hm,hall⟩ ih
   have hw0:=wrap_add (show i+m≤9000000000000000000 by omega)
   have hw1:=A7 (show m+1≤9000000000000000000 by omega)
   have hend:(∀b,(s.drop i)[m]?=some b→EE H2 b=false)→((s.drop i).takeWhile (EE H2)).length=m:=fun h=>by
    rw [EX hall (by simp;omega) h];simp;omega
   by_cases hlt:i+m < s.length
   · obtain ⟨z,hz⟩:=Aw hlt
     have hz2:(s.drop i)[m]?=some z:=by rw [BL];exact hz
     have hstep:EE H2 z=true→∀q b,q < m+1→(s.drop i)[q]?=some b→EE H2 b=true:=fun hc q b hq hb=>by
      rcases Bt q m with h2|h2
      · exact hall q b h2 hb
      · have:q=m:=by omega
        subst this;rw [hz2] at hb;cases hb;exact hc
     (repeat' (first|refine Run.ct rfl ?_|((first|refine Run.reg mixed ?_|refine Run.AD ?_|refine AI.det (Ha _ _) ?_|refine AI.det (Hb _ _) ?_|refine AI.det (G5 _ _) ?_|(refine BO rfl (fun h=>?_) (fun h=>?_)<;>try (cases h;done)))<;>try simp -implicitDefEqProofs only [hw0,hw1,A8 hlt,Cr hz,go_sem])|(refine ⟨fun h=>?_,fun h=>?_⟩<;>first|(cases h;done)|try simp only [h])|fail))
     all_goals first
      |exact ih (m+1) ⟨by omega,by omega,hstep (by simp_all [Yx])⟩ (by omega)
      |(rw [hend (fun b hb=>by rw [hz2] at hb;cases hb;simp_all [Yx])] at hk;refine Run.Ma [0,5,6,7,8] ?_;simp -implicitDefEqProofs only [go_sem];exact hk)
   · (repeat' (first|refine Run.ct rfl ?_|((first|refine Run.reg mixed ?_|refine Run.AD ?_)<;>try simp -implicitDefEqProofs only [hw0,B8 hlt,go_sem])|fail))
     rw [hend (fun b hb=>by rw [BL,BP (by omega)] at hb;cases hb)] at hk
     refine Run.Ma [0,5,6,7,8] ?_;simp -implicitDefEqProofs only [go_sem]
     exact hk
 · have:=(AR.1 hx).1;omega
 · intro q b hq hb
   have:q=0:=by omega
   subst this
   rw [BL,D5,hx] at hb;cases hb;exact hw
theorem Vj (s:Str) (i:Nat) (x:UInt8) (hx:s[i]?=some x) (hw:EE Ho x=true) (hl:s.length≤16384) (σ1:AF) (a5 a7:AV) (K:AV→AF→Prop) (k:List CI)
 (hk:Run F7 K k (put 0 (.d (.str s)) (put 5 a5 (put 6 (.d (.int .i64 i)) (put 7 a7 (put 8 (.d (.int .i64 (((s.drop i).takeWhile (EE Ho)).length:Nat))) U))))) E σ1):
 Run F7 K (.again QC::.blk 7::k) (put 0 (.d (.str s)) (put 5 a5 (put 6 (.d (.int .i64 i)) (put 7 a7 (put 8 (.d (.int .i64 1)) U))))) E σ1:=by
 refine Run.BB ((fun (a0:AV) (a5:AV) (a6:AV) (a7:AV)=>fun (m:Nat)=>put 0 a0 (put 5 a5 (put 6 a6 (put 7 a7 (put 8 (.d (.int .i64 m)) U))))) _ _ _ _) (fun _=>E) (fun _=>σ1) (fun m=>1≤m∧i+m≤s.length∧∀q b,q < m→(s.drop i)[q]?=some b→EE Ho b=true) (fun m=>s.length - m) ?_ 1 ⟨by omega,?_,?_⟩
 · rintro m ⟨h1,hm,hall⟩ ih
   have hw0:=wrap_add (show i+m≤9000000000000000000 by omega)
   have hw1:=A7 (show m+1≤9000000000000000000 by omega)
   have hend:(∀b,(s.drop i)[m]?=some b→EE Ho b=false)→((s.drop i).takeWhile (EE Ho)).length=m:=fun h=>by
    rw [EX hall (by simp;omega) h];simp;omega
   by_cases hlt:i+m < s.length
   · obtain ⟨z,hz⟩:=Aw hlt
     have hz2:(s.drop i)[m]?=some z:=by rw [BL];exact hz
     have hstep:EE Ho z=true→∀q b,q < m+1→(s.drop i)[q]?=some b→EE Ho b=true:=fun hc q b hq hb=>by
      rcases Bt q m with h2|h2
      · exact hall q b h2 hb
      · have:q=m:=by omega
        subst this;rw [hz2] at hb;cases hb;exact hc
     cases hd:Ho z.toNat with
     |true=>
      (repeat' (first|refine Run.ct rfl ?_|((first|refine Run.reg mixed ?_|refine Run.AD ?_|refine AI.det (G5 _ _) ?_)<;>try simp -implicitDefEqProofs only [hw0,hw1,A8 hlt,Cr hz,hd,go_sem])|fail))
      exact ih (m+1) ⟨by omega,by omega,hstep hd⟩ (by omega)
     |false=>
      (repeat' (first|refine Run.ct rfl ?_|((first|refine Run.reg mixed ?_|refine Run.AD ?_|refine AI.det (G5 _ _) ?_)<;>try simp -implicitDefEqProofs only [hw0,hw1,A8 hlt,Cr hz,hd,go_sem])|fail))
      rw [hend (fun b hb=>by rw [hz2] at hb;cases hb;exact hd)] at hk
      refine Run.Ma [0,5,6,7,8] ?_;simp -implicitDefEqProofs only [go_sem]
      exact hk
   · (repeat' (first|refine Run.ct rfl ?_|((first|refine Run.reg mixed ?_|refine Run.AD ?_)<;>try simp -implicitDefEqProofs only [hw0,B8 hlt,go_sem])|fail))
     rw [hend (fun b hb=>by rw [BL,BP (by omega)] at hb;cases hb)] at hk
     refine Run.Ma [0,5,6,7,8] ?_;simp -implicitDefEqProofs only [go_sem]
     exact hk
 · have:=(AR.1 hx).1;omega
 · intro q b hq hb
   have:q=0:=by omega
   subst this
   rw [BL,D5,hx] at hb;cases hb;exact hw
theorem aI {c:UInt8→Bool} (s:Str) (i:Nat) (hi:i≤s.length):PF (.d (.str s)) (some (.d (.int .i64 (i:Int)))) (some (.d (.int .i64 ((i+((s.drop i).takeWhile c).length:Nat):Int))))=some (.d (.str ((s.drop i).takeWhile c))):=by
 have h:=El c (s.drop i)
 rw [BZ] at h
 rw [mF (by omega) (by omega),Iy,LX]
 congr 3
 exact (List.prefix_iff_eq_take.1 (List.takeWhile_prefix c)).symm
theorem mG (s:Str) (i n:Nat) (hi:i≤s.length) (hn:n≤(s.drop i).length):PF (.d (.str s)) (some (.d (.int .i64 (i:Int)))) (some (.d (.int .i64 ((i+n:Nat):Int))))=some (.d (.str ((s.drop i).take n))):=by
 rw [BZ] at hn
 rw [mF (by omega) (by omega),Iy,LX]
theorem aG:∀(b:UInt8) (r:Str),HE (b::r)≤(b::r).length
 |b,[]=>by simp only [HE,Ym];split<;>simp
 |b,c::r=>by
  simp only [HE]
  cases mB b c
  · simp only [Ym,AZ,if_false];split<;>simp
  · simp
set_option maxHeartbeats 4000000 in
theorem Zn (s:Str) (σ:AF):AK Tryz.prog 117 [.d (.str s)] σ (fun v σ'=>v=IH (FH s)∧σ'=σ):=by
 refine cB (by simp) ?_
 rw [Bf]
 by_cases hl:s.length>16384
 · (repeat' (first|refine Run.ct rfl ?_|((first|refine Run.reg mixed ?_|refine Run.AD ?_|refine Run.A1 GU (AF.le_refl _) ?_)<;>try simp -implicitDefEqProofs only [kO,decide_eq_true hl,go_sem])|fail))
   simp [IH,FH,hl]
 · (repeat' (first|refine Run.ct rfl ?_|((first|refine Run.reg mixed ?_|refine Run.AD ?_)<;>try simp -implicitDefEqProofs only [kO,decide_eq_false hl,go_sem])|fail))
   refine Run.Ay ?_
   refine Run.BB ((fun (a0:AV)=>fun (y:Nat×AV×AF)=>put 0 a0 (put 5 (y.2.1) (put 6 (.d (.int .i64 y.1)) U))) _) (fun _=>E) (fun y=>y.2.2) (fun y=>y.1≤s.length∧∃acc n,Cl σ 195 3 (acc.map Tok.enc) y.2.1 y.2.2∧acc.length≤y.1∧s.length - y.1 < n∧FH s=GK n (s.drop y.1) y.1 acc) (fun y=>s.length - y.1) ?_ (0,.AU,σ) ⟨by simp,[],s.length+1,Cl.nil _ _ _,by simp,by simp,by simp [FH,hl]⟩
   rintro ⟨i,v,σ1⟩ ⟨hi,acc,n,ho,hac,hn,hs⟩ ih
   simp only at hi ho hac hn hs
   obtain ⟨n,rfl⟩:∃m,n=m+1:=⟨n - 1,by omega⟩
   by_cases hlt:i < s.length
   · obtain ⟨x,hx⟩:=Aw hlt
     rw [Bc hx,GK] at hs
     have hw1:=A7 (show i+1≤9000000000000000000 by omega)
     have hsl:(x::s.drop (i+1)).length=s.length - i:=by simp;omega
     cases hb:Xx x.toNat with
     |true=>
      rw [hb,if_pos rfl] at hs
      (repeat' (first|refine Run.ct rfl ?_|((first|refine Run.reg mixed ?_|refine Run.AD ?_|(refine BO rfl (fun h=>?_) (fun h=>?_)<;>try (cases h;done)))<;>try simp -implicitDefEqProofs only [A8 hlt,Cr hx,hw1,go_sem])|(refine ⟨fun h=>?_,fun h=>?_⟩<;>first|(cases h;done)|try simp only [h])|fail))
      all_goals first
       |exact ih (i+1,v,σ1) ⟨hlt,acc,n,ho,by simp only;omega,by simp only;omega,hs⟩ (by simp only;omega)
       |(exfalso;simp_all [Xx];done)
     |false=>
      rw [hb,if_neg (by simp)] at hs
      simp only [Xx,Ix] at hb
      obtain ⟨⟨⟨h9,h10⟩,h13⟩,h32⟩:=hb
      cases hc:(x==35) with
      |true=>
       rw [hc,if_pos rfl] at hs
       (repeat' (first|refine Run.ct rfl ?_|((first|refine Run.reg mixed ?_|refine Run.AD ?_)<;>try simp -implicitDefEqProofs only [A8 hlt,Cr hx,h9,h10,h13,h32,N5,hc,go_sem])|fail))
       refine Run.Ma [0,5,6] ?_;simp -implicitDefEqProofs only [go_sem]
       refine Run.Ay ?_
       refine Run.BB ((fun (a0:AV) (a5:AV)=>fun (j:Nat)=>put 0 a0 (put 5 a5 (put 6 (.d (.int .i64 j)) U))) _ _) (fun _=>E) (fun _=>σ1) (fun j=>i≤j∧j≤s.length∧∀q b,q < j - i→(s.drop i)[q]?=some b→(!(b==10))=true) (fun j=>s.length - j) ?_ i ⟨A0 i,hi,by intro q b hq;omega⟩
       rintro j ⟨hij,hj,hall⟩ ih2
       have hw2:=A7 (show j+1≤9000000000000000000 by omega)
       have hend:(∀z,s[j]?=some z→(z==10)=true)→j≠i∧FH s=GK n (s.drop j) j acc:=fun hz=>by
        have hji:j≠i:=fun e=>by
         subst e
         have h10:=hz x hx
         simp only [beq_iff_eq] at hc h10
         rw [hc] at h10;exact absurd h10 (by decide)
        have hk:cmt (x::s.drop (i+1))=j - i:=by
         rw [← Bc hx,cmt,EX hall (by simp;omega) (fun b hb=>by
          rw [BL,show i+(j - i)=j by omega] at hb
          simp [hz b hb])]
         simp;omega
        rw [hk,← Bc hx,ED,show i+(j - i)=j by omega] at hs
        exact ⟨hji,hs⟩
       by_cases hjl:j < s.length
       · obtain ⟨z,hz⟩:=Aw hjl
         have hz2:(s.drop i)[j - i]?=some z:=by rw [BL,show i+(j - i)=j by omega];exact hz
         cases h10:(z==10) with
         |true=>
          obtain ⟨hji,hs⟩:=hend (fun z' hz'=>by rw [hz] at hz';cases hz';exact h10)
          (repeat' (first|refine Run.ct rfl ?_|((first|refine Run.reg mixed ?_|refine Run.AD ?_)<;>try simp -implicitDefEqProofs only [A8 hjl,Cr hz,Yr,bne,h10,go_sem])|fail))
          refine Run.Ma [0,5,6] ?_;simp -implicitDefEqProofs only [go_sem]
          exact ih (j,v,σ1) ⟨hj,acc,n,ho,by simp only;omega,by simp only;omega,hs⟩ (by simp only;omega)
         |false=>
          (repeat' (first|refine Run.ct rfl ?_|((first|refine Run.reg mixed ?_|refine Run.AD ?_)<;>try simp -implicitDefEqProofs only [A8 hjl,Cr hz,Yr,bne,h10,hw2,go_sem])|fail))
          refine ih2 (j+1) ⟨by omega,hjl,fun q b hq hb=>?_⟩ (by omega)
          rcases Bt q (j - i) with h2|h2
          · exact hall q b h2 hb
          · have:q=j - i:=by omega
            subst this
            rw [hz2] at hb;cases hb;simp [h10]
       · obtain ⟨hji,hs⟩:=hend (fun z hz=>by rw [BP (by omega)] at hz;cases hz)
         (repeat' (first|refine Run.ct rfl ?_|((first|refine Run.reg mixed ?_|refine Run.AD ?_)<;>try simp -implicitDefEqProofs only [B8 hjl,go_sem])|fail))
         refine Run.Ma [0,5,6] ?_;simp -implicitDefEqProofs only [go_sem]
         exact ih (j,v,σ1) ⟨hj,acc,n,ho,by simp only;omega,by simp only;omega,hs⟩ (by simp only;omega)
      |false=>
       rw [hc,if_neg (by simp)] at hs
       have hld:s.drop i=x::s.drop (i+1):=Bc hx
       have hss:PF (.d (.str s)) (some (.d (.int .i64 (i:Int)))) none=some (.d (.str (x::s.drop (i+1)))):=by rw [dQ hi,hld]
       -- behind a token
       have next:∀(k:Int) (t:Str) (v2:AV) (σ2:AF),GH (x::s.drop (i+1))= .ok (k,t)→Cl σ 195 3 (acc.map Tok.enc++[[.int .i64 k,.str t,.int .i64 i]]) v2 σ2→
        1≤t.length∧i+t.length≤s.length∧(i+t.length≤s.length∧∃acc n,Cl σ 195 3 (acc.map Tok.enc) v2 σ2∧acc.length≤i+t.length∧s.length - (i+t.length) < n∧FH s=GK n (s.drop (i+t.length)) (i+t.length) acc):=fun k t v2 σ2 hsc ho2=>by
        have hsn:=WB hsc
        rw [hsl] at hsn
        rw [hsc] at hs
        refine ⟨hsn.1,by omega,by omega,acc++[⟨k,t,i⟩],n,by simpa [Tok.enc] using ho2,by simp only [AT,List.length_singleton];omega,by omega,?_⟩
        rw [hs];simp only;rw [← Bc hx,ED]
       have fail:∀e:Int,GH (x::s.drop (i+1))= .error e→FH s=([],i,e):=fun e he=>by rw [hs,he]
       have hwd:=aI (c:=EE H2) s i hi
       have hdd:=aI (c:=EE Ho) s i hi
       have hsg:=mG s i (HE (x::s.drop (i+1))) hi (by rw [hld];exact aG _ _)
       have hwl:=El (EE H2) (s.drop i)
       have hdl:=El (EE Ho) (s.drop i)
       have hsl2:=aG x (s.drop (i+1))
       have hL1:=Vi s i x hx
       have hL2:=Vj s i x hx
       rw [hld] at hwd hdd hsg hwl hdl hL1 hL2
       simp only [hsl] at hwl hdl hsl2
       have hw0:=fun n (h:n≤s.length - i)=>wrap_add (show i+n≤9000000000000000000 by omega)
       have hap:∀(r:List DV),r.length=3→∀q∈[r],q.length=3:=fun r hr q hq=>by rw [B6] at hq;rw [hq];exact hr
       have gt24':=r8
       have gt1':=gt1
       by_cases hlu:(Sc x.toNat||SA x.toNat)=true
       · have hwx:EE H2 x=true:=by rw [Yx,hlu];rfl
         have hsc:GH (x::s.drop (i+1))=if decide (((x::s.drop (i+1)).takeWhile (EE H2)).length>24) then .error 9
                                                                                 else if SA x.toNat then .ok (2,(x::s.drop (i+1)).takeWhile (EE H2))
                                                                                 else if YY ((x::s.drop (i+1)).takeWhile (EE H2)) then .ok (4,(x::s.drop (i+1)).takeWhile (EE H2))
                                                                                 else .ok (1,(x::s.drop (i+1)).takeWhile (EE H2)):=by rw [GH,if_pos hlu]
         have hL:=fun K k=>hL1 hwx (by omega) σ1 v (.d (.int .u8 x.toNat)) K k
         generalize ((x::s.drop (i+1)).takeWhile (EE H2))=w at hwd hwl hsc hL
         have hwn:=hw0 w.length hwl
         cases hup:SA x.toNat<;>cases hlo:Sc x.toNat<;>rw [hup] at hsc<;>first|(simp only [hup,hlo,Bool.or_self,AZ] at hlu;done)|skip
         all_goals (repeat' (first|refine Run.ct rfl ?_|((first|refine Run.reg mixed ?_|refine Run.AD ?_|(refine Run.Ay ?_;refine Run.Ma [0,5,6,7,8] ?_;simp -implicitDefEqProofs only [go_sem];refine hL _ _ ?_)|(refine Dh.own ho rfl (by simp) (by simp;omega) (by decide) (fun v2 σ2 ho2 hbk=>?_))|(refine Run.A1 GU ho.le ?_)|refine AI.det (Ha _ _) ?_|refine AI.det (Hb _ _) ?_|refine AI.det (Wt _ _) ?_)<;>try simp -implicitDefEqProofs only [hup,hlo,A8 hlt,Cr hx,h9,h10,h13,h32,N5,hc,hwn,hwd,gt24',ho.BG,AZ,go_sem])|(refine ⟨fun h=>?_,fun h=>?_⟩<;>first|(cases h;done)|try simp only [h])|fail))
         all_goals first
          |(obtain ⟨p1,p2,p3⟩:=next _ w _ _ (by rw [hsc];simp only [*,AZ,reduceIte,Az,Bg,BD,B2,Br,CD]) ho2;exact ih (i+w.length,_,_) p3 (by simp only;omega))
          |(rw [fail 9 (by rw [hsc];simp only [*,AZ,reduceIte,Az,Bg,BD,B2,Br,CD])];simp [IH];done)
       · simp only [Bool.not_eq_true,Ix] at hlu
         have hnlu:¬(Sc x.toNat||SA x.toNat)=true:=by simp [hlu]
         cases hdg:Ho x.toNat with
         |true=>
          have hsc:GH (x::s.drop (i+1))=if x==48&&decide (((x::s.drop (i+1)).takeWhile (EE Ho)).length>1) then .error 2
                                                                                         else if (Lc ((x::s.drop (i+1)).takeWhile (EE Ho)) 0).isSome then .ok (3,(x::s.drop (i+1)).takeWhile (EE Ho))
                                                                                         else .error 9:=by rw [GH,if_neg hnlu,if_pos hdg]
          have hL:=fun K k=>hL2 hdg (by omega) σ1 v (.d (.int .u8 x.toNat)) K k
          generalize ((x::s.drop (i+1)).takeWhile (EE Ho))=w at hdd hdl hsc hL
          have hwn:=hw0 w.length hdl
          have hval:=Zo w σ1 (by omega)
          cases hv:Lc w 0 with
          |some z=>
           rw [hv] at hval
           (repeat' (first|refine Run.ct rfl ?_|((first|refine Run.reg mixed ?_|refine Run.AD ?_|(refine Run.Ay ?_;refine Run.Ma [0,5,6,7,8] ?_;simp -implicitDefEqProofs only [go_sem];refine hL _ _ ?_)|(refine Dh.own ho rfl (by simp) (by simp;omega) (by decide) (fun v2 σ2 ho2 hbk=>?_))|(refine Run.A1 GU ho.le ?_)|refine AI.det (Ha _ _) ?_|refine AI.det (Hb _ _) ?_|refine AI.det (G5 _ _) ?_|refine AI.det (hval) ?_|(refine BO rfl (fun h=>?_) (fun h=>?_)<;>try (cases h;done)))<;>try simp -implicitDefEqProofs only [A8 hlt,Cr hx,h9,h10,h13,h32,N5,hc,hwn,hdd,gt1',mK,hlu.1,hlu.2,hdg,ho.BG,AZ,go_sem])|(refine ⟨fun h=>?_,fun h=>?_⟩<;>first|(cases h;done)|try simp only [h])|fail))
           all_goals first
            |(obtain ⟨p1,p2,p3⟩:=next _ w _ _ (by rw [hsc];simp only [*,AZ,reduceIte,Az,Bg,BD,B2,Br,CD]) ho2;exact ih (i+w.length,_,_) p3 (by simp only;omega))
            |(rw [fail 2 (by rw [hsc];simp only [*,AZ,reduceIte,Az,Bg,BD,B2,Br,CD])];simp [IH];done)
          |none=>
           rw [hv] at hval
           (repeat' (first|refine Run.ct rfl ?_|((first|refine Run.reg mixed ?_|refine Run.AD ?_|(refine Run.Ay ?_;refine Run.Ma [0,5,6,7,8] ?_;simp -implicitDefEqProofs only [go_sem];refine hL _ _ ?_)|(refine Dh.own ho rfl (by simp) (by simp;omega) (by decide) (fun v2 σ2 ho2 hbk=>?_))|(refine Run.A1 GU ho.le ?_)|refine AI.det (Ha _ _) ?_|refine AI.det (Hb _ _) ?_|refine AI.det (G5 _ _) ?_|refine AI.det (hval) ?_|(refine BO rfl (fun h=>?_) (fun h=>?_)<;>try (cases h;done)))<;>try simp -implicitDefEqProofs only [A8 hlt,Cr hx,h9,h10,h13,h32,N5,hc,hwn,hdd,gt1',mK,hlu.1,hlu.2,hdg,ho.BG,AZ,go_sem])|(refine ⟨fun h=>?_,fun h=>?_⟩<;>first|(cases h;done)|try simp only [h])|fail))
           all_goals first
            |(rw [fail 2 (by rw [hsc];simp only [*,AZ,reduceIte,Az,Bg,BD,B2,Br,CD])];simp [IH];done)
            |(rw [fail 9 (by rw [hsc];simp only [*,AZ,reduceIte,Az,Bg,BD,B2,Br,CD])];simp [IH];done)
         |false=>
          have hsc:GH (x::s.drop (i+1))=if (x::s.drop (i+1)).take (HE (x::s.drop (i+1)))==[] then .error 2 else .ok (5,(x::s.drop (i+1)).take (HE (x::s.drop (i+1)))):=by rw [GH,if_neg hnlu,if_neg (by simp [hdg])]
          have hsk:=dB (x::s.drop (i+1)) σ1 (by simp)
          have hwn:=hw0 (HE (x::s.drop (i+1))) hsl2
          have htl:((x::s.drop (i+1)).take (HE (x::s.drop (i+1)))).length=HE (x::s.drop (i+1)):=by rw [Ae,hsl];omega
          generalize HE (x::s.drop (i+1))=m at hsc hsk hwn hsg hsl2 htl
          generalize ((x::s.drop (i+1)).take m)=w at hsc hsg htl
          have hz:((m:Int)==0)=(w==[]):=by
           rw [Af];simp only [beq_iff_eq]
           rw [← List.length_eq_zero_iff,htl];omega
          cases hw:(w==[]) with
          |true=>
           (repeat' (first|refine Run.ct rfl ?_|((first|refine Run.reg mixed ?_|refine Run.AD ?_|(refine Run.A1 GU ho.le ?_)|refine AI.det (Ha _ _) ?_|refine AI.det (Hb _ _) ?_|refine AI.det (G5 _ _) ?_|refine AI.det (hsk) ?_)<;>try simp -implicitDefEqProofs only [A8 hlt,Cr hx,h9,h10,h13,h32,N5,hc,hss,hwn,hsg,hlu.1,hlu.2,hdg,hz,hw,ho.BG,AZ,go_sem])|fail))
           rw [fail 2 (by rw [hsc,if_pos hw])];simp [IH]
          |false=>
           (repeat' (first|refine Run.ct rfl ?_|((first|refine Run.reg mixed ?_|refine Run.AD ?_|(refine Dh.own ho rfl (by simp) (by simp;omega) (by decide) (fun v2 σ2 ho2 hbk=>?_))|(refine Run.A1 GU ho.le ?_)|refine AI.det (Ha _ _) ?_|refine AI.det (Hb _ _) ?_|refine AI.det (G5 _ _) ?_|refine AI.det (hsk) ?_)<;>try simp -implicitDefEqProofs only [A8 hlt,Cr hx,h9,h10,h13,h32,N5,hc,hss,hwn,hsg,hlu.1,hlu.2,hdg,hz,hw,ho.BG,AZ,go_sem])|fail))
           obtain ⟨p1,p2,p3⟩:=next 5 w _ _ (by rw [hsc,if_neg (by simp [hw])]) ‹_›
           rw [htl] at p1 p2 p3
           exact ih (i+m,_,_) p3 (by simp only;omega)
   · have hge:i=s.length:=by omega
     rw [hge,Ja,GK] at hs
     (repeat' (first|refine Run.ct rfl ?_|((first|refine Run.reg mixed ?_|refine Run.AD ?_|(refine Dh.own ho rfl (by simp) (by simp;omega) (by decide) (fun v2 σ2 ho2 hbk=>?_))|(refine Run.A1 GU ho2.le ?_))<;>try simp -implicitDefEqProofs only [B8 hlt,go_sem])|fail))
     simp -implicitDefEqProofs only [ho2.BF,ho2.plain,go_sem]
     rw [hs];simp [IH,Tok.enc]
end Go.Ab
namespace Go.Ab
open Go.Proofs
theorem D6 {α:Type} {p:α→Bool} {l:List α} {i:Nat} {x:α} (h:∀y∈l.take i,p y=false) (hx:l[i]?=some x) (hp:p x=true):l.findIdx? p=some i:=by
 rw [jM]
 obtain ⟨hl,he⟩:=AR.1 hx
 refine ⟨hl,by rw [he];exact hp,fun j hj=>?_⟩
 rw [h (l[j]'(by omega)) (List.mem_take_iff_getElem.2 ⟨j,by omega,rfl⟩)];simp
theorem D7 {α:Type} {p:α→Bool} {l:List α} (h:∀y∈l,p y=false):l.findIdx? p=none:=by
 rw [List.findIdx?_eq_none_iff];exact h
theorem Eg {α:Type} {p:α→Bool} {l:List α} {i:Nat} {x:α} (h:∀y∈l.take i,p y=false) (hx:l[i]?=some x) (hp:p x=false):∀y∈l.take (i+1),p y=false:=by
 intro y hy
 rw [Am hx] at hy
 rcases A6.1 hy with hy|hy
 · exact h y hy
 · simp only [B6] at hy;subst hy;exact hp
theorem PZ (o:Option Nat):decide (0≤Ee o)=o.isSome:=by
 cases o<;>simp [Ee]
theorem JB {α:Type} (p:α→Bool) (l:List α):(l.findIdx? p).isSome=l.any p:=by
 rw [List.findIdx?_isSome]
theorem P8 {fid:FuncId} {caps:List AV} (hb:C7 Tryz.prog fid=true) (hcp:caps.all AV.BF=true) (p:Str→Bool) (l:List Str) (σ:AF) (hf:∀x∈l,AK Tryz.prog fid ((.d (.str x))::caps) σ (fun v σ'=>v= .d (.bool (p x))∧σ'=σ)):
 AK Tryz.prog 150 [.d (.sl (l.map Ak)),.fn fid [] caps] σ (fun v σ'=>v= .d (.int .i64 (Ee (l.findIdx? p)))∧σ'=σ):=by
 refine LM (by simp) ?_
 rw [BR]
 refine Run.slot 0 (fun hb0=>?_)
 simp only [CZ,if_true,AV.Dl,AA] at hb0
 (repeat' (first|refine Run.ct rfl ?_|((first|refine Run.reg mixed ?_|refine Run.AD ?_)<;>try simp -implicitDefEqProofs only [AA,go_sem])|fail))
 refine Run.Ay ?_
 refine Run.BB ((fun (a0:AV) (a1:AV) (a7:AV)=>fun (i:Nat)=>put 0 a0 (put 1 a1 (put 7 a7 (put 8 (.d (.int .i64 i)) U)))) _ _ _) (fun _=>E) (fun _=>σ) (fun i=>i≤l.length∧∀x∈l.take i,p x=false) (fun i=>l.length - i) ?_ 0 ⟨by simp,by simp⟩
 rintro i ⟨hi,hno⟩ ih
 by_cases hlt:i < l.length
 · obtain ⟨x,hx⟩:=Aw hlt
   have he:=Aq (enc:=Ak) hx
   have hw1:IntKind.i64.wrap ((i:Int)+1)=((i+1:Nat):Int):=by rw [As (by omega) (by omega)];omega
   have hc:=hf x (AS hx)
   simp only [Ak] at he
   cases hp:p x with
   |true=>
    rw [hp] at hc
    (repeat' (first|refine Run.ct rfl ?_|((first|refine Run.reg mixed ?_|refine Run.AD ?_|refine Run.A1 Ea (AF.le_refl _) ?_|(refine ⟨fid,[],caps,rfl,hb,AI.det hc ?_ (by simp [hcp,Fu,DX])⟩))<;>try simp -implicitDefEqProofs only [A8 hlt,he,hw1,go_sem])|fail))
    rw [D6 hno hx hp];rfl
   |false=>
    rw [hp] at hc
    (repeat' (first|refine Run.ct rfl ?_|((first|refine Run.reg mixed ?_|refine Run.AD ?_|(refine ⟨fid,[],caps,rfl,hb,AI.det hc ?_ (by simp [hcp,Fu,DX])⟩))<;>try simp -implicitDefEqProofs only [A8 hlt,he,hw1,go_sem])|fail))
    exact ih (i+1) ⟨by omega,Eg hno hx hp⟩ (by omega)
 · (repeat' (first|refine Run.ct rfl ?_|((first|refine Run.reg mixed ?_|refine Run.AD ?_|refine Run.A1 Ea (AF.le_refl _) ?_)<;>try simp -implicitDefEqProofs only [B8 hlt,go_sem])|fail))
   rw [AG (by omega)] at hno
   rw [D7 hno];rfl
theorem Mp {fid:FuncId} {caps:List AV} (hb:C7 Tryz.prog fid=true) (hcp:caps.all AV.BF=true) (p:Str→Bool) (l:List Str) (σ:AF) (hf:∀x∈l,AK Tryz.prog fid ((.d (.str x))::caps) σ (fun v σ'=>v= .d (.bool (p x))∧σ'=σ)):
 AK Tryz.prog 126 [.d (.sl (l.map Ak)),.fn fid [] caps] σ (fun v σ'=>v= .d (.bool (l.any p))∧σ'=σ):=by
 refine Jj (by simp) ?_
 rw [BR]
 (repeat' (first|refine Run.ct rfl ?_|((first|refine Run.reg mixed ?_|refine Run.AD ?_|refine Run.A1 F9 (AF.le_refl _) ?_|refine AI.det (P8 hb hcp p l σ hf) ?_)<;>try simp -implicitDefEqProofs only [PZ,JB,go_sem])|fail))
theorem T9 {fid:FuncId} {caps:List AV} (hb:C7 Tryz.prog fid=true) (hcp:caps.all AV.BF=true) (x:Str) (b:Bool) (j:Nat) (σ:AF) (hj:σ.blk j=some [.fn fid [] caps]) (hf:AK Tryz.prog fid ((.d (.str x))::caps) σ (fun v σ'=>v= .d (.bool b)∧σ'=σ)):
 AK Tryz.prog 127 [(.d (.str x)),.gp j 0] σ (fun v σ'=>v= .d (.bool (!b))∧σ'=σ):=by
 refine OB (by simp) ?_
 rw [BR]
 (repeat' (first|refine Run.ct rfl ?_|((first|refine Run.reg mixed ?_|refine Run.AD ?_|refine Run.A1 I4 (AF.le_refl _) ?_|(refine ⟨fid,[],caps,rfl,hb,AI.det hf ?_ (by simp [hcp,Fu,DX])⟩))<;>try simp -implicitDefEqProofs only [hj,go_sem])|fail))
theorem Gu {fid:FuncId} {caps:List AV} (hb:C7 Tryz.prog fid=true) (hcp:caps.all AV.BF=true) (p:Str→Bool) (l:List Str) (σ:AF) (hf:∀x∈l,∀σ1,σ.le σ1→AK Tryz.prog fid ((.d (.str x))::caps) σ1 (fun v σ'=>v= .d (.bool (p x))∧σ'=σ1)):
 AK Tryz.prog 97 [.d (.sl (l.map Ak)),.fn fid [] caps] σ (fun v σ'=>v= .d (.bool (l.all p))∧σ'=σ):=by
 refine Pm (by simp) ?_
 rw [BR]
 (repeat' (first|refine Run.ct rfl ?_|((first|refine Run.reg mixed ?_|refine Run.AD ?_)<;>try simp -implicitDefEqProofs only [go_sem])|fail))
 intro j hj
 have hle:=Bp (cs:=[.fn fid [] caps]) hj
 (repeat' (first|refine Run.ct rfl ?_|((first|refine Run.reg mixed ?_|refine Run.AD ?_|(refine Run.A1 KA (σ2:=σ) hle ?_)|refine AI.det (Mp (by kernel_rfl) rfl (fun x=>!p x) l _ (fun x hx=>T9 hb hcp x (p x) j _ (by simp only [AP,if_true]) (hf x hx _ hle))) ?_)<;>try simp -implicitDefEqProofs only [go_sem])|fail))
 simp [LV]
theorem LH {fid:FuncId} {caps:List AV} (hb:C7 Tryz.prog fid=true) (hcp:caps.all AV.BF=true) (p:TE→Bool) (l:List TE) (σ:AF) (hf:∀x∈l,AK Tryz.prog fid ((teA x)::caps) σ (fun v σ'=>v= .d (.bool (p x))∧σ'=σ)):
 AK Tryz.prog 161 [.d (.sl (l.map TE.enc)),.fn fid [] caps] σ (fun v σ'=>v= .d (.int .i64 (Ee (l.findIdx? p)))∧σ'=σ):=by
 refine IQ (by simp) ?_
 rw [BR]
 refine Run.slot 0 (fun hb0=>?_)
 simp only [CZ,if_true,AV.Dl,AA] at hb0
 (repeat' (first|refine Run.ct rfl ?_|((first|refine Run.reg mixed ?_|refine Run.AD ?_)<;>try simp -implicitDefEqProofs only [AA,go_sem])|fail))
 refine Run.Ay ?_
 refine Run.BB ((fun (a0:AV) (a1:AV) (a7:AV)=>fun (i:Nat)=>put 0 a0 (put 1 a1 (put 7 a7 (put 8 (.d (.int .i64 i)) U)))) _ _ _) (fun _=>E) (fun _=>σ) (fun i=>i≤l.length∧∀x∈l.take i,p x=false) (fun i=>l.length - i) ?_ 0 ⟨by simp,by simp⟩
 rintro i ⟨hi,hno⟩ ih
 by_cases hlt:i < l.length
 · obtain ⟨x,hx⟩:=Aw hlt
   have he:=Aq (enc:=TE.enc) hx
   have hw1:IntKind.i64.wrap ((i:Int)+1)=((i+1:Nat):Int):=by rw [As (by omega) (by omega)];omega
   have hc:=hf x (AS hx)
   obtain ⟨k,n,al⟩:=x
   simp only [TE.A3,teA,AH,AM] at he hc
   cases hp:p (.mk k n al) with
   |true=>
    rw [hp] at hc
    (repeat' (first|refine Run.ct rfl ?_|((first|refine Run.reg mixed ?_|refine Run.AD ?_|refine Run.A1 DP (AF.le_refl _) ?_|(refine ⟨fid,[],caps,rfl,hb,AI.det hc ?_ (by simp [hcp,Fu,DX])⟩))<;>try simp -implicitDefEqProofs only [A8 hlt,he,hw1,go_sem])|fail))
    rw [D6 hno hx hp];rfl
   |false=>
    rw [hp] at hc
    (repeat' (first|refine Run.ct rfl ?_|((first|refine Run.reg mixed ?_|refine Run.AD ?_|(refine ⟨fid,[],caps,rfl,hb,AI.det hc ?_ (by simp [hcp,Fu,DX])⟩))<;>try simp -implicitDefEqProofs only [A8 hlt,he,hw1,go_sem])|fail))
    exact ih (i+1) ⟨by omega,Eg hno hx hp⟩ (by omega)
 · (repeat' (first|refine Run.ct rfl ?_|((first|refine Run.reg mixed ?_|refine Run.AD ?_|refine Run.A1 DP (AF.le_refl _) ?_)<;>try simp -implicitDefEqProofs only [B8 hlt,go_sem])|fail))
   rw [AG (by omega)] at hno
   rw [D7 hno];rfl
theorem J9 {fid:FuncId} {caps:List AV} (hb:C7 Tryz.prog fid=true) (hcp:caps.all AV.BF=true) (p:TE→Bool) (l:List TE) (σ:AF) (hf:∀x∈l,AK Tryz.prog fid ((teA x)::caps) σ (fun v σ'=>v= .d (.bool (p x))∧σ'=σ)):
 AK Tryz.prog 146 [.d (.sl (l.map TE.enc)),.fn fid [] caps] σ (fun v σ'=>v= .d (.bool (l.any p))∧σ'=σ):=by
 refine HX (by simp) ?_
 rw [BR]
 (repeat' (first|refine Run.ct rfl ?_|((first|refine Run.reg mixed ?_|refine Run.AD ?_|refine Run.A1 EU (AF.le_refl _) ?_|refine AI.det (LH hb hcp p l σ hf) ?_)<;>try simp -implicitDefEqProofs only [PZ,JB,go_sem])|fail))
theorem Nu {fid:FuncId} {caps:List AV} (hb:C7 Tryz.prog fid=true) (hcp:caps.all AV.BF=true) (x:TE) (b:Bool) (j:Nat) (σ:AF) (hj:σ.blk j=some [.fn fid [] caps]) (hf:AK Tryz.prog fid ((teA x)::caps) σ (fun v σ'=>v= .d (.bool b)∧σ'=σ)):
 AK Tryz.prog 147 [(teA x),.gp j 0] σ (fun v σ'=>v= .d (.bool (!b))∧σ'=σ):=by
 refine KS (by simp) ?_
 rw [BR]
 obtain ⟨k,n,al⟩:=x
 simp only [TE.A3,teA,AH,AM] at hf ⊢
 (repeat' (first|refine Run.ct rfl ?_|((first|refine Run.reg mixed ?_|refine Run.AD ?_|refine Run.A1 GC (AF.le_refl _) ?_|(refine ⟨fid,[],caps,rfl,hb,AI.det hf ?_ (by simp [hcp,Fu,DX])⟩))<;>try simp -implicitDefEqProofs only [hj,go_sem])|fail))
theorem Jr {fid:FuncId} {caps:List AV} (hb:C7 Tryz.prog fid=true) (hcp:caps.all AV.BF=true) (p:TE→Bool) (l:List TE) (σ:AF) (hf:∀x∈l,∀σ1,σ.le σ1→AK Tryz.prog fid ((teA x)::caps) σ1 (fun v σ'=>v= .d (.bool (p x))∧σ'=σ1)):
 AK Tryz.prog 122 [.d (.sl (l.map TE.enc)),.fn fid [] caps] σ (fun v σ'=>v= .d (.bool (l.all p))∧σ'=σ):=by
 refine LN (by simp) ?_
 rw [BR]
 (repeat' (first|refine Run.ct rfl ?_|((first|refine Run.reg mixed ?_|refine Run.AD ?_)<;>try simp -implicitDefEqProofs only [go_sem])|fail))
 intro j hj
 have hle:=Bp (cs:=[.fn fid [] caps]) hj
 (repeat' (first|refine Run.ct rfl ?_|((first|refine Run.reg mixed ?_|refine Run.AD ?_|(refine Run.A1 Gn (σ2:=σ) hle ?_)|refine AI.det (J9 (by kernel_rfl) rfl (fun x=>!p x) l _ (fun x hx=>Nu hb hcp x (p x) j _ (by simp only [AP,if_true]) (hf x hx _ hle))) ?_)<;>try simp -implicitDefEqProofs only [go_sem])|fail))
 simp [LV]
theorem Ld {fid:FuncId} {caps:List AV} (hb:C7 Tryz.prog fid=true) (hcp:caps.all AV.BF=true) (p:CE→Bool) (l:List CE) (σ:AF) (hf:∀x∈l,AK Tryz.prog fid ((ceA x)::caps) σ (fun v σ'=>v= .d (.bool (p x))∧σ'=σ)):
 AK Tryz.prog 160 [.d (.sl (l.map CE.enc)),.fn fid [] caps] σ (fun v σ'=>v= .d (.int .i64 (Ee (l.findIdx? p)))∧σ'=σ):=by
 refine Ik (by simp) ?_
 rw [BR]
 refine Run.slot 0 (fun hb0=>?_)
 simp only [CZ,if_true,AV.Dl,AA] at hb0
 (repeat' (first|refine Run.ct rfl ?_|((first|refine Run.reg mixed ?_|refine Run.AD ?_)<;>try simp -implicitDefEqProofs only [AA,go_sem])|fail))
 refine Run.Ay ?_
 refine Run.BB ((fun (a0:AV) (a1:AV) (a7:AV)=>fun (i:Nat)=>put 0 a0 (put 1 a1 (put 7 a7 (put 8 (.d (.int .i64 i)) U)))) _ _ _) (fun _=>E) (fun _=>σ) (fun i=>i≤l.length∧∀x∈l.take i,p x=false) (fun i=>l.length - i) ?_ 0 ⟨by simp,by simp⟩
 rintro i ⟨hi,hno⟩ ih
 by_cases hlt:i < l.length
 · obtain ⟨x,hx⟩:=Aw hlt
   have he:=Aq (enc:=CE.enc) hx
   have hw1:IntKind.i64.wrap ((i:Int)+1)=((i+1:Nat):Int):=by rw [As (by omega) (by omega)];omega
   have hc:=hf x (AS hx)
   obtain ⟨nm,ar⟩:=x
   simp only [CE.enc,ceA,AH,AM] at he hc
   cases hp:p (⟨nm,ar⟩) with
   |true=>
    rw [hp] at hc
    (repeat' (first|refine Run.ct rfl ?_|((first|refine Run.reg mixed ?_|refine Run.AD ?_|refine Run.A1 D9 (AF.le_refl _) ?_|(refine ⟨fid,[],caps,rfl,hb,AI.det hc ?_ (by simp [hcp,Fu,DX])⟩))<;>try simp -implicitDefEqProofs only [A8 hlt,he,hw1,go_sem])|fail))
    rw [D6 hno hx hp];rfl
   |false=>
    rw [hp] at hc
    (repeat' (first|refine Run.ct rfl ?_|((first|refine Run.reg mixed ?_|refine Run.AD ?_|(refine ⟨fid,[],caps,rfl,hb,AI.det hc ?_ (by simp [hcp,Fu,DX])⟩))<;>try simp -implicitDefEqProofs only [A8 hlt,he,hw1,go_sem])|fail))
    exact ih (i+1) ⟨by omega,Eg hno hx hp⟩ (by omega)
 · (repeat' (first|refine Run.ct rfl ?_|((first|refine Run.reg mixed ?_|refine Run.AD ?_|refine Run.A1 D9 (AF.le_refl _) ?_)<;>try simp -implicitDefEqProofs only [B8 hlt,go_sem])|fail))
   rw [AG (by omega)] at hno
   rw [D7 hno];rfl
theorem KF {fid:FuncId} {caps:List AV} (hb:C7 Tryz.prog fid=true) (hcp:caps.all AV.BF=true) (p:CE→Bool) (l:List CE) (σ:AF) (hf:∀x∈l,AK Tryz.prog fid ((ceA x)::caps) σ (fun v σ'=>v= .d (.bool (p x))∧σ'=σ)):
 AK Tryz.prog 144 [.d (.sl (l.map CE.enc)),.fn fid [] caps] σ (fun v σ'=>v= .d (.bool (l.any p))∧σ'=σ):=by
 refine Hh (by simp) ?_
 rw [BR]
 (repeat' (first|refine Run.ct rfl ?_|((first|refine Run.reg mixed ?_|refine Run.AD ?_|refine Run.A1 E9 (AF.le_refl _) ?_|refine AI.det (Ld hb hcp p l σ hf) ?_)<;>try simp -implicitDefEqProofs only [PZ,JB,go_sem])|fail))
theorem OR {fid:FuncId} {caps:List AV} (hb:C7 Tryz.prog fid=true) (hcp:caps.all AV.BF=true) (x:CE) (b:Bool) (j:Nat) (σ:AF) (hj:σ.blk j=some [.fn fid [] caps]) (hf:AK Tryz.prog fid ((ceA x)::caps) σ (fun v σ'=>v= .d (.bool b)∧σ'=σ)):
 AK Tryz.prog 145 [(ceA x),.gp j 0] σ (fun v σ'=>v= .d (.bool (!b))∧σ'=σ):=by
 refine Kp (by simp) ?_
 rw [BR]
 obtain ⟨nm,ar⟩:=x
 simp only [CE.enc,ceA,AH,AM] at hf ⊢
 (repeat' (first|refine Run.ct rfl ?_|((first|refine Run.reg mixed ?_|refine Run.AD ?_|refine Run.A1 G0 (AF.le_refl _) ?_|(refine ⟨fid,[],caps,rfl,hb,AI.det hf ?_ (by simp [hcp,Fu,DX])⟩))<;>try simp -implicitDefEqProofs only [hj,go_sem])|fail))
theorem Q7 {fid:FuncId} {caps:List AV} (hb:C7 Tryz.prog fid=true) (hcp:caps.all AV.BF=true) (p:CE→Bool) (l:List CE) (σ:AF) (hf:∀x∈l,∀σ1,σ.le σ1→AK Tryz.prog fid ((ceA x)::caps) σ1 (fun v σ'=>v= .d (.bool (p x))∧σ'=σ1)):
 AK Tryz.prog 120 [.d (.sl (l.map CE.enc)),.fn fid [] caps] σ (fun v σ'=>v= .d (.bool (l.all p))∧σ'=σ):=by
 refine Lr (by simp) ?_
 rw [BR]
 (repeat' (first|refine Run.ct rfl ?_|((first|refine Run.reg mixed ?_|refine Run.AD ?_)<;>try simp -implicitDefEqProofs only [go_sem])|fail))
 intro j hj
 have hle:=Bp (cs:=[.fn fid [] caps]) hj
 (repeat' (first|refine Run.ct rfl ?_|((first|refine Run.reg mixed ?_|refine Run.AD ?_|(refine Run.A1 HA (σ2:=σ) hle ?_)|refine AI.det (KF (by kernel_rfl) rfl (fun x=>!p x) l _ (fun x hx=>OR hb hcp x (p x) j _ (by simp only [AP,if_true]) (hf x hx _ hle))) ?_)<;>try simp -implicitDefEqProofs only [go_sem])|fail))
 simp [LV]
theorem OO {fid:FuncId} {caps:List AV} (hb:C7 Tryz.prog fid=true) (hcp:caps.all AV.BF=true) (p:Al→Bool) (l:List Al) (σ:AF) (hf:∀x∈l,AK Tryz.prog fid ((alA x)::caps) σ (fun v σ'=>v= .d (.bool (p x))∧σ'=σ)):
 AK Tryz.prog 174 [.d (.sl (l.map Al.enc)),.fn fid [] caps] σ (fun v σ'=>v= .d (.int .i64 (Ee (l.findIdx? p)))∧σ'=σ):=by
 refine Ko (by simp) ?_
 rw [BR]
 refine Run.slot 0 (fun hb0=>?_)
 simp only [CZ,if_true,AV.Dl,AA] at hb0
 (repeat' (first|refine Run.ct rfl ?_|((first|refine Run.reg mixed ?_|refine Run.AD ?_)<;>try simp -implicitDefEqProofs only [AA,go_sem])|fail))
 refine Run.Ay ?_
 refine Run.BB ((fun (a0:AV) (a1:AV) (a7:AV)=>fun (i:Nat)=>put 0 a0 (put 1 a1 (put 7 a7 (put 8 (.d (.int .i64 i)) U)))) _ _ _) (fun _=>E) (fun _=>σ) (fun i=>i≤l.length∧∀x∈l.take i,p x=false) (fun i=>l.length - i) ?_ 0 ⟨by simp,by simp⟩
 rintro i ⟨hi,hno⟩ ih
 by_cases hlt:i < l.length
 · obtain ⟨x,hx⟩:=Aw hlt
   have he:=Aq (enc:=Al.enc) hx
   have hw1:IntKind.i64.wrap ((i:Int)+1)=((i+1:Nat):Int):=by rw [As (by omega) (by omega)];omega
   have hc:=hf x (AS hx)
   obtain ⟨c,vs,o,n,u,ns,ks,al⟩:=x
   simp only [Al.A3,alA,AH,AM] at he hc
   cases hp:p (.mk c vs (.mk o n u ns ks al)) with
   |true=>
    rw [hp] at hc
    (repeat' (first|refine Run.ct rfl ?_|((first|refine Run.reg mixed ?_|refine Run.AD ?_|refine Run.A1 EV (AF.le_refl _) ?_|(refine ⟨fid,[],caps,rfl,hb,AI.det hc ?_ (by simp [hcp,Fu,DX])⟩))<;>try simp -implicitDefEqProofs only [A8 hlt,he,hw1,go_sem])|fail))
    rw [D6 hno hx hp];rfl
   |false=>
    rw [hp] at hc
    (repeat' (first|refine Run.ct rfl ?_|((first|refine Run.reg mixed ?_|refine Run.AD ?_|(refine ⟨fid,[],caps,rfl,hb,AI.det hc ?_ (by simp [hcp,Fu,DX])⟩))<;>try simp -implicitDefEqProofs only [A8 hlt,he,hw1,go_sem])|fail))
    exact ih (i+1) ⟨by omega,Eg hno hx hp⟩ (by omega)
 · (repeat' (first|refine Run.ct rfl ?_|((first|refine Run.reg mixed ?_|refine Run.AD ?_|refine Run.A1 EV (AF.le_refl _) ?_)<;>try simp -implicitDefEqProofs only [B8 hlt,go_sem])|fail))
   rw [AG (by omega)] at hno
   rw [D7 hno];rfl
theorem MB {fid:FuncId} {caps:List AV} (hb:C7 Tryz.prog fid=true) (hcp:caps.all AV.BF=true) (p:Al→Bool) (l:List Al) (σ:AF) (hf:∀x∈l,AK Tryz.prog fid ((alA x)::caps) σ (fun v σ'=>v= .d (.bool (p x))∧σ'=σ)):
 AK Tryz.prog 164 [.d (.sl (l.map Al.enc)),.fn fid [] caps] σ (fun v σ'=>v= .d (.bool (l.any p))∧σ'=σ):=by
 refine JW (by simp) ?_
 rw [BR]
 (repeat' (first|refine Run.ct rfl ?_|((first|refine Run.reg mixed ?_|refine Run.AD ?_|refine Run.A1 F1 (AF.le_refl _) ?_|refine AI.det (OO hb hcp p l σ hf) ?_)<;>try simp -implicitDefEqProofs only [PZ,JB,go_sem])|fail))
theorem SD {fid:FuncId} {caps:List AV} (hb:C7 Tryz.prog fid=true) (hcp:caps.all AV.BF=true) (x:Al) (b:Bool) (j:Nat) (σ:AF) (hj:σ.blk j=some [.fn fid [] caps]) (hf:AK Tryz.prog fid ((alA x)::caps) σ (fun v σ'=>v= .d (.bool b)∧σ'=σ)):
 AK Tryz.prog 165 [(alA x),.gp j 0] σ (fun v σ'=>v= .d (.bool (!b))∧σ'=σ):=by
 refine NN (by simp) ?_
 rw [BR]
 obtain ⟨c,vs,o,n,u,ns,ks,al⟩:=x
 simp only [Al.A3,alA,AH,AM] at hf ⊢
 (repeat' (first|refine Run.ct rfl ?_|((first|refine Run.reg mixed ?_|refine Run.AD ?_|refine Run.A1 Ht (AF.le_refl _) ?_|(refine ⟨fid,[],caps,rfl,hb,AI.det hf ?_ (by simp [hcp,Fu,DX])⟩))<;>try simp -implicitDefEqProofs only [hj,go_sem])|fail))
theorem U4 {fid:FuncId} {caps:List AV} (hb:C7 Tryz.prog fid=true) (hcp:caps.all AV.BF=true) (p:Al→Bool) (l:List Al) (σ:AF) (hf:∀x∈l,∀σ1,σ.le σ1→AK Tryz.prog fid ((alA x)::caps) σ1 (fun v σ'=>v= .d (.bool (p x))∧σ'=σ1)):
 AK Tryz.prog 154 [.d (.sl (l.map Al.enc)),.fn fid [] caps] σ (fun v σ'=>v= .d (.bool (l.all p))∧σ'=σ):=by
 refine Ol (by simp) ?_
 rw [BR]
 (repeat' (first|refine Run.ct rfl ?_|((first|refine Run.reg mixed ?_|refine Run.AD ?_)<;>try simp -implicitDefEqProofs only [go_sem])|fail))
 intro j hj
 have hle:=Bp (cs:=[.fn fid [] caps]) hj
 (repeat' (first|refine Run.ct rfl ?_|((first|refine Run.reg mixed ?_|refine Run.AD ?_|(refine Run.A1 JS (σ2:=σ) hle ?_)|refine AI.det (MB (by kernel_rfl) rfl (fun x=>!p x) l _ (fun x hx=>SD hb hcp x (p x) j _ (by simp only [AP,if_true]) (hf x hx _ hle))) ?_)<;>try simp -implicitDefEqProofs only [go_sem])|fail))
 simp [LV]
end Go.Ab
