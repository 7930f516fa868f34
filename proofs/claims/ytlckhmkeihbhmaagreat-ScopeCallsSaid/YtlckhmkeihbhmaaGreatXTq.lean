/- Texts split into tokens, as the reference does it. Lists searched with a function. Conditions: none. -/
import Derived.Test.YtlckhmkeihbhmaaGreatXXc
set_option linter.unusedSimpArgs false
set_option linter.unusedVariables false
set_option maxRecDepth 4000
set_option maxHeartbeats 8000000
open List renaming getElem?_drop→BM,getElem?_eq_none→Ao,getElem?_eq_some_iff→AR,length_drop→Bm,drop_take→It,drop_drop→Du,length_append→AS,mem_singleton→B5,length_take→Aj,drop_length→Nj,findIdx?_eq_some_iff_getElem→fV,mem_append→A3,length_map→AA,mem_of_getElem?→AT,take_of_length_le→AH,any_eq_not_all_not→LN,map_cons→AI,map_nil→AO
open Nat renaming lt_or_ge→Br,add_zero→Dx,add_sub_cancel_left→LP,le_refl→A0
open Bool renaming false_eq_true→AZ,or_eq_false_iff→OC,and_true→Am,and_false→B3,true_and→BA,false_and→B1,eq_iff_iff→Ac
open Option renaming isSome_some→Bp,isSome_none→CD
namespace Go.Ab
open Go.Proofs
theorem Xw (z:UInt8):EG Hb z=(WO z.toNat||Tu z.toNat||Hi z.toNat||((z.toNat:Int)==95)):=rfl
theorem VH (s:Str) (i:Nat) (x:UInt8) (hx:s[i]?=some x) (hw:EG Hb x=true) (hl:s.length≤16384) (σ1:AF) (a5 a7:AV) (K:AV→AF→Prop) (k:List CI)
 (hk:Run F6 K k (put 0 (.d (.str s)) (put 5 a5 (put 6 (.d (.int .i64 i)) (put 7 a7 (put 8 (.d (.int .i64 (((s.drop i).takeWhile (EG Hb)).length:Nat))) U))))) E σ1):
 Run F6 K (.again Po::.blk 5::k) (put 0 (.d (.str s)) (put 5 a5 (put 6 (.d (.int .i64 i)) (put 7 a7 (put 8 (.d (.int .i64 1)) U))))) E σ1:=by
 refine Run.BG ((fun (a0:AV) (a5:AV) (a6:AV) (a7:AV)=>fun (m:Nat)=>put 0 a0 (put 5 a5 (put 6 a6 (put 7 a7 (put 8 (.d (.int .i64 m)) U))))) _ _ _ _) (fun _=>E) (fun _=>σ1) (fun m=>1≤m∧i+m≤s.length∧∀q b,q < m→(s.drop i)[q]?=some b→EG Hb b=true) (fun m=>s.length - m) ?_ 1 ⟨by omega,?_,?_⟩
 · rintro m ⟨h1,hm,hall⟩ ih
   have hw0:=wrap_add (show i+m≤9000000000000000000 by omega)
   have hw1:=A6 (show m+1≤9000000000000000000 by omega)
   have hend:(∀b,(s.drop i)[m]?=some b→EG Hb b=false)→((s.drop i).takeWhile (EG Hb)).length=m:=fun h=>by
    rw [EW hall (by simp;omega) h];simp;omega
   by_cases hlt:i+m < s.length
   · obtain ⟨z,hz⟩:=BC hlt
     have hz2:(s.drop i)[m]?=some z:=by rw [BM];exact hz
     have hstep:EG Hb z=true→∀q b,q < m+1→(s.drop i)[q]?=some b→EG Hb b=true:=fun hc q b hq hb=>by
      rcases Br q m with h2|h2
      · exact hall q b h2 hb
      · have:q=m:=by omega
        subst this;rw [hz2] at hb;cases hb;exact hc
     (repeat' (first|refine Run.ct rfl ?_|((first|refine Run.reg mixed ?_|refine Run.AD ?_|refine AJ.det (H3 _ _) ?_|refine AJ.det (H4 _ _) ?_|refine AJ.det (GZ _ _) ?_|(refine FY rfl (fun h=>?_) (fun h=>?_)<;>try (cases h;done)))<;>try simp -implicitDefEqProofs only [hw0,hw1,A8 hlt,Co hz,go_sem])|(refine ⟨fun h=>?_,fun h=>?_⟩<;>first|(cases h;done)|try simp only [h])|fail))
     all_goals first
      |exact ih (m+1) ⟨by omega,by omega,hstep (by simp_all [Xw])⟩ (by omega)
      |(rw [hend (fun b hb=>by rw [hz2] at hb;cases hb;simp_all [Xw])] at hk;refine Run.Jr [0,5,6,7,8] ?_;simp -implicitDefEqProofs only [go_sem];exact hk)
   · (repeat' (first|refine Run.ct rfl ?_|((first|refine Run.reg mixed ?_|refine Run.AD ?_)<;>try simp -implicitDefEqProofs only [hw0,Bd hlt,go_sem])|fail))
     rw [hend (fun b hb=>by rw [BM,Ao (by omega)] at hb;cases hb)] at hk
     refine Run.Jr [0,5,6,7,8] ?_;simp -implicitDefEqProofs only [go_sem]
     exact hk
 · have:=(AR.1 hx).1;omega
 · intro q b hq hb
   have:q=0:=by omega
   subst this
   rw [BM,Dx,hx] at hb;cases hb;exact hw
theorem VI (s:Str) (i:Nat) (x:UInt8) (hx:s[i]?=some x) (hw:EG Hi x=true) (hl:s.length≤16384) (σ1:AF) (a5 a7:AV) (K:AV→AF→Prop) (k:List CI)
 (hk:Run F6 K k (put 0 (.d (.str s)) (put 5 a5 (put 6 (.d (.int .i64 i)) (put 7 a7 (put 8 (.d (.int .i64 (((s.drop i).takeWhile (EG Hi)).length:Nat))) U))))) E σ1):
 Run F6 K (.again Pp::.blk 7::k) (put 0 (.d (.str s)) (put 5 a5 (put 6 (.d (.int .i64 i)) (put 7 a7 (put 8 (.d (.int .i64 1)) U))))) E σ1:=by
 refine Run.BG ((fun (a0:AV) (a5:AV) (a6:AV) (a7:AV)=>fun (m:Nat)=>put 0 a0 (put 5 a5 (put 6 a6 (put 7 a7 (put 8 (.d (.int .i64 m)) U))))) _ _ _ _) (fun _=>E) (fun _=>σ1) (fun m=>1≤m∧i+m≤s.length∧∀q b,q < m→(s.drop i)[q]?=some b→EG Hi b=true) (fun m=>s.length - m) ?_ 1 ⟨by omega,?_,?_⟩
 · rintro m ⟨h1,hm,hall⟩ ih
   have hw0:=wrap_add (show i+m≤9000000000000000000 by omega)
   have hw1:=A6 (show m+1≤9000000000000000000 by omega)
   have hend:(∀b,(s.drop i)[m]?=some b→EG Hi b=false)→((s.drop i).takeWhile (EG Hi)).length=m:=fun h=>by
    rw [EW hall (by simp;omega) h];simp;omega
   by_cases hlt:i+m < s.length
   · obtain ⟨z,hz⟩:=BC hlt
     have hz2:(s.drop i)[m]?=some z:=by rw [BM];exact hz
     have hstep:EG Hi z=true→∀q b,q < m+1→(s.drop i)[q]?=some b→EG Hi b=true:=fun hc q b hq hb=>by
      rcases Br q m with h2|h2
      · exact hall q b h2 hb
      · have:q=m:=by omega
        subst this;rw [hz2] at hb;cases hb;exact hc
     cases hd:Hi z.toNat with
     |true=>
      (repeat' (first|refine Run.ct rfl ?_|((first|refine Run.reg mixed ?_|refine Run.AD ?_|refine AJ.det (GZ _ _) ?_)<;>try simp -implicitDefEqProofs only [hw0,hw1,A8 hlt,Co hz,hd,go_sem])|fail))
      exact ih (m+1) ⟨by omega,by omega,hstep hd⟩ (by omega)
     |false=>
      (repeat' (first|refine Run.ct rfl ?_|((first|refine Run.reg mixed ?_|refine Run.AD ?_|refine AJ.det (GZ _ _) ?_)<;>try simp -implicitDefEqProofs only [hw0,hw1,A8 hlt,Co hz,hd,go_sem])|fail))
      rw [hend (fun b hb=>by rw [hz2] at hb;cases hb;exact hd)] at hk
      refine Run.Jr [0,5,6,7,8] ?_;simp -implicitDefEqProofs only [go_sem]
      exact hk
   · (repeat' (first|refine Run.ct rfl ?_|((first|refine Run.reg mixed ?_|refine Run.AD ?_)<;>try simp -implicitDefEqProofs only [hw0,Bd hlt,go_sem])|fail))
     rw [hend (fun b hb=>by rw [BM,Ao (by omega)] at hb;cases hb)] at hk
     refine Run.Jr [0,5,6,7,8] ?_;simp -implicitDefEqProofs only [go_sem]
     exact hk
 · have:=(AR.1 hx).1;omega
 · intro q b hq hb
   have:q=0:=by omega
   subst this
   rw [BM,Dx,hx] at hb;cases hb;exact hw
theorem Yz {c:UInt8→Bool} (s:Str) (i:Nat) (hi:i≤s.length):Ov (.d (.str s)) (some (.d (.int .i64 (i:Int)))) (some (.d (.int .i64 ((i+((s.drop i).takeWhile c).length:Nat):Int))))=some (.d (.str ((s.drop i).takeWhile c))):=by
 have h:=Em c (s.drop i)
 rw [Bm] at h
 rw [jJ (by omega) (by omega),It,LP]
 congr 3
 exact (List.prefix_iff_eq_take.1 (List.takeWhile_prefix c)).symm
theorem jL (s:Str) (i n:Nat) (hi:i≤s.length) (hn:n≤(s.drop i).length):Ov (.d (.str s)) (some (.d (.int .i64 (i:Int)))) (some (.d (.int .i64 ((i+n:Nat):Int))))=some (.d (.str ((s.drop i).take n))):=by
 rw [Bm] at hn
 rw [jJ (by omega) (by omega),It,LP]
theorem Yx:∀(b:UInt8) (r:Str),Gx (b::r)≤(b::r).length
 |b,[]=>by simp only [Gx,Xo];split<;>simp
 |b,c::r=>by
  simp only [Gx]
  cases jG b c
  · simp only [Xo,AZ,if_false];split<;>simp
  · simp
set_option maxHeartbeats 4000000 in
theorem Yc (s:Str) (σ:AF):AM Tryz.prog 117 [.d (.str s)] σ (fun v σ'=>v=IC (G2 s)∧σ'=σ):=by
 refine Zi (by simp) ?_
 rw [Bg]
 by_cases hl:s.length>16384
 · (repeat' (first|refine Run.ct rfl ?_|((first|refine Run.reg mixed ?_|refine Run.AD ?_|refine Run.A1 GO (AF.le_refl _) ?_)<;>try simp -implicitDefEqProofs only [g0,decide_eq_true hl,go_sem])|fail))
   simp [IC,G2,hl]
 · (repeat' (first|refine Run.ct rfl ?_|((first|refine Run.reg mixed ?_|refine Run.AD ?_)<;>try simp -implicitDefEqProofs only [g0,decide_eq_false hl,go_sem])|fail))
   refine Run.BD ?_
   refine Run.BG ((fun (a0:AV)=>fun (y:Nat×AV×AF)=>put 0 a0 (put 5 (y.2.1) (put 6 (.d (.int .i64 y.1)) U))) _) (fun _=>E) (fun y=>y.2.2) (fun y=>y.1≤s.length∧∃acc n,Cg σ 195 3 (acc.map Tok.enc) y.2.1 y.2.2∧acc.length≤y.1∧s.length - y.1 < n∧G2 s=Mf n (s.drop y.1) y.1 acc) (fun y=>s.length - y.1) ?_ (0,.AY,σ) ⟨by simp,[],s.length+1,Cg.nil _ _ _,by simp,by simp,by simp [G2,hl]⟩
   rintro ⟨i,v,σ1⟩ ⟨hi,acc,n,ho,hac,hn,hs⟩ ih
   simp only at hi ho hac hn hs
   obtain ⟨n,rfl⟩:∃m,n=m+1:=⟨n - 1,by omega⟩
   by_cases hlt:i < s.length
   · obtain ⟨x,hx⟩:=BC hlt
     rw [Bb hx,Mf] at hs
     have hw1:=A6 (show i+1≤9000000000000000000 by omega)
     have hsl:(x::s.drop (i+1)).length=s.length - i:=by simp;omega
     cases hb:ZW x.toNat with
     |true=>
      rw [hb,if_pos rfl] at hs
      (repeat' (first|refine Run.ct rfl ?_|((first|refine Run.reg mixed ?_|refine Run.AD ?_|(refine FY rfl (fun h=>?_) (fun h=>?_)<;>try (cases h;done)))<;>try simp -implicitDefEqProofs only [A8 hlt,Co hx,hw1,go_sem])|(refine ⟨fun h=>?_,fun h=>?_⟩<;>first|(cases h;done)|try simp only [h])|fail))
      all_goals first
       |exact ih (i+1,v,σ1) ⟨hlt,acc,n,ho,by simp only;omega,by simp only;omega,hs⟩ (by simp only;omega)
       |(exfalso;simp_all [ZW];done)
     |false=>
      rw [hb,if_neg (by simp)] at hs
      simp only [ZW,OC] at hb
      obtain ⟨⟨⟨h9,h10⟩,h13⟩,h32⟩:=hb
      cases hc:(x==35) with
      |true=>
       rw [hc,if_pos rfl] at hs
       (repeat' (first|refine Run.ct rfl ?_|((first|refine Run.reg mixed ?_|refine Run.AD ?_)<;>try simp -implicitDefEqProofs only [A8 hlt,Co hx,h9,h10,h13,h32,N1,hc,go_sem])|fail))
       refine Run.Jr [0,5,6] ?_;simp -implicitDefEqProofs only [go_sem]
       refine Run.BD ?_
       refine Run.BG ((fun (a0:AV) (a5:AV)=>fun (j:Nat)=>put 0 a0 (put 5 a5 (put 6 (.d (.int .i64 j)) U))) _ _) (fun _=>E) (fun _=>σ1) (fun j=>i≤j∧j≤s.length∧∀q b,q < j - i→(s.drop i)[q]?=some b→(!(b==10))=true) (fun j=>s.length - j) ?_ i ⟨A0 i,hi,by intro q b hq;omega⟩
       rintro j ⟨hij,hj,hall⟩ ih2
       have hw2:=A6 (show j+1≤9000000000000000000 by omega)
       have hend:(∀z,s[j]?=some z→(z==10)=true)→j≠i∧G2 s=Mf n (s.drop j) j acc:=fun hz=>by
        have hji:j≠i:=fun e=>by
         subst e
         have h10:=hz x hx
         simp only [beq_iff_eq] at hc h10
         rw [hc] at h10;exact absurd h10 (by decide)
        have hk:cmt (x::s.drop (i+1))=j - i:=by
         rw [← Bb hx,cmt,EW hall (by simp;omega) (fun b hb=>by
          rw [BM,show i+(j - i)=j by omega] at hb
          simp [hz b hb])]
         simp;omega
        rw [hk,← Bb hx,Du,show i+(j - i)=j by omega] at hs
        exact ⟨hji,hs⟩
       by_cases hjl:j < s.length
       · obtain ⟨z,hz⟩:=BC hjl
         have hz2:(s.drop i)[j - i]?=some z:=by rw [BM,show i+(j - i)=j by omega];exact hz
         cases h10:(z==10) with
         |true=>
          obtain ⟨hji,hs⟩:=hend (fun z' hz'=>by rw [hz] at hz';cases hz';exact h10)
          (repeat' (first|refine Run.ct rfl ?_|((first|refine Run.reg mixed ?_|refine Run.AD ?_)<;>try simp -implicitDefEqProofs only [A8 hjl,Co hz,Xr,bne,h10,go_sem])|fail))
          refine Run.Jr [0,5,6] ?_;simp -implicitDefEqProofs only [go_sem]
          exact ih (j,v,σ1) ⟨hj,acc,n,ho,by simp only;omega,by simp only;omega,hs⟩ (by simp only;omega)
         |false=>
          (repeat' (first|refine Run.ct rfl ?_|((first|refine Run.reg mixed ?_|refine Run.AD ?_)<;>try simp -implicitDefEqProofs only [A8 hjl,Co hz,Xr,bne,h10,hw2,go_sem])|fail))
          refine ih2 (j+1) ⟨by omega,hjl,fun q b hq hb=>?_⟩ (by omega)
          rcases Br q (j - i) with h2|h2
          · exact hall q b h2 hb
          · have:q=j - i:=by omega
            subst this
            rw [hz2] at hb;cases hb;simp [h10]
       · obtain ⟨hji,hs⟩:=hend (fun z hz=>by rw [Ao (by omega)] at hz;cases hz)
         (repeat' (first|refine Run.ct rfl ?_|((first|refine Run.reg mixed ?_|refine Run.AD ?_)<;>try simp -implicitDefEqProofs only [Bd hjl,go_sem])|fail))
         refine Run.Jr [0,5,6] ?_;simp -implicitDefEqProofs only [go_sem]
         exact ih (j,v,σ1) ⟨hj,acc,n,ho,by simp only;omega,by simp only;omega,hs⟩ (by simp only;omega)
      |false=>
       rw [hc,if_neg (by simp)] at hs
       have hld:s.drop i=x::s.drop (i+1):=Bb hx
       have hss:Ov (.d (.str s)) (some (.d (.int .i64 (i:Int)))) none=some (.d (.str (x::s.drop (i+1)))):=by rw [jK hi,hld]
       -- behind a token
       have next:∀(k:Int) (t:Str) (v2:AV) (σ2:AF),Hy (x::s.drop (i+1))= .ok (k,t)→Cg σ 195 3 (acc.map Tok.enc++[[.int .i64 k,.str t,.int .i64 i]]) v2 σ2→
        1≤t.length∧i+t.length≤s.length∧(i+t.length≤s.length∧∃acc n,Cg σ 195 3 (acc.map Tok.enc) v2 σ2∧acc.length≤i+t.length∧s.length - (i+t.length) < n∧G2 s=Mf n (s.drop (i+t.length)) (i+t.length) acc):=fun k t v2 σ2 hsc ho2=>by
        have hsn:=Yt hsc
        rw [hsl] at hsn
        rw [hsc] at hs
        refine ⟨hsn.1,by omega,by omega,acc++[⟨k,t,i⟩],n,by simpa [Tok.enc] using ho2,by simp only [AS,List.length_singleton];omega,by omega,?_⟩
        rw [hs];simp only;rw [← Bb hx,Du]
       have fail:∀e:Int,Hy (x::s.drop (i+1))= .error e→G2 s=([],i,e):=fun e he=>by rw [hs,he]
       have hwd:=Yz (c:=EG Hb) s i hi
       have hdd:=Yz (c:=EG Hi) s i hi
       have hsg:=jL s i (Gx (x::s.drop (i+1))) hi (by rw [hld];exact Yx _ _)
       have hwl:=Em (EG Hb) (s.drop i)
       have hdl:=Em (EG Hi) (s.drop i)
       have hsl2:=Yx x (s.drop (i+1))
       have hL1:=VH s i x hx
       have hL2:=VI s i x hx
       rw [hld] at hwd hdd hsg hwl hdl hL1 hL2
       simp only [hsl] at hwl hdl hsl2
       have hw0:=fun n (h:n≤s.length - i)=>wrap_add (show i+n≤9000000000000000000 by omega)
       have hap:∀(r:List DV),r.length=3→∀q∈[r],q.length=3:=fun r hr q hq=>by rw [B5] at hq;rw [hq];exact hr
       have gt24':=pE
       have gt1':=gt1
       by_cases hlu:(WO x.toNat||Tu x.toNat)=true
       · have hwx:EG Hb x=true:=by rw [Xw,hlu];rfl
         have hsc:Hy (x::s.drop (i+1))=if decide (((x::s.drop (i+1)).takeWhile (EG Hb)).length>24) then .error 9
                                                                                 else if Tu x.toNat then .ok (2,(x::s.drop (i+1)).takeWhile (EG Hb))
                                                                                 else if eA ((x::s.drop (i+1)).takeWhile (EG Hb)) then .ok (4,(x::s.drop (i+1)).takeWhile (EG Hb))
                                                                                 else .ok (1,(x::s.drop (i+1)).takeWhile (EG Hb)):=by rw [Hy,if_pos hlu]
         have hL:=fun K k=>hL1 hwx (by omega) σ1 v (.d (.int .u8 x.toNat)) K k
         generalize ((x::s.drop (i+1)).takeWhile (EG Hb))=w at hwd hwl hsc hL
         have hwn:=hw0 w.length hwl
         cases hup:Tu x.toNat<;>cases hlo:WO x.toNat<;>rw [hup] at hsc<;>first|(simp only [hup,hlo,Bool.or_self,AZ] at hlu;done)|skip
         all_goals (repeat' (first|refine Run.ct rfl ?_|((first|refine Run.reg mixed ?_|refine Run.AD ?_|(refine Run.BD ?_;refine Run.Jr [0,5,6,7,8] ?_;simp -implicitDefEqProofs only [go_sem];refine hL _ _ ?_)|(refine Dy.own ho rfl (by simp) (by simp;omega) (by decide) (fun v2 σ2 ho2 hbk=>?_))|(refine Run.A1 GO ho.le ?_)|refine AJ.det (H3 _ _) ?_|refine AJ.det (H4 _ _) ?_|refine AJ.det (WT _ _) ?_)<;>try simp -implicitDefEqProofs only [hup,hlo,A8 hlt,Co hx,h9,h10,h13,h32,N1,hc,hwn,hwd,gt24',ho.Ar,AZ,go_sem])|(refine ⟨fun h=>?_,fun h=>?_⟩<;>first|(cases h;done)|try simp only [h])|fail))
         all_goals first
          |(obtain ⟨p1,p2,p3⟩:=next _ w _ _ (by rw [hsc];simp only [*,AZ,reduceIte,Am,B3,BA,B1,Bp,CD]) ho2;exact ih (i+w.length,_,_) p3 (by simp only;omega))
          |(rw [fail 9 (by rw [hsc];simp only [*,AZ,reduceIte,Am,B3,BA,B1,Bp,CD])];simp [IC];done)
       · simp only [Bool.not_eq_true,OC] at hlu
         have hnlu:¬(WO x.toNat||Tu x.toNat)=true:=by simp [hlu]
         cases hdg:Hi x.toNat with
         |true=>
          have hsc:Hy (x::s.drop (i+1))=if x==48&&decide (((x::s.drop (i+1)).takeWhile (EG Hi)).length>1) then .error 2
                                                                                         else if (L8 ((x::s.drop (i+1)).takeWhile (EG Hi)) 0).isSome then .ok (3,(x::s.drop (i+1)).takeWhile (EG Hi))
                                                                                         else .error 9:=by rw [Hy,if_neg hnlu,if_pos hdg]
          have hL:=fun K k=>hL2 hdg (by omega) σ1 v (.d (.int .u8 x.toNat)) K k
          generalize ((x::s.drop (i+1)).takeWhile (EG Hi))=w at hdd hdl hsc hL
          have hwn:=hw0 w.length hdl
          have hval:=Yd w σ1 (by omega)
          cases hv:L8 w 0 with
          |some z=>
           rw [hv] at hval
           (repeat' (first|refine Run.ct rfl ?_|((first|refine Run.reg mixed ?_|refine Run.AD ?_|(refine Run.BD ?_;refine Run.Jr [0,5,6,7,8] ?_;simp -implicitDefEqProofs only [go_sem];refine hL _ _ ?_)|(refine Dy.own ho rfl (by simp) (by simp;omega) (by decide) (fun v2 σ2 ho2 hbk=>?_))|(refine Run.A1 GO ho.le ?_)|refine AJ.det (H3 _ _) ?_|refine AJ.det (H4 _ _) ?_|refine AJ.det (GZ _ _) ?_|refine AJ.det (hval) ?_|(refine FY rfl (fun h=>?_) (fun h=>?_)<;>try (cases h;done)))<;>try simp -implicitDefEqProofs only [A8 hlt,Co hx,h9,h10,h13,h32,N1,hc,hwn,hdd,gt1',jN,hlu.1,hlu.2,hdg,ho.Ar,AZ,go_sem])|(refine ⟨fun h=>?_,fun h=>?_⟩<;>first|(cases h;done)|try simp only [h])|fail))
           all_goals first
            |(obtain ⟨p1,p2,p3⟩:=next _ w _ _ (by rw [hsc];simp only [*,AZ,reduceIte,Am,B3,BA,B1,Bp,CD]) ho2;exact ih (i+w.length,_,_) p3 (by simp only;omega))
            |(rw [fail 2 (by rw [hsc];simp only [*,AZ,reduceIte,Am,B3,BA,B1,Bp,CD])];simp [IC];done)
          |none=>
           rw [hv] at hval
           (repeat' (first|refine Run.ct rfl ?_|((first|refine Run.reg mixed ?_|refine Run.AD ?_|(refine Run.BD ?_;refine Run.Jr [0,5,6,7,8] ?_;simp -implicitDefEqProofs only [go_sem];refine hL _ _ ?_)|(refine Dy.own ho rfl (by simp) (by simp;omega) (by decide) (fun v2 σ2 ho2 hbk=>?_))|(refine Run.A1 GO ho.le ?_)|refine AJ.det (H3 _ _) ?_|refine AJ.det (H4 _ _) ?_|refine AJ.det (GZ _ _) ?_|refine AJ.det (hval) ?_|(refine FY rfl (fun h=>?_) (fun h=>?_)<;>try (cases h;done)))<;>try simp -implicitDefEqProofs only [A8 hlt,Co hx,h9,h10,h13,h32,N1,hc,hwn,hdd,gt1',jN,hlu.1,hlu.2,hdg,ho.Ar,AZ,go_sem])|(refine ⟨fun h=>?_,fun h=>?_⟩<;>first|(cases h;done)|try simp only [h])|fail))
           all_goals first
            |(rw [fail 2 (by rw [hsc];simp only [*,AZ,reduceIte,Am,B3,BA,B1,Bp,CD])];simp [IC];done)
            |(rw [fail 9 (by rw [hsc];simp only [*,AZ,reduceIte,Am,B3,BA,B1,Bp,CD])];simp [IC];done)
         |false=>
          have hsc:Hy (x::s.drop (i+1))=if (x::s.drop (i+1)).take (Gx (x::s.drop (i+1)))==[] then .error 2 else .ok (5,(x::s.drop (i+1)).take (Gx (x::s.drop (i+1)))):=by rw [Hy,if_neg hnlu,if_neg (by simp [hdg])]
          have hsk:=aN (x::s.drop (i+1)) σ1 (by simp)
          have hwn:=hw0 (Gx (x::s.drop (i+1))) hsl2
          have htl:((x::s.drop (i+1)).take (Gx (x::s.drop (i+1)))).length=Gx (x::s.drop (i+1)):=by rw [Aj,hsl];omega
          generalize Gx (x::s.drop (i+1))=m at hsc hsk hwn hsg hsl2 htl
          generalize ((x::s.drop (i+1)).take m)=w at hsc hsg htl
          have hz:((m:Int)==0)=(w==[]):=by
           rw [Ac];simp only [beq_iff_eq]
           rw [← List.length_eq_zero_iff,htl];omega
          cases hw:(w==[]) with
          |true=>
           (repeat' (first|refine Run.ct rfl ?_|((first|refine Run.reg mixed ?_|refine Run.AD ?_|(refine Run.A1 GO ho.le ?_)|refine AJ.det (H3 _ _) ?_|refine AJ.det (H4 _ _) ?_|refine AJ.det (GZ _ _) ?_|refine AJ.det (hsk) ?_)<;>try simp -implicitDefEqProofs only [A8 hlt,Co hx,h9,h10,h13,h32,N1,hc,hss,hwn,hsg,hlu.1,hlu.2,hdg,hz,hw,ho.Ar,AZ,go_sem])|fail))
           rw [fail 2 (by rw [hsc,if_pos hw])];simp [IC]
          |false=>
           (repeat' (first|refine Run.ct rfl ?_|((first|refine Run.reg mixed ?_|refine Run.AD ?_|(refine Dy.own ho rfl (by simp) (by simp;omega) (by decide) (fun v2 σ2 ho2 hbk=>?_))|(refine Run.A1 GO ho.le ?_)|refine AJ.det (H3 _ _) ?_|refine AJ.det (H4 _ _) ?_|refine AJ.det (GZ _ _) ?_|refine AJ.det (hsk) ?_)<;>try simp -implicitDefEqProofs only [A8 hlt,Co hx,h9,h10,h13,h32,N1,hc,hss,hwn,hsg,hlu.1,hlu.2,hdg,hz,hw,ho.Ar,AZ,go_sem])|fail))
           obtain ⟨p1,p2,p3⟩:=next 5 w _ _ (by rw [hsc,if_neg (by simp [hw])]) ‹_›
           rw [htl] at p1 p2 p3
           exact ih (i+m,_,_) p3 (by simp only;omega)
   · have hge:i=s.length:=by omega
     rw [hge,Nj,Mf] at hs
     (repeat' (first|refine Run.ct rfl ?_|((first|refine Run.reg mixed ?_|refine Run.AD ?_|(refine Dy.own ho rfl (by simp) (by simp;omega) (by decide) (fun v2 σ2 ho2 hbk=>?_))|(refine Run.A1 GO ho2.le ?_))<;>try simp -implicitDefEqProofs only [Bd hlt,go_sem])|fail))
     simp -implicitDefEqProofs only [ho2.BZ,ho2.plain,go_sem]
     rw [hs];simp [IC,Tok.enc]
end Go.Ab
namespace Go.Ab
open Go.Proofs
theorem D1 {α:Type} {p:α→Bool} {l:List α} {i:Nat} {x:α} (h:∀y∈l.take i,p y=false) (hx:l[i]?=some x) (hp:p x=true):l.findIdx? p=some i:=by
 rw [fV]
 obtain ⟨hl,he⟩:=AR.1 hx
 refine ⟨hl,by rw [he];exact hp,fun j hj=>?_⟩
 rw [h (l[j]'(by omega)) (List.mem_take_iff_getElem.2 ⟨j,by omega,rfl⟩)];simp
theorem D2 {α:Type} {p:α→Bool} {l:List α} (h:∀y∈l,p y=false):l.findIdx? p=none:=by
 rw [List.findIdx?_eq_none_iff];exact h
theorem Eg {α:Type} {p:α→Bool} {l:List α} {i:Nat} {x:α} (h:∀y∈l.take i,p y=false) (hx:l[i]?=some x) (hp:p x=false):∀y∈l.take (i+1),p y=false:=by
 intro y hy
 rw [Aw hx] at hy
 rcases A3.1 hy with hy|hy
 · exact h y hy
 · simp only [B5] at hy;subst hy;exact hp
theorem PL (o:Option Nat):decide (0≤Ee o)=o.isSome:=by
 cases o<;>simp [Ee]
theorem Iw {α:Type} (p:α→Bool) (l:List α):(l.findIdx? p).isSome=l.any p:=by
 rw [List.findIdx?_isSome]
theorem PW {fid:FuncId} {caps:List AV} (hb:C0 Tryz.prog fid=true) (hcp:caps.all AV.BZ=true) (p:Str→Bool) (l:List Str) (σ:AF) (hf:∀x∈l,AM Tryz.prog fid ((.d (.str x))::caps) σ (fun v σ'=>v= .d (.bool (p x))∧σ'=σ)):
 AM Tryz.prog 150 [.d (.sl (l.map BF)),.fn fid [] caps] σ (fun v σ'=>v= .d (.int .i64 (Ee (l.findIdx? p)))∧σ'=σ):=by
 refine LH (by simp) ?_
 rw [BY]
 refine Run.slot 0 (fun hb0=>?_)
 simp only [Dn,if_true,AV.FB,AA] at hb0
 (repeat' (first|refine Run.ct rfl ?_|((first|refine Run.reg mixed ?_|refine Run.AD ?_)<;>try simp -implicitDefEqProofs only [AA,go_sem])|fail))
 refine Run.BD ?_
 refine Run.BG ((fun (a0:AV) (a1:AV) (a7:AV)=>fun (i:Nat)=>put 0 a0 (put 1 a1 (put 7 a7 (put 8 (.d (.int .i64 i)) U)))) _ _ _) (fun _=>E) (fun _=>σ) (fun i=>i≤l.length∧∀x∈l.take i,p x=false) (fun i=>l.length - i) ?_ 0 ⟨by simp,by simp⟩
 rintro i ⟨hi,hno⟩ ih
 by_cases hlt:i < l.length
 · obtain ⟨x,hx⟩:=BC hlt
   have he:=Ay (enc:=BF) hx
   have hw1:IntKind.i64.wrap ((i:Int)+1)=((i+1:Nat):Int):=by rw [BI (by omega) (by omega)];omega
   have hc:=hf x (AT hx)
   simp only [BF] at he
   cases hp:p x with
   |true=>
    rw [hp] at hc
    (repeat' (first|refine Run.ct rfl ?_|((first|refine Run.reg mixed ?_|refine Run.AD ?_|refine Run.A1 Ea (AF.le_refl _) ?_|(refine ⟨fid,[],caps,rfl,hb,AJ.det hc ?_ (by simp [hcp,Ft,DR])⟩))<;>try simp -implicitDefEqProofs only [A8 hlt,he,hw1,go_sem])|fail))
    rw [D1 hno hx hp];rfl
   |false=>
    rw [hp] at hc
    (repeat' (first|refine Run.ct rfl ?_|((first|refine Run.reg mixed ?_|refine Run.AD ?_|(refine ⟨fid,[],caps,rfl,hb,AJ.det hc ?_ (by simp [hcp,Ft,DR])⟩))<;>try simp -implicitDefEqProofs only [A8 hlt,he,hw1,go_sem])|fail))
    exact ih (i+1) ⟨by omega,Eg hno hx hp⟩ (by omega)
 · (repeat' (first|refine Run.ct rfl ?_|((first|refine Run.reg mixed ?_|refine Run.AD ?_|refine Run.A1 Ea (AF.le_refl _) ?_)<;>try simp -implicitDefEqProofs only [Bd hlt,go_sem])|fail))
   rw [AH (by omega)] at hno
   rw [D2 hno];rfl
theorem Mm {fid:FuncId} {caps:List AV} (hb:C0 Tryz.prog fid=true) (hcp:caps.all AV.BZ=true) (p:Str→Bool) (l:List Str) (σ:AF) (hf:∀x∈l,AM Tryz.prog fid ((.d (.str x))::caps) σ (fun v σ'=>v= .d (.bool (p x))∧σ'=σ)):
 AM Tryz.prog 126 [.d (.sl (l.map BF)),.fn fid [] caps] σ (fun v σ'=>v= .d (.bool (l.any p))∧σ'=σ):=by
 refine J8 (by simp) ?_
 rw [BY]
 (repeat' (first|refine Run.ct rfl ?_|((first|refine Run.reg mixed ?_|refine Run.AD ?_|refine Run.A1 Fb (AF.le_refl _) ?_|refine AJ.det (PW hb hcp p l σ hf) ?_)<;>try simp -implicitDefEqProofs only [PL,Iw,go_sem])|fail))
theorem TS {fid:FuncId} {caps:List AV} (hb:C0 Tryz.prog fid=true) (hcp:caps.all AV.BZ=true) (x:Str) (b:Bool) (j:Nat) (σ:AF) (hj:σ.blk j=some [.fn fid [] caps]) (hf:AM Tryz.prog fid ((.d (.str x))::caps) σ (fun v σ'=>v= .d (.bool b)∧σ'=σ)):
 AM Tryz.prog 127 [(.d (.str x)),.gp j 0] σ (fun v σ'=>v= .d (.bool (!b))∧σ'=σ):=by
 refine Nr (by simp) ?_
 rw [BY]
 (repeat' (first|refine Run.ct rfl ?_|((first|refine Run.reg mixed ?_|refine Run.AD ?_|refine Run.A1 IZ (AF.le_refl _) ?_|(refine ⟨fid,[],caps,rfl,hb,AJ.det hf ?_ (by simp [hcp,Ft,DR])⟩))<;>try simp -implicitDefEqProofs only [hj,go_sem])|fail))
theorem Gn {fid:FuncId} {caps:List AV} (hb:C0 Tryz.prog fid=true) (hcp:caps.all AV.BZ=true) (p:Str→Bool) (l:List Str) (σ:AF) (hf:∀x∈l,∀σ1,σ.le σ1→AM Tryz.prog fid ((.d (.str x))::caps) σ1 (fun v σ'=>v= .d (.bool (p x))∧σ'=σ1)):
 AM Tryz.prog 97 [.d (.sl (l.map BF)),.fn fid [] caps] σ (fun v σ'=>v= .d (.bool (l.all p))∧σ'=σ):=by
 refine P6 (by simp) ?_
 rw [BY]
 (repeat' (first|refine Run.ct rfl ?_|((first|refine Run.reg mixed ?_|refine Run.AD ?_)<;>try simp -implicitDefEqProofs only [go_sem])|fail))
 intro j hj
 have hle:=Bj (cs:=[.fn fid [] caps]) hj
 (repeat' (first|refine Run.ct rfl ?_|((first|refine Run.reg mixed ?_|refine Run.AD ?_|(refine Run.A1 Jo (σ2:=σ) hle ?_)|refine AJ.det (Mm (by kernel_rfl) rfl (fun x=>!p x) l _ (fun x hx=>TS hb hcp x (p x) j _ (by simp only [AL,if_true]) (hf x hx _ hle))) ?_)<;>try simp -implicitDefEqProofs only [go_sem])|fail))
 simp [LN]
theorem LD {fid:FuncId} {caps:List AV} (hb:C0 Tryz.prog fid=true) (hcp:caps.all AV.BZ=true) (p:TE→Bool) (l:List TE) (σ:AF) (hf:∀x∈l,AM Tryz.prog fid ((teA x)::caps) σ (fun v σ'=>v= .d (.bool (p x))∧σ'=σ)):
 AM Tryz.prog 161 [.d (.sl (l.map TE.enc)),.fn fid [] caps] σ (fun v σ'=>v= .d (.int .i64 (Ee (l.findIdx? p)))∧σ'=σ):=by
 refine IK (by simp) ?_
 rw [BY]
 refine Run.slot 0 (fun hb0=>?_)
 simp only [Dn,if_true,AV.FB,AA] at hb0
 (repeat' (first|refine Run.ct rfl ?_|((first|refine Run.reg mixed ?_|refine Run.AD ?_)<;>try simp -implicitDefEqProofs only [AA,go_sem])|fail))
 refine Run.BD ?_
 refine Run.BG ((fun (a0:AV) (a1:AV) (a7:AV)=>fun (i:Nat)=>put 0 a0 (put 1 a1 (put 7 a7 (put 8 (.d (.int .i64 i)) U)))) _ _ _) (fun _=>E) (fun _=>σ) (fun i=>i≤l.length∧∀x∈l.take i,p x=false) (fun i=>l.length - i) ?_ 0 ⟨by simp,by simp⟩
 rintro i ⟨hi,hno⟩ ih
 by_cases hlt:i < l.length
 · obtain ⟨x,hx⟩:=BC hlt
   have he:=Ay (enc:=TE.enc) hx
   have hw1:IntKind.i64.wrap ((i:Int)+1)=((i+1:Nat):Int):=by rw [BI (by omega) (by omega)];omega
   have hc:=hf x (AT hx)
   obtain ⟨k,n,al⟩:=x
   simp only [TE.A7,teA,AI,AO] at he hc
   cases hp:p (.mk k n al) with
   |true=>
    rw [hp] at hc
    (repeat' (first|refine Run.ct rfl ?_|((first|refine Run.reg mixed ?_|refine Run.AD ?_|refine Run.A1 DL (AF.le_refl _) ?_|(refine ⟨fid,[],caps,rfl,hb,AJ.det hc ?_ (by simp [hcp,Ft,DR])⟩))<;>try simp -implicitDefEqProofs only [A8 hlt,he,hw1,go_sem])|fail))
    rw [D1 hno hx hp];rfl
   |false=>
    rw [hp] at hc
    (repeat' (first|refine Run.ct rfl ?_|((first|refine Run.reg mixed ?_|refine Run.AD ?_|(refine ⟨fid,[],caps,rfl,hb,AJ.det hc ?_ (by simp [hcp,Ft,DR])⟩))<;>try simp -implicitDefEqProofs only [A8 hlt,he,hw1,go_sem])|fail))
    exact ih (i+1) ⟨by omega,Eg hno hx hp⟩ (by omega)
 · (repeat' (first|refine Run.ct rfl ?_|((first|refine Run.reg mixed ?_|refine Run.AD ?_|refine Run.A1 DL (AF.le_refl _) ?_)<;>try simp -implicitDefEqProofs only [Bd hlt,go_sem])|fail))
   rw [AH (by omega)] at hno
   rw [D2 hno];rfl
theorem J1 {fid:FuncId} {caps:List AV} (hb:C0 Tryz.prog fid=true) (hcp:caps.all AV.BZ=true) (p:TE→Bool) (l:List TE) (σ:AF) (hf:∀x∈l,AM Tryz.prog fid ((teA x)::caps) σ (fun v σ'=>v= .d (.bool (p x))∧σ'=σ)):
 AM Tryz.prog 146 [.d (.sl (l.map TE.enc)),.fn fid [] caps] σ (fun v σ'=>v= .d (.bool (l.any p))∧σ'=σ):=by
 refine HR (by simp) ?_
 rw [BY]
 (repeat' (first|refine Run.ct rfl ?_|((first|refine Run.reg mixed ?_|refine Run.AD ?_|refine Run.A1 ET (AF.le_refl _) ?_|refine AJ.det (LD hb hcp p l σ hf) ?_)<;>try simp -implicitDefEqProofs only [PL,Iw,go_sem])|fail))
theorem Nl {fid:FuncId} {caps:List AV} (hb:C0 Tryz.prog fid=true) (hcp:caps.all AV.BZ=true) (x:TE) (b:Bool) (j:Nat) (σ:AF) (hj:σ.blk j=some [.fn fid [] caps]) (hf:AM Tryz.prog fid ((teA x)::caps) σ (fun v σ'=>v= .d (.bool b)∧σ'=σ)):
 AM Tryz.prog 147 [(teA x),.gp j 0] σ (fun v σ'=>v= .d (.bool (!b))∧σ'=σ):=by
 refine KE (by simp) ?_
 rw [BY]
 obtain ⟨k,n,al⟩:=x
 simp only [TE.A7,teA,AI,AO] at hf ⊢
 (repeat' (first|refine Run.ct rfl ?_|((first|refine Run.reg mixed ?_|refine Run.AD ?_|refine Run.A1 GB (AF.le_refl _) ?_|(refine ⟨fid,[],caps,rfl,hb,AJ.det hf ?_ (by simp [hcp,Ft,DR])⟩))<;>try simp -implicitDefEqProofs only [hj,go_sem])|fail))
theorem Jh {fid:FuncId} {caps:List AV} (hb:C0 Tryz.prog fid=true) (hcp:caps.all AV.BZ=true) (p:TE→Bool) (l:List TE) (σ:AF) (hf:∀x∈l,∀σ1,σ.le σ1→AM Tryz.prog fid ((teA x)::caps) σ1 (fun v σ'=>v= .d (.bool (p x))∧σ'=σ1)):
 AM Tryz.prog 122 [.d (.sl (l.map TE.enc)),.fn fid [] caps] σ (fun v σ'=>v= .d (.bool (l.all p))∧σ'=σ):=by
 refine LI (by simp) ?_
 rw [BY]
 (repeat' (first|refine Run.ct rfl ?_|((first|refine Run.reg mixed ?_|refine Run.AD ?_)<;>try simp -implicitDefEqProofs only [go_sem])|fail))
 intro j hj
 have hle:=Bj (cs:=[.fn fid [] caps]) hj
 (repeat' (first|refine Run.ct rfl ?_|((first|refine Run.reg mixed ?_|refine Run.AD ?_|(refine Run.A1 Gj (σ2:=σ) hle ?_)|refine AJ.det (J1 (by kernel_rfl) rfl (fun x=>!p x) l _ (fun x hx=>Nl hb hcp x (p x) j _ (by simp only [AL,if_true]) (hf x hx _ hle))) ?_)<;>try simp -implicitDefEqProofs only [go_sem])|fail))
 simp [LN]
theorem La {fid:FuncId} {caps:List AV} (hb:C0 Tryz.prog fid=true) (hcp:caps.all AV.BZ=true) (p:CE→Bool) (l:List CE) (σ:AF) (hf:∀x∈l,AM Tryz.prog fid ((ceA x)::caps) σ (fun v σ'=>v= .d (.bool (p x))∧σ'=σ)):
 AM Tryz.prog 160 [.d (.sl (l.map CE.enc)),.fn fid [] caps] σ (fun v σ'=>v= .d (.int .i64 (Ee (l.findIdx? p)))∧σ'=σ):=by
 refine Ih (by simp) ?_
 rw [BY]
 refine Run.slot 0 (fun hb0=>?_)
 simp only [Dn,if_true,AV.FB,AA] at hb0
 (repeat' (first|refine Run.ct rfl ?_|((first|refine Run.reg mixed ?_|refine Run.AD ?_)<;>try simp -implicitDefEqProofs only [AA,go_sem])|fail))
 refine Run.BD ?_
 refine Run.BG ((fun (a0:AV) (a1:AV) (a7:AV)=>fun (i:Nat)=>put 0 a0 (put 1 a1 (put 7 a7 (put 8 (.d (.int .i64 i)) U)))) _ _ _) (fun _=>E) (fun _=>σ) (fun i=>i≤l.length∧∀x∈l.take i,p x=false) (fun i=>l.length - i) ?_ 0 ⟨by simp,by simp⟩
 rintro i ⟨hi,hno⟩ ih
 by_cases hlt:i < l.length
 · obtain ⟨x,hx⟩:=BC hlt
   have he:=Ay (enc:=CE.enc) hx
   have hw1:IntKind.i64.wrap ((i:Int)+1)=((i+1:Nat):Int):=by rw [BI (by omega) (by omega)];omega
   have hc:=hf x (AT hx)
   obtain ⟨nm,ar⟩:=x
   simp only [CE.enc,ceA,AI,AO] at he hc
   cases hp:p (⟨nm,ar⟩) with
   |true=>
    rw [hp] at hc
    (repeat' (first|refine Run.ct rfl ?_|((first|refine Run.reg mixed ?_|refine Run.AD ?_|refine Run.A1 D4 (AF.le_refl _) ?_|(refine ⟨fid,[],caps,rfl,hb,AJ.det hc ?_ (by simp [hcp,Ft,DR])⟩))<;>try simp -implicitDefEqProofs only [A8 hlt,he,hw1,go_sem])|fail))
    rw [D1 hno hx hp];rfl
   |false=>
    rw [hp] at hc
    (repeat' (first|refine Run.ct rfl ?_|((first|refine Run.reg mixed ?_|refine Run.AD ?_|(refine ⟨fid,[],caps,rfl,hb,AJ.det hc ?_ (by simp [hcp,Ft,DR])⟩))<;>try simp -implicitDefEqProofs only [A8 hlt,he,hw1,go_sem])|fail))
    exact ih (i+1) ⟨by omega,Eg hno hx hp⟩ (by omega)
 · (repeat' (first|refine Run.ct rfl ?_|((first|refine Run.reg mixed ?_|refine Run.AD ?_|refine Run.A1 D4 (AF.le_refl _) ?_)<;>try simp -implicitDefEqProofs only [Bd hlt,go_sem])|fail))
   rw [AH (by omega)] at hno
   rw [D2 hno];rfl
theorem Ju {fid:FuncId} {caps:List AV} (hb:C0 Tryz.prog fid=true) (hcp:caps.all AV.BZ=true) (p:CE→Bool) (l:List CE) (σ:AF) (hf:∀x∈l,AM Tryz.prog fid ((ceA x)::caps) σ (fun v σ'=>v= .d (.bool (p x))∧σ'=σ)):
 AM Tryz.prog 144 [.d (.sl (l.map CE.enc)),.fn fid [] caps] σ (fun v σ'=>v= .d (.bool (l.any p))∧σ'=σ):=by
 refine Ha (by simp) ?_
 rw [BY]
 (repeat' (first|refine Run.ct rfl ?_|((first|refine Run.reg mixed ?_|refine Run.AD ?_|refine Run.A1 E8 (AF.le_refl _) ?_|refine AJ.det (La hb hcp p l σ hf) ?_)<;>try simp -implicitDefEqProofs only [PL,Iw,go_sem])|fail))
theorem OG {fid:FuncId} {caps:List AV} (hb:C0 Tryz.prog fid=true) (hcp:caps.all AV.BZ=true) (x:CE) (b:Bool) (j:Nat) (σ:AF) (hj:σ.blk j=some [.fn fid [] caps]) (hf:AM Tryz.prog fid ((ceA x)::caps) σ (fun v σ'=>v= .d (.bool b)∧σ'=σ)):
 AM Tryz.prog 145 [(ceA x),.gp j 0] σ (fun v σ'=>v= .d (.bool (!b))∧σ'=σ):=by
 refine Kl (by simp) ?_
 rw [BY]
 obtain ⟨nm,ar⟩:=x
 simp only [CE.enc,ceA,AI,AO] at hf ⊢
 (repeat' (first|refine Run.ct rfl ?_|((first|refine Run.reg mixed ?_|refine Run.AD ?_|refine Run.A1 GU (AF.le_refl _) ?_|(refine ⟨fid,[],caps,rfl,hb,AJ.det hf ?_ (by simp [hcp,Ft,DR])⟩))<;>try simp -implicitDefEqProofs only [hj,go_sem])|fail))
theorem QV {fid:FuncId} {caps:List AV} (hb:C0 Tryz.prog fid=true) (hcp:caps.all AV.BZ=true) (p:CE→Bool) (l:List CE) (σ:AF) (hf:∀x∈l,∀σ1,σ.le σ1→AM Tryz.prog fid ((ceA x)::caps) σ1 (fun v σ'=>v= .d (.bool (p x))∧σ'=σ1)):
 AM Tryz.prog 120 [.d (.sl (l.map CE.enc)),.fn fid [] caps] σ (fun v σ'=>v= .d (.bool (l.all p))∧σ'=σ):=by
 refine Lp (by simp) ?_
 rw [BY]
 (repeat' (first|refine Run.ct rfl ?_|((first|refine Run.reg mixed ?_|refine Run.AD ?_)<;>try simp -implicitDefEqProofs only [go_sem])|fail))
 intro j hj
 have hle:=Bj (cs:=[.fn fid [] caps]) hj
 (repeat' (first|refine Run.ct rfl ?_|((first|refine Run.reg mixed ?_|refine Run.AD ?_|(refine Run.A1 Gu (σ2:=σ) hle ?_)|refine AJ.det (Ju (by kernel_rfl) rfl (fun x=>!p x) l _ (fun x hx=>OG hb hcp x (p x) j _ (by simp only [AL,if_true]) (hf x hx _ hle))) ?_)<;>try simp -implicitDefEqProofs only [go_sem])|fail))
 simp [LN]
theorem OE {fid:FuncId} {caps:List AV} (hb:C0 Tryz.prog fid=true) (hcp:caps.all AV.BZ=true) (p:Al→Bool) (l:List Al) (σ:AF) (hf:∀x∈l,AM Tryz.prog fid ((alA x)::caps) σ (fun v σ'=>v= .d (.bool (p x))∧σ'=σ)):
 AM Tryz.prog 174 [.d (.sl (l.map Al.enc)),.fn fid [] caps] σ (fun v σ'=>v= .d (.int .i64 (Ee (l.findIdx? p)))∧σ'=σ):=by
 refine Kk (by simp) ?_
 rw [BY]
 refine Run.slot 0 (fun hb0=>?_)
 simp only [Dn,if_true,AV.FB,AA] at hb0
 (repeat' (first|refine Run.ct rfl ?_|((first|refine Run.reg mixed ?_|refine Run.AD ?_)<;>try simp -implicitDefEqProofs only [AA,go_sem])|fail))
 refine Run.BD ?_
 refine Run.BG ((fun (a0:AV) (a1:AV) (a7:AV)=>fun (i:Nat)=>put 0 a0 (put 1 a1 (put 7 a7 (put 8 (.d (.int .i64 i)) U)))) _ _ _) (fun _=>E) (fun _=>σ) (fun i=>i≤l.length∧∀x∈l.take i,p x=false) (fun i=>l.length - i) ?_ 0 ⟨by simp,by simp⟩
 rintro i ⟨hi,hno⟩ ih
 by_cases hlt:i < l.length
 · obtain ⟨x,hx⟩:=BC hlt
   have he:=Ay (enc:=Al.enc) hx
   have hw1:IntKind.i64.wrap ((i:Int)+1)=((i+1:Nat):Int):=by rw [BI (by omega) (by omega)];omega
   have hc:=hf x (AT hx)
   obtain ⟨c,vs,o,n,u,ns,ks,al⟩:=x
   simp only [Al.A7,alA,AI,AO] at he hc
   cases hp:p (.mk c vs (.mk o n u ns ks al)) with
   |true=>
    rw [hp] at hc
    (repeat' (first|refine Run.ct rfl ?_|((first|refine Run.reg mixed ?_|refine Run.AD ?_|refine Run.A1 EU (AF.le_refl _) ?_|(refine ⟨fid,[],caps,rfl,hb,AJ.det hc ?_ (by simp [hcp,Ft,DR])⟩))<;>try simp -implicitDefEqProofs only [A8 hlt,he,hw1,go_sem])|fail))
    rw [D1 hno hx hp];rfl
   |false=>
    rw [hp] at hc
    (repeat' (first|refine Run.ct rfl ?_|((first|refine Run.reg mixed ?_|refine Run.AD ?_|(refine ⟨fid,[],caps,rfl,hb,AJ.det hc ?_ (by simp [hcp,Ft,DR])⟩))<;>try simp -implicitDefEqProofs only [A8 hlt,he,hw1,go_sem])|fail))
    exact ih (i+1) ⟨by omega,Eg hno hx hp⟩ (by omega)
 · (repeat' (first|refine Run.ct rfl ?_|((first|refine Run.reg mixed ?_|refine Run.AD ?_|refine Run.A1 EU (AF.le_refl _) ?_)<;>try simp -implicitDefEqProofs only [Bd hlt,go_sem])|fail))
   rw [AH (by omega)] at hno
   rw [D2 hno];rfl
theorem Ly {fid:FuncId} {caps:List AV} (hb:C0 Tryz.prog fid=true) (hcp:caps.all AV.BZ=true) (p:Al→Bool) (l:List Al) (σ:AF) (hf:∀x∈l,AM Tryz.prog fid ((alA x)::caps) σ (fun v σ'=>v= .d (.bool (p x))∧σ'=σ)):
 AM Tryz.prog 164 [.d (.sl (l.map Al.enc)),.fn fid [] caps] σ (fun v σ'=>v= .d (.bool (l.any p))∧σ'=σ):=by
 refine JQ (by simp) ?_
 rw [BY]
 (repeat' (first|refine Run.ct rfl ?_|((first|refine Run.reg mixed ?_|refine Run.AD ?_|refine Run.A1 FX (AF.le_refl _) ?_|refine AJ.det (OE hb hcp p l σ hf) ?_)<;>try simp -implicitDefEqProofs only [PL,Iw,go_sem])|fail))
theorem Rw {fid:FuncId} {caps:List AV} (hb:C0 Tryz.prog fid=true) (hcp:caps.all AV.BZ=true) (x:Al) (b:Bool) (j:Nat) (σ:AF) (hj:σ.blk j=some [.fn fid [] caps]) (hf:AM Tryz.prog fid ((alA x)::caps) σ (fun v σ'=>v= .d (.bool b)∧σ'=σ)):
 AM Tryz.prog 165 [(alA x),.gp j 0] σ (fun v σ'=>v= .d (.bool (!b))∧σ'=σ):=by
 refine NK (by simp) ?_
 rw [BY]
 obtain ⟨c,vs,o,n,u,ns,ks,al⟩:=x
 simp only [Al.A7,alA,AI,AO] at hf ⊢
 (repeat' (first|refine Run.ct rfl ?_|((first|refine Run.reg mixed ?_|refine Run.AD ?_|refine Run.A1 Hl (AF.le_refl _) ?_|(refine ⟨fid,[],caps,rfl,hb,AJ.det hf ?_ (by simp [hcp,Ft,DR])⟩))<;>try simp -implicitDefEqProofs only [hj,go_sem])|fail))
theorem UL {fid:FuncId} {caps:List AV} (hb:C0 Tryz.prog fid=true) (hcp:caps.all AV.BZ=true) (p:Al→Bool) (l:List Al) (σ:AF) (hf:∀x∈l,∀σ1,σ.le σ1→AM Tryz.prog fid ((alA x)::caps) σ1 (fun v σ'=>v= .d (.bool (p x))∧σ'=σ1)):
 AM Tryz.prog 154 [.d (.sl (l.map Al.enc)),.fn fid [] caps] σ (fun v σ'=>v= .d (.bool (l.all p))∧σ'=σ):=by
 refine Ob (by simp) ?_
 rw [BY]
 (repeat' (first|refine Run.ct rfl ?_|((first|refine Run.reg mixed ?_|refine Run.AD ?_)<;>try simp -implicitDefEqProofs only [go_sem])|fail))
 intro j hj
 have hle:=Bj (cs:=[.fn fid [] caps]) hj
 (repeat' (first|refine Run.ct rfl ?_|((first|refine Run.reg mixed ?_|refine Run.AD ?_|(refine Run.A1 JM (σ2:=σ) hle ?_)|refine AJ.det (Ly (by kernel_rfl) rfl (fun x=>!p x) l _ (fun x hx=>Rw hb hcp x (p x) j _ (by simp only [AL,if_true]) (hf x hx _ hle))) ?_)<;>try simp -implicitDefEqProofs only [go_sem])|fail))
 simp [LN]
end Go.Ab
