/- Reading the tokens of a formatted text back, in plain data: levels, programs. Blanks between tokens, and texts in a row: their tokens, in plain data. Two texts in a row, in plain data. What is read is not larger than its text, in plain data. Conditions: none. -/
import Derived.Test.YtifplkldbbcldaaGreatDoorXQk
set_option linter.unusedSimpArgs false
set_option linter.unusedVariables false
set_option maxRecDepth 4000
set_option maxHeartbeats 8000000
open Nat renaming zero_le→CX,lt_or_ge→Cm,le_refl→A9
open List renaming length→Kd,length_append→AA,length_pos_iff→Aq,mem_cons_self→Ah,mem_cons_of_mem→Am,append_nil→A1,all_eq_true→A7,contains_eq_mem→Dx,append_assoc→AT,map_cons→AF,flatten_cons→Cl,cons_append→A0,nil_append→A3,takeWhile_cons→F5,mem_cons→CT,length_drop→An
open Bool renaming and_eq_true→AN,or_eq_true→BV,false_eq_true→AW
namespace Go.Ab
variable {N:Nat} {K:List KT→Prop}
theorem oB (u:Int):Cf u≤3:=by
 unfold Cf;split
 · omega
 · split<;>omega
def qR (o u:Int):Nat:=if o=7∨o=8∨o=9∨o=10∨o=11∨o=17 then 0 else if o=13 then Cf u else if o=12 then 4 else 5
theorem eC {o u:Int} {n:Str} {ns:List Str} {ks:List Ex} {al:List Al}:lvl (.mk o n u ns ks al)=qR o u:=rfl
theorem TK (o u:Int):((o=7∨o=8∨o=9∨o=10∨o=11∨o=17)∧qR o u=0)∨(o=13∧qR o u=Cf u)∨(o=12∧qR o u=4)∨qR o u=5:=by
 unfold qR
 split
 · rename_i h;exact .inl ⟨h,rfl⟩
 · split
   · rename_i h;exact .inr (.inl ⟨h,rfl⟩)
   · split
     · rename_i h;exact .inr (.inr (.inl ⟨h,rfl⟩))
     · exact .inr (.inr (.inr rfl))
theorem ABO (e:Ex):lvl e≤5:=by
 obtain ⟨o,n,u,ns,ks,al⟩:=e
 have:=oB u
 have:=TK o u
 rw [eC];omega
theorem AD5 {o u:Int} {n:Str} {ns:List Str} {ks:List Ex} {al:List Al} (h:lvl (.mk o n u ns ks al)=4):o=12:=by
 have:=oB u
 have:=TK o u
 rw [eC] at h;omega
theorem lA {o u:Int} {n:Str} {ns:List Str} {ks:List Ex} {al:List Al} (h:1≤lvl (.mk o n u ns ks al)) (h2:lvl (.mk o n u ns ks al)≤3):o=13∧Cf u=lvl (.mk o n u ns ks al):=by
 have:=TK o u
 rw [eC] at *;omega
theorem AD4 {o u:Int} {n:Str} {ns:List Str} {ks:List Ex} {al:List Al} (h:lvl (.mk o n u ns ks al)=0):o=7∨o=8∨o=9∨o=10∨o=11∨o=17:=by
 have:=hO u
 have:=TK o u
 rw [eC] at h;omega
theorem lK {d:Nat} {e:Ex} {t:List KT} (h:lvl e < d):plK d e t=IC t:=if_pos h
theorem WO {d:Nat} {e:Ex} {t:List KT} (h:d≤lvl e):plK d e t=t:=if_neg (by omega)
theorem ABU {d:Nat} {e:Ex} (h:e.nb):plK d e (tkE e)≠[]:=by
 unfold plK;split
 · simp [IC]
 · exact nE h
theorem Ac.zero {m:PM Ex} {c:Nat→Ex→PM Ex} {e:Ex} {ks:List KT} (h:ks≠[]):Ac 0 m c e ks K:=⟨0,CX _,fun r p k h1 _ hs _=>by
 have:=congrArg Kd hs
 rw [Pb,AA] at this
 have:=Aq.2 h
 omega⟩
section
variable {E:PM Ex}
theorem rX:∀(s:Nat) (e:Ex) (N:Nat),HE E N→e.size≤s→e.nb→Ac N (RS E) (UR E) e (plK 4 e (tkE e)) (fun k=>H6 e=true→hdT k≠[40])
 |0,e,_,_,hs,_=>by have:=e.size_pos;omega
 |s+1,e,N,hE,hs,h=>by
  by_cases hN:N=0
  · subst hN;exact Ac.zero (ABU h)
  rcases Cm (lvl e) 4 with hl|hl
  · rw [lK hl];exact Ac.of (Xr hE h)
  rw [WO hl]
  by_cases h5:lvl e=5
  · exact Ac.of (wM hE h h5)
  have h4:lvl e=4:=by have:=ABO e;omega
  obtain ⟨o,n,u,ns,ks,al⟩:=e
  have:=AD5 h4
  subst this
  obtain ⟨hnm,hnu,hns,has,hnk,hk,-⟩:=Ys h
  simp [nmB,nuB,nsB,asB,nkB] at hnm hnu hns has hnk
  subst hnm hnu hns has
  cases ks with
  |nil=>simp at hnk
  |cons f l=>
   have hf:=hk f (Ah ..)
   rw [tkE,N3,N2]
   show Ac N (RS E) (UR E) (.mk 12 [] 0 [] (f::l) []) ((if H6 f then IC (tkE f) else plK 4 f (tkE f))++Lp (l.map tkE)) _
   refine Ac.step (K1:=fun _=>True) (a:=f) ?_ (fun m=>?_) (by simp [Lp,IC]) (fun _ _=>trivial)
   · split
     · exact Ac.of (Xr hE hf)
     · rename_i hb
       exact (rX s f N hE (by simp only [Ex.size,Ex.Ar] at hs;omega) hf).imp (fun k _ hb'=>absurd hb' hb)
   · rw [UR,Lp,IC]
     refine Gs.CU 5 (Gs.last (f:=fun l=>UR E m (exN 12 0 (f::l))) (c8 (Kr:=noT sEx) YV ZK l (fun x hx M hM=>hE x (hk x (Am _ hx)) M (by omega)) (fun x hx k=>tB (hk x (Am _ hx)) k)))
theorem mS {e:Ex} (hE:HE E N) (h:e.nb):Rd N (RS E) e (plK 4 e (tkE e)) (fun k=>hdT k≠[40]):=(rX e.size e N hE (A9 _) h).fin (fun k hk _=>hk) (fun n r p hk=>bD n e r p hk)
theorem r1 {e:Ex} (hE:HE E N) (h:e.nb):Rd N (RS E) e (IC (tkE e)) (fun k=>hdT k≠[40]):=(Ac.of (K:=fun _=>True) (Xr hE h)).fin (fun _ _=>trivial) (fun n r p hk=>bD n e r p hk)
theorem dC {o u:Int} {n:Str} {ns:List Str} {ks:List Ex} {al:List Al} (h:(Ex.mk o n u ns ks al).nb) (ho:o=13):∃a b,Ex.mk o n u ns ks al=Hh u a b∧a.nb∧b.nb∧1≤u∧u≤8:=by
 subst ho
 obtain ⟨hnm,hnu,hns,has,hnk,hk,-⟩:=Ys h
 simp [nmB,nuB,nsB,asB,nkB] at hnm hnu hns has hnk
 subst hnm hns has
 obtain ⟨a,b,rfl⟩:=OZ hnk
 exact ⟨a,b,rfl,hk a (by simp),hk b (by simp),hnu.1,hnu.2⟩
theorem mI {u:Int} {a b:Ex}:tkE (Hh u a b)=plK (if Cf u=1 then 2 else Cf u) a (tkE a)++((5,opT u)::plK (if Cf u=1 then 2 else Cf u+1) b (tkE b)):=by
 show tkE (.mk 13 [] u [] [a,b] [])=_
 rw [tkE,N3,N2];rfl
theorem mQ:∀(s:Nat) (e:Ex) (N:Nat),HE E N→e.size≤s→e.nb→Ac N (MR E) (KE E) e (plK 3 e (tkE e)) (fun k=>hdT k≠[40])
 |0,e,_,_,hs,_=>by have:=e.size_pos;omega
 |s+1,e,N,hE,hs,h=>by
  rcases Cm (lvl e) 3 with hl|hl
  · rw [lK hl];exact Ac.of (r1 hE h)
  rw [WO hl]
  by_cases h3:lvl e=3
  · obtain ⟨o,n,u,ns,ks,al⟩:=e
    obtain ⟨ho,hu⟩:=lA (by omega) (by omega:lvl (.mk o n u ns ks al)≤3)
    rw [h3] at hu
    obtain ⟨a,b,he,ha,hb,_,_⟩:=dC h ho
    rw [he,mI,hu]
    rw [he] at hs
    have hsz:a.size≤s:=by simp only [Hh,exN,Ex.size,Ex.Ar] at hs;omega
    have hu3:u=3∨u=4∨u=5:=by
     unfold Cf at hu;split at hu
     · omega
     · split at hu<;>omega
    refine Ac.step (mQ s a N hE hsz ha) (fun m=>?_) (by simp) (fun k hk=>?_)
    · rw [KE]
      rcases hu3 with rfl|rfl|rfl
      · exact Gs.CU 5 (Gs.last (f:=fun b=>KE E m (Hh 3 a b)) (mS (hE.mono (by omega)) hb))
      · exact Gs.B2 (fun k _=>by simp [hdT,opT,V5]) (Gs.CU 5 (Gs.last (f:=fun b=>KE E m (Hh 4 a b)) (mS (hE.mono (by omega)) hb)))
      · exact Gs.B2 (fun k _=>by simp [hdT,opT,V5]) (Gs.B2 (fun k _=>by simp [hdT,opT,V5]) (Gs.CU 5 (Gs.last (f:=fun b=>KE E m (Hh 5 a b)) (mS (hE.mono (by omega)) hb))))
    · rcases hu3 with rfl|rfl|rfl<;>simp [hdT,opT,V5]
  · have:=mS hE h
    rw [WO (by omega)] at this
    exact Ac.of this
theorem jO {e:Ex} (hE:HE E N) (h:e.nb):Rd N (MR E) e (plK 3 e (tkE e)) (noT sPr):=(mQ e.size e N hE (A9 _) h).fin (fun k hk=>O0 hk (by decide)) (fun n r p hk=>ZD n e r p hk)
theorem wK {e:Ex} (hE:HE E N) (h:e.nb):Rd N (MR E) e (IC (tkE e)) (noT sPr):=(Ac.of (r1 hE h)).fin (fun k hk=>O0 hk (by decide)) (fun n r p hk=>ZD n e r p hk)
theorem rY:∀(s:Nat) (e:Ex) (N:Nat),HE E N→e.size≤s→e.nb→Ac N (LR E) (Td E) e (plK 2 e (tkE e)) (noT sPr)
 |0,e,_,_,hs,_=>by have:=e.size_pos;omega
 |s+1,e,N,hE,hs,h=>by
  rcases Cm (lvl e) 2 with hl|hl
  · rw [lK hl];exact Ac.of (wK hE h)
  rw [WO hl]
  by_cases h2:lvl e=2
  · obtain ⟨o,n,u,ns,ks,al⟩:=e
    obtain ⟨ho,hu⟩:=lA (by omega) (by omega:lvl (.mk o n u ns ks al)≤3)
    rw [h2] at hu
    obtain ⟨a,b,he,ha,hb,_,_⟩:=dC h ho
    rw [he,mI,hu]
    rw [he] at hs
    have hsz:a.size≤s:=by simp only [Hh,exN,Ex.size,Ex.Ar] at hs;omega
    have hu3:u=1∨u=2:=by
     unfold Cf at hu;split at hu
     · omega
     · split at hu<;>omega
    refine Ac.step (rY s a N hE hsz ha) (fun m=>?_) (by simp) (fun k hk=>?_)
    · rw [Td]
      rcases hu3 with rfl|rfl
      · exact Gs.CU 5 (Gs.last (f:=fun b=>Td E m (Hh 1 a b)) (jO (hE.mono (by omega)) hb))
      · exact Gs.B2 (fun k _=>by simp [hdT,opT,V5]) (Gs.CU 5 (Gs.last (f:=fun b=>Td E m (Hh 2 a b)) (jO (hE.mono (by omega)) hb)))
    · rcases hu3 with rfl|rfl
      · show sPr.contains [43]=false;decide
      · show sPr.contains [45]=false;decide
  · have:=jO hE h
    rw [WO (by omega)] at this
    exact Ac.of this
theorem fI {e:Ex} (hE:HE E N) (h:e.nb):Rd N (LR E) e (plK 2 e (tkE e)) (noT sSu):=(rY e.size e N hE (A9 _) h).fin (fun k hk=>V4 (by decide) hk) (fun n r p hk=>rO n e r p hk)
theorem AAC {e:Ex} (hE:HE E N) (h:e.nb) (hl:1≤lvl e):Rd N (Wt E) e (tkE e) (noT sEx):=by
 by_cases h1:lvl e=1
 · obtain ⟨o,n,u,ns,ks,al⟩:=e
   obtain ⟨ho,hu⟩:=lA (by omega) (by omega:lvl (.mk o n u ns ks al)≤3)
   rw [h1] at hu
   obtain ⟨a,b,he,ha,hb,g1,g2⟩:=dC h ho
   rw [he,mI,hu]
   have hu3:u=6∨u=7∨u=8:=by
    unfold Cf at hu;split at hu
    · omega
    · split at hu<;>omega
   refine Rd.bind (fI hE ha) ?_ (fun k hk=>?_)
   · rcases hu3 with rfl|rfl|rfl
     · exact Rd.CU 5 (Rd.map (fun b=>Hh 6 a b) ((fI (hE.mono (by omega)) hb).imp (fun k hk=>V4 (by decide) hk)))
     · exact Rd.B2 (fun k _=>by simp [hdT,opT,V5]) (Rd.CU 5 (Rd.map (fun b=>Hh 7 a b) ((fI (hE.mono (by omega)) hb).imp (fun k hk=>V4 (by decide) hk))))
     · exact Rd.B2 (fun k _=>by simp [hdT,opT,V5]) (Rd.B2 (fun k _=>by simp [hdT,opT,V5]) (Rd.CU 5 (Rd.map (fun b=>Hh 8 a b) ((fI (hE.mono (by omega)) hb).imp (fun k hk=>V4 (by decide) hk)))))
   · rcases hu3 with rfl|rfl|rfl
     · show sSu.contains [60]=false;decide
     · show sSu.contains [60,61]=false;decide
     · show sSu.contains [61,61]=false;decide
 · have hs:=fI hE h
   rw [WO (by omega)] at hs
   have:=Rd.bind (K:=noT sEx) (k2:=[]) (f:=fun a=>EX [60] ((LR E).bind fun b=>.pure (Hh 6 a b)) <|EX [60,61] ((LR E).bind fun b=>.pure (Hh 7 a b)) <|EX [61,61] ((LR E).bind fun b=>.pure (Hh 8 a b)) <| .pure a) hs (Rd.B2 (fun k hk=>O0 hk (by decide)) (Rd.B2 (fun k hk=>O0 hk (by decide)) (Rd.B2 (fun k hk=>O0 hk (by decide)) (Rd.pure e)))) (fun k hk=>V4 (by decide) hk)
   rw [A1] at this
   exact this
theorem ACW (hE:HE E N) {a:Al} (h:a.nb) (ha:MY a=true):Rd N (lH E) a (tkA a) (noT sEx):=by
 by_cases hN:N=0
 · subst hN;cases a;exact Ix (by simp [tkA,AB3])
 obtain ⟨c,vs,b⟩:=a
 rw [Al.nb] at h
 simp only [MY,AN] at ha
 rw [tkA,AB3]
 exact Rd.C6 (K1:=fun _=>True) (Rd.take c) (Rd.bind (Xq (Kr:=fun _=>True) (fun _=>trivial) (fun _=>trivial) vs (fun s hs M _=>Rg (A7.1 ha.2 s hs))) (Rd.C6 (K1:=fun _=>True) (Rd.exp 5) (Rd.map (fun x=>Al.mk c vs x) (hE b h _ (by omega))) (fun _ _=>trivial)) (fun k _ _=>by simp [hdT])) (fun _ _=>trivial)
theorem AB0 {s:Str} (h:GZ s=true) (k:List KT):hdT (shK s++k)≠[40]:=by
 unfold shK
 split
 · simp [hdT]
 · rename_i e
   simp only [GZ,BV,beq_iff_eq] at h
   exact OM (WL (h.resolve_left e)) (by decide)
theorem UF (k:List KT) (t:Str) (h:sEx.contains t=false) (q:Int):noT sEx ((q,t)::k):=h
end
theorem zV:∀(n N:Nat),N≤n→∀e:Ex,e.nb→Rd N (CD n) e (tkE e) (noT sEx)
 |0,N,hN,e,h=>by
  have:N=0:=by omega
  subst this
  exact Ix (nE h)
 |n+1,N,hN,e,h=>by
  by_cases hN0:N=0
  · subst hN0;exact Ix (nE h)
  have hE:HE (CD n) N:=fun x hx M hM=>zV n M (by omega) x hx
  rw [CD]
  by_cases hl:1≤lvl e
  · obtain ⟨q,x,l,e1,_,e2⟩:=AA6 h
    have hne:∀t∈opens,∀k:List KT,hdT (tkE e++k)≠t:=fun t ht k=>by
     rw [(kH e1 k).1]
     intro e3
     have:=e2 hl
     rw [e3,Dx] at this
     simp [ht] at this
    exact Rd.B2 (fun k _=>hne _ (by decide) k) (Rd.B2 (fun k _=>hne _ (by decide) k) (Rd.B2 (fun k _=>hne _ (by decide) k) (Rd.B2 (fun k _=>hne _ (by decide) k) (Rd.B2 (fun k _=>hne _ (by decide) k) (AAC hE h hl)))))
  have h0:lvl e=0:=by omega
  obtain ⟨o,nm,u,ns,ks,al⟩:=e
  obtain ⟨hnm,hnu,hns,has,hnk,hk,hal⟩:=Ys h
  have hN1:HE (CD n) (N - 1):=hE.mono (by omega)
  rw [tkE,N3,N2]
  rcases AD4 h0 with rfl|rfl|rfl|rfl|rfl|rfl
  · obtain ⟨a,b,rfl⟩:=OZ (by simpa [nkB] using hnk)
    simp [nmB,nuB,nsB,asB] at hnm hnu hns has
    subst hnu hns has
    refine Rd.CU 4 ?_
    unfold hX
    refine Rd.B2 (fun k _=>by rw [AT];exact AB0 hnm _) ?_
    exact Rd.bind (Rg (K:=fun _=>True) hnm) (Rd.C6 (K1:=fun _=>True) (Rd.exp 5) (Rd.bind (hE a (hk a (by simp)) _ (by omega)) (Rd.C6 (K1:=fun _=>True) (Rd.exp 4) (Rd.map (fun y=>Ex.mk 7 nm 0 [] [a,y] []) (hE b (hk b (by simp)) _ (by omega))) (fun _ _=>trivial)) (fun k _=>UF _ [105,110] (by decide) 4)) (fun _ _=>trivial)) (fun _ _=>trivial)
  · obtain ⟨a,b,rfl⟩:=OZ (by simpa [nkB] using hnk)
    simp [nmB,nuB,asB] at hnm hnu has
    subst hnm hnu has
    simp only [nsB,if_true,AN,decide_eq_true_eq,A7] at hns
    obtain ⟨⟨h2,_⟩,hb⟩:=hns
    match ns,h2,hb with
    |x::y::l,_,hb=>
     have hs:tkN 8 [] 0 (x::y::l) [a,b] ([a,b].map tkE) ([].map tkA)=(4,[108,101,116])::(5,[40])::(shK x++((5,[44])::((cmK ((y::l).map shK)++[(5,[41])])++((5,[61])::(tkE a++((4,[105,110])::tkE b)))))):=by
      show (4,[108,101,116])::(IC (cmK (shK x::shK y::l.map shK))++((5,[61])::(tkE a++((4,[105,110])::tkE b))))=_
      rw [TC,IC];simp
     rw [hs]
     refine Rd.CU 4 ?_
     unfold hX
     refine Rd.CU 5 ?_
     exact Rd.bind (Rg (K:=fun _=>True) (hb x (by simp))) (Rd.C6 (K1:=fun _=>True) (Rd.exp 5) (Rd.bind (Oi (K:=fun _=>True) (g:=shK) (Kr:=fun _=>True) (fun _=>trivial) (fun _=>trivial) (by simp) (fun z hz M _=>Rg (hb z (Am _ hz)))) (Rd.C6 (K1:=fun _=>True) (Rd.exp 5) (Rd.bind (hE a (hk a (by simp)) _ (by omega)) (Rd.C6 (K1:=fun _=>True) (Rd.exp 4) (Rd.map (fun q=>Ex.mk 8 [] 0 (x::y::l) [a,q] []) (hE b (hk b (by simp)) _ (by omega))) (fun _ _=>trivial)) (fun k _=>UF _ [105,110] (by decide) 4)) (fun _ _=>trivial)) (fun _ _=>trivial)) (fun _ _=>trivial)) (fun _ _=>trivial)
  · obtain ⟨a,b,c,rfl⟩:=gT (by simpa [nkB] using hnk)
    simp [nmB,nuB,nsB,asB] at hnm hnu hns has
    subst hnm hnu hns has
    refine Rd.B2 (fun k _=>by simp [tkN,hdT]) (Rd.CU 4 ?_)
    exact Rd.bind (hE a (hk a (by simp)) _ (by omega)) (Rd.C6 (K1:=fun _=>True) (Rd.exp 4) (Rd.bind (hE b (hk b (by simp)) _ (by omega)) (Rd.C6 (K1:=fun _=>True) (Rd.exp 4) (Rd.map (fun q=>exN 9 0 [a,b,q]) (hE c (hk c (by simp)) _ (by omega))) (fun _ _=>trivial)) (fun k _=>UF _ [101,108,115,101] (by decide) 4)) (fun _ _=>trivial)) (fun k _=>UF _ [116,104,101,110] (by decide) 4)
  · obtain ⟨a,rfl⟩:=Ub (by simpa [nkB] using hnk)
    simp [nmB,nuB,nsB] at hnm hnu hns
    subst hnm hnu hns
    have haa:=YB has
    have hne:al≠[]:=by rintro rfl;simp [asB] at has
    iterate 2 refine Rd.B2 (fun k _=>by simp [tkN,hdT]) ?_
    refine Rd.CU 4 ?_
    exact Rd.bind (hE a (hk a (by simp)) _ (by omega)) (Rd.C6 (K1:=fun _=>True) (Rd.exp 4) (Rd.bind (Xp (g:=tkA) (Kr:=noT sEx) (fun k=>UF k [124] (by decide) 5) hne (fun x hx M hM=>ACW (hE.mono (by omega)) (hal x hx) (haa x hx))) (Rd.C6 (K1:=fun _=>True) (Rd.exp 4) (Rd.pure _) (fun _ _=>trivial)) (fun k _=>⟨UF _ [101,110,100] (by decide) 4,by simp [hdT]⟩)) (fun _ _=>trivial)) (fun k _=>UF _ [119,105,116,104] (by decide) 4)
  · obtain ⟨a,rfl⟩:=Ub (by simpa [nkB] using hnk)
    simp [nmB,nuB,asB] at hnm hnu has
    subst hnm hnu has
    simp [nsB] at hns
    iterate 3 refine Rd.B2 (fun k _=>by simp [tkN,hdT]) ?_
    refine Rd.CU 4 ?_
    exact Rd.C6 (K1:=fun _=>True) (Rd.exp 5) (Rd.bind (K1:=fun _=>True) (c8 (Kr:=fun _=>True) (g:=fun s=>[(1,s)]) (fun _=>trivial) (fun _=>trivial) ns (fun s hs M _=>Rd.take s) (fun s hs k=>OM (WL (hns.2 s hs)) (by decide))) (Rd.C6 (K1:=fun _=>True) (Rd.exp 5) (Rd.map (fun q=>Ex.mk 11 [] 0 ns [q] []) (hE a (hk a (by simp)) _ (by omega))) (fun _ _=>trivial)) (fun _ _=>trivial)) (fun _ _=>trivial)
  · obtain ⟨a,b,rfl⟩:=OZ (by simpa [nkB] using hnk)
    simp [nmB,nuB,nsB,asB] at hnm hnu hns has
    subst hnu hns has
    iterate 4 refine Rd.B2 (fun k _=>by simp [tkN,hdT]) ?_
    refine Rd.CU 4 ?_
    exact Rd.bind (hE a (hk a (by simp)) _ (by omega)) (Rd.C6 (K1:=fun _=>True) (Rd.exp 4) (Rd.bind (Rg (K:=fun _=>True) hnm) (Rd.C6 (K1:=fun _=>True) (Rd.exp 5) (Rd.bind (hE b (hk b (by simp)) _ (by omega)) (Rd.C6 (K1:=fun _=>True) (Rd.exp 4) (Rd.pure _) (fun _ _=>trivial)) (fun k _=>UF _ [101,110,100] (by decide) 4)) (fun _ _=>trivial)) (fun _ _=>trivial)) (fun _ _=>trivial)) (fun k _=>UF _ [99,97,116,99,104] (by decide) 4)
theorem Rd.ABF {α:Type} {k0:Int} {y n:PM α} {a:α} {ks:List KT} (hn:∀k,K k→hdK (ks++k)=k0) (h:Rd N y a ks K):Rd N (.kind k0 y n) a ks K:=fun r p k hN hL hs hk=>by
 have hh:=(Gg hs).2
 have e:(PM.kind k0 y n).run ⟨r,false,p⟩=y.run ⟨r,false,p⟩:=if_pos (by rw [PSt.hd,hh];simpa using hn k hk)
 rw [e];exact h r p k hN hL hs hk
theorem AAE {f:FE} (h:NH f=true) (hb:f.body.nb) (hN:N≤BK):Rd N aN f ((1,f.name)::(Lp (f.params.map fun s=>[(1,s)])++((5,[61])::(tkE f.body++[(5,[59])])))) K:=by
 simp only [NH,AN,A7] at h
 exact Rd.C6 (K1:=fun _=>True) (Rd.take f.name) (Rd.C6 (K1:=fun _=>True) (Rd.exp 5) (Rd.bind (K1:=fun _=>True) (c8 (Kr:=fun _=>True) (g:=fun s=>[(1,s)]) (fun _=>trivial) (fun _=>trivial) f.params (fun s hs M _=>Rd.take s) (fun s hs k=>OM (WL (h.2 s hs)) (by decide))) (Rd.C6 (K1:=fun _=>True) (Rd.exp 5) (Rd.bind (zV BK _ (by omega) f.body hb) (Rd.C6 (K1:=fun _=>True) (Rd.exp 5) (Rd.pure _) (fun _ _=>trivial)) (fun k _=>UF _ [59] (by decide) 5)) (fun _ _=>trivial)) (fun _ _=>trivial)) (fun _ _=>trivial)) (fun _ _=>trivial)
theorem fL:∀(l:List FE) (n N:Nat) (ds:List DE) (fs:List FE),l.length≤n→N≤BK→(∀f∈l,NH f=true∧f.body.nb)→Rd N (MS n ds fs) ⟨ds,fs++l⟩ (l.map tkF).flatten (fun k=>hdK k=6)
 |[],0,N,ds,fs,_,_,_=>by rw [A1];exact Rd.pure _
 |[],n+1,N,ds,fs,_,_,_=>by
  rw [A1,MS]
  exact Rd.ABF (fun k hk=>hk) (Rd.pure _)
 |f::l,0,N,ds,fs,h,_,_=>by simp at h
 |f::l,n+1,N,ds,fs,h,hN,hf=>by
  have ih:=fL l n (N - 1 - (((1,f.name)::(Lp (f.params.map fun s=>[((1:Int),s)])++((5,[61])::(tkE f.body++[(5,[59])]))):List KT)).length) ds (fs++[f]) (by simp at h;omega) (by omega) (fun x hx=>hf x (Am _ hx))
  rw [AT] at ih
  rw [MS,AF,Cl,tkF,A0]
  refine Rd.C8 (fun k _=>by simp [hdK]) (Rd.B2 (fun k _=>by simp [hdT]) (Rd.CU 4 ?_))
  exact Rd.bind (K1:=fun _=>True) (AAE (hf f (Ah ..)).1 (hf f (Ah ..)).2 (by omega)) ih (fun _ _=>trivial)
theorem fJ (gs:List FE) (hg:∀f∈gs,NH f=true∧f.body.nb):∀(l:List DE) (n N:Nat) (ds:List DE),l.length+gs.length≤n→N≤BK→(∀d∈l,Gq d=true)→Rd N (MS n ds []) ⟨ds++l,gs⟩ ((l.map tkD).flatten++(gs.map tkF).flatten) (fun k=>hdK k=6)
 |[],n,N,ds,h,hN,_=>by
  have:=fL gs n N ds [] (by simpa using h) hN hg
  rw [A1]
  exact this
 |d::l,0,N,ds,h,_,_=>by simp at h
 |d::l,n+1,N,ds,h,hN,hf=>by
  have ih:=fJ gs hg l n (N - 1 - (((2,d.name)::(V6 (d.vars.map fun s=>[((1:Int),s)])++((5,[61])::([((5:Int),[124])].intercalate (d.cons.map tkC)++[(5,[59])]))):List KT)).length) (ds++[d]) (by simp at h;omega) (by omega) (fun x hx=>hf x (Am _ hx))
  rw [AT] at ih
  rw [MS,AF,Cl,tkD,A0,A0,AT]
  refine Rd.C8 (fun k _=>by simp [hdK]) (Rd.CU 4 ?_)
  exact Rd.bind (K1:=fun _=>True) (wL (hf d (Ah ..)) (by omega)) ih (fun _ _=>trivial)
theorem lI {p:Pg} (h:C0 p=true) (hl:(aC p).length≤16384):KY (aC p)=(p,0,0):=by
 obtain ⟨h1,h2⟩:=rI (tZ h) hl
 obtain ⟨w,o⟩:=iY h1
 obtain ⟨n1,n2⟩:=jI h
 have hv:=h
 simp only [C0,AN,decide_eq_true_eq] at hv
 have hf:=Fb
 have e:=fJ p.Rx n2 p.data BK BK [] (by omega) (A9 _) n1 (BL (aC p)).1 0 [(6,[])] (by have:=o.1;omega) o.1 h2 rfl
 rw [A3] at e
 unfold KY NT
 rw [if_neg (by rw [h1];simp),e]
 simp only [AW,if_false,h,if_true]
end Go.Ab
namespace Go.Ab
theorem sA {p:UInt8→Bool}:∀ {l:Str},∀x∈l.takeWhile p,p x=true
 |[],x,h=>by cases h
 |b::l,x,h=>by
  rw [F5] at h
  split at h
  · rename_i hb
    rcases CT.1 h with rfl|h
    · exact hb
    · exact sA x h
  · cases h
def dJ (x:Pg×PSt):Pg×Nat×Int:=if x.2.f then (⟨[],[]⟩,x.2.p,2) else if C0 x.1 then (x.1,0,0) else (⟨[],[]⟩,0,9)
theorem Ue {s:Str} (h:(BL s).2.2=0):KY s=dJ (NT.run ⟨(BL s).1,false,0⟩):=by
 unfold KY dJ
 rw [if_neg (by rw [h];simp)]
theorem pN {x y:Pg×PSt} (h1:x.1=y.1) (h2:x.2.f=y.2.f):(dJ x).1=(dJ y).1∧(dJ x).2.2=(dJ y).2.2:=by
 unfold dJ
 rw [h1,h2]
 split
 · exact ⟨rfl,rfl⟩
 · split<;>exact ⟨rfl,rfl⟩
theorem hY {s t:Str} (hs:(BL s).2.2=0) (ht:(BL t).2.2=0) (h:strip (BL s).1=strip (BL t).1):(KY s).1=(KY t).1∧(KY s).2.2=(KY t).2.2:=by
 obtain ⟨h1,_,h3⟩:=NT.pm ⟨(BL s).1,false,0⟩ ⟨(BL t).1,false,0⟩ h rfl
 rw [Ue hs,Ue ht]
 exact pN h1 h3
end Go.Ab
namespace Go.Ab
theorem vF (n:Nat) (ds:List DE) (fs:List FE) (s:PSt):(MS (n+1) ds fs).run s=
 if s.hd.kind==6 then (⟨ds,fs⟩,s)
                         else if s.hd.text==[100,97,116,97] then (MS n (ds++[(UI.run s.adv).1]) fs).run (UI.run s.adv).2
                         else if s.hd.text==[102,117,110] then (MS n ds (fs++[(aN.run s.adv).1])).run (aN.run s.adv).2
                         else (MS n ds fs).run s.fail:=rfl
theorem AB7 {s:PSt} (h:WF s.r) (hk:(s.hd.kind==6)=false):2≤s.r.length:=by
 obtain ⟨r,f,p⟩:=s
 match r,h,hk with
 |[t],h,hk=>
  have:(PSt.mk [t] f p).hd=t:=rfl
  rw [this,h.1] at hk;cases hk
 |t::u::l,_,_=>simp
theorem BX {s:PSt} (h:WF s.r):s.adv.r.length+1=s.r.length:=by
 obtain ⟨r,f,p⟩:=s
 cases r with
 |nil=>exact h.elim
 |cons t l=>rfl
theorem fY {s:PSt} (h:WF s.r):s.fail.r.length=1:=by
 have:1≤s.r.length:=Aq.2 h.ne
 show (VX s.r).length=1
 unfold VX;rw [An];omega
end Go.Ab
namespace Go.Ab
variable {α β:Type}
def SzO (c:Nat) (m:PM α) (μ:α→Nat):Prop:=∀s,WF s.r→(m.run s).2.f=false→μ (m.run s).1+(m.run s).2.r.length≤s.r.length+c
theorem SzO.pure {c:Nat} {a:α} {μ:α→Nat} (h:μ a≤c):SzO c (.pure a) μ:=fun s _ _=>by
 show μ a+s.r.length≤s.r.length+c;omega
theorem SzO.bind {c:Nat} {m:PM α} {f:α→PM β} {μ:α→Nat} {ν:β→Nat} (h:SzO 0 m μ) (hf:∀a,SzO (c+μ a) (f a) ν):SzO c (m.bind f) ν:=fun s hw hs=>by
 have hs':((f (m.run s).1).run (m.run s).2).2.f=false:=hs
 have h1:(m.run s).2.f=false:=by
  cases hc:(m.run s).2.f with
  |false=>rfl
  |true=>have:=((f (m.run s).1).st _ hc).1;rw [hs'] at this;cases this
 have e1:=h s hw h1
 have e2:=hf (m.run s).1 (m.run s).2 (m.sf s hw).1 hs'
 show ν ((f (m.run s).1).run (m.run s).2).1+((f (m.run s).1).run (m.run s).2).2.r.length≤_
 omega
theorem SzO.acc {c:Nat} {t:Str} {ht:t≠[]} {y n:PM α} {μ:α→Nat} (hy:SzO (c+1) y μ) (hn:SzO c n μ):SzO c (.acc t ht y n) μ:=fun s hw hs=>by
 cases hc:s.hd.text==t with
 |true=>
  have e:(PM.acc t ht y n).run s=y.run s.adv:=if_pos hc
  rw [e] at hs ⊢
  have hk:s.hd.text≠[]:=by rw [beq_iff_eq] at hc;rw [hc];exact ht
  have h1:=hy s.adv (Sx hw (.inr hk)).1 hs
  have h2:=BX hw
  omega
 |false=>
  have e:(PM.acc t ht y n).run s=n.run s:=if_neg (by rw [hc];decide)
  rw [e] at hs ⊢
  exact hn s hw hs
theorem SzO.kind {c:Nat} {k:Int} {y n:PM α} {μ:α→Nat} (hy:SzO c y μ) (hn:SzO c n μ):SzO c (.kind k y n) μ:=fun s hw hs=>by
 cases hc:s.hd.kind==k with
 |true=>
  have e:(PM.kind k y n).run s=y.run s:=if_pos hc
  rw [e] at hs ⊢
  exact hy s hw hs
 |false=>
  have e:(PM.kind k y n).run s=n.run s:=if_neg (by rw [hc];decide)
  rw [e] at hs ⊢
  exact hn s hw hs
theorem SzO.fail {c:Nat} {a:α} {μ:α→Nat}:SzO c (.fail a) μ:=fun s _ h=>by cases h
theorem SzO.tok {cc:Int→Str→Bool} {hc:∀k t,cc k t=true→k≠6∨t≠[]} {g:Str→α} {b:α}:SzO 0 (.tok cc hc g b) (fun _=>1):=fun s hw hs=>by
 cases hcc:cc s.hd.kind s.hd.text with
 |true=>
  have e:(PM.tok cc hc g b).run s=(g s.hd.text,s.adv):=if_pos hcc
  rw [e]
  have h2:=BX hw
  show 1+s.adv.r.length≤_
  omega
 |false=>
  have e:(PM.tok cc hc g b).run s=(b,s.fail):=if_neg (by rw [hcc];decide)
  rw [e] at hs
  cases hs
theorem SzO.mono {c:Nat} {m:PM α} {μ ν:α→Nat} (h:SzO c m μ) (hl:∀a,ν a≤μ a):SzO c m ν:=fun s hw hs=>by
 have:=h s hw hs;have:=hl (m.run s).1;omega
def ED (μ:α→Nat) (l:List α):Nat:=(l.map μ).sum
theorem jB (μ:α→Nat) (l m:List α):ED μ (l++m)=ED μ l+ED μ m:=by simp [ED]
theorem Za (μ:α→Nat) (x:α):ED μ [x]=μ x:=by simp [ED]
theorem Vh {μ:α→Nat} {l:List α} {x:α} (h:x∈l):μ x≤ED μ l:=by
 induction l with
 |nil=>cases h
 |cons y l ih=>
  simp only [ED,AF,List.sum_cons] at ih ⊢
  rcases CT.1 h with rfl|h
  · omega
  · have:=ih h;omega
theorem Zb {read:PM α} {t:Str} {ht:t≠[]} {μ:α→Nat} (h:SzO 0 read μ):∀(n c:Nat) (l:List α),ED μ l≤c→SzO c (E3 read t ht n l) (ED μ)
 |0,c,l,hl=>SzO.pure hl
 |n+1,c,l,hl=>SzO.acc (SzO.bind h (fun a=>Zb h n _ _ (by rw [jB,Za];omega))) (SzO.pure hl)
theorem cQ {read:PM α} {t:Str} {ht:t≠[]} {μ:α→Nat} (h:SzO 0 read μ):SzO 0 (items read t ht) (ED μ):=
 SzO.bind h (fun a=>Zb h _ _ _ (by rw [Za];omega))
theorem OK {t:Str} {ht:t≠[]}:SzO 0 (.exp t ht) (fun _=>1):=SzO.tok
theorem So {k:Int} {hk:k≠6}:SzO 0 (.take k hk) (fun _=>1):=SzO.tok
theorem Uj {read:PM α} {μ:α→Nat} (h:SzO 0 read μ):SzO 0 (listed read) (ED μ):=SzO.bind (cQ h) (fun a=>SzO.bind OK (fun _=>SzO.pure (by omega)))
theorem mG {read:PM α} {μ:α→Nat} (h:SzO 0 read μ):SzO 0 (closed read) (ED μ):=SzO.acc (SzO.pure (by simp [ED])) (Uj h)
theorem Zc {read:PM α} {μ:α→Nat} (h:SzO 0 read μ):SzO 0 (IZ read) (ED μ):=SzO.acc (fun s hw hs=>by have:=Uj h s hw hs;omega) (SzO.pure (by simp [ED]))
theorem P8:∀l:List TE,TE.Ar l=ED TE.size l
 |[]=>rfl
 |t::l=>by rw [TE.Ar,P8 l];simp [ED]
theorem oI:∀n,SzO 0 (Fy n) TE.size
 |0=>SzO.fail
 |n+1=>by
  have ih:=oI n
  have hel:∀k,SzO 1 (S5 k (Fy n)) TE.size:=fun k=>SzO.bind OK (fun _=>SzO.bind ih (fun t=>SzO.bind OK (fun _=>SzO.pure (by simp [TE.size,TE.Ar];omega))))
  rw [Fy]
  refine SzO.kind (SzO.bind So (fun x=>SzO.pure (by simp [TE.size,TE.Ar]))) ?_
  refine SzO.kind (SzO.bind So (fun x=>SzO.bind (Zc ih) (fun l=>SzO.pure (by rw [TE.size,P8];omega)))) ?_
  refine SzO.acc (SzO.pure (by simp [TE.size,TE.Ar])) (SzO.acc (SzO.pure (by simp [TE.size,TE.Ar])) (SzO.acc (SzO.pure (by simp [TE.size,TE.Ar])) (SzO.acc (hel 7) (SzO.acc (hel 8) (SzO.acc ?_ (SzO.acc ?_ SzO.fail))))))
  · exact SzO.bind ih (fun a=>SzO.bind OK (fun _=>SzO.bind (Uj ih) (fun l=>SzO.pure (by rw [TE.size,TE.Ar,P8];omega))))
  · exact SzO.bind OK (fun _=>SzO.bind (mG ih) (fun l=>SzO.bind OK (fun _=>SzO.bind ih (fun t=>SzO.pure (by rw [TE.size,TE.Cw,TE.Ar,TE.Ar,P8];omega)))))
def sL (c:CE):Nat:=ED TE.size c.args
def kC (d:DE):Nat:=ED sL d.cons
theorem yX:SzO 0 hU sL:=SzO.bind So (fun c=>SzO.bind (Zc (oI _)) (fun l=>SzO.pure (by show ED TE.size l≤_;omega)))
theorem v7:SzO 0 UI kC:=SzO.bind So (fun c=>SzO.bind (Zc (μ:=fun _=>0) (So.mono (fun _=>by omega))) (fun l=>SzO.bind OK (fun _=>SzO.bind (cQ yX) (fun cs=>SzO.bind OK (fun _=>SzO.pure (by show ED sL cs≤_;omega))))))
theorem zro (m:PM α):SzO 0 m (fun _=>0):=fun s hw _=>by have:=(m.sf s hw).2.length_le;simp only;omega
theorem Vi:∀(n c:Nat) (ds:List DE) (fs:List FE),ED kC ds≤c→SzO c (MS n ds fs) (fun p=>ED kC p.data)
 |0,c,ds,fs,h=>SzO.pure h
 |n+1,c,ds,fs,h=>by
  rw [MS]
  exact SzO.kind (SzO.pure h) (SzO.acc (SzO.bind v7 (fun d=>Vi n _ _ _ (by rw [jB,Za];omega))) (SzO.acc (SzO.bind (zro aN) (fun f=>Vi n _ _ _ (by omega))) (SzO.bind (zro (PM.fail ())) (fun _=>Vi n _ _ _ (by omega)))))
theorem iC {r:List Tok} {p:Nat} (hw:WF r) (hl:r.length≤17000) (hf:(NT.run ⟨r,false,p⟩).2.f=false):∀d∈(NT.run ⟨r,false,p⟩).1.data,∀c∈d.cons,∀t∈c.args,t.size≤17000:=by
 have h:=Vi BK 0 [] [] (by simp [ED]) ⟨r,false,p⟩ hw hf
 intro d hd c hc t ht
 have h1:t.size≤sL c:=Vh ht
 have h2:sL c≤kC d:=Vh hc
 have h3:kC d≤ED kC (NT.run ⟨r,false,p⟩).1.data:=Vh hd
 have h4:ED kC (NT.run ⟨r,false,p⟩).1.data+(NT.run ⟨r,false,p⟩).2.r.length≤r.length+0:=h
 omega
end Go.Ab
