/- Reading the tokens of a formatted text back, in plain data: levels, programs. Blanks between tokens, and texts in a row: their tokens, in plain data. Two texts in a row, in plain data. What is read is not larger than its text, in plain data. Conditions: none. -/
import Derived.Test.YtifplkldbbcldaaGreatDoorXQk
set_option linter.unusedSimpArgs false
set_option linter.unusedVariables false
set_option maxRecDepth 4000
set_option maxHeartbeats 8000000
open Nat renaming zero_le→CQ,lt_or_ge→Cf,le_refl→A7
open List renaming length→RW,length_append→AA,length_pos_iff→Ar,mem_cons_self→Ae,mem_cons_of_mem→Ah,append_nil→AZ,all_eq_true→A6,contains_eq_mem→Dr,append_assoc→AT,map_cons→AF,flatten_cons→Ce,cons_append→A0,nil_append→A3,takeWhile_cons→FZ,mem_cons→CN,length_drop→Ai
open Bool renaming and_eq_true→AN,or_eq_true→BT,false_eq_true→AU
namespace Go.Ab
variable {N:Nat} {K:List KT→Prop}
theorem lT (u:Int):Eb u≤3:=by
 unfold Eb;split
 · omega
 · split<;>omega
def oJ (o u:Int):Nat:=if o=7∨o=8∨o=9∨o=10∨o=11∨o=17 then 0 else if o=13 then Eb u else if o=12 then 4 else 5
theorem cK {o u:Int} {n:Str} {ns:List Str} {ks:List Ex} {al:List Al}:lvl (.mk o n u ns ks al)=oJ o u:=rfl
theorem Sm (o u:Int):((o=7∨o=8∨o=9∨o=10∨o=11∨o=17)∧oJ o u=0)∨(o=13∧oJ o u=Eb u)∨(o=12∧oJ o u=4)∨oJ o u=5:=by
 unfold oJ
 split
 · rename_i h;exact .inl ⟨h,rfl⟩
 · split
   · rename_i h;exact .inr (.inl ⟨h,rfl⟩)
   · split
     · rename_i h;exact .inr (.inr (.inl ⟨h,rfl⟩))
     · exact .inr (.inr (.inr rfl))
theorem zW (e:Ex):lvl e≤5:=by
 obtain ⟨o,n,u,ns,ks,al⟩:=e
 have:=lT u
 have:=Sm o u
 rw [cK];omega
theorem ACI {o u:Int} {n:Str} {ns:List Str} {ks:List Ex} {al:List Al} (h:lvl (.mk o n u ns ks al)=4):o=12:=by
 have:=lT u
 have:=Sm o u
 rw [cK] at h;omega
theorem jL {o u:Int} {n:Str} {ns:List Str} {ks:List Ex} {al:List Al} (h:1≤lvl (.mk o n u ns ks al)) (h2:lvl (.mk o n u ns ks al)≤3):o=13∧Eb u=lvl (.mk o n u ns ks al):=by
 have:=Sm o u
 rw [cK] at *;omega
theorem ACH {o u:Int} {n:Str} {ns:List Str} {ks:List Ex} {al:List Al} (h:lvl (.mk o n u ns ks al)=0):o=7∨o=8∨o=9∨o=10∨o=11∨o=17:=by
 have:=fE u
 have:=Sm o u
 rw [cK] at h;omega
theorem jU {d:Nat} {e:Ex} {t:List KT} (h:lvl e < d):plK d e t=Hu t:=if_pos h
theorem Vl {d:Nat} {e:Ex} {t:List KT} (h:d≤lvl e):plK d e t=t:=if_neg (by omega)
theorem z7 {d:Nat} {e:Ex} (h:e.nb):plK d e (tkE e)≠[]:=by
 unfold plK;split
 · simp [Hu]
 · exact k8 h
theorem Ac.zero {m:PM Ex} {c:Nat→Ex→PM Ex} {e:Ex} {ks:List KT} (h:ks≠[]):Ac 0 m c e ks K:=⟨0,CQ _,fun r p k h1 _ hs _=>by
 have:=congrArg RW hs
 rw [PU,AA] at this
 have:=Ar.2 h
 omega⟩
section
variable {E:PM Ex}
theorem pO:∀(s:Nat) (e:Ex) (N:Nat),HE E N→e.size≤s→e.nb→Ac N (Qx E) (Tr E) e (plK 4 e (tkE e)) (fun k=>Mc e=true→hdT k≠[40])
 |0,e,_,_,hs,_=>by have:=e.size_pos;omega
 |s+1,e,N,hE,hs,h=>by
  by_cases hN:N=0
  · subst hN;exact Ac.zero (z7 h)
  rcases Cf (lvl e) 4 with hl|hl
  · rw [jU hl];exact Ac.of (XY hE h)
  rw [Vl hl]
  by_cases h5:lvl e=5
  · exact Ac.of (uD hE h h5)
  have h4:lvl e=4:=by have:=zW e;omega
  obtain ⟨o,n,u,ns,ks,al⟩:=e
  have:=ACI h4
  subst this
  obtain ⟨hnm,hnu,hns,has,hnk,hk,-⟩:=cM h
  simp [nmB,nuB,nsB,asB,nkB] at hnm hnu hns has hnk
  subst hnm hnu hns has
  cases ks with
  |nil=>simp at hnk
  |cons f l=>
   have hf:=hk f (Ae ..)
   rw [tkE,NR,NQ]
   show Ac N (Qx E) (Tr E) (.mk 12 [] 0 [] (f::l) []) ((if Mc f then Hu (tkE f) else plK 4 f (tkE f))++Le (l.map tkE)) _
   refine Ac.step (K1:=fun _=>True) (a:=f) ?_ (fun m=>?_) (by simp [Le,Hu]) (fun _ _=>trivial)
   · split
     · exact Ac.of (XY hE hf)
     · rename_i hb
       exact (pO s f N hE (by simp only [Ex.size,Ex.At] at hs;omega) hf).imp (fun k _ hb'=>absurd hb' hb)
   · rw [Tr,Le,Hu]
     refine Gs.CO 5 (Gs.last (f:=fun l=>Tr E m (exN 12 0 (f::l))) (bI (Kr:=noT sEx) Xn Y6 l (fun x hx M hM=>hE x (hk x (Ah _ hx)) M (by omega)) (fun x hx k=>qZ (hk x (Ah _ hx)) k)))
theorem kS {e:Ex} (hE:HE E N) (h:e.nb):Rd N (Qx E) e (plK 4 e (tkE e)) (fun k=>hdT k≠[40]):=(pO e.size e N hE (A7 _) h).fin (fun k hk _=>hk) (fun n r p hk=>Zs n e r p hk)
theorem pQ {e:Ex} (hE:HE E N) (h:e.nb):Rd N (Qx E) e (Hu (tkE e)) (fun k=>hdT k≠[40]):=(Ac.of (K:=fun _=>True) (XY hE h)).fin (fun _ _=>trivial) (fun n r p hk=>Zs n e r p hk)
theorem bL {o u:Int} {n:Str} {ns:List Str} {ks:List Ex} {al:List Al} (h:(Ex.mk o n u ns ks al).nb) (ho:o=13):∃a b,Ex.mk o n u ns ks al=Hb u a b∧a.nb∧b.nb∧1≤u∧u≤8:=by
 subst ho
 obtain ⟨hnm,hnu,hns,has,hnk,hk,-⟩:=cM h
 simp [nmB,nuB,nsB,asB,nkB] at hnm hnu hns has hnk
 subst hnm hns has
 obtain ⟨a,b,rfl⟩:=TG hnk
 exact ⟨a,b,rfl,hk a (by simp),hk b (by simp),hnu.1,hnu.2⟩
theorem kI {u:Int} {a b:Ex}:tkE (Hb u a b)=plK (if Eb u=1 then 2 else Eb u) a (tkE a)++((5,opT u)::plK (if Eb u=1 then 2 else Eb u+1) b (tkE b)):=by
 show tkE (.mk 13 [] u [] [a,b] [])=_
 rw [tkE,NR,NQ];rfl
theorem kQ:∀(s:Nat) (e:Ex) (N:Nat),HE E N→e.size≤s→e.nb→Ac N (ME E) (Jw E) e (plK 3 e (tkE e)) (fun k=>hdT k≠[40])
 |0,e,_,_,hs,_=>by have:=e.size_pos;omega
 |s+1,e,N,hE,hs,h=>by
  rcases Cf (lvl e) 3 with hl|hl
  · rw [jU hl];exact Ac.of (pQ hE h)
  rw [Vl hl]
  by_cases h3:lvl e=3
  · obtain ⟨o,n,u,ns,ks,al⟩:=e
    obtain ⟨ho,hu⟩:=jL (by omega) (by omega:lvl (.mk o n u ns ks al)≤3)
    rw [h3] at hu
    obtain ⟨a,b,he,ha,hb,_,_⟩:=bL h ho
    rw [he,kI,hu]
    rw [he] at hs
    have hsz:a.size≤s:=by simp only [Hb,exN,Ex.size,Ex.At] at hs;omega
    have hu3:u=3∨u=4∨u=5:=by
     unfold Eb at hu;split at hu
     · omega
     · split at hu<;>omega
    refine Ac.step (kQ s a N hE hsz ha) (fun m=>?_) (by simp) (fun k hk=>?_)
    · rw [Jw]
      rcases hu3 with rfl|rfl|rfl
      · exact Gs.CO 5 (Gs.last (f:=fun b=>Jw E m (Hb 3 a b)) (kS (hE.mono (by omega)) hb))
      · exact Gs.BZ (fun k _=>by simp [hdT,opT,VB]) (Gs.CO 5 (Gs.last (f:=fun b=>Jw E m (Hb 4 a b)) (kS (hE.mono (by omega)) hb)))
      · exact Gs.BZ (fun k _=>by simp [hdT,opT,VB]) (Gs.BZ (fun k _=>by simp [hdT,opT,VB]) (Gs.CO 5 (Gs.last (f:=fun b=>Jw E m (Hb 5 a b)) (kS (hE.mono (by omega)) hb))))
    · rcases hu3 with rfl|rfl|rfl<;>simp [hdT,opT,VB]
  · have:=kS hE h
    rw [Vl (by omega)] at this
    exact Ac.of this
theorem gT {e:Ex} (hE:HE E N) (h:e.nb):Rd N (ME E) e (plK 3 e (tkE e)) (noT sPr):=(kQ e.size e N hE (A7 _) h).fin (fun k hk=>OK hk (by decide)) (fun n r p hk=>Y0 n e r p hk)
theorem uB {e:Ex} (hE:HE E N) (h:e.nb):Rd N (ME E) e (Hu (tkE e)) (noT sPr):=(Ac.of (pQ hE h)).fin (fun k hk=>OK hk (by decide)) (fun n r p hk=>Y0 n e r p hk)
theorem pP:∀(s:Nat) (e:Ex) (N:Nat),HE E N→e.size≤s→e.nb→Ac N (LI E) (TO E) e (plK 2 e (tkE e)) (noT sPr)
 |0,e,_,_,hs,_=>by have:=e.size_pos;omega
 |s+1,e,N,hE,hs,h=>by
  rcases Cf (lvl e) 2 with hl|hl
  · rw [jU hl];exact Ac.of (uB hE h)
  rw [Vl hl]
  by_cases h2:lvl e=2
  · obtain ⟨o,n,u,ns,ks,al⟩:=e
    obtain ⟨ho,hu⟩:=jL (by omega) (by omega:lvl (.mk o n u ns ks al)≤3)
    rw [h2] at hu
    obtain ⟨a,b,he,ha,hb,_,_⟩:=bL h ho
    rw [he,kI,hu]
    rw [he] at hs
    have hsz:a.size≤s:=by simp only [Hb,exN,Ex.size,Ex.At] at hs;omega
    have hu3:u=1∨u=2:=by
     unfold Eb at hu;split at hu
     · omega
     · split at hu<;>omega
    refine Ac.step (pP s a N hE hsz ha) (fun m=>?_) (by simp) (fun k hk=>?_)
    · rw [TO]
      rcases hu3 with rfl|rfl
      · exact Gs.CO 5 (Gs.last (f:=fun b=>TO E m (Hb 1 a b)) (gT (hE.mono (by omega)) hb))
      · exact Gs.BZ (fun k _=>by simp [hdT,opT,VB]) (Gs.CO 5 (Gs.last (f:=fun b=>TO E m (Hb 2 a b)) (gT (hE.mono (by omega)) hb)))
    · rcases hu3 with rfl|rfl
      · show sPr.contains [43]=false;decide
      · show sPr.contains [45]=false;decide
  · have:=gT hE h
    rw [Vl (by omega)] at this
    exact Ac.of this
theorem dP {e:Ex} (hE:HE E N) (h:e.nb):Rd N (LI E) e (plK 2 e (tkE e)) (noT sSu):=(pP e.size e N hE (A7 _) h).fin (fun k hk=>VA (by decide) hk) (fun n r p hk=>pG n e r p hk)
theorem yB {e:Ex} (hE:HE E N) (h:e.nb) (hl:1≤lvl e):Rd N (WV E) e (tkE e) (noT sEx):=by
 by_cases h1:lvl e=1
 · obtain ⟨o,n,u,ns,ks,al⟩:=e
   obtain ⟨ho,hu⟩:=jL (by omega) (by omega:lvl (.mk o n u ns ks al)≤3)
   rw [h1] at hu
   obtain ⟨a,b,he,ha,hb,g1,g2⟩:=bL h ho
   rw [he,kI,hu]
   have hu3:u=6∨u=7∨u=8:=by
    unfold Eb at hu;split at hu
    · omega
    · split at hu<;>omega
   refine Rd.bind (dP hE ha) ?_ (fun k hk=>?_)
   · rcases hu3 with rfl|rfl|rfl
     · exact Rd.CO 5 (Rd.map (fun b=>Hb 6 a b) ((dP (hE.mono (by omega)) hb).imp (fun k hk=>VA (by decide) hk)))
     · exact Rd.BZ (fun k _=>by simp [hdT,opT,VB]) (Rd.CO 5 (Rd.map (fun b=>Hb 7 a b) ((dP (hE.mono (by omega)) hb).imp (fun k hk=>VA (by decide) hk))))
     · exact Rd.BZ (fun k _=>by simp [hdT,opT,VB]) (Rd.BZ (fun k _=>by simp [hdT,opT,VB]) (Rd.CO 5 (Rd.map (fun b=>Hb 8 a b) ((dP (hE.mono (by omega)) hb).imp (fun k hk=>VA (by decide) hk)))))
   · rcases hu3 with rfl|rfl|rfl
     · show sSu.contains [60]=false;decide
     · show sSu.contains [60,61]=false;decide
     · show sSu.contains [61,61]=false;decide
 · have hs:=dP hE h
   rw [Vl (by omega)] at hs
   have:=Rd.bind (K:=noT sEx) (k2:=[]) (f:=fun a=>EP [60] ((LI E).bind fun b=>.pure (Hb 6 a b)) <|EP [60,61] ((LI E).bind fun b=>.pure (Hb 7 a b)) <|EP [61,61] ((LI E).bind fun b=>.pure (Hb 8 a b)) <| .pure a) hs (Rd.BZ (fun k hk=>OK hk (by decide)) (Rd.BZ (fun k hk=>OK hk (by decide)) (Rd.BZ (fun k hk=>OK hk (by decide)) (Rd.pure e)))) (fun k hk=>VA (by decide) hk)
   rw [AZ] at this
   exact this
theorem AA9 (hE:HE E N) {a:Al} (h:a.nb) (ha:Mb a=true):Rd N (jR E) a (tkA a) (noT sEx):=by
 by_cases hN:N=0
 · subst hN;cases a;exact Ip (by simp [tkA,AAI])
 obtain ⟨c,vs,b⟩:=a
 rw [Al.nb] at h
 simp only [Mb,AN] at ha
 rw [tkA,AAI]
 exact Rd.C0 (K1:=fun _=>True) (Rd.take c) (Rd.bind (XX (Kr:=fun _=>True) (fun _=>trivial) (fun _=>trivial) vs (fun s hs M _=>RX (A6.1 ha.2 s hs))) (Rd.C0 (K1:=fun _=>True) (Rd.exp 5) (Rd.map (fun x=>Al.mk c vs x) (hE b h _ (by omega))) (fun _ _=>trivial)) (fun k _ _=>by simp [hdT])) (fun _ _=>trivial)
theorem AAE {s:Str} (h:GM s=true) (k:List KT):hdT (shK s++k)≠[40]:=by
 unfold shK
 split
 · simp [hdT]
 · rename_i e
   simp only [GM,BT,beq_iff_eq] at h
   exact Nx (Vh (h.resolve_left e)) (by decide)
theorem Th (k:List KT) (t:Str) (h:sEx.contains t=false) (q:Int):noT sEx ((q,t)::k):=h
end
theorem xS:∀(n N:Nat),N≤n→∀e:Ex,e.nb→Rd N (Bz n) e (tkE e) (noT sEx)
 |0,N,hN,e,h=>by
  have:N=0:=by omega
  subst this
  exact Ip (k8 h)
 |n+1,N,hN,e,h=>by
  by_cases hN0:N=0
  · subst hN0;exact Ip (k8 h)
  have hE:HE (Bz n) N:=fun x hx M hM=>xS n M (by omega) x hx
  rw [Bz]
  by_cases hl:1≤lvl e
  · obtain ⟨q,x,l,e1,_,e2⟩:=zD h
    have hne:∀t∈opens,∀k:List KT,hdT (tkE e++k)≠t:=fun t ht k=>by
     rw [(iR e1 k).1]
     intro e3
     have:=e2 hl
     rw [e3,Dr] at this
     simp [ht] at this
    exact Rd.BZ (fun k _=>hne _ (by decide) k) (Rd.BZ (fun k _=>hne _ (by decide) k) (Rd.BZ (fun k _=>hne _ (by decide) k) (Rd.BZ (fun k _=>hne _ (by decide) k) (Rd.BZ (fun k _=>hne _ (by decide) k) (yB hE h hl)))))
  have h0:lvl e=0:=by omega
  obtain ⟨o,nm,u,ns,ks,al⟩:=e
  obtain ⟨hnm,hnu,hns,has,hnk,hk,hal⟩:=cM h
  have hN1:HE (Bz n) (N - 1):=hE.mono (by omega)
  rw [tkE,NR,NQ]
  rcases ACH h0 with rfl|rfl|rfl|rfl|rfl|rfl
  · obtain ⟨a,b,rfl⟩:=TG (by simpa [nkB] using hnk)
    simp [nmB,nuB,nsB,asB] at hnm hnu hns has
    subst hnu hns has
    refine Rd.CO 4 ?_
    unfold fG
    refine Rd.BZ (fun k _=>by rw [AT];exact AAE hnm _) ?_
    exact Rd.bind (RX (K:=fun _=>True) hnm) (Rd.C0 (K1:=fun _=>True) (Rd.exp 5) (Rd.bind (hE a (hk a (by simp)) _ (by omega)) (Rd.C0 (K1:=fun _=>True) (Rd.exp 4) (Rd.map (fun y=>Ex.mk 7 nm 0 [] [a,y] []) (hE b (hk b (by simp)) _ (by omega))) (fun _ _=>trivial)) (fun k _=>Th _ [105,110] (by decide) 4)) (fun _ _=>trivial)) (fun _ _=>trivial)
  · obtain ⟨a,b,rfl⟩:=TG (by simpa [nkB] using hnk)
    simp [nmB,nuB,asB] at hnm hnu has
    subst hnm hnu has
    simp only [nsB,if_true,AN,decide_eq_true_eq,A6] at hns
    obtain ⟨⟨h2,_⟩,hb⟩:=hns
    match ns,h2,hb with
    |x::y::l,_,hb=>
     have hs:tkN 8 [] 0 (x::y::l) [a,b] ([a,b].map tkE) ([].map tkA)=(4,[108,101,116])::(5,[40])::(shK x++((5,[44])::((cmK ((y::l).map shK)++[(5,[41])])++((5,[61])::(tkE a++((4,[105,110])::tkE b)))))):=by
      show (4,[108,101,116])::(Hu (cmK (shK x::shK y::l.map shK))++((5,[61])::(tkE a++((4,[105,110])::tkE b))))=_
      rw [Sf,Hu];simp
     rw [hs]
     refine Rd.CO 4 ?_
     unfold fG
     refine Rd.CO 5 ?_
     exact Rd.bind (RX (K:=fun _=>True) (hb x (by simp))) (Rd.C0 (K1:=fun _=>True) (Rd.exp 5) (Rd.bind (O1 (K:=fun _=>True) (g:=shK) (Kr:=fun _=>True) (fun _=>trivial) (fun _=>trivial) (by simp) (fun z hz M _=>RX (hb z (Ah _ hz)))) (Rd.C0 (K1:=fun _=>True) (Rd.exp 5) (Rd.bind (hE a (hk a (by simp)) _ (by omega)) (Rd.C0 (K1:=fun _=>True) (Rd.exp 4) (Rd.map (fun q=>Ex.mk 8 [] 0 (x::y::l) [a,q] []) (hE b (hk b (by simp)) _ (by omega))) (fun _ _=>trivial)) (fun k _=>Th _ [105,110] (by decide) 4)) (fun _ _=>trivial)) (fun _ _=>trivial)) (fun _ _=>trivial)) (fun _ _=>trivial)
  · obtain ⟨a,b,c,rfl⟩:=jH (by simpa [nkB] using hnk)
    simp [nmB,nuB,nsB,asB] at hnm hnu hns has
    subst hnm hnu hns has
    refine Rd.BZ (fun k _=>by simp [tkN,hdT]) (Rd.CO 4 ?_)
    exact Rd.bind (hE a (hk a (by simp)) _ (by omega)) (Rd.C0 (K1:=fun _=>True) (Rd.exp 4) (Rd.bind (hE b (hk b (by simp)) _ (by omega)) (Rd.C0 (K1:=fun _=>True) (Rd.exp 4) (Rd.map (fun q=>exN 9 0 [a,b,q]) (hE c (hk c (by simp)) _ (by omega))) (fun _ _=>trivial)) (fun k _=>Th _ [101,108,115,101] (by decide) 4)) (fun _ _=>trivial)) (fun k _=>Th _ [116,104,101,110] (by decide) 4)
  · obtain ⟨a,rfl⟩:=Wi (by simpa [nkB] using hnk)
    simp [nmB,nuB,nsB] at hnm hnu hns
    subst hnm hnu hns
    have haa:=hP has
    have hne:al≠[]:=by rintro rfl;simp [asB] at has
    iterate 2 refine Rd.BZ (fun k _=>by simp [tkN,hdT]) ?_
    refine Rd.CO 4 ?_
    exact Rd.bind (hE a (hk a (by simp)) _ (by omega)) (Rd.C0 (K1:=fun _=>True) (Rd.exp 4) (Rd.bind (XW (g:=tkA) (Kr:=noT sEx) (fun k=>Th k [124] (by decide) 5) hne (fun x hx M hM=>AA9 (hE.mono (by omega)) (hal x hx) (haa x hx))) (Rd.C0 (K1:=fun _=>True) (Rd.exp 4) (Rd.pure _) (fun _ _=>trivial)) (fun k _=>⟨Th _ [101,110,100] (by decide) 4,by simp [hdT]⟩)) (fun _ _=>trivial)) (fun k _=>Th _ [119,105,116,104] (by decide) 4)
  · obtain ⟨a,rfl⟩:=Wi (by simpa [nkB] using hnk)
    simp [nmB,nuB,asB] at hnm hnu has
    subst hnm hnu has
    simp [nsB] at hns
    iterate 3 refine Rd.BZ (fun k _=>by simp [tkN,hdT]) ?_
    refine Rd.CO 4 ?_
    exact Rd.C0 (K1:=fun _=>True) (Rd.exp 5) (Rd.bind (K1:=fun _=>True) (bI (Kr:=fun _=>True) (g:=fun s=>[(1,s)]) (fun _=>trivial) (fun _=>trivial) ns (fun s hs M _=>Rd.take s) (fun s hs k=>Nx (Vh (hns.2 s hs)) (by decide))) (Rd.C0 (K1:=fun _=>True) (Rd.exp 5) (Rd.map (fun q=>Ex.mk 11 [] 0 ns [q] []) (hE a (hk a (by simp)) _ (by omega))) (fun _ _=>trivial)) (fun _ _=>trivial)) (fun _ _=>trivial)
  · obtain ⟨a,b,rfl⟩:=TG (by simpa [nkB] using hnk)
    simp [nmB,nuB,nsB,asB] at hnm hnu hns has
    subst hnu hns has
    iterate 4 refine Rd.BZ (fun k _=>by simp [tkN,hdT]) ?_
    refine Rd.CO 4 ?_
    exact Rd.bind (hE a (hk a (by simp)) _ (by omega)) (Rd.C0 (K1:=fun _=>True) (Rd.exp 4) (Rd.bind (RX (K:=fun _=>True) hnm) (Rd.C0 (K1:=fun _=>True) (Rd.exp 5) (Rd.bind (hE b (hk b (by simp)) _ (by omega)) (Rd.C0 (K1:=fun _=>True) (Rd.exp 4) (Rd.pure _) (fun _ _=>trivial)) (fun k _=>Th _ [101,110,100] (by decide) 4)) (fun _ _=>trivial)) (fun _ _=>trivial)) (fun _ _=>trivial)) (fun k _=>Th _ [99,97,116,99,104] (by decide) 4)
theorem Rd.zM {α:Type} {k0:Int} {y n:PM α} {a:α} {ks:List KT} (hn:∀k,K k→hdK (ks++k)=k0) (h:Rd N y a ks K):Rd N (.kind k0 y n) a ks K:=fun r p k hN hL hs hk=>by
 have hh:=(G5 hs).2
 have e:(PM.kind k0 y n).run ⟨r,false,p⟩=y.run ⟨r,false,p⟩:=if_pos (by rw [PSt.hd,hh];simpa using hn k hk)
 rw [e];exact h r p k hN hL hs hk
theorem yD {f:FE} (h:Mw f=true) (hb:f.body.nb) (hN:N≤BI):Rd N Zd f ((1,f.name)::(Le (f.params.map fun s=>[(1,s)])++((5,[61])::(tkE f.body++[(5,[59])])))) K:=by
 simp only [Mw,AN,A6] at h
 exact Rd.C0 (K1:=fun _=>True) (Rd.take f.name) (Rd.C0 (K1:=fun _=>True) (Rd.exp 5) (Rd.bind (K1:=fun _=>True) (bI (Kr:=fun _=>True) (g:=fun s=>[(1,s)]) (fun _=>trivial) (fun _=>trivial) f.params (fun s hs M _=>Rd.take s) (fun s hs k=>Nx (Vh (h.2 s hs)) (by decide))) (Rd.C0 (K1:=fun _=>True) (Rd.exp 5) (Rd.bind (xS BI _ (by omega) f.body hb) (Rd.C0 (K1:=fun _=>True) (Rd.exp 5) (Rd.pure _) (fun _ _=>trivial)) (fun k _=>Th _ [59] (by decide) 5)) (fun _ _=>trivial)) (fun _ _=>trivial)) (fun _ _=>trivial)) (fun _ _=>trivial)
theorem dR:∀(l:List FE) (n N:Nat) (ds:List DE) (fs:List FE),l.length≤n→N≤BI→(∀f∈l,Mw f=true∧f.body.nb)→Rd N (MF n ds fs) ⟨ds,fs++l⟩ (l.map tkF).flatten (fun k=>hdK k=6)
 |[],0,N,ds,fs,_,_,_=>by rw [AZ];exact Rd.pure _
 |[],n+1,N,ds,fs,_,_,_=>by
  rw [AZ,MF]
  exact Rd.zM (fun k hk=>hk) (Rd.pure _)
 |f::l,0,N,ds,fs,h,_,_=>by simp at h
 |f::l,n+1,N,ds,fs,h,hN,hf=>by
  have ih:=dR l n (N - 1 - (((1,f.name)::(Le (f.params.map fun s=>[((1:Int),s)])++((5,[61])::(tkE f.body++[(5,[59])]))):List KT)).length) ds (fs++[f]) (by simp at h;omega) (by omega) (fun x hx=>hf x (Ah _ hx))
  rw [AT] at ih
  rw [MF,AF,Ce,tkF,A0]
  refine Rd.C2 (fun k _=>by simp [hdK]) (Rd.BZ (fun k _=>by simp [hdT]) (Rd.CO 4 ?_))
  exact Rd.bind (K1:=fun _=>True) (yD (hf f (Ae ..)).1 (hf f (Ae ..)).2 (by omega)) ih (fun _ _=>trivial)
theorem dQ (gs:List FE) (hg:∀f∈gs,Mw f=true∧f.body.nb):∀(l:List DE) (n N:Nat) (ds:List DE),l.length+gs.length≤n→N≤BI→(∀d∈l,Ge d=true)→Rd N (MF n ds []) ⟨ds++l,gs⟩ ((l.map tkD).flatten++(gs.map tkF).flatten) (fun k=>hdK k=6)
 |[],n,N,ds,h,hN,_=>by
  have:=dR gs n N ds [] (by simpa using h) hN hg
  rw [AZ]
  exact this
 |d::l,0,N,ds,h,_,_=>by simp at h
 |d::l,n+1,N,ds,h,hN,hf=>by
  have ih:=dQ gs hg l n (N - 1 - (((2,d.name)::(VC (d.vars.map fun s=>[((1:Int),s)])++((5,[61])::([((5:Int),[124])].intercalate (d.cons.map tkC)++[(5,[59])]))):List KT)).length) (ds++[d]) (by simp at h;omega) (by omega) (fun x hx=>hf x (Ah _ hx))
  rw [AT] at ih
  rw [MF,AF,Ce,tkD,A0,A0,AT]
  refine Rd.C2 (fun k _=>by simp [hdK]) (Rd.CO 4 ?_)
  exact Rd.bind (K1:=fun _=>True) (uC (hf d (Ae ..)) (by omega)) ih (fun _ _=>trivial)
theorem YT {p:Pg} (h:DA p=true) (hl:(Wa p).length≤16384):KM (Wa p)=(p,0,0):=by
 obtain ⟨h1,h2⟩:=pA (rV h) hl
 obtain ⟨w,o⟩:=gE h1
 obtain ⟨n1,n2⟩:=gN h
 have hv:=h
 simp only [DA,AN,decide_eq_true_eq] at hv
 have hf:=F6
 have e:=dQ p.Rf n2 p.data BI BI [] (by omega) (A7 _) n1 (BJ (Wa p)).1 0 [(6,[])] (by have:=o.1;omega) o.1 h2 rfl
 rw [A3] at e
 unfold KM NJ
 rw [if_neg (by rw [h1];simp),e]
 simp only [AU,if_false,h,if_true]
end Go.Ab
namespace Go.Ab
theorem pX {p:UInt8→Bool}:∀ {l:Str},∀x∈l.takeWhile p,p x=true
 |[],x,h=>by cases h
 |b::l,x,h=>by
  rw [FZ] at h
  split at h
  · rename_i hb
    rcases CN.1 h with rfl|h
    · exact hb
    · exact pX x h
  · cases h
def bQ (x:Pg×PSt):Pg×Nat×Int:=if x.2.f then (⟨[],[]⟩,x.2.p,2) else if DA x.1 then (x.1,0,0) else (⟨[],[]⟩,0,9)
theorem UL {s:Str} (h:(BJ s).2.2=0):KM s=bQ (NJ.run ⟨(BJ s).1,false,0⟩):=by
 unfold KM bQ
 rw [if_neg (by rw [h];simp)]
theorem nJ {x y:Pg×PSt} (h1:x.1=y.1) (h2:x.2.f=y.2.f):(bQ x).1=(bQ y).1∧(bQ x).2.2=(bQ y).2.2:=by
 unfold bQ
 rw [h1,h2]
 split
 · exact ⟨rfl,rfl⟩
 · split<;>exact ⟨rfl,rfl⟩
theorem fH {s t:Str} (hs:(BJ s).2.2=0) (ht:(BJ t).2.2=0) (h:strip (BJ s).1=strip (BJ t).1):(KM s).1=(KM t).1∧(KM s).2.2=(KM t).2.2:=by
 obtain ⟨h1,_,h3⟩:=NJ.pm ⟨(BJ s).1,false,0⟩ ⟨(BJ t).1,false,0⟩ h rfl
 rw [UL hs,UL ht]
 exact nJ h1 h3
end Go.Ab
namespace Go.Ab
theorem sU (n:Nat) (ds:List DE) (fs:List FE) (s:PSt):(MF (n+1) ds fs).run s=
 if s.hd.kind==6 then (⟨ds,fs⟩,s)
                         else if s.hd.text==[100,97,116,97] then (MF n (ds++[(Ti.run s.adv).1]) fs).run (Ti.run s.adv).2
                         else if s.hd.text==[102,117,110] then (MF n ds (fs++[(Zd.run s.adv).1])).run (Zd.run s.adv).2
                         else (MF n ds fs).run s.fail:=rfl
theorem AAM {s:PSt} (h:WF s.r) (hk:(s.hd.kind==6)=false):2≤s.r.length:=by
 obtain ⟨r,f,p⟩:=s
 match r,h,hk with
 |[t],h,hk=>
  have:(PSt.mk [t] f p).hd=t:=rfl
  rw [this,h.1] at hk;cases hk
 |t::u::l,_,_=>simp
theorem BV {s:PSt} (h:WF s.r):s.adv.r.length+1=s.r.length:=by
 obtain ⟨r,f,p⟩:=s
 cases r with
 |nil=>exact h.elim
 |cons t l=>rfl
theorem eE {s:PSt} (h:WF s.r):s.fail.r.length=1:=by
 have:1≤s.r.length:=Ar.2 h.ne
 show (Uu s.r).length=1
 unfold Uu;rw [Ai];omega
end Go.Ab
namespace Go.Ab
variable {α β:Type}
def SzO (c:Nat) (m:PM α) (μ:α→Nat):Prop:=∀s,WF s.r→(m.run s).2.f=false→μ (m.run s).1+(m.run s).2.r.length≤s.r.length+c
theorem SzO.pure {c:Nat} {a:α} {μ:α→Nat} (h:μ a≤c):SzO c (.pure a) μ:=fun s _ _=>by
 show μ a+s.r.length≤s.r.length+c;omega
theorem SzO.bind {c:Nat} {m:PM α} {f:α→PM β} {μ:α→Nat} {ν:β→Nat} (h:SzO 0 m μ) (hf:∀a,SzO (c+μ a) (f a) ν):SzO c (m.bind f) ν:=fun s hw hs=>by
 have hs':((f (m.run s).1).run (m.run s).2).2.f=false:=hs
 have h1:(m.run s).2.f=false:=by
  cases hc:(m.run s).2.f with
  |false=>rfl
  |true=>have:=((f (m.run s).1).st _ hc).1;rw [hs'] at this;cases this
 have e1:=h s hw h1
 have e2:=hf (m.run s).1 (m.run s).2 (m.sf s hw).1 hs'
 show ν ((f (m.run s).1).run (m.run s).2).1+((f (m.run s).1).run (m.run s).2).2.r.length≤_
 omega
theorem SzO.acc {c:Nat} {t:Str} {ht:t≠[]} {y n:PM α} {μ:α→Nat} (hy:SzO (c+1) y μ) (hn:SzO c n μ):SzO c (.acc t ht y n) μ:=fun s hw hs=>by
 cases hc:s.hd.text==t with
 |true=>
  have e:(PM.acc t ht y n).run s=y.run s.adv:=if_pos hc
  rw [e] at hs ⊢
  have hk:s.hd.text≠[]:=by rw [beq_iff_eq] at hc;rw [hc];exact ht
  have h1:=hy s.adv (Sa hw (.inr hk)).1 hs
  have h2:=BV hw
  omega
 |false=>
  have e:(PM.acc t ht y n).run s=n.run s:=if_neg (by rw [hc];decide)
  rw [e] at hs ⊢
  exact hn s hw hs
theorem SzO.kind {c:Nat} {k:Int} {y n:PM α} {μ:α→Nat} (hy:SzO c y μ) (hn:SzO c n μ):SzO c (.kind k y n) μ:=fun s hw hs=>by
 cases hc:s.hd.kind==k with
 |true=>
  have e:(PM.kind k y n).run s=y.run s:=if_pos hc
  rw [e] at hs ⊢
  exact hy s hw hs
 |false=>
  have e:(PM.kind k y n).run s=n.run s:=if_neg (by rw [hc];decide)
  rw [e] at hs ⊢
  exact hn s hw hs
theorem SzO.fail {c:Nat} {a:α} {μ:α→Nat}:SzO c (.fail a) μ:=fun s _ h=>by cases h
theorem SzO.tok {cc:Int→Str→Bool} {hc:∀k t,cc k t=true→k≠6∨t≠[]} {g:Str→α} {b:α}:SzO 0 (.tok cc hc g b) (fun _=>1):=fun s hw hs=>by
 cases hcc:cc s.hd.kind s.hd.text with
 |true=>
  have e:(PM.tok cc hc g b).run s=(g s.hd.text,s.adv):=if_pos hcc
  rw [e]
  have h2:=BV hw
  show 1+s.adv.r.length≤_
  omega
 |false=>
  have e:(PM.tok cc hc g b).run s=(b,s.fail):=if_neg (by rw [hcc];decide)
  rw [e] at hs
  cases hs
theorem SzO.mono {c:Nat} {m:PM α} {μ ν:α→Nat} (h:SzO c m μ) (hl:∀a,ν a≤μ a):SzO c m ν:=fun s hw hs=>by
 have:=h s hw hs;have:=hl (m.run s).1;omega
def Dw (μ:α→Nat) (l:List α):Nat:=(l.map μ).sum
theorem gH (μ:α→Nat) (l m:List α):Dw μ (l++m)=Dw μ l+Dw μ m:=by simp [Dw]
theorem Yy (μ:α→Nat) (x:α):Dw μ [x]=μ x:=by simp [Dw]
theorem VL {μ:α→Nat} {l:List α} {x:α} (h:x∈l):μ x≤Dw μ l:=by
 induction l with
 |nil=>cases h
 |cons y l ih=>
  simp only [Dw,AF,List.sum_cons] at ih ⊢
  rcases CN.1 h with rfl|h
  · omega
  · have:=ih h;omega
theorem ZA {read:PM α} {t:Str} {ht:t≠[]} {μ:α→Nat} (h:SzO 0 read μ):∀(n c:Nat) (l:List α),Dw μ l≤c→SzO c (EV read t ht n l) (Dw μ)
 |0,c,l,hl=>SzO.pure hl
 |n+1,c,l,hl=>SzO.acc (SzO.bind h (fun a=>ZA h n _ _ (by rw [gH,Yy];omega))) (SzO.pure hl)
theorem aY {read:PM α} {t:Str} {ht:t≠[]} {μ:α→Nat} (h:SzO 0 read μ):SzO 0 (items read t ht) (Dw μ):=
 SzO.bind h (fun a=>ZA h _ _ _ (by rw [Yy];omega))
theorem Nv {t:Str} {ht:t≠[]}:SzO 0 (.exp t ht) (fun _=>1):=SzO.tok
theorem S3 {k:Int} {hk:k≠6}:SzO 0 (.take k hk) (fun _=>1):=SzO.tok
theorem UR {read:PM α} {μ:α→Nat} (h:SzO 0 read μ):SzO 0 (listed read) (Dw μ):=SzO.bind (aY h) (fun a=>SzO.bind Nv (fun _=>SzO.pure (by omega)))
theorem kF {read:PM α} {μ:α→Nat} (h:SzO 0 read μ):SzO 0 (closed read) (Dw μ):=SzO.acc (SzO.pure (by simp [Dw])) (UR h)
theorem ZB {read:PM α} {μ:α→Nat} (h:SzO 0 read μ):SzO 0 (IT read) (Dw μ):=SzO.acc (fun s hw hs=>by have:=UR h s hw hs;omega) (SzO.pure (by simp [Dw]))
theorem PR:∀l:List TE,TE.At l=Dw TE.size l
 |[]=>rfl
 |t::l=>by rw [TE.At,PR l];simp [Dw]
theorem mA:∀n,SzO 0 (Fp n) TE.size
 |0=>SzO.fail
 |n+1=>by
  have ih:=mA n
  have hel:∀k,SzO 1 (SK k (Fp n)) TE.size:=fun k=>SzO.bind Nv (fun _=>SzO.bind ih (fun t=>SzO.bind Nv (fun _=>SzO.pure (by simp [TE.size,TE.At];omega))))
  rw [Fp]
  refine SzO.kind (SzO.bind S3 (fun x=>SzO.pure (by simp [TE.size,TE.At]))) ?_
  refine SzO.kind (SzO.bind S3 (fun x=>SzO.bind (ZB ih) (fun l=>SzO.pure (by rw [TE.size,PR];omega)))) ?_
  refine SzO.acc (SzO.pure (by simp [TE.size,TE.At])) (SzO.acc (SzO.pure (by simp [TE.size,TE.At])) (SzO.acc (SzO.pure (by simp [TE.size,TE.At])) (SzO.acc (hel 7) (SzO.acc (hel 8) (SzO.acc ?_ (SzO.acc ?_ SzO.fail))))))
  · exact SzO.bind ih (fun a=>SzO.bind Nv (fun _=>SzO.bind (UR ih) (fun l=>SzO.pure (by rw [TE.size,TE.At,PR];omega))))
  · exact SzO.bind Nv (fun _=>SzO.bind (kF ih) (fun l=>SzO.bind Nv (fun _=>SzO.bind ih (fun t=>SzO.pure (by rw [TE.size,TE.Cp,TE.At,TE.At,PR];omega)))))
def qG (c:CE):Nat:=Dw TE.size c.args
def iL (d:DE):Nat:=Dw qG d.cons
theorem wU:SzO 0 fF qG:=SzO.bind S3 (fun c=>SzO.bind (ZB (mA _)) (fun l=>SzO.pure (by show Dw TE.size l≤_;omega)))
theorem tP:SzO 0 Ti iL:=SzO.bind S3 (fun c=>SzO.bind (ZB (μ:=fun _=>0) (S3.mono (fun _=>by omega))) (fun l=>SzO.bind Nv (fun _=>SzO.bind (aY wU) (fun cs=>SzO.bind Nv (fun _=>SzO.pure (by show Dw qG cs≤_;omega))))))
theorem zro (m:PM α):SzO 0 m (fun _=>0):=fun s hw _=>by have:=(m.sf s hw).2.length_le;simp only;omega
theorem VN:∀(n c:Nat) (ds:List DE) (fs:List FE),Dw iL ds≤c→SzO c (MF n ds fs) (fun p=>Dw iL p.data)
 |0,c,ds,fs,h=>SzO.pure h
 |n+1,c,ds,fs,h=>by
  rw [MF]
  exact SzO.kind (SzO.pure h) (SzO.acc (SzO.bind tP (fun d=>VN n _ _ _ (by rw [gH,Yy];omega))) (SzO.acc (SzO.bind (zro Zd) (fun f=>VN n _ _ _ (by omega))) (SzO.bind (zro (PM.fail ())) (fun _=>VN n _ _ _ (by omega)))))
theorem fM {r:List Tok} {p:Nat} (hw:WF r) (hl:r.length≤17000) (hf:(NJ.run ⟨r,false,p⟩).2.f=false):∀d∈(NJ.run ⟨r,false,p⟩).1.data,∀c∈d.cons,∀t∈c.args,t.size≤17000:=by
 have h:=VN BI 0 [] [] (by simp [Dw]) ⟨r,false,p⟩ hw hf
 intro d hd c hc t ht
 have h1:t.size≤qG c:=VL ht
 have h2:qG c≤iL d:=VL hc
 have h3:iL d≤Dw iL (NJ.run ⟨r,false,p⟩).1.data:=VL hd
 have h4:Dw iL (NJ.run ⟨r,false,p⟩).1.data+(NJ.run ⟨r,false,p⟩).2.r.length≤r.length+0:=h
 omega
end Go.Ab
