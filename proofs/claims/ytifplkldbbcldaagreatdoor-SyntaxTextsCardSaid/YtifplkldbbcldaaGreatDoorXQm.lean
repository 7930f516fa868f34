/- Reading the tokens of a formatted text back, in plain data: levels, programs. Blanks between tokens, and texts in a row: their tokens, in plain data. Two texts in a row, in plain data. What is read is not larger than its text, in plain data. Conditions: none. -/
import Derived.Test.YtifplkldbbcldaaGreatDoorXQj
set_option linter.unusedSimpArgs false
set_option linter.unusedVariables false
set_option maxRecDepth 4000
set_option maxHeartbeats 8000000
open Nat renaming zero_le→CB,lt_or_ge→Dz,le_refl→A7
open List renaming length→Ps,length_append→AA,length_pos_iff→Ap,mem_cons_self→A9,mem_cons_of_mem→Ae,append_nil→A1,all_eq_true→A4,contains_eq_mem→D4,append_assoc→AS,map_cons→AE,flatten_cons→CZ,cons_append→AX,nil_append→A6,takeWhile_cons→Ev,mem_cons→By,length_drop→Ah
open Bool renaming and_eq_true→AK,or_eq_true→BJ,false_eq_true→AY
namespace Go.Ab
variable {N:Nat} {K:List KT→Prop}
theorem eS (u:Int):EN u≤3:=by
 unfold EN;split
 · omega
 · split<;>omega
def iC (o u:Int):Nat:=if o=7∨o=8∨o=9∨o=10∨o=11∨o=17 then 0 else if o=13 then EN u else if o=12 then 4 else 5
theorem Y8 {o u:Int} {n:Str} {ns:List Str} {ks:List Ex} {al:List Al}:lvl (.mk o n u ns ks al)=iC o u:=rfl
theorem RL (o u:Int):((o=7∨o=8∨o=9∨o=10∨o=11∨o=17)∧iC o u=0)∨(o=13∧iC o u=EN u)∨(o=12∧iC o u=4)∨iC o u=5:=by
 unfold iC
 split
 · rename_i h;exact .inl ⟨h,rfl⟩
 · split
   · rename_i h;exact .inr (.inl ⟨h,rfl⟩)
   · split
     · rename_i h;exact .inr (.inr (.inl ⟨h,rfl⟩))
     · exact .inr (.inr (.inr rfl))
theorem tA (e:Ex):lvl e≤5:=by
 obtain ⟨o,n,u,ns,ks,al⟩:=e
 have:=eS u
 have:=RL o u
 rw [Y8];omega
theorem wN {o u:Int} {n:Str} {ns:List Str} {ks:List Ex} {al:List Al} (h:lvl (.mk o n u ns ks al)=4):o=12:=by
 have:=eS u
 have:=RL o u
 rw [Y8] at h;omega
theorem bX {o u:Int} {n:Str} {ns:List Str} {ks:List Ex} {al:List Al} (h:1≤lvl (.mk o n u ns ks al)) (h2:lvl (.mk o n u ns ks al)≤3):o=13∧EN u=lvl (.mk o n u ns ks al):=by
 have:=RL o u
 rw [Y8] at *;omega
theorem wM {o u:Int} {n:Str} {ns:List Str} {ks:List Ex} {al:List Al} (h:lvl (.mk o n u ns ks al)=0):o=7∨o=8∨o=9∨o=10∨o=11∨o=17:=by
 have:=Zf u
 have:=RL o u
 rw [Y8] at h;omega
theorem cE {d:Nat} {e:Ex} {t:List KT} (h:lvl e < d):plK d e t=HN t:=if_pos h
theorem UK {d:Nat} {e:Ex} {t:List KT} (h:d≤lvl e):plK d e t=t:=if_neg (by omega)
theorem tF {d:Nat} {e:Ex} (h:e.nb):plK d e (tkE e)≠[]:=by
 unfold plK;split
 · simp [HN]
 · exact dY h
theorem Ac.zero {m:PM Ex} {c:Nat→Ex→PM Ex} {e:Ex} {ks:List KT} (h:ks≠[]):Ac 0 m c e ks K:=⟨0,CB _,fun r p k h1 _ hs _=>by
 have:=congrArg Ps hs
 rw [Ny,AA] at this
 have:=Ap.2 h
 omega⟩
section
variable {E:PM Ex}
theorem jK:∀(s:Nat) (e:Ex) (N:Nat),HE E N→e.size≤s→e.nb→Ac N (P3 E) (SQ E) e (plK 4 e (tkE e)) (fun k=>Ld e=true→hdT k≠[40])
 |0,e,_,_,hs,_=>by have:=e.size_pos;omega
 |s+1,e,N,hE,hs,h=>by
  by_cases hN:N=0
  · subst hN;exact Ac.zero (tF h)
  rcases Dz (lvl e) 4 with hl|hl
  · rw [cE hl];exact Ac.of (V4 hE h)
  rw [UK hl]
  by_cases h5:lvl e=5
  · exact Ac.of (nS hE h h5)
  have h4:lvl e=4:=by have:=tA e;omega
  obtain ⟨o,n,u,ns,ks,al⟩:=e
  have:=wN h4
  subst this
  obtain ⟨hnm,hnu,hns,has,hnk,hk,-⟩:=Ya h
  simp [nmB,nuB,nsB,asB,nkB] at hnm hnu hns has hnk
  subst hnm hnu hns has
  cases ks with
  |nil=>simp at hnk
  |cons f l=>
   have hf:=hk f (A9 ..)
   rw [tkE,MO,MN]
   show Ac N (P3 E) (SQ E) (.mk 12 [] 0 [] (f::l) []) ((if Ld f then HN (tkE f) else plK 4 f (tkE f))++Kg (l.map tkE)) _
   refine Ac.step (K1:=fun _=>True) (a:=f) ?_ (fun m=>?_) (by simp [Kg,HN]) (fun _ _=>trivial)
   · split
     · exact Ac.of (V4 hE hf)
     · rename_i hb
       exact (jK s f N hE (by simp only [Ex.size,Ex.BK] at hs;omega) hf).imp (fun k _ hb'=>absurd hb' hb)
   · rw [SQ,Kg,HN]
     refine Gs.Bz 5 (Gs.last (f:=fun l=>SQ E m (exN 12 0 (f::l))) (YJ (Kr:=noT sEx) Vf WR l (fun x hx M hM=>hE x (hk x (Ae _ hx)) M (by omega)) (fun x hx k=>kO (hk x (Ae _ hx)) k)))
theorem dN {e:Ex} (hE:HE E N) (h:e.nb):Rd N (P3 E) e (plK 4 e (tkE e)) (fun k=>hdT k≠[40]):=(jK e.size e N hE (A7 _) h).fin (fun k hk _=>hk) (fun n r p hk=>X5 n e r p hk)
theorem jM {e:Ex} (hE:HE E N) (h:e.nb):Rd N (P3 E) e (HN (tkE e)) (fun k=>hdT k≠[40]):=(Ac.of (K:=fun _=>True) (V4 hE h)).fin (fun _ _=>trivial) (fun n r p hk=>X5 n e r p hk)
theorem YM {o u:Int} {n:Str} {ns:List Str} {ks:List Ex} {al:List Al} (h:(Ex.mk o n u ns ks al).nb) (ho:o=13):∃a b,Ex.mk o n u ns ks al=Gu u a b∧a.nb∧b.nb∧1≤u∧u≤8:=by
 subst ho
 obtain ⟨hnm,hnu,hns,has,hnk,hk,-⟩:=Ya h
 simp [nmB,nuB,nsB,asB,nkB] at hnm hnu hns has hnk
 subst hnm hns has
 obtain ⟨a,b,rfl⟩:=R7 hnk
 exact ⟨a,b,rfl,hk a (by simp),hk b (by simp),hnu.1,hnu.2⟩
theorem dB {u:Int} {a b:Ex}:tkE (Gu u a b)=plK (if EN u=1 then 2 else EN u) a (tkE a)++((5,opT u)::plK (if EN u=1 then 2 else EN u+1) b (tkE b)):=by
 show tkE (.mk 13 [] u [] [a,b] [])=_
 rw [tkE,MO,MN];rfl
theorem dL:∀(s:Nat) (e:Ex) (N:Nat),HE E N→e.size≤s→e.nb→Ac N (LF E) (JO E) e (plK 3 e (tkE e)) (fun k=>hdT k≠[40])
 |0,e,_,_,hs,_=>by have:=e.size_pos;omega
 |s+1,e,N,hE,hs,h=>by
  rcases Dz (lvl e) 3 with hl|hl
  · rw [cE hl];exact Ac.of (jM hE h)
  rw [UK hl]
  by_cases h3:lvl e=3
  · obtain ⟨o,n,u,ns,ks,al⟩:=e
    obtain ⟨ho,hu⟩:=bX (by omega) (by omega:lvl (.mk o n u ns ks al)≤3)
    rw [h3] at hu
    obtain ⟨a,b,he,ha,hb,_,_⟩:=YM h ho
    rw [he,dB,hu]
    rw [he] at hs
    have hsz:a.size≤s:=by simp only [Gu,exN,Ex.size,Ex.BK] at hs;omega
    have hu3:u=3∨u=4∨u=5:=by
     unfold EN at hu;split at hu
     · omega
     · split at hu<;>omega
    refine Ac.step (dL s a N hE hsz ha) (fun m=>?_) (by simp) (fun k hk=>?_)
    · rw [JO]
      rcases hu3 with rfl|rfl|rfl
      · exact Gs.Bz 5 (Gs.last (f:=fun b=>JO E m (Gu 3 a b)) (dN (hE.mono (by omega)) hb))
      · exact Gs.BR (fun k _=>by simp [hdT,opT,TZ]) (Gs.Bz 5 (Gs.last (f:=fun b=>JO E m (Gu 4 a b)) (dN (hE.mono (by omega)) hb)))
      · exact Gs.BR (fun k _=>by simp [hdT,opT,TZ]) (Gs.BR (fun k _=>by simp [hdT,opT,TZ]) (Gs.Bz 5 (Gs.last (f:=fun b=>JO E m (Gu 5 a b)) (dN (hE.mono (by omega)) hb))))
    · rcases hu3 with rfl|rfl|rfl<;>simp [hdT,opT,TZ]
  · have:=dN hE h
    rw [UK (by omega)] at this
    exact Ac.of this
theorem aI {e:Ex} (hE:HE E N) (h:e.nb):Rd N (LF E) e (plK 3 e (tkE e)) (noT sPr):=(dL e.size e N hE (A7 _) h).fin (fun k hk=>Mv hk (by decide)) (fun n r p hk=>WN n e r p hk)
theorem nQ {e:Ex} (hE:HE E N) (h:e.nb):Rd N (LF E) e (HN (tkE e)) (noT sPr):=(Ac.of (jM hE h)).fin (fun k hk=>Mv hk (by decide)) (fun n r p hk=>WN n e r p hk)
theorem jL:∀(s:Nat) (e:Ex) (N:Nat),HE E N→e.size≤s→e.nb→Ac N (KM E) (Rf E) e (plK 2 e (tkE e)) (noT sPr)
 |0,e,_,_,hs,_=>by have:=e.size_pos;omega
 |s+1,e,N,hE,hs,h=>by
  rcases Dz (lvl e) 2 with hl|hl
  · rw [cE hl];exact Ac.of (nQ hE h)
  rw [UK hl]
  by_cases h2:lvl e=2
  · obtain ⟨o,n,u,ns,ks,al⟩:=e
    obtain ⟨ho,hu⟩:=bX (by omega) (by omega:lvl (.mk o n u ns ks al)≤3)
    rw [h2] at hu
    obtain ⟨a,b,he,ha,hb,_,_⟩:=YM h ho
    rw [he,dB,hu]
    rw [he] at hs
    have hsz:a.size≤s:=by simp only [Gu,exN,Ex.size,Ex.BK] at hs;omega
    have hu3:u=1∨u=2:=by
     unfold EN at hu;split at hu
     · omega
     · split at hu<;>omega
    refine Ac.step (jL s a N hE hsz ha) (fun m=>?_) (by simp) (fun k hk=>?_)
    · rw [Rf]
      rcases hu3 with rfl|rfl
      · exact Gs.Bz 5 (Gs.last (f:=fun b=>Rf E m (Gu 1 a b)) (aI (hE.mono (by omega)) hb))
      · exact Gs.BR (fun k _=>by simp [hdT,opT,TZ]) (Gs.Bz 5 (Gs.last (f:=fun b=>Rf E m (Gu 2 a b)) (aI (hE.mono (by omega)) hb)))
    · rcases hu3 with rfl|rfl
      · show sPr.contains [43]=false;decide
      · show sPr.contains [45]=false;decide
  · have:=aI hE h
    rw [UK (by omega)] at this
    exact Ac.of this
theorem ZB {e:Ex} (hE:HE E N) (h:e.nb):Rd N (KM E) e (plK 2 e (tkE e)) (noT sSu):=(jL e.size e N hE (A7 _) h).fin (fun k hk=>TY (by decide) hk) (fun n r p hk=>jC n e r p hk)
theorem rM {e:Ex} (hE:HE E N) (h:e.nb) (hl:1≤lvl e):Rd N (Ud E) e (tkE e) (noT sEx):=by
 by_cases h1:lvl e=1
 · obtain ⟨o,n,u,ns,ks,al⟩:=e
   obtain ⟨ho,hu⟩:=bX (by omega) (by omega:lvl (.mk o n u ns ks al)≤3)
   rw [h1] at hu
   obtain ⟨a,b,he,ha,hb,g1,g2⟩:=YM h ho
   rw [he,dB,hu]
   have hu3:u=6∨u=7∨u=8:=by
    unfold EN at hu;split at hu
    · omega
    · split at hu<;>omega
   refine Rd.bind (ZB hE ha) ?_ (fun k hk=>?_)
   · rcases hu3 with rfl|rfl|rfl
     · exact Rd.Bz 5 (Rd.map (fun b=>Gu 6 a b) ((ZB (hE.mono (by omega)) hb).imp (fun k hk=>TY (by decide) hk)))
     · exact Rd.BR (fun k _=>by simp [hdT,opT,TZ]) (Rd.Bz 5 (Rd.map (fun b=>Gu 7 a b) ((ZB (hE.mono (by omega)) hb).imp (fun k hk=>TY (by decide) hk))))
     · exact Rd.BR (fun k _=>by simp [hdT,opT,TZ]) (Rd.BR (fun k _=>by simp [hdT,opT,TZ]) (Rd.Bz 5 (Rd.map (fun b=>Gu 8 a b) ((ZB (hE.mono (by omega)) hb).imp (fun k hk=>TY (by decide) hk)))))
   · rcases hu3 with rfl|rfl|rfl
     · show sSu.contains [60]=false;decide
     · show sSu.contains [60,61]=false;decide
     · show sSu.contains [61,61]=false;decide
 · have hs:=ZB hE h
   rw [UK (by omega)] at hs
   have:=Rd.bind (K:=noT sEx) (k2:=[]) (f:=fun a=>Dq [60] ((KM E).bind fun b=>.pure (Gu 6 a b)) <|Dq [60,61] ((KM E).bind fun b=>.pure (Gu 7 a b)) <|Dq [61,61] ((KM E).bind fun b=>.pure (Gu 8 a b)) <| .pure a) hs (Rd.BR (fun k hk=>Mv hk (by decide)) (Rd.BR (fun k hk=>Mv hk (by decide)) (Rd.BR (fun k hk=>Mv hk (by decide)) (Rd.pure e)))) (fun k hk=>TY (by decide) hk)
   rw [A1] at this
   exact this
theorem uS (hE:HE E N) {a:Al} (h:a.nb) (ha:SP a=true):Rd N (cC E) a (tkA a) (noT sEx):=by
 by_cases hN:N=0
 · subst hN;cases a;exact IC (by simp [tkA,tQ])
 obtain ⟨c,vs,b⟩:=a
 rw [Al.nb] at h
 simp only [SP,AK] at ha
 rw [tkA,tQ]
 exact Rd.CM (K1:=fun _=>True) (Rd.take c) (Rd.bind (V3 (Kr:=fun _=>True) (fun _=>trivial) (fun _=>trivial) vs (fun s hs M _=>Pt (A4.1 ha.2 s hs))) (Rd.CM (K1:=fun _=>True) (Rd.exp 5) (Rd.map (fun x=>Al.mk c vs x) (hE b h _ (by omega))) (fun _ _=>trivial)) (fun k _ _=>by simp [hdT])) (fun _ _=>trivial)
theorem tL {s:Str} (h:Gi s=true) (k:List KT):hdT (shK s++k)≠[40]:=by
 unfold shK
 split
 · simp [hdT]
 · rename_i e
   simp only [Gi,BJ,beq_iff_eq] at h
   exact Mi (UE (h.resolve_left e)) (by decide)
theorem SF (k:List KT) (t:Str) (h:sEx.contains t=false) (q:Int):noT sEx ((q,t)::k):=h
end
theorem rE:∀(n N:Nat),N≤n→∀e:Ex,e.nb→Rd N (Bq n) e (tkE e) (noT sEx)
 |0,N,hN,e,h=>by
  have:N=0:=by omega
  subst this
  exact IC (dY h)
 |n+1,N,hN,e,h=>by
  by_cases hN0:N=0
  · subst hN0;exact IC (dY h)
  have hE:HE (Bq n) N:=fun x hx M hM=>rE n M (by omega) x hx
  rw [Bq]
  by_cases hl:1≤lvl e
  · obtain ⟨q,x,l,e1,_,e2⟩:=sJ h
    have hne:∀t∈opens,∀k:List KT,hdT (tkE e++k)≠t:=fun t ht k=>by
     rw [(bL e1 k).1]
     intro e3
     have:=e2 hl
     rw [e3,D4] at this
     simp [ht] at this
    exact Rd.BR (fun k _=>hne _ (by decide) k) (Rd.BR (fun k _=>hne _ (by decide) k) (Rd.BR (fun k _=>hne _ (by decide) k) (Rd.BR (fun k _=>hne _ (by decide) k) (Rd.BR (fun k _=>hne _ (by decide) k) (rM hE h hl)))))
  have h0:lvl e=0:=by omega
  obtain ⟨o,nm,u,ns,ks,al⟩:=e
  obtain ⟨hnm,hnu,hns,has,hnk,hk,hal⟩:=Ya h
  have hN1:HE (Bq n) (N - 1):=hE.mono (by omega)
  rw [tkE,MO,MN]
  rcases wM h0 with rfl|rfl|rfl|rfl|rfl|rfl
  · obtain ⟨a,b,rfl⟩:=R7 (by simpa [nkB] using hnk)
    simp [nmB,nuB,nsB,asB] at hnm hnu hns has
    subst hnu hns has
    refine Rd.Bz 4 ?_
    unfold Zh
    refine Rd.BR (fun k _=>by rw [AS];exact tL hnm _) ?_
    exact Rd.bind (Pt (K:=fun _=>True) hnm) (Rd.CM (K1:=fun _=>True) (Rd.exp 5) (Rd.bind (hE a (hk a (by simp)) _ (by omega)) (Rd.CM (K1:=fun _=>True) (Rd.exp 4) (Rd.map (fun y=>Ex.mk 7 nm 0 [] [a,y] []) (hE b (hk b (by simp)) _ (by omega))) (fun _ _=>trivial)) (fun k _=>SF _ [105,110] (by decide) 4)) (fun _ _=>trivial)) (fun _ _=>trivial)
  · obtain ⟨a,b,rfl⟩:=R7 (by simpa [nkB] using hnk)
    simp [nmB,nuB,asB] at hnm hnu has
    subst hnm hnu has
    simp only [nsB,if_true,AK,decide_eq_true_eq,A4] at hns
    obtain ⟨⟨h2,_⟩,hb⟩:=hns
    match ns,h2,hb with
    |x::y::l,_,hb=>
     have hs:tkN 8 [] 0 (x::y::l) [a,b] ([a,b].map tkE) ([].map tkA)=(4,[108,101,116])::(5,[40])::(shK x++((5,[44])::((cmK ((y::l).map shK)++[(5,[41])])++((5,[61])::(tkE a++((4,[105,110])::tkE b)))))):=by
      show (4,[108,101,116])::(HN (cmK (shK x::shK y::l.map shK))++((5,[61])::(tkE a++((4,[105,110])::tkE b))))=_
      rw [RB,HN];simp
     rw [hs]
     refine Rd.Bz 4 ?_
     unfold Zh
     refine Rd.Bz 5 ?_
     exact Rd.bind (Pt (K:=fun _=>True) (hb x (by simp))) (Rd.CM (K1:=fun _=>True) (Rd.exp 5) (Rd.bind (NM (K:=fun _=>True) (g:=shK) (Kr:=fun _=>True) (fun _=>trivial) (fun _=>trivial) (by simp) (fun z hz M _=>Pt (hb z (Ae _ hz)))) (Rd.CM (K1:=fun _=>True) (Rd.exp 5) (Rd.bind (hE a (hk a (by simp)) _ (by omega)) (Rd.CM (K1:=fun _=>True) (Rd.exp 4) (Rd.map (fun q=>Ex.mk 8 [] 0 (x::y::l) [a,q] []) (hE b (hk b (by simp)) _ (by omega))) (fun _ _=>trivial)) (fun k _=>SF _ [105,110] (by decide) 4)) (fun _ _=>trivial)) (fun _ _=>trivial)) (fun _ _=>trivial)) (fun _ _=>trivial)
  · obtain ⟨a,b,c,rfl⟩:=bT (by simpa [nkB] using hnk)
    simp [nmB,nuB,nsB,asB] at hnm hnu hns has
    subst hnm hnu hns has
    refine Rd.BR (fun k _=>by simp [tkN,hdT]) (Rd.Bz 4 ?_)
    exact Rd.bind (hE a (hk a (by simp)) _ (by omega)) (Rd.CM (K1:=fun _=>True) (Rd.exp 4) (Rd.bind (hE b (hk b (by simp)) _ (by omega)) (Rd.CM (K1:=fun _=>True) (Rd.exp 4) (Rd.map (fun q=>exN 9 0 [a,b,q]) (hE c (hk c (by simp)) _ (by omega))) (fun _ _=>trivial)) (fun k _=>SF _ [101,108,115,101] (by decide) 4)) (fun _ _=>trivial)) (fun k _=>SF _ [116,104,101,110] (by decide) 4)
  · obtain ⟨a,rfl⟩:=Uw (by simpa [nkB] using hnk)
    simp [nmB,nuB,nsB] at hnm hnu hns
    subst hnm hnu hns
    have haa:=aR has
    have hne:al≠[]:=by rintro rfl;simp [asB] at has
    iterate 2 refine Rd.BR (fun k _=>by simp [tkN,hdT]) ?_
    refine Rd.Bz 4 ?_
    exact Rd.bind (hE a (hk a (by simp)) _ (by omega)) (Rd.CM (K1:=fun _=>True) (Rd.exp 4) (Rd.bind (V2 (g:=tkA) (Kr:=noT sEx) (fun k=>SF k [124] (by decide) 5) hne (fun x hx M hM=>uS (hE.mono (by omega)) (hal x hx) (haa x hx))) (Rd.CM (K1:=fun _=>True) (Rd.exp 4) (Rd.pure _) (fun _ _=>trivial)) (fun k _=>⟨SF _ [101,110,100] (by decide) 4,by simp [hdT]⟩)) (fun _ _=>trivial)) (fun k _=>SF _ [119,105,116,104] (by decide) 4)
  · obtain ⟨a,rfl⟩:=Uw (by simpa [nkB] using hnk)
    simp [nmB,nuB,asB] at hnm hnu has
    subst hnm hnu has
    simp [nsB] at hns
    iterate 3 refine Rd.BR (fun k _=>by simp [tkN,hdT]) ?_
    refine Rd.Bz 4 ?_
    exact Rd.CM (K1:=fun _=>True) (Rd.exp 5) (Rd.bind (K1:=fun _=>True) (YJ (Kr:=fun _=>True) (g:=fun s=>[(1,s)]) (fun _=>trivial) (fun _=>trivial) ns (fun s hs M _=>Rd.take s) (fun s hs k=>Mi (UE (hns.2 s hs)) (by decide))) (Rd.CM (K1:=fun _=>True) (Rd.exp 5) (Rd.map (fun q=>Ex.mk 11 [] 0 ns [q] []) (hE a (hk a (by simp)) _ (by omega))) (fun _ _=>trivial)) (fun _ _=>trivial)) (fun _ _=>trivial)
  · obtain ⟨a,b,rfl⟩:=R7 (by simpa [nkB] using hnk)
    simp [nmB,nuB,nsB,asB] at hnm hnu hns has
    subst hnu hns has
    iterate 4 refine Rd.BR (fun k _=>by simp [tkN,hdT]) ?_
    refine Rd.Bz 4 ?_
    exact Rd.bind (hE a (hk a (by simp)) _ (by omega)) (Rd.CM (K1:=fun _=>True) (Rd.exp 4) (Rd.bind (Pt (K:=fun _=>True) hnm) (Rd.CM (K1:=fun _=>True) (Rd.exp 5) (Rd.bind (hE b (hk b (by simp)) _ (by omega)) (Rd.CM (K1:=fun _=>True) (Rd.exp 4) (Rd.pure _) (fun _ _=>trivial)) (fun k _=>SF _ [101,110,100] (by decide) 4)) (fun _ _=>trivial)) (fun _ _=>trivial)) (fun _ _=>trivial)) (fun k _=>SF _ [99,97,116,99,104] (by decide) 4)
theorem Rd.sR {α:Type} {k0:Int} {y n:PM α} {a:α} {ks:List KT} (hn:∀k,K k→hdK (ks++k)=k0) (h:Rd N y a ks K):Rd N (.kind k0 y n) a ks K:=fun r p k hN hL hs hk=>by
 have hh:=(Fu hs).2
 have e:(PM.kind k0 y n).run ⟨r,false,p⟩=y.run ⟨r,false,p⟩:=if_pos (by rw [PSt.hd,hh];simpa using hn k hk)
 rw [e];exact h r p k hN hL hs hk
theorem rO {f:FE} (h:Mc f=true) (hb:f.body.nb) (hN:N≤BB):Rd N XV f ((1,f.name)::(Kg (f.params.map fun s=>[(1,s)])++((5,[61])::(tkE f.body++[(5,[59])])))) K:=by
 simp only [Mc,AK,A4] at h
 exact Rd.CM (K1:=fun _=>True) (Rd.take f.name) (Rd.CM (K1:=fun _=>True) (Rd.exp 5) (Rd.bind (K1:=fun _=>True) (YJ (Kr:=fun _=>True) (g:=fun s=>[(1,s)]) (fun _=>trivial) (fun _=>trivial) f.params (fun s hs M _=>Rd.take s) (fun s hs k=>Mi (UE (h.2 s hs)) (by decide))) (Rd.CM (K1:=fun _=>True) (Rd.exp 5) (Rd.bind (rE BB _ (by omega) f.body hb) (Rd.CM (K1:=fun _=>True) (Rd.exp 5) (Rd.pure _) (fun _ _=>trivial)) (fun k _=>SF _ [59] (by decide) 5)) (fun _ _=>trivial)) (fun _ _=>trivial)) (fun _ _=>trivial)) (fun _ _=>trivial)
theorem ZD:∀(l:List FE) (n N:Nat) (ds:List DE) (fs:List FE),l.length≤n→N≤BB→(∀f∈l,Mc f=true∧f.body.nb)→Rd N (LG n ds fs) ⟨ds,fs++l⟩ (l.map tkF).flatten (fun k=>hdK k=6)
 |[],0,N,ds,fs,_,_,_=>by rw [A1];exact Rd.pure _
 |[],n+1,N,ds,fs,_,_,_=>by
  rw [A1,LG]
  exact Rd.sR (fun k hk=>hk) (Rd.pure _)
 |f::l,0,N,ds,fs,h,_,_=>by simp at h
 |f::l,n+1,N,ds,fs,h,hN,hf=>by
  have ih:=ZD l n (N - 1 - (((1,f.name)::(Kg (f.params.map fun s=>[((1:Int),s)])++((5,[61])::(tkE f.body++[(5,[59])]))):List KT)).length) ds (fs++[f]) (by simp at h;omega) (by omega) (fun x hx=>hf x (Ae _ hx))
  rw [AS] at ih
  rw [LG,AE,CZ,tkF,AX]
  refine Rd.CN (fun k _=>by simp [hdK]) (Rd.BR (fun k _=>by simp [hdT]) (Rd.Bz 4 ?_))
  exact Rd.bind (K1:=fun _=>True) (rO (hf f (A9 ..)).1 (hf f (A9 ..)).2 (by omega)) ih (fun _ _=>trivial)
theorem ZC (gs:List FE) (hg:∀f∈gs,Mc f=true∧f.body.nb):∀(l:List DE) (n N:Nat) (ds:List DE),l.length+gs.length≤n→N≤BB→(∀d∈l,IT d=true)→Rd N (LG n ds []) ⟨ds++l,gs⟩ ((l.map tkD).flatten++(gs.map tkF).flatten) (fun k=>hdK k=6)
 |[],n,N,ds,h,hN,_=>by
  have:=ZD gs n N ds [] (by simpa using h) hN hg
  rw [A1]
  exact this
 |d::l,0,N,ds,h,_,_=>by simp at h
 |d::l,n+1,N,ds,h,hN,hf=>by
  have ih:=ZC gs hg l n (N - 1 - (((2,d.name)::(T0 (d.vars.map fun s=>[((1:Int),s)])++((5,[61])::([((5:Int),[124])].intercalate (d.cons.map tkC)++[(5,[59])]))):List KT)).length) (ds++[d]) (by simp at h;omega) (by omega) (fun x hx=>hf x (Ae _ hx))
  rw [AS] at ih
  rw [LG,AE,CZ,tkD,AX,AX,AS]
  refine Rd.CN (fun k _=>by simp [hdK]) (Rd.Bz 4 ?_)
  exact Rd.bind (K1:=fun _=>True) (nR (hf d (A9 ..)) (by omega)) ih (fun _ _=>trivial)
theorem WG {p:Pg} (h:EW p=true) (hl:(Up p).length≤16384):Ea (Up p)=(p,0,0):=by
 obtain ⟨h1,h2⟩:=iW (lI h) hl
 obtain ⟨w,o⟩:=Wb h1
 obtain ⟨n1,n2⟩:=aC h
 have hv:=h
 simp only [EW,AK,decide_eq_true_eq] at hv
 have hf:=FC
 have e:=ZC p.S3 n2 p.data BB BB [] (by omega) (A7 _) n1 (BF (Up p)).1 0 [(6,[])] (by have:=o.1;omega) o.1 h2 rfl
 rw [A6] at e
 unfold Ea KO
 rw [if_neg (by rw [h1];simp),e]
 simp only [AY,if_false,h,if_true]
end Go.Ab
namespace Go.Ab
theorem jV {p:UInt8→Bool}:∀ {l:Str},∀x∈l.takeWhile p,p x=true
 |[],x,h=>by cases h
 |b::l,x,h=>by
  rw [Ev] at h
  split at h
  · rename_i hb
    rcases By.1 h with rfl|h
    · exact hb
    · exact jV x h
  · cases h
def XH (x:Pg×PSt):Pg×Nat×Int:=if x.2.f then (⟨[],[]⟩,x.2.p,2) else if EW x.1 then (x.1,0,0) else (⟨[],[]⟩,0,9)
theorem Oa {s:Str} (h:(BF s).2.2=0):Ea s=XH (KO.run ⟨(BF s).1,false,0⟩):=by
 unfold Ea XH
 rw [if_neg (by rw [h];simp)]
theorem gL {x y:Pg×PSt} (h1:x.1=y.1) (h2:x.2.f=y.2.f):(XH x).1=(XH y).1∧(XH x).2.2=(XH y).2.2:=by
 unfold XH
 rw [h1,h2]
 split
 · exact ⟨rfl,rfl⟩
 · split<;>exact ⟨rfl,rfl⟩
theorem Zk {s t:Str} (hs:(BF s).2.2=0) (ht:(BF t).2.2=0) (h:strip (BF s).1=strip (BF t).1):(Ea s).1=(Ea t).1∧(Ea s).2.2=(Ea t).2.2:=by
 obtain ⟨h1,_,h3⟩:=KO.pm ⟨(BF s).1,false,0⟩ ⟨(BF t).1,false,0⟩ h rfl
 rw [Oa hs,Oa ht]
 exact gL h1 h3
end Go.Ab
namespace Go.Ab
theorem mN (n:Nat) (ds:List DE) (fs:List FE) (s:PSt):(LG (n+1) ds fs).run s=
 if s.hd.kind==6 then (⟨ds,fs⟩,s)
                         else if s.hd.text==[100,97,116,97] then (LG n (ds++[(SG.run s.adv).1]) fs).run (SG.run s.adv).2
                         else if s.hd.text==[102,117,110] then (LG n ds (fs++[(XV.run s.adv).1])).run (XV.run s.adv).2
                         else (LG n ds fs).run s.fail:=rfl
theorem tV {s:PSt} (h:WF s.r) (hk:(s.hd.kind==6)=false):2≤s.r.length:=by
 obtain ⟨r,f,p⟩:=s
 match r,h,hk with
 |[t],h,hk=>
  have:(PSt.mk [t] f p).hd=t:=rfl
  rw [this,h.1] at hk;cases hk
 |t::u::l,_,_=>simp
theorem BN {s:PSt} (h:WF s.r):s.adv.r.length+1=s.r.length:=by
 obtain ⟨r,f,p⟩:=s
 cases r with
 |nil=>exact h.elim
 |cons t l=>rfl
theorem ZS {s:PSt} (h:WF s.r):s.fail.r.length=1:=by
 have:1≤s.r.length:=Ap.2 h.ne
 show (TT s.r).length=1
 unfold TT;rw [Ah];omega
theorem Zi {a:Str} (h:(Ea a).2.2=0):(BF a).2.2=0∧(KO.run ⟨(BF a).1,false,0⟩).2.f=false∧(Ea a).1=(KO.run ⟨(BF a).1,false,0⟩).1∧EW (Ea a).1=true:=by
 have h0:(BF a).2.2=0:=by
  apply Classical.byContradiction
  intro hne
  unfold Ea at h
  rw [if_pos hne] at h
  exact hne h
 rw [Oa h0] at h ⊢
 unfold XH at h ⊢
 split at h
 · cases h
 · rename_i hf
   rw [if_neg hf]
   split at h
   · rename_i hv
     rw [if_pos hv]
     exact ⟨h0,by simpa using hf,rfl,hv⟩
   · cases h
end Go.Ab
namespace Go.Ab
variable {α β:Type}
def SzO (c:Nat) (m:PM α) (μ:α→Nat):Prop:=∀s,WF s.r→(m.run s).2.f=false→μ (m.run s).1+(m.run s).2.r.length≤s.r.length+c
theorem SzO.pure {c:Nat} {a:α} {μ:α→Nat} (h:μ a≤c):SzO c (.pure a) μ:=fun s _ _=>by
 show μ a+s.r.length≤s.r.length+c;omega
theorem SzO.bind {c:Nat} {m:PM α} {f:α→PM β} {μ:α→Nat} {ν:β→Nat} (h:SzO 0 m μ) (hf:∀a,SzO (c+μ a) (f a) ν):SzO c (m.bind f) ν:=fun s hw hs=>by
 have hs':((f (m.run s).1).run (m.run s).2).2.f=false:=hs
 have h1:(m.run s).2.f=false:=by
  cases hc:(m.run s).2.f with
  |false=>rfl
  |true=>have:=((f (m.run s).1).st _ hc).1;rw [hs'] at this;cases this
 have e1:=h s hw h1
 have e2:=hf (m.run s).1 (m.run s).2 (m.sf s hw).1 hs'
 show ν ((f (m.run s).1).run (m.run s).2).1+((f (m.run s).1).run (m.run s).2).2.r.length≤_
 omega
theorem SzO.acc {c:Nat} {t:Str} {ht:t≠[]} {y n:PM α} {μ:α→Nat} (hy:SzO (c+1) y μ) (hn:SzO c n μ):SzO c (.acc t ht y n) μ:=fun s hw hs=>by
 cases hc:s.hd.text==t with
 |true=>
  have e:(PM.acc t ht y n).run s=y.run s.adv:=if_pos hc
  rw [e] at hs ⊢
  have hk:s.hd.text≠[]:=by rw [beq_iff_eq] at hc;rw [hc];exact ht
  have h1:=hy s.adv (Qw hw (.inr hk)).1 hs
  have h2:=BN hw
  omega
 |false=>
  have e:(PM.acc t ht y n).run s=n.run s:=if_neg (by rw [hc];decide)
  rw [e] at hs ⊢
  exact hn s hw hs
theorem SzO.kind {c:Nat} {k:Int} {y n:PM α} {μ:α→Nat} (hy:SzO c y μ) (hn:SzO c n μ):SzO c (.kind k y n) μ:=fun s hw hs=>by
 cases hc:s.hd.kind==k with
 |true=>
  have e:(PM.kind k y n).run s=y.run s:=if_pos hc
  rw [e] at hs ⊢
  exact hy s hw hs
 |false=>
  have e:(PM.kind k y n).run s=n.run s:=if_neg (by rw [hc];decide)
  rw [e] at hs ⊢
  exact hn s hw hs
theorem SzO.fail {c:Nat} {a:α} {μ:α→Nat}:SzO c (.fail a) μ:=fun s _ h=>by cases h
theorem SzO.tok {cc:Int→Str→Bool} {hc:∀k t,cc k t=true→k≠6∨t≠[]} {g:Str→α} {b:α}:SzO 0 (.tok cc hc g b) (fun _=>1):=fun s hw hs=>by
 cases hcc:cc s.hd.kind s.hd.text with
 |true=>
  have e:(PM.tok cc hc g b).run s=(g s.hd.text,s.adv):=if_pos hcc
  rw [e]
  have h2:=BN hw
  show 1+s.adv.r.length≤_
  omega
 |false=>
  have e:(PM.tok cc hc g b).run s=(b,s.fail):=if_neg (by rw [hcc];decide)
  rw [e] at hs
  cases hs
theorem SzO.mono {c:Nat} {m:PM α} {μ ν:α→Nat} (h:SzO c m μ) (hl:∀a,ν a≤μ a):SzO c m ν:=fun s hw hs=>by
 have:=h s hw hs;have:=hl (m.run s).1;omega
def D8 (μ:α→Nat) (l:List α):Nat:=(l.map μ).sum
theorem Zw (μ:α→Nat) (l m:List α):D8 μ (l++m)=D8 μ l+D8 μ m:=by simp [D8]
theorem Wi (μ:α→Nat) (x:α):D8 μ [x]=μ x:=by simp [D8]
theorem T9 {μ:α→Nat} {l:List α} {x:α} (h:x∈l):μ x≤D8 μ l:=by
 induction l with
 |nil=>cases h
 |cons y l ih=>
  simp only [D8,AE,List.sum_cons] at ih ⊢
  rcases By.1 h with rfl|h
  · omega
  · have:=ih h;omega
theorem Wj {read:PM α} {t:Str} {ht:t≠[]} {μ:α→Nat} (h:SzO 0 read μ):∀(n c:Nat) (l:List α),D8 μ l≤c→SzO c (Dw read t ht n l) (D8 μ)
 |0,c,l,hl=>SzO.pure hl
 |n+1,c,l,hl=>SzO.acc (SzO.bind h (fun a=>Wj h n _ _ (by rw [Zw,Wi];omega))) (SzO.pure hl)
theorem Xz {read:PM α} {t:Str} {ht:t≠[]} {μ:α→Nat} (h:SzO 0 read μ):SzO 0 (items read t ht) (D8 μ):=
 SzO.bind h (fun a=>Wj h _ _ _ (by rw [Wi];omega))
theorem Mg {t:Str} {ht:t≠[]}:SzO 0 (.exp t ht) (fun _=>1):=SzO.tok
theorem Qq {k:Int} {hk:k≠6}:SzO 0 (.take k hk) (fun _=>1):=SzO.tok
theorem Sj {read:PM α} {μ:α→Nat} (h:SzO 0 read μ):SzO 0 (listed read) (D8 μ):=SzO.bind (Xz h) (fun a=>SzO.bind Mg (fun _=>SzO.pure (by omega)))
theorem cZ {read:PM α} {μ:α→Nat} (h:SzO 0 read μ):SzO 0 (closed read) (D8 μ):=SzO.acc (SzO.pure (by simp [D8])) (Sj h)
theorem Wk {read:PM α} {μ:α→Nat} (h:SzO 0 read μ):SzO 0 (H9 read) (D8 μ):=SzO.acc (fun s hw hs=>by have:=Sj h s hw hs;omega) (SzO.pure (by simp [D8]))
theorem Nw:∀l:List TE,TE.BK l=D8 TE.size l
 |[]=>rfl
 |t::l=>by rw [TE.BK,Nw l];simp [D8]
theorem fC:∀n,SzO 0 (FT n) TE.size
 |0=>SzO.fail
 |n+1=>by
  have ih:=fC n
  have hel:∀k,SzO 1 (Q5 k (FT n)) TE.size:=fun k=>SzO.bind Mg (fun _=>SzO.bind ih (fun t=>SzO.bind Mg (fun _=>SzO.pure (by simp [TE.size,TE.BK];omega))))
  rw [FT]
  refine SzO.kind (SzO.bind Qq (fun x=>SzO.pure (by simp [TE.size,TE.BK]))) ?_
  refine SzO.kind (SzO.bind Qq (fun x=>SzO.bind (Wk ih) (fun l=>SzO.pure (by rw [TE.size,Nw];omega)))) ?_
  refine SzO.acc (SzO.pure (by simp [TE.size,TE.BK])) (SzO.acc (SzO.pure (by simp [TE.size,TE.BK])) (SzO.acc (SzO.pure (by simp [TE.size,TE.BK])) (SzO.acc (hel 7) (SzO.acc (hel 8) (SzO.acc ?_ (SzO.acc ?_ SzO.fail))))))
  · exact SzO.bind ih (fun a=>SzO.bind Mg (fun _=>SzO.bind (Sj ih) (fun l=>SzO.pure (by rw [TE.size,TE.BK,Nw];omega))))
  · exact SzO.bind Mg (fun _=>SzO.bind (cZ ih) (fun l=>SzO.bind Mg (fun _=>SzO.bind ih (fun t=>SzO.pure (by rw [TE.size,TE.Eg,TE.BK,TE.BK,Nw];omega)))))
def j4 (c:CE):Nat:=D8 TE.size c.args
def bH (d:DE):Nat:=D8 j4 d.cons
theorem qE:SzO 0 Zg j4:=SzO.bind Qq (fun c=>SzO.bind (Wk (fC _)) (fun l=>SzO.pure (by show D8 TE.size l≤_;omega)))
theorem nE:SzO 0 SG bH:=SzO.bind Qq (fun c=>SzO.bind (Wk (μ:=fun _=>0) (Qq.mono (fun _=>by omega))) (fun l=>SzO.bind Mg (fun _=>SzO.bind (Xz qE) (fun cs=>SzO.bind Mg (fun _=>SzO.pure (by show D8 j4 cs≤_;omega))))))
theorem zro (m:PM α):SzO 0 m (fun _=>0):=fun s hw _=>by have:=(m.sf s hw).2.length_le;simp only;omega
theorem Ta:∀(n c:Nat) (ds:List DE) (fs:List FE),D8 bH ds≤c→SzO c (LG n ds fs) (fun p=>D8 bH p.data)
 |0,c,ds,fs,h=>SzO.pure h
 |n+1,c,ds,fs,h=>by
  rw [LG]
  exact SzO.kind (SzO.pure h) (SzO.acc (SzO.bind nE (fun d=>Ta n _ _ _ (by rw [Zw,Wi];omega))) (SzO.acc (SzO.bind (zro XV) (fun f=>Ta n _ _ _ (by omega))) (SzO.bind (zro (PM.fail ())) (fun _=>Ta n _ _ _ (by omega)))))
theorem Ug {r:List Tok} {p:Nat} (hw:WF r) (hl:r.length≤17000) (hf:(KO.run ⟨r,false,p⟩).2.f=false):∀d∈(KO.run ⟨r,false,p⟩).1.data,∀c∈d.cons,∀t∈c.args,t.size≤17000:=by
 have h:=Ta BB 0 [] [] (by simp [D8]) ⟨r,false,p⟩ hw hf
 intro d hd c hc t ht
 have h1:t.size≤j4 c:=T9 ht
 have h2:j4 c≤bH d:=T9 hc
 have h3:bH d≤D8 bH (KO.run ⟨r,false,p⟩).1.data:=T9 hd
 have h4:D8 bH (KO.run ⟨r,false,p⟩).1.data+(KO.run ⟨r,false,p⟩).2.r.length≤r.length+0:=h
 omega
end Go.Ab
