/- Reading the tokens of a formatted text back, in plain data: levels, programs. Blanks between tokens, and texts in a row: their tokens, in plain data. Conditions: none. -/
import Derived.Test.YtifplkldbbcldaaGreatDoorXQj
set_option linter.unusedSimpArgs false
set_option linter.unusedVariables false
set_option maxRecDepth 4000
set_option maxHeartbeats 8000000
open Nat renaming zero_le→CC,lt_or_ge→EN,le_refl→A7,le_one_iff_eq_zero_or_eq_one→GR
open List renaming length→Mf,length_append→AA,length_pos_iff→Aq,mem_cons_self→A9,mem_cons_of_mem→Ae,append_nil→A0,all_eq_true→A4,contains_eq_mem→Dd,append_assoc→AR,map_cons→AE,flatten_cons→C1,cons_append→AU,nil_append→A6,takeWhile_cons→B8,mem_cons→Bm,length_cons→AD,length_drop→Ad,take_append_drop→DL,length_take→BU,map_append→B1
open Bool renaming and_eq_true→AK,or_eq_true→BE,false_eq_true→AY,or_eq_false_iff→GP
open Except.ok renaming injEq→D2
open Prod.mk renaming injEq→BH
namespace Go.Ab
variable {N:Nat} {K:List KT→Prop}
theorem fN (u:Int):EY u≤3:=by
 unfold EY;split
 · omega
 · split<;>omega
def iW (o u:Int):Nat:=if o=7∨o=8∨o=9∨o=10∨o=11∨o=17 then 0 else if o=13 then EY u else if o=12 then 4 else 5
theorem Yk {o u:Int} {n:Str} {ns:List Str} {ks:List Ex} {al:List Al}:lvl (.mk o n u ns ks al)=iW o u:=rfl
theorem RS (o u:Int):((o=7∨o=8∨o=9∨o=10∨o=11∨o=17)∧iW o u=0)∨(o=13∧iW o u=EY u)∨(o=12∧iW o u=4)∨iW o u=5:=by
 unfold iW
 split
 · rename_i h;exact .inl ⟨h,rfl⟩
 · split
   · rename_i h;exact .inr (.inl ⟨h,rfl⟩)
   · split
     · rename_i h;exact .inr (.inr (.inl ⟨h,rfl⟩))
     · exact .inr (.inr (.inr rfl))
theorem uB (e:Ex):lvl e≤5:=by
 obtain ⟨o,n,u,ns,ks,al⟩:=e
 have:=fN u
 have:=RS o u
 rw [Yk];omega
theorem xH {o u:Int} {n:Str} {ns:List Str} {ks:List Ex} {al:List Al} (h:lvl (.mk o n u ns ks al)=4):o=12:=by
 have:=fN u
 have:=RS o u
 rw [Yk] at h;omega
theorem cN {o u:Int} {n:Str} {ns:List Str} {ks:List Ex} {al:List Al} (h:1≤lvl (.mk o n u ns ks al)) (h2:lvl (.mk o n u ns ks al)≤3):o=13∧EY u=lvl (.mk o n u ns ks al):=by
 have:=RS o u
 rw [Yk] at *;omega
theorem xG {o u:Int} {n:Str} {ns:List Str} {ks:List Ex} {al:List Al} (h:lvl (.mk o n u ns ks al)=0):o=7∨o=8∨o=9∨o=10∨o=11∨o=17:=by
 have:=Zu u
 have:=RS o u
 rw [Yk] at h;omega
theorem cX {d:Nat} {e:Ex} {t:List KT} (h:lvl e < d):plK d e t=HV t:=if_pos h
theorem UW {d:Nat} {e:Ex} {t:List KT} (h:d≤lvl e):plK d e t=t:=if_neg (by omega)
theorem uH {d:Nat} {e:Ex} (h:e.nb):plK d e (tkE e)≠[]:=by
 unfold plK;split
 · simp [HV]
 · exact eS h
theorem Ac.zero {m:PM Ex} {c:Nat→Ex→PM Ex} {e:Ex} {ks:List KT} (h:ks≠[]):Ac 0 m c e ks K:=⟨0,CC _,fun r p k h1 _ hs _=>by
 have:=congrArg Mf hs
 rw [OH,AA] at this
 have:=Aq.2 h
 omega⟩
section
variable {E:PM Ex}
theorem j5:∀(s:Nat) (e:Ex) (N:Nat),HE E N→e.size≤s→e.nb→Ac N (Pc E) (SY E) e (plK 4 e (tkE e)) (fun k=>Lh e=true→hdT k≠[40])
 |0,e,_,_,hs,_=>by have:=e.size_pos;omega
 |s+1,e,N,hE,hs,h=>by
  by_cases hN:N=0
  · subst hN;exact Ac.zero (uH h)
  rcases EN (lvl e) 4 with hl|hl
  · rw [cX hl];exact Ac.of (Vf hE h)
  rw [UW hl]
  by_cases h5:lvl e=5
  · exact Ac.of (oL hE h h5)
  have h4:lvl e=4:=by have:=uB e;omega
  obtain ⟨o,n,u,ns,ks,al⟩:=e
  have:=xH h4
  subst this
  obtain ⟨hnm,hnu,hns,has,hnk,hk,-⟩:=Ym h
  simp [nmB,nuB,nsB,asB,nkB] at hnm hnu hns has hnk
  subst hnm hnu hns has
  cases ks with
  |nil=>simp at hnk
  |cons f l=>
   have hf:=hk f (A9 ..)
   rw [tkE,MT,MS]
   show Ac N (Pc E) (SY E) (.mk 12 [] 0 [] (f::l) []) ((if Lh f then HV (tkE f) else plK 4 f (tkE f))++Kn (l.map tkE)) _
   refine Ac.step (K1:=fun _=>True) (a:=f) ?_ (fun m=>?_) (by simp [Kn,HV]) (fun _ _=>trivial)
   · split
     · exact Ac.of (Vf hE hf)
     · rename_i hb
       exact (j5 s f N hE (by simp only [Ex.size,Ex.BN] at hs;omega) hf).imp (fun k _ hb'=>absurd hb' hb)
   · rw [SY,Kn,HV]
     refine Gs.CB 5 (Gs.last (f:=fun l=>SY E m (exN 12 0 (f::l))) (YX (Kr:=noT sEx) Vq W4 l (fun x hx M hM=>hE x (hk x (Ae _ hx)) M (by omega)) (fun x hx k=>lC (hk x (Ae _ hx)) k)))
theorem eG {e:Ex} (hE:HE E N) (h:e.nb):Rd N (Pc E) e (plK 4 e (tkE e)) (fun k=>hdT k≠[40]):=(j5 e.size e N hE (A7 _) h).fin (fun k hk _=>hk) (fun n r p hk=>Xi n e r p hk)
theorem j7 {e:Ex} (hE:HE E N) (h:e.nb):Rd N (Pc E) e (HV (tkE e)) (fun k=>hdT k≠[40]):=(Ac.of (K:=fun _=>True) (Vf hE h)).fin (fun _ _=>trivial) (fun n r p hk=>Xi n e r p hk)
theorem Y1 {o u:Int} {n:Str} {ns:List Str} {ks:List Ex} {al:List Al} (h:(Ex.mk o n u ns ks al).nb) (ho:o=13):∃a b,Ex.mk o n u ns ks al=HA u a b∧a.nb∧b.nb∧1≤u∧u≤8:=by
 subst ho
 obtain ⟨hnm,hnu,hns,has,hnk,hk,-⟩:=Ym h
 simp [nmB,nuB,nsB,asB,nkB] at hnm hnu hns has hnk
 subst hnm hns has
 obtain ⟨a,b,rfl⟩:=Re hnk
 exact ⟨a,b,rfl,hk a (by simp),hk b (by simp),hnu.1,hnu.2⟩
theorem dU {u:Int} {a b:Ex}:tkE (HA u a b)=plK (if EY u=1 then 2 else EY u) a (tkE a)++((5,opT u)::plK (if EY u=1 then 2 else EY u+1) b (tkE b)):=by
 show tkE (.mk 13 [] u [] [a,b] [])=_
 rw [tkE,MT,MS];rfl
theorem eE:∀(s:Nat) (e:Ex) (N:Nat),HE E N→e.size≤s→e.nb→Ac N (LK E) (JV E) e (plK 3 e (tkE e)) (fun k=>hdT k≠[40])
 |0,e,_,_,hs,_=>by have:=e.size_pos;omega
 |s+1,e,N,hE,hs,h=>by
  rcases EN (lvl e) 3 with hl|hl
  · rw [cX hl];exact Ac.of (j7 hE h)
  rw [UW hl]
  by_cases h3:lvl e=3
  · obtain ⟨o,n,u,ns,ks,al⟩:=e
    obtain ⟨ho,hu⟩:=cN (by omega) (by omega:lvl (.mk o n u ns ks al)≤3)
    rw [h3] at hu
    obtain ⟨a,b,he,ha,hb,_,_⟩:=Y1 h ho
    rw [he,dU,hu]
    rw [he] at hs
    have hsz:a.size≤s:=by simp only [HA,exN,Ex.size,Ex.BN] at hs;omega
    have hu3:u=3∨u=4∨u=5:=by
     unfold EY at hu;split at hu
     · omega
     · split at hu<;>omega
    refine Ac.step (eE s a N hE hsz ha) (fun m=>?_) (by simp) (fun k hk=>?_)
    · rw [JV]
      rcases hu3 with rfl|rfl|rfl
      · exact Gs.CB 5 (Gs.last (f:=fun b=>JV E m (HA 3 a b)) (eG (hE.mono (by omega)) hb))
      · exact Gs.BS (fun k _=>by simp [hdT,opT,T7]) (Gs.CB 5 (Gs.last (f:=fun b=>JV E m (HA 4 a b)) (eG (hE.mono (by omega)) hb)))
      · exact Gs.BS (fun k _=>by simp [hdT,opT,T7]) (Gs.BS (fun k _=>by simp [hdT,opT,T7]) (Gs.CB 5 (Gs.last (f:=fun b=>JV E m (HA 5 a b)) (eG (hE.mono (by omega)) hb))))
    · rcases hu3 with rfl|rfl|rfl<;>simp [hdT,opT,T7]
  · have:=eG hE h
    rw [UW (by omega)] at this
    exact Ac.of this
theorem aY {e:Ex} (hE:HE E N) (h:e.nb):Rd N (LK E) e (plK 3 e (tkE e)) (noT sPr):=(eE e.size e N hE (A7 _) h).fin (fun k hk=>NC hk (by decide)) (fun n r p hk=>W1 n e r p hk)
theorem oJ {e:Ex} (hE:HE E N) (h:e.nb):Rd N (LK E) e (HV (tkE e)) (noT sPr):=(Ac.of (j7 hE h)).fin (fun k hk=>NC hk (by decide)) (fun n r p hk=>W1 n e r p hk)
theorem j6:∀(s:Nat) (e:Ex) (N:Nat),HE E N→e.size≤s→e.nb→Ac N (KV E) (Rl E) e (plK 2 e (tkE e)) (noT sPr)
 |0,e,_,_,hs,_=>by have:=e.size_pos;omega
 |s+1,e,N,hE,hs,h=>by
  rcases EN (lvl e) 2 with hl|hl
  · rw [cX hl];exact Ac.of (oJ hE h)
  rw [UW hl]
  by_cases h2:lvl e=2
  · obtain ⟨o,n,u,ns,ks,al⟩:=e
    obtain ⟨ho,hu⟩:=cN (by omega) (by omega:lvl (.mk o n u ns ks al)≤3)
    rw [h2] at hu
    obtain ⟨a,b,he,ha,hb,_,_⟩:=Y1 h ho
    rw [he,dU,hu]
    rw [he] at hs
    have hsz:a.size≤s:=by simp only [HA,exN,Ex.size,Ex.BN] at hs;omega
    have hu3:u=1∨u=2:=by
     unfold EY at hu;split at hu
     · omega
     · split at hu<;>omega
    refine Ac.step (j6 s a N hE hsz ha) (fun m=>?_) (by simp) (fun k hk=>?_)
    · rw [Rl]
      rcases hu3 with rfl|rfl
      · exact Gs.CB 5 (Gs.last (f:=fun b=>Rl E m (HA 1 a b)) (aY (hE.mono (by omega)) hb))
      · exact Gs.BS (fun k _=>by simp [hdT,opT,T7]) (Gs.CB 5 (Gs.last (f:=fun b=>Rl E m (HA 2 a b)) (aY (hE.mono (by omega)) hb)))
    · rcases hu3 with rfl|rfl
      · show sPr.contains [43]=false;decide
      · show sPr.contains [45]=false;decide
  · have:=aY hE h
    rw [UW (by omega)] at this
    exact Ac.of this
theorem ZN {e:Ex} (hE:HE E N) (h:e.nb):Rd N (KV E) e (plK 2 e (tkE e)) (noT sSu):=(j6 e.size e N hE (A7 _) h).fin (fun k hk=>T6 (by decide) hk) (fun n r p hk=>jX n e r p hk)
theorem sH {e:Ex} (hE:HE E N) (h:e.nb) (hl:1≤lvl e):Rd N (Up E) e (tkE e) (noT sEx):=by
 by_cases h1:lvl e=1
 · obtain ⟨o,n,u,ns,ks,al⟩:=e
   obtain ⟨ho,hu⟩:=cN (by omega) (by omega:lvl (.mk o n u ns ks al)≤3)
   rw [h1] at hu
   obtain ⟨a,b,he,ha,hb,g1,g2⟩:=Y1 h ho
   rw [he,dU,hu]
   have hu3:u=6∨u=7∨u=8:=by
    unfold EY at hu;split at hu
    · omega
    · split at hu<;>omega
   refine Rd.bind (ZN hE ha) ?_ (fun k hk=>?_)
   · rcases hu3 with rfl|rfl|rfl
     · exact Rd.CB 5 (Rd.map (fun b=>HA 6 a b) ((ZN (hE.mono (by omega)) hb).imp (fun k hk=>T6 (by decide) hk)))
     · exact Rd.BS (fun k _=>by simp [hdT,opT,T7]) (Rd.CB 5 (Rd.map (fun b=>HA 7 a b) ((ZN (hE.mono (by omega)) hb).imp (fun k hk=>T6 (by decide) hk))))
     · exact Rd.BS (fun k _=>by simp [hdT,opT,T7]) (Rd.BS (fun k _=>by simp [hdT,opT,T7]) (Rd.CB 5 (Rd.map (fun b=>HA 8 a b) ((ZN (hE.mono (by omega)) hb).imp (fun k hk=>T6 (by decide) hk)))))
   · rcases hu3 with rfl|rfl|rfl
     · show sSu.contains [60]=false;decide
     · show sSu.contains [60,61]=false;decide
     · show sSu.contains [61,61]=false;decide
 · have hs:=ZN hE h
   rw [UW (by omega)] at hs
   have:=Rd.bind (K:=noT sEx) (k2:=[]) (f:=fun a=>EB [60] ((KV E).bind fun b=>.pure (HA 6 a b)) <|EB [60,61] ((KV E).bind fun b=>.pure (HA 7 a b)) <|EB [61,61] ((KV E).bind fun b=>.pure (HA 8 a b)) <| .pure a) hs (Rd.BS (fun k hk=>NC hk (by decide)) (Rd.BS (fun k hk=>NC hk (by decide)) (Rd.BS (fun k hk=>NC hk (by decide)) (Rd.pure e)))) (fun k hk=>T6 (by decide) hk)
   rw [A0] at this
   exact this
theorem vS (hE:HE E N) {a:Al} (h:a.nb) (ha:SX a=true):Rd N (cT E) a (tkA a) (noT sEx):=by
 by_cases hN:N=0
 · subst hN;cases a;exact IH (by simp [tkA,uR])
 obtain ⟨c,vs,b⟩:=a
 rw [Al.nb] at h
 simp only [SX,AK] at ha
 rw [tkA,uR]
 exact Rd.CN (K1:=fun _=>True) (Rd.take c) (Rd.bind (Ve (Kr:=fun _=>True) (fun _=>trivial) (fun _=>trivial) vs (fun s hs M _=>QB (A4.1 ha.2 s hs))) (Rd.CN (K1:=fun _=>True) (Rd.exp 5) (Rd.map (fun x=>Al.mk c vs x) (hE b h _ (by omega))) (fun _ _=>trivial)) (fun k _ _=>by simp [hdT])) (fun _ _=>trivial)
theorem uM {s:Str} (h:Gp s=true) (k:List KT):hdT (shK s++k)≠[40]:=by
 unfold shK
 split
 · simp [hdT]
 · rename_i e
   simp only [Gp,BE,beq_iff_eq] at h
   exact Mp (UP (h.resolve_left e)) (by decide)
theorem SM (k:List KT) (t:Str) (h:sEx.contains t=false) (q:Int):noT sEx ((q,t)::k):=h
end
theorem r8:∀(n N:Nat),N≤n→∀e:Ex,e.nb→Rd N (Bt n) e (tkE e) (noT sEx)
 |0,N,hN,e,h=>by
  have:N=0:=by omega
  subst this
  exact IH (eS h)
 |n+1,N,hN,e,h=>by
  by_cases hN0:N=0
  · subst hN0;exact IH (eS h)
  have hE:HE (Bt n) N:=fun x hx M hM=>r8 n M (by omega) x hx
  rw [Bt]
  by_cases hl:1≤lvl e
  · obtain ⟨q,x,l,e1,_,e2⟩:=tK h
    have hne:∀t∈opens,∀k:List KT,hdT (tkE e++k)≠t:=fun t ht k=>by
     rw [(cB e1 k).1]
     intro e3
     have:=e2 hl
     rw [e3,Dd] at this
     simp [ht] at this
    exact Rd.BS (fun k _=>hne _ (by decide) k) (Rd.BS (fun k _=>hne _ (by decide) k) (Rd.BS (fun k _=>hne _ (by decide) k) (Rd.BS (fun k _=>hne _ (by decide) k) (Rd.BS (fun k _=>hne _ (by decide) k) (sH hE h hl)))))
  have h0:lvl e=0:=by omega
  obtain ⟨o,nm,u,ns,ks,al⟩:=e
  obtain ⟨hnm,hnu,hns,has,hnk,hk,hal⟩:=Ym h
  have hN1:HE (Bt n) (N - 1):=hE.mono (by omega)
  rw [tkE,MT,MS]
  rcases xG h0 with rfl|rfl|rfl|rfl|rfl|rfl
  · obtain ⟨a,b,rfl⟩:=Re (by simpa [nkB] using hnk)
    simp [nmB,nuB,nsB,asB] at hnm hnu hns has
    subst hnu hns has
    refine Rd.CB 4 ?_
    unfold Zw
    refine Rd.BS (fun k _=>by rw [AR];exact uM hnm _) ?_
    exact Rd.bind (QB (K:=fun _=>True) hnm) (Rd.CN (K1:=fun _=>True) (Rd.exp 5) (Rd.bind (hE a (hk a (by simp)) _ (by omega)) (Rd.CN (K1:=fun _=>True) (Rd.exp 4) (Rd.map (fun y=>Ex.mk 7 nm 0 [] [a,y] []) (hE b (hk b (by simp)) _ (by omega))) (fun _ _=>trivial)) (fun k _=>SM _ [105,110] (by decide) 4)) (fun _ _=>trivial)) (fun _ _=>trivial)
  · obtain ⟨a,b,rfl⟩:=Re (by simpa [nkB] using hnk)
    simp [nmB,nuB,asB] at hnm hnu has
    subst hnm hnu has
    simp only [nsB,if_true,AK,decide_eq_true_eq,A4] at hns
    obtain ⟨⟨h2,_⟩,hb⟩:=hns
    match ns,h2,hb with
    |x::y::l,_,hb=>
     have hs:tkN 8 [] 0 (x::y::l) [a,b] ([a,b].map tkE) ([].map tkA)=(4,[108,101,116])::(5,[40])::(shK x++((5,[44])::((cmK ((y::l).map shK)++[(5,[41])])++((5,[61])::(tkE a++((4,[105,110])::tkE b)))))):=by
      show (4,[108,101,116])::(HV (cmK (shK x::shK y::l.map shK))++((5,[61])::(tkE a++((4,[105,110])::tkE b))))=_
      rw [RJ,HV];simp
     rw [hs]
     refine Rd.CB 4 ?_
     unfold Zw
     refine Rd.CB 5 ?_
     exact Rd.bind (QB (K:=fun _=>True) (hb x (by simp))) (Rd.CN (K1:=fun _=>True) (Rd.exp 5) (Rd.bind (NS (K:=fun _=>True) (g:=shK) (Kr:=fun _=>True) (fun _=>trivial) (fun _=>trivial) (by simp) (fun z hz M _=>QB (hb z (Ae _ hz)))) (Rd.CN (K1:=fun _=>True) (Rd.exp 5) (Rd.bind (hE a (hk a (by simp)) _ (by omega)) (Rd.CN (K1:=fun _=>True) (Rd.exp 4) (Rd.map (fun q=>Ex.mk 8 [] 0 (x::y::l) [a,q] []) (hE b (hk b (by simp)) _ (by omega))) (fun _ _=>trivial)) (fun k _=>SM _ [105,110] (by decide) 4)) (fun _ _=>trivial)) (fun _ _=>trivial)) (fun _ _=>trivial)) (fun _ _=>trivial)
  · obtain ⟨a,b,c,rfl⟩:=cJ (by simpa [nkB] using hnk)
    simp [nmB,nuB,nsB,asB] at hnm hnu hns has
    subst hnm hnu hns has
    refine Rd.BS (fun k _=>by simp [tkN,hdT]) (Rd.CB 4 ?_)
    exact Rd.bind (hE a (hk a (by simp)) _ (by omega)) (Rd.CN (K1:=fun _=>True) (Rd.exp 4) (Rd.bind (hE b (hk b (by simp)) _ (by omega)) (Rd.CN (K1:=fun _=>True) (Rd.exp 4) (Rd.map (fun q=>exN 9 0 [a,b,q]) (hE c (hk c (by simp)) _ (by omega))) (fun _ _=>trivial)) (fun k _=>SM _ [101,108,115,101] (by decide) 4)) (fun _ _=>trivial)) (fun k _=>SM _ [116,104,101,110] (by decide) 4)
  · obtain ⟨a,rfl⟩:=VH (by simpa [nkB] using hnk)
    simp [nmB,nuB,nsB] at hnm hnu hns
    subst hnm hnu hns
    have haa:=bH has
    have hne:al≠[]:=by rintro rfl;simp [asB] at has
    iterate 2 refine Rd.BS (fun k _=>by simp [tkN,hdT]) ?_
    refine Rd.CB 4 ?_
    exact Rd.bind (hE a (hk a (by simp)) _ (by omega)) (Rd.CN (K1:=fun _=>True) (Rd.exp 4) (Rd.bind (Vd (g:=tkA) (Kr:=noT sEx) (fun k=>SM k [124] (by decide) 5) hne (fun x hx M hM=>vS (hE.mono (by omega)) (hal x hx) (haa x hx))) (Rd.CN (K1:=fun _=>True) (Rd.exp 4) (Rd.pure _) (fun _ _=>trivial)) (fun k _=>⟨SM _ [101,110,100] (by decide) 4,by simp [hdT]⟩)) (fun _ _=>trivial)) (fun k _=>SM _ [119,105,116,104] (by decide) 4)
  · obtain ⟨a,rfl⟩:=VH (by simpa [nkB] using hnk)
    simp [nmB,nuB,asB] at hnm hnu has
    subst hnm hnu has
    simp [nsB] at hns
    iterate 3 refine Rd.BS (fun k _=>by simp [tkN,hdT]) ?_
    refine Rd.CB 4 ?_
    exact Rd.CN (K1:=fun _=>True) (Rd.exp 5) (Rd.bind (K1:=fun _=>True) (YX (Kr:=fun _=>True) (g:=fun s=>[(1,s)]) (fun _=>trivial) (fun _=>trivial) ns (fun s hs M _=>Rd.take s) (fun s hs k=>Mp (UP (hns.2 s hs)) (by decide))) (Rd.CN (K1:=fun _=>True) (Rd.exp 5) (Rd.map (fun q=>Ex.mk 11 [] 0 ns [q] []) (hE a (hk a (by simp)) _ (by omega))) (fun _ _=>trivial)) (fun _ _=>trivial)) (fun _ _=>trivial)
  · obtain ⟨a,b,rfl⟩:=Re (by simpa [nkB] using hnk)
    simp [nmB,nuB,nsB,asB] at hnm hnu hns has
    subst hnu hns has
    iterate 4 refine Rd.BS (fun k _=>by simp [tkN,hdT]) ?_
    refine Rd.CB 4 ?_
    exact Rd.bind (hE a (hk a (by simp)) _ (by omega)) (Rd.CN (K1:=fun _=>True) (Rd.exp 4) (Rd.bind (QB (K:=fun _=>True) hnm) (Rd.CN (K1:=fun _=>True) (Rd.exp 5) (Rd.bind (hE b (hk b (by simp)) _ (by omega)) (Rd.CN (K1:=fun _=>True) (Rd.exp 4) (Rd.pure _) (fun _ _=>trivial)) (fun k _=>SM _ [101,110,100] (by decide) 4)) (fun _ _=>trivial)) (fun _ _=>trivial)) (fun _ _=>trivial)) (fun k _=>SM _ [99,97,116,99,104] (by decide) 4)
theorem Rd.tS {α:Type} {k0:Int} {y n:PM α} {a:α} {ks:List KT} (hn:∀k,K k→hdK (ks++k)=k0) (h:Rd N y a ks K):Rd N (.kind k0 y n) a ks K:=fun r p k hN hL hs hk=>by
 have hh:=(Fy hs).2
 have e:(PM.kind k0 y n).run ⟨r,false,p⟩=y.run ⟨r,false,p⟩:=if_pos (by rw [PSt.hd,hh];simpa using hn k hk)
 rw [e];exact h r p k hN hL hs hk
theorem sJ {f:FE} (h:Mj f=true) (hb:f.body.nb) (hN:N≤BC):Rd N X8 f ((1,f.name)::(Kn (f.params.map fun s=>[(1,s)])++((5,[61])::(tkE f.body++[(5,[59])])))) K:=by
 simp only [Mj,AK,A4] at h
 exact Rd.CN (K1:=fun _=>True) (Rd.take f.name) (Rd.CN (K1:=fun _=>True) (Rd.exp 5) (Rd.bind (K1:=fun _=>True) (YX (Kr:=fun _=>True) (g:=fun s=>[(1,s)]) (fun _=>trivial) (fun _=>trivial) f.params (fun s hs M _=>Rd.take s) (fun s hs k=>Mp (UP (h.2 s hs)) (by decide))) (Rd.CN (K1:=fun _=>True) (Rd.exp 5) (Rd.bind (r8 BC _ (by omega) f.body hb) (Rd.CN (K1:=fun _=>True) (Rd.exp 5) (Rd.pure _) (fun _ _=>trivial)) (fun k _=>SM _ [59] (by decide) 5)) (fun _ _=>trivial)) (fun _ _=>trivial)) (fun _ _=>trivial)) (fun _ _=>trivial)
theorem ZP:∀(l:List FE) (n N:Nat) (ds:List DE) (fs:List FE),l.length≤n→N≤BC→(∀f∈l,Mj f=true∧f.body.nb)→Rd N (LL n ds fs) ⟨ds,fs++l⟩ (l.map tkF).flatten (fun k=>hdK k=6)
 |[],0,N,ds,fs,_,_,_=>by rw [A0];exact Rd.pure _
 |[],n+1,N,ds,fs,_,_,_=>by
  rw [A0,LL]
  exact Rd.tS (fun k hk=>hk) (Rd.pure _)
 |f::l,0,N,ds,fs,h,_,_=>by simp at h
 |f::l,n+1,N,ds,fs,h,hN,hf=>by
  have ih:=ZP l n (N - 1 - (((1,f.name)::(Kn (f.params.map fun s=>[((1:Int),s)])++((5,[61])::(tkE f.body++[(5,[59])]))):List KT)).length) ds (fs++[f]) (by simp at h;omega) (by omega) (fun x hx=>hf x (Ae _ hx))
  rw [AR] at ih
  rw [LL,AE,C1,tkF,AU]
  refine Rd.CO (fun k _=>by simp [hdK]) (Rd.BS (fun k _=>by simp [hdT]) (Rd.CB 4 ?_))
  exact Rd.bind (K1:=fun _=>True) (sJ (hf f (A9 ..)).1 (hf f (A9 ..)).2 (by omega)) ih (fun _ _=>trivial)
theorem ZO (gs:List FE) (hg:∀f∈gs,Mj f=true∧f.body.nb):∀(l:List DE) (n N:Nat) (ds:List DE),l.length+gs.length≤n→N≤BC→(∀d∈l,IY d=true)→Rd N (LL n ds []) ⟨ds++l,gs⟩ ((l.map tkD).flatten++(gs.map tkF).flatten) (fun k=>hdK k=6)
 |[],n,N,ds,h,hN,_=>by
  have:=ZP gs n N ds [] (by simpa using h) hN hg
  rw [A0]
  exact this
 |d::l,0,N,ds,h,_,_=>by simp at h
 |d::l,n+1,N,ds,h,hN,hf=>by
  have ih:=ZO gs hg l n (N - 1 - (((2,d.name)::(T8 (d.vars.map fun s=>[((1:Int),s)])++((5,[61])::([((5:Int),[124])].intercalate (d.cons.map tkC)++[(5,[59])]))):List KT)).length) (ds++[d]) (by simp at h;omega) (by omega) (fun x hx=>hf x (Ae _ hx))
  rw [AR] at ih
  rw [LL,AE,C1,tkD,AU,AU,AR]
  refine Rd.CO (fun k _=>by simp [hdK]) (Rd.CB 4 ?_)
  exact Rd.bind (K1:=fun _=>True) (oK (hf d (A9 ..)) (by omega)) ih (fun _ _=>trivial)
theorem cV {p:Pg} (h:E6 p=true) (hl:(XX p).length≤16384):Dg (XX p)=(p,0,0):=by
 obtain ⟨h1,h2⟩:=YK (mB h) hl
 obtain ⟨w,o⟩:=aJ h1
 obtain ⟨n1,n2⟩:=aS h
 have hv:=h
 simp only [E6,AK,decide_eq_true_eq] at hv
 have hf:=FI
 have e:=ZO p.R4 n2 p.data BC BC [] (by omega) (A7 _) n1 (Ao (XX p)).1 0 [(6,[])] (by have:=o.1;omega) o.1 h2 rfl
 rw [A6] at e
 unfold Dg KY
 rw [if_neg (by rw [h1];simp),e]
 simp only [AY,if_false,h,if_true]
end Go.Ab
namespace Go.Ab
theorem aH {s:Str} {k:Int} {t:Str} (h:Cc s= .ok (k,t)):t++s.drop t.length=s:=by
 have hp:t <+:s:=by
  match s,h with
  |b::r,h=>
   simp only [Cc] at h
   repeat' (split at h)
   all_goals first
    |(cases h;done)
    |(simp only [D2,BH] at h;obtain ⟨_,rfl⟩:=h;first|exact List.takeWhile_prefix _|exact List.take_prefix _ _)
 obtain ⟨q,rfl⟩:=hp
 rw [List.drop_left]
theorem ZG {p:UInt8→Bool} (hp:p 10=false) (rest:Str):∀l:Str,(l++10::rest).takeWhile p=l.takeWhile p
 |[]=>by rw [A6,B8,hp];rfl
 |b::l=>by rw [AU,B8,B8,ZG hp rest l]
theorem q7 (b:UInt8):Wj b 10=false:=by simp [Wj]
theorem nU (l rest:Str) (hl:l≠[]):(l++10::rest).take (Ik (l++10::rest))=l.take (Ik l):=by
 match l,hl with
 |[b],_=>
  have h1:Sl b≤1:=by unfold Sl;split<;>omega
  have e1:Ik (b::10::rest)=Sl b:=by show (if Wj b 10 then 2 else Sl b)=_;rw [q7];rfl
  rw [AU,A6,e1,Ik]
  rcases GR.1 h1 with h|h<;>rw [h]<;>rfl
 |b::c::l,_=>
  rw [AU,AU,Ik,Ik]
  have h1:Sl b≤1:=by unfold Sl;split<;>omega
  split
  · rfl
  · rcases GR.1 h1 with h|h<;>rw [h]<;>rfl
theorem nP (l rest:Str) (hl:l≠[]):Cc (l++10::rest)=Cc l:=by
 match l,hl with
 |b::r,_=>
  have h1:=ZG (p:=Db Iy) (by decide) rest (b::r)
  have h2:=ZG (p:=Db GM) (by decide) rest (b::r)
  have h3:=nU (b::r) rest (by simp)
  rw [AU] at h1 h2 h3 ⊢
  rw [Cc,Cc,h1,h2,h3]
theorem pZ {b:UInt8} (h:(Ni b.toNat||Mc b.toNat)=true):Db Iy b=true:=by
 simp only [Db,Iy,h,Bool.true_or]
theorem YZ {p:UInt8→Bool}:∀ {l:Str},∀x∈l.takeWhile p,p x=true
 |[],x,h=>by cases h
 |b::l,x,h=>by
  rw [B8] at h
  split at h
  · rename_i hb
    rcases Bm.1 h with rfl|h
    · exact hb
    · exact YZ x h
  · cases h
theorem nR {s:Str} {k:Int} {t:Str} (h:Cc s= .ok (k,t)):EE t [(k,t)]:=by
 match s,h with
 |b::r,h=>
  simp only [Cc] at h
  by_cases hlu:(Ni b.toNat||Mc b.toNat)=true
  · rw [if_pos hlu] at h
    have ht:(b::r).takeWhile (Db Iy)=b::r.takeWhile (Db Iy):=by rw [B8,if_pos (pZ hlu)]
    have hall:=YZ (p:=Db Iy) (l:=b::r)
    rw [ht] at h hall
    split at h
    · cases h
    · rename_i hlen
      have:=T4 hlu hall (by simpa using hlen)
      split at h
      · rename_i hu
        rw [if_pos hu] at this
        cases h;exact this
      · rename_i hu
        rw [if_neg hu] at this
        split at h
        · rename_i hk
          rw [if_pos hk] at this
          cases h;exact this
        · rename_i hk
          rw [if_neg hk] at this
          cases h;exact this
  · rw [if_neg hlu] at h
    split at h
    · rename_i hd
      split at h
      · cases h
      · rename_i h48
        split at h
        · rename_i hv
          simp only [D2,BH] at h
          obtain ⟨rfl,rfl⟩:=h
          have ht:(b::r).takeWhile (Db GM)=b::r.takeWhile (Db GM):=by rw [B8,if_pos (show Db GM b=true from hd)]
          have hall:=YZ (p:=Db GM) (l:=b::r)
          intro rest hr
          have hq:=XA hall (aL hr)
          rw [ht] at h48 hv hall hq ⊢
          refine T3 ?_ (fun c l' e=>?_)
          · rw [AU] at hq ⊢
            rw [Cc,if_neg hlu,if_pos hd,hq,if_neg h48,if_pos hv]
          · cases e
            simp only [GM,AK,decide_eq_true_eq] at hd
            refine ⟨?_,?_⟩
            · simp only [TA,GP]
              refine ⟨⟨⟨?_,?_⟩,?_⟩,?_⟩<;>(apply eK;omega)
            · cases hb:(b==35) with
              |false=>rfl
              |true=>rw [beq_iff_eq] at hb;subst hb;exact absurd hd.1 (by decide)
        · cases h
    · split at h
      · cases h
      · rename_i hne
        simp only [D2,BH] at h
        obtain ⟨rfl,rfl⟩:=h
        have hone:∀b:UInt8,Sl b=1→EE [b] [(5,[b])]:=fun b hb=>by
         have hm:[b]∈PR∧([b]=[45]∨[b]=[60]∨[b]=[61]∨([b]≠[45]∧[b]≠[60]∧[b]≠[61])):=by
          unfold Sl at hb
          split at hb
          · rename_i h
            have hall:∀x∈q8,[x]∈PR∧([x]=[45]∨[x]=[60]∨[x]=[61]∨([x]≠[45]∧[x]≠[60]∧[x]≠[61])):=by decide
            simp only [List.any_eq_true,beq_iff_eq] at h
            obtain ⟨x,hx,rfl⟩:=h
            exact hall b hx
          · cases hb
         obtain ⟨h1,h2⟩:=hm
         rcases h2 with h2|h2|h2|h2
         · cases h2;exact fun r hr=>Sm 45 (.inl rfl) (OG hr)
         · cases h2;exact fun r hr=>Sm 60 (.inr (.inl rfl)) (OG hr)
         · cases h2;exact fun r hr=>Sm 61 (.inr (.inr rfl)) (OG hr)
         · exact (GC [b] h1 h2).s
        have h1:∀b:UInt8,Sl b≤1:=fun b=>by unfold Sl;split<;>omega
        match r,hne with
        |[],hne=>
         rw [Ik] at hne ⊢
         rcases GR.1 (h1 b) with h|h
         · rw [h] at hne;exact absurd rfl hne
         · rw [h];exact hone b h
        |c::r,hne=>
         rw [Ik] at hne ⊢
         split at hne
         · rename_i h2
           rw [if_pos h2]
           show EE [b,c] [(5,[b,c])]
           simp only [Wj,BE,beq_iff_eq] at h2
           rcases h2 with (h2|h2)|h2
           · cases h2;exact (GC [45,62] (by decide) (by decide)).s
           · cases h2;exact (GC [60,61] (by decide) (by decide)).s
           · cases h2;exact (GC [61,61] (by decide) (by decide)).s
         · rename_i h2
           rw [if_neg h2]
           rcases GR.1 (h1 b) with h|h
           · rw [h] at hne;exact absurd rfl hne
           · rw [h];exact hone b h
theorem Zn {l rest:Str} {b:UInt8} {r:Str} (hl:l=b::r) (hb:b=35) (hc:cmt (l++rest)=l.length):HF l [] rest:=fun n i acc hn=>by
 subst hl hb
 cases n with
 |zero=>omega
 |succ n=>
  refine ⟨n,i+cmt (35::r++rest),acc,by simp,by simp at hn;omega,?_⟩
  have e0:(35::r++rest)=35::(r++rest):=rfl
  have e1:Cd (n+1) (35::(r++rest)) i acc=Cd n ((35::(r++rest)).drop (cmt (35::(r++rest)))) (i+cmt (35::(r++rest))) acc:=by
   rw [Cd,if_neg (by decide),if_pos (by decide)]
  rw [e0,e1,← e0]
  have:(35::r++rest).drop (cmt (35::r++rest))=rest:=by rw [hc,List.drop_left]
  rw [this]
def nlP (rest:Str):Prop:=rest=[]∨∃q,rest=10::q
theorem qG {l rest:Str} (hr:nlP rest) (hl:l≠[]):Cc (l++rest)=Cc l:=by
 rcases hr with rfl|⟨q,rfl⟩
 · rw [A0]
 · exact nP l q hl
theorem uE {l rest:Str} (hr:nlP rest):cmt (l++rest)=cmt l:=by
 rcases hr with rfl|⟨q,rfl⟩
 · rw [A0]
 · unfold cmt;rw [ZG (by decide)]
theorem V2:∀(n:Nat) (a:Str) (i:Nat) (acc:List Tok),(Cd n a i acc).2.2=0→a.length < n→∃l e,(Cd n a i acc).1=acc++l++[⟨6,[],e⟩]∧(∀rest,nlP rest→HF a (strip l) rest)∧(∀t∈l,EE t.text [(t.kind,t.text)])
 |0,a,i,acc,_,hn=>by omega
 |n+1,[],i,acc,_,_=>⟨[],i,by simp [Cd],fun rest _=>HF.nil _,fun t ht=>by cases ht⟩
 |n+1,b::r,i,acc,h,hn=>by
  simp only [AD] at hn
  rw [Cd] at h ⊢
  split at h
  · rename_i hb
    rw [if_pos hb]
    obtain ⟨l,e,h1,h2,h3⟩:=V2 n r (i+1) acc h (by omega)
    exact ⟨l,e,h1,fun rest hr=>HF.trans (s1:=[b]) (k1:=[]) (UL hb _) (h2 rest hr),h3⟩
  · rename_i hb
    rw [if_neg hb]
    split at h
    · rename_i hc
      rw [if_pos hc]
      rw [beq_iff_eq] at hc
      subst hc
      have hp:1≤cmt (35::r):=by simp [cmt]
      have hle:cmt (35::r)≤(35::r).length:=Fz _ _
      obtain ⟨l,e,h1,h2,h3⟩:=V2 n _ _ acc h (by rw [Ad];simp only [AD];omega)
      refine ⟨l,e,h1,fun rest hr=>?_,h3⟩
      have hc:cmt (35::r++rest)=cmt (35::r):=uE hr
      have:=HF.trans (s1:=(35::r).take (cmt (35::r))) (k1:=[]) (s2:=(35::r).drop (cmt (35::r))) (k2:=strip l) (rest:=rest) ?_ (h2 rest hr)
      · rw [DL] at this;exact this
      · obtain ⟨q,hq⟩:∃q,cmt (35::r)=q+1:=⟨cmt (35::r) - 1,by omega⟩
        refine Zn (b:=35) (r:=r.take q) (by rw [hq];rfl) rfl ?_
        rw [← AR,DL,hc,BU];omega
    · rename_i hc
      rw [if_neg hc]
      cases hs:Cc (b::r) with
      |error e=>
       rw [hs] at h
       simp only at h
       rcases MQ hs with rfl|rfl<;>cases h
      |ok x=>
       obtain ⟨k,t⟩:=x
       rw [hs] at h
       simp only at h ⊢
       have hl:=OB hs
       obtain ⟨l,e,h1,h2,h3⟩:=V2 n _ _ _ h (by rw [Ad];simp only [AD] at hl ⊢;omega)
       have hpre:=aH hs
       refine ⟨⟨k,t,i⟩::l,e,by rw [h1];simp,fun rest hr=>?_,fun u hu=>?_⟩
       · have:=HF.trans (s1:=t) (k1:=[(k,t)]) (rest:=rest) (s2:=(b::r).drop t.length) (k2:=strip l) (T3 ?_ (fun c l' e=>?_)) (h2 rest hr)
         · rw [hpre] at this;exact this
         · rw [← AR,hpre,qG hr (by simp)];exact hs
         · have hcb:c=b:=by
            rw [e,AU] at hpre
            exact (List.cons.inj hpre).1
           subst hcb
           exact ⟨by simpa using hb,by simpa using hc⟩
       · rcases Bm.1 hu with rfl|hu
         · exact nR hs
         · exact h3 u hu
theorem jQ {a:Str} (h:(Ao a).2.2=0):∃l e,(Ao a).1=l++[⟨6,[],e⟩]∧(∀rest,nlP rest→HF a (strip l) rest)∧(∀t∈l,EE t.text [(t.kind,t.text)]):=by
 unfold Ao at h ⊢
 split at h
 · cases h
 · rename_i hl
   rw [if_neg hl]
   obtain ⟨l,e,h1,h2,h3⟩:=V2 (a.length+1) a 0 [] h (by omega)
   exact ⟨l,e,by rw [h1];rfl,h2,h3⟩
theorem jV (l m:List Tok):strip (l++m)=strip l++strip m:=B1 ..
def Vr:Str:=[32,35,120,10]
theorem Zo:FA Vr []:=by
 have h:FA [35,120,10] []:=fun rest=>HF.trans (s1:=[35,120]) (k1:=[]) (s2:=[10]) (k2:=[]) (Zn (b:=35) rfl rfl (by simp [cmt])) (lZ rest)
 exact HC.a h
def DM (l:List Tok):Str:=(l.map fun t=>t.text++Vr).flatten
theorem Vm (l m:List Tok):DM (l++m)=DM l++DM m:=by simp [DM]
theorem WO:∀ {l:List Tok},(∀t∈l,EE t.text [(t.kind,t.text)])→FA (DM l) (strip l)
 |[],_=>FA.nil
 |t::l,h=>by
  have ih:=WO (l:=l) (fun u hu=>h u (Ae _ hu))
  have h1:=(h t (A9 ..)).a (s2:=Vr) rfl (by decide) Zo
  exact h1.a ih
theorem ZC {a:Str} (h:(Ao a).2.2=0) (hl:(DM (Ao a).1).length≤16384):(Ao (DM (Ao a).1)).2.2=0∧strip (Ao (DM (Ao a).1)).1=strip (Ao a).1:=by
 obtain ⟨l,e,h1,_,h3⟩:=jQ h
 rw [h1] at hl ⊢
 have hx:FA (DM (l++[⟨6,[],e⟩])) (strip l):=by
  rw [Vm]
  have:=(WO h3).a (s2:=DM [⟨6,[],e⟩]) (k2:=[]) Zo
  rwa [A0] at this
 obtain ⟨h4,h5⟩:=YK hx hl
 exact ⟨h4,by rw [h5,jV];rfl⟩
def XW (x:Pg×PSt):Pg×Nat×Int:=if x.2.f then (⟨[],[]⟩,x.2.p,2) else if E6 x.1 then (x.1,0,0) else (⟨[],[]⟩,0,9)
theorem Oh {s:Str} (h:(Ao s).2.2=0):Dg s=XW (KY.run ⟨(Ao s).1,false,0⟩):=by
 unfold Dg XW
 rw [if_neg (by rw [h];simp)]
theorem hJ {x y:Pg×PSt} (h1:x.1=y.1) (h2:x.2.f=y.2.f):(XW x).1=(XW y).1∧(XW x).2.2=(XW y).2.2:=by
 unfold XW
 rw [h1,h2]
 split
 · exact ⟨rfl,rfl⟩
 · split<;>exact ⟨rfl,rfl⟩
theorem Uq {s t:Str} (hs:(Ao s).2.2=0) (ht:(Ao t).2.2=0) (h:strip (Ao s).1=strip (Ao t).1):(Dg s).1=(Dg t).1∧(Dg s).2.2=(Dg t).2.2:=by
 obtain ⟨h1,_,h3⟩:=KY.pm ⟨(Ao s).1,false,0⟩ ⟨(Ao t).1,false,0⟩ h rfl
 rw [Oh hs,Oh ht]
 exact hJ h1 h3
theorem Yr {a:Str} (h:(Dg a).2.2=0) (hl:(DM (Ao a).1).length≤16384):(Dg (DM (Ao a).1)).1=(Dg a).1∧(Dg (DM (Ao a).1)).2.2=0:=by
 have h0:(Ao a).2.2=0:=by
  apply Classical.byContradiction
  intro hne
  unfold Dg at h
  rw [if_pos hne] at h
  exact hne h
 obtain ⟨h1,h2⟩:=ZC h0 hl
 obtain ⟨h3,h4⟩:=Uq h1 h0 h2
 exact ⟨h3,h4.trans h⟩
end Go.Ab
