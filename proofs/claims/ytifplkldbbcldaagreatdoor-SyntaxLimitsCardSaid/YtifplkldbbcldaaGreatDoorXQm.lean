/- Reading the tokens of a formatted text back, in plain data: levels, programs. Blanks between tokens, and texts in a row: their tokens, in plain data. Two texts in a row, in plain data. What is read is not larger than its text, in plain data. Conditions: none. -/
import Derived.Test.YtifplkldbbcldaaGreatDoorXQk
set_option linter.unusedSimpArgs false
set_option linter.unusedVariables false
set_option maxRecDepth 4000
set_option maxHeartbeats 8000000
open Nat renaming zero_le→CN,lt_or_ge→Cc,le_refl→A7
open List renaming length→RB,length_append→AA,length_pos_iff→Ar,mem_cons_self→Aa,mem_cons_of_mem→Ah,append_nil→AY,all_eq_true→A6,contains_eq_mem→Dl,append_assoc→AT,map_cons→AF,flatten_cons→Cb,cons_append→A0,nil_append→A3,takeWhile_cons→FT,mem_cons→CK,length_drop→Ai
open Bool renaming and_eq_true→AM,or_eq_true→BR,false_eq_true→AU
namespace Go.Ab
variable {N:Nat} {K:List KT→Prop}
theorem kF (u:Int):E7 u≤3:=by
 unfold E7;split
 · omega
 · split<;>omega
def mT (o u:Int):Nat:=if o=7∨o=8∨o=9∨o=10∨o=11∨o=17 then 0 else if o=13 then E7 u else if o=12 then 4 else 5
theorem a8 {o u:Int} {n:Str} {ns:List Str} {ks:List Ex} {al:List Al}:lvl (.mk o n u ns ks al)=mT o u:=rfl
theorem S5 (o u:Int):((o=7∨o=8∨o=9∨o=10∨o=11∨o=17)∧mT o u=0)∨(o=13∧mT o u=E7 u)∨(o=12∧mT o u=4)∨mT o u=5:=by
 unfold mT
 split
 · rename_i h;exact .inl ⟨h,rfl⟩
 · split
   · rename_i h;exact .inr (.inl ⟨h,rfl⟩)
   · split
     · rename_i h;exact .inr (.inr (.inl ⟨h,rfl⟩))
     · exact .inr (.inr (.inr rfl))
theorem yF (e:Ex):lvl e≤5:=by
 obtain ⟨o,n,u,ns,ks,al⟩:=e
 have:=kF u
 have:=S5 o u
 rw [a8];omega
theorem AA2 {o u:Int} {n:Str} {ns:List Str} {ks:List Ex} {al:List Al} (h:lvl (.mk o n u ns ks al)=4):o=12:=by
 have:=kF u
 have:=S5 o u
 rw [a8] at h;omega
theorem hO {o u:Int} {n:Str} {ns:List Str} {ks:List Ex} {al:List Al} (h:1≤lvl (.mk o n u ns ks al)) (h2:lvl (.mk o n u ns ks al)≤3):o=13∧E7 u=lvl (.mk o n u ns ks al):=by
 have:=S5 o u
 rw [a8] at *;omega
theorem AA1 {o u:Int} {n:Str} {ns:List Str} {ks:List Ex} {al:List Al} (h:lvl (.mk o n u ns ks al)=0):o=7∨o=8∨o=9∨o=10∨o=11∨o=17:=by
 have:=dS u
 have:=S5 o u
 rw [a8] at h;omega
theorem iD {d:Nat} {e:Ex} {t:List KT} (h:lvl e < d):plK d e t=Hn t:=if_pos h
theorem VY {d:Nat} {e:Ex} {t:List KT} (h:d≤lvl e):plK d e t=t:=if_neg (by omega)
theorem yL {d:Nat} {e:Ex} (h:e.nb):plK d e (tkE e)≠[]:=by
 unfold plK;split
 · simp [Hn]
 · exact jU h
theorem Ac.zero {m:PM Ex} {c:Nat→Ex→PM Ex} {e:Ex} {ks:List KT} (h:ks≠[]):Ac 0 m c e ks K:=⟨0,CN _,fun r p k h1 _ hs _=>by
 have:=congrArg RB hs
 rw [PE,AA] at this
 have:=Ar.2 h
 omega⟩
section
variable {E:PM Ex}
theorem n9:∀(s:Nat) (e:Ex) (N:Nat),HE E N→e.size≤s→e.nb→Ac N (Qe E) (T8 E) e (plK 4 e (tkE e)) (fun k=>M2 e=true→hdT k≠[40])
 |0,e,_,_,hs,_=>by have:=e.size_pos;omega
 |s+1,e,N,hE,hs,h=>by
  by_cases hN:N=0
  · subst hN;exact Ac.zero (yL h)
  rcases Cc (lvl e) 4 with hl|hl
  · rw [iD hl];exact Ac.of (Wu hE h)
  rw [VY hl]
  by_cases h5:lvl e=5
  · exact Ac.of (sH hE h h5)
  have h4:lvl e=4:=by have:=yF e;omega
  obtain ⟨o,n,u,ns,ks,al⟩:=e
  have:=AA2 h4
  subst this
  obtain ⟨hnm,hnu,hns,has,hnk,hk,-⟩:=bB h
  simp [nmB,nuB,nsB,asB,nkB] at hnm hnu hns has hnk
  subst hnm hnu hns has
  cases ks with
  |nil=>simp at hnk
  |cons f l=>
   have hf:=hk f (Aa ..)
   rw [tkE,NF,ND]
   show Ac N (Qe E) (T8 E) (.mk 12 [] 0 [] (f::l) []) ((if M2 f then Hn (tkE f) else plK 4 f (tkE f))++L4 (l.map tkE)) _
   refine Ac.step (K1:=fun _=>True) (a:=f) ?_ (fun m=>?_) (by simp [L4,Hn]) (fun _ _=>trivial)
   · split
     · exact Ac.of (Wu hE hf)
     · rename_i hb
       exact (n9 s f N hE (by simp only [Ex.size,Ex.As] at hs;omega) hf).imp (fun k _ hb'=>absurd hb' hb)
   · rw [T8,L4,Hn]
     refine Gs.CL 5 (Gs.last (f:=fun l=>T8 E m (exN 12 0 (f::l))) (Zx (Kr:=noT sEx) XX YD l (fun x hx M hM=>hE x (hk x (Ah _ hx)) M (by omega)) (fun x hx k=>pF (hk x (Ah _ hx)) k)))
theorem jK {e:Ex} (hE:HE E N) (h:e.nb):Rd N (Qe E) e (plK 4 e (tkE e)) (fun k=>hdT k≠[40]):=(n9 e.size e N hE (A7 _) h).fin (fun k hk _=>hk) (fun n r p hk=>ZR n e r p hk)
theorem oB {e:Ex} (hE:HE E N) (h:e.nb):Rd N (Qe E) e (Hn (tkE e)) (fun k=>hdT k≠[40]):=(Ac.of (K:=fun _=>True) (Wu hE h)).fin (fun _ _=>trivial) (fun n r p hk=>ZR n e r p hk)
theorem aA {o u:Int} {n:Str} {ns:List Str} {ks:List Ex} {al:List Al} (h:(Ex.mk o n u ns ks al).nb) (ho:o=13):∃a b,Ex.mk o n u ns ks al=H3 u a b∧a.nb∧b.nb∧1≤u∧u≤8:=by
 subst ho
 obtain ⟨hnm,hnu,hns,has,hnk,hk,-⟩:=bB h
 simp [nmB,nuB,nsB,asB,nkB] at hnm hnu hns has hnk
 subst hnm hns has
 obtain ⟨a,b,rfl⟩:=Sn hnk
 exact ⟨a,b,rfl,hk a (by simp),hk b (by simp),hnu.1,hnu.2⟩
theorem jA {u:Int} {a b:Ex}:tkE (H3 u a b)=plK (if E7 u=1 then 2 else E7 u) a (tkE a)++((5,opT u)::plK (if E7 u=1 then 2 else E7 u+1) b (tkE b)):=by
 show tkE (.mk 13 [] u [] [a,b] [])=_
 rw [tkE,NF,ND];rfl
theorem jI:∀(s:Nat) (e:Ex) (N:Nat),HE E N→e.size≤s→e.nb→Ac N (Lu E) (Jn E) e (plK 3 e (tkE e)) (fun k=>hdT k≠[40])
 |0,e,_,_,hs,_=>by have:=e.size_pos;omega
 |s+1,e,N,hE,hs,h=>by
  rcases Cc (lvl e) 3 with hl|hl
  · rw [iD hl];exact Ac.of (oB hE h)
  rw [VY hl]
  by_cases h3:lvl e=3
  · obtain ⟨o,n,u,ns,ks,al⟩:=e
    obtain ⟨ho,hu⟩:=hO (by omega) (by omega:lvl (.mk o n u ns ks al)≤3)
    rw [h3] at hu
    obtain ⟨a,b,he,ha,hb,_,_⟩:=aA h ho
    rw [he,jA,hu]
    rw [he] at hs
    have hsz:a.size≤s:=by simp only [H3,exN,Ex.size,Ex.As] at hs;omega
    have hu3:u=3∨u=4∨u=5:=by
     unfold E7 at hu;split at hu
     · omega
     · split at hu<;>omega
    refine Ac.step (jI s a N hE hsz ha) (fun m=>?_) (by simp) (fun k hk=>?_)
    · rw [Jn]
      rcases hu3 with rfl|rfl|rfl
      · exact Gs.CL 5 (Gs.last (f:=fun b=>Jn E m (H3 3 a b)) (jK (hE.mono (by omega)) hb))
      · exact Gs.BW (fun k _=>by simp [hdT,opT,Uh]) (Gs.CL 5 (Gs.last (f:=fun b=>Jn E m (H3 4 a b)) (jK (hE.mono (by omega)) hb)))
      · exact Gs.BW (fun k _=>by simp [hdT,opT,Uh]) (Gs.BW (fun k _=>by simp [hdT,opT,Uh]) (Gs.CL 5 (Gs.last (f:=fun b=>Jn E m (H3 5 a b)) (jK (hE.mono (by omega)) hb))))
    · rcases hu3 with rfl|rfl|rfl<;>simp [hdT,opT,Uh]
  · have:=jK hE h
    rw [VY (by omega)] at this
    exact Ac.of this
theorem fE {e:Ex} (hE:HE E N) (h:e.nb):Rd N (Lu E) e (plK 3 e (tkE e)) (noT sPr):=(jI e.size e N hE (A7 _) h).fin (fun k hk=>Nx hk (by decide)) (fun n r p hk=>Xx n e r p hk)
theorem sF {e:Ex} (hE:HE E N) (h:e.nb):Rd N (Lu E) e (Hn (tkE e)) (noT sPr):=(Ac.of (oB hE h)).fin (fun k hk=>Nx hk (by decide)) (fun n r p hk=>Xx n e r p hk)
theorem oA:∀(s:Nat) (e:Ex) (N:Nat),HE E N→e.size≤s→e.nb→Ac N (Ky E) (Sv E) e (plK 2 e (tkE e)) (noT sPr)
 |0,e,_,_,hs,_=>by have:=e.size_pos;omega
 |s+1,e,N,hE,hs,h=>by
  rcases Cc (lvl e) 2 with hl|hl
  · rw [iD hl];exact Ac.of (sF hE h)
  rw [VY hl]
  by_cases h2:lvl e=2
  · obtain ⟨o,n,u,ns,ks,al⟩:=e
    obtain ⟨ho,hu⟩:=hO (by omega) (by omega:lvl (.mk o n u ns ks al)≤3)
    rw [h2] at hu
    obtain ⟨a,b,he,ha,hb,_,_⟩:=aA h ho
    rw [he,jA,hu]
    rw [he] at hs
    have hsz:a.size≤s:=by simp only [H3,exN,Ex.size,Ex.As] at hs;omega
    have hu3:u=1∨u=2:=by
     unfold E7 at hu;split at hu
     · omega
     · split at hu<;>omega
    refine Ac.step (oA s a N hE hsz ha) (fun m=>?_) (by simp) (fun k hk=>?_)
    · rw [Sv]
      rcases hu3 with rfl|rfl
      · exact Gs.CL 5 (Gs.last (f:=fun b=>Sv E m (H3 1 a b)) (fE (hE.mono (by omega)) hb))
      · exact Gs.BW (fun k _=>by simp [hdT,opT,Uh]) (Gs.CL 5 (Gs.last (f:=fun b=>Sv E m (H3 2 a b)) (fE (hE.mono (by omega)) hb)))
    · rcases hu3 with rfl|rfl
      · show sPr.contains [43]=false;decide
      · show sPr.contains [45]=false;decide
  · have:=fE hE h
    rw [VY (by omega)] at this
    exact Ac.of this
theorem cE {e:Ex} (hE:HE E N) (h:e.nb):Rd N (Ky E) e (plK 2 e (tkE e)) (noT sSu):=(oA e.size e N hE (A7 _) h).fin (fun k hk=>Ug (by decide) hk) (fun n r p hk=>nU n e r p hk)
theorem wN {e:Ex} (hE:HE E N) (h:e.nb) (hl:1≤lvl e):Rd N (Vu E) e (tkE e) (noT sEx):=by
 by_cases h1:lvl e=1
 · obtain ⟨o,n,u,ns,ks,al⟩:=e
   obtain ⟨ho,hu⟩:=hO (by omega) (by omega:lvl (.mk o n u ns ks al)≤3)
   rw [h1] at hu
   obtain ⟨a,b,he,ha,hb,g1,g2⟩:=aA h ho
   rw [he,jA,hu]
   have hu3:u=6∨u=7∨u=8:=by
    unfold E7 at hu;split at hu
    · omega
    · split at hu<;>omega
   refine Rd.bind (cE hE ha) ?_ (fun k hk=>?_)
   · rcases hu3 with rfl|rfl|rfl
     · exact Rd.CL 5 (Rd.map (fun b=>H3 6 a b) ((cE (hE.mono (by omega)) hb).imp (fun k hk=>Ug (by decide) hk)))
     · exact Rd.BW (fun k _=>by simp [hdT,opT,Uh]) (Rd.CL 5 (Rd.map (fun b=>H3 7 a b) ((cE (hE.mono (by omega)) hb).imp (fun k hk=>Ug (by decide) hk))))
     · exact Rd.BW (fun k _=>by simp [hdT,opT,Uh]) (Rd.BW (fun k _=>by simp [hdT,opT,Uh]) (Rd.CL 5 (Rd.map (fun b=>H3 8 a b) ((cE (hE.mono (by omega)) hb).imp (fun k hk=>Ug (by decide) hk)))))
   · rcases hu3 with rfl|rfl|rfl
     · show sSu.contains [60]=false;decide
     · show sSu.contains [60,61]=false;decide
     · show sSu.contains [61,61]=false;decide
 · have hs:=cE hE h
   rw [VY (by omega)] at hs
   have:=Rd.bind (K:=noT sEx) (k2:=[]) (f:=fun a=>EM [60] ((Ky E).bind fun b=>.pure (H3 6 a b)) <|EM [60,61] ((Ky E).bind fun b=>.pure (H3 7 a b)) <|EM [61,61] ((Ky E).bind fun b=>.pure (H3 8 a b)) <| .pure a) hs (Rd.BW (fun k hk=>Nx hk (by decide)) (Rd.BW (fun k hk=>Nx hk (by decide)) (Rd.BW (fun k hk=>Nx hk (by decide)) (Rd.pure e)))) (fun k hk=>Ug (by decide) hk)
   rw [AY] at this
   exact this
theorem zO (hE:HE E N) {a:Al} (h:a.nb) (ha:M1 a=true):Rd N (iA E) a (tkA a) (noT sEx):=by
 by_cases hN:N=0
 · subst hN;cases a;exact Ie (by simp [tkA,yU])
 obtain ⟨c,vs,b⟩:=a
 rw [Al.nb] at h
 simp only [M1,AM] at ha
 rw [tkA,yU]
 exact Rd.CW (K1:=fun _=>True) (Rd.take c) (Rd.bind (Wt (Kr:=fun _=>True) (fun _=>trivial) (fun _=>trivial) vs (fun s hs M _=>RE (A6.1 ha.2 s hs))) (Rd.CW (K1:=fun _=>True) (Rd.exp 5) (Rd.map (fun x=>Al.mk c vs x) (hE b h _ (by omega))) (fun _ _=>trivial)) (fun k _ _=>by simp [hdT])) (fun _ _=>trivial)
theorem yR {s:Str} (h:GF s=true) (k:List KT):hdT (shK s++k)≠[40]:=by
 unfold shK
 split
 · simp [hdT]
 · rename_i e
   simp only [GF,BR,beq_iff_eq] at h
   exact Nj (VU (h.resolve_left e)) (by decide)
theorem TY (k:List KT) (t:Str) (h:sEx.contains t=false) (q:Int):noT sEx ((q,t)::k):=h
end
theorem wC:∀(n N:Nat),N≤n→∀e:Ex,e.nb→Rd N (Bw n) e (tkE e) (noT sEx)
 |0,N,hN,e,h=>by
  have:N=0:=by omega
  subst this
  exact Ie (jU h)
 |n+1,N,hN,e,h=>by
  by_cases hN0:N=0
  · subst hN0;exact Ie (jU h)
  have hE:HE (Bw n) N:=fun x hx M hM=>wC n M (by omega) x hx
  rw [Bw]
  by_cases hl:1≤lvl e
  · obtain ⟨q,x,l,e1,_,e2⟩:=xP h
    have hne:∀t∈opens,∀k:List KT,hdT (tkE e++k)≠t:=fun t ht k=>by
     rw [(gK e1 k).1]
     intro e3
     have:=e2 hl
     rw [e3,Dl] at this
     simp [ht] at this
    exact Rd.BW (fun k _=>hne _ (by decide) k) (Rd.BW (fun k _=>hne _ (by decide) k) (Rd.BW (fun k _=>hne _ (by decide) k) (Rd.BW (fun k _=>hne _ (by decide) k) (Rd.BW (fun k _=>hne _ (by decide) k) (wN hE h hl)))))
  have h0:lvl e=0:=by omega
  obtain ⟨o,nm,u,ns,ks,al⟩:=e
  obtain ⟨hnm,hnu,hns,has,hnk,hk,hal⟩:=bB h
  have hN1:HE (Bw n) (N - 1):=hE.mono (by omega)
  rw [tkE,NF,ND]
  rcases AA1 h0 with rfl|rfl|rfl|rfl|rfl|rfl
  · obtain ⟨a,b,rfl⟩:=Sn (by simpa [nkB] using hnk)
    simp [nmB,nuB,nsB,asB] at hnm hnu hns has
    subst hnu hns has
    refine Rd.CL 4 ?_
    unfold dU
    refine Rd.BW (fun k _=>by rw [AT];exact yR hnm _) ?_
    exact Rd.bind (RE (K:=fun _=>True) hnm) (Rd.CW (K1:=fun _=>True) (Rd.exp 5) (Rd.bind (hE a (hk a (by simp)) _ (by omega)) (Rd.CW (K1:=fun _=>True) (Rd.exp 4) (Rd.map (fun y=>Ex.mk 7 nm 0 [] [a,y] []) (hE b (hk b (by simp)) _ (by omega))) (fun _ _=>trivial)) (fun k _=>TY _ [105,110] (by decide) 4)) (fun _ _=>trivial)) (fun _ _=>trivial)
  · obtain ⟨a,b,rfl⟩:=Sn (by simpa [nkB] using hnk)
    simp [nmB,nuB,asB] at hnm hnu has
    subst hnm hnu has
    simp only [nsB,if_true,AM,decide_eq_true_eq,A6] at hns
    obtain ⟨⟨h2,_⟩,hb⟩:=hns
    match ns,h2,hb with
    |x::y::l,_,hb=>
     have hs:tkN 8 [] 0 (x::y::l) [a,b] ([a,b].map tkE) ([].map tkA)=(4,[108,101,116])::(5,[40])::(shK x++((5,[44])::((cmK ((y::l).map shK)++[(5,[41])])++((5,[61])::(tkE a++((4,[105,110])::tkE b)))))):=by
      show (4,[108,101,116])::(Hn (cmK (shK x::shK y::l.map shK))++((5,[61])::(tkE a++((4,[105,110])::tkE b))))=_
      rw [SY,Hn];simp
     rw [hs]
     refine Rd.CL 4 ?_
     unfold dU
     refine Rd.CL 5 ?_
     exact Rd.bind (RE (K:=fun _=>True) (hb x (by simp))) (Rd.CW (K1:=fun _=>True) (Rd.exp 5) (Rd.bind (OO (K:=fun _=>True) (g:=shK) (Kr:=fun _=>True) (fun _=>trivial) (fun _=>trivial) (by simp) (fun z hz M _=>RE (hb z (Ah _ hz)))) (Rd.CW (K1:=fun _=>True) (Rd.exp 5) (Rd.bind (hE a (hk a (by simp)) _ (by omega)) (Rd.CW (K1:=fun _=>True) (Rd.exp 4) (Rd.map (fun q=>Ex.mk 8 [] 0 (x::y::l) [a,q] []) (hE b (hk b (by simp)) _ (by omega))) (fun _ _=>trivial)) (fun k _=>TY _ [105,110] (by decide) 4)) (fun _ _=>trivial)) (fun _ _=>trivial)) (fun _ _=>trivial)) (fun _ _=>trivial)
  · obtain ⟨a,b,c,rfl⟩:=gY (by simpa [nkB] using hnk)
    simp [nmB,nuB,nsB,asB] at hnm hnu hns has
    subst hnm hnu hns has
    refine Rd.BW (fun k _=>by simp [tkN,hdT]) (Rd.CL 4 ?_)
    exact Rd.bind (hE a (hk a (by simp)) _ (by omega)) (Rd.CW (K1:=fun _=>True) (Rd.exp 4) (Rd.bind (hE b (hk b (by simp)) _ (by omega)) (Rd.CW (K1:=fun _=>True) (Rd.exp 4) (Rd.map (fun q=>exN 9 0 [a,b,q]) (hE c (hk c (by simp)) _ (by omega))) (fun _ _=>trivial)) (fun k _=>TY _ [101,108,115,101] (by decide) 4)) (fun _ _=>trivial)) (fun k _=>TY _ [116,104,101,110] (by decide) 4)
  · obtain ⟨a,rfl⟩:=WT (by simpa [nkB] using hnk)
    simp [nmB,nuB,nsB] at hnm hnu hns
    subst hnm hnu hns
    have haa:=fP has
    have hne:al≠[]:=by rintro rfl;simp [asB] at has
    iterate 2 refine Rd.BW (fun k _=>by simp [tkN,hdT]) ?_
    refine Rd.CL 4 ?_
    exact Rd.bind (hE a (hk a (by simp)) _ (by omega)) (Rd.CW (K1:=fun _=>True) (Rd.exp 4) (Rd.bind (Ws (g:=tkA) (Kr:=noT sEx) (fun k=>TY k [124] (by decide) 5) hne (fun x hx M hM=>zO (hE.mono (by omega)) (hal x hx) (haa x hx))) (Rd.CW (K1:=fun _=>True) (Rd.exp 4) (Rd.pure _) (fun _ _=>trivial)) (fun k _=>⟨TY _ [101,110,100] (by decide) 4,by simp [hdT]⟩)) (fun _ _=>trivial)) (fun k _=>TY _ [119,105,116,104] (by decide) 4)
  · obtain ⟨a,rfl⟩:=WT (by simpa [nkB] using hnk)
    simp [nmB,nuB,asB] at hnm hnu has
    subst hnm hnu has
    simp [nsB] at hns
    iterate 3 refine Rd.BW (fun k _=>by simp [tkN,hdT]) ?_
    refine Rd.CL 4 ?_
    exact Rd.CW (K1:=fun _=>True) (Rd.exp 5) (Rd.bind (K1:=fun _=>True) (Zx (Kr:=fun _=>True) (g:=fun s=>[(1,s)]) (fun _=>trivial) (fun _=>trivial) ns (fun s hs M _=>Rd.take s) (fun s hs k=>Nj (VU (hns.2 s hs)) (by decide))) (Rd.CW (K1:=fun _=>True) (Rd.exp 5) (Rd.map (fun q=>Ex.mk 11 [] 0 ns [q] []) (hE a (hk a (by simp)) _ (by omega))) (fun _ _=>trivial)) (fun _ _=>trivial)) (fun _ _=>trivial)
  · obtain ⟨a,b,rfl⟩:=Sn (by simpa [nkB] using hnk)
    simp [nmB,nuB,nsB,asB] at hnm hnu hns has
    subst hnu hns has
    iterate 4 refine Rd.BW (fun k _=>by simp [tkN,hdT]) ?_
    refine Rd.CL 4 ?_
    exact Rd.bind (hE a (hk a (by simp)) _ (by omega)) (Rd.CW (K1:=fun _=>True) (Rd.exp 4) (Rd.bind (RE (K:=fun _=>True) hnm) (Rd.CW (K1:=fun _=>True) (Rd.exp 5) (Rd.bind (hE b (hk b (by simp)) _ (by omega)) (Rd.CW (K1:=fun _=>True) (Rd.exp 4) (Rd.pure _) (fun _ _=>trivial)) (fun k _=>TY _ [101,110,100] (by decide) 4)) (fun _ _=>trivial)) (fun _ _=>trivial)) (fun _ _=>trivial)) (fun k _=>TY _ [99,97,116,99,104] (by decide) 4)
theorem Rd.xY {α:Type} {k0:Int} {y n:PM α} {a:α} {ks:List KT} (hn:∀k,K k→hdK (ks++k)=k0) (h:Rd N y a ks K):Rd N (.kind k0 y n) a ks K:=fun r p k hN hL hs hk=>by
 have hh:=(GX hs).2
 have e:(PM.kind k0 y n).run ⟨r,false,p⟩=y.run ⟨r,false,p⟩:=if_pos (by rw [PSt.hd,hh];simpa using hn k hk)
 rw [e];exact h r p k hN hL hs hk
theorem wP {f:FE} (h:Ml f=true) (hb:f.body.nb) (hN:N≤BF):Rd N ZC f ((1,f.name)::(L4 (f.params.map fun s=>[(1,s)])++((5,[61])::(tkE f.body++[(5,[59])])))) K:=by
 simp only [Ml,AM,A6] at h
 exact Rd.CW (K1:=fun _=>True) (Rd.take f.name) (Rd.CW (K1:=fun _=>True) (Rd.exp 5) (Rd.bind (K1:=fun _=>True) (Zx (Kr:=fun _=>True) (g:=fun s=>[(1,s)]) (fun _=>trivial) (fun _=>trivial) f.params (fun s hs M _=>Rd.take s) (fun s hs k=>Nj (VU (h.2 s hs)) (by decide))) (Rd.CW (K1:=fun _=>True) (Rd.exp 5) (Rd.bind (wC BF _ (by omega) f.body hb) (Rd.CW (K1:=fun _=>True) (Rd.exp 5) (Rd.pure _) (fun _ _=>trivial)) (fun k _=>TY _ [59] (by decide) 5)) (fun _ _=>trivial)) (fun _ _=>trivial)) (fun _ _=>trivial)) (fun _ _=>trivial)
theorem cG:∀(l:List FE) (n N:Nat) (ds:List DE) (fs:List FE),l.length≤n→N≤BF→(∀f∈l,Ml f=true∧f.body.nb)→Rd N (Lv n ds fs) ⟨ds,fs++l⟩ (l.map tkF).flatten (fun k=>hdK k=6)
 |[],0,N,ds,fs,_,_,_=>by rw [AY];exact Rd.pure _
 |[],n+1,N,ds,fs,_,_,_=>by
  rw [AY,Lv]
  exact Rd.xY (fun k hk=>hk) (Rd.pure _)
 |f::l,0,N,ds,fs,h,_,_=>by simp at h
 |f::l,n+1,N,ds,fs,h,hN,hf=>by
  have ih:=cG l n (N - 1 - (((1,f.name)::(L4 (f.params.map fun s=>[((1:Int),s)])++((5,[61])::(tkE f.body++[(5,[59])]))):List KT)).length) ds (fs++[f]) (by simp at h;omega) (by omega) (fun x hx=>hf x (Ah _ hx))
  rw [AT] at ih
  rw [Lv,AF,Cb,tkF,A0]
  refine Rd.CY (fun k _=>by simp [hdK]) (Rd.BW (fun k _=>by simp [hdT]) (Rd.CL 4 ?_))
  exact Rd.bind (K1:=fun _=>True) (wP (hf f (Aa ..)).1 (hf f (Aa ..)).2 (by omega)) ih (fun _ _=>trivial)
theorem cF (gs:List FE) (hg:∀f∈gs,Ml f=true∧f.body.nb):∀(l:List DE) (n N:Nat) (ds:List DE),l.length+gs.length≤n→N≤BF→(∀d∈l,G6 d=true)→Rd N (Lv n ds []) ⟨ds++l,gs⟩ ((l.map tkD).flatten++(gs.map tkF).flatten) (fun k=>hdK k=6)
 |[],n,N,ds,h,hN,_=>by
  have:=cG gs n N ds [] (by simpa using h) hN hg
  rw [AY]
  exact this
 |d::l,0,N,ds,h,_,_=>by simp at h
 |d::l,n+1,N,ds,h,hN,hf=>by
  have ih:=cF gs hg l n (N - 1 - (((2,d.name)::(Ui (d.vars.map fun s=>[((1:Int),s)])++((5,[61])::([((5:Int),[124])].intercalate (d.cons.map tkC)++[(5,[59])]))):List KT)).length) (ds++[d]) (by simp at h;omega) (by omega) (fun x hx=>hf x (Ah _ hx))
  rw [AT] at ih
  rw [Lv,AF,Cb,tkD,A0,A0,AT]
  refine Rd.CY (fun k _=>by simp [hdK]) (Rd.CL 4 ?_)
  exact Rd.bind (K1:=fun _=>True) (sG (hf d (Aa ..)) (by omega)) ih (fun _ _=>trivial)
theorem iB {p:Pg} (h:Cw p=true) (hl:(Ys p).length≤16384):KC (Ys p)=(p,0,0):=by
 obtain ⟨h1,h2⟩:=nO (qD h) hl
 obtain ⟨w,o⟩:=eP h1
 obtain ⟨n1,n2⟩:=eY h
 have hv:=h
 simp only [Cw,AM,decide_eq_true_eq] at hv
 have hf:=FZ
 have e:=cF p.RX n2 p.data BF BF [] (by omega) (A7 _) n1 (BG (Ys p)).1 0 [(6,[])] (by have:=o.1;omega) o.1 h2 rfl
 rw [A3] at e
 unfold KC Mw
 rw [if_neg (by rw [h1];simp),e]
 simp only [AU,if_false,h,if_true]
end Go.Ab
namespace Go.Ab
theorem oI {p:UInt8→Bool}:∀ {l:Str},∀x∈l.takeWhile p,p x=true
 |[],x,h=>by cases h
 |b::l,x,h=>by
  rw [FT] at h
  split at h
  · rename_i hb
    rcases CK.1 h with rfl|h
    · exact hb
    · exact oI x h
  · cases h
def aF (x:Pg×PSt):Pg×Nat×Int:=if x.2.f then (⟨[],[]⟩,x.2.p,2) else if Cw x.1 then (x.1,0,0) else (⟨[],[]⟩,0,9)
theorem Tq {s:Str} (h:(BG s).2.2=0):KC s=aF (Mw.run ⟨(BG s).1,false,0⟩):=by
 unfold KC aF
 rw [if_neg (by rw [h];simp)]
theorem lR {x y:Pg×PSt} (h1:x.1=y.1) (h2:x.2.f=y.2.f):(aF x).1=(aF y).1∧(aF x).2.2=(aF y).2.2:=by
 unfold aF
 rw [h1,h2]
 split
 · exact ⟨rfl,rfl⟩
 · split<;>exact ⟨rfl,rfl⟩
theorem dV {s t:Str} (hs:(BG s).2.2=0) (ht:(BG t).2.2=0) (h:strip (BG s).1=strip (BG t).1):(KC s).1=(KC t).1∧(KC s).2.2=(KC t).2.2:=by
 obtain ⟨h1,_,h3⟩:=Mw.pm ⟨(BG s).1,false,0⟩ ⟨(BG t).1,false,0⟩ h rfl
 rw [Tq hs,Tq ht]
 exact lR h1 h3
end Go.Ab
namespace Go.Ab
theorem rF (n:Nat) (ds:List DE) (fs:List FE) (s:PSt):(Lv (n+1) ds fs).run s=
 if s.hd.kind==6 then (⟨ds,fs⟩,s)
                         else if s.hd.text==[100,97,116,97] then (Lv n (ds++[(TZ.run s.adv).1]) fs).run (TZ.run s.adv).2
                         else if s.hd.text==[102,117,110] then (Lv n ds (fs++[(ZC.run s.adv).1])).run (ZC.run s.adv).2
                         else (Lv n ds fs).run s.fail:=rfl
theorem yY {s:PSt} (h:WF s.r) (hk:(s.hd.kind==6)=false):2≤s.r.length:=by
 obtain ⟨r,f,p⟩:=s
 match r,h,hk with
 |[t],h,hk=>
  have:(PSt.mk [t] f p).hd=t:=rfl
  rw [this,h.1] at hk;cases hk
 |t::u::l,_,_=>simp
theorem BT {s:PSt} (h:WF s.r):s.adv.r.length+1=s.r.length:=by
 obtain ⟨r,f,p⟩:=s
 cases r with
 |nil=>exact h.elim
 |cons t l=>rfl
theorem cT {s:PSt} (h:WF s.r):s.fail.r.length=1:=by
 have:1≤s.r.length:=Ar.2 h.ne
 show (Ua s.r).length=1
 unfold Ua;rw [Ai];omega
end Go.Ab
namespace Go.Ab
variable {α β:Type}
def SzO (c:Nat) (m:PM α) (μ:α→Nat):Prop:=∀s,WF s.r→(m.run s).2.f=false→μ (m.run s).1+(m.run s).2.r.length≤s.r.length+c
theorem SzO.pure {c:Nat} {a:α} {μ:α→Nat} (h:μ a≤c):SzO c (.pure a) μ:=fun s _ _=>by
 show μ a+s.r.length≤s.r.length+c;omega
theorem SzO.bind {c:Nat} {m:PM α} {f:α→PM β} {μ:α→Nat} {ν:β→Nat} (h:SzO 0 m μ) (hf:∀a,SzO (c+μ a) (f a) ν):SzO c (m.bind f) ν:=fun s hw hs=>by
 have hs':((f (m.run s).1).run (m.run s).2).2.f=false:=hs
 have h1:(m.run s).2.f=false:=by
  cases hc:(m.run s).2.f with
  |false=>rfl
  |true=>have:=((f (m.run s).1).st _ hc).1;rw [hs'] at this;cases this
 have e1:=h s hw h1
 have e2:=hf (m.run s).1 (m.run s).2 (m.sf s hw).1 hs'
 show ν ((f (m.run s).1).run (m.run s).2).1+((f (m.run s).1).run (m.run s).2).2.r.length≤_
 omega
theorem SzO.acc {c:Nat} {t:Str} {ht:t≠[]} {y n:PM α} {μ:α→Nat} (hy:SzO (c+1) y μ) (hn:SzO c n μ):SzO c (.acc t ht y n) μ:=fun s hw hs=>by
 cases hc:s.hd.text==t with
 |true=>
  have e:(PM.acc t ht y n).run s=y.run s.adv:=if_pos hc
  rw [e] at hs ⊢
  have hk:s.hd.text≠[]:=by rw [beq_iff_eq] at hc;rw [hc];exact ht
  have h1:=hy s.adv (SR hw (.inr hk)).1 hs
  have h2:=BT hw
  omega
 |false=>
  have e:(PM.acc t ht y n).run s=n.run s:=if_neg (by rw [hc];decide)
  rw [e] at hs ⊢
  exact hn s hw hs
theorem SzO.kind {c:Nat} {k:Int} {y n:PM α} {μ:α→Nat} (hy:SzO c y μ) (hn:SzO c n μ):SzO c (.kind k y n) μ:=fun s hw hs=>by
 cases hc:s.hd.kind==k with
 |true=>
  have e:(PM.kind k y n).run s=y.run s:=if_pos hc
  rw [e] at hs ⊢
  exact hy s hw hs
 |false=>
  have e:(PM.kind k y n).run s=n.run s:=if_neg (by rw [hc];decide)
  rw [e] at hs ⊢
  exact hn s hw hs
theorem SzO.fail {c:Nat} {a:α} {μ:α→Nat}:SzO c (.fail a) μ:=fun s _ h=>by cases h
theorem SzO.tok {cc:Int→Str→Bool} {hc:∀k t,cc k t=true→k≠6∨t≠[]} {g:Str→α} {b:α}:SzO 0 (.tok cc hc g b) (fun _=>1):=fun s hw hs=>by
 cases hcc:cc s.hd.kind s.hd.text with
 |true=>
  have e:(PM.tok cc hc g b).run s=(g s.hd.text,s.adv):=if_pos hcc
  rw [e]
  have h2:=BT hw
  show 1+s.adv.r.length≤_
  omega
 |false=>
  have e:(PM.tok cc hc g b).run s=(b,s.fail):=if_neg (by rw [hcc];decide)
  rw [e] at hs
  cases hs
theorem SzO.mono {c:Nat} {m:PM α} {μ ν:α→Nat} (h:SzO c m μ) (hl:∀a,ν a≤μ a):SzO c m ν:=fun s hw hs=>by
 have:=h s hw hs;have:=hl (m.run s).1;omega
def Ds (μ:α→Nat) (l:List α):Nat:=(l.map μ).sum
theorem eS (μ:α→Nat) (l m:List α):Ds μ (l++m)=Ds μ l+Ds μ m:=by simp [Ds]
theorem Y3 (μ:α→Nat) (x:α):Ds μ [x]=μ x:=by simp [Ds]
theorem Ur {μ:α→Nat} {l:List α} {x:α} (h:x∈l):μ x≤Ds μ l:=by
 induction l with
 |nil=>cases h
 |cons y l ih=>
  simp only [Ds,AF,List.sum_cons] at ih ⊢
  rcases CK.1 h with rfl|h
  · omega
  · have:=ih h;omega
theorem Y4 {read:PM α} {t:Str} {ht:t≠[]} {μ:α→Nat} (h:SzO 0 read μ):∀(n c:Nat) (l:List α),Ds μ l≤c→SzO c (ES read t ht n l) (Ds μ)
 |0,c,l,hl=>SzO.pure hl
 |n+1,c,l,hl=>SzO.acc (SzO.bind h (fun a=>Y4 h n _ _ (by rw [eS,Y3];omega))) (SzO.pure hl)
theorem Zn {read:PM α} {t:Str} {ht:t≠[]} {μ:α→Nat} (h:SzO 0 read μ):SzO 0 (items read t ht) (Ds μ):=
 SzO.bind h (fun a=>Y4 h _ _ _ (by rw [Y3];omega))
theorem Nh {t:Str} {ht:t≠[]}:SzO 0 (.exp t ht) (fun _=>1):=SzO.tok
theorem SJ {k:Int} {hk:k≠6}:SzO 0 (.take k hk) (fun _=>1):=SzO.tok
theorem Tx {read:PM α} {μ:α→Nat} (h:SzO 0 read μ):SzO 0 (listed read) (Ds μ):=SzO.bind (Zn h) (fun a=>SzO.bind Nh (fun _=>SzO.pure (by omega)))
theorem iY {read:PM α} {μ:α→Nat} (h:SzO 0 read μ):SzO 0 (closed read) (Ds μ):=SzO.acc (SzO.pure (by simp [Ds])) (Tx h)
theorem Y5 {read:PM α} {μ:α→Nat} (h:SzO 0 read μ):SzO 0 (IH read) (Ds μ):=SzO.acc (fun s hw hs=>by have:=Tx h s hw hs;omega) (SzO.pure (by simp [Ds]))
theorem PB:∀l:List TE,TE.As l=Ds TE.size l
 |[]=>rfl
 |t::l=>by rw [TE.As,PB l];simp [Ds]
theorem kM:∀n,SzO 0 (Fg n) TE.size
 |0=>SzO.fail
 |n+1=>by
  have ih:=kM n
  have hel:∀k,SzO 1 (Rt k (Fg n)) TE.size:=fun k=>SzO.bind Nh (fun _=>SzO.bind ih (fun t=>SzO.bind Nh (fun _=>SzO.pure (by simp [TE.size,TE.As];omega))))
  rw [Fg]
  refine SzO.kind (SzO.bind SJ (fun x=>SzO.pure (by simp [TE.size,TE.As]))) ?_
  refine SzO.kind (SzO.bind SJ (fun x=>SzO.bind (Y5 ih) (fun l=>SzO.pure (by rw [TE.size,PB];omega)))) ?_
  refine SzO.acc (SzO.pure (by simp [TE.size,TE.As])) (SzO.acc (SzO.pure (by simp [TE.size,TE.As])) (SzO.acc (SzO.pure (by simp [TE.size,TE.As])) (SzO.acc (hel 7) (SzO.acc (hel 8) (SzO.acc ?_ (SzO.acc ?_ SzO.fail))))))
  · exact SzO.bind ih (fun a=>SzO.bind Nh (fun _=>SzO.bind (Tx ih) (fun l=>SzO.pure (by rw [TE.size,TE.As,PB];omega))))
  · exact SzO.bind Nh (fun _=>SzO.bind (iY ih) (fun l=>SzO.bind Nh (fun _=>SzO.bind ih (fun t=>SzO.pure (by rw [TE.size,TE.Cm,TE.As,TE.As,PB];omega)))))
def oR (c:CE):Nat:=Ds TE.size c.args
def gE (d:DE):Nat:=Ds oR d.cons
theorem u6:SzO 0 dT oR:=SzO.bind SJ (fun c=>SzO.bind (Y5 (kM _)) (fun l=>SzO.pure (by show Ds TE.size l≤_;omega)))
theorem r1:SzO 0 TZ gE:=SzO.bind SJ (fun c=>SzO.bind (Y5 (μ:=fun _=>0) (SJ.mono (fun _=>by omega))) (fun l=>SzO.bind Nh (fun _=>SzO.bind (Zn u6) (fun cs=>SzO.bind Nh (fun _=>SzO.pure (by show Ds oR cs≤_;omega))))))
theorem zro (m:PM α):SzO 0 m (fun _=>0):=fun s hw _=>by have:=(m.sf s hw).2.length_le;simp only;omega
theorem Ut:∀(n c:Nat) (ds:List DE) (fs:List FE),Ds gE ds≤c→SzO c (Lv n ds fs) (fun p=>Ds gE p.data)
 |0,c,ds,fs,h=>SzO.pure h
 |n+1,c,ds,fs,h=>by
  rw [Lv]
  exact SzO.kind (SzO.pure h) (SzO.acc (SzO.bind r1 (fun d=>Ut n _ _ _ (by rw [eS,Y3];omega))) (SzO.acc (SzO.bind (zro ZC) (fun f=>Ut n _ _ _ (by omega))) (SzO.bind (zro (PM.fail ())) (fun _=>Ut n _ _ _ (by omega)))))
theorem dZ {r:List Tok} {p:Nat} (hw:WF r) (hl:r.length≤17000) (hf:(Mw.run ⟨r,false,p⟩).2.f=false):∀d∈(Mw.run ⟨r,false,p⟩).1.data,∀c∈d.cons,∀t∈c.args,t.size≤17000:=by
 have h:=Ut BF 0 [] [] (by simp [Ds]) ⟨r,false,p⟩ hw hf
 intro d hd c hc t ht
 have h1:t.size≤oR c:=Ur ht
 have h2:oR c≤gE d:=Ur hc
 have h3:gE d≤Ds gE (Mw.run ⟨r,false,p⟩).1.data:=Ur hd
 have h4:Ds gE (Mw.run ⟨r,false,p⟩).1.data+(Mw.run ⟨r,false,p⟩).2.r.length≤r.length+0:=h
 omega
end Go.Ab
