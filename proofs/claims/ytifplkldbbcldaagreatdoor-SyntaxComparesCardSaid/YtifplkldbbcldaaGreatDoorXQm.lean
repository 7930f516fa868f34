/- Reading the tokens of a formatted text back, in plain data: levels, programs. Blanks between tokens, and texts in a row: their tokens, in plain data. Two texts in a row, in plain data. What is read is not larger than its text, in plain data. Conditions: none. -/
import Derived.Test.YtifplkldbbcldaaGreatDoorXQj
set_option linter.unusedSimpArgs false
set_option linter.unusedVariables false
set_option maxRecDepth 4000
set_option maxHeartbeats 8000000
open Nat renaming zero_le→CS,lt_or_ge→E3,le_refl→A8
open List renaming length→Re,length_append→AA,length_pos_iff→Ar,mem_cons_self→Ad,mem_cons_of_mem→Ah,append_nil→AZ,all_eq_true→A5,contains_eq_mem→Dv,append_assoc→AT,map_cons→AD,flatten_cons→Cj,cons_append→AX,nil_append→A0,takeWhile_cons→Fa,mem_cons→CN,length_drop→Aj
open Bool renaming and_eq_true→AN,or_eq_true→BM,false_eq_true→A1
namespace Go.Ab
variable {N:Nat} {K:List KT→Prop}
theorem kL (u:Int):Ef u≤3:=by
 unfold Ef;split
 · omega
 · split<;>omega
def mY (o u:Int):Nat:=if o=7∨o=8∨o=9∨o=10∨o=11∨o=17 then 0 else if o=13 then Ef u else if o=12 then 4 else 5
theorem bS {o u:Int} {n:Str} {ns:List Str} {ks:List Ex} {al:List Al}:lvl (.mk o n u ns ks al)=mY o u:=rfl
theorem Su (o u:Int):((o=7∨o=8∨o=9∨o=10∨o=11∨o=17)∧mY o u=0)∨(o=13∧mY o u=Ef u)∨(o=12∧mY o u=4)∨mY o u=5:=by
 unfold mY
 split
 · rename_i h;exact .inl ⟨h,rfl⟩
 · split
   · rename_i h;exact .inr (.inl ⟨h,rfl⟩)
   · split
     · rename_i h;exact .inr (.inr (.inl ⟨h,rfl⟩))
     · exact .inr (.inr (.inr rfl))
theorem yK (e:Ex):lvl e≤5:=by
 obtain ⟨o,n,u,ns,ks,al⟩:=e
 have:=kL u
 have:=Su o u
 rw [bS];omega
theorem ABE {o u:Int} {n:Str} {ns:List Str} {ks:List Ex} {al:List Al} (h:lvl (.mk o n u ns ks al)=4):o=12:=by
 have:=kL u
 have:=Su o u
 rw [bS] at h;omega
theorem hX {o u:Int} {n:Str} {ns:List Str} {ks:List Ex} {al:List Al} (h:1≤lvl (.mk o n u ns ks al)) (h2:lvl (.mk o n u ns ks al)≤3):o=13∧Ef u=lvl (.mk o n u ns ks al):=by
 have:=Su o u
 rw [bS] at *;omega
theorem ABD {o u:Int} {n:Str} {ns:List Str} {ks:List Ex} {al:List Al} (h:lvl (.mk o n u ns ks al)=0):o=7∨o=8∨o=9∨o=10∨o=11∨o=17:=by
 have:=eM u
 have:=Su o u
 rw [bS] at h;omega
theorem iG {d:Nat} {e:Ex} {t:List KT} (h:lvl e < d):plK d e t=ID t:=if_pos h
theorem WH {d:Nat} {e:Ex} {t:List KT} (h:d≤lvl e):plK d e t=t:=if_neg (by omega)
theorem yP {d:Nat} {e:Ex} (h:e.nb):plK d e (tkE e)≠[]:=by
 unfold plK;split
 · simp [ID]
 · exact j1 h
theorem Ac.zero {m:PM Ex} {c:Nat→Ex→PM Ex} {e:Ex} {ks:List KT} (h:ks≠[]):Ac 0 m c e ks K:=⟨0,CS _,fun r p k h1 _ hs _=>by
 have:=congrArg Re hs
 rw [Pb,AA] at this
 have:=Ar.2 h
 omega⟩
section
variable {E:PM Ex}
theorem oF:∀(s:Nat) (e:Ex) (N:Nat),HE E N→e.size≤s→e.nb→Ac N (RQ E) (UA E) e (plK 4 e (tkE e)) (fun k=>Ms e=true→hdT k≠[40])
 |0,e,_,_,hs,_=>by have:=e.size_pos;omega
 |s+1,e,N,hE,hs,h=>by
  by_cases hN:N=0
  · subst hN;exact Ac.zero (yP h)
  rcases E3 (lvl e) 4 with hl|hl
  · rw [iG hl];exact Ac.of (X9 hE h)
  rw [WH hl]
  by_cases h5:lvl e=5
  · exact Ac.of (sP hE h h5)
  have h4:lvl e=4:=by have:=yK e;omega
  obtain ⟨o,n,u,ns,ks,al⟩:=e
  have:=ABE h4
  subst this
  obtain ⟨hnm,hnu,hns,has,hnk,hk,-⟩:=bU h
  simp [nmB,nuB,nsB,asB,nkB] at hnm hnu hns has hnk
  subst hnm hnu hns has
  cases ks with
  |nil=>simp at hnk
  |cons f l=>
   have hf:=hk f (Ad ..)
   rw [tkE,N8,N7]
   show Ac N (RQ E) (UA E) (.mk 12 [] 0 [] (f::l) []) ((if Ms f then ID (tkE f) else plK 4 f (tkE f))++Lv (l.map tkE)) _
   refine Ac.step (K1:=fun _=>True) (a:=f) ?_ (fun m=>?_) (by simp [Lv,ID]) (fun _ _=>trivial)
   · split
     · exact Ac.of (X9 hE hf)
     · rename_i hb
       exact (oF s f N hE (by simp only [Ex.size,Ex.At] at hs;omega) hf).imp (fun k _ hb'=>absurd hb' hb)
   · rw [UA,Lv,ID]
     refine Gs.CO 5 (Gs.last (f:=fun l=>UA E m (exN 12 0 (f::l))) (aQ (Kr:=noT sEx) Xp Y1 l (fun x hx M hM=>hE x (hk x (Ah _ hx)) M (by omega)) (fun x hx k=>pP (hk x (Ah _ hx)) k)))
theorem jP {e:Ex} (hE:HE E N) (h:e.nb):Rd N (RQ E) e (plK 4 e (tkE e)) (fun k=>hdT k≠[40]):=(oF e.size e N hE (A8 _) h).fin (fun k hk _=>hk) (fun n r p hk=>Zb n e r p hk)
theorem oH {e:Ex} (hE:HE E N) (h:e.nb):Rd N (RQ E) e (ID (tkE e)) (fun k=>hdT k≠[40]):=(Ac.of (K:=fun _=>True) (X9 hE h)).fin (fun _ _=>trivial) (fun n r p hk=>Zb n e r p hk)
theorem aT {o u:Int} {n:Str} {ns:List Str} {ks:List Ex} {al:List Al} (h:(Ex.mk o n u ns ks al).nb) (ho:o=13):∃a b,Ex.mk o n u ns ks al=Hk u a b∧a.nb∧b.nb∧1≤u∧u≤8:=by
 subst ho
 obtain ⟨hnm,hnu,hns,has,hnk,hk,-⟩:=bU h
 simp [nmB,nuB,nsB,asB,nkB] at hnm hnu hns has hnk
 subst hnm hns has
 obtain ⟨a,b,rfl⟩:=TN hnk
 exact ⟨a,b,rfl,hk a (by simp),hk b (by simp),hnu.1,hnu.2⟩
theorem jE {u:Int} {a b:Ex}:tkE (Hk u a b)=plK (if Ef u=1 then 2 else Ef u) a (tkE a)++((5,opT u)::plK (if Ef u=1 then 2 else Ef u+1) b (tkE b)):=by
 show tkE (.mk 13 [] u [] [a,b] [])=_
 rw [tkE,N8,N7];rfl
theorem jN:∀(s:Nat) (e:Ex) (N:Nat),HE E N→e.size≤s→e.nb→Ac N (MT E) (KU E) e (plK 3 e (tkE e)) (fun k=>hdT k≠[40])
 |0,e,_,_,hs,_=>by have:=e.size_pos;omega
 |s+1,e,N,hE,hs,h=>by
  rcases E3 (lvl e) 3 with hl|hl
  · rw [iG hl];exact Ac.of (oH hE h)
  rw [WH hl]
  by_cases h3:lvl e=3
  · obtain ⟨o,n,u,ns,ks,al⟩:=e
    obtain ⟨ho,hu⟩:=hX (by omega) (by omega:lvl (.mk o n u ns ks al)≤3)
    rw [h3] at hu
    obtain ⟨a,b,he,ha,hb,_,_⟩:=aT h ho
    rw [he,jE,hu]
    rw [he] at hs
    have hsz:a.size≤s:=by simp only [Hk,exN,Ex.size,Ex.At] at hs;omega
    have hu3:u=3∨u=4∨u=5:=by
     unfold Ef at hu;split at hu
     · omega
     · split at hu<;>omega
    refine Ac.step (jN s a N hE hsz ha) (fun m=>?_) (by simp) (fun k hk=>?_)
    · rw [KU]
      rcases hu3 with rfl|rfl|rfl
      · exact Gs.CO 5 (Gs.last (f:=fun b=>KU E m (Hk 3 a b)) (jP (hE.mono (by omega)) hb))
      · exact Gs.BU (fun k _=>by simp [hdT,opT,VV]) (Gs.CO 5 (Gs.last (f:=fun b=>KU E m (Hk 4 a b)) (jP (hE.mono (by omega)) hb)))
      · exact Gs.BU (fun k _=>by simp [hdT,opT,VV]) (Gs.BU (fun k _=>by simp [hdT,opT,VV]) (Gs.CO 5 (Gs.last (f:=fun b=>KU E m (Hk 5 a b)) (jP (hE.mono (by omega)) hb))))
    · rcases hu3 with rfl|rfl|rfl<;>simp [hdT,opT,VV]
  · have:=jP hE h
    rw [WH (by omega)] at this
    exact Ac.of this
theorem fQ {e:Ex} (hE:HE E N) (h:e.nb):Rd N (MT E) e (plK 3 e (tkE e)) (noT sPr):=(jN e.size e N hE (A8 _) h).fin (fun k hk=>O2 hk (by decide)) (fun n r p hk=>YY n e r p hk)
theorem sN {e:Ex} (hE:HE E N) (h:e.nb):Rd N (MT E) e (ID (tkE e)) (noT sPr):=(Ac.of (oH hE h)).fin (fun k hk=>O2 hk (by decide)) (fun n r p hk=>YY n e r p hk)
theorem oG:∀(s:Nat) (e:Ex) (N:Nat),HE E N→e.size≤s→e.nb→Ac N (L4 E) (TX E) e (plK 2 e (tkE e)) (noT sPr)
 |0,e,_,_,hs,_=>by have:=e.size_pos;omega
 |s+1,e,N,hE,hs,h=>by
  rcases E3 (lvl e) 2 with hl|hl
  · rw [iG hl];exact Ac.of (sN hE h)
  rw [WH hl]
  by_cases h2:lvl e=2
  · obtain ⟨o,n,u,ns,ks,al⟩:=e
    obtain ⟨ho,hu⟩:=hX (by omega) (by omega:lvl (.mk o n u ns ks al)≤3)
    rw [h2] at hu
    obtain ⟨a,b,he,ha,hb,_,_⟩:=aT h ho
    rw [he,jE,hu]
    rw [he] at hs
    have hsz:a.size≤s:=by simp only [Hk,exN,Ex.size,Ex.At] at hs;omega
    have hu3:u=1∨u=2:=by
     unfold Ef at hu;split at hu
     · omega
     · split at hu<;>omega
    refine Ac.step (oG s a N hE hsz ha) (fun m=>?_) (by simp) (fun k hk=>?_)
    · rw [TX]
      rcases hu3 with rfl|rfl
      · exact Gs.CO 5 (Gs.last (f:=fun b=>TX E m (Hk 1 a b)) (fQ (hE.mono (by omega)) hb))
      · exact Gs.BU (fun k _=>by simp [hdT,opT,VV]) (Gs.CO 5 (Gs.last (f:=fun b=>TX E m (Hk 2 a b)) (fQ (hE.mono (by omega)) hb)))
    · rcases hu3 with rfl|rfl
      · show sPr.contains [43]=false;decide
      · show sPr.contains [45]=false;decide
  · have:=fQ hE h
    rw [WH (by omega)] at this
    exact Ac.of this
theorem cW {e:Ex} (hE:HE E N) (h:e.nb):Rd N (L4 E) e (plK 2 e (tkE e)) (noT sSu):=(oG e.size e N hE (A8 _) h).fin (fun k hk=>VU (by decide) hk) (fun n r p hk=>n6 n e r p hk)
theorem wQ {e:Ex} (hE:HE E N) (h:e.nb) (hl:1≤lvl e):Rd N (Wc E) e (tkE e) (noT sEx):=by
 by_cases h1:lvl e=1
 · obtain ⟨o,n,u,ns,ks,al⟩:=e
   obtain ⟨ho,hu⟩:=hX (by omega) (by omega:lvl (.mk o n u ns ks al)≤3)
   rw [h1] at hu
   obtain ⟨a,b,he,ha,hb,g1,g2⟩:=aT h ho
   rw [he,jE,hu]
   have hu3:u=6∨u=7∨u=8:=by
    unfold Ef at hu;split at hu
    · omega
    · split at hu<;>omega
   refine Rd.bind (cW hE ha) ?_ (fun k hk=>?_)
   · rcases hu3 with rfl|rfl|rfl
     · exact Rd.CO 5 (Rd.map (fun b=>Hk 6 a b) ((cW (hE.mono (by omega)) hb).imp (fun k hk=>VU (by decide) hk)))
     · exact Rd.BU (fun k _=>by simp [hdT,opT,VV]) (Rd.CO 5 (Rd.map (fun b=>Hk 7 a b) ((cW (hE.mono (by omega)) hb).imp (fun k hk=>VU (by decide) hk))))
     · exact Rd.BU (fun k _=>by simp [hdT,opT,VV]) (Rd.BU (fun k _=>by simp [hdT,opT,VV]) (Rd.CO 5 (Rd.map (fun b=>Hk 8 a b) ((cW (hE.mono (by omega)) hb).imp (fun k hk=>VU (by decide) hk)))))
   · rcases hu3 with rfl|rfl|rfl
     · show sSu.contains [60]=false;decide
     · show sSu.contains [60,61]=false;decide
     · show sSu.contains [61,61]=false;decide
 · have hs:=cW hE h
   rw [WH (by omega)] at hs
   have:=Rd.bind (K:=noT sEx) (k2:=[]) (f:=fun a=>EV [60] ((L4 E).bind fun b=>.pure (Hk 6 a b)) <|EV [60,61] ((L4 E).bind fun b=>.pure (Hk 7 a b)) <|EV [61,61] ((L4 E).bind fun b=>.pure (Hk 8 a b)) <| .pure a) hs (Rd.BU (fun k hk=>O2 hk (by decide)) (Rd.BU (fun k hk=>O2 hk (by decide)) (Rd.BU (fun k hk=>O2 hk (by decide)) (Rd.pure e)))) (fun k hk=>VU (by decide) hk)
   rw [AZ] at this
   exact this
theorem zU (hE:HE E N) {a:Al} (h:a.nb) (ha:Tz a=true):Rd N (iD E) a (tkA a) (noT sEx):=by
 by_cases hN:N=0
 · subst hN;cases a;exact JC (by simp [tkA,yZ])
 obtain ⟨c,vs,b⟩:=a
 rw [Al.nb] at h
 simp only [Tz,AN] at ha
 rw [tkA,yZ]
 exact Rd.C2 (K1:=fun _=>True) (Rd.take c) (Rd.bind (X8 (Kr:=fun _=>True) (fun _=>trivial) (fun _=>trivial) vs (fun s hs M _=>Rf (A5.1 ha.2 s hs))) (Rd.C2 (K1:=fun _=>True) (Rd.exp 5) (Rd.map (fun x=>Al.mk c vs x) (hE b h _ (by omega))) (fun _ _=>trivial)) (fun k _ _=>by simp [hdT])) (fun _ _=>trivial)
theorem yV {s:Str} (h:Ha s=true) (k:List KT):hdT (shK s++k)≠[40]:=by
 unfold shK
 split
 · simp [hdT]
 · rename_i e
   simp only [Ha,BM,beq_iff_eq] at h
   exact OM (Vy (h.resolve_left e)) (by decide)
theorem To (k:List KT) (t:Str) (h:sEx.contains t=false) (q:Int):noT sEx ((q,t)::k):=h
end
theorem wI:∀(n N:Nat),N≤n→∀e:Ex,e.nb→Rd N (CB n) e (tkE e) (noT sEx)
 |0,N,hN,e,h=>by
  have:N=0:=by omega
  subst this
  exact JC (j1 h)
 |n+1,N,hN,e,h=>by
  by_cases hN0:N=0
  · subst hN0;exact JC (j1 h)
  have hE:HE (CB n) N:=fun x hx M hM=>wI n M (by omega) x hx
  rw [CB]
  by_cases hl:1≤lvl e
  · obtain ⟨q,x,l,e1,_,e2⟩:=xT h
    have hne:∀t∈opens,∀k:List KT,hdT (tkE e++k)≠t:=fun t ht k=>by
     rw [(gV e1 k).1]
     intro e3
     have:=e2 hl
     rw [e3,Dv] at this
     simp [ht] at this
    exact Rd.BU (fun k _=>hne _ (by decide) k) (Rd.BU (fun k _=>hne _ (by decide) k) (Rd.BU (fun k _=>hne _ (by decide) k) (Rd.BU (fun k _=>hne _ (by decide) k) (Rd.BU (fun k _=>hne _ (by decide) k) (wQ hE h hl)))))
  have h0:lvl e=0:=by omega
  obtain ⟨o,nm,u,ns,ks,al⟩:=e
  obtain ⟨hnm,hnu,hns,has,hnk,hk,hal⟩:=bU h
  have hN1:HE (CB n) (N - 1):=hE.mono (by omega)
  rw [tkE,N8,N7]
  rcases ABD h0 with rfl|rfl|rfl|rfl|rfl|rfl
  · obtain ⟨a,b,rfl⟩:=TN (by simpa [nkB] using hnk)
    simp [nmB,nuB,nsB,asB] at hnm hnu hns has
    subst hnu hns has
    refine Rd.CO 4 ?_
    unfold eO
    refine Rd.BU (fun k _=>by rw [AT];exact yV hnm _) ?_
    exact Rd.bind (Rf (K:=fun _=>True) hnm) (Rd.C2 (K1:=fun _=>True) (Rd.exp 5) (Rd.bind (hE a (hk a (by simp)) _ (by omega)) (Rd.C2 (K1:=fun _=>True) (Rd.exp 4) (Rd.map (fun y=>Ex.mk 7 nm 0 [] [a,y] []) (hE b (hk b (by simp)) _ (by omega))) (fun _ _=>trivial)) (fun k _=>To _ [105,110] (by decide) 4)) (fun _ _=>trivial)) (fun _ _=>trivial)
  · obtain ⟨a,b,rfl⟩:=TN (by simpa [nkB] using hnk)
    simp [nmB,nuB,asB] at hnm hnu has
    subst hnm hnu has
    simp only [nsB,if_true,AN,decide_eq_true_eq,A5] at hns
    obtain ⟨⟨h2,_⟩,hb⟩:=hns
    match ns,h2,hb with
    |x::y::l,_,hb=>
     have hs:tkN 8 [] 0 (x::y::l) [a,b] ([a,b].map tkE) ([].map tkA)=(4,[108,101,116])::(5,[40])::(shK x++((5,[44])::((cmK ((y::l).map shK)++[(5,[41])])++((5,[61])::(tkE a++((4,[105,110])::tkE b)))))):=by
      show (4,[108,101,116])::(ID (cmK (shK x::shK y::l.map shK))++((5,[61])::(tkE a++((4,[105,110])::tkE b))))=_
      rw [Sm,ID];simp
     rw [hs]
     refine Rd.CO 4 ?_
     unfold eO
     refine Rd.CO 5 ?_
     exact Rd.bind (Rf (K:=fun _=>True) (hb x (by simp))) (Rd.C2 (K1:=fun _=>True) (Rd.exp 5) (Rd.bind (Oi (K:=fun _=>True) (g:=shK) (Kr:=fun _=>True) (fun _=>trivial) (fun _=>trivial) (by simp) (fun z hz M _=>Rf (hb z (Ah _ hz)))) (Rd.C2 (K1:=fun _=>True) (Rd.exp 5) (Rd.bind (hE a (hk a (by simp)) _ (by omega)) (Rd.C2 (K1:=fun _=>True) (Rd.exp 4) (Rd.map (fun q=>Ex.mk 8 [] 0 (x::y::l) [a,q] []) (hE b (hk b (by simp)) _ (by omega))) (fun _ _=>trivial)) (fun k _=>To _ [105,110] (by decide) 4)) (fun _ _=>trivial)) (fun _ _=>trivial)) (fun _ _=>trivial)) (fun _ _=>trivial)
  · obtain ⟨a,b,c,rfl⟩:=hJ (by simpa [nkB] using hnk)
    simp [nmB,nuB,nsB,asB] at hnm hnu hns has
    subst hnm hnu hns has
    refine Rd.BU (fun k _=>by simp [tkN,hdT]) (Rd.CO 4 ?_)
    exact Rd.bind (hE a (hk a (by simp)) _ (by omega)) (Rd.C2 (K1:=fun _=>True) (Rd.exp 4) (Rd.bind (hE b (hk b (by simp)) _ (by omega)) (Rd.C2 (K1:=fun _=>True) (Rd.exp 4) (Rd.map (fun q=>exN 9 0 [a,b,q]) (hE c (hk c (by simp)) _ (by omega))) (fun _ _=>trivial)) (fun k _=>To _ [101,108,115,101] (by decide) 4)) (fun _ _=>trivial)) (fun k _=>To _ [116,104,101,110] (by decide) 4)
  · obtain ⟨a,rfl⟩:=Wx (by simpa [nkB] using hnk)
    simp [nmB,nuB,nsB] at hnm hnu hns
    subst hnm hnu hns
    have haa:=fZ has
    have hne:al≠[]:=by rintro rfl;simp [asB] at has
    iterate 2 refine Rd.BU (fun k _=>by simp [tkN,hdT]) ?_
    refine Rd.CO 4 ?_
    exact Rd.bind (hE a (hk a (by simp)) _ (by omega)) (Rd.C2 (K1:=fun _=>True) (Rd.exp 4) (Rd.bind (X7 (g:=tkA) (Kr:=noT sEx) (fun k=>To k [124] (by decide) 5) hne (fun x hx M hM=>zU (hE.mono (by omega)) (hal x hx) (haa x hx))) (Rd.C2 (K1:=fun _=>True) (Rd.exp 4) (Rd.pure _) (fun _ _=>trivial)) (fun k _=>⟨To _ [101,110,100] (by decide) 4,by simp [hdT]⟩)) (fun _ _=>trivial)) (fun k _=>To _ [119,105,116,104] (by decide) 4)
  · obtain ⟨a,rfl⟩:=Wx (by simpa [nkB] using hnk)
    simp [nmB,nuB,asB] at hnm hnu has
    subst hnm hnu has
    simp [nsB] at hns
    iterate 3 refine Rd.BU (fun k _=>by simp [tkN,hdT]) ?_
    refine Rd.CO 4 ?_
    exact Rd.C2 (K1:=fun _=>True) (Rd.exp 5) (Rd.bind (K1:=fun _=>True) (aQ (Kr:=fun _=>True) (g:=fun s=>[(1,s)]) (fun _=>trivial) (fun _=>trivial) ns (fun s hs M _=>Rd.take s) (fun s hs k=>OM (Vy (hns.2 s hs)) (by decide))) (Rd.C2 (K1:=fun _=>True) (Rd.exp 5) (Rd.map (fun q=>Ex.mk 11 [] 0 ns [q] []) (hE a (hk a (by simp)) _ (by omega))) (fun _ _=>trivial)) (fun _ _=>trivial)) (fun _ _=>trivial)
  · obtain ⟨a,b,rfl⟩:=TN (by simpa [nkB] using hnk)
    simp [nmB,nuB,nsB,asB] at hnm hnu hns has
    subst hnu hns has
    iterate 4 refine Rd.BU (fun k _=>by simp [tkN,hdT]) ?_
    refine Rd.CO 4 ?_
    exact Rd.bind (hE a (hk a (by simp)) _ (by omega)) (Rd.C2 (K1:=fun _=>True) (Rd.exp 4) (Rd.bind (Rf (K:=fun _=>True) hnm) (Rd.C2 (K1:=fun _=>True) (Rd.exp 5) (Rd.bind (hE b (hk b (by simp)) _ (by omega)) (Rd.C2 (K1:=fun _=>True) (Rd.exp 4) (Rd.pure _) (fun _ _=>trivial)) (fun k _=>To _ [101,110,100] (by decide) 4)) (fun _ _=>trivial)) (fun _ _=>trivial)) (fun _ _=>trivial)) (fun k _=>To _ [99,97,116,99,104] (by decide) 4)
theorem Rd.yA {α:Type} {k0:Int} {y n:PM α} {a:α} {ks:List KT} (hn:∀k,K k→hdK (ks++k)=k0) (h:Rd N y a ks K):Rd N (.kind k0 y n) a ks K:=fun r p k hN hL hs hk=>by
 have hh:=(G9 hs).2
 have e:(PM.kind k0 y n).run ⟨r,false,p⟩=y.run ⟨r,false,p⟩:=if_pos (by rw [PSt.hd,hh];simpa using hn k hk)
 rw [e];exact h r p k hN hL hs hk
theorem wS {f:FE} (h:OF f=true) (hb:f.body.nb) (hN:N≤BE):Rd N Z0 f ((1,f.name)::(Lv (f.params.map fun s=>[(1,s)])++((5,[61])::(tkE f.body++[(5,[59])])))) K:=by
 simp only [OF,AN,A5] at h
 exact Rd.C2 (K1:=fun _=>True) (Rd.take f.name) (Rd.C2 (K1:=fun _=>True) (Rd.exp 5) (Rd.bind (K1:=fun _=>True) (aQ (Kr:=fun _=>True) (g:=fun s=>[(1,s)]) (fun _=>trivial) (fun _=>trivial) f.params (fun s hs M _=>Rd.take s) (fun s hs k=>OM (Vy (h.2 s hs)) (by decide))) (Rd.C2 (K1:=fun _=>True) (Rd.exp 5) (Rd.bind (wI BE _ (by omega) f.body hb) (Rd.C2 (K1:=fun _=>True) (Rd.exp 5) (Rd.pure _) (fun _ _=>trivial)) (fun k _=>To _ [59] (by decide) 5)) (fun _ _=>trivial)) (fun _ _=>trivial)) (fun _ _=>trivial)) (fun _ _=>trivial)
theorem cY:∀(l:List FE) (n N:Nat) (ds:List DE) (fs:List FE),l.length≤n→N≤BE→(∀f∈l,OF f=true∧f.body.nb)→Rd N (MU n ds fs) ⟨ds,fs++l⟩ (l.map tkF).flatten (fun k=>hdK k=6)
 |[],0,N,ds,fs,_,_,_=>by rw [AZ];exact Rd.pure _
 |[],n+1,N,ds,fs,_,_,_=>by
  rw [AZ,MU]
  exact Rd.yA (fun k hk=>hk) (Rd.pure _)
 |f::l,0,N,ds,fs,h,_,_=>by simp at h
 |f::l,n+1,N,ds,fs,h,hN,hf=>by
  have ih:=cY l n (N - 1 - (((1,f.name)::(Lv (f.params.map fun s=>[((1:Int),s)])++((5,[61])::(tkE f.body++[(5,[59])]))):List KT)).length) ds (fs++[f]) (by simp at h;omega) (by omega) (fun x hx=>hf x (Ah _ hx))
  rw [AT] at ih
  rw [MU,AD,Cj,tkF,AX]
  refine Rd.C5 (fun k _=>by simp [hdK]) (Rd.BU (fun k _=>by simp [hdT]) (Rd.CO 4 ?_))
  exact Rd.bind (K1:=fun _=>True) (wS (hf f (Ad ..)).1 (hf f (Ad ..)).2 (by omega)) ih (fun _ _=>trivial)
theorem cX (gs:List FE) (hg:∀f∈gs,OF f=true∧f.body.nb):∀(l:List DE) (n N:Nat) (ds:List DE),l.length+gs.length≤n→N≤BE→(∀d∈l,KG d=true)→Rd N (MU n ds []) ⟨ds++l,gs⟩ ((l.map tkD).flatten++(gs.map tkF).flatten) (fun k=>hdK k=6)
 |[],n,N,ds,h,hN,_=>by
  have:=cY gs n N ds [] (by simpa using h) hN hg
  rw [AZ]
  exact this
 |d::l,0,N,ds,h,_,_=>by simp at h
 |d::l,n+1,N,ds,h,hN,hf=>by
  have ih:=cX gs hg l n (N - 1 - (((2,d.name)::(VW (d.vars.map fun s=>[((1:Int),s)])++((5,[61])::([((5:Int),[124])].intercalate (d.cons.map tkC)++[(5,[59])]))):List KT)).length) (ds++[d]) (by simp at h;omega) (by omega) (fun x hx=>hf x (Ah _ hx))
  rw [AT] at ih
  rw [MU,AD,Cj,tkD,AX,AX,AT]
  refine Rd.C5 (fun k _=>by simp [hdK]) (Rd.CO 4 ?_)
  exact Rd.bind (K1:=fun _=>True) (sO (hf d (Ad ..)) (by omega)) ih (fun _ _=>trivial)
theorem iE {p:Pg} (h:Fu p=true) (hl:(ZP p).length≤16384):Kd (ZP p)=(p,0,0):=by
 obtain ⟨h1,h2⟩:=nU (qM h) hl
 obtain ⟨w,o⟩:=fB h1
 obtain ⟨n1,n2⟩:=fJ h
 have hv:=h
 simp only [Fu,AN,decide_eq_true_eq] at hv
 have hf:=Fk
 have e:=cX p.Ru n2 p.data BE BE [] (by omega) (A8 _) n1 (BR (ZP p)).1 0 [(6,[])] (by have:=o.1;omega) o.1 h2 rfl
 rw [A0] at e
 unfold Kd N0
 rw [if_neg (by rw [h1];simp),e]
 simp only [A1,if_false,h,if_true]
end Go.Ab
namespace Go.Ab
theorem oQ {p:UInt8→Bool}:∀ {l:Str},∀x∈l.takeWhile p,p x=true
 |[],x,h=>by cases h
 |b::l,x,h=>by
  rw [Fa] at h
  split at h
  · rename_i hb
    rcases CN.1 h with rfl|h
    · exact hb
    · exact oQ x h
  · cases h
def aZ (x:Pg×PSt):Pg×Nat×Int:=if x.2.f then (⟨[],[]⟩,x.2.p,2) else if Fu x.1 then (x.1,0,0) else (⟨[],[]⟩,0,9)
theorem UW {s:Str} (h:(BR s).2.2=0):Kd s=aZ (N0.run ⟨(BR s).1,false,0⟩):=by
 unfold Kd aZ
 rw [if_neg (by rw [h];simp)]
theorem lW {x y:Pg×PSt} (h1:x.1=y.1) (h2:x.2.f=y.2.f):(aZ x).1=(aZ y).1∧(aZ x).2.2=(aZ y).2.2:=by
 unfold aZ
 rw [h1,h2]
 split
 · exact ⟨rfl,rfl⟩
 · split<;>exact ⟨rfl,rfl⟩
theorem eP {s t:Str} (hs:(BR s).2.2=0) (ht:(BR t).2.2=0) (h:strip (BR s).1=strip (BR t).1):(Kd s).1=(Kd t).1∧(Kd s).2.2=(Kd t).2.2:=by
 obtain ⟨h1,_,h3⟩:=N0.pm ⟨(BR s).1,false,0⟩ ⟨(BR t).1,false,0⟩ h rfl
 rw [UW hs,UW ht]
 exact lW h1 h3
end Go.Ab
namespace Go.Ab
theorem rO (n:Nat) (ds:List DE) (fs:List FE) (s:PSt):(MU (n+1) ds fs).run s=
 if s.hd.kind==6 then (⟨ds,fs⟩,s)
                         else if s.hd.text==[100,97,116,97] then (MU n (ds++[(Tp.run s.adv).1]) fs).run (Tp.run s.adv).2
                         else if s.hd.text==[102,117,110] then (MU n ds (fs++[(Z0.run s.adv).1])).run (Z0.run s.adv).2
                         else (MU n ds fs).run s.fail:=rfl
theorem y7 {s:PSt} (h:WF s.r) (hk:(s.hd.kind==6)=false):2≤s.r.length:=by
 obtain ⟨r,f,p⟩:=s
 match r,h,hk with
 |[t],h,hk=>
  have:(PSt.mk [t] f p).hd=t:=rfl
  rw [this,h.1] at hk;cases hk
 |t::u::l,_,_=>simp
theorem BP {s:PSt} (h:WF s.r):s.adv.r.length+1=s.r.length:=by
 obtain ⟨r,f,p⟩:=s
 cases r with
 |nil=>exact h.elim
 |cons t l=>rfl
theorem dM {s:PSt} (h:WF s.r):s.fail.r.length=1:=by
 have:1≤s.r.length:=Ar.2 h.ne
 show (VO s.r).length=1
 unfold VO;rw [Aj];omega
end Go.Ab
namespace Go.Ab
variable {α β:Type}
def SzO (c:Nat) (m:PM α) (μ:α→Nat):Prop:=∀s,WF s.r→(m.run s).2.f=false→μ (m.run s).1+(m.run s).2.r.length≤s.r.length+c
theorem SzO.pure {c:Nat} {a:α} {μ:α→Nat} (h:μ a≤c):SzO c (.pure a) μ:=fun s _ _=>by
 show μ a+s.r.length≤s.r.length+c;omega
theorem SzO.bind {c:Nat} {m:PM α} {f:α→PM β} {μ:α→Nat} {ν:β→Nat} (h:SzO 0 m μ) (hf:∀a,SzO (c+μ a) (f a) ν):SzO c (m.bind f) ν:=fun s hw hs=>by
 have hs':((f (m.run s).1).run (m.run s).2).2.f=false:=hs
 have h1:(m.run s).2.f=false:=by
  cases hc:(m.run s).2.f with
  |false=>rfl
  |true=>have:=((f (m.run s).1).st _ hc).1;rw [hs'] at this;cases this
 have e1:=h s hw h1
 have e2:=hf (m.run s).1 (m.run s).2 (m.sf s hw).1 hs'
 show ν ((f (m.run s).1).run (m.run s).2).1+((f (m.run s).1).run (m.run s).2).2.r.length≤_
 omega
theorem SzO.acc {c:Nat} {t:Str} {ht:t≠[]} {y n:PM α} {μ:α→Nat} (hy:SzO (c+1) y μ) (hn:SzO c n μ):SzO c (.acc t ht y n) μ:=fun s hw hs=>by
 cases hc:s.hd.text==t with
 |true=>
  have e:(PM.acc t ht y n).run s=y.run s.adv:=if_pos hc
  rw [e] at hs ⊢
  have hk:s.hd.text≠[]:=by rw [beq_iff_eq] at hc;rw [hc];exact ht
  have h1:=hy s.adv (Sh hw (.inr hk)).1 hs
  have h2:=BP hw
  omega
 |false=>
  have e:(PM.acc t ht y n).run s=n.run s:=if_neg (by rw [hc];decide)
  rw [e] at hs ⊢
  exact hn s hw hs
theorem SzO.kind {c:Nat} {k:Int} {y n:PM α} {μ:α→Nat} (hy:SzO c y μ) (hn:SzO c n μ):SzO c (.kind k y n) μ:=fun s hw hs=>by
 cases hc:s.hd.kind==k with
 |true=>
  have e:(PM.kind k y n).run s=y.run s:=if_pos hc
  rw [e] at hs ⊢
  exact hy s hw hs
 |false=>
  have e:(PM.kind k y n).run s=n.run s:=if_neg (by rw [hc];decide)
  rw [e] at hs ⊢
  exact hn s hw hs
theorem SzO.fail {c:Nat} {a:α} {μ:α→Nat}:SzO c (.fail a) μ:=fun s _ h=>by cases h
theorem SzO.tok {cc:Int→Str→Bool} {hc:∀k t,cc k t=true→k≠6∨t≠[]} {g:Str→α} {b:α}:SzO 0 (.tok cc hc g b) (fun _=>1):=fun s hw hs=>by
 cases hcc:cc s.hd.kind s.hd.text with
 |true=>
  have e:(PM.tok cc hc g b).run s=(g s.hd.text,s.adv):=if_pos hcc
  rw [e]
  have h2:=BP hw
  show 1+s.adv.r.length≤_
  omega
 |false=>
  have e:(PM.tok cc hc g b).run s=(b,s.fail):=if_neg (by rw [hcc];decide)
  rw [e] at hs
  cases hs
theorem SzO.mono {c:Nat} {m:PM α} {μ ν:α→Nat} (h:SzO c m μ) (hl:∀a,ν a≤μ a):SzO c m ν:=fun s hw hs=>by
 have:=h s hw hs;have:=hl (m.run s).1;omega
def EB (μ:α→Nat) (l:List α):Nat:=(l.map μ).sum
theorem fD (μ:α→Nat) (l m:List α):EB μ (l++m)=EB μ l+EB μ m:=by simp [EB]
theorem Yq (μ:α→Nat) (x:α):EB μ [x]=μ x:=by simp [EB]
theorem V5 {μ:α→Nat} {l:List α} {x:α} (h:x∈l):μ x≤EB μ l:=by
 induction l with
 |nil=>cases h
 |cons y l ih=>
  simp only [EB,AD,List.sum_cons] at ih ⊢
  rcases CN.1 h with rfl|h
  · omega
  · have:=ih h;omega
theorem Yr {read:PM α} {t:Str} {ht:t≠[]} {μ:α→Nat} (h:SzO 0 read μ):∀(n c:Nat) (l:List α),EB μ l≤c→SzO c (EZ read t ht n l) (EB μ)
 |0,c,l,hl=>SzO.pure hl
 |n+1,c,l,hl=>SzO.acc (SzO.bind h (fun a=>Yr h n _ _ (by rw [fD,Yq];omega))) (SzO.pure hl)
theorem aG {read:PM α} {t:Str} {ht:t≠[]} {μ:α→Nat} (h:SzO 0 read μ):SzO 0 (items read t ht) (EB μ):=
 SzO.bind h (fun a=>Yr h _ _ _ (by rw [Yq];omega))
theorem OK {t:Str} {ht:t≠[]}:SzO 0 (.exp t ht) (fun _=>1):=SzO.tok
theorem Sc {k:Int} {hk:k≠6}:SzO 0 (.take k hk) (fun _=>1):=SzO.tok
theorem U7 {read:PM α} {μ:α→Nat} (h:SzO 0 read μ):SzO 0 (listed read) (EB μ):=SzO.bind (aG h) (fun a=>SzO.bind OK (fun _=>SzO.pure (by omega)))
theorem jB {read:PM α} {μ:α→Nat} (h:SzO 0 read μ):SzO 0 (closed read) (EB μ):=SzO.acc (SzO.pure (by simp [EB])) (U7 h)
theorem Ys {read:PM α} {μ:α→Nat} (h:SzO 0 read μ):SzO 0 (I7 read) (EB μ):=SzO.acc (fun s hw hs=>by have:=U7 h s hw hs;omega) (SzO.pure (by simp [EB]))
theorem P8:∀l:List TE,TE.At l=EB TE.size l
 |[]=>rfl
 |t::l=>by rw [TE.At,P8 l];simp [EB]
theorem kT:∀n,SzO 0 (GB n) TE.size
 |0=>SzO.fail
 |n+1=>by
  have ih:=kT n
  have hel:∀k,SzO 1 (SU k (GB n)) TE.size:=fun k=>SzO.bind OK (fun _=>SzO.bind ih (fun t=>SzO.bind OK (fun _=>SzO.pure (by simp [TE.size,TE.At];omega))))
  rw [GB]
  refine SzO.kind (SzO.bind Sc (fun x=>SzO.pure (by simp [TE.size,TE.At]))) ?_
  refine SzO.kind (SzO.bind Sc (fun x=>SzO.bind (Ys ih) (fun l=>SzO.pure (by rw [TE.size,P8];omega)))) ?_
  refine SzO.acc (SzO.pure (by simp [TE.size,TE.At])) (SzO.acc (SzO.pure (by simp [TE.size,TE.At])) (SzO.acc (SzO.pure (by simp [TE.size,TE.At])) (SzO.acc (hel 7) (SzO.acc (hel 8) (SzO.acc ?_ (SzO.acc ?_ SzO.fail))))))
  · exact SzO.bind ih (fun a=>SzO.bind OK (fun _=>SzO.bind (U7 ih) (fun l=>SzO.pure (by rw [TE.size,TE.At,P8];omega))))
  · exact SzO.bind OK (fun _=>SzO.bind (jB ih) (fun l=>SzO.bind OK (fun _=>SzO.bind ih (fun t=>SzO.pure (by rw [TE.size,TE.Cr,TE.At,TE.At,P8];omega)))))
def oZ (c:CE):Nat:=EB TE.size c.args
def gQ (d:DE):Nat:=EB oZ d.cons
theorem vG:SzO 0 eN oZ:=SzO.bind Sc (fun c=>SzO.bind (Ys (kT _)) (fun l=>SzO.pure (by show EB TE.size l≤_;omega)))
theorem sA:SzO 0 Tp gQ:=SzO.bind Sc (fun c=>SzO.bind (Ys (μ:=fun _=>0) (Sc.mono (fun _=>by omega))) (fun l=>SzO.bind OK (fun _=>SzO.bind (aG vG) (fun cs=>SzO.bind OK (fun _=>SzO.pure (by show EB oZ cs≤_;omega))))))
theorem zro (m:PM α):SzO 0 m (fun _=>0):=fun s hw _=>by have:=(m.sf s hw).2.length_le;simp only;omega
theorem V6:∀(n c:Nat) (ds:List DE) (fs:List FE),EB gQ ds≤c→SzO c (MU n ds fs) (fun p=>EB gQ p.data)
 |0,c,ds,fs,h=>SzO.pure h
 |n+1,c,ds,fs,h=>by
  rw [MU]
  exact SzO.kind (SzO.pure h) (SzO.acc (SzO.bind sA (fun d=>V6 n _ _ _ (by rw [fD,Yq];omega))) (SzO.acc (SzO.bind (zro Z0) (fun f=>V6 n _ _ _ (by omega))) (SzO.bind (zro (PM.fail ())) (fun _=>V6 n _ _ _ (by omega)))))
theorem eU {r:List Tok} {p:Nat} (hw:WF r) (hl:r.length≤17000) (hf:(N0.run ⟨r,false,p⟩).2.f=false):∀d∈(N0.run ⟨r,false,p⟩).1.data,∀c∈d.cons,∀t∈c.args,t.size≤17000:=by
 have h:=V6 BE 0 [] [] (by simp [EB]) ⟨r,false,p⟩ hw hf
 intro d hd c hc t ht
 have h1:t.size≤oZ c:=V5 ht
 have h2:oZ c≤gQ d:=V5 hc
 have h3:gQ d≤EB gQ (N0.run ⟨r,false,p⟩).1.data:=V5 hd
 have h4:EB gQ (N0.run ⟨r,false,p⟩).1.data+(N0.run ⟨r,false,p⟩).2.r.length≤r.length+0:=h
 omega
end Go.Ab
