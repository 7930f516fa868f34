/- Reading the tokens of a formatted text back, in plain data: levels, programs. Blanks between tokens, and texts in a row: their tokens, in plain data. Conditions: none. -/
import Derived.Test.YtifplkldbbcldaaGreatDoorXQk
set_option linter.unusedSimpArgs false
set_option linter.unusedVariables false
set_option maxRecDepth 4000
set_option maxHeartbeats 8000000
open Nat renaming zero_le→CS,lt_or_ge→Cl,le_refl→A7,le_one_iff_eq_zero_or_eq_one→Gn
open List renaming length→N8,length_append→AA,length_pos_iff→An,mem_cons_self→Aa,mem_cons_of_mem→Ai,append_nil→A1,all_eq_true→A5,contains_eq_mem→Dv,append_assoc→AS,map_cons→AF,flatten_cons→Ck,cons_append→AY,nil_append→A6,takeWhile_cons→Bg,mem_cons→Bv,length_cons→AD,length_drop→Ag,take_append_drop→D4,length_take→B2,map_append→BU
open Bool renaming and_eq_true→AL,or_eq_true→BM,false_eq_true→AU,or_eq_false_iff→Cw
open Except.ok renaming injEq→Dj
open Prod.mk renaming injEq→BH
namespace Go.Ab
variable {N:Nat} {K:List KT→Prop}
theorem kY (u:Int):Ee u≤3:=by
 unfold Ee;split
 · omega
 · split<;>omega
def nN (o u:Int):Nat:=if o=7∨o=8∨o=9∨o=10∨o=11∨o=17 then 0 else if o=13 then Ee u else if o=12 then 4 else 5
theorem bN {o u:Int} {n:Str} {ns:List Str} {ks:List Ex} {al:List Al}:lvl (.mk o n u ns ks al)=nN o u:=rfl
theorem Sa (o u:Int):((o=7∨o=8∨o=9∨o=10∨o=11∨o=17)∧nN o u=0)∨(o=13∧nN o u=Ee u)∨(o=12∧nN o u=4)∨nN o u=5:=by
 unfold nN
 split
 · rename_i h;exact .inl ⟨h,rfl⟩
 · split
   · rename_i h;exact .inr (.inl ⟨h,rfl⟩)
   · split
     · rename_i h;exact .inr (.inr (.inl ⟨h,rfl⟩))
     · exact .inr (.inr (.inr rfl))
theorem y9 (e:Ex):lvl e≤5:=by
 obtain ⟨o,n,u,ns,ks,al⟩:=e
 have:=kY u
 have:=Sa o u
 rw [bN];omega
theorem ABW {o u:Int} {n:Str} {ns:List Str} {ks:List Ex} {al:List Al} (h:lvl (.mk o n u ns ks al)=4):o=12:=by
 have:=kY u
 have:=Sa o u
 rw [bN] at h;omega
theorem iH {o u:Int} {n:Str} {ns:List Str} {ks:List Ex} {al:List Al} (h:1≤lvl (.mk o n u ns ks al)) (h2:lvl (.mk o n u ns ks al)≤3):o=13∧Ee u=lvl (.mk o n u ns ks al):=by
 have:=Sa o u
 rw [bN] at *;omega
theorem ABV {o u:Int} {n:Str} {ns:List Str} {ks:List Ex} {al:List Al} (h:lvl (.mk o n u ns ks al)=0):o=7∨o=8∨o=9∨o=10∨o=11∨o=17:=by
 have:=eC u
 have:=Sa o u
 rw [bN] at h;omega
theorem iR {d:Nat} {e:Ex} {t:List KT} (h:lvl e < d):plK d e t=Hu t:=if_pos h
theorem Vc {d:Nat} {e:Ex} {t:List KT} (h:d≤lvl e):plK d e t=t:=if_neg (by omega)
theorem zH {d:Nat} {e:Ex} (h:e.nb):plK d e (tkE e)≠[]:=by
 unfold plK;split
 · simp [Hu]
 · exact kC h
theorem Ac.zero {m:PM Ex} {c:Nat→Ex→PM Ex} {e:Ex} {ks:List KT} (h:ks≠[]):Ac 0 m c e ks K:=⟨0,CS _,fun r p k h1 _ hs _=>by
 have:=congrArg N8 hs
 rw [KS,AA] at this
 have:=An.2 h
 omega⟩
section
variable {E:PM Ex}
theorem oQ:∀(s:Nat) (e:Ex) (N:Nat),HE E N→e.size≤s→e.nb→Ac N (Qp E) (Ti E) e (plK 4 e (tkE e)) (fun k=>M3 e=true→hdT k≠[40])
 |0,e,_,_,hs,_=>by have:=e.size_pos;omega
 |s+1,e,N,hE,hs,h=>by
  by_cases hN:N=0
  · subst hN;exact Ac.zero (zH h)
  rcases Cl (lvl e) 4 with hl|hl
  · rw [iR hl];exact Ac.of (XL hE h)
  rw [Vc hl]
  by_cases h5:lvl e=5
  · exact Ac.of (tJ hE h h5)
  have h4:lvl e=4:=by have:=y9 e;omega
  obtain ⟨o,n,u,ns,ks,al⟩:=e
  have:=ABW h4
  subst this
  obtain ⟨hnm,hnu,hns,has,hnk,hk,-⟩:=bP h
  simp [nmB,nuB,nsB,asB,nkB] at hnm hnu hns has hnk
  subst hnm hnu hns has
  cases ks with
  |nil=>simp at hnk
  |cons f l=>
   have hf:=hk f (Aa ..)
   rw [tkE,NJ,NI]
   show Ac N (Qp E) (Ti E) (.mk 12 [] 0 [] (f::l) []) ((if M3 f then Hu (tkE f) else plK 4 f (tkE f))++L7 (l.map tkE)) _
   refine Ac.step (K1:=fun _=>True) (a:=f) ?_ (fun m=>?_) (by simp [L7,Hu]) (fun _ _=>trivial)
   · split
     · exact Ac.of (XL hE hf)
     · rename_i hb
       exact (oQ s f N hE (by simp only [Ex.size,Ex.BS] at hs;omega) hf).imp (fun k _ hb'=>absurd hb' hb)
   · rw [Ti,L7,Hu]
     refine Gs.CQ 5 (Gs.last (f:=fun l=>Ti E m (exN 12 0 (f::l))) (aP (Kr:=noT sEx) X8 YN l (fun x hx M hM=>hE x (hk x (Ai _ hx)) M (by omega)) (fun x hx k=>pW (hk x (Ai _ hx)) k)))
theorem j0 {e:Ex} (hE:HE E N) (h:e.nb):Rd N (Qp E) e (plK 4 e (tkE e)) (fun k=>hdT k≠[40]):=(oQ e.size e N hE (A7 _) h).fin (fun k hk _=>hk) (fun n r p hk=>Z8 n e r p hk)
theorem oS {e:Ex} (hE:HE E N) (h:e.nb):Rd N (Qp E) e (Hu (tkE e)) (fun k=>hdT k≠[40]):=(Ac.of (K:=fun _=>True) (XL hE h)).fin (fun _ _=>trivial) (fun n r p hk=>Z8 n e r p hk)
theorem aT {o u:Int} {n:Str} {ns:List Str} {ks:List Ex} {al:List Al} (h:(Ex.mk o n u ns ks al).nb) (ho:o=13):∃a b,Ex.mk o n u ns ks al=Ha u a b∧a.nb∧b.nb∧1≤u∧u≤8:=by
 subst ho
 obtain ⟨hnm,hnu,hns,has,hnk,hk,-⟩:=bP h
 simp [nmB,nuB,nsB,asB,nkB] at hnm hnu hns has hnk
 subst hnm hns has
 obtain ⟨a,b,rfl⟩:=Sx hnk
 exact ⟨a,b,rfl,hk a (by simp),hk b (by simp),hnu.1,hnu.2⟩
theorem jP {u:Int} {a b:Ex}:tkE (Ha u a b)=plK (if Ee u=1 then 2 else Ee u) a (tkE a)++((5,opT u)::plK (if Ee u=1 then 2 else Ee u+1) b (tkE b)):=by
 show tkE (.mk 13 [] u [] [a,b] [])=_
 rw [tkE,NJ,NI];rfl
theorem jY:∀(s:Nat) (e:Ex) (N:Nat),HE E N→e.size≤s→e.nb→Ac N (Lw E) (Jv E) e (plK 3 e (tkE e)) (fun k=>hdT k≠[40])
 |0,e,_,_,hs,_=>by have:=e.size_pos;omega
 |s+1,e,N,hE,hs,h=>by
  rcases Cl (lvl e) 3 with hl|hl
  · rw [iR hl];exact Ac.of (oS hE h)
  rw [Vc hl]
  by_cases h3:lvl e=3
  · obtain ⟨o,n,u,ns,ks,al⟩:=e
    obtain ⟨ho,hu⟩:=iH (by omega) (by omega:lvl (.mk o n u ns ks al)≤3)
    rw [h3] at hu
    obtain ⟨a,b,he,ha,hb,_,_⟩:=aT h ho
    rw [he,jP,hu]
    rw [he] at hs
    have hsz:a.size≤s:=by simp only [Ha,exN,Ex.size,Ex.BS] at hs;omega
    have hu3:u=3∨u=4∨u=5:=by
     unfold Ee at hu;split at hu
     · omega
     · split at hu<;>omega
    refine Ac.step (jY s a N hE hsz ha) (fun m=>?_) (by simp) (fun k hk=>?_)
    · rw [Jv]
      rcases hu3 with rfl|rfl|rfl
      · exact Gs.CQ 5 (Gs.last (f:=fun b=>Jv E m (Ha 3 a b)) (j0 (hE.mono (by omega)) hb))
      · exact Gs.BZ (fun k _=>by simp [hdT,opT,Us]) (Gs.CQ 5 (Gs.last (f:=fun b=>Jv E m (Ha 4 a b)) (j0 (hE.mono (by omega)) hb)))
      · exact Gs.BZ (fun k _=>by simp [hdT,opT,Us]) (Gs.BZ (fun k _=>by simp [hdT,opT,Us]) (Gs.CQ 5 (Gs.last (f:=fun b=>Jv E m (Ha 5 a b)) (j0 (hE.mono (by omega)) hb))))
    · rcases hu3 with rfl|rfl|rfl<;>simp [hdT,opT,Us]
  · have:=j0 hE h
    rw [Vc (by omega)] at this
    exact Ac.of this
theorem fQ {e:Ex} (hE:HE E N) (h:e.nb):Rd N (Lw E) e (plK 3 e (tkE e)) (noT sPr):=(jY e.size e N hE (A7 _) h).fin (fun k hk=>OB hk (by decide)) (fun n r p hk=>YH n e r p hk)
theorem tH {e:Ex} (hE:HE E N) (h:e.nb):Rd N (Lw E) e (Hu (tkE e)) (noT sPr):=(Ac.of (oS hE h)).fin (fun k hk=>OB hk (by decide)) (fun n r p hk=>YH n e r p hk)
theorem oR:∀(s:Nat) (e:Ex) (N:Nat),HE E N→e.size≤s→e.nb→Ac N (LF E) (TH E) e (plK 2 e (tkE e)) (noT sPr)
 |0,e,_,_,hs,_=>by have:=e.size_pos;omega
 |s+1,e,N,hE,hs,h=>by
  rcases Cl (lvl e) 2 with hl|hl
  · rw [iR hl];exact Ac.of (tH hE h)
  rw [Vc hl]
  by_cases h2:lvl e=2
  · obtain ⟨o,n,u,ns,ks,al⟩:=e
    obtain ⟨ho,hu⟩:=iH (by omega) (by omega:lvl (.mk o n u ns ks al)≤3)
    rw [h2] at hu
    obtain ⟨a,b,he,ha,hb,_,_⟩:=aT h ho
    rw [he,jP,hu]
    rw [he] at hs
    have hsz:a.size≤s:=by simp only [Ha,exN,Ex.size,Ex.BS] at hs;omega
    have hu3:u=1∨u=2:=by
     unfold Ee at hu;split at hu
     · omega
     · split at hu<;>omega
    refine Ac.step (oR s a N hE hsz ha) (fun m=>?_) (by simp) (fun k hk=>?_)
    · rw [TH]
      rcases hu3 with rfl|rfl
      · exact Gs.CQ 5 (Gs.last (f:=fun b=>TH E m (Ha 1 a b)) (fQ (hE.mono (by omega)) hb))
      · exact Gs.BZ (fun k _=>by simp [hdT,opT,Us]) (Gs.CQ 5 (Gs.last (f:=fun b=>TH E m (Ha 2 a b)) (fQ (hE.mono (by omega)) hb)))
    · rcases hu3 with rfl|rfl
      · show sPr.contains [43]=false;decide
      · show sPr.contains [45]=false;decide
  · have:=fQ hE h
    rw [Vc (by omega)] at this
    exact Ac.of this
theorem cQ {e:Ex} (hE:HE E N) (h:e.nb):Rd N (LF E) e (plK 2 e (tkE e)) (noT sSu):=(oR e.size e N hE (A7 _) h).fin (fun k hk=>Ur (by decide) hk) (fun n r p hk=>oI n e r p hk)
theorem xM {e:Ex} (hE:HE E N) (h:e.nb) (hl:1≤lvl e):Rd N (WK E) e (tkE e) (noT sEx):=by
 by_cases h1:lvl e=1
 · obtain ⟨o,n,u,ns,ks,al⟩:=e
   obtain ⟨ho,hu⟩:=iH (by omega) (by omega:lvl (.mk o n u ns ks al)≤3)
   rw [h1] at hu
   obtain ⟨a,b,he,ha,hb,g1,g2⟩:=aT h ho
   rw [he,jP,hu]
   have hu3:u=6∨u=7∨u=8:=by
    unfold Ee at hu;split at hu
    · omega
    · split at hu<;>omega
   refine Rd.bind (cQ hE ha) ?_ (fun k hk=>?_)
   · rcases hu3 with rfl|rfl|rfl
     · exact Rd.CQ 5 (Rd.map (fun b=>Ha 6 a b) ((cQ (hE.mono (by omega)) hb).imp (fun k hk=>Ur (by decide) hk)))
     · exact Rd.BZ (fun k _=>by simp [hdT,opT,Us]) (Rd.CQ 5 (Rd.map (fun b=>Ha 7 a b) ((cQ (hE.mono (by omega)) hb).imp (fun k hk=>Ur (by decide) hk))))
     · exact Rd.BZ (fun k _=>by simp [hdT,opT,Us]) (Rd.BZ (fun k _=>by simp [hdT,opT,Us]) (Rd.CQ 5 (Rd.map (fun b=>Ha 8 a b) ((cQ (hE.mono (by omega)) hb).imp (fun k hk=>Ur (by decide) hk)))))
   · rcases hu3 with rfl|rfl|rfl
     · show sSu.contains [60]=false;decide
     · show sSu.contains [60,61]=false;decide
     · show sSu.contains [61,61]=false;decide
 · have hs:=cQ hE h
   rw [Vc (by omega)] at hs
   have:=Rd.bind (K:=noT sEx) (k2:=[]) (f:=fun a=>ET [60] ((LF E).bind fun b=>.pure (Ha 6 a b)) <|ET [60,61] ((LF E).bind fun b=>.pure (Ha 7 a b)) <|ET [61,61] ((LF E).bind fun b=>.pure (Ha 8 a b)) <| .pure a) hs (Rd.BZ (fun k hk=>OB hk (by decide)) (Rd.BZ (fun k hk=>OB hk (by decide)) (Rd.BZ (fun k hk=>OB hk (by decide)) (Rd.pure e)))) (fun k hk=>Ur (by decide) hk)
   rw [A1] at this
   exact this
theorem AAN (hE:HE E N) {a:Al} (h:a.nb) (ha:M2 a=true):Rd N (iN E) a (tkA a) (noT sEx):=by
 by_cases hN:N=0
 · subst hN;cases a;exact Im (by simp [tkA,zR])
 obtain ⟨c,vs,b⟩:=a
 rw [Al.nb] at h
 simp only [M2,AL] at ha
 rw [tkA,zR]
 exact Rd.C3 (K1:=fun _=>True) (Rd.take c) (Rd.bind (XK (Kr:=fun _=>True) (fun _=>trivial) (fun _=>trivial) vs (fun s hs M _=>RO (A5.1 ha.2 s hs))) (Rd.C3 (K1:=fun _=>True) (Rd.exp 5) (Rd.map (fun x=>Al.mk c vs x) (hE b h _ (by omega))) (fun _ _=>trivial)) (fun k _ _=>by simp [hdT])) (fun _ _=>trivial)
theorem zN {s:Str} (h:GK s=true) (k:List KT):hdT (shK s++k)≠[40]:=by
 unfold shK
 split
 · simp [hdT]
 · rename_i e
   simp only [GK,BM,beq_iff_eq] at h
   exact Nn (V9 (h.resolve_left e)) (by decide)
theorem Ta (k:List KT) (t:Str) (h:sEx.contains t=false) (q:Int):noT sEx ((q,t)::k):=h
end
theorem xB:∀(n N:Nat),N≤n→∀e:Ex,e.nb→Rd N (CD n) e (tkE e) (noT sEx)
 |0,N,hN,e,h=>by
  have:N=0:=by omega
  subst this
  exact Im (kC h)
 |n+1,N,hN,e,h=>by
  by_cases hN0:N=0
  · subst hN0;exact Im (kC h)
  have hE:HE (CD n) N:=fun x hx M hM=>xB n M (by omega) x hx
  rw [CD]
  by_cases hl:1≤lvl e
  · obtain ⟨q,x,l,e1,_,e2⟩:=yO h
    have hne:∀t∈opens,∀k:List KT,hdT (tkE e++k)≠t:=fun t ht k=>by
     rw [(gW e1 k).1]
     intro e3
     have:=e2 hl
     rw [e3,Dv] at this
     simp [ht] at this
    exact Rd.BZ (fun k _=>hne _ (by decide) k) (Rd.BZ (fun k _=>hne _ (by decide) k) (Rd.BZ (fun k _=>hne _ (by decide) k) (Rd.BZ (fun k _=>hne _ (by decide) k) (Rd.BZ (fun k _=>hne _ (by decide) k) (xM hE h hl)))))
  have h0:lvl e=0:=by omega
  obtain ⟨o,nm,u,ns,ks,al⟩:=e
  obtain ⟨hnm,hnu,hns,has,hnk,hk,hal⟩:=bP h
  have hN1:HE (CD n) (N - 1):=hE.mono (by omega)
  rw [tkE,NJ,NI]
  rcases ABV h0 with rfl|rfl|rfl|rfl|rfl|rfl
  · obtain ⟨a,b,rfl⟩:=Sx (by simpa [nkB] using hnk)
    simp [nmB,nuB,nsB,asB] at hnm hnu hns has
    subst hnu hns has
    refine Rd.CQ 4 ?_
    unfold eD
    refine Rd.BZ (fun k _=>by rw [AS];exact zN hnm _) ?_
    exact Rd.bind (RO (K:=fun _=>True) hnm) (Rd.C3 (K1:=fun _=>True) (Rd.exp 5) (Rd.bind (hE a (hk a (by simp)) _ (by omega)) (Rd.C3 (K1:=fun _=>True) (Rd.exp 4) (Rd.map (fun y=>Ex.mk 7 nm 0 [] [a,y] []) (hE b (hk b (by simp)) _ (by omega))) (fun _ _=>trivial)) (fun k _=>Ta _ [105,110] (by decide) 4)) (fun _ _=>trivial)) (fun _ _=>trivial)
  · obtain ⟨a,b,rfl⟩:=Sx (by simpa [nkB] using hnk)
    simp [nmB,nuB,asB] at hnm hnu has
    subst hnm hnu has
    simp only [nsB,if_true,AL,decide_eq_true_eq,A5] at hns
    obtain ⟨⟨h2,_⟩,hb⟩:=hns
    match ns,h2,hb with
    |x::y::l,_,hb=>
     have hs:tkN 8 [] 0 (x::y::l) [a,b] ([a,b].map tkE) ([].map tkA)=(4,[108,101,116])::(5,[40])::(shK x++((5,[44])::((cmK ((y::l).map shK)++[(5,[41])])++((5,[61])::(tkE a++((4,[105,110])::tkE b)))))):=by
      show (4,[108,101,116])::(Hu (cmK (shK x::shK y::l.map shK))++((5,[61])::(tkE a++((4,[105,110])::tkE b))))=_
      rw [S3,Hu];simp
     rw [hs]
     refine Rd.CQ 4 ?_
     unfold eD
     refine Rd.CQ 5 ?_
     exact Rd.bind (RO (K:=fun _=>True) (hb x (by simp))) (Rd.C3 (K1:=fun _=>True) (Rd.exp 5) (Rd.bind (OR (K:=fun _=>True) (g:=shK) (Kr:=fun _=>True) (fun _=>trivial) (fun _=>trivial) (by simp) (fun z hz M _=>RO (hb z (Ai _ hz)))) (Rd.C3 (K1:=fun _=>True) (Rd.exp 5) (Rd.bind (hE a (hk a (by simp)) _ (by omega)) (Rd.C3 (K1:=fun _=>True) (Rd.exp 4) (Rd.map (fun q=>Ex.mk 8 [] 0 (x::y::l) [a,q] []) (hE b (hk b (by simp)) _ (by omega))) (fun _ _=>trivial)) (fun k _=>Ta _ [105,110] (by decide) 4)) (fun _ _=>trivial)) (fun _ _=>trivial)) (fun _ _=>trivial)) (fun _ _=>trivial)
  · obtain ⟨a,b,c,rfl⟩:=iD (by simpa [nkB] using hnk)
    simp [nmB,nuB,nsB,asB] at hnm hnu hns has
    subst hnm hnu hns has
    refine Rd.BZ (fun k _=>by simp [tkN,hdT]) (Rd.CQ 4 ?_)
    exact Rd.bind (hE a (hk a (by simp)) _ (by omega)) (Rd.C3 (K1:=fun _=>True) (Rd.exp 4) (Rd.bind (hE b (hk b (by simp)) _ (by omega)) (Rd.C3 (K1:=fun _=>True) (Rd.exp 4) (Rd.map (fun q=>exN 9 0 [a,b,q]) (hE c (hk c (by simp)) _ (by omega))) (fun _ _=>trivial)) (fun k _=>Ta _ [101,108,115,101] (by decide) 4)) (fun _ _=>trivial)) (fun k _=>Ta _ [116,104,101,110] (by decide) 4)
  · obtain ⟨a,rfl⟩:=W9 (by simpa [nkB] using hnk)
    simp [nmB,nuB,nsB] at hnm hnu hns
    subst hnm hnu hns
    have haa:=gA has
    have hne:al≠[]:=by rintro rfl;simp [asB] at has
    iterate 2 refine Rd.BZ (fun k _=>by simp [tkN,hdT]) ?_
    refine Rd.CQ 4 ?_
    exact Rd.bind (hE a (hk a (by simp)) _ (by omega)) (Rd.C3 (K1:=fun _=>True) (Rd.exp 4) (Rd.bind (XJ (g:=tkA) (Kr:=noT sEx) (fun k=>Ta k [124] (by decide) 5) hne (fun x hx M hM=>AAN (hE.mono (by omega)) (hal x hx) (haa x hx))) (Rd.C3 (K1:=fun _=>True) (Rd.exp 4) (Rd.pure _) (fun _ _=>trivial)) (fun k _=>⟨Ta _ [101,110,100] (by decide) 4,by simp [hdT]⟩)) (fun _ _=>trivial)) (fun k _=>Ta _ [119,105,116,104] (by decide) 4)
  · obtain ⟨a,rfl⟩:=W9 (by simpa [nkB] using hnk)
    simp [nmB,nuB,asB] at hnm hnu has
    subst hnm hnu has
    simp [nsB] at hns
    iterate 3 refine Rd.BZ (fun k _=>by simp [tkN,hdT]) ?_
    refine Rd.CQ 4 ?_
    exact Rd.C3 (K1:=fun _=>True) (Rd.exp 5) (Rd.bind (K1:=fun _=>True) (aP (Kr:=fun _=>True) (g:=fun s=>[(1,s)]) (fun _=>trivial) (fun _=>trivial) ns (fun s hs M _=>Rd.take s) (fun s hs k=>Nn (V9 (hns.2 s hs)) (by decide))) (Rd.C3 (K1:=fun _=>True) (Rd.exp 5) (Rd.map (fun q=>Ex.mk 11 [] 0 ns [q] []) (hE a (hk a (by simp)) _ (by omega))) (fun _ _=>trivial)) (fun _ _=>trivial)) (fun _ _=>trivial)
  · obtain ⟨a,b,rfl⟩:=Sx (by simpa [nkB] using hnk)
    simp [nmB,nuB,nsB,asB] at hnm hnu hns has
    subst hnu hns has
    iterate 4 refine Rd.BZ (fun k _=>by simp [tkN,hdT]) ?_
    refine Rd.CQ 4 ?_
    exact Rd.bind (hE a (hk a (by simp)) _ (by omega)) (Rd.C3 (K1:=fun _=>True) (Rd.exp 4) (Rd.bind (RO (K:=fun _=>True) hnm) (Rd.C3 (K1:=fun _=>True) (Rd.exp 5) (Rd.bind (hE b (hk b (by simp)) _ (by omega)) (Rd.C3 (K1:=fun _=>True) (Rd.exp 4) (Rd.pure _) (fun _ _=>trivial)) (fun k _=>Ta _ [101,110,100] (by decide) 4)) (fun _ _=>trivial)) (fun _ _=>trivial)) (fun _ _=>trivial)) (fun k _=>Ta _ [99,97,116,99,104] (by decide) 4)
theorem Rd.yW {α:Type} {k0:Int} {y n:PM α} {a:α} {ks:List KT} (hn:∀k,K k→hdK (ks++k)=k0) (h:Rd N y a ks K):Rd N (.kind k0 y n) a ks K:=fun r p k hN hL hs hk=>by
 have hh:=(G2 hs).2
 have e:(PM.kind k0 y n).run ⟨r,false,p⟩=y.run ⟨r,false,p⟩:=if_pos (by rw [PSt.hd,hh];simpa using hn k hk)
 rw [e];exact h r p k hN hL hs hk
theorem xO {f:FE} (h:Mm f=true) (hb:f.body.nb) (hN:N≤BC):Rd N Pt f ((1,f.name)::(L7 (f.params.map fun s=>[(1,s)])++((5,[61])::(tkE f.body++[(5,[59])])))) K:=by
 simp only [Mm,AL,A5] at h
 exact Rd.C3 (K1:=fun _=>True) (Rd.take f.name) (Rd.C3 (K1:=fun _=>True) (Rd.exp 5) (Rd.bind (K1:=fun _=>True) (aP (Kr:=fun _=>True) (g:=fun s=>[(1,s)]) (fun _=>trivial) (fun _=>trivial) f.params (fun s hs M _=>Rd.take s) (fun s hs k=>Nn (V9 (h.2 s hs)) (by decide))) (Rd.C3 (K1:=fun _=>True) (Rd.exp 5) (Rd.bind (xB BC _ (by omega) f.body hb) (Rd.C3 (K1:=fun _=>True) (Rd.exp 5) (Rd.pure _) (fun _ _=>trivial)) (fun k _=>Ta _ [59] (by decide) 5)) (fun _ _=>trivial)) (fun _ _=>trivial)) (fun _ _=>trivial)) (fun _ _=>trivial)
theorem cS:∀(l:List FE) (n N:Nat) (ds:List DE) (fs:List FE),l.length≤n→N≤BC→(∀f∈l,Mm f=true∧f.body.nb)→Rd N (Ds n ds fs) ⟨ds,fs++l⟩ (l.map tkF).flatten (fun k=>hdK k=6)
 |[],0,N,ds,fs,_,_,_=>by rw [A1];exact Rd.pure _
 |[],n+1,N,ds,fs,_,_,_=>by
  rw [A1,Ds]
  exact Rd.yW (fun k hk=>hk) (Rd.pure _)
 |f::l,0,N,ds,fs,h,_,_=>by simp at h
 |f::l,n+1,N,ds,fs,h,hN,hf=>by
  have ih:=cS l n (N - 1 - (((1,f.name)::(L7 (f.params.map fun s=>[((1:Int),s)])++((5,[61])::(tkE f.body++[(5,[59])]))):List KT)).length) ds (fs++[f]) (by simp at h;omega) (by omega) (fun x hx=>hf x (Ai _ hx))
  rw [AS] at ih
  rw [Ds,AF,Ck,tkF,AY]
  refine Rd.C7 (fun k _=>by simp [hdK]) (Rd.BZ (fun k _=>by simp [hdT]) (Rd.CQ 4 ?_))
  exact Rd.bind (K1:=fun _=>True) (xO (hf f (Aa ..)).1 (hf f (Aa ..)).2 (by omega)) ih (fun _ _=>trivial)
theorem cR (gs:List FE) (hg:∀f∈gs,Mm f=true∧f.body.nb):∀(l:List DE) (n N:Nat) (ds:List DE),l.length+gs.length≤n→N≤BC→(∀d∈l,GP d=true)→Rd N (Ds n ds []) ⟨ds++l,gs⟩ ((l.map tkD).flatten++(gs.map tkF).flatten) (fun k=>hdK k=6)
 |[],n,N,ds,h,hN,_=>by
  have:=cS gs n N ds [] (by simpa using h) hN hg
  rw [A1]
  exact this
 |d::l,0,N,ds,h,_,_=>by simp at h
 |d::l,n+1,N,ds,h,hN,hf=>by
  have ih:=cR gs hg l n (N - 1 - (((2,d.name)::(Ut (d.vars.map fun s=>[((1:Int),s)])++((5,[61])::([((5:Int),[124])].intercalate (d.cons.map tkC)++[(5,[59])]))):List KT)).length) (ds++[d]) (by simp at h;omega) (by omega) (fun x hx=>hf x (Ai _ hx))
  rw [AS] at ih
  rw [Ds,AF,Ck,tkD,AY,AY,AS]
  refine Rd.C7 (fun k _=>by simp [hdK]) (Rd.CQ 4 ?_)
  exact Rd.bind (K1:=fun _=>True) (tI (hf d (Aa ..)) (by omega)) ih (fun _ _=>trivial)
theorem iO {p:Pg} (h:CW p=true) (hl:(ZL p).length≤16384):C8 (ZL p)=(p,0,0):=by
 obtain ⟨h1,h2⟩:=oD (qZ h) hl
 obtain ⟨w,o⟩:=PI h1
 obtain ⟨n1,n2⟩:=fJ h
 have hv:=h
 simp only [CW,AL,decide_eq_true_eq] at hv
 have hf:=FL
 have e:=cR p.P6 n2 p.data BC BC [] (by omega) (A7 _) n1 (Am (ZL p)).1 0 [(6,[])] (by have:=o.1;omega) o.1 h2 rfl
 rw [A6] at e
 unfold C8 HL
 rw [if_neg (by rw [h1];simp),e]
 simp only [AU,if_false,h,if_true]
end Go.Ab
namespace Go.Ab
theorem sI {s:Str} {k:Int} {t:Str} (h:CK s= .ok (k,t)):t++s.drop t.length=s:=by
 have hp:t <+:s:=by
  match s,h with
  |b::r,h=>
   simp only [CK] at h
   repeat' (split at h)
   all_goals first
    |(cases h;done)
    |(simp only [Dj,BH] at h;obtain ⟨_,rfl⟩:=h;first|exact List.takeWhile_prefix _|exact List.take_prefix _ _)
 obtain ⟨q,rfl⟩:=hp
 rw [List.drop_left]
theorem cG {p:UInt8→Bool} (hp:p 10=false) (rest:Str):∀l:Str,(l++10::rest).takeWhile p=l.takeWhile p
 |[]=>by rw [A6,Bg,hp];rfl
 |b::l=>by rw [AY,Bg,Bg,cG hp rest l]
theorem wB (b:UInt8):VA b 10=false:=by simp [VA]
theorem sM (l rest:Str) (hl:l≠[]):(l++10::rest).take (EV (l++10::rest))=l.take (EV l):=by
 match l,hl with
 |[b],_=>
  have h1:PF b≤1:=by unfold PF;split<;>omega
  have e1:EV (b::10::rest)=PF b:=by show (if VA b 10 then 2 else PF b)=_;rw [wB];rfl
  rw [AY,A6,e1,EV]
  rcases Gn.1 h1 with h|h<;>rw [h]<;>rfl
 |b::c::l,_=>
  rw [AY,AY,EV,EV]
  have h1:PF b≤1:=by unfold PF;split<;>omega
  split
  · rfl
  · rcases Gn.1 h1 with h|h<;>rw [h]<;>rfl
theorem sG (l rest:Str) (hl:l≠[]):CK (l++10::rest)=CK l:=by
 match l,hl with
 |b::r,_=>
  have h1:=cG (p:=Bf FH) (by decide) rest (b::r)
  have h2:=cG (p:=Bf Dt) (by decide) rest (b::r)
  have h3:=sM (b::r) rest (by simp)
  rw [AY] at h1 h2 h3 ⊢
  rw [CK,CK,h1,h2,h3]
theorem u6 {b:UInt8} (h:(LC b.toNat||JX b.toNat)=true):Bf FH b=true:=by
 simp only [Bf,FH,h,Bool.true_or]
theorem aR {p:UInt8→Bool}:∀ {l:Str},∀x∈l.takeWhile p,p x=true
 |[],x,h=>by cases h
 |b::l,x,h=>by
  rw [Bg] at h
  split at h
  · rename_i hb
    rcases Bv.1 h with rfl|h
    · exact hb
    · exact aR x h
  · cases h
theorem sJ {s:Str} {k:Int} {t:Str} (h:CK s= .ok (k,t)):E1 t [(k,t)]:=by
 match s,h with
 |b::r,h=>
  simp only [CK] at h
  by_cases hlu:(LC b.toNat||JX b.toNat)=true
  · rw [if_pos hlu] at h
    have ht:(b::r).takeWhile (Bf FH)=b::r.takeWhile (Bf FH):=by rw [Bg,if_pos (u6 hlu)]
    have hall:=aR (p:=Bf FH) (l:=b::r)
    rw [ht] at h hall
    split at h
    · cases h
    · rename_i hlen
      have:=Uo hlu hall (by simpa using hlen)
      split at h
      · rename_i hu
        rw [if_pos hu] at this
        cases h;exact this
      · rename_i hu
        rw [if_neg hu] at this
        split at h
        · rename_i hk
          rw [if_pos hk] at this
          cases h;exact this
        · rename_i hk
          rw [if_neg hk] at this
          cases h;exact this
  · rw [if_neg hlu] at h
    split at h
    · rename_i hd
      split at h
      · cases h
      · rename_i h48
        split at h
        · rename_i hv
          simp only [Dj,BH] at h
          obtain ⟨rfl,rfl⟩:=h
          have ht:(b::r).takeWhile (Bf Dt)=b::r.takeWhile (Bf Dt):=by rw [Bg,if_pos (show Bf Dt b=true from hd)]
          have hall:=aR (p:=Bf Dt) (l:=b::r)
          intro rest hr
          have hq:=Yn hall (fC hr)
          rw [ht] at h48 hv hall hq ⊢
          refine Un ?_ (fun c l' e=>?_)
          · rw [AY] at hq ⊢
            rw [CK,if_neg hlu,if_pos hd,hq,if_neg h48,if_pos hv]
          · cases e
            simp only [Dt,AL,decide_eq_true_eq] at hd
            refine ⟨?_,?_⟩
            · simp only [Sl,Cw]
              refine ⟨⟨⟨?_,?_⟩,?_⟩,?_⟩<;>(apply j4;omega)
            · cases hb:(b==35) with
              |false=>rfl
              |true=>rw [beq_iff_eq] at hb;subst hb;exact absurd hd.1 (by decide)
        · cases h
    · split at h
      · cases h
      · rename_i hne
        simp only [Dj,BH] at h
        obtain ⟨rfl,rfl⟩:=h
        have hone:∀b:UInt8,PF b=1→E1 [b] [(5,[b])]:=fun b hb=>by
         have hm:[b]∈Q1∧([b]=[45]∨[b]=[60]∨[b]=[61]∨([b]≠[45]∧[b]≠[60]∧[b]≠[61])):=by
          unfold PF at hb
          split at hb
          · rename_i h
            have hall:∀x∈Wn,[x]∈Q1∧([x]=[45]∨[x]=[60]∨[x]=[61]∨([x]≠[45]∧[x]≠[60]∧[x]≠[61])):=by decide
            simp only [List.any_eq_true,beq_iff_eq] at h
            obtain ⟨x,hx,rfl⟩:=h
            exact hall b hx
          · cases hb
         obtain ⟨h1,h2⟩:=hm
         rcases h2 with h2|h2|h2|h2
         · cases h2;exact fun r hr=>UG 45 (.inl rfl) (PJ hr)
         · cases h2;exact fun r hr=>UG 60 (.inr (.inl rfl)) (PJ hr)
         · cases h2;exact fun r hr=>UG 61 (.inr (.inr rfl)) (PJ hr)
         · exact (G7 [b] h1 h2).s
        have h1:∀b:UInt8,PF b≤1:=fun b=>by unfold PF;split<;>omega
        match r,hne with
        |[],hne=>
         rw [EV] at hne ⊢
         rcases Gn.1 (h1 b) with h|h
         · rw [h] at hne;exact absurd rfl hne
         · rw [h];exact hone b h
        |c::r,hne=>
         rw [EV] at hne ⊢
         split at hne
         · rename_i h2
           rw [if_pos h2]
           show E1 [b,c] [(5,[b,c])]
           simp only [VA,BM,beq_iff_eq] at h2
           rcases h2 with (h2|h2)|h2
           · cases h2;exact (G7 [45,62] (by decide) (by decide)).s
           · cases h2;exact (G7 [60,61] (by decide) (by decide)).s
           · cases h2;exact (G7 [61,61] (by decide) (by decide)).s
         · rename_i h2
           rw [if_neg h2]
           rcases Gn.1 (h1 b) with h|h
           · rw [h] at hne;exact absurd rfl hne
           · rw [h];exact hone b h
theorem qT {l rest:Str} {b:UInt8} {r:Str} (hl:l=b::r) (hb:b=35) (hc:cmt (l++rest)=l.length):G9 l [] rest:=fun n i acc hn=>by
 subst hl hb
 cases n with
 |zero=>omega
 |succ n=>
  refine ⟨n,i+cmt (35::r++rest),acc,by simp,by simp at hn;omega,?_⟩
  have e0:(35::r++rest)=35::(r++rest):=rfl
  have e1:C4 (n+1) (35::(r++rest)) i acc=C4 n ((35::(r++rest)).drop (cmt (35::(r++rest)))) (i+cmt (35::(r++rest))) acc:=by
   rw [C4,if_neg (by decide),if_pos (by decide)]
  rw [e0,e1,← e0]
  have:(35::r++rest).drop (cmt (35::r++rest))=rest:=by rw [hc,List.drop_left]
  rw [this]
def nlP (rest:Str):Prop:=rest=[]∨∃q,rest=10::q
theorem vH {l rest:Str} (hr:nlP rest) (hl:l≠[]):CK (l++rest)=CK l:=by
 rcases hr with rfl|⟨q,rfl⟩
 · rw [A1]
 · exact sG l q hl
theorem zD {l rest:Str} (hr:nlP rest):cmt (l++rest)=cmt l:=by
 rcases hr with rfl|⟨q,rfl⟩
 · rw [A1]
 · unfold cmt;rw [cG (by decide)]
theorem Wx:∀(n:Nat) (a:Str) (i:Nat) (acc:List Tok),(C4 n a i acc).2.2=0→a.length < n→∃l e,(C4 n a i acc).1=acc++l++[⟨6,[],e⟩]∧(∀rest,nlP rest→G9 a (strip l) rest)∧(∀t∈l,E1 t.text [(t.kind,t.text)])
 |0,a,i,acc,_,hn=>by omega
 |n+1,[],i,acc,_,_=>⟨[],i,by simp [C4],fun rest _=>G9.nil _,fun t ht=>by cases ht⟩
 |n+1,b::r,i,acc,h,hn=>by
  simp only [AD] at hn
  rw [C4] at h ⊢
  split at h
  · rename_i hb
    rw [if_pos hb]
    obtain ⟨l,e,h1,h2,h3⟩:=Wx n r (i+1) acc h (by omega)
    exact ⟨l,e,h1,fun rest hr=>G9.trans (s1:=[b]) (k1:=[]) (V5 hb _) (h2 rest hr),h3⟩
  · rename_i hb
    rw [if_neg hb]
    split at h
    · rename_i hc
      rw [if_pos hc]
      rw [beq_iff_eq] at hc
      subst hc
      have hp:1≤cmt (35::r):=by simp [cmt]
      have hle:cmt (35::r)≤(35::r).length:=Du _ _
      obtain ⟨l,e,h1,h2,h3⟩:=Wx n _ _ acc h (by rw [Ag];simp only [AD];omega)
      refine ⟨l,e,h1,fun rest hr=>?_,h3⟩
      have hc:cmt (35::r++rest)=cmt (35::r):=zD hr
      have:=G9.trans (s1:=(35::r).take (cmt (35::r))) (k1:=[]) (s2:=(35::r).drop (cmt (35::r))) (k2:=strip l) (rest:=rest) ?_ (h2 rest hr)
      · rw [D4] at this;exact this
      · obtain ⟨q,hq⟩:∃q,cmt (35::r)=q+1:=⟨cmt (35::r) - 1,by omega⟩
        refine qT (b:=35) (r:=r.take q) (by rw [hq];rfl) rfl ?_
        rw [← AS,D4,hc,B2];omega
    · rename_i hc
      rw [if_neg hc]
      cases hs:CK (b::r) with
      |error e=>
       rw [hs] at h
       simp only at h
       rcases NF hs with rfl|rfl<;>cases h
      |ok x=>
       obtain ⟨k,t⟩:=x
       rw [hs] at h
       simp only at h ⊢
       have hl:=NG hs
       obtain ⟨l,e,h1,h2,h3⟩:=Wx n _ _ _ h (by rw [Ag];simp only [AD] at hl ⊢;omega)
       have hpre:=sI hs
       refine ⟨⟨k,t,i⟩::l,e,by rw [h1];simp,fun rest hr=>?_,fun u hu=>?_⟩
       · have:=G9.trans (s1:=t) (k1:=[(k,t)]) (rest:=rest) (s2:=(b::r).drop t.length) (k2:=strip l) (Un ?_ (fun c l' e=>?_)) (h2 rest hr)
         · rw [hpre] at this;exact this
         · rw [← AS,hpre,vH hr (by simp)];exact hs
         · have hcb:c=b:=by
            rw [e,AY] at hpre
            exact (List.cons.inj hpre).1
           subst hcb
           exact ⟨by simpa using hb,by simpa using hc⟩
       · rcases Bv.1 hu with rfl|hu
         · exact sJ hs
         · exact h3 u hu
theorem aC {a:Str} (h:(Am a).2.2=0):∃l e,(Am a).1=l++[⟨6,[],e⟩]∧(∀rest,nlP rest→G9 a (strip l) rest)∧(∀t∈l,E1 t.text [(t.kind,t.text)]):=by
 unfold Am at h ⊢
 split at h
 · cases h
 · rename_i hl
   rw [if_neg hl]
   obtain ⟨l,e,h1,h2,h3⟩:=Wx (a.length+1) a 0 [] h (by omega)
   exact ⟨l,e,by rw [h1];rfl,h2,h3⟩
theorem aE (l m:List Tok):strip (l++m)=strip l++strip m:=BU ..
def Xc (x:Pg×PSt):Pg×Nat×Int:=if x.2.f then (⟨[],[]⟩,x.2.p,2) else if CW x.1 then (x.1,0,0) else (⟨[],[]⟩,0,9)
theorem Mv {s:Str} (h:(Am s).2.2=0):C8 s=Xc (HL.run ⟨(Am s).1,false,0⟩):=by
 unfold C8 Xc
 rw [if_neg (by rw [h];simp)]
theorem mK {x y:Pg×PSt} (h1:x.1=y.1) (h2:x.2.f=y.2.f):(Xc x).1=(Xc y).1∧(Xc x).2.2=(Xc y).2.2:=by
 unfold Xc
 rw [h1,h2]
 split
 · exact ⟨rfl,rfl⟩
 · split<;>exact ⟨rfl,rfl⟩
theorem eF {s t:Str} (hs:(Am s).2.2=0) (ht:(Am t).2.2=0) (h:strip (Am s).1=strip (Am t).1):(C8 s).1=(C8 t).1∧(C8 s).2.2=(C8 t).2.2:=by
 obtain ⟨h1,_,h3⟩:=HL.pm ⟨(Am s).1,false,0⟩ ⟨(Am t).1,false,0⟩ h rfl
 rw [Mv hs,Mv ht]
 exact mK h1 h3
end Go.Ab
