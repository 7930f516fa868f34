/- Reference scope: Check. Reference scope: Calls. Components and groups of the reference. Conditions: none. -/
import Derived.Test.YtlckhmkeihbhmaaGreatXXq
set_option linter.unusedSimpArgs false
set_option linter.unusedVariables false
set_option maxRecDepth 4000
set_option maxHeartbeats 8000000
open List renaming length_append→AS,all_eq_true→As,mem_append→A3,mem_cons_self→BT,mem_cons_of_mem→B8,mem_cons→Bf,map_cons→AI,map_nil→AO,length_map→AA,take_append_drop→A4,length_take→Aj,getElem?_take→BN,mem_of_getElem?→AT,getElem?_map→Ah,getElem?_eq_some_iff→AR,append_nil→Aq,any_cons→KT,take_of_length_le→AH,range→Ae,length_filter_le→ER,length_range→GG,range_succ→LC,filter_append→F8,map_append→Er,nil_append→Au,replicate→AG,length_cons→A5,length_nil→BX
open Bool renaming and_eq_true→AQ
open Option renaming bind_eq_some_iff→AB,bind_eq_bind→AN,isSome_iff_exists→TR
open Nat renaming zero_add→Ak,min_eq_left→CO,lt_or_ge→Br,le_refl→A0,le_trans→BR
open Option.some renaming injEq→AK
namespace Go.Ab
open Go.Proofs
theorem g9 (o:Int) (n:Str) (ns sc:List Str) (i:Nat) (h:ns.length≤6):(GX o n ns sc i).length≤sc.length+6:=by
 unfold GX
 split
 · split
   · omega
   · rw [AS];simp
 · split
   · rw [AS];omega
   · omega
theorem iI {o:Int} {n:Str} {u:Int} {ns:List Str} {nk:Nat} {al:List Al} (h:L2 o n u ns nk al=true):ns.length≤6∧(∀c vs b,Al.mk c vs b∈al→vs.length≤6)∧(o=10→al≠[]):=by
 simp only [L2,AQ] at h
 obtain ⟨⟨⟨_,h3⟩,h4⟩,_⟩:=h
 refine ⟨?_,fun c vs b hm=>?_,fun ho=>?_⟩
 · unfold nsB at h3
   split at h3
   · simp only [AQ,decide_eq_true_eq] at h3;omega
   · split at h3
     · simp only [AQ,decide_eq_true_eq] at h3;omega
     · simp only [decide_eq_true_eq] at h3;omega
 · unfold asB at h4
   split at h4
   · simp only [AQ,As] at h4
     have:=h4.2 _ hm
     simp only [QW,AQ,decide_eq_true_eq] at this
     exact this.1.2
   · simp only [decide_eq_true_eq] at h4
     have:=List.length_pos_of_mem hm
     omega
 · unfold asB at h4
   rw [if_pos ho] at h4
   simp only [AQ,decide_eq_true_eq] at h4
   intro e;rw [e] at h4;simp at h4
theorem Ut {o:Int} {n:Str} {ns sc:List Str} {x:Ex×List Str}:∀ {l:List Ex} {i:Nat},x∈Bi o n ns sc i l→∃k∈l,∃i',x∈B7 k (GX o n ns sc i')
 |[],i,h=>by simp [Bi] at h
 |k::l,i,h=>by
  rw [Bi,A3] at h
  rcases h with h|h
  · exact ⟨k,BT ..,_,h⟩
  · obtain ⟨k',h1,h2⟩:=Ut h
    exact ⟨k',B8 _ h1,h2⟩
theorem bI:∀(d q:Nat) (e:Ex) (r:Nat),vEx d q e=some r→∀sc x,x∈B7 e sc→x.2.length≤sc.length+6 * d∧(x.1.op=10→x.1.alts≠[])
 |0,q,e,r,h=>by simp [vEx] at h
 |d+1,0,.mk ..,r,h=>by cases h
 |d+1,q+1,.mk o n u ns ks al,r,h=>by
  simp only [vEx] at h
  split at h
  · rename_i hn
    rw [AB] at h
    obtain ⟨c,hc,h⟩:=h
    obtain ⟨_,h2⟩:=MV (sz:=Ex.size) (Q:=fun e=>∀sc x,x∈B7 e sc→x.2.length≤sc.length+6 * d∧(x.1.op=10→x.1.alts≠[])) ks q c (fun x _ a b hab=>⟨(PB d a x b hab).1,bI d a x b hab⟩) hc
    obtain ⟨_,h4⟩:=MV (sz:=Al.size) (Q:=fun a=>∀c vs b,a=Al.mk c vs b→∀sc x,x∈B7 b sc→x.2.length≤sc.length+6 * d∧(x.1.op=10→x.1.alts≠[])) al c r (fun x _ a b hab=>by
     cases x with
     |mk cc vs bd=>
      exact ⟨(PB d a _ b hab).1,fun c' vs' b' he=>by cases he;exact bI d a _ b hab⟩) h
    obtain ⟨m1,m2,m3⟩:=iI hn
    intro sc x hx
    rw [UA,Bf,A3] at hx
    rcases hx with rfl|hx|hx
    · exact ⟨by simp only;omega,m3⟩
    · obtain ⟨k,hk,i',hx⟩:=Ut hx
      have:=h2 k hk _ x hx
      have hil:=g9 o n ns sc i' m1
      exact ⟨by omega,this.2⟩
    · obtain ⟨a,ha,hx⟩:=PN hx
      obtain ⟨c',vs',b'⟩:=a
      rw [S3] at hx
      have:=h4 _ ha c' vs' b' rfl _ x hx
      have hvl:=m2 _ _ _ ha
      rw [AS] at this
      exact ⟨by omega,this.2⟩
  · simp at h
theorem Ud:∀(l:List FE) (q r:Nat),l.foldlM Lx q=some r→∀f∈l,∀sc x,x∈B7 f.body sc→x.2.length≤sc.length+240∧(x.1.op=10→x.1.alts≠[])
 |[],q,r,_,f,hf=>by simp at hf
 |g::l,q,r,h,f,hf=>by
  rw [List.foldlM_cons,AN,AB] at h
  obtain ⟨b,hb,h⟩:=h
  unfold Lx at hb
  split at hb
  · rcases Bf.1 hf with rfl|hf
    · exact bI 40 _ _ _ hb
    · exact Ud l b r h f hf
  · cases hb
theorem XE {p:Pg} (h:EJ p=true):∀f∈p.MW,∀x∈B7 f.body f.params,okX x∧x.2.length≤1000000:=by
 have hg:=Kt h
 simp only [EJ,AQ,decide_eq_true_eq] at h
 obtain ⟨_,h2⟩:=h
 obtain ⟨r,hr⟩:=TR.1 h2
 intro f hf x hx
 obtain ⟨g1,g2,g3⟩:=hg.2 f hf
 have:=Ud _ _ _ hr f hf _ x hx
 exact ⟨⟨g3 _ x hx,this.2⟩,by omega⟩
theorem WS.new {σ τ:AF} {j:Nat} (ps:List DE) (fs:List FE) (dt:List Dat) (hle:σ.le τ) (hj:τ.blk j=none):WS σ j ps fs dt 0 [] (τ.AP j (wkB ps fs dt 0 .AY)):=by
 have hj0:σ.blk j=none:=by
  cases hc:σ.blk j with
  |none=>rfl
  |some c=>rw [hle.blk j c hc] at hj;cases hj
 have hl:=C1 (cs:=wkB ps fs dt 0 .AY) hle hj0
 exact ⟨.AY,by rw [AL,if_pos rfl];rfl,⟨⟨_,rfl,hl⟩,hl,rfl,rfl,rfl,rfl,fun _=>rfl,rfl,rfl⟩,hj0⟩
theorem Yh (p:Pg) (σ:AF) (h:∀d∈p.data,Gd d):AM Tryz.prog 15 [pgA p] σ (fun v σ'=>v=dgA (My p)∧σ'=σ):=by
 have hdat:=VK p σ h
 refine Zq (by simp) ?_
 rw [Bg]
 unfold My
 cases hdp:MU p with
 |error d=>
  rw [hdp] at hdat
  obtain ⟨c,a,b⟩:=d
  obtain ⟨ds,fs⟩:=p
  simp only [pgA,Pg.enc,AI,AO,OV,dgA,dsA] at hdat ⊢
  have hne:(c != 0)=true:=by simpa using R0 hdp
  (repeat' (first|refine Run.ct rfl ?_|((first|refine Run.reg mixed ?_|refine Run.AD ?_|refine Run.Fu Ic (AF.le_refl _) ?_|refine AJ.det (hdat) ?_)<;>try simp -implicitDefEqProofs only [hne,go_sem])|fail))
 |ok dt=>
 rw [hdp] at hdat
 obtain ⟨hval,hgo⟩:=LY hdp
 obtain ⟨hfl,hgood⟩:=Kt hval
 have hokx:=XE hval
 have hdt:QS dt:=(HY hgo).2.2.2.2 1000000 (fun d hd=>by have:=((Me hval h).2 d hd).1;omega)
 obtain ⟨ds,fs⟩:=p
 simp only [pgA,Pg.enc,AI,AO,OV,dgA,dsA] at hdat hfl hgood hokx ⊢
 have h00:((0:Int) != 0)=false:=by decide
 (repeat' (first|refine Run.ct rfl ?_|((first|refine Run.reg mixed ?_|refine Run.AD ?_|refine AJ.det (hdat) ?_)<;>try simp -implicitDefEqProofs only [h00,AA,go_sem])|fail))
 generalize hQ:(fun (v:AV) (σ':AF)=>v=AV.agg [.d (.int .i64 (GK fs dt 0 fs).1),.d (.int .i64 (GK fs dt 0 fs).2.1),.d (.int .i64 (GK fs dt 0 fs).2.2)]∧σ'=σ)=Q
 have hok:∀g1 g2 g3,GK fs dt 0 fs=(g1,g2,g3)→Q (.agg [.d (.int .i64 g1),.d (.int .i64 g2),.d (.int .i64 g3)]) σ:=fun g1 g2 g3 hg=>by rw [← hQ,hg];exact ⟨rfl,rfl⟩
 clear hQ
 refine Run.BD ?_
 refine Run.BG ((fun (a1:AV) (a2:AV) (a3:AV)=>fun (y:Nat×AF)=>put 1 a1 (put 2 a2 (put 3 a3 (put 5 (.d (.int .i64 y.1)) U)))) _ _ _) (fun _=>BE 1 [.d (.sl (ds.map DE.enc)),.d (.sl (fs.map FE.enc))] (BE 2 [.d (.int .i64 0),.d (.int .i64 0),.d (.int .i64 0)] E)) (fun y=>y.2)
  (fun y=>y.1≤fs.length∧(∀k f,fs[k]?=some f→k < y.1→RX fs dt k f=none)∧σ.le y.2) (fun y=>fs.length - y.1) ?_ (0,σ) ⟨by simp,fun k f _ hk=>by simp only at hk;omega,AF.le_refl _⟩
 rintro ⟨i,τ⟩ ⟨hi,hno,hle⟩ ih
 simp only at hi hno hle
 by_cases hlt:i < fs.length
 · obtain ⟨f,hf⟩:=BC hlt
   have he:=Ay (enc:=FE.enc) hf
   have hw1:=A6 (show i+1≤9000000000000000000 by omega)
   have hgo2:GK fs dt 0 fs=GK fs dt i (f::fs.drop (i+1)):=by
    conv=>lhs;rw [show GK fs dt 0 fs=GK fs dt 0 (fs.take i++fs.drop i) by rw [A4],Bb hf]
    rw [MS fs dt _ _ 0 (fun k g hg=>?_),Ak,Aj,CO hi]
    rw [Ak]
    rw [BN] at hg
    split at hg
    · exact hno k g hg (by assumption)
    · cases hg
   rw [GK] at hgo2
   have hfm:=AT hf
   obtain ⟨k,hk,hki⟩:=X3 (l:=CU fs) (s:=f.name) (i:=i) (by rw [CU,Ah,hf];rfl)
   have hF:RX fs dt i f=if k < i∨CC f.params=true then some (4,(i:Int),0) else match EH (EX fs dt) (B7 f.body f.params) with
    |some (k,c)=>some (c,(i:Int),(k:Int))
    |none=>none:=by
    unfold RX
    rw [hk]
    have:(some k≠some i∨CC f.params=true)↔(k < i∨CC f.params=true):=by
     simp only [ne_eq,AK]
     constructor
     · rintro (h|h)
       · exact .inl (by omega)
       · exact .inr h
     · rintro (h|h)
       · exact .inl (by omega)
       · exact .inr h
    simp only [this]
    split
    · rfl
    · cases EH (EX fs dt) (B7 f.body f.params)<;>rfl
   rw [hF] at hgo2
   have hnx:RX fs dt i f=none→∀k g,fs[k]?=some g→k < i+1→RX fs dt k g=none:=fun h0 k g hg hk=>by
    rcases Br k i with h|h
    · exact hno k g hg h
    · have:k=i:=by omega
      subst this
      rw [hf] at hg;cases hg;exact h0
   rw [hF] at hnx
   clear hF
   have hwsz:=(hgood f hfm).1
   have hpl:=(hgood f hfm).2.1
   have hox:=hokx f hfm
   have hrp:=fun τ=>L4 f.params τ
   obtain ⟨nm,fps,fb⟩:=f
   simp only at hwsz hpl hox hrp hk hgo2 hnx
   have hfn:=fun j τ hb=>Oi ds fs dt 0 .AY j nm τ (by omega) hb
   have hcb:=fun (j:Nat) (τ:AF) (hW:WS σ j ds fs dt 0 [] τ)=>TL σ j ds fs dt hdt (by omega) fb.size fb fps 0 [] τ (A0 _) (by omega) (by simp) (by omega) hox hW
   rw [hk] at hfn
   simp only [Ee,wkB] at hfn
   simp only [FE.enc] at he
   unfold I6 at hcb
   generalize hee:EH (EX fs dt) (B7 fb fps)=ee at hcb hgo2 hnx
   obtain ⟨xo,xn,xu,xns,xks,xal⟩:=fb
   simp only [exA,Ex.A7,AI,AO] at he hcb
   (repeat' (first|refine Run.ct rfl ?_|((first|refine Run.reg mixed ?_|refine Run.AD ?_)<;>try simp -implicitDefEqProofs only [A8 hlt,he,AA,go_sem])|fail))
   intro jw hjw
   have hW:=WS.new (σ:=σ) ds fs dt hle hjw
   have hle1:=hW.le
   have hb1:(τ.AP jw (wkB ds fs dt 0 .AY)).blk jw=some (wkB ds fs dt 0 .AY):=by rw [AL,if_pos rfl]
   have hcb:=hcb jw _ hW
   have hfn:=hfn jw _ hb1
   have hrp:=hrp (τ.AP jw (wkB ds fs dt 0 .AY))
   unfold wkB at hle1 hb1 hcb hfn hrp
   generalize τ.AP jw [AV.d (.sl (ds.map DE.enc)),.d (.sl (fs.map FE.enc)),.d (.sl (dt.map Dat.enc)),.d (.int .i64 0),.AY]=τ1 at hle1 hb1 hcb hfn hrp ⊢
   by_cases hki2:k < i
   · have hd:decide ((k:Int) < (i:Int))=true:=by simpa using hki2
     rw [if_pos (.inl hki2)] at hgo2
     have:=hok _ _ _ hgo2
     clear hok
     (repeat' (first|refine Run.ct rfl ?_|((first|refine Run.reg mixed ?_|refine Run.AD ?_|(refine Run.A1 Ic (σ2:=σ) hle1 ?_)|refine AJ.det (hfn) ?_)<;>try simp -implicitDefEqProofs only [hd,AA,go_sem])|fail))
     exact this
   have hd:decide ((k:Int) < (i:Int))=false:=by simpa using hki2
   cases htw:CC fps with
   |true=>
    rw [htw] at hgo2 hrp
    rw [if_pos (.inr rfl)] at hgo2
    have:=hok _ _ _ hgo2
    clear hok
    (repeat' (first|refine Run.ct rfl ?_|((first|refine Run.reg mixed ?_|refine Run.AD ?_|(refine Run.A1 Ic (σ2:=σ) hle1 ?_)|refine AJ.det (hfn) ?_|refine AJ.det (hrp) ?_)<;>try simp -implicitDefEqProofs only [hd,AA,go_sem])|fail))
    exact this
   |false=>
   rw [htw] at hgo2 hrp hnx
   rw [if_neg (by simp;omega)] at hgo2 hnx
   cases ee with
   |some y=>
    obtain ⟨q,c⟩:=y
    simp only at hgo2 hcb
    have:=hok _ _ _ hgo2
    have hcn:(c != 0)=true:=by simpa using R4 hee
    rw [Ak] at hcb
    clear hok
    (repeat' (first|refine Run.ct rfl ?_|((first|refine Run.reg mixed ?_|refine Run.AD ?_|(refine AJ.mk rfl hcb ?_;rintro _ τ2 ⟨rfl,hle1⟩)|(refine Run.A1 Ic (σ2:=σ) hle1 ?_)|refine AJ.det (hfn) ?_|refine AJ.det (hrp) ?_)<;>try simp -implicitDefEqProofs only [hd,hcn,AA,go_sem])|fail))
    exact this
   |none=>
    simp only at hcb hnx
    clear hok
    (repeat' (first|refine Run.ct rfl ?_|((first|refine Run.reg mixed ?_|refine Run.AD ?_|(refine AJ.mk rfl hcb ?_;rintro _ τ2 ⟨rfl,hW2⟩)|refine AJ.det (hfn) ?_|refine AJ.det (hrp) ?_)<;>try simp -implicitDefEqProofs only [hd,h00,hw1,AA,go_sem])|fail))
    exact ih (i+1,τ2) ⟨by simp only;omega,hnx trivial,hW2.le⟩ (by simp only;omega)
 · have hall:GK fs dt 0 fs=(0,0,0):=by
    have:=MS fs dt [] fs 0 (fun k g hg=>by rw [Ak];exact hno k g hg (by have:=(AR.1 hg).1;omega))
    rw [Aq] at this
    rw [this];rfl
   have:=hok 0 0 0 hall
   clear hok
   (repeat' (first|refine Run.ct rfl ?_|((first|refine Run.reg mixed ?_|refine Run.AD ?_|(refine Run.A1 Ic (σ2:=σ) hle ?_))<;>try simp -implicitDefEqProofs only [Bd hlt,AA,go_sem])|fail))
   exact this
end Go.Ab
namespace Go.Ab
open Go.Proofs
theorem ZE (fs:List FE) (g:Nat):∀l:List (Ex×List Str),(E9 fs l).any (fun q=>q==g)=l.any (HT fs g)
 |[]=>rfl
 |x::l=>by
  rw [Vc,List.any_append,KT,ZE fs g l]
  congr 1
  unfold Rt HT
  by_cases h:x.1.op=4
  · cases hc:x.2.contains x.1.name with
    |true=>rw [if_neg (by simp)];simp
    |false=>
     rw [if_pos ⟨h,rfl⟩,h]
     cases Ct (CU fs) x.1.name with
     |none=>rfl
     |some f=>simp
  · rw [if_neg (fun hh=>h hh.1),CZ h];rfl
set_option maxHeartbeats 4000000 in
theorem Yf (Q:AV→AF→Prop) (rest:List CI) (ps:List DE) (fs:List FE) (dt:List Dat) (n0:Nat) (dtv outv lv:AV) (i g jw:Nat) (us:List Nat) (hul:us.length≤1000000) (uv:AV) (σb τ:AF) (hb:τ.blk jw=some (wkB ps fs dt (n0:Int) uv)) (hu:(uv= .AY∧us=[])∨∃t,uv= .own t 3 1 (us.map DI)) (rows:List (List DV)) (hrl:rows.length≤100000) (ho:Cg σb 3 1 rows lv τ)
 (hlp:∀k,dtv.Ar k=false∧outv.Ar k=false)
 (hfin:∀lv' τ',Cg σb 3 1 (if us.any (fun q=>q==g) then rows++[DI g] else rows) lv' τ'→(∀q,τ'.blk q=τ.blk q)→Run F7 Q rest (put 1 (.lp 1 0) (put 3 dtv (put 5 outv (put 6 (.d (.int .i64 i)) (put 7 (.gp jw 0) (put 8 lv' (put 9 (.d (.int .i64 g)) U))))))) (BE 1 [.d (.sl (ps.map DE.enc)),.d (.sl (fs.map FE.enc))] E) τ'):
 Run F7 Q (.code (.loop Ps)::.blk 4::rest) (put 1 (.lp 1 0) (put 3 dtv (put 5 outv (put 6 (.d (.int .i64 i)) (put 7 (.gp jw 0) (put 8 lv (put 9 (.d (.int .i64 g)) (put 10 (.d (.int .i64 0)) U)))))))) (BE 1 [.d (.sl (ps.map DE.enc)),.d (.sl (fs.map FE.enc))] E) τ:=by
 unfold wkB at hb
 have hlp1:=fun k=>(hlp k).1
 have hlp2:=fun k=>(hlp k).2
 refine Run.BD ?_
 refine Run.BG ((fun (a1:AV) (a3:AV) (a5:AV) (a6:AV) (a7:AV) (a8:AV) (a9:AV)=>fun (q:Nat)=>put 1 a1 (put 3 a3 (put 5 a5 (put 6 a6 (put 7 a7 (put 8 a8 (put 9 a9 (put 10 (.d (.int .i64 q)) U)))))))) _ _ _ _ _ _ _) (fun _=>BE 1 [.d (.sl (ps.map DE.enc)),.d (.sl (fs.map FE.enc))] E) (fun _=>τ) (fun q=>q≤us.length∧(us.take q).any (fun q=>q==g)=false) (fun q=>us.length - q) ?_ 0 ⟨by simp,rfl⟩
 rintro q ⟨hq,hno⟩ ih
 by_cases hlt:q < us.length
 · rcases hu with ⟨rfl,rfl⟩|⟨tk,rfl⟩
   · simp at hlt
   obtain ⟨y,hy⟩:=BC hlt
   have hw1:=A6 (show q+1≤9000000000000000000 by omega)
   have hey:=Ay (enc:=DI) hy
   rw [Kn] at hey
   have hyc:((y:Int)==(g:Int))=(y==g):=mZ y g
   cases hyg:(y==g) with
   |true=>
    have hany:us.any (fun q=>q==g)=true:=by
     rw [List.any_eq_true];exact ⟨y,AT hy,hyg⟩
    rw [hany] at hfin
    (repeat' (first|refine Run.ct rfl ?_|((first|refine Run.reg mixed ?_|refine Run.AD ?_|(refine Dy.own ho rfl (by simp) (by simp;omega) (by decide) (fun v2 τ2 ho2 hbk=>?_)))<;>try simp -implicitDefEqProofs only [A8 hlt,hb,AA,hey,hyc,hyg,hlp1,hlp2,ho.Ar,go_sem])|fail))
    exact hfin v2 τ2 (by simpa [DI] using ho2) hbk
   |false=>
    (repeat' (first|refine Run.ct rfl ?_|((first|refine Run.reg mixed ?_|refine Run.AD ?_)<;>try simp -implicitDefEqProofs only [A8 hlt,hb,AA,hey,hyc,hyg,hw1,hlp1,hlp2,ho.Ar,go_sem])|fail))
    exact ih (q+1) ⟨by omega,by rw [Aw hy,List.any_append,hno];simp [hyg]⟩ (by omega)
 · rw [AH (by omega)] at hno
   rw [hno] at hfin
   have:=hfin lv τ (by simpa using ho) (fun _=>rfl)
   have hlv:M6 uv=some (.d (.int .i64 us.length))∧uv.BW=true:=by
    rcases hu with ⟨rfl,rfl⟩|⟨tk,rfl⟩
    · exact ⟨rfl,rfl⟩
    · exact ⟨by simp [M6],rfl⟩
   (repeat' (first|refine Run.ct rfl ?_|((first|refine Run.reg mixed ?_|refine Run.AD ?_)<;>try simp -implicitDefEqProofs only [Bd hlt,hb,hlv.1,hlv.2,AA,hlp1,hlp2,ho.Ar,go_sem])|fail))
   refine Run.Jr [1,3,5,6,7,8,9] ?_
   simp -implicitDefEqProofs only [hlp1,go_sem]
   exact this
theorem Yg (Q:AV→AF→Prop) (rest:List CI) (ps:List DE) (fs:List FE) (dt:List Dat) (n0:Nat) (dtv outv:AV) (i jw:Nat) (us:List Nat) (hul:us.length≤1000000) (hfl:fs.length≤1000) (uv:AV) (σb:AF) (hb:σb.blk jw=some (wkB ps fs dt (n0:Int) uv)) (hu:(uv= .AY∧us=[])∨∃t,uv= .own t 3 1 (us.map DI))
 (hlp:∀k,dtv.Ar k=false∧outv.Ar k=false)
 (hfin:∀lv τ,Cg σb 3 1 (((Ae fs.length).filter fun g=>us.any (fun q=>q==g)).map DI) lv τ→Run F7 Q rest (put 1 (.lp 1 0) (put 3 dtv (put 5 outv (put 6 (.d (.int .i64 i)) (put 7 (.gp jw 0) (put 8 lv (put 9 (.d (.int .i64 fs.length)) (put 54 (.d (.bool false)) U)))))))) (BE 1 [.d (.sl (ps.map DE.enc)),.d (.sl (fs.map FE.enc))] E) τ):
 Run F7 Q (.code (.loop Pt)::.blk 2::rest) (put 1 (.lp 1 0) (put 3 dtv (put 5 outv (put 6 (.d (.int .i64 i)) (put 7 (.gp jw 0) (put 8 .AY (put 9 (.d (.int .i64 0)) U))))))) (BE 1 [.d (.sl (ps.map DE.enc)),.d (.sl (fs.map FE.enc))] E) σb:=by
 have hlp1:=fun k=>(hlp k).1
 have hlp2:=fun k=>(hlp k).2
 refine Run.BD ?_
 refine Run.BG ((fun (a1:AV) (a3:AV) (a5:AV) (a6:AV) (a7:AV)=>fun (y:Nat×AV×AF)=>put 1 a1 (put 3 a3 (put 5 a5 (put 6 a6 (put 7 a7 (put 8 (y.2.1) (put 9 (.d (.int .i64 y.1)) U))))))) _ _ _ _ _) (fun _=>BE 1 [.d (.sl (ps.map DE.enc)),.d (.sl (fs.map FE.enc))] E) (fun y=>y.2.2)
  (fun y=>y.1≤fs.length∧y.2.2.blk jw=some (wkB ps fs dt (n0:Int) uv)∧Cg σb 3 1 (((Ae y.1).filter fun g=>us.any (fun q=>q==g)).map DI) y.2.1 y.2.2) (fun y=>fs.length - y.1) ?_ (0,.AY,σb) ⟨by simp,hb,Cg.nil _ _ _⟩
 rintro ⟨g,lv,τ⟩ ⟨hg,hbt,ho⟩ ih
 simp only at hg hbt ho
 by_cases hlt:g < fs.length
 · have hw1:=A6 (show g+1≤9000000000000000000 by omega)
   have hfl2:(((Ae g).filter fun g=>us.any (fun q=>q==g)).map DI).length≤100000:=by
    have:=ER (fun g=>us.any (fun q=>q==g)) (Ae g)
    rw [GG] at this
    rw [AA];omega
   have hsn:((Ae (g+1)).filter fun g=>us.any (fun q=>q==g)).map DI=if us.any (fun q=>q==g) then ((Ae g).filter fun g=>us.any (fun q=>q==g)).map DI++[DI g] else ((Ae g).filter fun g=>us.any (fun q=>q==g)).map DI:=by
    rw [LC,F8]
    cases hc:us.any (fun q=>q==g)<;>simp [hc]
   (repeat' (first|refine Run.ct rfl ?_|((first|refine Run.reg mixed ?_|refine Run.AD ?_)<;>try simp -implicitDefEqProofs only [A8 hlt,AA,hlp1,hlp2,ho.Ar,go_sem])|fail))
   refine Yf Q _ ps fs dt n0 dtv outv lv i g jw us hul uv σb τ hbt hu _ hfl2 ho hlp (fun lv' τ' ho' hbk=>?_)
   (repeat' (first|refine Run.ct rfl ?_|((first|refine Run.reg mixed ?_|refine Run.AD ?_)<;>try simp -implicitDefEqProofs only [hw1,AA,hlp1,hlp2,ho'.Ar,go_sem])|fail))
   exact ih (g+1,lv',τ') ⟨by simp only;omega,(hbk jw).trans hbt,by simp only [hsn];exact ho'⟩ (by simp only;omega)
 · have hge:g=fs.length:=by omega
   subst hge
   have:=hfin lv τ ho
   (repeat' (first|refine Run.ct rfl ?_|((first|refine Run.reg mixed ?_|refine Run.AD ?_)<;>try simp -implicitDefEqProofs only [Bd hlt,AA,hlp1,hlp2,ho.Ar,go_sem])|fail))
   exact this
theorem TK (p:Pg) (σ:AF) (h:∀d∈p.data,Gd d):AM Tryz.prog 11 [pgA p] σ (fun v σ'=>v=I5 (Ey p)∧σ'=σ):=by
 have hdat:=VK p σ h
 have hchk:=Yh p σ h
 refine Zp (by simp) ?_
 rw [Bg]
 unfold Ey
 cases hdp:MU p with
 |error d=>
  have hc0:My p=d:=by rw [My,hdp]
  rw [hdp] at hdat
  obtain ⟨c,a,b⟩:=d
  have hcn:=R0 hdp
  rw [hc0,if_neg hcn]
  obtain ⟨ds,fs⟩:=p
  simp only [pgA,Pg.enc,AI,AO,OV,dgA,dsA] at hdat ⊢
  have hne:(c != 0)=true:=by simpa using hcn
  (repeat' (first|refine Run.ct rfl ?_|((first|refine Run.reg mixed ?_|refine Run.AD ?_|refine Run.A1 NI (AF.le_refl _) ?_|refine AJ.det (hdat) ?_)<;>try simp -implicitDefEqProofs only [hne,go_sem])|fail))
  rfl
 |ok dt=>
 rw [hdp] at hdat
 obtain ⟨hval,hgo⟩:=LY hdp
 obtain ⟨hfl,hgood⟩:=Kt hval
 have hokx:=XE hval
 have hdt:QS dt:=(HY hgo).2.2.2.2 1000000 (fun d hd=>by have:=((Me hval h).2 d hd).1;omega)
 have h00:((0:Int) != 0)=false:=by decide
 by_cases hc0:(My p).1=0
 case neg=>
  rw [if_neg hc0]
  have hne:((My p).1 != 0)=true:=by simpa using hc0
  obtain ⟨ds,fs⟩:=p
  simp only [pgA,Pg.enc,AI,AO,OV,dgA,dsA] at hdat hchk ⊢
  (repeat' (first|refine Run.ct rfl ?_|((first|refine Run.reg mixed ?_|refine Run.AD ?_|refine Run.A1 NI (AF.le_refl _) ?_|refine AJ.det (hdat) ?_|refine AJ.det (hchk) ?_)<;>try simp -implicitDefEqProofs only [h00,hne,go_sem])|fail))
  rfl
 rw [if_pos hc0]
 have hne:((My p).1 != 0)=false:=by simpa using hc0
 have hnone:∀f∈p.MW,EH (EX p.MW dt) (B7 f.body f.params)=none:=fun f hf=>by
  have hg0:=hc0
  rw [My,hdp] at hg0
  exact Q3 _ _ hg0 f hf
 obtain ⟨ds,fs⟩:=p
 simp only [pgA,Pg.enc,AI,AO,OV,dgA,dsA] at hdat hchk hfl hgood hokx hnone ⊢
 (repeat' (first|refine Run.ct rfl ?_|((first|refine Run.reg mixed ?_|refine Run.AD ?_|refine AJ.det (hdat) ?_|refine AJ.det (hchk) ?_)<;>try simp -implicitDefEqProofs only [h00,hne,AA,go_sem])|fail))
 refine Run.BD ?_
 refine Run.BG ((fun (a1:AV) (a3:AV)=>fun (y:Nat×AV×AF)=>put 1 a1 (put 3 a3 (put 5 (y.2.1) (put 6 (.d (.int .i64 y.1)) U)))) _ _) (fun _=>BE 1 [.d (.sl (ds.map DE.enc)),.d (.sl (fs.map FE.enc))] E) (fun y=>y.2.2)
  (fun y=>y.1≤fs.length∧Cg σ 35 1 ((fs.take y.1).map fun f=>Eb (JH fs f)) y.2.1 y.2.2) (fun y=>fs.length - y.1) ?_ (0,.AY,σ) ⟨by simp,Cg.nil _ _ _⟩
 rintro ⟨i,outv,τ⟩ ⟨hi,ho⟩ ih
 simp only at hi ho
 by_cases hlt:i < fs.length
 · obtain ⟨f,hf⟩:=BC hlt
   have he:=Ay (enc:=FE.enc) hf
   have hw1:=A6 (show i+1≤9000000000000000000 by omega)
   have hfm:=AT hf
   have hn0:=hnone f hfm
   have hwsz:=(hgood f hfm).1
   have hpl:=(hgood f hfm).2.1
   have hox:=hokx f hfm
   have hsn:((fs.take (i+1)).map fun f=>Eb (JH fs f))=((fs.take i).map fun f=>Eb (JH fs f))++[Eb (JH fs f)]:=by rw [Aw hf,Er];rfl
   have hcf:JH fs f=(Ae fs.length).filter fun g=>(E9 fs (B7 f.body f.params)).any (fun q=>q==g):=by
    unfold JH;congr 1;funext g;rw [ZE]
   obtain ⟨nm,fps,fb⟩:=f
   simp only at hwsz hpl hox hn0 hcf
   have hcb:=fun (j:Nat) (τ1:AF) (hW:WS τ j ds fs dt 0 [] τ1)=>TL τ j ds fs dt hdt (by omega) fb.size fb fps 0 [] τ1 (A0 _) (by omega) (by simp) (by omega) hox hW
   unfold I6 at hcb
   rw [hn0] at hcb
   simp only [Au,Ak] at hcb
   have hul:=PU fs (B7 fb fps)
   rw [JT] at hul
   generalize E9 fs (B7 fb fps)=us at hcb hcf hul
   simp only [FE.enc] at he
   generalize hsz:fb.size=sz at hcb hul hwsz
   obtain ⟨xo,xn,xu,xns,xks,xal⟩:=fb
   simp only [exA,Ex.A7,AI,AO] at he hcb
   (repeat' (first|refine Run.ct rfl ?_|((first|refine Run.reg mixed ?_|refine Run.AD ?_)<;>try simp -implicitDefEqProofs only [A8 hlt,he,AA,ho.Ar,go_sem])|fail))
   intro jw hjw
   have hW:=WS.new (σ:=τ) ds fs dt (AF.le_refl τ) hjw
   have hcb:=hcb jw _ hW
   unfold wkB at hcb
   (repeat' (first|refine Run.ct rfl ?_|((first|refine Run.reg mixed ?_|refine Run.AD ?_|(refine AJ.mk rfl hcb ?_;rintro _ τ2 ⟨rfl,uv,hb2,hu2,hj0⟩))<;>try simp -implicitDefEqProofs only [he,AA,ho.Ar,go_sem])|fail))
   have hu2f:(uv= .AY∧us=[])∨∃t,uv= .own t 3 1 (us.map DI):=by
    rcases hu2.form with ⟨h1,h2⟩|h2
    · exact .inl ⟨h1,by simpa using h2⟩
    · exact .inr h2
   refine Yg _ _ ds fs dt sz (.d (.sl (dt.map Dat.enc))) outv i jw us (by omega) (by omega) uv τ2 hb2 hu2f (fun k=>⟨rfl,ho.Ar k⟩) (fun lv τ3 ho3=>?_)
   have ho':=ho.up (AF.le_trans hu2.le ho3.le)
   (repeat' (first|refine Run.ct rfl ?_|((first|refine Run.reg mixed ?_|refine Run.AD ?_|(refine Dy.own ho' rfl (by simp) (by simp;omega) (by decide) (fun v4 τ4 ho4 hbk4=>?_)))<;>try simp -implicitDefEqProofs only [hw1,AA,ho.Ar,ho3.Ar,ho3.cell,ho3.cells,ho3.dv,ho3.BZ,go_sem])|fail))
   (repeat' (first|refine Run.ct rfl ?_|((first|refine Run.reg mixed ?_|refine Run.AD ?_)<;>try simp -implicitDefEqProofs only [hw1,ho4.Ar,go_sem])|fail))
   exact ih (i+1,v4,τ4) ⟨by simp only;omega,by
    have hr:Eb (JH fs ⟨nm,fps,.mk xo xn xu xns xks xal⟩)=[.sl (((Ae fs.length).filter fun g=>us.any (fun q=>q==g)).map DI)]:=by rw [Eb,hcf]
    simp only
    rw [hsn,hr]
    exact ho4⟩ (by simp only;omega)
 · rw [AH (by omega)] at ho
   (repeat' (first|refine Run.ct rfl ?_|((first|refine Run.reg mixed ?_|refine Run.AD ?_|(refine Run.A1 NI (σ2:=σ) ho.le ?_))<;>try simp -implicitDefEqProofs only [Bd hlt,AA,ho.Ar,ho.BZ,go_sem])|fail))
   simp -implicitDefEqProofs only [ho.plain,ho.BZ,go_sem]
   rw [OT,List.map_map];rfl
end Go.Ab
namespace Go.Ab
open Go.Proofs
theorem nY (Q:AV→AF→Prop) (rest:List CI) (g:List (List Nat)) (hgl:g.length≤1000) (jr jl:Nat) (σ τ:AF) (cells:List AV) (h:LT σ g jr jl cells (AG g.length false) τ) (hok:Q (.d (.sl ((Nc g).map Eb))) σ):
 Run BJ Q (.code (.loop K5)::.blk 6::rest) (put 3 (.d (.int .i64 g.length)) (put 4 (.ms jr g.length 1 78) (put 10 (.ms jl g.length 1 4) (put 11 .AY U)))) E τ:=by
 refine Run.BD ?_
 refine Run.BG ((fun (a3:AV) (a4:AV) (a10:AV)=>fun (y:List Bool×List (List Nat)×Nat×AV×AF)=>put 3 a3 (put 4 a4 (put 10 a10 (put 11 (y.2.2.2.1) U)))) _ _ _) (fun _=>E) (fun y=>y.2.2.2.2)
  (fun y=>LT σ g jr jl cells y.1 y.2.2.2.2∧Cls g y.1∧Cg σ 35 1 (y.2.1.map Eb) y.2.2.2.1 y.2.2.2.2∧Nc g=y.2.1++Mz g y.2.2.1 y.1∧unm y.1 < y.2.2.1∧y.2.1.length+unm y.1≤g.length)
  (fun y=>unm y.1) ?_ (AG g.length false,[],g.length+1,.AY,τ) ⟨h,Cls.start g,⟨⟨τ,rfl,h.rt.le⟩,h.rt.le,rfl,rfl,rfl,rfl,fun _=>rfl,rfl,rfl⟩,rfl,by simp [unm],by simp [unm]⟩
 clear h
 rintro ⟨ls,out,f,outv,τ⟩ ⟨hL,hcl,ho,hcp,hf,hol⟩ ih
 simp only at hL hcl ho hcp hf hol
 (repeat' (first|refine Run.ct rfl ?_|((first|refine Run.reg mixed ?_|refine Run.AD ?_)<;>try simp -implicitDefEqProofs only [ho.Ar,go_sem])|fail))
 refine nX Q _ g hgl jr jl σ τ cells ls hL hcl out (by omega) outv ho (fun i b ls' outv' τ' hr hb hlp=>?_)
 obtain ⟨f,rfl⟩:∃f',f=f'+1:=⟨f - 1,by omega⟩
 cases b with
 |false=>
  obtain ⟨rfl,ho',hno⟩:=hr.no rfl
  have hie:=hb rfl
  subst hie
  have hnx:eT g ls'=none:=Wj hno
  rw [Mz,hnx,Aq] at hcp
  (repeat' (first|refine Run.ct rfl ?_|((first|refine Run.reg mixed ?_|refine Run.AD ?_|(refine Run.A1 Nf (σ2:=σ) ho'.le ?_))<;>try simp -implicitDefEqProofs only [ho'.Ar,go_sem])|fail))
  rw [hcp] at hok
  simp -implicitDefEqProofs only [ho'.BZ,ho'.plain,go_sem]
  exact hok
 |true=>
  obtain ⟨i0,hi0,hcan,hnx,rfl,ho'⟩:=hr.yes rfl
  have hb1:lsB ls i0=false:=by
   rw [Lh,AQ] at hcan
   simpa using hcan.1
  have hum:=cG hL.ll hi0 hb1
  (repeat' (first|refine Run.ct rfl ?_|((first|refine Run.reg mixed ?_|refine Run.AD ?_)<;>try simp -implicitDefEqProofs only [ho'.Ar,go_sem])|fail))
  refine Run.Jr [3,4,10,11] ?_;simp -implicitDefEqProofs only [go_sem]
  refine ih (NP g i0 ls,out++[Gb g i0],f,outv',τ') ⟨hr.lt,hcl.mrk i0,ho',?_,by simp only;omega,by simp only [AS,A5,BX];omega⟩ hum
  rw [hcp,Mz,hnx];simp
theorem S8 (g:List (List Nat)) (hg:N2 g) (hgl:g.length≤1000) (hll:∀l∈g,l.length≤1000) (σ:AF):
 AM Tryz.prog 36 [.d (.sl (g.map Eb))] σ (fun v σ'=>v= .d (.sl ((Nc g).map Eb))∧σ'=σ):=by
 refine T3 (by simp) ?_
 rw [Bg]
 generalize hQ:(fun (v:AV) (σ':AF)=>v= .d (.sl ((Nc g).map Eb))∧σ'=σ)=Q
 have hok:Q (.d (.sl ((Nc g).map Eb))) σ:=by rw [← hQ];exact ⟨rfl,rfl⟩
 clear hQ
 (repeat' (first|refine Run.ct rfl ?_|((first|refine Run.reg mixed ?_|refine Run.AD ?_|(refine Qx.mk (n:=g.length) (by omega) (by omega) (fun jr hjr=>?_)))<;>try simp -implicitDefEqProofs only [AA,go_sem])|fail))
 rw [Y6]
 have hrt:RT σ g jr 0 0 (AG g.length .AY) (σ.AP jr (AG g.length .AY)):=
  ⟨by rw [AL,if_pos rfl],by simp,fun k hk=>by omega,fun k _ hk=>by simp [hk],Bj hjr,hjr⟩
 generalize σ.AP jr (AG g.length .AY)=τ1 at hrt ⊢
 generalize AG g.length AV.AY=cells at hrt
 (repeat' (first|refine Run.ct rfl ?_|((first|refine Run.reg mixed ?_|refine Run.AD ?_)<;>try simp -implicitDefEqProofs only [go_sem])|fail))
 refine nU Q _ g hg hgl hll jr σ τ1 cells hrt (fun cells τ2 h2=>?_)
 (repeat' (first|refine Run.ct rfl ?_|((first|refine Run.reg mixed ?_|refine Run.AD ?_|(refine Qx.mk (n:=g.length) (by omega) (by omega) (fun jl hjl=>?_)))<;>try simp -implicitDefEqProofs only [go_sem])|fail))
 rw [KM]
 obtain ⟨f1,f2,f3⟩:=h2.fresh hjl
 have hlt:LT σ g jr jl cells (AG g.length false) (τ2.AP jl (BK (AG g.length false))):=
  ⟨⟨Cz h2.br hjl _,h2.cl,fun k hk=>by
    obtain ⟨jk,g1,g2,g3⟩:=h2.rows k hk
    exact ⟨jk,g1,Cz g2 hjl _,g3⟩,h2.rest,C1 h2.le f2,h2.nr⟩,by rw [AL,if_pos rfl],by simp,f2,f1,f3⟩
 generalize τ2.AP jl (BK (AG g.length false))=τ3 at hlt ⊢
 (repeat' (first|refine Run.ct rfl ?_|((first|refine Run.reg mixed ?_|refine Run.AD ?_)<;>try simp -implicitDefEqProofs only [go_sem])|fail))
 exact nY Q _ g hgl jr jl σ τ3 cells hlt hok
theorem Xh (p:Pg) (σ:AF) (h:∀d∈p.data,Gd d):AM Tryz.prog 13 [pgA p] σ (fun v σ'=>v=I5 (KB p)∧σ'=σ):=by
 have hcl:=fun σ=>TK p σ h
 have hco:=fun σ=>S8 (Ey p) (Sv p) (BR (Sw p) (by decide)) (fun l hl=>BR (RW p l hl) (by decide)) σ
 refine YV (by simp) ?_
 rw [Bg]
 rw [KB,LW]
 simp only [LW] at hcl
 obtain ⟨ds,fs⟩:=p
 simp only [pgA,Pg.enc,AI,AO] at hcl ⊢
 (repeat' (first|refine Run.ct rfl ?_|((first|refine Run.reg mixed ?_|refine Run.AD ?_|refine Run.Fu TB (AF.le_refl _) ?_|refine AJ.det (hcl _) ?_|refine AJ.det (hco _) ?_)<;>try simp -implicitDefEqProofs only [go_sem])|fail))
end Go.Ab
