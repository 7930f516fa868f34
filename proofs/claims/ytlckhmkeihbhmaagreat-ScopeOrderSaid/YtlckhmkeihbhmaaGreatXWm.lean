/- Reference scope: Check. The law ScopeOrder over abstract values. The given statement ScopeOrder: for every input the law returns true. Conditions: none. -/
import Derived.Test.YtlckhmkeihbhmaaGreatRows
import Derived.Test.YtlckhmkeihbhmaaGreatXWj
set_option linter.unusedSimpArgs false
set_option linter.unusedVariables false
set_option maxRecDepth 4000
set_option maxHeartbeats 8000000
open List renaming length_append→AS,all_eq_true→Ah,mem_append→A7,mem_cons_self→BG,mem_cons_of_mem→B6,mem_cons→Bc,map_cons→AG,map_nil→AQ,length_map→AA,take_append_drop→A3,length_take→Ai,getElem?_take→BF,mem_of_getElem?→AT,getElem?_map→Ag,getElem?_eq_some_iff→AR,append_nil→Ao,length_cons→A9,replicate→AH
open Bool renaming and_eq_true→AP
open Option renaming bind_eq_some_iff→AB,bind_eq_bind→AN,isSome_iff_exists→S8
open Nat renaming zero_add→Am,min_eq_left→CO,lt_or_ge→Bt,le_refl→A0
open Option.some renaming injEq→AJ
namespace Go.Ab
open Go.Proofs
theorem fE (o:Int) (n:Str) (ns sc:List Str) (i:Nat) (h:ns.length≤6):(GJ o n ns sc i).length≤sc.length+6:=by
 unfold GJ
 split
 · split
   · omega
   · rw [AS];simp
 · split
   · rw [AS];omega
   · omega
theorem fX {o:Int} {n:Str} {u:Int} {ns:List Str} {nk:Nat} {al:List Al} (h:LC o n u ns nk al=true):ns.length≤6∧(∀c vs b,Al.mk c vs b∈al→vs.length≤6)∧(o=10→al≠[]):=by
 simp only [LC,AP] at h
 obtain ⟨⟨⟨_,h3⟩,h4⟩,_⟩:=h
 refine ⟨?_,fun c vs b hm=>?_,fun ho=>?_⟩
 · unfold nsB at h3
   split at h3
   · simp only [AP,decide_eq_true_eq] at h3;omega
   · split at h3
     · simp only [AP,decide_eq_true_eq] at h3;omega
     · simp only [decide_eq_true_eq] at h3;omega
 · unfold asB at h4
   split at h4
   · simp only [AP,Ah] at h4
     have:=h4.2 _ hm
     simp only [Po,AP,decide_eq_true_eq] at this
     exact this.1.2
   · simp only [decide_eq_true_eq] at h4
     have:=List.length_pos_of_mem hm
     omega
 · unfold asB at h4
   rw [if_pos ho] at h4
   simp only [AP,decide_eq_true_eq] at h4
   intro e;rw [e] at h4;simp at h4
theorem UJ {o:Int} {n:Str} {ns sc:List Str} {x:Ex×List Str}:∀ {l:List Ex} {i:Nat},x∈Bf o n ns sc i l→∃k∈l,∃i',x∈Ba k (GJ o n ns sc i')
 |[],i,h=>by simp [Bf] at h
 |k::l,i,h=>by
  rw [Bf,A7] at h
  rcases h with h|h
  · exact ⟨k,BG ..,_,h⟩
  · obtain ⟨k',h1,h2⟩:=UJ h
    exact ⟨k',B6 _ h1,h2⟩
theorem Zh:∀(d q:Nat) (e:Ex) (r:Nat),vEx d q e=some r→∀sc x,x∈Ba e sc→x.2.length≤sc.length+6 * d∧(x.1.op=10→x.1.alts≠[])
 |0,q,e,r,h=>by simp [vEx] at h
 |d+1,0,.mk ..,r,h=>by cases h
 |d+1,q+1,.mk o n u ns ks al,r,h=>by
  simp only [vEx] at h
  split at h
  · rename_i hn
    rw [AB] at h
    obtain ⟨c,hc,h⟩:=h
    obtain ⟨_,h2⟩:=Lw (sz:=Ex.size) (Q:=fun e=>∀sc x,x∈Ba e sc→x.2.length≤sc.length+6 * d∧(x.1.op=10→x.1.alts≠[])) ks q c (fun x _ a b hab=>⟨(O4 d a x b hab).1,Zh d a x b hab⟩) hc
    obtain ⟨_,h4⟩:=Lw (sz:=Al.size) (Q:=fun a=>∀c vs b,a=Al.mk c vs b→∀sc x,x∈Ba b sc→x.2.length≤sc.length+6 * d∧(x.1.op=10→x.1.alts≠[])) al c r (fun x _ a b hab=>by
     cases x with
     |mk cc vs bd=>
      exact ⟨(O4 d a _ b hab).1,fun c' vs' b' he=>by cases he;exact Zh d a _ b hab⟩) h
    obtain ⟨m1,m2,m3⟩:=fX hn
    intro sc x hx
    rw [TN,Bc,A7] at hx
    rcases hx with rfl|hx|hx
    · exact ⟨by simp only;omega,m3⟩
    · obtain ⟨k,hk,i',hx⟩:=UJ hx
      have:=h2 k hk _ x hx
      have hil:=fE o n ns sc i' m1
      exact ⟨by omega,this.2⟩
    · obtain ⟨a,ha,hx⟩:=Of hx
      obtain ⟨c',vs',b'⟩:=a
      rw [Rp] at hx
      have:=h4 _ ha c' vs' b' rfl _ x hx
      have hvl:=m2 _ _ _ ha
      rw [AS] at this
      exact ⟨by omega,this.2⟩
  · simp at h
theorem Tr:∀(l:List FE) (q r:Nat),l.foldlM L9 q=some r→∀f∈l,∀sc x,x∈Ba f.body sc→x.2.length≤sc.length+240∧(x.1.op=10→x.1.alts≠[])
 |[],q,r,_,f,hf=>by simp at hf
 |g::l,q,r,h,f,hf=>by
  rw [List.foldlM_cons,AN,AB] at h
  obtain ⟨b,hb,h⟩:=h
  unfold L9 at hb
  split at hb
  · rcases Bc.1 hf with rfl|hf
    · exact Zh 40 _ _ _ hb
    · exact Tr l b r h f hf
  · cases hb
theorem dS {p:Pg} (h:EF p=true):∀f∈p.NP,∀x∈Ba f.body f.params,okX x∧x.2.length≤1000000:=by
 have hg:=Mv h
 simp only [EF,AP,decide_eq_true_eq] at h
 obtain ⟨_,h2⟩:=h
 obtain ⟨r,hr⟩:=S8.1 h2
 intro f hf x hx
 obtain ⟨g1,g2,g3⟩:=hg.2 f hf
 have:=Tr _ _ _ hr f hf _ x hx
 exact ⟨⟨g3 _ x hx,this.2⟩,by omega⟩
theorem WS.new {σ τ:AF} {j:Nat} (ps:List DE) (fs:List FE) (dt:List Dat) (hle:σ.le τ) (hj:τ.blk j=none):WS σ j ps fs dt 0 [] (τ.AO j (wkB ps fs dt 0 .AZ)):=by
 have hj0:σ.blk j=none:=by
  cases hc:σ.blk j with
  |none=>rfl
  |some c=>rw [hle.blk j c hc] at hj;cases hj
 have hl:=DH (cs:=wkB ps fs dt 0 .AZ) hle hj0
 exact ⟨.AZ,by rw [AM,if_pos rfl];rfl,⟨⟨_,rfl,hl⟩,hl,rfl,rfl,rfl,rfl,fun _=>rfl,rfl,rfl⟩,hj0⟩
theorem Xr (p:Pg) (σ:AF) (h:∀d∈p.data,Hp d):AL Tryz.prog 15 [pgA p] σ (fun v σ'=>v=dgA (NN p)∧σ'=σ):=by
 have hdat:=ZX p σ h
 refine Yz (by simp) ?_
 rw [Bj]
 unfold NN
 cases hdp:ND p with
 |error d=>
  rw [hdp] at hdat
  obtain ⟨c,a,b⟩:=d
  obtain ⟨ds,fs⟩:=p
  simp only [pgA,Pg.enc,AG,AQ,SR,dgA,dsA] at hdat ⊢
  have hne:(c != 0)=true:=by simpa using Tm hdp
  (repeat' (first|refine Run.ct rfl ?_|((first|refine Run.reg mixed ?_|refine Run.AE ?_|refine Run.Fp I1 (AF.le_refl _) ?_|refine AI.det (hdat) ?_)<;>try simp -implicitDefEqProofs only [hne,go_sem])|fail))
 |ok dt=>
 rw [hdp] at hdat
 obtain ⟨hval,hgo⟩:=Ns hdp
 obtain ⟨hfl,hgood⟩:=Mv hval
 have hokx:=dS hval
 have hdt:QS dt:=(Iy hgo).2.2.2.2 1000000 (fun d hd=>by have:=((Ok hval h).2 d hd).1;omega)
 obtain ⟨ds,fs⟩:=p
 simp only [pgA,Pg.enc,AG,AQ,SR,dgA,dsA] at hdat hfl hgood hokx ⊢
 have h00:((0:Int) != 0)=false:=by decide
 (repeat' (first|refine Run.ct rfl ?_|((first|refine Run.reg mixed ?_|refine Run.AE ?_|refine AI.det (hdat) ?_)<;>try simp -implicitDefEqProofs only [h00,AA,go_sem])|fail))
 generalize hQ:(fun (v:AV) (σ':AF)=>v=AV.agg [.d (.int .i64 (Fx fs dt 0 fs).1),.d (.int .i64 (Fx fs dt 0 fs).2.1),.d (.int .i64 (Fx fs dt 0 fs).2.2)]∧σ'=σ)=Q
 have hok:∀g1 g2 g3,Fx fs dt 0 fs=(g1,g2,g3)→Q (.agg [.d (.int .i64 g1),.d (.int .i64 g2),.d (.int .i64 g3)]) σ:=fun g1 g2 g3 hg=>by rw [← hQ,hg];exact ⟨rfl,rfl⟩
 clear hQ
 refine Run.BD ?_
 refine Run.BK ((fun (a1:AV) (a2:AV) (a3:AV)=>fun (y:Nat×AF)=>put 1 a1 (put 2 a2 (put 3 a3 (put 5 (.d (.int .i64 y.1)) U)))) _ _ _) (fun _=>Az 1 [.d (.sl (ds.map DE.enc)),.d (.sl (fs.map FE.enc))] (Az 2 [.d (.int .i64 0),.d (.int .i64 0),.d (.int .i64 0)] E)) (fun y=>y.2)
  (fun y=>y.1≤fs.length∧(∀k f,fs[k]?=some f→k < y.1→Qe fs dt k f=none)∧σ.le y.2) (fun y=>fs.length - y.1) ?_ (0,σ) ⟨by simp,fun k f _ hk=>by simp only at hk;omega,AF.le_refl _⟩
 rintro ⟨i,τ⟩ ⟨hi,hno,hle⟩ ih
 simp only at hi hno hle
 by_cases hlt:i < fs.length
 · obtain ⟨f,hf⟩:=BC hlt
   have he:=BA (enc:=FE.enc) hf
   have hw1:=A5 (show i+1≤9000000000000000000 by omega)
   have hgo2:Fx fs dt 0 fs=Fx fs dt i (f::fs.drop (i+1)):=by
    conv=>lhs;rw [show Fx fs dt 0 fs=Fx fs dt 0 (fs.take i++fs.drop i) by rw [A3],B3 hf]
    rw [Lu fs dt _ _ 0 (fun k g hg=>?_),Am,Ai,CO hi]
    rw [Am]
    rw [BF] at hg
    split at hg
    · exact hno k g hg (by assumption)
    · cases hg
   rw [Fx] at hgo2
   have hfm:=AT hf
   obtain ⟨k,hk,hki⟩:=Wc (l:=CX fs) (s:=f.name) (i:=i) (by rw [CX,Ag,hf];rfl)
   have hF:Qe fs dt i f=if k < i∨CA f.params=true then some (4,(i:Int),0) else match EL (E0 fs dt) (Ba f.body f.params) with
    |some (k,c)=>some (c,(i:Int),(k:Int))
    |none=>none:=by
    unfold Qe
    rw [hk]
    have:(some k≠some i∨CA f.params=true)↔(k < i∨CA f.params=true):=by
     simp only [ne_eq,AJ]
     constructor
     · rintro (h|h)
       · exact .inl (by omega)
       · exact .inr h
     · rintro (h|h)
       · exact .inl (by omega)
       · exact .inr h
    simp only [this]
    split
    · rfl
    · cases EL (E0 fs dt) (Ba f.body f.params)<;>rfl
   rw [hF] at hgo2
   have hnx:Qe fs dt i f=none→∀k g,fs[k]?=some g→k < i+1→Qe fs dt k g=none:=fun h0 k g hg hk=>by
    rcases Bt k i with h|h
    · exact hno k g hg h
    · have:k=i:=by omega
      subst this
      rw [hf] at hg;cases hg;exact h0
   rw [hF] at hnx
   clear hF
   have hwsz:=(hgood f hfm).1
   have hpl:=(hgood f hfm).2.1
   have hox:=hokx f hfm
   have hrp:=fun τ=>LF f.params τ
   obtain ⟨nm,fps,fb⟩:=f
   simp only at hwsz hpl hox hrp hk hgo2 hnx
   have hfn:=fun j τ hb=>OP ds fs dt 0 .AZ j nm τ (by omega) hb
   have hcb:=fun (j:Nat) (τ:AF) (hW:WS σ j ds fs dt 0 [] τ)=>Xs σ j ds fs dt hdt (by omega) fb.size fb fps 0 [] τ (A0 _) (by omega) (by simp) (by omega) hox hW
   rw [hk] at hfn
   simp only [E9,wkB] at hfn
   simp only [FE.enc] at he
   unfold JT at hcb
   generalize hee:EL (E0 fs dt) (Ba fb fps)=ee at hcb hgo2 hnx
   obtain ⟨xo,xn,xu,xns,xks,xal⟩:=fb
   simp only [exA,Ex.A4,AG,AQ] at he hcb
   (repeat' (first|refine Run.ct rfl ?_|((first|refine Run.reg mixed ?_|refine Run.AE ?_)<;>try simp -implicitDefEqProofs only [Ac hlt,he,AA,go_sem])|fail))
   intro jw hjw
   have hW:=WS.new (σ:=σ) ds fs dt hle hjw
   have hle1:=hW.le
   have hb1:(τ.AO jw (wkB ds fs dt 0 .AZ)).blk jw=some (wkB ds fs dt 0 .AZ):=by rw [AM,if_pos rfl]
   have hcb:=hcb jw _ hW
   have hfn:=hfn jw _ hb1
   have hrp:=hrp (τ.AO jw (wkB ds fs dt 0 .AZ))
   unfold wkB at hle1 hb1 hcb hfn hrp
   generalize τ.AO jw [AV.d (.sl (ds.map DE.enc)),.d (.sl (fs.map FE.enc)),.d (.sl (dt.map Dat.enc)),.d (.int .i64 0),.AZ]=τ1 at hle1 hb1 hcb hfn hrp ⊢
   by_cases hki2:k < i
   · have hd:decide ((k:Int) < (i:Int))=true:=by simpa using hki2
     rw [if_pos (.inl hki2)] at hgo2
     have:=hok _ _ _ hgo2
     clear hok
     (repeat' (first|refine Run.ct rfl ?_|((first|refine Run.reg mixed ?_|refine Run.AE ?_|(refine Run.A1 I1 (σ2:=σ) hle1 ?_)|refine AI.det (hfn) ?_)<;>try simp -implicitDefEqProofs only [hd,AA,go_sem])|fail))
     exact this
   have hd:decide ((k:Int) < (i:Int))=false:=by simpa using hki2
   cases htw:CA fps with
   |true=>
    rw [htw] at hgo2 hrp
    rw [if_pos (.inr rfl)] at hgo2
    have:=hok _ _ _ hgo2
    clear hok
    (repeat' (first|refine Run.ct rfl ?_|((first|refine Run.reg mixed ?_|refine Run.AE ?_|(refine Run.A1 I1 (σ2:=σ) hle1 ?_)|refine AI.det (hfn) ?_|refine AI.det (hrp) ?_)<;>try simp -implicitDefEqProofs only [hd,AA,go_sem])|fail))
    exact this
   |false=>
   rw [htw] at hgo2 hrp hnx
   rw [if_neg (by simp;omega)] at hgo2 hnx
   cases ee with
   |some y=>
    obtain ⟨q,c⟩:=y
    simp only at hgo2 hcb
    have:=hok _ _ _ hgo2
    have hcn:(c != 0)=true:=by simpa using Qi hee
    rw [Am] at hcb
    clear hok
    (repeat' (first|refine Run.ct rfl ?_|((first|refine Run.reg mixed ?_|refine Run.AE ?_|(refine AI.mk rfl hcb ?_;rintro _ τ2 ⟨rfl,hle1⟩)|(refine Run.A1 I1 (σ2:=σ) hle1 ?_)|refine AI.det (hfn) ?_|refine AI.det (hrp) ?_)<;>try simp -implicitDefEqProofs only [hd,hcn,AA,go_sem])|fail))
    exact this
   |none=>
    simp only at hcb hnx
    clear hok
    (repeat' (first|refine Run.ct rfl ?_|((first|refine Run.reg mixed ?_|refine Run.AE ?_|(refine AI.mk rfl hcb ?_;rintro _ τ2 ⟨rfl,hW2⟩)|refine AI.det (hfn) ?_|refine AI.det (hrp) ?_)<;>try simp -implicitDefEqProofs only [hd,h00,hw1,AA,go_sem])|fail))
    exact ih (i+1,τ2) ⟨by simp only;omega,hnx trivial,hW2.le⟩ (by simp only;omega)
 · have hall:Fx fs dt 0 fs=(0,0,0):=by
    have:=Lu fs dt [] fs 0 (fun k g hg=>by rw [Am];exact hno k g hg (by have:=(AR.1 hg).1;omega))
    rw [Ao] at this
    rw [this];rfl
   have:=hok 0 0 0 hall
   clear hok
   (repeat' (first|refine Run.ct rfl ?_|((first|refine Run.reg mixed ?_|refine Run.AE ?_|(refine Run.A1 I1 (σ2:=σ) hle ?_))<;>try simp -implicitDefEqProofs only [Bi hlt,AA,go_sem])|fail))
   exact this
end Go.Ab
namespace Go.Ab
open Go.Proofs
theorem Tx {g:List (List Nat)}:∀(f:Nat) (ls:List Bool),(G7 g f ls).length≤f
 |0,_=>by simp [G7]
 |f+1,ls=>by
  rw [G7]
  cases Wm g ls with
  |none=>simp
  |some i=>have:=Tx (g:=g) f (OM g i ls);simp only [A9];omega
theorem Uy (p:Pg) (σ:AF):AL Tryz.prog 4 [pgA p] σ (fun v σ'=>v= .d (.bool true)∧σ'=σ):=by
 have hk:=Wg p σ
 refine Px (by simp) ?_
 rw [Bj]
 obtain ⟨ds,fs⟩:=p
 simp only [pgA,Pg.enc,AG,AQ] at hk ⊢
 (repeat' (first|refine Run.ct rfl ?_|((first|refine Run.reg mixed ?_|refine Run.AE ?_|(refine AI.mk rfl hk ?_;rintro _ σ ⟨b,⟨rfl,rfl⟩,hb⟩;cases b)|(refine Run.A1 FR (AF.le_refl _) ?_)|(refine Ce rfl (fun h=>?_) (fun h=>?_)<;>try (cases h;done)))<;>try simp -implicitDefEqProofs only [go_sem])|(refine ⟨fun h=>?_,fun h=>?_⟩<;>first|(cases h;done)|try simp only [h])|fail))
 have hsm:=hb rfl
 have hsd:∀d∈(⟨ds,fs⟩:Pg).data,Hp d:=fun d hd c hc t ht=>by have:=((hsm.1.2 d hd).2.2.2 c hc).2.2 t ht;omega
 have hck:=Xr ⟨ds,fs⟩ σ hsd
 have hcl:=OX ⟨ds,fs⟩ σ hsd
 have hgr:=TF ⟨ds,fs⟩
 have haw:=fun τ=>UH τ
 by_cases hc0:(NN ⟨ds,fs⟩).1=0
 · have hne:((NN ⟨ds,fs⟩).1 != 0)=false:=by rw [hc0];rfl
   have hcf:(E5 ⟨ds,fs⟩).length=fs.length:=by unfold E5;rw [if_pos hc0,AA]
   have hed:=SN ⟨ds,fs⟩
   have hs1:=SO ⟨ds,fs⟩
   have hs2:=Qd ⟨ds,fs⟩
   have hgl:=Tx (g:=E5 ⟨ds,fs⟩) ((E5 ⟨ds,fs⟩).length+1) (AH (E5 ⟨ds,fs⟩).length false)
   rw [show G7 (E5 ⟨ds,fs⟩) ((E5 ⟨ds,fs⟩).length+1) (AH (E5 ⟨ds,fs⟩).length false)=H6 (E5 ⟨ds,fs⟩) from rfl] at hgl
   simp only [W4,Nq] at hcl hgr
   simp only [pgA,Pg.enc,AG,AQ,dgA] at hck hcl hgr
   generalize NN ⟨ds,fs⟩=gd at hck hne
   obtain ⟨g1,g2,g3⟩:=gd
   generalize E5 ⟨ds,fs⟩=g at *
   have hne2:((g.length:Int) != (fs.length:Int))=false:=by rw [hcf];simp
   (repeat' (first|refine Run.ct rfl ?_|((first|refine Run.reg mixed ?_|refine Run.AE ?_|(refine S9.mk (n:=fs.length) (by omega) (by omega) (fun ja hja=>?_))|refine AI.det (hck) ?_|refine AI.det (hcl) ?_|(refine Ce rfl (fun h=>?_) (fun h=>?_)<;>try (cases h;done)))<;>try simp -implicitDefEqProofs only [hne,hne2,AA,go_sem])|(refine ⟨fun h=>?_,fun h=>?_⟩<;>first|(cases h;done)|try simp only [h])|fail))
   have hgr1:=hgr (σ.AO ja (Gj (AH g.length 0))) hsd
   rw [fW,← hcf]
   have hle:=fun A=>DH (cs:=Gj A) (AF.le_refl σ) hja
   (repeat' (first|refine Run.ct rfl ?_|((first|refine Run.reg mixed ?_|refine Run.AE ?_|refine AI.det (hgr1) ?_|(refine Ce rfl (fun h=>?_) (fun h=>?_)<;>try (cases h;done)))<;>try simp -implicitDefEqProofs only [AA,go_sem])|(refine ⟨fun h=>?_,fun h=>?_⟩<;>first|(cases h;done)|try simp only [h])|fail))
   refine l5 _ _ g hed (by omega) _ σ ja (by omega) (fun A hA h1 h2=>?_)
   (repeat' (first|refine Run.ct rfl ?_|((first|refine Run.reg mixed ?_|refine Run.AE ?_|(refine Ce rfl (fun h=>?_) (fun h=>?_)<;>try (cases h;done)))<;>try simp -implicitDefEqProofs only [AA,go_sem])|(refine ⟨fun h=>?_,fun h=>?_⟩<;>first|(cases h;done)|try simp only [h])|fail))
   refine l7 _ _ g hed (by omega) (fun l hl=>by have:=hs2 l hl;omega) σ ja A hA h1 h2 ?_
   have haw1:=haw (σ.AO ja (Gj A))
   (repeat' (first|refine Run.ct rfl ?_|((first|refine Run.reg mixed ?_|refine Run.AE ?_|(refine Run.A1 FR (σ2:=σ) (hle A) ?_)|refine AI.det (haw1) ?_|(refine Ce rfl (fun h=>?_) (fun h=>?_)<;>try (cases h;done)))<;>try simp -implicitDefEqProofs only [go_sem])|(refine ⟨fun h=>?_,fun h=>?_⟩<;>first|(cases h;done)|try simp only [h])|fail))
 · have hne:((NN ⟨ds,fs⟩).1 != 0)=true:=by simpa using hc0
   simp only [pgA,Pg.enc,AG,AQ,dgA] at hck
   generalize NN ⟨ds,fs⟩=gd at hck hne
   obtain ⟨g1,g2,g3⟩:=gd
   (repeat' (first|refine Run.ct rfl ?_|((first|refine Run.reg mixed ?_|refine Run.AE ?_|(refine Run.A1 FR (AF.le_refl _) ?_)|refine AI.det (hck) ?_|(refine Ce rfl (fun h=>?_) (fun h=>?_)<;>try (cases h;done)))<;>try simp -implicitDefEqProofs only [hne,go_sem])|(refine ⟨fun h=>?_,fun h=>?_⟩<;>first|(cases h;done)|try simp only [h])|fail))
end Go.Ab
namespace Go.Ab
open Go.Proofs
theorem TD (av:List AV) (h:SH Tryz.prog [25] av):AL Tryz.prog 4 av Za (fun v _=>v= .d (.bool true)):=by
 obtain ⟨p,rfl⟩:=iE h
 exact (Uy p Za).mono (fun _ _ h=>h.1)
end Go.Ab
namespace Go.Proofs.YtlckhmkeihbhmaaGreat
open Go.ChangeShapes Go.WideShapes Go.ChangeAt Go.RowKit
theorem Tryz.own:ownKnob Tryz.prog.godebug=none:=by kernel_rfl
theorem Tryz.laidOut:laidOutB Tryz.prog=true:=by kernel_rfl
set_option maxRecDepth 100000 in
theorem RM (os:Os) (started:os.Started) (H:Type) (enc:TypeId×Value→H):
 ReturnsInHanded {} Tryz.checked os 4 .any (Rows.scopeOrderSpec.pre6 enc Tryz.prog Tryz.f4 Rows.scopeOrderRow.domain false) (Rows.scopeOrderSpec.post enc Tryz.prog Tryz.f4 false true false false):=by
 refine returnsInHanded_of_change (C:=Tryz.checked) Tryz.own started (by kernel_rfl) Tryz.func4
  (ChangeSpec.witness6 (enc:=enc) (C:=Tryz.checked) false ⟨#[],#[.agg #[.slice none 0 0,.slice none 0 0]],[]⟩ 8 (by kernel_rfl) (by kernel_rfl) (by kernel_rfl) (by kernel_rfl)) ?_
 intro W base args ds gs before hval hW _ _
 refine Go.Ab.Wi (P:=Tryz.prog) [25,22,68,9,38,66,72,70,74,3,23,44,42,2,39,40,129] Tryz.laidOut (by kernel_rfl) ?_ ?_ (tb:=4) (by kernel_rfl) Tryz.underlying4 rfl ?_ ?_ W base args ds gs before hval hW
 · rw [Tryz.params4];simp
 · rw [Tryz.params4]
   intro t ht
   simp only [Bc,List.not_mem_nil,or_false] at ht
   subst ht
   exact ⟨by kernel_rfl,of_decide_eq_true (by kernel_rfl)⟩
 · rw [Tryz.params4]
   intro ds hd
   match ds,hd with
   |[d0],_=>rfl
 · rw [Tryz.params4]
   exact Go.Ab.TD
theorem scopeOrder_holds:Rows.ScopeOrderSaid:=
 OpenClaim.holds_of_wide 4 Tryz.f4 rfl rfl rfl rfl rfl rfl rfl ⟨rfl,rfl,rfl,rfl,rfl⟩ rfl rfl rfl rfl rfl (by kernel_rfl) Tryz.func4 (by kernel_rfl)
  (of_decide_eq_true (by kernel_rfl)) (by unfold Func.isWrapper;first|(rw [if_pos (by decide+kernel)];kernel_rfl)|(rw [if_neg (by decide+kernel)];exact ⟨rfl,rfl⟩))
  (fun os started H enc _=>RM os started H enc)
end Go.Proofs.YtlckhmkeihbhmaaGreat
#print axioms Go.Proofs.YtlckhmkeihbhmaaGreat.scopeOrder_holds
