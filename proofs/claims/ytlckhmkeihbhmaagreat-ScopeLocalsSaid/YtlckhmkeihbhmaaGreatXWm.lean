/- Reference scope: Check. Components of a graph, in plain data: what a search marks. Components: the search. Components: the rows of reach. Conditions: none. -/
import Derived.Test.YtlckhmkeihbhmaaGreatXWl
set_option linter.unusedSimpArgs false
set_option linter.unusedVariables false
set_option maxRecDepth 4000
set_option maxHeartbeats 8000000
open List renaming length_append→AT,all_eq_true→Aj,mem_append→A6,mem_cons_self→Ai,mem_cons_of_mem→Ao,mem_cons→BW,foldlM_cons→E4,map_cons→AH,map_nil→AM,length_map→AA,take_append_drop→A4,length_take→Ae,getElem?_take→BM,mem_of_getElem?→AS,getElem?_map→Ad,getElem?_eq_some_iff→AR,append_nil→At,getD_eq_getElem?_getD→Bq,range→BI,getElem?_set→B5,replicate→AO,ext_getElem?→GL,getElem?_range→DL,getElem?_eq_none→BP,take→DS,drop→DR,length_cons→A5,length_nil→CQ,take_of_length_le→AG
open Bool renaming and_eq_true→AN,eq_iff_iff→Af
open Option renaming bind_eq_some_iff→AB,bind_eq_bind→AL,isSome_iff_exists→Gi,map_some→Bl
open Nat renaming zero_add→An,min_eq_left→CT,lt_or_ge→Bt,le_refl→A0,mul_one→BQ
open Option.some renaming injEq→AJ
open Ne renaming symm→CO
namespace Go.Ab
open Go.Proofs
theorem kR (o:Int) (n:Str) (ns sc:List Str) (i:Nat) (h:ns.length≤6):(FV o n ns sc i).length≤sc.length+6:=by
 unfold FV
 split
 · split
   · omega
   · rw [AT];simp
 · split
   · rw [AT];omega
   · omega
theorem lI {o:Int} {n:Str} {u:Int} {ns:List Str} {nk:Nat} {al:List Al} (h:JZ o n u ns nk al=true):ns.length≤6∧(∀c vs b,Al.mk c vs b∈al→vs.length≤6)∧(o=10→al≠[]):=by
 simp only [JZ,AN] at h
 obtain ⟨⟨⟨_,h3⟩,h4⟩,_⟩:=h
 refine ⟨?_,fun c vs b hm=>?_,fun ho=>?_⟩
 · unfold nsB at h3
   split at h3
   · simp only [AN,decide_eq_true_eq] at h3;omega
   · split at h3
     · simp only [AN,decide_eq_true_eq] at h3;omega
     · simp only [decide_eq_true_eq] at h3;omega
 · unfold asB at h4
   split at h4
   · simp only [AN,Aj] at h4
     have:=h4.2 _ hm
     simp only [Nv,AN,decide_eq_true_eq] at this
     exact this.1.2
   · simp only [decide_eq_true_eq] at h4
     have:=List.length_pos_of_mem hm
     omega
 · unfold asB at h4
   rw [if_pos ho] at h4
   simp only [AN,decide_eq_true_eq] at h4
   intro e;rw [e] at h4;simp at h4
theorem V1 {o:Int} {n:Str} {ns sc:List Str} {x:Ex×List Str}:∀ {l:List Ex} {i:Nat},x∈B9 o n ns sc i l→∃k∈l,∃i',x∈B7 k (FV o n ns sc i')
 |[],i,h=>by simp [B9] at h
 |k::l,i,h=>by
  rw [B9,A6] at h
  rcases h with h|h
  · exact ⟨k,Ai ..,_,h⟩
  · obtain ⟨k',h1,h2⟩:=V1 h
    exact ⟨k',Ao _ h1,h2⟩
theorem dZ:∀(d q:Nat) (e:Ex) (r:Nat),vEx d q e=some r→∀sc x,x∈B7 e sc→x.2.length≤sc.length+6 * d∧(x.1.op=10→x.1.alts≠[])
 |0,q,e,r,h=>by simp [vEx] at h
 |d+1,0,.mk ..,r,h=>by cases h
 |d+1,q+1,.mk o n u ns ks al,r,h=>by
  simp only [vEx] at h
  split at h
  · rename_i hn
    rw [AB] at h
    obtain ⟨c,hc,h⟩:=h
    obtain ⟨_,h2⟩:=MW (sz:=Ex.size) (Q:=fun e=>∀sc x,x∈B7 e sc→x.2.length≤sc.length+6 * d∧(x.1.op=10→x.1.alts≠[])) ks q c (fun x _ a b hab=>⟨(PK d a x b hab).1,dZ d a x b hab⟩) hc
    obtain ⟨_,h4⟩:=MW (sz:=Al.size) (Q:=fun a=>∀c vs b,a=Al.mk c vs b→∀sc x,x∈B7 b sc→x.2.length≤sc.length+6 * d∧(x.1.op=10→x.1.alts≠[])) al c r (fun x _ a b hab=>by
     cases x with
     |mk cc vs bd=>
      exact ⟨(PK d a _ b hab).1,fun c' vs' b' he=>by cases he;exact dZ d a _ b hab⟩) h
    obtain ⟨m1,m2,m3⟩:=lI hn
    intro sc x hx
    rw [UQ,BW,A6] at hx
    rcases hx with rfl|hx|hx
    · exact ⟨by simp only;omega,m3⟩
    · obtain ⟨k,hk,i',hx⟩:=V1 hx
      have:=h2 k hk _ x hx
      have hil:=kR o n ns sc i' m1
      exact ⟨by omega,this.2⟩
    · obtain ⟨a,ha,hx⟩:=P1 hx
      obtain ⟨c',vs',b'⟩:=a
      rw [Ot] at hx
      have:=h4 _ ha c' vs' b' rfl _ x hx
      have hvl:=m2 _ _ _ ha
      rw [AT] at this
      exact ⟨by omega,this.2⟩
  · simp at h
theorem VF:∀(l:List FE) (q r:Nat),l.foldlM KY q=some r→∀f∈l,∀sc x,x∈B7 f.body sc→x.2.length≤sc.length+240∧(x.1.op=10→x.1.alts≠[])
 |[],q,r,_,f,hf=>by simp at hf
 |g::l,q,r,h,f,hf=>by
  rw [E4,AL,AB] at h
  obtain ⟨b,hb,h⟩:=h
  unfold KY at hb
  split at hb
  · rcases BW.1 hf with rfl|hf
    · exact dZ 40 _ _ _ hb
    · exact VF l b r h f hf
  · cases hb
theorem jI {p:Pg} (h:Cu p=true):∀f∈p.Hp,∀x∈B7 f.body f.params,okX x∧x.2.length≤1000000:=by
 have hg:=Iq h
 simp only [Cu,AN,decide_eq_true_eq] at h
 obtain ⟨_,h2⟩:=h
 obtain ⟨r,hr⟩:=Gi.1 h2
 intro f hf x hx
 obtain ⟨g1,g2,g3⟩:=hg.2 f hf
 have:=VF _ _ _ hr f hf _ x hx
 exact ⟨⟨g3 _ x hx,this.2⟩,by omega⟩
theorem WS.new {σ τ:AF} {j:Nat} (ps:List DE) (fs:List FE) (dt:List Dat) (hle:σ.le τ) (hj:τ.blk j=none):WS σ j ps fs dt 0 [] (τ.AQ j (wkB ps fs dt 0 .AU)):=by
 have hj0:σ.blk j=none:=by
  cases hc:σ.blk j with
  |none=>rfl
  |some c=>rw [hle.blk j c hc] at hj;cases hj
 have hl:=Dc (cs:=wkB ps fs dt 0 .AU) hle hj0
 exact ⟨.AU,by rw [AP,if_pos rfl];rfl,⟨⟨_,rfl,hl⟩,hl,rfl,rfl,rfl,rfl,fun _=>rfl,rfl,rfl⟩,hj0⟩
theorem Zq (p:Pg) (σ:AF) (h:∀d∈p.data,HT d):AK Tryz.prog 15 [pgA p] σ (fun v σ'=>v=dgA (KJ p)∧σ'=σ):=by
 have hdat:=dE p σ h
 refine cI (by simp) ?_
 rw [Bf]
 unfold KJ
 cases hdp:Jz p with
 |error d=>
  rw [hdp] at hdat
  obtain ⟨c,a,b⟩:=d
  obtain ⟨ds,fs⟩:=p
  simp only [pgA,Pg.enc,AH,AM,TT,dgA,dsA] at hdat ⊢
  have hne:(c != 0)=true:=by simpa using O4 hdp
  (repeat' (first|refine Run.ct rfl ?_|((first|refine Run.reg mixed ?_|refine Run.AD ?_|refine Run.Er Ig (AF.le_refl _) ?_|refine AI.det (hdat) ?_)<;>try simp -implicitDefEqProofs only [hne,go_sem])|fail))
 |ok dt=>
 rw [hdp] at hdat
 obtain ⟨hval,hgo⟩:=JN hdp
 obtain ⟨hfl,hgood⟩:=Iq hval
 have hokx:=jI hval
 have hdt:RJ dt:=(JM hgo).2.2.2.2 1000000 (fun d hd=>by have:=((P6 hval h).2 d hd).1;omega)
 obtain ⟨ds,fs⟩:=p
 simp only [pgA,Pg.enc,AH,AM,TT,dgA,dsA] at hdat hfl hgood hokx ⊢
 have h00:((0:Int) != 0)=false:=by decide
 (repeat' (first|refine Run.ct rfl ?_|((first|refine Run.reg mixed ?_|refine Run.AD ?_|refine AI.det (hdat) ?_)<;>try simp -implicitDefEqProofs only [h00,AA,go_sem])|fail))
 generalize hQ:(fun (v:AV) (σ':AF)=>v=AV.agg [.d (.int .i64 (FB fs dt 0 fs).1),.d (.int .i64 (FB fs dt 0 fs).2.1),.d (.int .i64 (FB fs dt 0 fs).2.2)]∧σ'=σ)=Q
 have hok:∀g1 g2 g3,FB fs dt 0 fs=(g1,g2,g3)→Q (.agg [.d (.int .i64 g1),.d (.int .i64 g2),.d (.int .i64 g3)]) σ:=fun g1 g2 g3 hg=>by rw [← hQ,hg];exact ⟨rfl,rfl⟩
 clear hQ
 refine Run.Ay ?_
 refine Run.BB ((fun (a1:AV) (a2:AV) (a3:AV)=>fun (y:Nat×AF)=>put 1 a1 (put 2 a2 (put 3 a3 (put 5 (.d (.int .i64 y.1)) U)))) _ _ _) (fun _=>BA 1 [.d (.sl (ds.map DE.enc)),.d (.sl (fs.map FE.enc))] (BA 2 [.d (.int .i64 0),.d (.int .i64 0),.d (.int .i64 0)] E)) (fun y=>y.2)
  (fun y=>y.1≤fs.length∧(∀k f,fs[k]?=some f→k < y.1→Lj fs dt k f=none)∧σ.le y.2) (fun y=>fs.length - y.1) ?_ (0,σ) ⟨by simp,fun k f _ hk=>by simp only at hk;omega,AF.le_refl _⟩
 rintro ⟨i,τ⟩ ⟨hi,hno,hle⟩ ih
 simp only at hi hno hle
 by_cases hlt:i < fs.length
 · obtain ⟨f,hf⟩:=Aw hlt
   have he:=Aq (enc:=FE.enc) hf
   have hw1:=A7 (show i+1≤9000000000000000000 by omega)
   have hgo2:FB fs dt 0 fs=FB fs dt i (f::fs.drop (i+1)):=by
    conv=>lhs;rw [show FB fs dt 0 fs=FB fs dt 0 (fs.take i++fs.drop i) by rw [A4],Bc hf]
    rw [MU fs dt _ _ 0 (fun k g hg=>?_),An,Ae,CT hi]
    rw [An]
    rw [BM] at hg
    split at hg
    · exact hno k g hg (by assumption)
    · cases hg
   rw [FB] at hgo2
   have hfm:=AS hf
   obtain ⟨k,hk,hki⟩:=YP (l:=Bm fs) (s:=f.name) (i:=i) (by rw [Bm,Ad,hf];rfl)
   have hF:Lj fs dt i f=if k < i∨Bo f.params=true then some (4,(i:Int),0) else match EB (EP fs dt) (B7 f.body f.params) with
    |some (k,c)=>some (c,(i:Int),(k:Int))
    |none=>none:=by
    unfold Lj
    rw [hk]
    have:(some k≠some i∨Bo f.params=true)↔(k < i∨Bo f.params=true):=by
     simp only [ne_eq,AJ]
     constructor
     · rintro (h|h)
       · exact .inl (by omega)
       · exact .inr h
     · rintro (h|h)
       · exact .inl (by omega)
       · exact .inr h
    simp only [this]
    split
    · rfl
    · cases EB (EP fs dt) (B7 f.body f.params)<;>rfl
   rw [hF] at hgo2
   have hnx:Lj fs dt i f=none→∀k g,fs[k]?=some g→k < i+1→Lj fs dt k g=none:=fun h0 k g hg hk=>by
    rcases Bt k i with h|h
    · exact hno k g hg h
    · have:k=i:=by omega
      subst this
      rw [hf] at hg;cases hg;exact h0
   rw [hF] at hnx
   clear hF
   have hwsz:=(hgood f hfm).1
   have hpl:=(hgood f hfm).2.1
   have hox:=hokx f hfm
   have hrp:=fun τ=>L9 f.params τ
   obtain ⟨nm,fps,fb⟩:=f
   simp only at hwsz hpl hox hrp hk hgo2 hnx
   have hfn:=fun j τ hb=>Ox ds fs dt 0 .AU j nm τ (by omega) hb
   have hcb:=fun (j:Nat) (τ:AF) (hW:WS σ j ds fs dt 0 [] τ)=>Zr σ j ds fs dt hdt (by omega) fb.size fb fps 0 [] τ (A0 _) (by omega) (by simp) (by omega) hox hW
   rw [hk] at hfn
   simp only [Ee,wkB] at hfn
   simp only [FE.enc] at he
   unfold Je at hcb
   generalize hee:EB (EP fs dt) (B7 fb fps)=ee at hcb hgo2 hnx
   obtain ⟨xo,xn,xu,xns,xks,xal⟩:=fb
   simp only [exA,Ex.A3,AH,AM] at he hcb
   (repeat' (first|refine Run.ct rfl ?_|((first|refine Run.reg mixed ?_|refine Run.AD ?_)<;>try simp -implicitDefEqProofs only [A8 hlt,he,AA,go_sem])|fail))
   intro jw hjw
   have hW:=WS.new (σ:=σ) ds fs dt hle hjw
   have hle1:=hW.le
   have hb1:(τ.AQ jw (wkB ds fs dt 0 .AU)).blk jw=some (wkB ds fs dt 0 .AU):=by rw [AP,if_pos rfl]
   have hcb:=hcb jw _ hW
   have hfn:=hfn jw _ hb1
   have hrp:=hrp (τ.AQ jw (wkB ds fs dt 0 .AU))
   unfold wkB at hle1 hb1 hcb hfn hrp
   generalize τ.AQ jw [AV.d (.sl (ds.map DE.enc)),.d (.sl (fs.map FE.enc)),.d (.sl (dt.map Dat.enc)),.d (.int .i64 0),.AU]=τ1 at hle1 hb1 hcb hfn hrp ⊢
   by_cases hki2:k < i
   · have hd:decide ((k:Int) < (i:Int))=true:=by simpa using hki2
     rw [if_pos (.inl hki2)] at hgo2
     have:=hok _ _ _ hgo2
     clear hok
     (repeat' (first|refine Run.ct rfl ?_|((first|refine Run.reg mixed ?_|refine Run.AD ?_|(refine Run.A1 Ig (σ2:=σ) hle1 ?_)|refine AI.det (hfn) ?_)<;>try simp -implicitDefEqProofs only [hd,AA,go_sem])|fail))
     exact this
   have hd:decide ((k:Int) < (i:Int))=false:=by simpa using hki2
   cases htw:Bo fps with
   |true=>
    rw [htw] at hgo2 hrp
    rw [if_pos (.inr rfl)] at hgo2
    have:=hok _ _ _ hgo2
    clear hok
    (repeat' (first|refine Run.ct rfl ?_|((first|refine Run.reg mixed ?_|refine Run.AD ?_|(refine Run.A1 Ig (σ2:=σ) hle1 ?_)|refine AI.det (hfn) ?_|refine AI.det (hrp) ?_)<;>try simp -implicitDefEqProofs only [hd,AA,go_sem])|fail))
    exact this
   |false=>
   rw [htw] at hgo2 hrp hnx
   rw [if_neg (by simp;omega)] at hgo2 hnx
   cases ee with
   |some y=>
    obtain ⟨q,c⟩:=y
    simp only at hgo2 hcb
    have:=hok _ _ _ hgo2
    have hcn:(c != 0)=true:=by simpa using PX hee
    rw [An] at hcb
    clear hok
    (repeat' (first|refine Run.ct rfl ?_|((first|refine Run.reg mixed ?_|refine Run.AD ?_|(refine AI.mk rfl hcb ?_;rintro _ τ2 ⟨rfl,hle1⟩)|(refine Run.A1 Ig (σ2:=σ) hle1 ?_)|refine AI.det (hfn) ?_|refine AI.det (hrp) ?_)<;>try simp -implicitDefEqProofs only [hd,hcn,AA,go_sem])|fail))
    exact this
   |none=>
    simp only at hcb hnx
    clear hok
    (repeat' (first|refine Run.ct rfl ?_|((first|refine Run.reg mixed ?_|refine Run.AD ?_|(refine AI.mk rfl hcb ?_;rintro _ τ2 ⟨rfl,hW2⟩)|refine AI.det (hfn) ?_|refine AI.det (hrp) ?_)<;>try simp -implicitDefEqProofs only [hd,h00,hw1,AA,go_sem])|fail))
    exact ih (i+1,τ2) ⟨by simp only;omega,hnx trivial,hW2.le⟩ (by simp only;omega)
 · have hall:FB fs dt 0 fs=(0,0,0):=by
    have:=MU fs dt [] fs 0 (fun k g hg=>by rw [An];exact hno k g hg (by have:=(AR.1 hg).1;omega))
    rw [At] at this
    rw [this];rfl
   have:=hok 0 0 0 hall
   clear hok
   (repeat' (first|refine Run.ct rfl ?_|((first|refine Run.reg mixed ?_|refine Run.AD ?_|(refine Run.A1 Ig (σ2:=σ) hle ?_))<;>try simp -implicitDefEqProofs only [B8 hlt,AA,go_sem])|fail))
   exact this
end Go.Ab
namespace Go.Ab
inductive Reach (g:List (List Nat)):Nat→Nat→Prop
 |refl (v:Nat):Reach g v v
 |step {v w k:Nat} (h:w∈g.getD v []) (hr:Reach g w k):Reach g v k
theorem Reach.trans {g:List (List Nat)} {a b c:Nat} (h:Reach g a b) (k:Reach g b c):Reach g a c:=by
 induction h with
 |refl=>exact k
 |step h _ ih=>exact .step h (ih k)
theorem Reach.one {g:List (List Nat)} {a b:Nat} (h:b∈g.getD a []):Reach g a b:= .step h (.refl b)
def TH (g:List (List Nat)):Prop:=∀l∈g,∀w∈l,w < g.length
theorem TH.at {g:List (List Nat)} (h:TH g) {v w:Nat} (hw:w∈g.getD v []):w < g.length:=by
 rw [Bq] at hw
 cases hv:g[v]? with
 |none=>rw [hv] at hw;simp at hw
 |some l=>rw [hv] at hw;exact h l (AS hv) w hw
theorem Reach.lt {g:List (List Nat)} (he:TH g) {a b:Nat} (h:Reach g a b) (ha:a < g.length):b < g.length:=by
 induction h with
 |refl=>exact ha
 |step h _ ih=>exact ih (he.at h)
open Classical in
noncomputable def rB (g:List (List Nat)) (i k:Nat):Bool:=decide (Reach g i k)
theorem l6 {g:List (List Nat)} {i k:Nat}:rB g i k=true↔Reach g i k:=by simp [rB]
noncomputable def Zt (g:List (List Nat)) (i:Nat):List Bool:=(BI g.length).map (rB g i)
structure aW (g:List (List Nat)) (v:Nat) (R R':List Bool):Prop where
 len:R'.length=R.length
 mono:∀k:Nat,R[k]?=some true→R'[k]?=some true
 self:R'[v]?=some true
 new:∀k:Nat,R'[k]?=some true→R[k]?=some true∨(Reach g v k∧∀w∈g.getD k [],R'[w]?=some true)
theorem aW.skip {g:List (List Nat)} {v:Nat} {R:List Bool} (h:R[v]?=some true):aW g v R R:=⟨rfl,fun _ h=>h,h,fun _ h=>.inl h⟩
structure Xt (g:List (List Nat)) (v:Nat) (ws:List Nat) (R R':List Bool):Prop where
 len:R'.length=R.length
 mono:∀k:Nat,R[k]?=some true→R'[k]?=some true
 self:R'[v]?=some true
 done:∀w∈ws,R'[w]?=some true
 new:∀k:Nat,R'[k]?=some true→R[k]?=some true∨k=v∨(Reach g v k∧∀w∈g.getD k [],R'[w]?=some true)
theorem Xt.start {g:List (List Nat)} {v:Nat} {R:List Bool} (h:v < R.length):Xt g v [] R (R.set v true):=by
 refine ⟨by simp,fun k hk=>?_,by simp [h],by simp,fun k hk=>?_⟩
 · rw [B5]
   split
   · rename_i e;subst e;simp [h]
   · exact hk
 · rw [B5] at hk
   split at hk
   · rename_i e;exact .inr (.inl e.symm)
   · exact .inl hk
theorem Xt.next {g:List (List Nat)} {v w:Nat} {ws:List Nat} {R R1 R2:List Bool} (h:Xt g v ws R R1) (hw:w∈g.getD v []) (k:aW g w R1 R2):Xt g v (ws++[w]) R R2:=by
 refine ⟨k.len.trans h.len,fun q hq=>k.mono q (h.mono q hq),k.mono v h.self,fun x hx=>?_,fun q hq=>?_⟩
 · rcases A6.1 hx with hx|hx
   · exact k.mono x (h.done x hx)
   · simp at hx;subst hx;exact k.self
 · rcases k.new q hq with h1|⟨h1,h2⟩
   · rcases h.new q h1 with h3|h3|⟨h3,h4⟩
     · exact .inl h3
     · exact .inr (.inl h3)
     · exact .inr (.inr ⟨h3,fun x hx=>k.mono x (h4 x hx)⟩)
   · exact .inr (.inr ⟨.step hw h1,h2⟩)
theorem Xt.fin {g:List (List Nat)} {v:Nat} {R R':List Bool} (h:Xt g v (g.getD v []) R R'):aW g v R R':=by
 refine ⟨h.len,h.mono,h.self,fun k hk=>?_⟩
 rcases h.new k hk with h1|h1|h1
 · exact .inl h1
 · subst h1;exact .inr ⟨.refl k,h.done⟩
 · exact .inr h1
theorem nD {g:List (List Nat)} (he:TH g) {i:Nat} (hi:i < g.length) {R':List Bool} (h:aW g i (AO g.length false) R'):R'=Zt g i:=by
 have hl:R'.length=g.length:=by rw [h.len];simp
 have hf:∀k:Nat,(AO g.length false)[k]?≠some true:=fun k hk=>by
  rw [List.getElem?_replicate] at hk;split at hk<;>cases hk
 have hc:∀a b,Reach g a b→R'[a]?=some true→R'[b]?=some true:=fun a b hr=>by
  induction hr with
  |refl=>exact id
  |step hw _ ih=>
   intro ha
   rcases h.new _ ha with h1|⟨_,h2⟩
   · exact absurd h1 (hf _)
   · exact ih (h2 _ hw)
 apply GL
 intro k
 by_cases hk:k < g.length
 · have hR:R'[k]?=some R'[k]:=by simp [hl,hk]
   rw [Zt,Ad,DL hk,Bl,hR]
   congr 1
   rw [Af,l6]
   constructor
   · intro ht
     rw [ht] at hR
     rcases h.new k hR with h1|h1
     · exact absurd h1 (hf k)
     · exact h1.1
   · intro hr
     have:=hc i k hr h.self
     rw [hR] at this
     exact Option.some.inj this
 · rw [BP (by omega),BP (by simp [Zt];omega)]
def unm (R:List Bool):Nat:=(R.filter (fun b=>!b)).length
theorem fD:∀ {R:List Bool} {v:Nat},R[v]?=some false→unm (R.set v true)+1=unm R
 |[],v,h=>by simp at h
 |b::R,0,h=>by simp at h;subst h;simp [unm]
 |b::R,v+1,h=>by
  have:=fD (R:=R) (v:=v) (by simpa using h)
  cases b<;>simp [unm] at this ⊢<;>omega
theorem dW:∀ {R R':List Bool},R'.length=R.length→(∀k:Nat,R[k]?=some true→R'[k]?=some true)→unm R'≤unm R
 |[],[],_,_=>A0 _
 |[],_::_,h,_=>by simp at h
 |_::_,[],h,_=>by simp at h
 |b::R,c::R',h,hm=>by
  have:=dW (R:=R) (R':=R') (by simpa using h) (fun k hk=>by simpa using hm (k+1) (by simpa using hk))
  have h0:=hm 0
  cases b<;>cases c<;>simp [unm] at this h0 ⊢<;>omega
end Go.Ab
namespace Go.Ab
open Go.Proofs
structure CB (g:List (List Nat)) (j1 j4 j5 j6 jr jw i:Nat) (cells:List AV) (R:List Bool) (τ:AF):Prop where
 b1:τ.blk j1=some [.d (.sl (g.map Md))]
 b4:τ.blk j4=some [.ms jr g.length 1 78]
 b5:τ.blk j5=some [.d (.int .i64 i)]
 b6:τ.blk j6=some [.fn 69 [] [.gp j4 0,.gp j5 0,.gp j1 0,.gp j6 0]]
 br:τ.blk jr=some cells
 cl:cells.length=g.length
 ci:cells[i]?=some (.ms jw g.length 1 4)
 il:i < g.length
 bw:τ.blk jw=some (B3 R)
 rl:R.length=g.length
 n1:jw≠j1
 n4:jw≠j4
 n5:jw≠j5
 n6:jw≠j6
 nr:jw≠jr
theorem CB.set {g:List (List Nat)} {j1 j4 j5 j6 jr jw i:Nat} {cells:List AV} {R:List Bool} {τ:AF} (h:CB g j1 j4 j5 j6 jr jw i cells R τ) (R':List Bool) (hl:R'.length=R.length):CB g j1 j4 j5 j6 jr jw i cells R' (τ.AQ jw (B3 R')):=
 ⟨by rw [AP,if_neg (CO h.n1)];exact h.b1,by rw [AP,if_neg (CO h.n4)];exact h.b4,by rw [AP,if_neg (CO h.n5)];exact h.b5,by rw [AP,if_neg (CO h.n6)];exact h.b6,
   by rw [AP,if_neg (CO h.nr)];exact h.br,h.cl,h.ci,h.il,by rw [AP,if_pos rfl],hl.trans h.rl,h.n1,h.n4,h.n5,h.n6,h.nr⟩
theorem XM {l:List Bool} {k:Nat} (x:Bool) (h:k < l.length):DS k (B3 l)++[AV.d (.bool x)]++DR (k+1) (B3 l)=B3 (l.set k x):=by
 have:=RO x h
 simpa only [wr,A5,CQ,An] using this
theorem ZD {l:List Bool} {k:Nat} (h:k < l.length):(k+1≤(B3 l).length)=True:=by rw [PR];simp;omega
theorem kC (g:List (List Nat)) (hg:TH g) (hgl:g.length≤1000) (hll:∀l∈g,l.length≤1000) (j1 j4 j5 j6 jr jw i:Nat) (cells:List AV):∀(N:Nat) (R:List Bool) (v:Nat) (τ:AF),unm R=N→v < g.length→CB g j1 j4 j5 j6 jr jw i cells R τ→
 AK Tryz.prog 69 [.d (.int .i64 v),.gp j4 0,.gp j5 0,.gp j1 0,.gp j6 0] τ (fun av σ'=>∃R',av= .tup []∧σ'=τ.AQ jw (B3 R')∧aW g v R R'):=by
 intro N
 induction N using Nat.strongRecOn with
 |_ N ihN=>
 intro R v τ hN hv hc
 obtain ⟨x,hx⟩:=Aw (show v < R.length by rw [hc.rl];exact hv)
 have hbx:=Ev hx
 have hil:((i:Int) < (g.length:Int))=True:=by simp only [eq_iff_iff,iff_true];have:=hc.il;omega
 have hvl:((v:Int) < (g.length:Int))=True:=by simp only [eq_iff_iff,iff_true];omega
 refine Oj (by simp) ?_
 rw [jW]
 cases x with
 |true=>
  (repeat' (first|refine Run.ct rfl ?_|((first|refine Run.reg mixed ?_|refine Run.AD ?_|(refine Run.A1 GY (AF.le_refl _) ?_))<;>try simp -implicitDefEqProofs only [hc.b1,hc.b4,hc.b5,hc.b6,hc.br,hc.bw,hc.ci,hil,hvl,hbx,BQ,go_sem])|fail))
  exact ⟨R,(Hd hc.bw).symm,aW.skip hx⟩
 |false=>
  have hvR:v < R.length:=(AR.1 hx).1
  have w1:=XM true hvR
  have d1:=ZD hvR
  obtain ⟨l,hl⟩:=Aw hv
  have hel:=Aq (enc:=Md) hl
  rw [Zs] at hel
  have hgd:g.getD v []=l:=by rw [Bq,hl];rfl
  have hlm:=hll l (AS hl)
  have hc1:=hc.set (R.set v true) (by simp)
  (repeat' (first|refine Run.ct rfl ?_|((first|refine Run.reg mixed ?_|refine Run.AD ?_)<;>try simp -implicitDefEqProofs only [hc.b1,hc.b4,hc.b5,hc.b6,hc.br,hc.bw,hc.ci,hil,hvl,hbx,BQ,d1,w1,hc1.b1,hel,AA,go_sem])|fail))
  refine Run.Ay ?_
  refine Run.BB ((fun (a4:AV) (a24:AV) (a25:AV)=>fun (y:Nat×List Bool)=>put 4 a4 (put 24 a24 (put 25 a25 (put 26 (.d (.int .i64 y.1)) U)))) _ _ _) (fun _=>E) (fun y=>τ.AQ jw (B3 y.2))
   (fun y=>y.1≤l.length∧Xt g v (l.take y.1) R y.2) (fun y=>l.length - y.1) ?_ (0,R.set v true) ⟨by simp,Xt.start hvR⟩
  rintro ⟨q,Rq⟩ ⟨hq,hd⟩ ih
  simp only at hq hd
  by_cases hlt:q < l.length
  · obtain ⟨w,hw⟩:=Aw hlt
    have hew:=Aq (enc:=JY) hw
    rw [V6] at hew
    have hw1:=A7 (show q+1≤9000000000000000000 by omega)
    have hwm:w∈g.getD v []:=by rw [hgd];exact AS hw
    have hcq:=hc.set Rq hd.len
    have hun:unm Rq < N:=by
     have h1:=fD hx
     have h2:=dW (R:=R.set v true) (R':=Rq) (by rw [hd.len];simp) (fun k hk=>by
      rw [B5] at hk
      split at hk
      · rename_i e;subst e;exact hd.self
      · exact hd.mono k hk)
     omega
    have hcl:=ihN _ hun Rq w (τ.AQ jw (B3 Rq)) rfl (hg.at hwm) hcq
    (repeat' (first|refine Run.ct rfl ?_|((first|refine Run.reg mixed ?_|refine Run.AD ?_|(refine ⟨_,[],[.gp j4 0,.gp j5 0,.gp j1 0,.gp j6 0],rfl,by kernel_rfl,AI.mk rfl hcl ?_⟩;rintro _ _ ⟨R2,rfl,rfl,hd2⟩;rw [F6]))<;>try simp -implicitDefEqProofs only [A8 hlt,hew,hcq.b6,hw1,go_sem])|fail))
    exact ih (q+1,R2) ⟨by simp only;omega,by simp only;rw [Am hw];exact hd.next hwm hd2⟩ (by simp only;omega)
  · rw [AG (by omega)] at hd
    (repeat' (first|refine Run.ct rfl ?_|((first|refine Run.reg mixed ?_|refine Run.AD ?_)<;>try simp -implicitDefEqProofs only [B8 hlt,go_sem])|fail))
    refine Run.fin GY (v:= .tup []) rfl (fun _ _ h=>h) (AF.le_refl _) ?_
    exact ⟨Rq,rfl,rfl,by rw [← hgd] at hd;exact hd.fin⟩
end Go.Ab
namespace Go.Ab
open Go.Proofs
structure RS (σ:AF) (g:List (List Nat)) (j1 j3 j4 jr:Nat) (i m:Nat) (cells:List AV) (τ:AF):Prop where
 b1:τ.blk j1=some [.d (.sl (g.map Md))]
 b3:τ.blk j3=some [.d (.int .i64 g.length)]
 b4:τ.blk j4=some [.ms jr g.length 1 78]
 br:τ.blk jr=some cells
 cl:cells.length=g.length
 rows:∀k,k < i→∃jk,cells[k]?=some (.ms jk g.length 1 4)∧τ.blk jk=some (B3 (Zt g k))∧jk≠jr
 rest:∀k,m≤k→k < g.length→cells[k]?=some .AU
 le:σ.le τ
 nr:σ.blk jr=none
 n1:jr≠j1
 n3:jr≠j3
 n4:jr≠j4
theorem AF.le.none {σ τ:AF} (h:σ.le τ) {j:Nat} (hj:τ.blk j=none):σ.blk j=none:=by
 cases hc:σ.blk j with
 |none=>rfl
 |some c=>rw [h.blk j c hc] at hj;cases hj
theorem RS.new {σ τ:AF} {g:List (List Nat)} {j1 j3 j4 jr i m:Nat} {cells:List AV} (h:RS σ g j1 j3 j4 jr i m cells τ) {j:Nat} (hj:σ.blk j=none) (n1:j≠j1) (n3:j≠j3) (n4:j≠j4) (nr:j≠jr) (hk:∀k jk,k < i→cells[k]?=some (.ms jk g.length 1 4)→jk≠j) (cs:List AV):RS σ g j1 j3 j4 jr i m cells (τ.AQ j cs):=
 ⟨by rw [AP,if_neg (CO n1)];exact h.b1,by rw [AP,if_neg (CO n3)];exact h.b3,by rw [AP,if_neg (CO n4)];exact h.b4,by rw [AP,if_neg (CO nr)];exact h.br,h.cl,
   fun k hki=>by
    obtain ⟨jk,h1,h2,h3⟩:=h.rows k hki
    exact ⟨jk,h1,by rw [AP,if_neg (hk k jk hki h1)];exact h2,h3⟩,h.rest,Dc h.le hj,h.nr,h.n1,h.n3,h.n4⟩
theorem RS.fresh {σ τ:AF} {g:List (List Nat)} {j1 j3 j4 jr i m:Nat} {cells:List AV} (h:RS σ g j1 j3 j4 jr i m cells τ) {j:Nat} (hj:τ.blk j=none):σ.blk j=none∧j≠j1∧j≠j3∧j≠j4∧j≠jr∧∀k jk,k < i→cells[k]?=some (.ms jk g.length 1 4)→jk≠j:=by
 refine ⟨h.le.none hj,fun e=>?_,fun e=>?_,fun e=>?_,fun e=>?_,fun k jk hk hc e=>?_⟩
 · rw [e,h.b1] at hj;cases hj
 · rw [e,h.b3] at hj;cases hj
 · rw [e,h.b4] at hj;cases hj
 · rw [e,h.br] at hj;cases hj
 · obtain ⟨jk',h1,h2,_⟩:=h.rows k hk
   rw [hc] at h1;cases h1
   rw [e,hj] at h2;cases h2
theorem RS.bt {σ τ:AF} {g:List (List Nat)} {j1 j3 j4 jr i m:Nat} {cells:List AV} (h:RS σ g j1 j3 j4 jr i m cells τ) {j:Nat} {x:Nat×TypeId} (hj:τ.bt j=none):RS σ g j1 j3 j4 jr i m cells (τ.DO j x):=
 ⟨h.b1,h.b3,h.b4,h.br,h.cl,h.rows,h.rest,Rk h.le hj,h.nr,h.n1,h.n3,h.n4⟩
theorem H0 {τ:AF} {j k:Nat} {x:List AV} (h:τ.blk j=some x) (hk:τ.blk k=none) (cs:List AV):(τ.AQ k cs).blk j=some x:=by
 rw [AP,if_neg (fun e=>by rw [e,hk] at h;cases h)];exact h
def mV (F0:Fm) (τ:AF) (jr n i:Nat) (cells:List AV) (F:Fm) (L:Lm) (τ':AF):Prop:=
 ∃jw,τ.blk jw=none∧M4 [1,3,4,5,18,19] F=F0∧I6 [1,3,4,5,18,19] L=E∧τ'=(τ.AQ jw (B3 (AO n false))).AQ jr (cells.set i (.ms jw n 1 4))
theorem mV.mk {F0:Fm} {τ:AF} {jr n i:Nat} {cells:List AV} {F:Fm} {L:Lm} {τ':AF} (jw:Nat) (h1:τ.blk jw=none) (h2:M4 [1,3,4,5,18,19] F=F0) (h3:I6 [1,3,4,5,18,19] L=E) (h4:τ'=(τ.AQ jw (B3 (AO n false))).AQ jr (cells.set i (.ms jw n 1 4))):mV F0 τ jr n i cells F L τ':=⟨jw,h1,h2,h3,h4⟩
theorem m9 (Q:AV→AF→Prop) (rest:List CI) (g:List (List Nat)) (hg:TH g) (hgl:g.length≤1000) (hll:∀l∈g,l.length≤1000) (j1 j3 j4 jr:Nat) (σ τ:AF) (cells:List AV) (h:RS σ g j1 j3 j4 jr 0 0 cells τ)
 (hfin:∀cells' τ',RS σ g j1 j3 j4 jr g.length g.length cells' τ'→Run B4 Q rest (put 1 (.gp j1 0) (put 3 (.gp j3 0) (put 4 (.gp j4 0) (put 18 (.d (.int .i64 g.length)) (put 19 (.d (.int .i64 g.length)) (put 20 (.d (.bool false)) U)))))) E τ'):
 Run B4 Q (.code (.loop IW)::.blk 0::rest) (put 1 (.gp j1 0) (put 3 (.gp j3 0) (put 4 (.gp j4 0) (put 18 (.d (.int .i64 g.length)) (put 19 (.d (.int .i64 0)) U))))) E τ:=by
 refine Run.Ay ?_
 refine Run.BB ((fun (a1:AV) (a3:AV) (a4:AV) (a18:AV)=>fun (y:Nat×List AV×AF)=>put 1 a1 (put 3 a3 (put 4 a4 (put 18 a18 (put 19 (.d (.int .i64 y.1)) U))))) _ _ _ _) (fun _=>E) (fun y=>y.2.2)
  (fun y=>y.1≤g.length∧RS σ g j1 j3 j4 jr y.1 y.1 y.2.1 y.2.2) (fun y=>g.length - y.1) ?_ (0,cells,τ) ⟨by simp,h⟩
 clear h
 rintro ⟨i,cells,τ⟩ ⟨hi,h⟩ ih
 simp only at hi h
 by_cases hlt:i < g.length
 · have hw1:=A7 (show i+1≤9000000000000000000 by omega)
   have hil:((i:Int) < (g.length:Int))=True:=by simp only [eq_iff_iff,iff_true];omega
   (repeat' (first|refine Run.ct rfl ?_|((first|refine Run.reg mixed ?_|refine Run.AD ?_)<;>try simp -implicitDefEqProofs only [A8 hlt,go_sem])|fail))
   rintro j5 ⟨hj5,hjb5⟩
   obtain ⟨f1,f2,f3,f4,f5,f6⟩:=h.fresh hj5
   have h1:=((h.new f1 f2 f3 f4 f5 f6 [.d (.int .i64 0)]).bt (x:=(1,3)) hjb5).new f1 f2 f3 f4 f5 f6 [.d (.int .i64 i)]
   have hb5:((((τ.AQ j5 [AV.d (.int .i64 0)]).DO j5 (1,3))).AQ j5 [.d (.int .i64 i)]).blk j5=some [.d (.int .i64 i)]:=by rw [AP,if_pos rfl]
   have hbt:∀(τ:AF) (x:Nat×TypeId),(τ.DO j5 x).blk=τ.blk:=fun _ _=>rfl
   simp -implicitDefEqProofs only [hbt,AP,go_sem]
   generalize ((τ.AQ j5 [AV.d (.int .i64 0)]).DO j5 (1,3)).AQ j5 [AV.d (.int .i64 i)]=τ1 at h1 hb5 ⊢
   clear hbt h hj5 hjb5
   have hil2:(i+1≤cells.length)=True:=by rw [h1.cl];simp;omega
   have hwr:∀x:AV,DS i cells++[x]++DR (i+1) cells=cells.set i x:=fun x=>wr1 x (by rw [h1.cl];exact hlt)
   refine Run.ct rfl ?_
   refine Run.fC mixed (mV (put 1 (.gp j1 0) (put 3 (.gp j3 0) (put 4 (.gp j4 0) (put 5 (.gp j5 0) (put 18 (.d (.int .i64 g.length)) (put 19 (.d (.int .i64 i)) U)))))) τ1 jr g.length i cells) ?_ ?_
   · simp -implicitDefEqProofs only [h1.b3,h1.b4,hb5,h1.br,hil,BQ,and_true,go_sem]
     (repeat' (first|refine And.intro ?_ ?_|(refine UZ.mk (n:=g.length) (by omega) (by omega) (fun jw hjw=>?_);simp -implicitDefEqProofs only [PS,H0 h1.b4 hjw,H0 hb5 hjw,H0 h1.br hjw,hil,hil2,hwr,h1.b4,hb5,h1.br,BQ,and_true,go_sem];try (refine mV.mk jw hjw (by simp -implicitDefEqProofs only [go_sem]) (by simp -implicitDefEqProofs only [go_sem]) ?_;rfl))))
   · rintro F L τ2 ⟨jw,hjw,hF,hL,rfl⟩
     rw [hF,hL]
     clear hF hL
     have hjwr:jw≠jr:=fun e=>by rw [e,h1.br] at hjw;cases hjw
     have h2:RS σ g j1 j3 j4 jr i (i+1) (cells.set i (.ms jw g.length 1 4)) ((τ1.AQ jw (B3 (AO g.length false))).AQ jr (cells.set i (.ms jw g.length 1 4))):=by
      have hs:∀j x,τ1.blk j=some x→j≠jr→((τ1.AQ jw (B3 (AO g.length false))).AQ jr (cells.set i (.ms jw g.length 1 4))).blk j=some x:=fun j x hx hne=>by
       rw [AP,if_neg hne];exact H0 hx hjw _
      refine ⟨hs _ _ h1.b1 (CO h1.n1),hs _ _ h1.b3 (CO h1.n3),hs _ _ h1.b4 (CO h1.n4),by rw [AP,if_pos rfl],by rw [List.length_set];exact h1.cl,fun k hk=>?_,fun k hk hkl=>?_,Dc (Dc h1.le (h1.le.none hjw)) h1.nr,h1.nr,h1.n1,h1.n3,h1.n4⟩
      · obtain ⟨jk,g1,g2,g3⟩:=h1.rows k hk
        exact ⟨jk,by rw [B5,if_neg (by omega)];exact g1,hs _ _ g2 g3,g3⟩
      · rw [B5,if_neg (by omega)];exact h1.rest k (by omega) hkl
     have hw2:((τ1.AQ jw (B3 (AO g.length false))).AQ jr (cells.set i (.ms jw g.length 1 4))).blk jw=some (B3 (AO g.length false)):=by
      rw [AP,if_neg hjwr,AP,if_pos rfl]
     have hb52:((τ1.AQ jw (B3 (AO g.length false))).AQ jr (cells.set i (.ms jw g.length 1 4))).blk j5=some [.d (.int .i64 i)]:=by
      rw [AP,if_neg f5];exact H0 hb5 hjw _
     have hci:(cells.set i (AV.ms jw g.length 1 4))[i]?=some (.ms jw g.length 1 4):=by rw [B5,if_pos rfl,if_pos (by rw [h1.cl];exact hlt)]
     have hw51:jw≠j5:=fun e=>by rw [e,hb5] at hjw;cases hjw
     have hwn:jw≠j1∧jw≠j3∧jw≠j4:=⟨fun e=>(by rw [e,h1.b1] at hjw;cases hjw),fun e=>(by rw [e,h1.b3] at hjw;cases hjw),fun e=>(by rw [e,h1.b4] at hjw;cases hjw)⟩
     have hrw:∀k jk,k < i→(cells.set i (AV.ms jw g.length 1 4))[k]?=some (.ms jk g.length 1 4)→jk≠jw:=fun k jk hk hc e=>by
      rw [B5,if_neg (by omega)] at hc
      obtain ⟨jk',g1,g2,_⟩:=h1.rows k hk
      rw [hc] at g1;cases g1
      rw [e,hjw] at g2;cases g2
     have hjw0:=h1.le.none hjw
     generalize (τ1.AQ jw (B3 (AO g.length false))).AQ jr (cells.set i (.ms jw g.length 1 4))=τ2 at h2 hw2 hb52 ⊢
     clear h1 hb5 hil2 hwr hjw
     generalize cells.set i (AV.ms jw g.length 1 4)=cells2 at h2 hci hrw
     (repeat' (first|refine Run.ct rfl ?_|((first|refine Run.reg mixed ?_|refine Run.AD ?_)<;>try simp -implicitDefEqProofs only [hw1,go_sem])|fail))
     rintro j6 ⟨hj6,hjb6⟩
     obtain ⟨e1,e2,e3,e4,e5,e6⟩:=h2.fresh hj6
     have h2b:=(h2.new e1 e2 e3 e4 e5 e6 [.IS]).bt (x:=(1,102)) hjb6
     have n56:j5≠j6:=fun e=>by rw [← e,hb52] at hj6;cases hj6
     have nw6:jw≠j6:=fun e=>by rw [← e,hw2] at hj6;cases hj6
     have hbt:∀(τ:AF) (x:Nat×TypeId),(τ.DO j6 x).blk=τ.blk:=fun _ _=>rfl
     have hb6':((τ2.AQ j6 [AV.IS]).DO j6 (1,102)).blk j6=some [.IS]:=by rw [hbt,AP,if_pos rfl]
     have hb53:((τ2.AQ j6 [AV.IS]).DO j6 (1,102)).blk j5=some [.d (.int .i64 i)]:=by rw [hbt,AP,if_neg n56];exact hb52
     have hw3:((τ2.AQ j6 [AV.IS]).DO j6 (1,102)).blk jw=some (B3 (AO g.length false)):=by rw [hbt,AP,if_neg nw6];exact hw2
     generalize (τ2.AQ j6 [AV.IS]).DO j6 (1,102)=τ3 at h2b hb6' hb53 hw3 ⊢
     clear hbt h2 hw2 hb52 hj6 hjb6
     have h3:=h2b.new e1 e2 e3 e4 e5 e6 [.fn 69 [] [.gp j4 0,.gp j5 0,.gp j1 0,.gp j6 0]]
     replace hb53:(τ3.AQ j6 [.fn 69 [] [.gp j4 0,.gp j5 0,.gp j1 0,.gp j6 0]]).blk j5=some [.d (.int .i64 i)]:=by rw [AP,if_neg n56];exact hb53
     replace hw3:(τ3.AQ j6 [.fn 69 [] [.gp j4 0,.gp j5 0,.gp j1 0,.gp j6 0]]).blk jw=some (B3 (AO g.length false)):=by rw [AP,if_neg nw6];exact hw3
     have hb6:(τ3.AQ j6 [.fn 69 [] [.gp j4 0,.gp j5 0,.gp j1 0,.gp j6 0]]).blk j6=some [.fn 69 [] [.gp j4 0,.gp j5 0,.gp j1 0,.gp j6 0]]:=by rw [AP,if_pos rfl]
     have hcb:CB g j1 j4 j5 j6 jr jw i cells2 (AO g.length false) _:=⟨h3.b1,h3.b4,hb53,hb6,h3.br,h3.cl,hci,hlt,hw3,by simp,hwn.1,hwn.2.2,hw51,nw6,hjwr⟩
     have hcl:=kC g hg hgl hll j1 j4 j5 j6 jr jw i cells2 _ (AO g.length false) i _ rfl hlt hcb
     (repeat' (first|refine Run.ct rfl ?_|((first|refine Run.reg mixed ?_|refine Run.AD ?_|(refine ⟨_,[],[.gp j4 0,.gp j5 0,.gp j1 0,.gp j6 0],rfl,by kernel_rfl,AI.mk rfl hcl ?_⟩;rintro _ _ ⟨R2,rfl,rfl,hd⟩))<;>try simp -implicitDefEqProofs only [hb6',DR,hb6,hb53,hw1,go_sem])|fail))
     have hR:=nD hg hlt hd
     subst hR
     refine ih (i+1,cells2,_) ⟨by simp only;omega,?_⟩ (by simp only;omega)
     have h4:=h3.new hjw0 hwn.1 hwn.2.1 hwn.2.2 hjwr hrw (B3 (Zt g i))
     refine ⟨h4.b1,h4.b3,h4.b4,h4.br,h4.cl,fun k hk=>?_,h4.rest,h4.le,h4.nr,h4.n1,h4.n3,h4.n4⟩
     by_cases hki:k=i
     · subst hki
       exact ⟨jw,hci,if_pos rfl,hjwr⟩
     · exact h4.rows k (by omega)
 · have hie:i=g.length:=by omega
   subst hie
   have:=hfin cells τ h
   (repeat' (first|refine Run.ct rfl ?_|((first|refine Run.reg mixed ?_|refine Run.AD ?_)<;>try simp -implicitDefEqProofs only [B8 hlt,go_sem])|fail))
   exact this
end Go.Ab
