/- Scope: the names of functions in a body. Scope: the flags of a body. Scope: Calls. Renamed programs, in plain data: names. Renamed programs, in plain data: validity, names and calls. Rows of ints compared; the longest names of programs. Components: the search. Conditions: none. -/
import Derived.Test.YtlckhmkeihbhmaaGreatXVm
set_option linter.unusedSimpArgs false
set_option linter.unusedVariables false
set_option maxRecDepth 4000
set_option maxHeartbeats 8000000
open List renaming map_cons→AG,map_nil→AQ,getElem?_eq_some_iff→AR,take→DJ,drop→Cq,getElem?_set→BW,mem_cons→Bc,ext_getElem?→Fq,set_eq_take_append_cons_drop→LN,getElem?_cons_zero→Ks,length_map→AA,replicate→AH,replicate_succ→EC,flatten_cons→Dq,mem_of_getElem?→AT,range→An,filter_append→Ki,length_filter_le→F6,length_range→Lc,length_cons→A9,length_nil→CN,map_append→Kg,getD_eq_getElem?_getD→Ap,take_of_length_le→AK
open Bool renaming and_false→Bm,false_eq_true→AY,not_false→E7,and_true→As,false_and→B5,true_and→Au,or_false→GZ
open Int renaming reduceBEq→AU
open Option renaming isSome_iff_exists→S8
open Nat renaming mul_one→Ax,le_refl→A0,le_trans→BS,zero_add→Am
open Ne renaming symm→CL
open Option.some renaming injEq→AJ
namespace Go.Ab
open Go.Proofs
def SU (fs:List FE) (x:Ex×List Str) (fl:List Bool):List Bool:=
 if x.1.op=4&& !x.2.contains x.1.name then (match Ct (CX fs) x.1.name with|some g=>fl.set g true|none=>fl) else fl
theorem Vs (fs:List FE) (x:Ex×List Str) (fl:List Bool):(SU fs x fl).length=fl.length:=by
 unfold SU
 split
 · split<;>simp
 · rfl
theorem YT (ds:List DE) (fs:List FE) (e:Ex) (sc:List Str) (fl:List Bool) (hfl:fl.length=fs.length) (hfs:fs.length≤24) (jm jf jp eM:Nat) (σ:AF) (hm:σ.blk jm=some (BZ fl)) (hf:σ.blk jf=some [.ms jm fl.length 1 eM])
 (hp:σ.blk jp=some [.d (.sl (ds.map DE.enc)),.d (.sl (fs.map FE.enc))]) (hn:e.op=4→e.name≠[]) (hidx:e.op=4→sc.contains e.name=false→(Ct (CX fs) e.name).isSome=true):
 AL Tryz.prog 31 [exA e,.d (bdL sc),.gp jf 0,.gp jp 0] σ (fun v σ'=>v= .d (.int .i64 0)∧σ'=σ.AO jm (BZ (SU fs (e,sc) fl))):=by
 obtain ⟨o,n,u,ns,ks,al⟩:=e
 simp only [Ex.op,Ex.name] at hn hidx
 refine Si (by simp) ?_
 rw [eF,exA,Ex.A4]
 have hfun:=Nx ⟨ds,fs⟩ n σ
 simp only [pgA,Pg.enc,AG,AQ] at hfun
 have hid:=HR hm
 have hT:SU fs (.mk o n u ns ks al,sc) fl=if decide (o=4)&& !sc.contains n then (match Ct (CX fs) n with|some g=>fl.set g true|none=>fl) else fl:=rfl
 by_cases h4:o=4
 · subst h4
   have hh:=W6 sc n (hn rfl) σ
   cases hc:sc.contains n with
   |true=>
    rw [hc] at hh hT
    simp only [Bool.not_true,Bm,AY,if_false] at hT
    rw [hT,hid]
    (repeat' (first|refine Run.ct rfl ?_|((first|refine Run.reg mixed ?_|refine Run.AE ?_|refine Run.A1 Gz (AF.le_refl _) ?_|refine AI.det (hh) ?_)<;>try simp -implicitDefEqProofs only [AU,go_sem])|fail))
   |false=>
    rw [hc] at hh
    obtain ⟨g,hg⟩:=S8.1 (hidx rfl hc)
    obtain ⟨f,hff,_⟩:=R9 hg
    have hgl:g < fl.length:=by rw [hfl];exact (AR.1 hff).1
    rw [hc,hg] at hT
    rw [hg] at hfun
    simp only [E9,E7,As,decide_true,if_true] at hfun hT
    rw [hT]
    (repeat' (first|refine Run.ct rfl ?_|((first|refine Run.reg mixed ?_|refine Run.AE ?_|refine AI.det (hh) ?_|refine AI.det (hfun) ?_)<;>try simp -implicitDefEqProofs only [AU,hf,hp,hm,go_sem])|fail))
    have hixl:((g:Int) < (fl.length:Int))=True:=by simp only [eq_iff_iff,iff_true];omega
    have hbl:(g+1≤(BZ fl).length)=True:=by rw [Oa];simp only [eq_iff_iff,iff_true];omega
    have hwr:DJ g (BZ fl)++[AV.d (.bool true)]++Cq (g+1) (BZ fl)=BZ (fl.set g true):=by
     rw [← QX true hgl];rfl
    refine Run.aF mixed (fun F' L' σ'=>σ'=σ.AO jm (BZ (fl.set g true))) ?_ ?_
    · simp -implicitDefEqProofs only [hf,hp,hm,go_sem]
      refine ⟨?_,?_⟩
      · skip
        refine AI.mk rfl hfun ?_
        rintro _ _ ⟨rfl,rfl⟩
        simp -implicitDefEqProofs only [hf,hp,hm,hixl,hbl,Ax,hwr,go_sem]
      · skip
        refine AI.mk rfl hfun ?_
        rintro _ _ ⟨rfl,rfl⟩
        simp -implicitDefEqProofs only [hf,hp,hm,hixl,hbl,Ax,hwr,go_sem]
    · rintro F' L' σ' rfl
      (repeat' (first|refine Run.ct rfl ?_|((first|refine Run.reg mixed ?_|refine Run.AE ?_|refine Run.A1 Gz (AF.le_refl _) ?_)<;>try simp -implicitDefEqProofs only [go_sem])|fail))
 · have hb:=C1 h4
   simp only [h4,decide_false,B5,AY,if_false] at hT
   rw [hT,hid]
   (repeat' (first|refine Run.ct rfl ?_|((first|refine Run.reg mixed ?_|refine Run.AE ?_|refine Run.A1 Gz (AF.le_refl _) ?_)<;>try simp -implicitDefEqProofs only [hb,go_sem])|fail))
end Go.Ab
namespace Go.Ab
open Go.Proofs
theorem YF (σ:AF) {i j:Nat} (h:i≠j) (a b c:List AV):((σ.AO i a).AO j b).AO i c=(σ.AO i c).AO j b:=by
 unfold AF.AO
 simp only [AF.mk.injEq,and_true]
 funext k
 by_cases h1:k=i
 · subst h1;simp [h]
 · simp [h1]
def Pu (fs:List FE):List (Ex×List Str)→List Bool→List Bool
 |[],fl=>fl
 |x::l,fl=>Pu fs l (SU fs x fl)
theorem To (fs:List FE):∀(l:List (Ex×List Str)) (fl:List Bool),(Pu fs l fl).length=fl.length
 |[],fl=>rfl
 |x::l,fl=>by rw [Pu,To fs l,Vs]
theorem bO (fs:List FE) (x:Ex×List Str) (fl:List Bool) (g:Nat):(SU fs x fl)[g]?=fl[g]?.map (·||I8 fs g x):=by
 unfold SU I8
 by_cases h:x.1.op=4
 · cases hc:x.2.contains x.1.name with
   |true=>
    simp [h,hc]
   |false=>
    simp only [h,hc,decide_true,E7,As,if_true,beq_self_eq_true,Au]
    cases hi:Ct (CX fs) x.1.name with
    |none=>simp
    |some k=>
     by_cases hk:k=g
     · subst hk
       rw [BW]
       by_cases hl:k < fl.length
       · simp [hl]
       · simp [hl]
     · rw [BW,if_neg hk]
       have hkg:(k==g)=false:=by simpa using hk
       simp [hkg]
 · have hb:=C1 h
   simp only [h,decide_false,B5,AY,if_false,hb,GZ]
   simp
theorem XY (fs:List FE) (g:Nat):∀(l:List (Ex×List Str)) (fl:List Bool),(Pu fs l fl)[g]?=fl[g]?.map (·||l.any (I8 fs g))
 |[],fl=>by simp [Pu]
 |x::l,fl=>by
  rw [Pu,XY fs g l,bO]
  cases fl[g]? with
  |none=>rfl
  |some b=>simp [Bool.or_assoc]
abbrev FlS (fs:List FE):= { fl:List Bool // fl.length=fs.length}
def hG (fs:List FE) (s:FlS fs) (x:Ex×List Str):Int×FlS fs:=(0,⟨SU fs x s.1,by rw [Vs];exact s.2⟩)
theorem WE (fs:List FE):∀(l:List (Ex×List Str)) (s:FlS fs),G9 (hG fs) l s=(none,⟨Pu fs l s.1,by rw [To];exact s.2⟩)
 |[],s=>rfl
 |x::l,s=>by
  rw [G9]
  have:=WE fs l (hG fs s x).2
  rw [if_pos (show (hG fs s x).1=0 from rfl),this]
  rfl
theorem XL (ds:List DE) (fs:List FE) (f:FE) (hsz:f.body.size≤600) (hfs:fs.length≤24) (jm jf jp eM:Nat) (τ:AF) (fl:List Bool) (hfl:fl.length=fs.length) (hm:τ.blk jm=some (BZ fl)) (hf:τ.blk jf=some [.ms jm fl.length 1 eM])
 (hp:τ.blk jp=some [.d (.sl (ds.map DE.enc)),.d (.sl (fs.map FE.enc))]) (hne1:jf≠jm) (hne2:jp≠jm)
 (hx:∀x∈Ba f.body f.params,(x.1.op=4→x.1.name≠[])∧(x.1.op=4→x.2.contains x.1.name=false→(Ct (CX fs) x.1.name).isSome=true)):
 AL Tryz.prog 30 [feA f,.fn 31 [] [.gp jf 0,.gp jp 0]] τ
  (fun v σ'=>v= .tup [.d (.int .i64 ((f.body.size - 1:Nat):Int)),.d (.int .i64 0)]∧σ'=τ.AO jm (BZ (Pu fs (Ba f.body f.params) fl))):=by
 have hw:=Us (S:=FlS fs) (hG fs) (fun s=>τ.AO jm (BZ s.1)) 31 [] [.gp jf 0,.gp jp 0] (by kernel_rfl) rfl rfl f ⟨fl,hfl⟩ (by omega)
  (fun t j hj=>by
    simp only [AM] at hj ⊢
    split
    · rename_i e;rw [if_pos e] at hj;cases hj
    · rename_i e;rwa [if_neg e] at hj)
  (fun j hj x hxm s n=>by
    have hjm:j≠jm:=fun e=>by rw [e,AM,if_pos rfl] at hj;cases hj
    have hj0:τ.blk j=none:=by rw [AM,if_neg hjm] at hj;exact hj
    have hjf:jf≠j:=fun e=>by rw [← e,hf] at hj0;cases hj0
    have hjp:jp≠j:=fun e=>by rw [← e,hp] at hj0;cases hj0
    have:=YT ds fs x.1 x.2 s.1 s.2 hfs jm jf jp eM (WH (fun s:FlS fs=>τ.AO jm (BZ s.1)) j (.fn 31 [] [.gp jf 0,.gp jp 0]) n s)
     (by simp only [WH,AM,if_neg (CL hjm),if_true]) (by rw [WH,AM,if_neg hjf,AM,if_neg hne1,hf,hfl,s.2]) (by rw [WH,AM,if_neg hjp,AM,if_neg hne2,hp]) (hx x hxm).1 (hx x hxm).2
    refine this.mono (fun v σ' h=>⟨h.1,?_⟩)
    rw [h.2]
    simp only [WH,hG]
    exact YF τ (CL hjm) _ _ _)
 simp only [HR hm] at hw
 refine hw.mono (fun v σ' h=>?_)
 rw [WE] at h
 exact h
theorem Tk {fs:List FE} {dt:List Dat}:∀(l:List FE) (i:Nat),(Fx fs dt i l).1=0→∀f∈l,EL (E0 fs dt) (Ba f.body f.params)=none
 |[],i,_,f,hf=>by simp at hf
 |g::l,i,h,f,hf=>by
  rw [Fx] at h
  have hF:Qe fs dt i g=none∧EL (E0 fs dt) (Ba g.body g.params)=none:=by
   unfold Qe at h ⊢
   split at h
   · rename_i d hd
     exfalso
     split at hd
     · cases hd;simp at h
     · split at hd
       · rename_i k c hk;cases hd;exact Qi hk h
       · cases hd
   · rename_i hd
     split at hd
     · cases hd
     · split at hd
       · cases hd
       · rename_i hk;exact ⟨by rename_i h1 _;rw [if_neg h1],hk⟩
  rw [hF.1] at h
  rcases Bc.1 hf with rfl|hf
  · exact hF.2
  · exact Tk l (i+1) h f hf
theorem Vr {vis:Ex→List Str→Int}:∀ {l:List (Ex×List Str)},EL vis l=none→∀x∈l,vis x.1 x.2=0
 |[],_,x,hx=>by simp at hx
 |y::l,h,x,hx=>by
  rw [EL] at h
  split at h
  · rename_i h0
    rcases Bc.1 hx with rfl|hx
    · exact h0
    · exact Vr (by simpa using h) x hx
  · cases h
theorem Pt {p:Pg} (h:(NN p).1=0):p.NP.length≤24∧∀f∈p.NP,f.body.size≤600∧∀x∈Ba f.body f.params,(x.1.op=4→x.1.name≠[])∧(x.1.op=4→x.2.contains x.1.name=false→(Ct (CX p.NP) x.1.name).isSome=true):=by
 unfold NN at h
 cases hd:ND p with
 |error d=>obtain ⟨c,a,b⟩:=d;rw [hd] at h;exact absurd h (Tm hd)
 |ok dt=>
  rw [hd] at h
  simp only at h
  obtain ⟨hv,_⟩:=Ns hd
  obtain ⟨hl,hg⟩:=Mv hv
  refine ⟨hl,fun f hf=>⟨(hg f hf).1,fun x hx=>⟨((hg f hf).2.2 _ x hx).1,fun h4 hc=>?_⟩⟩⟩
  have h0:=Vr (Tk _ _ h f hf) x hx
  obtain ⟨⟨o,n,u,ns,ks,al⟩,sc⟩:=x
  simp only [Ex.op,Ex.name] at h4 hc ⊢
  subst h4
  rw [LK,if_pos rfl,hc] at h0
  cases hi:Ct (CX p.NP) n with
  |none=>rw [hi] at h0;simp at h0
  |some k=>rfl
end Go.Ab
namespace Go.Ab
open Go.Proofs
def HX (n:Nat):List DV:=[.int .i64 (n:Int)]
def Np (l:List (List Nat)):AV:= .d (.sl (l.map fun r=>[.sl (r.map HX)]))
theorem Qt {σ τ:AF} (h:σ.le τ) {i:Nat} {x:Nat×TypeId} (hb:τ.bt i=none):σ.le (τ.DF i x):=
 ⟨h.blk,h.tok,h.gt,fun k y hk=>by
   have:=h.bt k y hk
   show (if k=i then some x else τ.bt k)=some y
   rw [if_neg (fun e=>by rw [e,hb] at this;cases this)];exact this⟩
theorem gU {α:Type} {l:List α} {i:Nat} {x:α} (h:l[i]?=some x):l.set i x=l:=by
 apply Fq
 intro k
 rw [BW]
 split
 · rename_i e;subst e;rw [h,if_pos (AR.1 h).1]
 · rfl
theorem wr1 {α:Type} {l:List α} {i:Nat} (x:α) (h:i < l.length):DJ i l++[x]++Cq (i+1) l=l.set i x:=by
 rw [LN,if_pos h];simp
theorem aC {r:FE→List (List DV)}:∀ {l:List FE} {cells:List AV},cells.length=l.length→(∀(k:Nat) (f:FE),l[k]?=some f→∃cv,cells[k]?=some cv∧SlV cv (r f))→∃ds,dvs cells=some ds∧chunk 1 l.length ds=l.map fun f=>[DV.sl (r f)]
 |[],[],_,_=>⟨[],rfl,rfl⟩
 |f::l,[],h,_=>by simp at h
 |[],c::cells,h,_=>by simp at h
 |f::l,c::cells,h,hk=>by
  obtain ⟨cv,h1,h2⟩:=hk 0 f rfl
  simp only [Ks,AJ] at h1
  subst h1
  obtain ⟨ds,h3,h4⟩:=aC (r:=r) (l:=l) (cells:=cells) (by simpa using h) (fun k g hg=>hk (k+1) g hg)
  have hcv:=h2.dv
  exact ⟨.sl (r f)::ds,by simp [dvs,hcv,h3],by simp [chunk,h4]⟩
structure CS (σ:AF) (jp jo:Nat) (ds:List DE) (fs:List FE) (cells:List AV) (τ:AF):Prop where
 prog:τ.blk jp=some [.d (.sl (ds.map DE.enc)),.d (.sl (fs.map FE.enc))]
 out:τ.blk jo=some cells
 ne:jo≠jp
 no:σ.blk jo=none
 np:σ.blk jp=none
 le:σ.le τ
 len:cells.length=fs.length
theorem CS.new {σ τ:AF} {jp jo:Nat} {ds:List DE} {fs:List FE} {cells:List AV} (h:CS σ jp jo ds fs cells τ) {j:Nat} (hj:τ.blk j=none) (cs:List AV):CS σ jp jo ds fs cells (τ.AO j cs):=by
 have h1:jp≠j:=fun e=>by rw [← e,h.prog] at hj;cases hj
 have h2:jo≠j:=fun e=>by rw [← e,h.out] at hj;cases hj
 have h3:σ.blk j=none:=by
  cases hc:σ.blk j with
  |none=>rfl
  |some c=>rw [h.le.blk j c hc] at hj;cases hj
 exact ⟨by rw [AM,if_neg h1];exact h.prog,by rw [AM,if_neg h2];exact h.out,h.ne,h.no,h.np,DH h.le h3,h.len⟩
theorem OX (p:Pg) (σ:AF) (h:∀d∈p.data,Hp d):AL Tryz.prog 10 [pgA p] σ (fun v σ'=>v=Np (E5 p)∧σ'=σ):=by
 have hchk:=fun σ=>OY p σ h
 refine VQ (by simp) ?_
 rw [Bj]
 unfold E5
 by_cases hc0:(NN p).1=0
 case neg=>
  rw [if_neg hc0]
  have hne:((NN p).1 != 0)=true:=by simpa using hc0
  obtain ⟨ds,fs⟩:=p
  simp only [pgA,Pg.enc,AG,AQ,dgA] at hchk ⊢
  (repeat' (first|refine Run.ct rfl ?_|((first|refine Run.reg mixed ?_|refine Run.AE ?_)<;>try simp -implicitDefEqProofs only [go_sem])|fail))
  intro jp hjp
  have hle0:=Bl (cs:=[AV.d (.sl (ds.map DE.enc)),.d (.sl (fs.map FE.enc))]) hjp
  (repeat' (first|refine Run.ct rfl ?_|((first|refine Run.reg mixed ?_|refine Run.AE ?_|(refine Run.A1 LW (σ2:=σ) hle0 ?_)|refine AI.det (hchk _) ?_)<;>try simp -implicitDefEqProofs only [hne,go_sem])|fail))
  rfl
 rw [if_pos hc0]
 have hne:((NN p).1 != 0)=false:=by simpa using hc0
 obtain ⟨ds,fs⟩:=p
 simp only [pgA,Pg.enc,AG,AQ,dgA] at hchk ⊢
 (repeat' (first|refine Run.ct rfl ?_|((first|refine Run.reg mixed ?_|refine Run.AE ?_)<;>try simp -implicitDefEqProofs only [go_sem])|fail))
 intro jp hjp
 have hle0:=Bl (cs:=[AV.d (.sl (ds.map DE.enc)),.d (.sl (fs.map FE.enc))]) hjp
 (repeat' (first|refine Run.ct rfl ?_|((first|refine Run.reg mixed ?_|refine Run.AE ?_|refine AI.det (hchk _) ?_)<;>try simp -implicitDefEqProofs only [hne,AA,go_sem])|fail))
 obtain ⟨hbig,hfacts⟩:=Pt hc0
 simp only at hbig hfacts
 generalize hQ:(fun (v:AV) (σ':AF)=>v=Np (fs.map (P3 fs))∧σ'=σ)=Q
 have hok:Q (Np (fs.map (P3 fs))) σ:=by rw [← hQ];exact ⟨rfl,rfl⟩
 clear hQ
 refine S9.mk (n:=fs.length) (by omega) (by omega) (fun jo hjo=>?_)
 have hne0:jo≠jp:=fun e=>by rw [e,AM,if_pos rfl] at hjo;cases hjo
 have hjo':σ.blk jo=none:=by rw [AM,if_neg hne0] at hjo;exact hjo
 have hflat:(AH fs.length [AV.AZ]).flatten=AH fs.length AV.AZ:=by
  induction fs.length with
  |zero=>rfl
  |succ n ih=>rw [EC,Dq,ih];rfl
 rw [hflat]
 have hcs0:CS σ jp jo ds fs (AH fs.length AV.AZ) ((σ.AO jp [AV.d (.sl (ds.map DE.enc)),.d (.sl (fs.map FE.enc))]).AO jo (AH fs.length AV.AZ)):=
  ⟨by rw [AM,if_neg (CL hne0),AM,if_pos rfl],by rw [AM,if_pos rfl],hne0,hjo',hjp,DH hle0 hjo',by simp⟩
 generalize (σ.AO jp [AV.d (.sl (ds.map DE.enc)),.d (.sl (fs.map FE.enc))]).AO jo (AH fs.length AV.AZ)=τ0 at hcs0
 have hp0:=hcs0.prog
 (repeat' (first|refine Run.ct rfl ?_|((first|refine Run.reg mixed ?_|refine Run.AE ?_)<;>try simp -implicitDefEqProofs only [hp0,AA,go_sem])|fail))
 refine Run.BD ?_
 refine Run.BK ((fun (a1:AV) (a3:AV) (a18:AV) (a19:AV)=>fun (y:Nat×List AV×AF)=>put 1 a1 (put 3 a3 (put 18 a18 (put 19 a19 (put 20 (.d (.int .i64 y.1)) U))))) _ _ _ _) (fun _=>E) (fun y=>y.2.2)
  (fun y=>y.1≤fs.length∧CS σ jp jo ds fs y.2.1 y.2.2∧(∀k f,k < y.1→fs[k]?=some f→∃cv,y.2.1[k]?=some cv∧SlV cv ((P3 fs f).map HX))∧∀k,y.1≤k→k < fs.length→y.2.1[k]?=some .AZ)
  (fun y=>fs.length - y.1) ?_ (0,AH fs.length AV.AZ,τ0) ⟨by simp,hcs0,fun k f hk=>by simp only at hk;omega,fun k _ hk=>by simp [hk]⟩
 rintro ⟨i,cells,τ⟩ ⟨hi,hcs,hdone,hrest⟩ ih
 simp only at hi hcs hdone hrest
 by_cases hlt:i < fs.length
 · obtain ⟨f,hf⟩:=BC hlt
   have he:=BA (enc:=FE.enc) hf
   have hw1:=A5 (show i+1≤9000000000000000000 by omega)
   obtain ⟨hsz,hx⟩:=hfacts f (AT hf)
   have hp1:=hcs.prog
   obtain ⟨nm,ps,o,n,u,ns,ks,al⟩:=f
   simp only [FE.enc,Ex.A4,AG,AQ] at he
   (repeat' (first|refine Run.ct rfl ?_|((first|refine Run.reg mixed ?_|refine Run.AE ?_|(refine S9.mk (n:=fs.length) (by omega) (by omega) (fun jm hjm=>?_)))<;>try simp -implicitDefEqProofs only [Ac hlt,he,hp1,AA,go_sem])|fail))
   rw [Ob]
   have hcs1:=hcs.new hjm (BZ (AH fs.length false))
   rintro jf ⟨hjf,hjb⟩
   have hj0:(τ.AO jm (BZ (AH fs.length false))).blk jf=none:=by rw [AM];exact hjf
   have hbm:(τ.AO jm (BZ (AH fs.length false))).blk jm=some (BZ (AH fs.length false)):=by rw [AM,if_pos rfl]
   generalize τ.AO jm (BZ (AH fs.length false))=τ1 at hcs1 hbm hj0 hjb ⊢
   have hfm:jm≠jf:=fun e=>by rw [← e,hbm] at hj0;cases hj0
   have hfp:jp≠jf:=fun e=>by rw [← e,hcs1.prog] at hj0;cases hj0
   have hfo:jo≠jf:=fun e=>by rw [← e,hcs1.out] at hj0;cases hj0
   have hsb:∀(τ:AF) (i:Nat) (x:Nat×TypeId) (j:Nat),(τ.DF i x).blk j=τ.blk j:=fun _ _ _ _=>rfl
   simp -implicitDefEqProofs only [hsb,go_sem]
   have hm0:σ.blk jm=none:=by
    cases hc:σ.blk jm with
    |none=>rfl
    |some c=>rw [hcs.le.blk jm c hc] at hjm;cases hjm
   have hf0:σ.blk jf=none:=by
    cases hc:σ.blk jf with
    |none=>rfl
    |some c=>rw [hcs1.le.blk jf c hc] at hj0;cases hj0
   have hmp:jp≠jm:=fun e=>by rw [← e,hcs.prog] at hjm;cases hjm
   have hmo:jo≠jm:=fun e=>by rw [← e,hcs.out] at hjm;cases hjm
   have hcs2:CS σ jp jo ds fs cells (((τ1.AO jf [AV.AZ]).DF jf (1,78)).AO jf [AV.ms jm fs.length 1 4]):=
    ⟨by rw [AM,if_neg hfp,hsb,AM,if_neg hfp];exact hcs1.prog,by rw [AM,if_neg hfo,hsb,AM,if_neg hfo];exact hcs1.out,hcs1.ne,hcs1.no,hcs1.np,DH (Qt (DH hcs1.le hf0) hjb) hf0,hcs1.len⟩
   have hbm2:(((τ1.AO jf [AV.AZ]).DF jf (1,78)).AO jf [AV.ms jm fs.length 1 4]).blk jm=some (BZ (AH fs.length false)):=by rw [AM,if_neg hfm,hsb,AM,if_neg hfm];exact hbm
   have hbf2:(((τ1.AO jf [AV.AZ]).DF jf (1,78)).AO jf [AV.ms jm fs.length 1 4]).blk jf=some [AV.ms jm fs.length 1 4]:=by rw [AM,if_pos rfl]
   generalize ((τ1.AO jf [AV.AZ]).DF jf (1,78)).AO jf [AV.ms jm fs.length 1 4]=τ2 at hcs2 hbm2 hbf2
   have hcb:=XL ds fs ⟨nm,ps,.mk o n u ns ks al⟩ hsz hbig jm jf jp 4 τ2 (AH fs.length false) (by simp) hbm2 (by rw [List.length_replicate];exact hbf2) hcs2.prog (CL hfm) hmp hx
   have hcs3:CS σ jp jo ds fs cells (τ2.AO jm (BZ (Pu fs (Ba (.mk o n u ns ks al) ps) (AH fs.length false)))):=
    ⟨by rw [AM,if_neg hmp];exact hcs2.prog,by rw [AM,if_neg hmo];exact hcs2.out,hcs2.ne,hcs2.no,hcs2.np,DH hcs2.le hm0,hcs2.len⟩
   have hbf3:(τ2.AO jm (BZ (Pu fs (Ba (.mk o n u ns ks al) ps) (AH fs.length false)))).blk jf=some [AV.ms jm fs.length 1 4]:=by rw [AM,if_neg (CL hfm)];exact hbf2
   have hbm3:(τ2.AO jm (BZ (Pu fs (Ba (.mk o n u ns ks al) ps) (AH fs.length false)))).blk jm=some (BZ (Pu fs (Ba (.mk o n u ns ks al) ps) (AH fs.length false))):=by rw [AM,if_pos rfl]
   simp only at hcb
   have hfg:∀g,g < fs.length→(Pu fs (Ba (.mk o n u ns ks al) ps) (AH fs.length false))[g]?=some ((Ba (.mk o n u ns ks al) ps).any (I8 fs g)):=fun g hg=>by
    rw [XY];simp [hg]
   have hfln:(Pu fs (Ba (.mk o n u ns ks al) ps) (AH fs.length false)).length=fs.length:=by rw [To];simp
   generalize Pu fs (Ba (.mk o n u ns ks al) ps) (AH fs.length false)=fin at hcb hcs3 hbf3 hbm3 hfg hfln
   generalize τ2.AO jm (BZ fin)=τ3 at hcb hcs3 hbf3 hbm3
   simp only [feA,FE.enc,Ex.A4,AG,AQ] at hcb
   (repeat' (first|refine Run.ct rfl ?_|((first|refine Run.reg mixed ?_|refine Run.AE ?_|(refine AI.mk rfl hcb ?_;rintro _ τ3 ⟨rfl,rfl⟩))<;>try simp -implicitDefEqProofs only [hbf3,hfln,go_sem])|fail))
   refine Run.BD ?_
   have hci:=hrest i (A0 _) hlt
   have hcl:=hcs.len
   refine Run.BK ((fun (a1:AV) (a3:AV) (a4:AV) (a18:AV) (a19:AV) (a20:AV) (a32:AV) (a33:AV)=>fun (z:Nat×AV×AF)=>put 1 a1 (put 3 a3 (put 4 a4 (put 18 a18 (put 19 a19 (put 20 a20 (put 32 a32 (put 33 a33 (put 34 (.d (.int .i64 z.1)) U))))))))) _ _ _ _ _ _ _ _) (fun _=>E) (fun z=>z.2.2)
    (fun z=>z.1≤fs.length∧CS σ jp jo ds fs (cells.set i z.2.1) z.2.2∧z.2.2.blk jm=some (BZ fin)∧Dh σ 3 1 (((An z.1).filter fun g=>(Ba (.mk o n u ns ks al) ps).any (I8 fs g)).map HX) z.2.1 z.2.2)
    (fun z=>fs.length - z.1) ?_ (0,.AZ,τ3) ⟨by simp,by rw [show cells.set i .AZ=cells from gU hci];exact hcs3,hbm3,⟨⟨τ3,rfl,hcs3.le⟩,hcs3.le,rfl,rfl,rfl,rfl,fun _=>rfl,rfl,rfl⟩⟩
   rintro ⟨g,cv,τ4⟩ ⟨hg,hcs4,hbm4,hown⟩ ih2
   simp only at hg hcs4 hbm4 hown
   by_cases hgl:g < fs.length
   · have hbg:=Em (hfg g hgl)
     have hwg:=A5 (show g+1≤9000000000000000000 by omega)
     have ho4:=hcs4.out
     have hgi:(cells.set i cv)[i]?=some cv:=by rw [BW];simp;omega
     have hll:((i:Int) < (fs.length:Int))=True:=by simp only [eq_iff_iff,iff_true];omega
     have hll2:((g:Int) < (fs.length:Int))=True:=by simp only [eq_iff_iff,iff_true];omega
     cases hb:(Ba (.mk o n u ns ks al) ps).any (I8 fs g) with
     |false=>
      rw [hb] at hbg
      have hrg:(An (g+1)).filter (fun g=>(Ba (.mk o n u ns ks al) ps).any (I8 fs g))=(An g).filter (fun g=>(Ba (.mk o n u ns ks al) ps).any (I8 fs g)):=by
       rw [List.range_succ,Ki];simp [hb]
      (repeat' (first|refine Run.ct rfl ?_|((first|refine Run.reg mixed ?_|refine Run.AE ?_)<;>try simp -implicitDefEqProofs only [Ac hgl,hbm4,hbg,hwg,hll2,Ax,go_sem])|fail))
      exact ih2 (g+1,cv,τ4) ⟨by simp only;omega,hcs4,hbm4,by simp only [hrg];exact hown⟩ (by simp only;omega)
     |true=>
      rw [hb] at hbg
      have hrg:(An (g+1)).filter (fun g=>(Ba (.mk o n u ns ks al) ps).any (I8 fs g))=(An g).filter (fun g=>(Ba (.mk o n u ns ks al) ps).any (I8 fs g))++[g]:=by
       rw [List.range_succ,Ki];simp [hb]
      have hlenR:(((An g).filter fun g=>(Ba (.mk o n u ns ks al) ps).any (I8 fs g)).map HX).length≤1000:=by
       have:=F6 (fun g=>(Ba (.mk o n u ns ks al) ps).any (I8 fs g)) (An g)
       rw [Lc] at this
       rw [AA];omega
      have hset:∀v2,DJ i (cells.set i cv)++[v2]++Cq (i+1) (cells.set i cv)=cells.set i v2:=fun v2=>by
       rw [wr1 _ (by rw [List.length_set];omega),List.set_set]
      have hlen1:(i+1≤(cells.set i cv).length)=True:=by simp;omega
      (repeat' (first|refine Run.ct rfl ?_|((first|refine Run.reg mixed ?_|refine Run.AE ?_|(refine EY.own hown rfl (by simp) (by simp only [A9,CN];omega) (by decide) (fun v2 σ2 ho2 hbk=>?_)))<;>try simp -implicitDefEqProofs only [Ac hgl,hbm4,hbg,hwg,hll2,Ax,ho4,hll,hgi,hown.cell,go_sem])|fail))
      have hb2:=(hbk jo).trans ho4
      have hbm5:=(hbk jm).trans hbm4
      have hp5:=(hbk jp).trans hcs4.prog
      simp -implicitDefEqProofs only [hll,hb2,ho2.cell,ho2.cells,hlen1,hset,Ax,go_sem]
      (repeat' (first|refine Run.ct rfl ?_|((first|refine Run.reg mixed ?_|refine Run.AE ?_)<;>try simp -implicitDefEqProofs only [hwg,go_sem])|fail))
      have ho3:=ho2.set hcs4.no (cells.set i v2)
      exact ih2 (g+1,v2,σ2.AO jo (cells.set i v2)) ⟨by simp only;omega,⟨by rw [AM,if_neg (CL hcs4.ne)];exact hp5,by rw [AM,if_pos rfl],hcs4.ne,hcs4.no,hcs4.np,ho3.le,by simp [hcl]⟩,by rw [AM,if_neg (CL hmo)];exact hbm5,by simp only [hrg,Kg];exact ho3⟩ (by simp only;omega)
   · have hgn:g=fs.length:=by omega
     subst hgn
     (repeat' (first|refine Run.ct rfl ?_|((first|refine Run.reg mixed ?_|refine Run.AE ?_)<;>try simp -implicitDefEqProofs only [Bi hgl,hw1,go_sem])|fail))
     refine ih (i+1,cells.set i cv,τ4) ⟨by simp only;omega,hcs4,fun k f hk hfk=>?_,fun k hk hkl=>?_⟩ (by simp only;omega)
     · simp only at hk ⊢
       by_cases hki:k=i
       · subst hki
         rw [hf] at hfk;cases hfk
         exact ⟨cv,by rw [BW];simp;omega,hown.slv⟩
       · rw [BW,if_neg (fun e=>hki e.symm)]
         exact hdone k f (by omega) hfk
     · simp only at hk ⊢
       rw [BW,if_neg (by omega)]
       exact hrest k (by omega) hkl
 · have hin:i=fs.length:=by omega
   subst hin
   obtain ⟨dvl,hdv,hch⟩:=aC (r:=fun f=>(P3 fs f).map HX) hcs.len (fun k f hk=>hdone k f (AR.1 hk).1 hk)
   (repeat' (first|refine Run.ct rfl ?_|((first|refine Run.reg mixed ?_|refine Run.AE ?_)<;>try simp -implicitDefEqProofs only [Bi hlt,go_sem])|fail))
   refine Run.freeze (F':=put 2 (Np (fs.map (P3 fs))) U) (σ':= { τ with blk:=fun j=>if (σ.blk j).isSome then τ.blk j else none}) hcs.out hdv (by rw [hcs.len,Ax]) (BS hbig (by decide)) (fun s=>?_) (fun k cs' hk=>⟨cs',hk,.inl rfl⟩) (fun j cs' hj'=>?_) (fun _ h=>h) ?_
   · by_cases h2:s=2
     · subst h2
       right
       simp only [EX,if_true,frz,and_self,Np,hch,List.map_map]
       rfl
     · left
       simp only [EX,if_neg h2]
   · simp only at hj'
     cases hs:σ.blk j with
     |none=>rw [hs] at hj';cases hj'
     |some c=>
      rw [hs] at hj'
      exact ⟨(fun e=>by rw [e,hcs.no] at hs;cases hs),cs',hj',.inl rfl⟩
   · refine Run.A1 LW (σ2:=σ) (fN hcs.le) ?_
     simp -implicitDefEqProofs only [OS,Np,go_sem]
     exact hok
end Go.Ab
namespace Go.Ab
end Go.Ab
namespace Go.Ab
def jV (m:Nat) (l:List Str):Prop:=∀s∈l,s.length≤m
mutual
def TE.sh (m:Nat):TE→Prop
 | .mk _ n l=>n.length≤m∧TE.shs m l
def TE.shs (m:Nat):List TE→Prop
 |[]=>True
 |t::l=>t.sh m∧TE.shs m l
end
mutual
def Ex.sh (m:Nat):Ex→Prop
 | .mk _ n _ ns ks al=>n.length≤m∧jV m ns∧Ex.shs m ks∧Al.shs m al
def Ex.shs (m:Nat):List Ex→Prop
 |[]=>True
 |t::l=>t.sh m∧Ex.shs m l
def Al.sh (m:Nat):Al→Prop
 | .mk _ vs b=>jV m vs∧b.sh m
def Al.shs (m:Nat):List Al→Prop
 |[]=>True
 |t::l=>t.sh m∧Al.shs m l
end
def DE.sh (m:Nat) (d:DE):Prop:=jV m d.vars∧∀c∈d.cons,∀t∈c.args,t.sh m
def FE.sh (m:Nat) (f:FE):Prop:=f.name.length≤m∧jV m f.params∧f.body.sh m
def Pg.sh (m:Nat) (p:Pg):Prop:=(∀d∈p.data,d.sh m)∧∀f∈p.NP,f.sh m
mutual
def TE.vn:TE→Prop
 | .mk k n l=>(k=4→n≠[])∧TE.vns l
def TE.vns:List TE→Prop
 |[]=>True
 |t::l=>t.vn∧TE.vns l
end
end Go.Ab
namespace Go.Ab
open Go.Proofs
theorem Xh (n:Nat):HX n=[.int .i64 (n:Int)]:=rfl
def J1 (r:List Nat):List DV:=[.sl (r.map HX)]
theorem gQ (r:List Nat):J1 r=[.sl (r.map HX)]:=rfl
end Go.Ab
namespace Go.Ab
open Go.Proofs
structure CB (g:List (List Nat)) (j1 j4 j5 j6 jr jw i:Nat) (cells:List AV) (R:List Bool) (τ:AF):Prop where
 b1:τ.blk j1=some [.d (.sl (g.map J1))]
 b4:τ.blk j4=some [.ms jr g.length 1 78]
 b5:τ.blk j5=some [.d (.int .i64 i)]
 b6:τ.blk j6=some [.fn 69 [] [.gp j4 0,.gp j5 0,.gp j1 0,.gp j6 0]]
 br:τ.blk jr=some cells
 cl:cells.length=g.length
 ci:cells[i]?=some (.ms jw g.length 1 4)
 il:i < g.length
 bw:τ.blk jw=some (BZ R)
 rl:R.length=g.length
 n1:jw≠j1
 n4:jw≠j4
 n5:jw≠j5
 n6:jw≠j6
 nr:jw≠jr
theorem CB.set {g:List (List Nat)} {j1 j4 j5 j6 jr jw i:Nat} {cells:List AV} {R:List Bool} {τ:AF} (h:CB g j1 j4 j5 j6 jr jw i cells R τ) (R':List Bool) (hl:R'.length=R.length):CB g j1 j4 j5 j6 jr jw i cells R' (τ.AO jw (BZ R')):=
 ⟨by rw [AM,if_neg (CL h.n1)];exact h.b1,by rw [AM,if_neg (CL h.n4)];exact h.b4,by rw [AM,if_neg (CL h.n5)];exact h.b5,by rw [AM,if_neg (CL h.n6)];exact h.b6,
   by rw [AM,if_neg (CL h.nr)];exact h.br,h.cl,h.ci,h.il,by rw [AM,if_pos rfl],hl.trans h.rl,h.n1,h.n4,h.n5,h.n6,h.nr⟩
theorem Vj {l:List Bool} {k:Nat} (x:Bool) (h:k < l.length):DJ k (BZ l)++[AV.d (.bool x)]++Cq (k+1) (BZ l)=BZ (l.set k x):=by
 have:=QX x h
 simpa only [wr,A9,CN,Am] using this
theorem XJ {l:List Bool} {k:Nat} (h:k < l.length):(k+1≤(BZ l).length)=True:=by rw [Oa];simp;omega
theorem eQ (g:List (List Nat)) (hg:N9 g) (hgl:g.length≤1000) (hll:∀l∈g,l.length≤1000) (j1 j4 j5 j6 jr jw i:Nat) (cells:List AV):∀(N:Nat) (R:List Bool) (v:Nat) (τ:AF),unm R=N→v < g.length→CB g j1 j4 j5 j6 jr jw i cells R τ→
 AL Tryz.prog 69 [.d (.int .i64 v),.gp j4 0,.gp j5 0,.gp j1 0,.gp j6 0] τ (fun av σ'=>∃R',av= .tup []∧σ'=τ.AO jw (BZ R')∧YU g v R R'):=by
 intro N
 induction N using Nat.strongRecOn with
 |_ N ihN=>
 intro R v τ hN hv hc
 obtain ⟨x,hx⟩:=BC (show v < R.length by rw [hc.rl];exact hv)
 have hbx:=Em hx
 have hil:((i:Int) < (g.length:Int))=True:=by simp only [eq_iff_iff,iff_true];have:=hc.il;omega
 have hvl:((v:Int) < (g.length:Int))=True:=by simp only [eq_iff_iff,iff_true];omega
 refine OG (by simp) ?_
 rw [eG]
 cases x with
 |true=>
  (repeat' (first|refine Run.ct rfl ?_|((first|refine Run.reg mixed ?_|refine Run.AE ?_|(refine Run.A1 GF (AF.le_refl _) ?_))<;>try simp -implicitDefEqProofs only [hc.b1,hc.b4,hc.b5,hc.b6,hc.br,hc.bw,hc.ci,hil,hvl,hbx,Ax,go_sem])|fail))
  exact ⟨R,(HR hc.bw).symm,YU.skip hx⟩
 |false=>
  have hvR:v < R.length:=(AR.1 hx).1
  have w1:=Vj true hvR
  have d1:=XJ hvR
  obtain ⟨l,hl⟩:=BC hv
  have hel:=BA (enc:=J1) hl
  rw [gQ] at hel
  have hgd:g.getD v []=l:=by rw [Ap,hl];rfl
  have hlm:=hll l (AT hl)
  have hc1:=hc.set (R.set v true) (by simp)
  (repeat' (first|refine Run.ct rfl ?_|((first|refine Run.reg mixed ?_|refine Run.AE ?_)<;>try simp -implicitDefEqProofs only [hc.b1,hc.b4,hc.b5,hc.b6,hc.br,hc.bw,hc.ci,hil,hvl,hbx,Ax,d1,w1,hc1.b1,hel,AA,go_sem])|fail))
  refine Run.BD ?_
  refine Run.BK ((fun (a4:AV) (a24:AV) (a25:AV)=>fun (y:Nat×List Bool)=>put 4 a4 (put 24 a24 (put 25 a25 (put 26 (.d (.int .i64 y.1)) U)))) _ _ _) (fun _=>E) (fun y=>τ.AO jw (BZ y.2))
   (fun y=>y.1≤l.length∧WR g v (l.take y.1) R y.2) (fun y=>l.length - y.1) ?_ (0,R.set v true) ⟨by simp,WR.start hvR⟩
  rintro ⟨q,Rq⟩ ⟨hq,hd⟩ ih
  simp only at hq hd
  by_cases hlt:q < l.length
  · obtain ⟨w,hw⟩:=BC hlt
    have hew:=BA (enc:=HX) hw
    rw [Xh] at hew
    have hw1:=A5 (show q+1≤9000000000000000000 by omega)
    have hwm:w∈g.getD v []:=by rw [hgd];exact AT hw
    have hcq:=hc.set Rq hd.len
    have hun:unm Rq < N:=by
     have h1:=aH hx
     have h2:=Ze (R:=R.set v true) (R':=Rq) (by rw [hd.len];simp) (fun k hk=>by
      rw [BW] at hk
      split at hk
      · rename_i e;subst e;exact hd.self
      · exact hd.mono k hk)
     omega
    have hcl:=ihN _ hun Rq w (τ.AO jw (BZ Rq)) rfl (hg.at hwm) hcq
    (repeat' (first|refine Run.ct rfl ?_|((first|refine Run.reg mixed ?_|refine Run.AE ?_|(refine ⟨_,[],[.gp j4 0,.gp j5 0,.gp j1 0,.gp j6 0],rfl,by kernel_rfl,AI.mk rfl hcl ?_⟩;rintro _ _ ⟨R2,rfl,rfl,hd2⟩;rw [FU]))<;>try simp -implicitDefEqProofs only [Ac hlt,hew,hcq.b6,hw1,go_sem])|fail))
    exact ih (q+1,R2) ⟨by simp only;omega,by simp only;rw [BH hw];exact hd.next hwm hd2⟩ (by simp only;omega)
  · rw [AK (by omega)] at hd
    (repeat' (first|refine Run.ct rfl ?_|((first|refine Run.reg mixed ?_|refine Run.AE ?_)<;>try simp -implicitDefEqProofs only [Bi hlt,go_sem])|fail))
    refine Run.fin GF (v:= .tup []) rfl (fun _ _ h=>h) (AF.le_refl _) ?_
    exact ⟨Rq,rfl,rfl,by rw [← hgd] at hd;exact hd.fin⟩
end Go.Ab
