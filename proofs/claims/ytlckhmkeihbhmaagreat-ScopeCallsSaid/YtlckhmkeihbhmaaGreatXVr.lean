/- Scope: the names of functions in a body. Scope: the flags of a body. Scope: Calls. Renamed programs, in plain data: names. Renamed programs, in plain data: validity, names and calls. Rows of ints compared; the longest names of programs. Conditions: none. -/
import Derived.Test.YtlckhmkeihbhmaaGreatXVm
set_option linter.unusedSimpArgs false
set_option linter.unusedVariables false
set_option maxRecDepth 4000
set_option maxHeartbeats 8000000
open List renaming map_cons→AI,map_nil→AO,getElem?_eq_some_iff→AR,take→DN,drop→Cs,getElem?_set→An,mem_cons→Bf,ext_getElem?→Dv,set_eq_take_append_cons_drop→fW,getElem?_cons_zero→LO,length_map→AA,replicate→AG,replicate_succ→Eu,flatten_cons→En,mem_of_getElem?→AT,range→Ae,range_succ→LC,filter_append→F8,length_filter_le→ER,length_range→GG,length_set→LB,length_cons→A5,length_nil→BX,map_append→Er,take_of_length_le→AH
open Bool renaming not_true→IJ,and_false→B3,false_eq_true→AZ,not_false→C2,and_true→Am,false_and→B1,true_and→BA,or_false→KS,eq_false_iff→Bv
open Int renaming reduceBEq→AU
open Option renaming isSome_iff_exists→TR
open Nat renaming mul_one→Ai,le_refl→A0,le_trans→BR
open Ne renaming symm→Bs
open Option.some renaming injEq→AK
namespace Go.Ab
open Go.Proofs
def TA (fs:List FE) (x:Ex×List Str) (fl:List Bool):List Bool:=
 if x.1.op=4&& !x.2.contains x.1.name then (match Ct (CU fs) x.1.name with|some g=>fl.set g true|none=>fl) else fl
theorem Wk (fs:List FE) (x:Ex×List Str) (fl:List Bool):(TA fs x fl).length=fl.length:=by
 unfold TA
 split
 · split<;>simp
 · rfl
theorem ZK (ds:List DE) (fs:List FE) (e:Ex) (sc:List Str) (fl:List Bool) (hfl:fl.length=fs.length) (hfs:fs.length≤24) (jm jf jp eM:Nat) (σ:AF) (hm:σ.blk jm=some (BK fl)) (hf:σ.blk jf=some [.ms jm fl.length 1 eM])
 (hp:σ.blk jp=some [.d (.sl (ds.map DE.enc)),.d (.sl (fs.map FE.enc))]) (hn:e.op=4→e.name≠[]) (hidx:e.op=4→sc.contains e.name=false→(Ct (CU fs) e.name).isSome=true):
 AM Tryz.prog 31 [exA e,.d (bdL sc),.gp jf 0,.gp jp 0] σ (fun v σ'=>v= .d (.int .i64 0)∧σ'=σ.AP jm (BK (TA fs (e,sc) fl))):=by
 obtain ⟨o,n,u,ns,ks,al⟩:=e
 simp only [Ex.op,Ex.name] at hn hidx
 refine T4 (by simp) ?_
 rw [gD,exA,Ex.A7]
 have hfun:=O0 ⟨ds,fs⟩ n σ
 simp only [pgA,Pg.enc,AI,AO] at hfun
 have hid:=H6 hm
 have hT:TA fs (.mk o n u ns ks al,sc) fl=if decide (o=4)&& !sc.contains n then (match Ct (CU fs) n with|some g=>fl.set g true|none=>fl) else fl:=rfl
 by_cases h4:o=4
 · subst h4
   have hh:=XX sc n (hn rfl) σ
   cases hc:sc.contains n with
   |true=>
    rw [hc] at hh hT
    simp only [IJ,B3,AZ,if_false] at hT
    rw [hT,hid]
    (repeat' (first|refine Run.ct rfl ?_|((first|refine Run.reg mixed ?_|refine Run.AD ?_|refine Run.A1 HL (AF.le_refl _) ?_|refine AJ.det (hh) ?_)<;>try simp -implicitDefEqProofs only [AU,go_sem])|fail))
   |false=>
    rw [hc] at hh
    obtain ⟨g,hg⟩:=TR.1 (hidx rfl hc)
    obtain ⟨f,hff,_⟩:=SJ hg
    have hgl:g < fl.length:=by rw [hfl];exact (AR.1 hff).1
    rw [hc,hg] at hT
    rw [hg] at hfun
    simp only [Ee,C2,Am,decide_true,if_true] at hfun hT
    rw [hT]
    (repeat' (first|refine Run.ct rfl ?_|((first|refine Run.reg mixed ?_|refine Run.AD ?_|refine AJ.det (hh) ?_|refine AJ.det (hfun) ?_)<;>try simp -implicitDefEqProofs only [AU,hf,hp,hm,go_sem])|fail))
    have hixl:((g:Int) < (fl.length:Int))=True:=by simp only [eq_iff_iff,iff_true];omega
    have hbl:(g+1≤(BK fl).length)=True:=by rw [PH];simp only [eq_iff_iff,iff_true];omega
    have hwr:DN g (BK fl)++[AV.d (.bool true)]++Cs (g+1) (BK fl)=BK (fl.set g true):=by
     rw [← RA true hgl];rfl
    refine Run.cF mixed (fun F' L' σ'=>σ'=σ.AP jm (BK (fl.set g true))) ?_ ?_
    · simp -implicitDefEqProofs only [hf,hp,hm,go_sem]
      refine ⟨?_,?_⟩
      · skip
        refine AJ.mk rfl hfun ?_
        rintro _ _ ⟨rfl,rfl⟩
        simp -implicitDefEqProofs only [hf,hp,hm,hixl,hbl,Ai,hwr,go_sem]
      · skip
        refine AJ.mk rfl hfun ?_
        rintro _ _ ⟨rfl,rfl⟩
        simp -implicitDefEqProofs only [hf,hp,hm,hixl,hbl,Ai,hwr,go_sem]
    · rintro F' L' σ' rfl
      (repeat' (first|refine Run.ct rfl ?_|((first|refine Run.reg mixed ?_|refine Run.AD ?_|refine Run.A1 HL (AF.le_refl _) ?_)<;>try simp -implicitDefEqProofs only [go_sem])|fail))
 · have hb:=CZ h4
   simp only [h4,decide_false,B1,AZ,if_false] at hT
   rw [hT,hid]
   (repeat' (first|refine Run.ct rfl ?_|((first|refine Run.reg mixed ?_|refine Run.AD ?_|refine Run.A1 HL (AF.le_refl _) ?_)<;>try simp -implicitDefEqProofs only [hb,go_sem])|fail))
end Go.Ab
namespace Go.Ab
open Go.Proofs
theorem Yu (σ:AF) {i j:Nat} (h:i≠j) (a b c:List AV):((σ.AP i a).AP j b).AP i c=(σ.AP i c).AP j b:=by
 unfold AF.AP
 simp only [AF.mk.injEq,and_true]
 funext k
 by_cases h1:k=i
 · subst h1;simp [h]
 · simp [h1]
def Q5 (fs:List FE):List (Ex×List Str)→List Bool→List Bool
 |[],fl=>fl
 |x::l,fl=>Q5 fs l (TA fs x fl)
theorem Ua (fs:List FE):∀(l:List (Ex×List Str)) (fl:List Bool),(Q5 fs l fl).length=fl.length
 |[],fl=>rfl
 |x::l,fl=>by rw [Q5,Ua fs l,Wk]
theorem dG (fs:List FE) (x:Ex×List Str) (fl:List Bool) (g:Nat):(TA fs x fl)[g]?=fl[g]?.map (·||HT fs g x):=by
 unfold TA HT
 by_cases h:x.1.op=4
 · cases hc:x.2.contains x.1.name with
   |true=>
    simp [h,hc]
   |false=>
    simp only [h,hc,decide_true,C2,Am,if_true,beq_self_eq_true,BA]
    cases hi:Ct (CU fs) x.1.name with
    |none=>simp
    |some k=>
     by_cases hk:k=g
     · subst hk
       rw [An]
       by_cases hl:k < fl.length
       · simp [hl]
       · simp [hl]
     · rw [An,if_neg hk]
       have hkg:(k==g)=false:=by simpa using hk
       simp [hkg]
 · have hb:=CZ h
   simp only [h,decide_false,B1,AZ,if_false,hb,KS]
   simp
theorem YK (fs:List FE) (g:Nat):∀(l:List (Ex×List Str)) (fl:List Bool),(Q5 fs l fl)[g]?=fl[g]?.map (·||l.any (HT fs g))
 |[],fl=>by simp [Q5]
 |x::l,fl=>by
  rw [Q5,YK fs g l,dG]
  cases fl[g]? with
  |none=>rfl
  |some b=>simp [Bool.or_assoc]
abbrev FlS (fs:List FE):= { fl:List Bool // fl.length=fs.length}
def jQ (fs:List FE) (s:FlS fs) (x:Ex×List Str):Int×FlS fs:=(0,⟨TA fs x s.1,by rw [Wk];exact s.2⟩)
theorem Wx (fs:List FE):∀(l:List (Ex×List Str)) (s:FlS fs),Gl (jQ fs) l s=(none,⟨Q5 fs l s.1,by rw [Ua];exact s.2⟩)
 |[],s=>rfl
 |x::l,s=>by
  rw [Gl]
  have:=Wx fs l (jQ fs s x).2
  rw [if_pos (show (jQ fs s x).1=0 from rfl),this]
  rfl
theorem YB (ds:List DE) (fs:List FE) (f:FE) (hsz:f.body.size≤600) (hfs:fs.length≤24) (jm jf jp eM:Nat) (τ:AF) (fl:List Bool) (hfl:fl.length=fs.length) (hm:τ.blk jm=some (BK fl)) (hf:τ.blk jf=some [.ms jm fl.length 1 eM])
 (hp:τ.blk jp=some [.d (.sl (ds.map DE.enc)),.d (.sl (fs.map FE.enc))]) (hne1:jf≠jm) (hne2:jp≠jm)
 (hx:∀x∈B7 f.body f.params,(x.1.op=4→x.1.name≠[])∧(x.1.op=4→x.2.contains x.1.name=false→(Ct (CU fs) x.1.name).isSome=true)):
 AM Tryz.prog 30 [feA f,.fn 31 [] [.gp jf 0,.gp jp 0]] τ
  (fun v σ'=>v= .tup [.d (.int .i64 ((f.body.size - 1:Nat):Int)),.d (.int .i64 0)]∧σ'=τ.AP jm (BK (Q5 fs (B7 f.body f.params) fl))):=by
 have hw:=Ve (S:=FlS fs) (jQ fs) (fun s=>τ.AP jm (BK s.1)) 31 [] [.gp jf 0,.gp jp 0] (by kernel_rfl) rfl rfl f ⟨fl,hfl⟩ (by omega)
  (fun t j hj=>by
    simp only [AL] at hj ⊢
    split
    · rename_i e;rw [if_pos e] at hj;cases hj
    · rename_i e;rwa [if_neg e] at hj)
  (fun j hj x hxm s n=>by
    have hjm:j≠jm:=fun e=>by rw [e,AL,if_pos rfl] at hj;cases hj
    have hj0:τ.blk j=none:=by rw [AL,if_neg hjm] at hj;exact hj
    have hjf:jf≠j:=fun e=>by rw [← e,hf] at hj0;cases hj0
    have hjp:jp≠j:=fun e=>by rw [← e,hp] at hj0;cases hj0
    have:=ZK ds fs x.1 x.2 s.1 s.2 hfs jm jf jp eM (WH (fun s:FlS fs=>τ.AP jm (BK s.1)) j (.fn 31 [] [.gp jf 0,.gp jp 0]) n s)
     (by simp only [WH,AL,if_neg (Bs hjm),if_true]) (by rw [WH,AL,if_neg hjf,AL,if_neg hne1,hf,hfl,s.2]) (by rw [WH,AL,if_neg hjp,AL,if_neg hne2,hp]) (hx x hxm).1 (hx x hxm).2
    refine this.mono (fun v σ' h=>⟨h.1,?_⟩)
    rw [h.2]
    simp only [WH,jQ]
    exact Yu τ (Bs hjm) _ _ _)
 simp only [H6 hm] at hw
 refine hw.mono (fun v σ' h=>?_)
 rw [Wx] at h
 exact h
theorem Q3 {fs:List FE} {dt:List Dat}:∀(l:List FE) (i:Nat),(GK fs dt i l).1=0→∀f∈l,EH (EX fs dt) (B7 f.body f.params)=none
 |[],i,_,f,hf=>by simp at hf
 |g::l,i,h,f,hf=>by
  rw [GK] at h
  have hF:RX fs dt i g=none∧EH (EX fs dt) (B7 g.body g.params)=none:=by
   unfold RX at h ⊢
   split at h
   · rename_i d hd
     exfalso
     split at hd
     · cases hd;simp at h
     · split at hd
       · rename_i k c hk;cases hd;exact R4 hk h
       · cases hd
   · rename_i hd
     split at hd
     · cases hd
     · split at hd
       · cases hd
       · rename_i hk;exact ⟨by rename_i h1 _;rw [if_neg h1],hk⟩
  rw [hF.1] at h
  rcases Bf.1 hf with rfl|hf
  · exact hF.2
  · exact Q3 l (i+1) h f hf
theorem Wi {vis:Ex→List Str→Int}:∀ {l:List (Ex×List Str)},EH vis l=none→∀x∈l,vis x.1 x.2=0
 |[],_,x,hx=>by simp at hx
 |y::l,h,x,hx=>by
  rw [EH] at h
  split at h
  · rename_i h0
    rcases Bf.1 hx with rfl|hx
    · exact h0
    · exact Wi (by simpa using h) x hx
  · cases h
theorem Q4 {p:Pg} (h:(My p).1=0):p.MW.length≤24∧∀f∈p.MW,f.body.size≤600∧∀x∈B7 f.body f.params,(x.1.op=4→x.1.name≠[])∧(x.1.op=4→x.2.contains x.1.name=false→(Ct (CU p.MW) x.1.name).isSome=true):=by
 unfold My at h
 cases hd:MU p with
 |error d=>obtain ⟨c,a,b⟩:=d;rw [hd] at h;exact absurd h (R0 hd)
 |ok dt=>
  rw [hd] at h
  simp only at h
  obtain ⟨hv,_⟩:=LY hd
  obtain ⟨hl,hg⟩:=Kt hv
  refine ⟨hl,fun f hf=>⟨(hg f hf).1,fun x hx=>⟨((hg f hf).2.2 _ x hx).1,fun h4 hc=>?_⟩⟩⟩
  have h0:=Wi (Q3 _ _ h f hf) x hx
  obtain ⟨⟨o,n,u,ns,ks,al⟩,sc⟩:=x
  simp only [Ex.op,Ex.name] at h4 hc ⊢
  subst h4
  rw [L9,if_pos rfl,hc] at h0
  cases hi:Ct (CU p.MW) n with
  |none=>rw [hi] at h0;simp at h0
  |some k=>rfl
end Go.Ab
namespace Go.Ab
open Go.Proofs
def DI (n:Nat):List DV:=[.int .i64 (n:Int)]
def I5 (l:List (List Nat)):AV:= .d (.sl (l.map fun r=>[.sl (r.map DI)]))
theorem Rd {σ τ:AF} (h:σ.le τ) {i:Nat} {x:Nat×TypeId} (hb:τ.bt i=none):σ.le (τ.DK i x):=
 ⟨h.blk,h.tok,h.gt,fun k y hk=>by
   have:=h.bt k y hk
   show (if k=i then some x else τ.bt k)=some y
   rw [if_neg (fun e=>by rw [e,hb] at this;cases this)];exact this⟩
theorem jF {α:Type} {l:List α} {i:Nat} {x:α} (h:l[i]?=some x):l.set i x=l:=by
 apply Dv
 intro k
 rw [An]
 split
 · rename_i e;subst e;rw [h,if_pos (AR.1 h).1]
 · rfl
theorem wr1 {α:Type} {l:List α} {i:Nat} (x:α) (h:i < l.length):DN i l++[x]++Cs (i+1) l=l.set i x:=by
 rw [fW,if_pos h];simp
theorem cC {r:FE→List (List DV)}:∀ {l:List FE} {cells:List AV},cells.length=l.length→(∀(k:Nat) (f:FE),l[k]?=some f→∃cv,cells[k]?=some cv∧SlV cv (r f))→∃ds,dvs cells=some ds∧chunk 1 l.length ds=l.map fun f=>[DV.sl (r f)]
 |[],[],_,_=>⟨[],rfl,rfl⟩
 |f::l,[],h,_=>by simp at h
 |[],c::cells,h,_=>by simp at h
 |f::l,c::cells,h,hk=>by
  obtain ⟨cv,h1,h2⟩:=hk 0 f rfl
  simp only [LO,AK] at h1
  subst h1
  obtain ⟨ds,h3,h4⟩:=cC (r:=r) (l:=l) (cells:=cells) (by simpa using h) (fun k g hg=>hk (k+1) g hg)
  have hcv:=h2.dv
  exact ⟨.sl (r f)::ds,by simp [dvs,hcv,h3],by simp [chunk,h4]⟩
structure CS (σ:AF) (jp jo:Nat) (ds:List DE) (fs:List FE) (cells:List AV) (τ:AF):Prop where
 prog:τ.blk jp=some [.d (.sl (ds.map DE.enc)),.d (.sl (fs.map FE.enc))]
 out:τ.blk jo=some cells
 ne:jo≠jp
 no:σ.blk jo=none
 np:σ.blk jp=none
 le:σ.le τ
 len:cells.length=fs.length
theorem CS.new {σ τ:AF} {jp jo:Nat} {ds:List DE} {fs:List FE} {cells:List AV} (h:CS σ jp jo ds fs cells τ) {j:Nat} (hj:τ.blk j=none) (cs:List AV):CS σ jp jo ds fs cells (τ.AP j cs):=by
 have h1:jp≠j:=fun e=>by rw [← e,h.prog] at hj;cases hj
 have h2:jo≠j:=fun e=>by rw [← e,h.out] at hj;cases hj
 have h3:σ.blk j=none:=by
  cases hc:σ.blk j with
  |none=>rfl
  |some c=>rw [h.le.blk j c hc] at hj;cases hj
 exact ⟨by rw [AL,if_neg h1];exact h.prog,by rw [AL,if_neg h2];exact h.out,h.ne,h.no,h.np,C1 h.le h3,h.len⟩
theorem Ot (p:Pg) (σ:AF) (h:∀d∈p.data,Gd d):AM Tryz.prog 10 [pgA p] σ (fun v σ'=>v=I5 (Ey p)∧σ'=σ):=by
 have hchk:=fun σ=>Ou p σ h
 refine WC (by simp) ?_
 rw [Bg]
 unfold Ey
 by_cases hc0:(My p).1=0
 case neg=>
  rw [if_neg hc0]
  have hne:((My p).1 != 0)=true:=by simpa using hc0
  obtain ⟨ds,fs⟩:=p
  simp only [pgA,Pg.enc,AI,AO,dgA] at hchk ⊢
  (repeat' (first|refine Run.ct rfl ?_|((first|refine Run.reg mixed ?_|refine Run.AD ?_)<;>try simp -implicitDefEqProofs only [go_sem])|fail))
  intro jp hjp
  have hle0:=Bj (cs:=[AV.d (.sl (ds.map DE.enc)),.d (.sl (fs.map FE.enc))]) hjp
  (repeat' (first|refine Run.ct rfl ?_|((first|refine Run.reg mixed ?_|refine Run.AD ?_|(refine Run.A1 Lj (σ2:=σ) hle0 ?_)|refine AJ.det (hchk _) ?_)<;>try simp -implicitDefEqProofs only [hne,go_sem])|fail))
  rfl
 rw [if_pos hc0]
 have hne:((My p).1 != 0)=false:=by simpa using hc0
 obtain ⟨ds,fs⟩:=p
 simp only [pgA,Pg.enc,AI,AO,dgA] at hchk ⊢
 (repeat' (first|refine Run.ct rfl ?_|((first|refine Run.reg mixed ?_|refine Run.AD ?_)<;>try simp -implicitDefEqProofs only [go_sem])|fail))
 intro jp hjp
 have hle0:=Bj (cs:=[AV.d (.sl (ds.map DE.enc)),.d (.sl (fs.map FE.enc))]) hjp
 (repeat' (first|refine Run.ct rfl ?_|((first|refine Run.reg mixed ?_|refine Run.AD ?_|refine AJ.det (hchk _) ?_)<;>try simp -implicitDefEqProofs only [hne,AA,go_sem])|fail))
 obtain ⟨hbig,hfacts⟩:=Q4 hc0
 simp only at hbig hfacts
 generalize hQ:(fun (v:AV) (σ':AF)=>v=I5 (fs.map (JH fs))∧σ'=σ)=Q
 have hok:Q (I5 (fs.map (JH fs))) σ:=by rw [← hQ];exact ⟨rfl,rfl⟩
 clear hQ
 refine Qx.mk (n:=fs.length) (by omega) (by omega) (fun jo hjo=>?_)
 have hne0:jo≠jp:=fun e=>by rw [e,AL,if_pos rfl] at hjo;cases hjo
 have hjo':σ.blk jo=none:=by rw [AL,if_neg hne0] at hjo;exact hjo
 have hflat:(AG fs.length [AV.AY]).flatten=AG fs.length AV.AY:=by
  induction fs.length with
  |zero=>rfl
  |succ n ih=>rw [Eu,En,ih];rfl
 rw [hflat]
 have hcs0:CS σ jp jo ds fs (AG fs.length AV.AY) ((σ.AP jp [AV.d (.sl (ds.map DE.enc)),.d (.sl (fs.map FE.enc))]).AP jo (AG fs.length AV.AY)):=
  ⟨by rw [AL,if_neg (Bs hne0),AL,if_pos rfl],by rw [AL,if_pos rfl],hne0,hjo',hjp,C1 hle0 hjo',by simp⟩
 generalize (σ.AP jp [AV.d (.sl (ds.map DE.enc)),.d (.sl (fs.map FE.enc))]).AP jo (AG fs.length AV.AY)=τ0 at hcs0
 have hp0:=hcs0.prog
 (repeat' (first|refine Run.ct rfl ?_|((first|refine Run.reg mixed ?_|refine Run.AD ?_)<;>try simp -implicitDefEqProofs only [hp0,AA,go_sem])|fail))
 refine Run.BD ?_
 refine Run.BG ((fun (a1:AV) (a3:AV) (a18:AV) (a19:AV)=>fun (y:Nat×List AV×AF)=>put 1 a1 (put 3 a3 (put 18 a18 (put 19 a19 (put 20 (.d (.int .i64 y.1)) U))))) _ _ _ _) (fun _=>E) (fun y=>y.2.2)
  (fun y=>y.1≤fs.length∧CS σ jp jo ds fs y.2.1 y.2.2∧(∀k f,k < y.1→fs[k]?=some f→∃cv,y.2.1[k]?=some cv∧SlV cv ((JH fs f).map DI))∧∀k,y.1≤k→k < fs.length→y.2.1[k]?=some .AY)
  (fun y=>fs.length - y.1) ?_ (0,AG fs.length AV.AY,τ0) ⟨by simp,hcs0,fun k f hk=>by simp only at hk;omega,fun k _ hk=>by simp [hk]⟩
 rintro ⟨i,cells,τ⟩ ⟨hi,hcs,hdone,hrest⟩ ih
 simp only at hi hcs hdone hrest
 by_cases hlt:i < fs.length
 · obtain ⟨f,hf⟩:=BC hlt
   have he:=Ay (enc:=FE.enc) hf
   have hw1:=A6 (show i+1≤9000000000000000000 by omega)
   obtain ⟨hsz,hx⟩:=hfacts f (AT hf)
   have hp1:=hcs.prog
   obtain ⟨nm,ps,o,n,u,ns,ks,al⟩:=f
   simp only [FE.enc,Ex.A7,AI,AO] at he
   (repeat' (first|refine Run.ct rfl ?_|((first|refine Run.reg mixed ?_|refine Run.AD ?_|(refine Qx.mk (n:=fs.length) (by omega) (by omega) (fun jm hjm=>?_)))<;>try simp -implicitDefEqProofs only [A8 hlt,he,hp1,AA,go_sem])|fail))
   rw [KM]
   have hcs1:=hcs.new hjm (BK (AG fs.length false))
   rintro jf ⟨hjf,hjb⟩
   have hj0:(τ.AP jm (BK (AG fs.length false))).blk jf=none:=by rw [AL];exact hjf
   have hbm:(τ.AP jm (BK (AG fs.length false))).blk jm=some (BK (AG fs.length false)):=by rw [AL,if_pos rfl]
   generalize τ.AP jm (BK (AG fs.length false))=τ1 at hcs1 hbm hj0 hjb ⊢
   have hfm:jm≠jf:=fun e=>by rw [← e,hbm] at hj0;cases hj0
   have hfp:jp≠jf:=fun e=>by rw [← e,hcs1.prog] at hj0;cases hj0
   have hfo:jo≠jf:=fun e=>by rw [← e,hcs1.out] at hj0;cases hj0
   have hsb:∀(τ:AF) (i:Nat) (x:Nat×TypeId) (j:Nat),(τ.DK i x).blk j=τ.blk j:=fun _ _ _ _=>rfl
   simp -implicitDefEqProofs only [hsb,go_sem]
   have hm0:σ.blk jm=none:=by
    cases hc:σ.blk jm with
    |none=>rfl
    |some c=>rw [hcs.le.blk jm c hc] at hjm;cases hjm
   have hf0:σ.blk jf=none:=by
    cases hc:σ.blk jf with
    |none=>rfl
    |some c=>rw [hcs1.le.blk jf c hc] at hj0;cases hj0
   have hmp:jp≠jm:=fun e=>by rw [← e,hcs.prog] at hjm;cases hjm
   have hmo:jo≠jm:=fun e=>by rw [← e,hcs.out] at hjm;cases hjm
   have hcs2:CS σ jp jo ds fs cells (((τ1.AP jf [AV.AY]).DK jf (1,78)).AP jf [AV.ms jm fs.length 1 4]):=
    ⟨by rw [AL,if_neg hfp,hsb,AL,if_neg hfp];exact hcs1.prog,by rw [AL,if_neg hfo,hsb,AL,if_neg hfo];exact hcs1.out,hcs1.ne,hcs1.no,hcs1.np,C1 (Rd (C1 hcs1.le hf0) hjb) hf0,hcs1.len⟩
   have hbm2:(((τ1.AP jf [AV.AY]).DK jf (1,78)).AP jf [AV.ms jm fs.length 1 4]).blk jm=some (BK (AG fs.length false)):=by rw [AL,if_neg hfm,hsb,AL,if_neg hfm];exact hbm
   have hbf2:(((τ1.AP jf [AV.AY]).DK jf (1,78)).AP jf [AV.ms jm fs.length 1 4]).blk jf=some [AV.ms jm fs.length 1 4]:=by rw [AL,if_pos rfl]
   generalize ((τ1.AP jf [AV.AY]).DK jf (1,78)).AP jf [AV.ms jm fs.length 1 4]=τ2 at hcs2 hbm2 hbf2
   have hcb:=YB ds fs ⟨nm,ps,.mk o n u ns ks al⟩ hsz hbig jm jf jp 4 τ2 (AG fs.length false) (by simp) hbm2 (by rw [List.length_replicate];exact hbf2) hcs2.prog (Bs hfm) hmp hx
   have hcs3:CS σ jp jo ds fs cells (τ2.AP jm (BK (Q5 fs (B7 (.mk o n u ns ks al) ps) (AG fs.length false)))):=
    ⟨by rw [AL,if_neg hmp];exact hcs2.prog,by rw [AL,if_neg hmo];exact hcs2.out,hcs2.ne,hcs2.no,hcs2.np,C1 hcs2.le hm0,hcs2.len⟩
   have hbf3:(τ2.AP jm (BK (Q5 fs (B7 (.mk o n u ns ks al) ps) (AG fs.length false)))).blk jf=some [AV.ms jm fs.length 1 4]:=by rw [AL,if_neg (Bs hfm)];exact hbf2
   have hbm3:(τ2.AP jm (BK (Q5 fs (B7 (.mk o n u ns ks al) ps) (AG fs.length false)))).blk jm=some (BK (Q5 fs (B7 (.mk o n u ns ks al) ps) (AG fs.length false))):=by rw [AL,if_pos rfl]
   simp only at hcb
   have hfg:∀g,g < fs.length→(Q5 fs (B7 (.mk o n u ns ks al) ps) (AG fs.length false))[g]?=some ((B7 (.mk o n u ns ks al) ps).any (HT fs g)):=fun g hg=>by
    rw [YK];simp [hg]
   have hfln:(Q5 fs (B7 (.mk o n u ns ks al) ps) (AG fs.length false)).length=fs.length:=by rw [Ua];simp
   generalize Q5 fs (B7 (.mk o n u ns ks al) ps) (AG fs.length false)=fin at hcb hcs3 hbf3 hbm3 hfg hfln
   generalize τ2.AP jm (BK fin)=τ3 at hcb hcs3 hbf3 hbm3
   simp only [feA,FE.enc,Ex.A7,AI,AO] at hcb
   (repeat' (first|refine Run.ct rfl ?_|((first|refine Run.reg mixed ?_|refine Run.AD ?_|(refine AJ.mk rfl hcb ?_;rintro _ τ3 ⟨rfl,rfl⟩))<;>try simp -implicitDefEqProofs only [hbf3,hfln,go_sem])|fail))
   refine Run.BD ?_
   have hci:=hrest i (A0 _) hlt
   have hcl:=hcs.len
   refine Run.BG ((fun (a1:AV) (a3:AV) (a4:AV) (a18:AV) (a19:AV) (a20:AV) (a32:AV) (a33:AV)=>fun (z:Nat×AV×AF)=>put 1 a1 (put 3 a3 (put 4 a4 (put 18 a18 (put 19 a19 (put 20 a20 (put 32 a32 (put 33 a33 (put 34 (.d (.int .i64 z.1)) U))))))))) _ _ _ _ _ _ _ _) (fun _=>E) (fun z=>z.2.2)
    (fun z=>z.1≤fs.length∧CS σ jp jo ds fs (cells.set i z.2.1) z.2.2∧z.2.2.blk jm=some (BK fin)∧Cg σ 3 1 (((Ae z.1).filter fun g=>(B7 (.mk o n u ns ks al) ps).any (HT fs g)).map DI) z.2.1 z.2.2)
    (fun z=>fs.length - z.1) ?_ (0,.AY,τ3) ⟨by simp,by rw [show cells.set i .AY=cells from jF hci];exact hcs3,hbm3,⟨⟨τ3,rfl,hcs3.le⟩,hcs3.le,rfl,rfl,rfl,rfl,fun _=>rfl,rfl,rfl⟩⟩
   rintro ⟨g,cv,τ4⟩ ⟨hg,hcs4,hbm4,hown⟩ ih2
   simp only at hg hcs4 hbm4 hown
   by_cases hgl:g < fs.length
   · have hbg:=DD (hfg g hgl)
     have hwg:=A6 (show g+1≤9000000000000000000 by omega)
     have ho4:=hcs4.out
     have hgi:(cells.set i cv)[i]?=some cv:=by rw [An];simp;omega
     have hll:((i:Int) < (fs.length:Int))=True:=by simp only [eq_iff_iff,iff_true];omega
     have hll2:((g:Int) < (fs.length:Int))=True:=by simp only [eq_iff_iff,iff_true];omega
     cases hb:(B7 (.mk o n u ns ks al) ps).any (HT fs g) with
     |false=>
      rw [hb] at hbg
      have hrg:(Ae (g+1)).filter (fun g=>(B7 (.mk o n u ns ks al) ps).any (HT fs g))=(Ae g).filter (fun g=>(B7 (.mk o n u ns ks al) ps).any (HT fs g)):=by
       rw [LC,F8];simp [hb]
      (repeat' (first|refine Run.ct rfl ?_|((first|refine Run.reg mixed ?_|refine Run.AD ?_)<;>try simp -implicitDefEqProofs only [A8 hgl,hbm4,hbg,hwg,hll2,Ai,go_sem])|fail))
      exact ih2 (g+1,cv,τ4) ⟨by simp only;omega,hcs4,hbm4,by simp only [hrg];exact hown⟩ (by simp only;omega)
     |true=>
      rw [hb] at hbg
      have hrg:(Ae (g+1)).filter (fun g=>(B7 (.mk o n u ns ks al) ps).any (HT fs g))=(Ae g).filter (fun g=>(B7 (.mk o n u ns ks al) ps).any (HT fs g))++[g]:=by
       rw [LC,F8];simp [hb]
      have hlenR:(((Ae g).filter fun g=>(B7 (.mk o n u ns ks al) ps).any (HT fs g)).map DI).length≤1000:=by
       have:=ER (fun g=>(B7 (.mk o n u ns ks al) ps).any (HT fs g)) (Ae g)
       rw [GG] at this
       rw [AA];omega
      have hset:∀v2,DN i (cells.set i cv)++[v2]++Cs (i+1) (cells.set i cv)=cells.set i v2:=fun v2=>by
       rw [wr1 _ (by rw [LB];omega),List.set_set]
      have hlen1:(i+1≤(cells.set i cv).length)=True:=by simp;omega
      (repeat' (first|refine Run.ct rfl ?_|((first|refine Run.reg mixed ?_|refine Run.AD ?_|(refine Dy.own hown rfl (by simp) (by simp only [A5,BX];omega) (by decide) (fun v2 σ2 ho2 hbk=>?_)))<;>try simp -implicitDefEqProofs only [A8 hgl,hbm4,hbg,hwg,hll2,Ai,ho4,hll,hgi,hown.cell,go_sem])|fail))
      have hb2:=(hbk jo).trans ho4
      have hbm5:=(hbk jm).trans hbm4
      have hp5:=(hbk jp).trans hcs4.prog
      simp -implicitDefEqProofs only [hll,hb2,ho2.cell,ho2.cells,hlen1,hset,Ai,go_sem]
      (repeat' (first|refine Run.ct rfl ?_|((first|refine Run.reg mixed ?_|refine Run.AD ?_)<;>try simp -implicitDefEqProofs only [hwg,go_sem])|fail))
      have ho3:=ho2.set hcs4.no (cells.set i v2)
      exact ih2 (g+1,v2,σ2.AP jo (cells.set i v2)) ⟨by simp only;omega,⟨by rw [AL,if_neg (Bs hcs4.ne)];exact hp5,by rw [AL,if_pos rfl],hcs4.ne,hcs4.no,hcs4.np,ho3.le,by simp [hcl]⟩,by rw [AL,if_neg (Bs hmo)];exact hbm5,by simp only [hrg,Er];exact ho3⟩ (by simp only;omega)
   · have hgn:g=fs.length:=by omega
     subst hgn
     (repeat' (first|refine Run.ct rfl ?_|((first|refine Run.reg mixed ?_|refine Run.AD ?_)<;>try simp -implicitDefEqProofs only [Bd hgl,hw1,go_sem])|fail))
     refine ih (i+1,cells.set i cv,τ4) ⟨by simp only;omega,hcs4,fun k f hk hfk=>?_,fun k hk hkl=>?_⟩ (by simp only;omega)
     · simp only at hk ⊢
       by_cases hki:k=i
       · subst hki
         rw [hf] at hfk;cases hfk
         exact ⟨cv,by rw [An];simp;omega,hown.slv⟩
       · rw [An,if_neg (fun e=>hki e.symm)]
         exact hdone k f (by omega) hfk
     · simp only at hk ⊢
       rw [An,if_neg (by omega)]
       exact hrest k (by omega) hkl
 · have hin:i=fs.length:=by omega
   subst hin
   obtain ⟨dvl,hdv,hch⟩:=cC (r:=fun f=>(JH fs f).map DI) hcs.len (fun k f hk=>hdone k f (AR.1 hk).1 hk)
   (repeat' (first|refine Run.ct rfl ?_|((first|refine Run.reg mixed ?_|refine Run.AD ?_)<;>try simp -implicitDefEqProofs only [Bd hlt,go_sem])|fail))
   refine Run.freeze (F':=put 2 (I5 (fs.map (JH fs))) U) (σ':= { τ with blk:=fun j=>if (σ.blk j).isSome then τ.blk j else none}) hcs.out hdv (by rw [hcs.len,Ai]) (BR hbig (by decide)) (fun s=>?_) (fun k cs' hk=>⟨cs',hk,.inl rfl⟩) (fun j cs' hj'=>?_) (fun _ h=>h) ?_
   · by_cases h2:s=2
     · subst h2
       right
       simp only [Dn,if_true,frz,and_self,I5,hch,List.map_map]
       rfl
     · left
       simp only [Dn,if_neg h2]
   · simp only at hj'
     cases hs:σ.blk j with
     |none=>rw [hs] at hj';cases hj'
     |some c=>
      rw [hs] at hj'
      exact ⟨(fun e=>by rw [e,hcs.no] at hs;cases hs),cs',hj',.inl rfl⟩
   · refine Run.A1 Lj (σ2:=σ) (hZ hcs.le) ?_
     simp -implicitDefEqProofs only [Ol,I5,go_sem]
     exact hok
end Go.Ab
namespace Go.Ab
end Go.Ab
namespace Go.Ab
def lL (m:Nat) (l:List Str):Prop:=∀s∈l,s.length≤m
mutual
def TE.sh (m:Nat):TE→Prop
 | .mk _ n l=>n.length≤m∧TE.shs m l
def TE.shs (m:Nat):List TE→Prop
 |[]=>True
 |t::l=>t.sh m∧TE.shs m l
end
mutual
def Ex.sh (m:Nat):Ex→Prop
 | .mk _ n _ ns ks al=>n.length≤m∧lL m ns∧Ex.shs m ks∧Al.shs m al
def Ex.shs (m:Nat):List Ex→Prop
 |[]=>True
 |t::l=>t.sh m∧Ex.shs m l
def Al.sh (m:Nat):Al→Prop
 | .mk _ vs b=>lL m vs∧b.sh m
def Al.shs (m:Nat):List Al→Prop
 |[]=>True
 |t::l=>t.sh m∧Al.shs m l
end
def DE.sh (m:Nat) (d:DE):Prop:=lL m d.vars∧∀c∈d.cons,∀t∈c.args,t.sh m
def FE.sh (m:Nat) (f:FE):Prop:=f.name.length≤m∧lL m f.params∧f.body.sh m
def Pg.sh (m:Nat) (p:Pg):Prop:=(∀d∈p.data,d.sh m)∧∀f∈p.MW,f.sh m
mutual
def TE.vn:TE→Prop
 | .mk k n l=>(k=4→n≠[])∧TE.vns l
def TE.vns:List TE→Prop
 |[]=>True
 |t::l=>t.vn∧TE.vns l
end
end Go.Ab
namespace Go.Ab
open Go.Proofs
theorem Kn (n:Nat):DI n=[.int .i64 (n:Int)]:=rfl
theorem iK {a b:Nat} (h:a≠b):((a:Int) != (b:Int))=true:=by rw [TU];simpa using h
theorem mJ {a b:Nat} (h:a=b):((a:Int) != (b:Int))=false:=by rw [TU,h];simp
theorem SU (a b:List Nat) (σ:AF):AM Tryz.prog 29 [.d (.sl (a.map DI)),.d (.sl (b.map DI))] σ (fun v σ'=>v= .d (.bool (a==b))∧σ'=σ):=by
 refine T1 (by simp) ?_
 rw [BY]
 refine Run.slot 0 (fun hb0=>?_)
 simp only [Dn,if_true,AV.FB,AA] at hb0
 by_cases hl:a.length=b.length
 case neg=>
  have hl':((a.length:Int) != (b.length:Int))=true:=iK hl
  have hf:(a==b)=false:=by
   rw [Bv];intro h;rw [beq_iff_eq] at h;exact hl (by rw [h])
  (repeat' (first|refine Run.ct rfl ?_|((first|refine Run.reg mixed ?_|refine Run.AD ?_|refine Run.A1 HJ (AF.le_refl _) ?_)<;>try simp -implicitDefEqProofs only [AA,hl',hf,go_sem])|fail))
 have hl':((a.length:Int) != (b.length:Int))=false:=mJ hl
 (repeat' (first|refine Run.ct rfl ?_|((first|refine Run.reg mixed ?_|refine Run.AD ?_)<;>try simp -implicitDefEqProofs only [AA,hl',go_sem])|fail))
 refine Run.BD ?_
 refine Run.BG ((fun (a0:AV) (a1:AV) (a12:AV)=>fun (i:Nat)=>put 0 a0 (put 1 a1 (put 12 a12 (put 13 (.d (.int .i64 i)) U)))) _ _ _) (fun _=>E) (fun _=>σ) (fun i=>i≤a.length∧a.take i=b.take i) (fun i=>a.length - i) ?_ 0 ⟨by simp,by simp⟩
 rintro i ⟨hi,hno⟩ ih
 by_cases hlt:i < a.length
 · obtain ⟨x,hx⟩:=BC hlt
   obtain ⟨y,hy⟩:=BC (show i < b.length by omega)
   have he:=Ay (enc:=DI) hx
   have he2:=Ay (enc:=DI) hy
   rw [Kn] at he he2
   have hw1:IntKind.i64.wrap ((i:Int)+1)=((i+1:Nat):Int):=by rw [BI (by omega) (by omega)];omega
   by_cases hxy:x=y
   · subst hxy
     have hn:((x:Int) != (x:Int))=false:=by simp
     (repeat' (first|refine Run.ct rfl ?_|((first|refine Run.reg mixed ?_|refine Run.AD ?_)<;>try simp -implicitDefEqProofs only [A8 hlt,he,he2,hw1,hn,AA,go_sem])|fail))
     exact ih (i+1) ⟨by omega,by rw [Aw hx,Aw hy,hno]⟩ (by omega)
   · have hn:((x:Int) != (y:Int))=true:=iK hxy
     have hf:(a==b)=false:=by
      rw [Bv];intro h;rw [beq_iff_eq] at h;rw [h,hy] at hx;cases hx;exact hxy rfl
     (repeat' (first|refine Run.ct rfl ?_|((first|refine Run.reg mixed ?_|refine Run.AD ?_|refine Run.A1 HJ (AF.le_refl _) ?_)<;>try simp -implicitDefEqProofs only [A8 hlt,he,he2,hw1,hn,hf,AA,go_sem])|fail))
 · rw [AH (by omega),AH (by omega)] at hno
   have ht:(a==b)=true:=by rw [beq_iff_eq];exact hno
   (repeat' (first|refine Run.ct rfl ?_|((first|refine Run.reg mixed ?_|refine Run.AD ?_|refine Run.A1 HJ (AF.le_refl _) ?_)<;>try simp -implicitDefEqProofs only [Bd hlt,ht,AA,go_sem])|fail))
def Eb (r:List Nat):List DV:=[.sl (r.map DI)]
theorem OT (l:List (List Nat)):I5 l= .d (.sl (l.map Eb)):=rfl
theorem VM (r:List Nat):Eb r=[.sl (r.map DI)]:=rfl
theorem M5 (a b:List (List Nat)) (σ:AF):AM Tryz.prog 9 [I5 a,I5 b] σ (fun v σ'=>v= .d (.bool (a==b))∧σ'=σ):=by
 refine T2 (by simp) ?_
 rw [BY,OT,OT]
 refine Run.slot 0 (fun hb0=>?_)
 simp only [Dn,if_true,AV.FB,AA] at hb0
 by_cases hl:a.length=b.length
 case neg=>
  have hl':((a.length:Int) != (b.length:Int))=true:=iK hl
  have hf:(a==b)=false:=by
   rw [Bv];intro h;rw [beq_iff_eq] at h;exact hl (by rw [h])
  (repeat' (first|refine Run.ct rfl ?_|((first|refine Run.reg mixed ?_|refine Run.AD ?_|refine Run.A1 HK (AF.le_refl _) ?_)<;>try simp -implicitDefEqProofs only [AA,hl',hf,go_sem])|fail))
 have hl':((a.length:Int) != (b.length:Int))=false:=mJ hl
 (repeat' (first|refine Run.ct rfl ?_|((first|refine Run.reg mixed ?_|refine Run.AD ?_)<;>try simp -implicitDefEqProofs only [AA,hl',go_sem])|fail))
 refine Run.BD ?_
 refine Run.BG ((fun (a0:AV) (a1:AV) (a12:AV)=>fun (i:Nat)=>put 0 a0 (put 1 a1 (put 12 a12 (put 13 (.d (.int .i64 i)) U)))) _ _ _) (fun _=>E) (fun _=>σ) (fun i=>i≤a.length∧a.take i=b.take i) (fun i=>a.length - i) ?_ 0 ⟨by simp,by simp⟩
 rintro i ⟨hi,hno⟩ ih
 by_cases hlt:i < a.length
 · obtain ⟨x,hx⟩:=BC hlt
   obtain ⟨y,hy⟩:=BC (show i < b.length by omega)
   have he:=Ay (enc:=Eb) hx
   have he2:=Ay (enc:=Eb) hy
   rw [VM] at he he2
   have hw1:IntKind.i64.wrap ((i:Int)+1)=((i+1:Nat):Int):=by rw [BI (by omega) (by omega)];omega
   have hc:=SU x y σ
   by_cases hxy:x=y
   · subst hxy
     rw [show (x==x)=true by simp] at hc
     (repeat' (first|refine Run.ct rfl ?_|((first|refine Run.reg mixed ?_|refine Run.AD ?_|refine AJ.det (hc) ?_)<;>try simp -implicitDefEqProofs only [A8 hlt,he,he2,hw1,AA,go_sem])|fail))
     exact ih (i+1) ⟨by omega,by rw [Aw hx,Aw hy,hno]⟩ (by omega)
   · rw [show (x==y)=false by simpa using hxy] at hc
     have hf:(a==b)=false:=by
      rw [Bv];intro h;rw [beq_iff_eq] at h;rw [h,hy] at hx;cases hx;exact hxy rfl
     (repeat' (first|refine Run.ct rfl ?_|((first|refine Run.reg mixed ?_|refine Run.AD ?_|refine Run.A1 HK (AF.le_refl _) ?_|refine AJ.det (hc) ?_)<;>try simp -implicitDefEqProofs only [A8 hlt,he,he2,hw1,hf,AA,go_sem])|fail))
 · rw [AH (by omega),AH (by omega)] at hno
   have ht:(a==b)=true:=by rw [beq_iff_eq];exact hno
   (repeat' (first|refine Run.ct rfl ?_|((first|refine Run.reg mixed ?_|refine Run.AD ?_|refine Run.A1 HK (AF.le_refl _) ?_)<;>try simp -implicitDefEqProofs only [Bd hlt,ht,AA,go_sem])|fail))
end Go.Ab
