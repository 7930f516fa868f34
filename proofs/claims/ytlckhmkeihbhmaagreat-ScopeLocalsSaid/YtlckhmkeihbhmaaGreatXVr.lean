/- Scope: the names of functions in a body. Scope: the flags of a body. Scope: Calls. Renamed programs, in plain data: names. Conditions: none. -/
import Derived.Test.YtlckhmkeihbhmaaGreatXVm
set_option linter.unusedSimpArgs false
set_option linter.unusedVariables false
set_option maxRecDepth 4000
set_option maxHeartbeats 8000000
open List renaming map_cons→AH,map_nil→AM,getElem?_eq_some_iff→AR,take→DS,drop→DR,getElem?_set→B5,mem_cons→BW,ext_getElem?→GL,set_eq_take_append_cons_drop→jN,getElem?_cons_zero→LW,length_map→AA,replicate→AO,replicate_succ→Eu,flatten_cons→Em,mem_of_getElem?→AS,range→BI,filter_append→LJ,length_cons→A5,length_nil→CQ,map_append→CR,mem_cons_self→Ai,mem_cons_of_mem→Ao,drop_length→Ja,length_drop→BZ,nil_append→Au,contains_cons→LI
open Bool renaming and_false→Bg,false_eq_true→AZ,not_false→Eb,and_true→Az,false_and→B2,true_and→BD,or_false→Gg,and_eq_true→AN,or_eq_false_iff→Ix
open Int renaming reduceBEq→AW
open Option renaming isSome_iff_exists→Gi
open Nat renaming mul_one→BQ,le_refl→A0,le_trans→BY
open Ne renaming symm→CO
open Option.some renaming injEq→AJ
open Except.ok renaming injEq→D3
open Prod.mk renaming injEq→B1
namespace Go.Ab
open Go.Proofs
def TV (fs:List FE) (x:Ex×List Str) (fl:List Bool):List Bool:=
 if x.1.op=4&& !x.2.contains x.1.name then (match Cd (Bm fs) x.1.name with|some g=>fl.set g true|none=>fl) else fl
theorem XY (fs:List FE) (x:Ex×List Str) (fl:List Bool):(TV fs x fl).length=fl.length:=by
 unfold TV
 split
 · split<;>simp
 · rfl
theorem aV (ds:List DE) (fs:List FE) (e:Ex) (sc:List Str) (fl:List Bool) (hfl:fl.length=fs.length) (hfs:fs.length≤24) (jm jf jp eM:Nat) (σ:AF) (hm:σ.blk jm=some (B3 fl)) (hf:σ.blk jf=some [.ms jm fl.length 1 eM])
 (hp:σ.blk jp=some [.d (.sl (ds.map DE.enc)),.d (.sl (fs.map FE.enc))]) (hn:e.op=4→e.name≠[]) (hidx:e.op=4→sc.contains e.name=false→(Cd (Bm fs) e.name).isSome=true):
 AK Tryz.prog 31 [exA e,.d (bdL sc),.gp jf 0,.gp jp 0] σ (fun v σ'=>v= .d (.int .i64 0)∧σ'=σ.AQ jm (B3 (TV fs (e,sc) fl))):=by
 obtain ⟨o,n,u,ns,ks,al⟩:=e
 simp only [Ex.op,Ex.name] at hn hidx
 refine Tl (by simp) ?_
 rw [jV,exA,Ex.A3]
 have hfun:=O9 ⟨ds,fs⟩ n σ
 simp only [pgA,Pg.enc,AH,AM] at hfun
 have hid:=Hd hm
 have hT:TV fs (.mk o n u ns ks al,sc) fl=if decide (o=4)&& !sc.contains n then (match Cd (Bm fs) n with|some g=>fl.set g true|none=>fl) else fl:=rfl
 by_cases h4:o=4
 · subst h4
   have hh:=YI sc n (hn rfl) σ
   cases hc:sc.contains n with
   |true=>
    rw [hc] at hh hT
    simp only [Bool.not_true,Bg,AZ,if_false] at hT
    rw [hT,hid]
    (repeat' (first|refine Run.ct rfl ?_|((first|refine Run.reg mixed ?_|refine Run.AD ?_|refine Run.A1 HS (AF.le_refl _) ?_|refine AI.det (hh) ?_)<;>try simp -implicitDefEqProofs only [AW,go_sem])|fail))
   |false=>
    rw [hc] at hh
    obtain ⟨g,hg⟩:=Gi.1 (hidx rfl hc)
    obtain ⟨f,hff,_⟩:=SW hg
    have hgl:g < fl.length:=by rw [hfl];exact (AR.1 hff).1
    rw [hc,hg] at hT
    rw [hg] at hfun
    simp only [Ee,Eb,Az,decide_true,if_true] at hfun hT
    rw [hT]
    (repeat' (first|refine Run.ct rfl ?_|((first|refine Run.reg mixed ?_|refine Run.AD ?_|refine AI.det (hh) ?_|refine AI.det (hfun) ?_)<;>try simp -implicitDefEqProofs only [AW,hf,hp,hm,go_sem])|fail))
    have hixl:((g:Int) < (fl.length:Int))=True:=by simp only [eq_iff_iff,iff_true];omega
    have hbl:(g+1≤(B3 fl).length)=True:=by rw [PR];simp only [eq_iff_iff,iff_true];omega
    have hwr:DS g (B3 fl)++[AV.d (.bool true)]++DR (g+1) (B3 fl)=B3 (fl.set g true):=by
     rw [← RO true hgl];rfl
    refine Run.fC mixed (fun F' L' σ'=>σ'=σ.AQ jm (B3 (fl.set g true))) ?_ ?_
    · simp -implicitDefEqProofs only [hf,hp,hm,go_sem]
      refine ⟨?_,?_⟩
      · skip
        refine AI.mk rfl hfun ?_
        rintro _ _ ⟨rfl,rfl⟩
        simp -implicitDefEqProofs only [hf,hp,hm,hixl,hbl,BQ,hwr,go_sem]
      · skip
        refine AI.mk rfl hfun ?_
        rintro _ _ ⟨rfl,rfl⟩
        simp -implicitDefEqProofs only [hf,hp,hm,hixl,hbl,BQ,hwr,go_sem]
    · rintro F' L' σ' rfl
      (repeat' (first|refine Run.ct rfl ?_|((first|refine Run.reg mixed ?_|refine Run.AD ?_|refine Run.A1 HS (AF.le_refl _) ?_)<;>try simp -implicitDefEqProofs only [go_sem])|fail))
 · have hb:=CA h4
   simp only [h4,decide_false,B2,AZ,if_false] at hT
   rw [hT,hid]
   (repeat' (first|refine Run.ct rfl ?_|((first|refine Run.reg mixed ?_|refine Run.AD ?_|refine Run.A1 HS (AF.le_refl _) ?_)<;>try simp -implicitDefEqProofs only [hb,go_sem])|fail))
end Go.Ab
namespace Go.Ab
open Go.Proofs
theorem aF (σ:AF) {i j:Nat} (h:i≠j) (a b c:List AV):((σ.AQ i a).AQ j b).AQ i c=(σ.AQ i c).AQ j b:=by
 unfold AF.AQ
 simp only [AF.mk.injEq,and_true]
 funext k
 by_cases h1:k=i
 · subst h1;simp [h]
 · simp [h1]
def Qf (fs:List FE):List (Ex×List Str)→List Bool→List Bool
 |[],fl=>fl
 |x::l,fl=>Qf fs l (TV fs x fl)
theorem VB (fs:List FE):∀(l:List (Ex×List Str)) (fl:List Bool),(Qf fs l fl).length=fl.length
 |[],fl=>rfl
 |x::l,fl=>by rw [Qf,VB fs l,XY]
theorem gN (fs:List FE) (x:Ex×List Str) (fl:List Bool) (g:Nat):(TV fs x fl)[g]?=fl[g]?.map (·||Ft fs g x):=by
 unfold TV Ft
 by_cases h:x.1.op=4
 · cases hc:x.2.contains x.1.name with
   |true=>
    simp [h,hc]
   |false=>
    simp only [h,hc,decide_true,Eb,Az,if_true,beq_self_eq_true,BD]
    cases hi:Cd (Bm fs) x.1.name with
    |none=>simp
    |some k=>
     by_cases hk:k=g
     · subst hk
       rw [B5]
       by_cases hl:k < fl.length
       · simp [hl]
       · simp [hl]
     · rw [B5,if_neg hk]
       have hkg:(k==g)=false:=by simpa using hk
       simp [hkg]
 · have hb:=CA h
   simp only [h,decide_false,B2,AZ,if_false,hb,Gg]
   simp
theorem ZS (fs:List FE) (g:Nat):∀(l:List (Ex×List Str)) (fl:List Bool),(Qf fs l fl)[g]?=fl[g]?.map (·||l.any (Ft fs g))
 |[],fl=>by simp [Qf]
 |x::l,fl=>by
  rw [Qf,ZS fs g l,gN]
  cases fl[g]? with
  |none=>rfl
  |some b=>simp [Bool.or_assoc]
abbrev FlS (fs:List FE):= { fl:List Bool // fl.length=fs.length}
def mN (fs:List FE) (s:FlS fs) (x:Ex×List Str):Int×FlS fs:=(0,⟨TV fs x s.1,by rw [XY];exact s.2⟩)
theorem Xj (fs:List FE):∀(l:List (Ex×List Str)) (s:FlS fs),Gr (mN fs) l s=(none,⟨Qf fs l s.1,by rw [VB];exact s.2⟩)
 |[],s=>rfl
 |x::l,s=>by
  rw [Gr]
  have:=Xj fs l (mN fs s x).2
  rw [if_pos (show (mN fs s x).1=0 from rfl),this]
  rfl
theorem ZG (ds:List DE) (fs:List FE) (f:FE) (hsz:f.body.size≤600) (hfs:fs.length≤24) (jm jf jp eM:Nat) (τ:AF) (fl:List Bool) (hfl:fl.length=fs.length) (hm:τ.blk jm=some (B3 fl)) (hf:τ.blk jf=some [.ms jm fl.length 1 eM])
 (hp:τ.blk jp=some [.d (.sl (ds.map DE.enc)),.d (.sl (fs.map FE.enc))]) (hne1:jf≠jm) (hne2:jp≠jm)
 (hx:∀x∈B7 f.body f.params,(x.1.op=4→x.1.name≠[])∧(x.1.op=4→x.2.contains x.1.name=false→(Cd (Bm fs) x.1.name).isSome=true)):
 AK Tryz.prog 30 [feA f,.fn 31 [] [.gp jf 0,.gp jp 0]] τ
  (fun v σ'=>v= .tup [.d (.int .i64 ((f.body.size - 1:Nat):Int)),.d (.int .i64 0)]∧σ'=τ.AQ jm (B3 (Qf fs (B7 f.body f.params) fl))):=by
 have hw:=WR (S:=FlS fs) (mN fs) (fun s=>τ.AQ jm (B3 s.1)) 31 [] [.gp jf 0,.gp jp 0] (by kernel_rfl) rfl rfl f ⟨fl,hfl⟩ (by omega)
  (fun t j hj=>by
    simp only [AP] at hj ⊢
    split
    · rename_i e;rw [if_pos e] at hj;cases hj
    · rename_i e;rwa [if_neg e] at hj)
  (fun j hj x hxm s n=>by
    have hjm:j≠jm:=fun e=>by rw [e,AP,if_pos rfl] at hj;cases hj
    have hj0:τ.blk j=none:=by rw [AP,if_neg hjm] at hj;exact hj
    have hjf:jf≠j:=fun e=>by rw [← e,hf] at hj0;cases hj0
    have hjp:jp≠j:=fun e=>by rw [← e,hp] at hj0;cases hj0
    have:=aV ds fs x.1 x.2 s.1 s.2 hfs jm jf jp eM (WH (fun s:FlS fs=>τ.AQ jm (B3 s.1)) j (.fn 31 [] [.gp jf 0,.gp jp 0]) n s)
     (by simp only [WH,AP,if_neg (CO hjm),if_true]) (by rw [WH,AP,if_neg hjf,AP,if_neg hne1,hf,hfl,s.2]) (by rw [WH,AP,if_neg hjp,AP,if_neg hne2,hp]) (hx x hxm).1 (hx x hxm).2
    refine this.mono (fun v σ' h=>⟨h.1,?_⟩)
    rw [h.2]
    simp only [WH,mN]
    exact aF τ (CO hjm) _ _ _)
 simp only [Hd hm] at hw
 refine hw.mono (fun v σ' h=>?_)
 rw [Xj] at h
 exact h
theorem Ux {fs:List FE} {dt:List Dat}:∀(l:List FE) (i:Nat),(FB fs dt i l).1=0→∀f∈l,EB (EP fs dt) (B7 f.body f.params)=none
 |[],i,_,f,hf=>by simp at hf
 |g::l,i,h,f,hf=>by
  rw [FB] at h
  have hF:Lj fs dt i g=none∧EB (EP fs dt) (B7 g.body g.params)=none:=by
   unfold Lj at h ⊢
   split at h
   · rename_i d hd
     exfalso
     split at hd
     · cases hd;simp at h
     · split at hd
       · rename_i k c hk;cases hd;exact PX hk h
       · cases hd
   · rename_i hd
     split at hd
     · cases hd
     · split at hd
       · cases hd
       · rename_i hk;exact ⟨by rename_i h1 _;rw [if_neg h1],hk⟩
  rw [hF.1] at h
  rcases BW.1 hf with rfl|hf
  · exact hF.2
  · exact Ux l (i+1) h f hf
theorem SU {vis:Ex→List Str→Int}:∀ {l:List (Ex×List Str)},EB vis l=none→∀x∈l,vis x.1 x.2=0
 |[],_,x,hx=>by simp at hx
 |y::l,h,x,hx=>by
  rw [EB] at h
  split at h
  · rename_i h0
    rcases BW.1 hx with rfl|hx
    · exact h0
    · exact SU (by simpa using h) x hx
  · cases h
theorem Qe {p:Pg} (h:(KJ p).1=0):p.Hp.length≤24∧∀f∈p.Hp,f.body.size≤600∧∀x∈B7 f.body f.params,(x.1.op=4→x.1.name≠[])∧(x.1.op=4→x.2.contains x.1.name=false→(Cd (Bm p.Hp) x.1.name).isSome=true):=by
 unfold KJ at h
 cases hd:Jz p with
 |error d=>obtain ⟨c,a,b⟩:=d;rw [hd] at h;exact absurd h (O4 hd)
 |ok dt=>
  rw [hd] at h
  simp only at h
  obtain ⟨hv,_⟩:=JN hd
  obtain ⟨hl,hg⟩:=Iq hv
  refine ⟨hl,fun f hf=>⟨(hg f hf).1,fun x hx=>⟨((hg f hf).2.2 _ x hx).1,fun h4 hc=>?_⟩⟩⟩
  have h0:=SU (Ux _ _ h f hf) x hx
  obtain ⟨⟨o,n,u,ns,ks,al⟩,sc⟩:=x
  simp only [Ex.op,Ex.name] at h4 hc ⊢
  subst h4
  rw [KZ,if_pos rfl,hc] at h0
  cases hi:Cd (Bm p.Hp) n with
  |none=>rw [hi] at h0;simp at h0
  |some k=>rfl
end Go.Ab
namespace Go.Ab
open Go.Proofs
def JY (n:Nat):List DV:=[.int .i64 (n:Int)]
def Kf (l:List (List Nat)):AV:= .d (.sl (l.map fun r=>[.sl (r.map JY)]))
theorem Rk {σ τ:AF} (h:σ.le τ) {i:Nat} {x:Nat×TypeId} (hb:τ.bt i=none):σ.le (τ.DO i x):=
 ⟨h.blk,h.tok,h.gt,fun k y hk=>by
   have:=h.bt k y hk
   show (if k=i then some x else τ.bt k)=some y
   rw [if_neg (fun e=>by rw [e,hb] at this;cases this)];exact this⟩
theorem mA {α:Type} {l:List α} {i:Nat} {x:α} (h:l[i]?=some x):l.set i x=l:=by
 apply GL
 intro k
 rw [B5]
 split
 · rename_i e;subst e;rw [h,if_pos (AR.1 h).1]
 · rfl
theorem wr1 {α:Type} {l:List α} {i:Nat} (x:α) (h:i < l.length):DS i l++[x]++DR (i+1) l=l.set i x:=by
 rw [jN,if_pos h];simp
theorem e8 {r:FE→List (List DV)}:∀ {l:List FE} {cells:List AV},cells.length=l.length→(∀(k:Nat) (f:FE),l[k]?=some f→∃cv,cells[k]?=some cv∧SlV cv (r f))→∃ds,dvs cells=some ds∧chunk 1 l.length ds=l.map fun f=>[DV.sl (r f)]
 |[],[],_,_=>⟨[],rfl,rfl⟩
 |f::l,[],h,_=>by simp at h
 |[],c::cells,h,_=>by simp at h
 |f::l,c::cells,h,hk=>by
  obtain ⟨cv,h1,h2⟩:=hk 0 f rfl
  simp only [LW,AJ] at h1
  subst h1
  obtain ⟨ds,h3,h4⟩:=e8 (r:=r) (l:=l) (cells:=cells) (by simpa using h) (fun k g hg=>hk (k+1) g hg)
  have hcv:=h2.dv
  exact ⟨.sl (r f)::ds,by simp [dvs,hcv,h3],by simp [chunk,h4]⟩
structure CS (σ:AF) (jp jo:Nat) (ds:List DE) (fs:List FE) (cells:List AV) (τ:AF):Prop where
 prog:τ.blk jp=some [.d (.sl (ds.map DE.enc)),.d (.sl (fs.map FE.enc))]
 out:τ.blk jo=some cells
 ne:jo≠jp
 no:σ.blk jo=none
 np:σ.blk jp=none
 le:σ.le τ
 len:cells.length=fs.length
theorem CS.new {σ τ:AF} {jp jo:Nat} {ds:List DE} {fs:List FE} {cells:List AV} (h:CS σ jp jo ds fs cells τ) {j:Nat} (hj:τ.blk j=none) (cs:List AV):CS σ jp jo ds fs cells (τ.AQ j cs):=by
 have h1:jp≠j:=fun e=>by rw [← e,h.prog] at hj;cases hj
 have h2:jo≠j:=fun e=>by rw [← e,h.out] at hj;cases hj
 have h3:σ.blk j=none:=by
  cases hc:σ.blk j with
  |none=>rfl
  |some c=>rw [h.le.blk j c hc] at hj;cases hj
 exact ⟨by rw [AP,if_neg h1];exact h.prog,by rw [AP,if_neg h2];exact h.out,h.ne,h.no,h.np,Dc h.le h3,h.len⟩
theorem Kw (p:Pg) (σ:AF) (h:∀d∈p.data,HT d):AK Tryz.prog 10 [pgA p] σ (fun v σ'=>v=Kf (Ez p)∧σ'=σ):=by
 have hchk:=fun σ=>Kx p σ h
 refine Wh (by simp) ?_
 rw [Bf]
 unfold Ez
 by_cases hc0:(KJ p).1=0
 case neg=>
  rw [if_neg hc0]
  have hne:((KJ p).1 != 0)=true:=by simpa using hc0
  obtain ⟨ds,fs⟩:=p
  simp only [pgA,Pg.enc,AH,AM,dgA] at hchk ⊢
  (repeat' (first|refine Run.ct rfl ?_|((first|refine Run.reg mixed ?_|refine Run.AD ?_)<;>try simp -implicitDefEqProofs only [go_sem])|fail))
  intro jp hjp
  have hle0:=Bp (cs:=[AV.d (.sl (ds.map DE.enc)),.d (.sl (fs.map FE.enc))]) hjp
  (repeat' (first|refine Run.ct rfl ?_|((first|refine Run.reg mixed ?_|refine Run.AD ?_|(refine Run.A1 Ll (σ2:=σ) hle0 ?_)|refine AI.det (hchk _) ?_)<;>try simp -implicitDefEqProofs only [hne,go_sem])|fail))
  rfl
 rw [if_pos hc0]
 have hne:((KJ p).1 != 0)=false:=by simpa using hc0
 obtain ⟨ds,fs⟩:=p
 simp only [pgA,Pg.enc,AH,AM,dgA] at hchk ⊢
 (repeat' (first|refine Run.ct rfl ?_|((first|refine Run.reg mixed ?_|refine Run.AD ?_)<;>try simp -implicitDefEqProofs only [go_sem])|fail))
 intro jp hjp
 have hle0:=Bp (cs:=[AV.d (.sl (ds.map DE.enc)),.d (.sl (fs.map FE.enc))]) hjp
 (repeat' (first|refine Run.ct rfl ?_|((first|refine Run.reg mixed ?_|refine Run.AD ?_|refine AI.det (hchk _) ?_)<;>try simp -implicitDefEqProofs only [hne,AA,go_sem])|fail))
 obtain ⟨hbig,hfacts⟩:=Qe hc0
 simp only at hbig hfacts
 generalize hQ:(fun (v:AV) (σ':AF)=>v=Kf (fs.map (MT fs))∧σ'=σ)=Q
 have hok:Q (Kf (fs.map (MT fs))) σ:=by rw [← hQ];exact ⟨rfl,rfl⟩
 clear hQ
 refine UZ.mk (n:=fs.length) (by omega) (by omega) (fun jo hjo=>?_)
 have hne0:jo≠jp:=fun e=>by rw [e,AP,if_pos rfl] at hjo;cases hjo
 have hjo':σ.blk jo=none:=by rw [AP,if_neg hne0] at hjo;exact hjo
 have hflat:(AO fs.length [AV.AU]).flatten=AO fs.length AV.AU:=by
  induction fs.length with
  |zero=>rfl
  |succ n ih=>rw [Eu,Em,ih];rfl
 rw [hflat]
 have hcs0:CS σ jp jo ds fs (AO fs.length AV.AU) ((σ.AQ jp [AV.d (.sl (ds.map DE.enc)),.d (.sl (fs.map FE.enc))]).AQ jo (AO fs.length AV.AU)):=
  ⟨by rw [AP,if_neg (CO hne0),AP,if_pos rfl],by rw [AP,if_pos rfl],hne0,hjo',hjp,Dc hle0 hjo',by simp⟩
 generalize (σ.AQ jp [AV.d (.sl (ds.map DE.enc)),.d (.sl (fs.map FE.enc))]).AQ jo (AO fs.length AV.AU)=τ0 at hcs0
 have hp0:=hcs0.prog
 (repeat' (first|refine Run.ct rfl ?_|((first|refine Run.reg mixed ?_|refine Run.AD ?_)<;>try simp -implicitDefEqProofs only [hp0,AA,go_sem])|fail))
 refine Run.Ay ?_
 refine Run.BB ((fun (a1:AV) (a3:AV) (a18:AV) (a19:AV)=>fun (y:Nat×List AV×AF)=>put 1 a1 (put 3 a3 (put 18 a18 (put 19 a19 (put 20 (.d (.int .i64 y.1)) U))))) _ _ _ _) (fun _=>E) (fun y=>y.2.2)
  (fun y=>y.1≤fs.length∧CS σ jp jo ds fs y.2.1 y.2.2∧(∀k f,k < y.1→fs[k]?=some f→∃cv,y.2.1[k]?=some cv∧SlV cv ((MT fs f).map JY))∧∀k,y.1≤k→k < fs.length→y.2.1[k]?=some .AU)
  (fun y=>fs.length - y.1) ?_ (0,AO fs.length AV.AU,τ0) ⟨by simp,hcs0,fun k f hk=>by simp only at hk;omega,fun k _ hk=>by simp [hk]⟩
 rintro ⟨i,cells,τ⟩ ⟨hi,hcs,hdone,hrest⟩ ih
 simp only at hi hcs hdone hrest
 by_cases hlt:i < fs.length
 · obtain ⟨f,hf⟩:=Aw hlt
   have he:=Aq (enc:=FE.enc) hf
   have hw1:=A7 (show i+1≤9000000000000000000 by omega)
   obtain ⟨hsz,hx⟩:=hfacts f (AS hf)
   have hp1:=hcs.prog
   obtain ⟨nm,ps,o,n,u,ns,ks,al⟩:=f
   simp only [FE.enc,Ex.A3,AH,AM] at he
   (repeat' (first|refine Run.ct rfl ?_|((first|refine Run.reg mixed ?_|refine Run.AD ?_|(refine UZ.mk (n:=fs.length) (by omega) (by omega) (fun jm hjm=>?_)))<;>try simp -implicitDefEqProofs only [A8 hlt,he,hp1,AA,go_sem])|fail))
   rw [PS]
   have hcs1:=hcs.new hjm (B3 (AO fs.length false))
   rintro jf ⟨hjf,hjb⟩
   have hj0:(τ.AQ jm (B3 (AO fs.length false))).blk jf=none:=by rw [AP];exact hjf
   have hbm:(τ.AQ jm (B3 (AO fs.length false))).blk jm=some (B3 (AO fs.length false)):=by rw [AP,if_pos rfl]
   generalize τ.AQ jm (B3 (AO fs.length false))=τ1 at hcs1 hbm hj0 hjb ⊢
   have hfm:jm≠jf:=fun e=>by rw [← e,hbm] at hj0;cases hj0
   have hfp:jp≠jf:=fun e=>by rw [← e,hcs1.prog] at hj0;cases hj0
   have hfo:jo≠jf:=fun e=>by rw [← e,hcs1.out] at hj0;cases hj0
   have hsb:∀(τ:AF) (i:Nat) (x:Nat×TypeId) (j:Nat),(τ.DO i x).blk j=τ.blk j:=fun _ _ _ _=>rfl
   simp -implicitDefEqProofs only [hsb,go_sem]
   have hm0:σ.blk jm=none:=by
    cases hc:σ.blk jm with
    |none=>rfl
    |some c=>rw [hcs.le.blk jm c hc] at hjm;cases hjm
   have hf0:σ.blk jf=none:=by
    cases hc:σ.blk jf with
    |none=>rfl
    |some c=>rw [hcs1.le.blk jf c hc] at hj0;cases hj0
   have hmp:jp≠jm:=fun e=>by rw [← e,hcs.prog] at hjm;cases hjm
   have hmo:jo≠jm:=fun e=>by rw [← e,hcs.out] at hjm;cases hjm
   have hcs2:CS σ jp jo ds fs cells (((τ1.AQ jf [AV.AU]).DO jf (1,78)).AQ jf [AV.ms jm fs.length 1 4]):=
    ⟨by rw [AP,if_neg hfp,hsb,AP,if_neg hfp];exact hcs1.prog,by rw [AP,if_neg hfo,hsb,AP,if_neg hfo];exact hcs1.out,hcs1.ne,hcs1.no,hcs1.np,Dc (Rk (Dc hcs1.le hf0) hjb) hf0,hcs1.len⟩
   have hbm2:(((τ1.AQ jf [AV.AU]).DO jf (1,78)).AQ jf [AV.ms jm fs.length 1 4]).blk jm=some (B3 (AO fs.length false)):=by rw [AP,if_neg hfm,hsb,AP,if_neg hfm];exact hbm
   have hbf2:(((τ1.AQ jf [AV.AU]).DO jf (1,78)).AQ jf [AV.ms jm fs.length 1 4]).blk jf=some [AV.ms jm fs.length 1 4]:=by rw [AP,if_pos rfl]
   generalize ((τ1.AQ jf [AV.AU]).DO jf (1,78)).AQ jf [AV.ms jm fs.length 1 4]=τ2 at hcs2 hbm2 hbf2
   have hcb:=ZG ds fs ⟨nm,ps,.mk o n u ns ks al⟩ hsz hbig jm jf jp 4 τ2 (AO fs.length false) (by simp) hbm2 (by rw [List.length_replicate];exact hbf2) hcs2.prog (CO hfm) hmp hx
   have hcs3:CS σ jp jo ds fs cells (τ2.AQ jm (B3 (Qf fs (B7 (.mk o n u ns ks al) ps) (AO fs.length false)))):=
    ⟨by rw [AP,if_neg hmp];exact hcs2.prog,by rw [AP,if_neg hmo];exact hcs2.out,hcs2.ne,hcs2.no,hcs2.np,Dc hcs2.le hm0,hcs2.len⟩
   have hbf3:(τ2.AQ jm (B3 (Qf fs (B7 (.mk o n u ns ks al) ps) (AO fs.length false)))).blk jf=some [AV.ms jm fs.length 1 4]:=by rw [AP,if_neg (CO hfm)];exact hbf2
   have hbm3:(τ2.AQ jm (B3 (Qf fs (B7 (.mk o n u ns ks al) ps) (AO fs.length false)))).blk jm=some (B3 (Qf fs (B7 (.mk o n u ns ks al) ps) (AO fs.length false))):=by rw [AP,if_pos rfl]
   simp only at hcb
   have hfg:∀g,g < fs.length→(Qf fs (B7 (.mk o n u ns ks al) ps) (AO fs.length false))[g]?=some ((B7 (.mk o n u ns ks al) ps).any (Ft fs g)):=fun g hg=>by
    rw [ZS];simp [hg]
   have hfln:(Qf fs (B7 (.mk o n u ns ks al) ps) (AO fs.length false)).length=fs.length:=by rw [VB];simp
   generalize Qf fs (B7 (.mk o n u ns ks al) ps) (AO fs.length false)=fin at hcb hcs3 hbf3 hbm3 hfg hfln
   generalize τ2.AQ jm (B3 fin)=τ3 at hcb hcs3 hbf3 hbm3
   simp only [feA,FE.enc,Ex.A3,AH,AM] at hcb
   (repeat' (first|refine Run.ct rfl ?_|((first|refine Run.reg mixed ?_|refine Run.AD ?_|(refine AI.mk rfl hcb ?_;rintro _ τ3 ⟨rfl,rfl⟩))<;>try simp -implicitDefEqProofs only [hbf3,hfln,go_sem])|fail))
   refine Run.Ay ?_
   have hci:=hrest i (A0 _) hlt
   have hcl:=hcs.len
   refine Run.BB ((fun (a1:AV) (a3:AV) (a4:AV) (a18:AV) (a19:AV) (a20:AV) (a32:AV) (a33:AV)=>fun (z:Nat×AV×AF)=>put 1 a1 (put 3 a3 (put 4 a4 (put 18 a18 (put 19 a19 (put 20 a20 (put 32 a32 (put 33 a33 (put 34 (.d (.int .i64 z.1)) U))))))))) _ _ _ _ _ _ _ _) (fun _=>E) (fun z=>z.2.2)
    (fun z=>z.1≤fs.length∧CS σ jp jo ds fs (cells.set i z.2.1) z.2.2∧z.2.2.blk jm=some (B3 fin)∧Cl σ 3 1 (((BI z.1).filter fun g=>(B7 (.mk o n u ns ks al) ps).any (Ft fs g)).map JY) z.2.1 z.2.2)
    (fun z=>fs.length - z.1) ?_ (0,.AU,τ3) ⟨by simp,by rw [show cells.set i .AU=cells from mA hci];exact hcs3,hbm3,⟨⟨τ3,rfl,hcs3.le⟩,hcs3.le,rfl,rfl,rfl,rfl,fun _=>rfl,rfl,rfl⟩⟩
   rintro ⟨g,cv,τ4⟩ ⟨hg,hcs4,hbm4,hown⟩ ih2
   simp only at hg hcs4 hbm4 hown
   by_cases hgl:g < fs.length
   · have hbg:=Ev (hfg g hgl)
     have hwg:=A7 (show g+1≤9000000000000000000 by omega)
     have ho4:=hcs4.out
     have hgi:(cells.set i cv)[i]?=some cv:=by rw [B5];simp;omega
     have hll:((i:Int) < (fs.length:Int))=True:=by simp only [eq_iff_iff,iff_true];omega
     have hll2:((g:Int) < (fs.length:Int))=True:=by simp only [eq_iff_iff,iff_true];omega
     cases hb:(B7 (.mk o n u ns ks al) ps).any (Ft fs g) with
     |false=>
      rw [hb] at hbg
      have hrg:(BI (g+1)).filter (fun g=>(B7 (.mk o n u ns ks al) ps).any (Ft fs g))=(BI g).filter (fun g=>(B7 (.mk o n u ns ks al) ps).any (Ft fs g)):=by
       rw [List.range_succ,LJ];simp [hb]
      (repeat' (first|refine Run.ct rfl ?_|((first|refine Run.reg mixed ?_|refine Run.AD ?_)<;>try simp -implicitDefEqProofs only [A8 hgl,hbm4,hbg,hwg,hll2,BQ,go_sem])|fail))
      exact ih2 (g+1,cv,τ4) ⟨by simp only;omega,hcs4,hbm4,by simp only [hrg];exact hown⟩ (by simp only;omega)
     |true=>
      rw [hb] at hbg
      have hrg:(BI (g+1)).filter (fun g=>(B7 (.mk o n u ns ks al) ps).any (Ft fs g))=(BI g).filter (fun g=>(B7 (.mk o n u ns ks al) ps).any (Ft fs g))++[g]:=by
       rw [List.range_succ,LJ];simp [hb]
      have hlenR:(((BI g).filter fun g=>(B7 (.mk o n u ns ks al) ps).any (Ft fs g)).map JY).length≤1000:=by
       have:=List.length_filter_le (fun g=>(B7 (.mk o n u ns ks al) ps).any (Ft fs g)) (BI g)
       rw [List.length_range] at this
       rw [AA];omega
      have hset:∀v2,DS i (cells.set i cv)++[v2]++DR (i+1) (cells.set i cv)=cells.set i v2:=fun v2=>by
       rw [wr1 _ (by rw [List.length_set];omega),List.set_set]
      have hlen1:(i+1≤(cells.set i cv).length)=True:=by simp;omega
      (repeat' (first|refine Run.ct rfl ?_|((first|refine Run.reg mixed ?_|refine Run.AD ?_|(refine Dh.own hown rfl (by simp) (by simp only [A5,CQ];omega) (by decide) (fun v2 σ2 ho2 hbk=>?_)))<;>try simp -implicitDefEqProofs only [A8 hgl,hbm4,hbg,hwg,hll2,BQ,ho4,hll,hgi,hown.cell,go_sem])|fail))
      have hb2:=(hbk jo).trans ho4
      have hbm5:=(hbk jm).trans hbm4
      have hp5:=(hbk jp).trans hcs4.prog
      simp -implicitDefEqProofs only [hll,hb2,ho2.cell,ho2.cells,hlen1,hset,BQ,go_sem]
      (repeat' (first|refine Run.ct rfl ?_|((first|refine Run.reg mixed ?_|refine Run.AD ?_)<;>try simp -implicitDefEqProofs only [hwg,go_sem])|fail))
      have ho3:=ho2.set hcs4.no (cells.set i v2)
      exact ih2 (g+1,v2,σ2.AQ jo (cells.set i v2)) ⟨by simp only;omega,⟨by rw [AP,if_neg (CO hcs4.ne)];exact hp5,by rw [AP,if_pos rfl],hcs4.ne,hcs4.no,hcs4.np,ho3.le,by simp [hcl]⟩,by rw [AP,if_neg (CO hmo)];exact hbm5,by simp only [hrg,CR];exact ho3⟩ (by simp only;omega)
   · have hgn:g=fs.length:=by omega
     subst hgn
     (repeat' (first|refine Run.ct rfl ?_|((first|refine Run.reg mixed ?_|refine Run.AD ?_)<;>try simp -implicitDefEqProofs only [B8 hgl,hw1,go_sem])|fail))
     refine ih (i+1,cells.set i cv,τ4) ⟨by simp only;omega,hcs4,fun k f hk hfk=>?_,fun k hk hkl=>?_⟩ (by simp only;omega)
     · simp only at hk ⊢
       by_cases hki:k=i
       · subst hki
         rw [hf] at hfk;cases hfk
         exact ⟨cv,by rw [B5];simp;omega,hown.slv⟩
       · rw [B5,if_neg (fun e=>hki e.symm)]
         exact hdone k f (by omega) hfk
     · simp only at hk ⊢
       rw [B5,if_neg (by omega)]
       exact hrest k (by omega) hkl
 · have hin:i=fs.length:=by omega
   subst hin
   obtain ⟨dvl,hdv,hch⟩:=e8 (r:=fun f=>(MT fs f).map JY) hcs.len (fun k f hk=>hdone k f (AR.1 hk).1 hk)
   (repeat' (first|refine Run.ct rfl ?_|((first|refine Run.reg mixed ?_|refine Run.AD ?_)<;>try simp -implicitDefEqProofs only [B8 hlt,go_sem])|fail))
   refine Run.freeze (F':=put 2 (Kf (fs.map (MT fs))) U) (σ':= { τ with blk:=fun j=>if (σ.blk j).isSome then τ.blk j else none}) hcs.out hdv (by rw [hcs.len,BQ]) (BY hbig (by decide)) (fun s=>?_) (fun k cs' hk=>⟨cs',hk,.inl rfl⟩) (fun j cs' hj'=>?_) (fun _ h=>h) ?_
   · by_cases h2:s=2
     · subst h2
       right
       simp only [CZ,if_true,frz,and_self,Kf,hch,List.map_map]
       rfl
     · left
       simp only [CZ,if_neg h2]
   · simp only at hj'
     cases hs:σ.blk j with
     |none=>rw [hs] at hj';cases hj'
     |some c=>
      rw [hs] at hj'
      exact ⟨(fun e=>by rw [e,hcs.no] at hs;cases hs),cs',hj',.inl rfl⟩
   · refine Run.A1 Ll (σ2:=σ) (k5 hcs.le) ?_
     simp -implicitDefEqProofs only [PA,Kf,go_sem]
     exact hok
end Go.Ab
namespace Go.Ab
def lF (s:Str):Prop:=∃b r,s=b::r∧Sc b.toNat=true∧(∀x∈s,EE H2 x=true)∧s.length≤24∧YY s=false
theorem Q2 {α:Type} {p:α→Bool}:∀ {l:List α},(∀x∈l,p x=true)→l.takeWhile p=l
 |[],_=>rfl
 |x::l,h=>by
  rw [List.takeWhile_cons,h x (Ai ..),if_pos rfl,Q2 (fun y hy=>h y (Ao _ hy))]
theorem takeWhile_eq {α:Type} {p:α→Bool}:∀ {l:List α},l.takeWhile p=l→∀x∈l,p x=true
 |[],_,x,hx=>by cases hx
 |y::l,h,x,hx=>by
  rw [List.takeWhile_cons] at h
  split at h
  · rename_i hy
    rcases BW.1 hx with rfl|hx
    · exact hy
    · exact takeWhile_eq (by simpa using h) x hx
  · cases h
theorem hY {b:UInt8} (h:Sc b.toNat=true):Xx b.toNat=false∧(b==35)=false∧SA b.toNat=false:=by
 simp only [Sc,AN,decide_eq_true_eq] at h
 refine ⟨?_,?_,?_⟩
 · simp only [Xx,Ix]
   refine ⟨⟨⟨?_,?_⟩,?_⟩,?_⟩<;>(apply CA;omega)
 · cases hb:(b==35) with
   |false=>rfl
   |true=>
    rw [beq_iff_eq] at hb;subst hb
    have:=h.1
    exact absurd this (by decide)
 · simp only [SA,Bool.and_eq_false_iff,decide_eq_false_iff_not];omega
theorem n9 {s:Str} (h:lF s):Cv s=true:=by
 obtain ⟨b,r,rfl,hl,hw,hn,hk⟩:=h
 obtain ⟨h1,h2,h3⟩:=hY hl
 have hsc:GH (b::r)= .ok (1,b::r):=by
  rw [GH,Q2 hw,hl,h3,hk,decide_eq_false (by omega)]
  rfl
 have hsp:FH (b::r)=([⟨1,b::r,0⟩,⟨6,[],0+(b::r).length⟩],0,0):=by
  rw [FH,if_neg (by omega),GK]
  simp only [h1,h2,hsc,AZ,if_false]
  rw [Ja]
  rw [show (b::r).length=r.length+1 from rfl,GK]
  rfl
 rw [Cv,GJ,hsp]
 simp
theorem Mi:∀(n:Nat) (rest:Str) (i:Nat) (acc:List Tok),(GK n rest i acc).2.2=0→(GK n rest i acc).1=[]∨∃tl,(GK n rest i acc).1=acc++tl∧∀t∈tl,t.text.length≤rest.length
 |0,rest,i,acc,_=>.inl rfl
 |n+1,[],i,acc,_=>.inr ⟨[⟨6,[],i⟩],rfl,fun t ht=>by simp at ht;simp [ht]⟩
 |n+1,b::r,i,acc,h=>by
  rw [GK] at h ⊢
  split at h
  · rename_i hb
    rw [if_pos hb]
    rcases Mi n r (i+1) acc h with h|⟨tl,h1,h2⟩
    · exact .inl h
    · exact .inr ⟨tl,h1,fun t ht=>by have:=h2 t ht;simp only [A5];omega⟩
  · rename_i hb
    rw [if_neg hb]
    split at h
    · rename_i hc
      rw [if_pos hc]
      rcases Mi n _ _ acc h with h|⟨tl,h1,h2⟩
      · exact .inl h
      · exact .inr ⟨tl,h1,fun t ht=>by have:=h2 t ht;rw [BZ] at this;omega⟩
    · rename_i hc
      rw [if_neg hc]
      cases hs:GH (b::r) with
      |error e=>
       rw [hs] at h
       simp only at h
       rcases WA hs with rfl|rfl<;>cases h
      |ok x=>
       obtain ⟨k,t⟩:=x
       rw [hs] at h
       simp only at h ⊢
       rcases Mi n _ _ _ h with h|⟨tl,h1,h2⟩
       · exact .inl h
       · refine .inr ⟨⟨k,t,i⟩::tl,by rw [h1];simp,fun u hu=>?_⟩
         rcases BW.1 hu with rfl|hu
         · exact (WB hs).2
         · have:=h2 u hu;rw [BZ] at this;omega
theorem lG {s:Str} (h:Cv s=true):lF s:=by
 rw [Cv,GJ] at h
 simp only [AN,beq_iff_eq] at h
 obtain ⟨h0,h1,h2⟩:=h
 rw [FH] at h0 h1 h2
 split at h0
 · cases h0
 · rename_i hle
   rw [if_neg hle] at h1 h2
   match s,h0,h1,h2 with
   |[],_,h1,_=>simp [GK] at h1
   |b::r,h0,h1,h2=>
    rw [show (b::r).length+1=(r.length+1)+1 from rfl] at h0 h1 h2
    rw [GK] at h0 h1 h2
    have hsm:∀(n:Nat) (rest:Str) (i:Nat),rest.length < (b::r).length→(GK n rest i []).2.2=0→(GK n rest i []).1.length=2→(match (GK n rest i []).1 with|[]=>false|a::_=>decide (a.kind=1)&&decide (a.text=b::r))=true→False:=by
     intro n rest i hlt g0 g1 g2
     rcases Mi n rest i [] g0 with h|⟨tl,h,hm⟩
     · rw [h] at g1;cases g1
     · rw [h,Au] at g1 g2
       cases tl with
       |nil=>cases g1
       |cons a tl=>
        simp only [AN,decide_eq_true_eq] at g2
        have:=hm a (Ai ..)
        rw [g2.2] at this
        omega
    have hcv:∀(l:List Tok),(match l with|[]=>false|a::_=>a.kind==1&&a.text==b::r)=true→(match l with|[]=>false|a::_=>decide (a.kind=1)&&decide (a.text=b::r))=true:=by
     intro l hl
     cases l with
     |nil=>cases hl
     |cons a l=>simpa using hl
    split at h0
    · rename_i hb
      rw [if_pos hb] at h1 h2
      exact (hsm _ _ _ (by simp) h0 h1 (hcv _ h2)).elim
    · rename_i hb
      rw [if_neg hb] at h1 h2
      split at h0
      · rename_i hc
        rw [if_pos hc] at h1 h2
        refine (hsm _ _ _ ?_ h0 h1 (hcv _ h2)).elim
        rw [beq_iff_eq] at hc
        subst hc
        have:1≤cmt (35::r):=by simp [cmt]
        rw [BZ];simp only [A5];omega
      · rename_i hc
        rw [if_neg hc] at h1 h2
        cases hs:GH (b::r) with
        |error e=>
         rw [hs] at h0
         rcases WA hs with rfl|rfl<;>cases h0
        |ok x=>
         obtain ⟨k,t⟩:=x
         rw [hs] at h0 h1 h2
         rcases Mi _ _ _ _ h0 with h|⟨tl,h,hm⟩
         · rw [h] at h1;cases h1
         · rw [h] at h2
           replace h2:(k==1&&t==b::r)=true:=h2
           rw [AN,beq_iff_eq,beq_iff_eq] at h2
           obtain ⟨rfl,rfl⟩:=h2
           rw [GH] at hs
           split at hs
           · rename_i hlu
             split at hs
             · cases hs
             · rename_i hlen
               split at hs
               · cases hs
               · rename_i hup
                 split at hs
                 · cases hs
                 · rename_i hkey
                   simp only [D3,B1,true_and] at hs
                   rw [hs] at hlen hkey
                   refine ⟨b,r,rfl,?_,takeWhile_eq hs,by simpa using hlen,by simpa using hkey⟩
                   rw [Bool.not_eq_true] at hup
                   rw [hup,Gg] at hlu
                   exact hlu
           · split at hs
             · split at hs
               · cases hs
               · split at hs<;>cases hs
             · split at hs<;>cases hs
theorem NF {f:Str→Str} (hf:∀a b,(f a==f b)=(a==b)) (s:Str):∀l:List Str,(l.map f).contains (f s)=l.contains s
 |[]=>rfl
 |x::l=>by rw [AH,LI,LI,hf,NF hf s l]
theorem N4 {f:Str→Str} (hf:∀a b,(f a==f b)=(a==b)) (he:∀a,(f a==[])=(a==[])):∀l:List Str,Bo (l.map f)=Bo l
 |[]=>rfl
 |x::l=>by rw [AH,Bo,Bo,he,NF hf,N4 hf he l]
end Go.Ab
