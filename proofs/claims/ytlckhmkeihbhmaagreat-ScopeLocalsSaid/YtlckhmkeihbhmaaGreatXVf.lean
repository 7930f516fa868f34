/- Scope: what is looked at in a node. Scope: the resolver's rows. Scope: types of declarations resolved. Conditions: none. -/
import Derived.Test.YtlckhmkeihbhmaaGreatXVc
set_option linter.unusedSimpArgs false
set_option linter.unusedVariables false
set_option maxRecDepth 4000
set_option maxHeartbeats 8000000
open Option renaming map_eq_some_iff→AE
open List renaming getElem?_map→Ad,map_cons→AH,map_nil→AM,length_map→AA,length_cons→A5,getElem?_eq_some_iff→AR,getElem?_take→BM,getElem?_drop→BL,mem_of_getElem?→AS,take_of_length_le→AG,all_cons→BT,all_nil→Cw,drop_of_length_le→MC,nil_append→Au,cons_append→Ac,mem_cons_self→Ai,mem_cons_of_mem→Ao,take_append_drop→A4,getD_eq_getElem?_getD→Bq
open Int renaming reduceBEq→AW,reduceToNat→D4
open Bool renaming not_false→Eb,and_true→Az,and_self→K5,and_eq_true→AN,not_not→J7,and_false→Bg,eq_iff_iff→Af
open Except.ok renaming injEq→D3
open Except renaming map→CU
namespace Go.Ab
open Go.Proofs
def QW (e:Ex):Prop:=(e.op=4→e.name≠[])∧(e.op=12→∃h t,e.kids=h::t∧(h.op=4→h.name≠[]))∧e.alts.length≤1000000∧e.kids.length≤1000000
theorem eR (o:Option Nat):decide (Ee o < 0)=o.isNone:=by
 cases o with
 |none=>rfl
 |some i=>exact decide_eq_false (by simp only [Ee];omega)
theorem P0 {s:Str}:∀ {l:List Str} {i:Nat},Cd l s=some i→l[i]?=some s
 |[],i,h=>by simp [Cd] at h
 |x::l,i,h=>by
  rw [Cd] at h
  split at h
  · rename_i hx
    cases h
    simpa using hx
  · simp only [AE] at h
    obtain ⟨k,hk,rfl⟩:=h
    simpa using P0 hk
theorem SW {fs:List FE} {s:Str} {i:Nat} (h:Cd (Bm fs) s=some i):∃g,fs[i]?=some g∧g.name=s:=by
 have:=P0 h
 rw [Bm,Ad,AE] at this
 exact this
theorem Wr:((0:Int)≤0)=True:=by simp
theorem KZ (fs:List FE) (dt:List Dat) (o:Int) (n:Str) (u:Int) (ns:List Str) (ks:List Ex) (al:List Al) (sc:List Str):EP fs dt (.mk o n u ns ks al) sc=
 if o=4 then (if !sc.contains n&&(Cd (Bm fs) n).isNone then 3 else 0)
                                       else if o=6 then
  match Ib dt n with
  |none=>3
  |some x=>if ks.length≠arity dt x then 5 else 0
            else if o=8∨o=11 then (if Bo ns then 4 else 0)
            else if o=10 then Js dt al
            else if o=12 then
  match ks.head? with
  |none=>0
  |some h=>if h.op=4&& !sc.contains h.name then
   (match Cd (Bm fs) h.name with
   |none=>0
   |some f=>match fs[f]? with
    |some g=>if g.params.length+1≠ks.length then 5 else 0
    |none=>0) else 0
            else 0:=rfl
theorem mP (ds:List DE) (fs:List FE) (dt:List Dat) (hdt:RJ dt) (e:Ex) (sc:List Str) (hg:QW e) (σ:AF):
 AK Tryz.prog 46 [.agg [.d (.sl (ds.map DE.enc)),.d (.sl (fs.map FE.enc)),.d (.sl (dt.map Dat.enc))],exA e,.d (bdL sc)] σ (fun v σ'=>v= .d (.int .i64 (EP fs dt e sc))∧σ'=σ):=by
 obtain ⟨o,n,u,ns,ks,al⟩:=e
 obtain ⟨hg4,hg12,hgal,hgk⟩:=hg
 simp only [Ex.op,Ex.name,Ex.kids,Ex.alts] at hg4 hg12 hgal hgk
 refine Ny (by simp) ?_
 rw [K7,exA,Ex.A3]
 have hfun:=fun s=>O9 ⟨ds,fs⟩ s σ
 simp only [pgA,Pg.enc,AH,AM] at hfun
 have hctr:=ON dt hdt n σ
 rw [dsA] at hctr
 by_cases h4:o=4
 · subst h4
   have hv:EP fs dt (.mk 4 n u ns ks al) sc=if !sc.contains n&&(Cd (Bm fs) n).isNone then 3 else 0:=by
    rw [KZ,if_pos rfl]
   have hh:=YI sc n (hg4 rfl) σ
   have hf:=hfun n
   cases h1:sc.contains n with
   |true=>
    rw [h1] at hh
    (repeat' (first|refine Run.ct rfl ?_|((first|refine Run.reg mixed ?_|refine Run.AD ?_|refine Run.A1 Ap (AF.le_refl _) ?_|refine AI.det (hh) ?_)<;>try simp -implicitDefEqProofs only [AW,go_sem])|fail))
    rw [hv,h1];rfl
   |false=>
    rw [h1] at hh
    cases h2:(Cd (Bm fs) n).isNone with
    |true=>
     (repeat' (first|refine Run.ct rfl ?_|((first|refine Run.reg mixed ?_|refine Run.AD ?_|refine Run.A1 Ap (AF.le_refl _) ?_|refine AI.det (hh) ?_|refine AI.det (hf) ?_)<;>try simp -implicitDefEqProofs only [AW,eR,h2,go_sem])|fail))
     rw [hv,h1,h2];rfl
    |false=>
     (repeat' (first|refine Run.ct rfl ?_|((first|refine Run.reg mixed ?_|refine Run.AD ?_|refine Run.A1 Ap (AF.le_refl _) ?_|refine AI.det (hh) ?_|refine AI.det (hf) ?_)<;>try simp -implicitDefEqProofs only [AW,eR,h2,go_sem])|fail))
     rw [hv,h1,h2];rfl
 by_cases h6:o=6
 · subst h6
   have hv:EP fs dt (.mk 6 n u ns ks al) sc=match Ib dt n with|none=>3|some x=>if ks.length≠arity dt x then 5 else 0:=by
    rw [KZ,if_neg (show ¬(6:Int)=4 by decide),if_pos rfl]
    all_goals rfl
   cases hc:Ib dt n with
   |none=>
    rw [hc] at hctr hv
    simp only [SP] at hctr
    (repeat' (first|refine Run.ct rfl ?_|((first|refine Run.reg mixed ?_|refine Run.AD ?_|refine Run.A1 Ap (AF.le_refl _) ?_|refine AI.det (hctr) ?_)<;>try simp -implicitDefEqProofs only [AW,go_sem])|fail))
    rw [hv]
   |some x=>
    rw [hc] at hctr hv
    simp only [SP] at hctr
    obtain ⟨d,cc,h1,h2,_⟩:=K1 hc
    have har:=NG (s:=[]) h1 h2
    have hd:=NH h1
    have hcc:=ND h2
    have hb:=Ta ks.length cc.args.length
    cases hne:(ks.length != cc.args.length) with
    |true=>
     rw [hne] at hb
     (repeat' (first|refine Run.ct rfl ?_|((first|refine Run.reg mixed ?_|refine Run.AD ?_|refine Run.A1 Ap (AF.le_refl _) ?_|refine AI.det (hctr) ?_)<;>try simp -implicitDefEqProofs only [AW,hd,hcc,AA,EF,hb,go_sem])|fail))
     rw [hv];simp only
     rw [if_pos (by rw [har];simpa using hne)]
    |false=>
     rw [hne] at hb
     (repeat' (first|refine Run.ct rfl ?_|((first|refine Run.reg mixed ?_|refine Run.AD ?_|refine Run.A1 Ap (AF.le_refl _) ?_|refine AI.det (hctr) ?_)<;>try simp -implicitDefEqProofs only [AW,hd,hcc,AA,EF,hb,go_sem])|fail))
     rw [hv];simp only
     rw [if_neg (by rw [har];simpa using hne)]
 by_cases h8:o=8∨o=11
 · have hv:EP fs dt (.mk o n u ns ks al) sc=if Bo ns then 4 else 0:=by
    rw [KZ,if_neg (show ¬o=4 from h4),if_neg (show ¬o=6 from h6),if_pos (show o=8∨o=11 from h8)]
    all_goals rfl
   have hrep:=La ns σ
   cases hB:Bo ns with
   |true=>
    rw [hB] at hrep hv
    rcases h8 with rfl|rfl
    all_goals (repeat' (first|refine Run.ct rfl ?_|((first|refine Run.reg mixed ?_|refine Run.AD ?_|refine Run.A1 Ap (AF.le_refl _) ?_|refine AI.det (hrep) ?_)<;>try simp -implicitDefEqProofs only [AW,go_sem])|fail))
    all_goals (rw [hv];rfl)
   |false=>
    rw [hB] at hrep hv
    rcases h8 with rfl|rfl
    all_goals (repeat' (first|refine Run.ct rfl ?_|((first|refine Run.reg mixed ?_|refine Run.AD ?_|refine Run.A1 Ap (AF.le_refl _) ?_|refine AI.det (hrep) ?_)<;>try simp -implicitDefEqProofs only [AW,go_sem])|fail))
    all_goals (rw [hv];rfl)
 by_cases h10:o=10
 · subst h10
   have hv:EP fs dt (.mk 10 n u ns ks al) sc=Js dt al:=by
    rw [KZ,if_neg (show ¬(10:Int)=4 by decide),if_neg (show ¬(10:Int)=6 by decide),if_neg (show ¬((10:Int)=8∨(10:Int)=11) by decide),if_pos rfl]
    all_goals rfl
   (repeat' (first|refine Run.ct rfl ?_|((first|refine Run.reg mixed ?_|refine Run.AD ?_|refine Run.A1 Ap (AF.le_refl _) ?_|refine AI.det (mZ ds fs dt hdt al σ hgal) ?_)<;>try simp -implicitDefEqProofs only [AW,go_sem])|fail))
   rw [hv]
 by_cases h12:o=12
 · subst h12
   obtain ⟨h,t,rfl,hh4⟩:=hg12 rfl
   have hlen:(h::t).length=t.length+1:=rfl
   obtain ⟨xo,xn,xu,xs,xk,xa⟩:=h
   have hv:EP fs dt (.mk 12 n u ns (.mk xo xn xu xs xk xa::t) al) sc=if decide (xo=4)&& !sc.contains xn then (match Cd (Bm fs) xn with|none=>0|some f=>match fs[f]? with|some g=>if g.params.length+1≠t.length+1 then 5 else 0|none=>0) else 0:=by
    rw [KZ,if_neg (show ¬(12:Int)=4 by decide),if_neg (show ¬(12:Int)=6 by decide),if_neg (show ¬((12:Int)=8∨(12:Int)=11) by decide),if_neg (show ¬(12:Int)=10 by decide),if_pos rfl]
    all_goals rfl
   simp only [Ex.op,Ex.name] at hh4
   generalize hw:EP fs dt (.mk 12 n u ns (.mk xo xn xu xs xk xa::t) al) sc=w at hv ⊢
   clear hw
   have hf:=hfun xn
   by_cases hx4:xo=4
   · subst hx4
     have hh:=YI sc xn (hh4 rfl) σ
     cases h1:sc.contains xn with
     |true=>
      rw [h1] at hh hv
      (repeat' (first|refine Run.ct rfl ?_|((first|refine Run.reg mixed ?_|refine Run.AD ?_|refine Run.A1 Ap (AF.le_refl _) ?_|refine AI.det (hh) ?_)<;>try simp -implicitDefEqProofs only [AW,AH,Ex.A3,D4,Wr,go_sem])|fail))
      rw [hv];rfl
     |false=>
      rw [h1] at hh hv
      cases hi:Cd (Bm fs) xn with
      |none=>
       rw [hi] at hf hv
       simp only [Ee] at hf
       have hneg:decide ((0:Int)≤-1)=false:=by decide
       (repeat' (first|refine Run.ct rfl ?_|((first|refine Run.reg mixed ?_|refine Run.AD ?_|refine Run.A1 Ap (AF.le_refl _) ?_|refine AI.det (hh) ?_|refine AI.det (hf) ?_)<;>try simp -implicitDefEqProofs only [AW,AH,Ex.A3,D4,Wr,hneg,go_sem])|fail))
       rw [hv];rfl
      |some f=>
       rw [hi] at hf hv
       simp only [Ee] at hf
       obtain ⟨g,hgf,_⟩:=SW hi
       have hge:=Aq (enc:=FE.enc) hgf
       simp only at hv
       rw [hgf] at hv
       obtain ⟨gn,gp,go,gn2,gu,gns,gk,ga⟩:=g
       simp only [FE.enc,Ex.A3] at hge
       have hpos:decide ((0:Int)≤(f:Int))=true:=by simp
       have hsub:IntKind.i64.wrap (((t.length+1:Nat):Int) - 1)=(t.length:Int):=Ir (by simp only [A5] at hgk;omega)
       have hb:=Ta t.length gp.length
       simp only [Eb,Az,decide_true,if_true] at hv
       cases hne:(t.length != gp.length) with
       |true=>
        rw [hne] at hb
        (repeat' (first|refine Run.ct rfl ?_|((first|refine Run.reg mixed ?_|refine Run.AD ?_|refine Run.A1 Ap (AF.le_refl _) ?_|refine AI.det (hh) ?_|refine AI.det (hf) ?_)<;>try simp -implicitDefEqProofs only [AW,AH,Ex.A3,D4,Wr,hpos,hge,A5,AA,hsub,hb,go_sem])|fail))
        rw [hv,if_pos (by simp only [bne_iff_ne,ne_eq] at hne;omega)]
       |false=>
        rw [hne] at hb
        (repeat' (first|refine Run.ct rfl ?_|((first|refine Run.reg mixed ?_|refine Run.AD ?_|refine Run.A1 Ap (AF.le_refl _) ?_|refine AI.det (hh) ?_|refine AI.det (hf) ?_)<;>try simp -implicitDefEqProofs only [AW,AH,Ex.A3,D4,Wr,hpos,hge,A5,AA,hsub,hb,go_sem])|fail))
        rw [hv,if_neg (by simp only [bne_eq_false_iff_eq] at hne;omega)]
   · have hxf:=CA hx4
     (repeat' (first|refine Run.ct rfl ?_|((first|refine Run.reg mixed ?_|refine Run.AD ?_|refine Run.A1 Ap (AF.le_refl _) ?_)<;>try simp -implicitDefEqProofs only [AW,AH,Ex.A3,D4,Wr,hxf,go_sem])|fail))
     rw [hv,decide_eq_false hx4];rfl
 · have hv:EP fs dt (.mk o n u ns ks al) sc=0:=by
    rw [KZ,if_neg (show ¬o=4 from h4),if_neg (show ¬o=6 from h6),if_neg (show ¬(o=8∨o=11) from h8),if_neg (show ¬o=10 from h10),if_neg (show ¬o=12 from h12)]
   simp only [not_or] at h8
   (repeat' (first|refine Run.ct rfl ?_|((first|refine Run.reg mixed ?_|refine Run.AD ?_|refine Run.A1 Ap (AF.le_refl _) ?_)<;>try simp -implicitDefEqProofs only [CA h4,CA h6,CA h8.1,CA h8.2,CA h10,CA h12,go_sem])|fail))
   rw [hv]
end Go.Ab
namespace Go.Ab
open Go.Proofs
def SlV (v:AV) (rows:List (List DV)):Prop:=v= .d (.sl rows)∨(∃t e s,v= .own t e s rows)∨(rows=[]∧v= .AU)
theorem SlV.BF {v:AV} {rows:List (List DV)} (h:SlV v rows):v.BF=true:=by
 rcases h with rfl|⟨t,e,s,rfl⟩|⟨rfl,rfl⟩<;>rfl
theorem SlV.cell {v:AV} {rows:List (List DV)} (h:SlV v rows):v.BV=true:=by
 rcases h with rfl|⟨t,e,s,rfl⟩|⟨rfl,rfl⟩<;>rfl
theorem SlV.len {v:AV} {rows:List (List DV)} (h:SlV v rows):OC v=some (.d (.int .i64 rows.length)):=by
 rcases h with rfl|⟨t,e,s,rfl⟩|⟨rfl,rfl⟩<;>rfl
theorem SlV.ix {v:AV} {rows:List (List DV)} (h:SlV v rows) {i:Nat} {r:List DV} (hr:rows[i]?=some r):ixA v (.d (.int .i64 (i:Int))) r.length=some (.ep r 0):=by
 rcases h with rfl|⟨t,e,s,rfl⟩|⟨rfl,rfl⟩
 · simp [ixA,ixR,hr]
 · simp [ixA,ixR,hr]
 · simp at hr
theorem SlV.plain {v:AV} {rows:List (List DV)} (h:SlV v rows):v.plain= .d (.sl rows):=by
 rcases h with rfl|⟨t,e,s,rfl⟩|⟨rfl,rfl⟩<;>simp only [AV.plain]
theorem SlV.dv {v:AV} {rows:List (List DV)} (h:SlV v rows):v.dv=some (.sl rows):=by
 rcases h with rfl|⟨t,e,s,rfl⟩|⟨rfl,rfl⟩<;>rfl
def Hj (cs:List AV) (dl:List Dat):Prop:=cs.length=dl.length * 3∧∀i d,dl[i]?=some d→∃cv,(cs.drop (i * 3)).take 3=[.d (.str d.name),.d (.int .i64 d.vars),cv]∧SlV cv (d.cons.map Con.enc)
theorem Hj.at {cs:List AV} {dl:List Dat} (h:Hj cs dl) {i:Nat} {d:Dat} (hd:dl[i]?=some d):
 ∃cv,(cs.drop (i * 3)).take 3=[.d (.str d.name),.d (.int .i64 d.vars),cv]∧SlV cv (d.cons.map Con.enc)∧cs[i * 3]?=some (.d (.str d.name))∧cs[i * 3+1]?=some (.d (.int .i64 d.vars))∧cs[i * 3+2]?=some cv∧(i * 3+3≤cs.length)=True:=by
 obtain ⟨cv,h1,h2⟩:=h.2 i d hd
 have hi:=(AR.1 hd).1
 have g:∀k,k < 3→cs[i * 3+k]?=([.d (.str d.name),.d (.int .i64 d.vars),cv]:List AV)[k]?:=fun k hk=>by
  rw [← h1,BM,if_pos hk,BL]
 refine ⟨cv,h1,h2,g 0 (by omega),g 1 (by omega),g 2 (by omega),?_⟩
 rw [h.1];simp;omega
def DlS (τ:AF) (dl:List Dat) (v:AV):Prop:=(dl=[]∧v= .AU)∨(∃jd e cs,v= .ms jd dl.length 3 e∧τ.blk jd=some cs∧Hj cs dl)
theorem DlS.len {τ:AF} {dl:List Dat} {v:AV} (h:DlS τ dl v):OC v=some (.d (.int .i64 dl.length)):=by
 rcases h with ⟨rfl,rfl⟩|⟨jd,e,cs,rfl,_,_⟩<;>rfl
theorem DlS.BF {τ:AF} {dl:List Dat} {v:AV} (h:DlS τ dl v):v.BF=true:=by
 rcases h with ⟨rfl,rfl⟩|⟨jd,e,cs,rfl,_,_⟩<;>rfl
theorem DlS.le {τ τ':AF} {dl:List Dat} {v:AV} (h:DlS τ dl v) (hl:τ.le τ'):DlS τ' dl v:=by
 rcases h with ⟨rfl,rfl⟩|⟨jd,e,cs,rfl,hb,hr⟩
 · exact .inl ⟨rfl,rfl⟩
 · exact .inr ⟨jd,e,cs,rfl,hl.blk _ _ hb,hr⟩
theorem RK {fid:FuncId} {caps:List AV} (hb:C7 Tryz.prog fid=true) (hcp:caps.all AV.BF=true) (p:Dat→Bool) (l:List Dat) (v:AV) (σ:AF) (hl:l.length≤1000000) (hv:DlS σ l v)
 (hf:∀d∈l,∀cv,cv.BF=true→cv.BV=true→AK Tryz.prog fid (.agg [.d (.str d.name),.d (.int .i64 d.vars),cv]::caps) σ (fun v σ'=>v= .d (.bool (p d))∧σ'=σ)):
 AK Tryz.prog 129 [v,.fn fid [] caps] σ (fun v σ'=>v= .d (.int .i64 (Ee (l.findIdx? p)))∧σ'=σ):=by
 refine KR (by simp) ?_
 rw [BR]
 have hlen:=hv.len
 rcases hv with ⟨rfl,rfl⟩|⟨jd,e,cs,rfl,hbk,hrows⟩
 · have h0:decide ((0:Int) < 0)=false:=by decide
   (repeat' (first|refine Run.ct rfl ?_|((first|refine Run.reg mixed ?_|refine Run.AD ?_|refine Run.A1 Cq (AF.le_refl _) ?_|(refine Run.loop ?_))<;>try simp -implicitDefEqProofs only [h0,go_sem])|fail))
   rfl
 (repeat' (first|refine Run.ct rfl ?_|((first|refine Run.reg mixed ?_|refine Run.AD ?_)<;>try simp -implicitDefEqProofs only [go_sem])|fail))
 refine Run.Ay ?_
 refine Run.BB ((fun (a0:AV) (a1:AV) (a7:AV)=>fun (i:Nat)=>put 0 a0 (put 1 a1 (put 7 a7 (put 8 (.d (.int .i64 i)) U)))) _ _ _) (fun _=>E) (fun _=>σ) (fun i=>i≤l.length∧∀x∈l.take i,p x=false) (fun i=>l.length - i) ?_ 0 ⟨by simp,by simp⟩
 rintro i ⟨hi,hno⟩ ih
 by_cases hlt:i < l.length
 · obtain ⟨x,hx⟩:=Aw hlt
   obtain ⟨cv,h1,h2,_,_,_,h3⟩:=hrows.at hx
   have hix:((i:Int) < (l.length:Int))=True:=by simp;omega
   have hw1:=A7 (show i+1≤9000000000000000000 by omega)
   have hc:=hf x (AS hx) cv h2.BF h2.cell
   cases hp:p x with
   |true=>
    rw [hp] at hc
    (repeat' (first|refine Run.ct rfl ?_|((first|refine Run.reg mixed ?_|refine Run.AD ?_|refine Run.A1 Cq (AF.le_refl _) ?_|(refine ⟨fid,[],caps,rfl,hb,AI.det hc ?_ (by simp [hcp,Fu,DX])⟩))<;>try simp -implicitDefEqProofs only [A8 hlt,hix,hbk,h1,h3,hw1,go_sem])|fail))
    rw [D6 hno hx hp];rfl
   |false=>
    rw [hp] at hc
    (repeat' (first|refine Run.ct rfl ?_|((first|refine Run.reg mixed ?_|refine Run.AD ?_|(refine ⟨fid,[],caps,rfl,hb,AI.det hc ?_ (by simp [hcp,Fu,DX])⟩))<;>try simp -implicitDefEqProofs only [A8 hlt,hix,hbk,h1,h3,hw1,go_sem])|fail))
    exact ih (i+1) ⟨by omega,Eg hno hx hp⟩ (by omega)
 · (repeat' (first|refine Run.ct rfl ?_|((first|refine Run.reg mixed ?_|refine Run.AD ?_|refine Run.A1 Cq (AF.le_refl _) ?_)<;>try simp -implicitDefEqProofs only [B8 hlt,go_sem])|fail))
   rw [AG (by omega)] at hno
   rw [D7 hno];rfl
theorem gL (s nm:Str) (n:Int) (cv:AV) (hcv:cv.BV=true) (j:Nat) (σ:AF) (hj:σ.blk j=some [.d (.str s)]):AK Tryz.prog 130 [.agg [.d (.str nm),.d (.int .i64 n),cv],.gp j 0] σ (fun v σ'=>v= .d (.bool (nm==s))∧σ'=σ):=by
 refine M2 (by simp) ?_
 rw [BR]
 (repeat' (first|refine Run.ct rfl ?_|((first|refine Run.reg mixed ?_|refine Run.AD ?_|refine Run.A1 H7 (AF.le_refl _) ?_)<;>try simp -implicitDefEqProofs only [hj,BS,hcv,go_sem])|fail))
def Ic (l:List Dat):List Str:=l.map (·.name)
theorem Z4 (l:List Dat) (s:Str):l.findIdx? (fun x=>x.name==s)=Cd (Ic l) s:=by
 rw [← K3,Ic,List.findIdx?_map];rfl
theorem eP (l:List Dat) (dv:AV) (rest:List AV) (jr:Nat) (s:Str) (σ:AF) (hl:l.length≤1000000) (hb:σ.blk jr=some (dv::rest)) (hv:DlS σ l dv):
 AK Tryz.prog 99 [.gp jr 0,.d (.str s)] σ (fun v σ'=>v= .d (.int .i64 (Ee (Cd (Ic l) s)))∧σ'=σ):=by
 refine Nz (by simp) ?_
 rw [BR]
 (repeat' (first|refine Run.ct rfl ?_|((first|refine Run.reg mixed ?_|refine Run.AD ?_)<;>try simp -implicitDefEqProofs only [go_sem])|fail))
 intro j hj
 have hle:=Bp (cs:=[AV.d (.str s)]) hj
 have hcell:dv.BV=true:=by rcases hv with ⟨_,rfl⟩|⟨jd,e,cs,rfl,_,_⟩<;>rfl
 have hne:jr≠j:=fun e=>by rw [e,hj] at hb;cases hb
 have hc:=RK (fid:=130) (caps:=[.gp j 0]) (by kernel_rfl) rfl (fun x=>x.name==s) l dv (σ.AQ j [.d (.str s)]) hl (hv.le hle) (fun d _ cv _ h2=>gL s d.name d.vars cv h2 j _ (by simp only [AP,if_true]))
 rw [Z4] at hc
 have hnl:=hv.BF
 (repeat' (first|refine Run.ct rfl ?_|((first|refine Run.reg mixed ?_|refine Run.AD ?_|(refine AI.mk (by simp only [BT,Cw,hnl,eY,K5]) hc ?_;rintro _ _ ⟨rfl,rfl⟩)|(refine Run.A1 I3 (σ2:=σ) hle ?_))<;>try simp -implicitDefEqProofs only [hne,hb,hcell,go_sem])|fail))
def VU (t:TE) (s:Str):Bool:=match t with| .mk k n _=>k==4&&n==s
theorem Ts (t:TE) (s:Str) (σ:AF):AK Tryz.prog 159 [teA t,.d (.str s)] σ (fun v σ'=>v= .d (.bool (VU t s))∧σ'=σ):=by
 refine JV (by simp) ?_
 rw [BR]
 obtain ⟨k,n,l⟩:=t
 simp only [TE.A3,teA,AH,AM]
 (repeat' (first|refine Run.ct rfl ?_|(refine RF (by first|exact GV.t|exact GV.f|exact GV.st|exact GV.sf) ⟨?_,fun h=>?_,?_⟩;rotate_left;(focus ((try simp only [AN,J7] at h);simp -implicitDefEqProofs only [BS,go_sem];first|exact Is.mk|exact Is.pv (by simp -implicitDefEqProofs only [h,Q0,↓Ej,↓HC,↓Ek,BS,go_sem];rfl)));(try simp -implicitDefEqProofs only [GI,IE,IF,↓Ej,↓HC,↓Ek,BS,FG,go_sem]))|((first|refine Run.reg mixed ?_|refine Run.AD ?_|refine Run.A1 FZ (AF.le_refl _) ?_)<;>try simp -implicitDefEqProofs only [GI,IE,IF,↓Ej,↓HC,↓Ek,BS,go_sem])|fail))
 rfl
theorem IA (t:TE) (l:List TE) (s:Str) (vs:List Str):Ef (t::l) (s::vs)=(VU t s&&Ef l vs):=by cases t;rfl
theorem T1:∀ {l:List TE} {vs:List Str},l.length≠vs.length→Ef l vs=false
 |[],[],h=>absurd rfl h
 |[],v::vs,_=>rfl
 |t::l,[],_=>by cases t;rfl
 |t::l,v::vs,h=>by rw [IA,T1 (by simpa using h),Bg]
theorem Xu (l:List TE) (vs:List Str) (σ:AF) (hl:l.length≤1000000):AK Tryz.prog 158 [.d (.sl (l.map TE.enc)),.d (.sl (vs.map Ak)),.fn 159 [] []] σ (fun v σ'=>v= .d (.bool (Ef l vs))∧σ'=σ):=by
 refine LL (by simp) ?_
 rw [K7]
 have hb:=Ta l.length vs.length
 cases hne:(l.length != vs.length) with
 |true=>
  rw [hne] at hb
  (repeat' (first|refine Run.ct rfl ?_|((first|refine Run.reg mixed ?_|refine Run.AD ?_|refine Run.A1 DU (AF.le_refl _) ?_)<;>try simp -implicitDefEqProofs only [AA,hb,go_sem])|fail))
  rw [T1 (by simpa using hne)]
 |false=>
 rw [hne] at hb
 have hlen:l.length=vs.length:=by simpa using hne
 (repeat' (first|refine Run.ct rfl ?_|((first|refine Run.reg mixed ?_|refine Run.AD ?_)<;>try simp -implicitDefEqProofs only [AA,hb,go_sem])|fail))
 refine Run.Ay ?_
 refine Run.BB ((fun (a1:AV) (a2:AV) (a15:AV) (a16:AV)=>fun (i:Nat)=>put 1 a1 (put 2 a2 (put 15 a15 (put 16 a16 (put 17 (.d (.int .i64 i)) U))))) _ _ _ _) (fun _=>E) (fun _=>σ) (fun i=>i≤l.length∧Ef l vs=Ef (l.drop i) (vs.drop i)) (fun i=>l.length - i) ?_ 0 ⟨by simp,rfl⟩
 rintro i ⟨hi,hok⟩ ih
 by_cases hlt:i < l.length
 · obtain ⟨x,hx⟩:=Aw hlt
   obtain ⟨s,hs⟩:=Aw (show i < vs.length by omega)
   have he:=Aq (enc:=TE.enc) hx
   have he2:=Aq (enc:=Ak) hs
   simp only [Ak] at he2
   have hw1:=A7 (show i+1≤9000000000000000000 by omega)
   have hc:=Ts x s σ
   rw [Bc hx,Bc hs,IA] at hok
   cases hp:VU x s with
   |true=>
    rw [hp] at hc hok
    obtain ⟨xk,xn,xl⟩:=x
    simp only [TE.A3,teA,AH,AM] at he hc
    (repeat' (first|refine Run.ct rfl ?_|((first|refine Run.reg mixed ?_|refine Run.AD ?_|(refine ⟨_,[],[],rfl,by kernel_rfl,AI.det hc ?_⟩))<;>try simp -implicitDefEqProofs only [A8 hlt,he,he2,hw1,go_sem])|fail))
    exact ih (i+1) ⟨by omega,hok⟩ (by omega)
   |false=>
    rw [hp] at hc hok
    obtain ⟨xk,xn,xl⟩:=x
    simp only [TE.A3,teA,AH,AM] at he hc
    (repeat' (first|refine Run.ct rfl ?_|((first|refine Run.reg mixed ?_|refine Run.AD ?_|refine Run.A1 DU (AF.le_refl _) ?_|(refine ⟨_,[],[],rfl,by kernel_rfl,AI.det hc ?_⟩))<;>try simp -implicitDefEqProofs only [A8 hlt,he,he2,hw1,go_sem])|fail))
    rw [hok];rfl
 · (repeat' (first|refine Run.ct rfl ?_|((first|refine Run.reg mixed ?_|refine Run.AD ?_|refine Run.A1 DU (AF.le_refl _) ?_)<;>try simp -implicitDefEqProofs only [B8 hlt,go_sem])|fail))
   rw [MC (by omega),MC (by omega)] at hok
   rw [hok];rfl
theorem Ws (l:List TE) (dv:AV) (nm:Str) (vs:List Str) (cs:List CE) (jr:Nat) (σ:AF) (hl:l.length≤1000000) (hb:σ.blk jr=some [dv,.d (.str nm),.d (.sl (vs.map Ak)),.d (.sl (cs.map CE.enc))]):
 AK Tryz.prog 131 [.gp jr 0,.d (.sl (l.map TE.enc))] σ (fun v σ'=>v= .d (.bool (Ef l vs))∧σ'=σ):=by
 refine KQ (by simp) ?_
 rw [BR]
 (repeat' (first|refine Run.ct rfl ?_|((first|refine Run.reg mixed ?_|refine Run.AD ?_|refine Run.A1 GB (AF.le_refl _) ?_|refine AI.det (Xu l vs σ hl) ?_)<;>try simp -implicitDefEqProofs only [hb,go_sem])|fail))
end Go.Ab
namespace Go.Ab
open Go.Proofs
def Oy:Except Int Ty→AV
 | .ok t=>.tup [tyA t,.d (.int .i64 0)]
 | .error e=>.tup [.agg [.d (.int .i64 0),.d (.int .i64 0),.d (.sl [])],.d (.int .i64 e)]
theorem Mc (ds:List (Str×Nat)) (vars:List Str) (m:List TE):∀ {l:List TE} {us:List Ty},Ck ds vars l= .ok us→Ck ds vars (l++m)=(Ck ds vars m).map (us++·)
 |[],us,h=>by
  simp only [Ck,D3] at h;subst h
  simp only [Au]
  cases Ck ds vars m<;>rfl
 |t::l,us,h=>by
  rw [Ck] at h
  rw [Ac,Ck]
  cases ht:IB ds vars false t with
  |error e=>rw [ht] at h;cases h
  |ok u=>
   rw [ht] at h
   simp only at h ⊢
   cases hl:Ck ds vars l with
   |error e=>rw [hl] at h;cases h
   |ok ys=>
    rw [hl] at h
    simp only [CU,D3] at h
    subst h
    rw [Mc ds vars m hl]
    cases Ck ds vars m<;>rfl
theorem Ro {ds:List (Str×Nat)} {vars:List Str}:(∀(t:TE) (whole:Bool) (e:Int),IB ds vars whole t= .error e→e≠0):=by
 intro t
 induction h:t.size using Nat.strongRecOn generalizing t with
 |_ N ih=>
 subst h
 obtain ⟨k,n,l⟩:=t
 have hl:∀(l':List TE),(∀x∈l',x.size < (TE.mk k n l).size)→∀e,Ck ds vars l'= .error e→e≠0:=by
  intro l'
  induction l' with
  |nil=>intro _ e h;cases h
  |cons x l' ihl=>
   intro hx e h
   rw [Ck] at h
   cases hxe:IB ds vars false x with
   |error e'=>rw [hxe] at h;cases h;exact ih x.size (hx x (Ai ..)) x rfl false _ hxe
   |ok u=>
    rw [hxe] at h
    cases hle:Ck ds vars l' with
    |error e'=>rw [hle] at h;cases h;exact ihl (fun y hy=>hx y (Ao _ hy)) _ hle
    |ok us=>rw [hle] at h;cases h
 have hsz:∀x∈l,x.size < (TE.mk k n l).size:=fun x hx=>by
  have:=TE.G2 hx;simp only [TE.size];omega
 have hmap:∀(num:Int) e,(Ck ds vars l).map (Ty.mk k num)= .error e→e≠0:=fun num e h=>by
  cases hle:Ck ds vars l with
  |error e'=>rw [hle] at h;cases h;exact hl l hsz _ hle
  |ok us=>rw [hle] at h;cases h
 intro whole e h
 rw [IB] at h
 split at h
 · split at h
   · cases h;decide
   · exact hmap _ _ h
 · split at h
   · split at h
     · cases h;decide
     · split at h
       · cases h;decide
       · split at h
         · cases h;decide
         · exact hmap _ _ h
   · exact hmap _ _ h
def E6 (dl:List Dat):List (Str×Nat):=dl.map fun d=>(d.name,d.vars.toNat)
def RB (τ:AF) (jr:Nat) (dl:List Dat) (nm:Str) (vars:List Str) (cs:List CE):Prop:=∃dv,τ.blk jr=some [dv,.d (.str nm),.d (.sl (vars.map Ak)),.d (.sl (cs.map CE.enc))]∧DlS τ dl dv
theorem RB.le {τ τ':AF} {jr:Nat} {dl:List Dat} {nm:Str} {vars:List Str} {cs:List CE} (h:RB τ jr dl nm vars cs) (hl:τ.le τ'):RB τ' jr dl nm vars cs:=by
 obtain ⟨dv,h1,h2⟩:=h
 exact ⟨dv,hl.blk _ _ h1,h2.le hl⟩
set_option maxRecDepth 4000 in
set_option maxHeartbeats 4000000 in
theorem Yd (jr:Nat) (dl:List Dat) (nm:Str) (vars:List Str) (cs:List CE) (k num:Int) (l:List TE) (τ:AF) (hrb:RB τ jr dl nm vars cs) (hll:l.length≤1000000)
 (ih:∀x∈l,∀τ',RB τ' jr dl nm vars cs→AK Tryz.prog 100 [.gp jr 0,teA x,.d (.bool false)] τ' (fun v σ'=>v=Oy (IB (E6 dl) vars false x)∧σ'=τ')):
 Run CL (fun v σ'=>v=Oy ((Ck (E6 dl) vars l).map (Ty.mk k num))∧σ'=τ) [.code (.loop Fy),.blk 1,.code (.seq (.reg [⟨some 102,.ldl (.t 8) (some 3),none⟩,⟨none,.st (.t 6) (.t 102) 3,none⟩,⟨some 7,.mv (.c (.d (.int .i64 0))),none⟩] [6,7]) .ret)]
  (put 0 (.gp jr 0) (put 6 (.lp 6 0) (put 8 (.lp 8 0) (put 79 (.d (.sl (l.map TE.enc))) (put 80 (.d (.int .i64 l.length)) (put 81 (.d (.int .i64 0)) U)))))) (BA 6 [.d (.int .i64 0),.d (.int .i64 0),.AU] (BA 8 [.d (.int .i64 k),.d (.int .i64 num),.AU] E)) τ:=by
 refine Run.Ay ?_
 refine Run.BB ((fun (a0:AV) (a6:AV) (a8:AV) (a79:AV) (a80:AV)=>fun (y:Nat×List Ty×AV×AF)=>put 0 a0 (put 6 a6 (put 8 a8 (put 79 a79 (put 80 a80 (put 81 (.d (.int .i64 y.1)) U)))))) _ _ _ _ _) (fun y=>BA 6 [.d (.int .i64 0),.d (.int .i64 0),.AU] (BA 8 [.d (.int .i64 k),.d (.int .i64 num),y.2.2.1] E)) (fun y=>y.2.2.2)
  (fun y=>y.1≤l.length∧y.2.1.length=y.1∧Ck (E6 dl) vars (l.take y.1)= .ok y.2.1∧Cl τ 57 3 (y.2.1.map Ty.enc) y.2.2.1 y.2.2.2) (fun y=>l.length - y.1) ?_ (0,[],.AU,τ) ⟨by simp,rfl,rfl,Cl.nil _ _ _⟩
 rintro ⟨i,us,uv,τ1⟩ ⟨hi,hlu,hok,ho⟩ ih2
 simp only at hi hlu hok ho
 by_cases hlt:i < l.length
 · obtain ⟨x,hx⟩:=Aw hlt
   have he:=Aq (enc:=TE.enc) hx
   have hw1:=A7 (show i+1≤9000000000000000000 by omega)
   have hall:Ck (E6 dl) vars l=(Ck (E6 dl) vars (x::l.drop (i+1))).map (us++·):=by
    conv=>lhs;rw [← A4 i l,Bc hx]
    exact Mc _ _ _ hok
   have hsn:Ck (E6 dl) vars (l.take (i+1))=(Ck (E6 dl) vars [x]).map (us++·):=by
    rw [Am hx];exact Mc _ _ _ hok
   rw [Ck] at hall
   rw [Ck,Ck] at hsn
   have hc:=ih x (AS hx) τ1 (hrb.le ho.le)
   cases hr:IB (E6 dl) vars false x with
   |error e=>
    rw [hr] at hc hall
    have hne:=Ro x false e hr
    have hne':(e != 0)=true:=by simpa using hne
    obtain ⟨xk,xn,xl⟩:=x
    simp only [TE.A3,teA,AH,AM,Oy] at he hc
    (repeat' (first|refine Run.ct rfl ?_|((first|refine Run.reg mixed ?_|refine Run.AD ?_|(refine Run.A1 Ba ho.le ?_)|refine AI.det (hc) ?_)<;>try simp -implicitDefEqProofs only [A8 hlt,he,hne',ho.cell,go_sem])|fail))
    rw [hall];rfl
   |ok u=>
    rw [hr] at hc hsn
    simp only [CU] at hsn
    obtain ⟨uk,un,ul⟩:=u
    obtain ⟨xk,xn,xl⟩:=x
    simp only [TE.A3,teA,AH,AM,Oy,tyA,Ty.enc] at he hc
    have h00:((0:Int) != 0)=false:=by decide
    (repeat' (first|refine Run.ct rfl ?_|((first|refine Run.reg mixed ?_|refine Run.AD ?_|(refine Dh.own ho rfl (by simp) (by simp;omega) (by decide) (fun v2 σ2 ho2 hbk=>?_))|refine AI.det (hc) ?_)<;>try simp -implicitDefEqProofs only [A8 hlt,he,hw1,h00,ho.cell,ho.cells,ho.BF,ho.BG,go_sem])|fail))
    simp -implicitDefEqProofs only [ho2.cells,ho2.cell,go_sem]
    (repeat' (first|refine Run.ct rfl ?_|((first|refine Run.reg mixed ?_|refine Run.AD ?_)<;>try simp -implicitDefEqProofs only [hw1,ho2.cell,ho2.cells,go_sem])|fail))
    exact ih2 (i+1,us++[.mk uk un ul],v2,σ2) ⟨by simp only;omega,by simp [hlu],hsn,by simpa [Ty.enc] using ho2⟩ (by simp only;omega)
 · rw [AG (by omega)] at hok
   (repeat' (first|refine Run.ct rfl ?_|((first|refine Run.reg mixed ?_|refine Run.AD ?_|(refine Run.A1 Ba ho.le ?_))<;>try simp -implicitDefEqProofs only [B8 hlt,ho.cell,ho.cells,go_sem])|fail))
   rw [ho.plain,hok]
   simp [Oy,tyA,Ty.enc,Ty.Ed,CU]
theorem nE {dl:List Dat} {i:Nat} {d:Dat} (h:dl[i]?=some d):(E6 dl).getD i ([],0)=(d.name,d.vars.toNat):=by
 rw [Bq,E6,Ad,h];rfl
theorem VA (dl:List Dat):(E6 dl).map (·.1)=Ic dl:=by simp [E6,Ic]
theorem gE {dl:List Dat} {s:Str} {i:Nat} (h:Cd (Ic dl) s=some i):∃d,dl[i]?=some d:=by
 have:=P0 h
 rw [Ic,Ad,AE] at this
 obtain ⟨d,hd,_⟩:=this
 exact ⟨d,hd⟩
theorem dI (jr:Nat) (dl:List Dat) (hdl:dl.length≤1000000) (hnn:∀d∈dl,0≤d.vars) (nm:Str) (vars:List Str) (cs:List CE):
 ∀(N:Nat) (t:TE) (whole:Bool) (τ:AF),t.size≤N→t.size≤1000000→RB τ jr dl nm vars cs→AK Tryz.prog 100 [.gp jr 0,teA t,.d (.bool whole)] τ (fun v σ'=>v=Oy (IB (E6 dl) vars whole t)∧σ'=τ):=by
 intro N
 induction N with
 |zero=>intro t whole τ h;have:=TE.size_pos t;omega
 |succ N ihN=>
 rintro ⟨k,n,l⟩ whole τ hN hsz hrb
 simp only [TE.size] at hN hsz
 have hlen:=TE.CY l
 have hloop:=fun num=>Yd jr dl nm vars cs k num l τ hrb (by omega) (fun x hx τ' h=>by
  have:=TE.G2 hx
  exact ihN x false τ' (by omega) (by omega) h)
 clear ihN
 obtain ⟨dv,hb,hdv⟩:=hrb
 refine Lp (by simp) ?_
 rw [K7,teA,TE.A3]
 by_cases h4:k=4
 · subst h4
   have hres:IB (E6 dl) vars whole (.mk 4 n l)=match Cd vars n with|none=>.error 3|some i=>(Ck (E6 dl) vars l).map (Ty.mk 4 i):=by
    rw [IB,if_pos rfl];rfl
   have hi:=N7 vars n τ
   cases hix:Cd vars n with
   |none=>
    rw [hix] at hi hres
    simp only [Ee] at hi hres
    have hneg:decide ((-1:Int) < 0)=true:=by decide
    (repeat' (first|refine Run.ct rfl ?_|((first|refine Run.reg mixed ?_|refine Run.AD ?_|refine Run.A1 Ba (AF.le_refl _) ?_|refine AI.det (hi) ?_)<;>try simp -implicitDefEqProofs only [AW,hb,hneg,go_sem])|fail))
    rw [hres];rfl
   |some i=>
    rw [hix] at hi hres
    simp only [Ee] at hi hres
    have hneg:decide ((i:Int) < 0)=false:=decide_eq_false (by omega)
    rw [hres]
    (repeat' (first|refine Run.ct rfl ?_|((first|refine Run.reg mixed ?_|refine Run.AD ?_|refine AI.det (hi) ?_)<;>try simp -implicitDefEqProofs only [AW,hb,hneg,AA,go_sem])|fail))
    exact hloop i
 by_cases h5:k=5
 · subst h5
   have hres:IB (E6 dl) vars whole (.mk 5 n l)=match Cd (Ic dl) n with|none=>.error 3|some i=>if l.length≠((E6 dl).getD i ([],0)).2 then .error 5 else if i+1=(E6 dl).length∧¬(whole=true∧Ef l vars=true) then .error 7 else (Ck (E6 dl) vars l).map (Ty.mk 5 i):=by
    rw [IB,if_neg h4,if_pos rfl,VA];rfl
   have hf:=eP dl dv _ jr n τ hdl hb hdv
   have hpar:=Ws l dv nm vars cs jr τ (by omega) hb
   cases hix:Cd (Ic dl) n with
   |none=>
    rw [hix] at hf hres
    simp only [Ee] at hf hres
    have hneg:decide ((-1:Int) < 0)=true:=by decide
    (repeat' (first|refine Run.ct rfl ?_|((first|refine Run.reg mixed ?_|refine Run.AD ?_|refine Run.A1 Ba (AF.le_refl _) ?_|refine AI.det (hf) ?_)<;>try simp -implicitDefEqProofs only [AW,hneg,go_sem])|fail))
    rw [hres];rfl
   |some i=>
    obtain ⟨d,hd⟩:=gE hix
    have hil:=(AR.1 hd).1
    have hdn:=hnn d (AS hd)
    rw [hix] at hf hres
    simp only [Ee] at hf hres
    rw [nE hd] at hres
    have hneg:decide ((i:Int) < 0)=false:=decide_eq_false (by omega)
    rcases hdv with ⟨rfl,_⟩|⟨jd,e,cells,rfl,hbd,hrows⟩
    · simp at hil
    obtain ⟨cv,_,_,_,g1,_,_⟩:=hrows.at hd
    have hixx:((i:Int) < (dl.length:Int))=True:=by simp;omega
    have hcmp:((l.length:Int) != d.vars)=decide (l.length≠d.vars.toNat):=by
     rw [Af];simp only [bne_iff_ne,ne_eq,decide_eq_true_eq];omega
    by_cases hA:l.length≠d.vars.toNat
    · rw [decide_eq_true hA] at hcmp
      rw [if_pos hA] at hres
      (repeat' (first|refine Run.ct rfl ?_|((first|refine Run.reg mixed ?_|refine Run.AD ?_|refine Run.A1 Ba (AF.le_refl _) ?_|refine AI.det (hf) ?_)<;>try simp -implicitDefEqProofs only [AW,hb,hneg,AA,hixx,hbd,g1,hcmp,go_sem])|fail))
      rw [hres];rfl
    · rw [decide_eq_false hA] at hcmp
      rw [if_neg hA] at hres
      have hw1:IntKind.i64.wrap ((dl.length:Int) - 1)=((dl.length - 1:Nat):Int):=by rw [As (by omega) (by omega)];omega
      have hlast:((i:Int)==((dl.length - 1:Nat):Int))=decide (i+1=(E6 dl).length):=by
       rw [Af];simp only [beq_iff_eq,decide_eq_true_eq,E6,AA];omega
      by_cases hB:i+1=(E6 dl).length
      · rw [decide_eq_true hB] at hlast
        cases whole with
        |false=>
         rw [if_pos ⟨hB,by simp⟩] at hres
         (repeat' (first|refine Run.ct rfl ?_|((first|refine Run.reg mixed ?_|refine Run.AD ?_|refine Run.A1 Ba (AF.le_refl _) ?_|refine AI.det (hf) ?_)<;>try simp -implicitDefEqProofs only [AW,hb,hneg,AA,hixx,hbd,g1,hcmp,hw1,hlast,go_sem])|fail))
         rw [hres];rfl
        |true=>
         cases hC:Ef l vars with
         |false=>
          rw [hC] at hpar
          rw [if_pos ⟨hB,by simp [hC]⟩] at hres
          (repeat' (first|refine Run.ct rfl ?_|((first|refine Run.reg mixed ?_|refine Run.AD ?_|refine Run.A1 Ba (AF.le_refl _) ?_|refine AI.det (hf) ?_|refine AI.det (hpar) ?_)<;>try simp -implicitDefEqProofs only [AW,hb,hneg,AA,hixx,hbd,g1,hcmp,hw1,hlast,go_sem])|fail))
          rw [hres];rfl
         |true=>
          rw [hC] at hpar
          rw [if_neg (by simp [hC])] at hres
          rw [hres]
          (repeat' (first|refine Run.ct rfl ?_|((first|refine Run.reg mixed ?_|refine Run.AD ?_|refine AI.det (hf) ?_|refine AI.det (hpar) ?_)<;>try simp -implicitDefEqProofs only [AW,hb,hneg,AA,hixx,hbd,g1,hcmp,hw1,hlast,go_sem])|fail))
          exact hloop i
      · rw [decide_eq_false hB] at hlast
        rw [if_neg (fun h=>hB h.1)] at hres
        rw [hres]
        (repeat' (first|refine Run.ct rfl ?_|((first|refine Run.reg mixed ?_|refine Run.AD ?_|refine AI.det (hf) ?_)<;>try simp -implicitDefEqProofs only [AW,hb,hneg,AA,hixx,hbd,g1,hcmp,hw1,hlast,go_sem])|fail))
        exact hloop i
 · have hres:IB (E6 dl) vars whole (.mk k n l)=(Ck (E6 dl) vars l).map (Ty.mk k 0):=by rw [IB,if_neg h4,if_neg h5]
   rw [hres]
   (repeat' (first|refine Run.ct rfl ?_|((first|refine Run.reg mixed ?_|refine Run.AD ?_)<;>try simp -implicitDefEqProofs only [CA h4,CA h5,AA,go_sem])|fail))
   exact hloop 0
end Go.Ab
