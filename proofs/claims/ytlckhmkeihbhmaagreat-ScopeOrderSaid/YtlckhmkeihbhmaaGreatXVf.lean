/- Scope: what is looked at in a node. Scope: the resolver's rows. Scope: types of declarations resolved. Conditions: none. -/
import Derived.Test.YtlckhmkeihbhmaaGreatXVc
set_option linter.unusedSimpArgs false
set_option linter.unusedVariables false
set_option maxRecDepth 4000
set_option maxHeartbeats 8000000
open Option renaming map_eq_some_iff→AD
open List renaming getElem?_map→Ag,map_cons→AG,map_nil→AQ,length_map→AA,length_cons→A9,getElem?_eq_some_iff→AR,getElem?_take→BF,getElem?_drop→BE,mem_of_getElem?→AT,take_of_length_le→AK,all_cons→BP,all_nil→Cp,drop_of_length_le→HS,nil_append→Ay,cons_append→Aa,mem_cons_self→BG,mem_cons_of_mem→B6,take_append_drop→A3,getD_eq_getElem?_getD→Ap
open Int renaming reduceBEq→AU,reduceToNat→DW
open Bool renaming not_false→E7,and_true→As,and_self→N3,and_eq_true→AP,not_not→JN,and_false→Bm,eq_iff_iff→Af
open Except.ok renaming injEq→EH
open Except renaming map→CP
namespace Go.Ab
open Go.Proofs
def X4 (e:Ex):Prop:=(e.op=4→e.name≠[])∧(e.op=12→∃h t,e.kids=h::t∧(h.op=4→h.name≠[]))∧e.alts.length≤1000000∧e.kids.length≤1000000
theorem Zv (o:Option Nat):decide (E9 o < 0)=o.isNone:=by
 cases o with
 |none=>rfl
 |some i=>exact decide_eq_false (by simp only [E9];omega)
theorem Oe {s:Str}:∀ {l:List Str} {i:Nat},Ct l s=some i→l[i]?=some s
 |[],i,h=>by simp [Ct] at h
 |x::l,i,h=>by
  rw [Ct] at h
  split at h
  · rename_i hx
    cases h
    simpa using hx
  · simp only [AD] at h
    obtain ⟨k,hk,rfl⟩:=h
    simpa using Oe hk
theorem R9 {fs:List FE} {s:Str} {i:Nat} (h:Ct (CX fs) s=some i):∃g,fs[i]?=some g∧g.name=s:=by
 have:=Oe h
 rw [CX,Ag,AD] at this
 exact this
theorem V0:((0:Int)≤0)=True:=by simp
theorem LK (fs:List FE) (dt:List Dat) (o:Int) (n:Str) (u:Int) (ns:List Str) (ks:List Ex) (al:List Al) (sc:List Str):E0 fs dt (.mk o n u ns ks al) sc=
 if o=4 then (if !sc.contains n&&(Ct (CX fs) n).isNone then 3 else 0)
                                       else if o=6 then
  match IX dt n with
  |none=>3
  |some x=>if ks.length≠arity dt x then 5 else 0
            else if o=8∨o=11 then (if CA ns then 4 else 0)
            else if o=10 then KE dt al
            else if o=12 then
  match ks.head? with
  |none=>0
  |some h=>if h.op=4&& !sc.contains h.name then
   (match Ct (CX fs) h.name with
   |none=>0
   |some f=>match fs[f]? with
    |some g=>if g.params.length+1≠ks.length then 5 else 0
    |none=>0) else 0
            else 0:=rfl
theorem hH (ds:List DE) (fs:List FE) (dt:List Dat) (hdt:QS dt) (e:Ex) (sc:List Str) (hg:X4 e) (σ:AF):
 AL Tryz.prog 46 [.agg [.d (.sl (ds.map DE.enc)),.d (.sl (fs.map FE.enc)),.d (.sl (dt.map Dat.enc))],exA e,.d (bdL sc)] σ (fun v σ'=>v= .d (.int .i64 (E0 fs dt e sc))∧σ'=σ):=by
 obtain ⟨o,n,u,ns,ks,al⟩:=e
 obtain ⟨hg4,hg12,hgal,hgk⟩:=hg
 simp only [Ex.op,Ex.name,Ex.kids,Ex.alts] at hg4 hg12 hgal hgk
 refine NQ (by simp) ?_
 rw [LO,exA,Ex.A4]
 have hfun:=fun s=>Nx ⟨ds,fs⟩ s σ
 simp only [pgA,Pg.enc,AG,AQ] at hfun
 have hctr:=N8 dt hdt n σ
 rw [dsA] at hctr
 by_cases h4:o=4
 · subst h4
   have hv:E0 fs dt (.mk 4 n u ns ks al) sc=if !sc.contains n&&(Ct (CX fs) n).isNone then 3 else 0:=by
    rw [LK,if_pos rfl]
   have hh:=W6 sc n (hg4 rfl) σ
   have hf:=hfun n
   cases h1:sc.contains n with
   |true=>
    rw [h1] at hh
    (repeat' (first|refine Run.ct rfl ?_|((first|refine Run.reg mixed ?_|refine Run.AE ?_|refine Run.A1 Aj (AF.le_refl _) ?_|refine AI.det (hh) ?_)<;>try simp -implicitDefEqProofs only [AU,go_sem])|fail))
    rw [hv,h1];rfl
   |false=>
    rw [h1] at hh
    cases h2:(Ct (CX fs) n).isNone with
    |true=>
     (repeat' (first|refine Run.ct rfl ?_|((first|refine Run.reg mixed ?_|refine Run.AE ?_|refine Run.A1 Aj (AF.le_refl _) ?_|refine AI.det (hh) ?_|refine AI.det (hf) ?_)<;>try simp -implicitDefEqProofs only [AU,Zv,h2,go_sem])|fail))
     rw [hv,h1,h2];rfl
    |false=>
     (repeat' (first|refine Run.ct rfl ?_|((first|refine Run.reg mixed ?_|refine Run.AE ?_|refine Run.A1 Aj (AF.le_refl _) ?_|refine AI.det (hh) ?_|refine AI.det (hf) ?_)<;>try simp -implicitDefEqProofs only [AU,Zv,h2,go_sem])|fail))
     rw [hv,h1,h2];rfl
 by_cases h6:o=6
 · subst h6
   have hv:E0 fs dt (.mk 6 n u ns ks al) sc=match IX dt n with|none=>3|some x=>if ks.length≠arity dt x then 5 else 0:=by
    rw [LK,if_neg (show ¬(6:Int)=4 by decide),if_pos rfl]
    all_goals rfl
   cases hc:IX dt n with
   |none=>
    rw [hc] at hctr hv
    simp only [R4] at hctr
    (repeat' (first|refine Run.ct rfl ?_|((first|refine Run.reg mixed ?_|refine Run.AE ?_|refine Run.A1 Aj (AF.le_refl _) ?_|refine AI.det (hctr) ?_)<;>try simp -implicitDefEqProofs only [AU,go_sem])|fail))
    rw [hv]
   |some x=>
    rw [hc] at hctr hv
    simp only [R4] at hctr
    obtain ⟨d,cc,h1,h2,_⟩:=KA hc
    have har:=M7 (s:=[]) h1 h2
    have hd:=M8 h1
    have hcc:=M6 h2
    have hb:=VB ks.length cc.args.length
    cases hne:(ks.length != cc.args.length) with
    |true=>
     rw [hne] at hb
     (repeat' (first|refine Run.ct rfl ?_|((first|refine Run.reg mixed ?_|refine Run.AE ?_|refine Run.A1 Aj (AF.le_refl _) ?_|refine AI.det (hctr) ?_)<;>try simp -implicitDefEqProofs only [AU,hd,hcc,AA,Dt,hb,go_sem])|fail))
     rw [hv];simp only
     rw [if_pos (by rw [har];simpa using hne)]
    |false=>
     rw [hne] at hb
     (repeat' (first|refine Run.ct rfl ?_|((first|refine Run.reg mixed ?_|refine Run.AE ?_|refine Run.A1 Aj (AF.le_refl _) ?_|refine AI.det (hctr) ?_)<;>try simp -implicitDefEqProofs only [AU,hd,hcc,AA,Dt,hb,go_sem])|fail))
     rw [hv];simp only
     rw [if_neg (by rw [har];simpa using hne)]
 by_cases h8:o=8∨o=11
 · have hv:E0 fs dt (.mk o n u ns ks al) sc=if CA ns then 4 else 0:=by
    rw [LK,if_neg (show ¬o=4 from h4),if_neg (show ¬o=6 from h6),if_pos (show o=8∨o=11 from h8)]
    all_goals rfl
   have hrep:=LG ns σ
   cases hB:CA ns with
   |true=>
    rw [hB] at hrep hv
    rcases h8 with rfl|rfl
    all_goals (repeat' (first|refine Run.ct rfl ?_|((first|refine Run.reg mixed ?_|refine Run.AE ?_|refine Run.A1 Aj (AF.le_refl _) ?_|refine AI.det (hrep) ?_)<;>try simp -implicitDefEqProofs only [AU,go_sem])|fail))
    all_goals (rw [hv];rfl)
   |false=>
    rw [hB] at hrep hv
    rcases h8 with rfl|rfl
    all_goals (repeat' (first|refine Run.ct rfl ?_|((first|refine Run.reg mixed ?_|refine Run.AE ?_|refine Run.A1 Aj (AF.le_refl _) ?_|refine AI.det (hrep) ?_)<;>try simp -implicitDefEqProofs only [AU,go_sem])|fail))
    all_goals (rw [hv];rfl)
 by_cases h10:o=10
 · subst h10
   have hv:E0 fs dt (.mk 10 n u ns ks al) sc=KE dt al:=by
    rw [LK,if_neg (show ¬(10:Int)=4 by decide),if_neg (show ¬(10:Int)=6 by decide),if_neg (show ¬((10:Int)=8∨(10:Int)=11) by decide),if_pos rfl]
    all_goals rfl
   (repeat' (first|refine Run.ct rfl ?_|((first|refine Run.reg mixed ?_|refine Run.AE ?_|refine Run.A1 Aj (AF.le_refl _) ?_|refine AI.det (iC ds fs dt hdt al σ hgal) ?_)<;>try simp -implicitDefEqProofs only [AU,go_sem])|fail))
   rw [hv]
 by_cases h12:o=12
 · subst h12
   obtain ⟨h,t,rfl,hh4⟩:=hg12 rfl
   have hlen:(h::t).length=t.length+1:=rfl
   obtain ⟨xo,xn,xu,xs,xk,xa⟩:=h
   have hv:E0 fs dt (.mk 12 n u ns (.mk xo xn xu xs xk xa::t) al) sc=if decide (xo=4)&& !sc.contains xn then (match Ct (CX fs) xn with|none=>0|some f=>match fs[f]? with|some g=>if g.params.length+1≠t.length+1 then 5 else 0|none=>0) else 0:=by
    rw [LK,if_neg (show ¬(12:Int)=4 by decide),if_neg (show ¬(12:Int)=6 by decide),if_neg (show ¬((12:Int)=8∨(12:Int)=11) by decide),if_neg (show ¬(12:Int)=10 by decide),if_pos rfl]
    all_goals rfl
   simp only [Ex.op,Ex.name] at hh4
   generalize hw:E0 fs dt (.mk 12 n u ns (.mk xo xn xu xs xk xa::t) al) sc=w at hv ⊢
   clear hw
   have hf:=hfun xn
   by_cases hx4:xo=4
   · subst hx4
     have hh:=W6 sc xn (hh4 rfl) σ
     cases h1:sc.contains xn with
     |true=>
      rw [h1] at hh hv
      (repeat' (first|refine Run.ct rfl ?_|((first|refine Run.reg mixed ?_|refine Run.AE ?_|refine Run.A1 Aj (AF.le_refl _) ?_|refine AI.det (hh) ?_)<;>try simp -implicitDefEqProofs only [AU,AG,Ex.A4,DW,V0,go_sem])|fail))
      rw [hv];rfl
     |false=>
      rw [h1] at hh hv
      cases hi:Ct (CX fs) xn with
      |none=>
       rw [hi] at hf hv
       simp only [E9] at hf
       have hneg:decide ((0:Int)≤-1)=false:=by decide
       (repeat' (first|refine Run.ct rfl ?_|((first|refine Run.reg mixed ?_|refine Run.AE ?_|refine Run.A1 Aj (AF.le_refl _) ?_|refine AI.det (hh) ?_|refine AI.det (hf) ?_)<;>try simp -implicitDefEqProofs only [AU,AG,Ex.A4,DW,V0,hneg,go_sem])|fail))
       rw [hv];rfl
      |some f=>
       rw [hi] at hf hv
       simp only [E9] at hf
       obtain ⟨g,hgf,_⟩:=R9 hi
       have hge:=BA (enc:=FE.enc) hgf
       simp only at hv
       rw [hgf] at hv
       obtain ⟨gn,gp,go,gn2,gu,gns,gk,ga⟩:=g
       simp only [FE.enc,Ex.A4] at hge
       have hpos:decide ((0:Int)≤(f:Int))=true:=by simp
       have hsub:IntKind.i64.wrap (((t.length+1:Nat):Int) - 1)=(t.length:Int):=Ie (by simp only [A9] at hgk;omega)
       have hb:=VB t.length gp.length
       simp only [E7,As,decide_true,if_true] at hv
       cases hne:(t.length != gp.length) with
       |true=>
        rw [hne] at hb
        (repeat' (first|refine Run.ct rfl ?_|((first|refine Run.reg mixed ?_|refine Run.AE ?_|refine Run.A1 Aj (AF.le_refl _) ?_|refine AI.det (hh) ?_|refine AI.det (hf) ?_)<;>try simp -implicitDefEqProofs only [AU,AG,Ex.A4,DW,V0,hpos,hge,A9,AA,hsub,hb,go_sem])|fail))
        rw [hv,if_pos (by simp only [bne_iff_ne,ne_eq] at hne;omega)]
       |false=>
        rw [hne] at hb
        (repeat' (first|refine Run.ct rfl ?_|((first|refine Run.reg mixed ?_|refine Run.AE ?_|refine Run.A1 Aj (AF.le_refl _) ?_|refine AI.det (hh) ?_|refine AI.det (hf) ?_)<;>try simp -implicitDefEqProofs only [AU,AG,Ex.A4,DW,V0,hpos,hge,A9,AA,hsub,hb,go_sem])|fail))
        rw [hv,if_neg (by simp only [bne_eq_false_iff_eq] at hne;omega)]
   · have hxf:=C1 hx4
     (repeat' (first|refine Run.ct rfl ?_|((first|refine Run.reg mixed ?_|refine Run.AE ?_|refine Run.A1 Aj (AF.le_refl _) ?_)<;>try simp -implicitDefEqProofs only [AU,AG,Ex.A4,DW,V0,hxf,go_sem])|fail))
     rw [hv,decide_eq_false hx4];rfl
 · have hv:E0 fs dt (.mk o n u ns ks al) sc=0:=by
    rw [LK,if_neg (show ¬o=4 from h4),if_neg (show ¬o=6 from h6),if_neg (show ¬(o=8∨o=11) from h8),if_neg (show ¬o=10 from h10),if_neg (show ¬o=12 from h12)]
   simp only [not_or] at h8
   (repeat' (first|refine Run.ct rfl ?_|((first|refine Run.reg mixed ?_|refine Run.AE ?_|refine Run.A1 Aj (AF.le_refl _) ?_)<;>try simp -implicitDefEqProofs only [C1 h4,C1 h6,C1 h8.1,C1 h8.2,C1 h10,C1 h12,go_sem])|fail))
   rw [hv]
end Go.Ab
namespace Go.Ab
open Go.Proofs
def SlV (v:AV) (rows:List (List DV)):Prop:=v= .d (.sl rows)∨(∃t e s,v= .own t e s rows)∨(rows=[]∧v= .AZ)
theorem SlV.BY {v:AV} {rows:List (List DV)} (h:SlV v rows):v.BY=true:=by
 rcases h with rfl|⟨t,e,s,rfl⟩|⟨rfl,rfl⟩<;>rfl
theorem SlV.cell {v:AV} {rows:List (List DV)} (h:SlV v rows):v.BT=true:=by
 rcases h with rfl|⟨t,e,s,rfl⟩|⟨rfl,rfl⟩<;>rfl
theorem SlV.len {v:AV} {rows:List (List DV)} (h:SlV v rows):NU v=some (.d (.int .i64 rows.length)):=by
 rcases h with rfl|⟨t,e,s,rfl⟩|⟨rfl,rfl⟩<;>rfl
theorem SlV.ix {v:AV} {rows:List (List DV)} (h:SlV v rows) {i:Nat} {r:List DV} (hr:rows[i]?=some r):ixA v (.d (.int .i64 (i:Int))) r.length=some (.ep r 0):=by
 rcases h with rfl|⟨t,e,s,rfl⟩|⟨rfl,rfl⟩
 · simp [ixA,ixR,hr]
 · simp [ixA,ixR,hr]
 · simp at hr
theorem SlV.plain {v:AV} {rows:List (List DV)} (h:SlV v rows):v.plain= .d (.sl rows):=by
 rcases h with rfl|⟨t,e,s,rfl⟩|⟨rfl,rfl⟩<;>simp only [AV.plain]
theorem SlV.dv {v:AV} {rows:List (List DV)} (h:SlV v rows):v.dv=some (.sl rows):=by
 rcases h with rfl|⟨t,e,s,rfl⟩|⟨rfl,rfl⟩<;>rfl
def H0 (cs:List AV) (dl:List Dat):Prop:=cs.length=dl.length * 3∧∀i d,dl[i]?=some d→∃cv,(cs.drop (i * 3)).take 3=[.d (.str d.name),.d (.int .i64 d.vars),cv]∧SlV cv (d.cons.map Con.enc)
theorem H0.at {cs:List AV} {dl:List Dat} (h:H0 cs dl) {i:Nat} {d:Dat} (hd:dl[i]?=some d):
 ∃cv,(cs.drop (i * 3)).take 3=[.d (.str d.name),.d (.int .i64 d.vars),cv]∧SlV cv (d.cons.map Con.enc)∧cs[i * 3]?=some (.d (.str d.name))∧cs[i * 3+1]?=some (.d (.int .i64 d.vars))∧cs[i * 3+2]?=some cv∧(i * 3+3≤cs.length)=True:=by
 obtain ⟨cv,h1,h2⟩:=h.2 i d hd
 have hi:=(AR.1 hd).1
 have g:∀k,k < 3→cs[i * 3+k]?=([.d (.str d.name),.d (.int .i64 d.vars),cv]:List AV)[k]?:=fun k hk=>by
  rw [← h1,BF,if_pos hk,BE]
 refine ⟨cv,h1,h2,g 0 (by omega),g 1 (by omega),g 2 (by omega),?_⟩
 rw [h.1];simp;omega
def DlS (τ:AF) (dl:List Dat) (v:AV):Prop:=(dl=[]∧v= .AZ)∨(∃jd e cs,v= .ms jd dl.length 3 e∧τ.blk jd=some cs∧H0 cs dl)
theorem DlS.len {τ:AF} {dl:List Dat} {v:AV} (h:DlS τ dl v):NU v=some (.d (.int .i64 dl.length)):=by
 rcases h with ⟨rfl,rfl⟩|⟨jd,e,cs,rfl,_,_⟩<;>rfl
theorem DlS.BY {τ:AF} {dl:List Dat} {v:AV} (h:DlS τ dl v):v.BY=true:=by
 rcases h with ⟨rfl,rfl⟩|⟨jd,e,cs,rfl,_,_⟩<;>rfl
theorem DlS.le {τ τ':AF} {dl:List Dat} {v:AV} (h:DlS τ dl v) (hl:τ.le τ'):DlS τ' dl v:=by
 rcases h with ⟨rfl,rfl⟩|⟨jd,e,cs,rfl,hb,hr⟩
 · exact .inl ⟨rfl,rfl⟩
 · exact .inr ⟨jd,e,cs,rfl,hl.blk _ _ hb,hr⟩
theorem QU {fid:FuncId} {caps:List AV} (hb:C2 Tryz.prog fid=true) (hcp:caps.all AV.BY=true) (p:Dat→Bool) (l:List Dat) (v:AV) (σ:AF) (hl:l.length≤1000000) (hv:DlS σ l v)
 (hf:∀d∈l,∀cv,cv.BY=true→cv.BT=true→AL Tryz.prog fid (.agg [.d (.str d.name),.d (.int .i64 d.vars),cv]::caps) σ (fun v σ'=>v= .d (.bool (p d))∧σ'=σ)):
 AL Tryz.prog 129 [v,.fn fid [] caps] σ (fun v σ'=>v= .d (.int .i64 (E9 (l.findIdx? p)))∧σ'=σ):=by
 refine Js (by simp) ?_
 rw [BX]
 have hlen:=hv.len
 rcases hv with ⟨rfl,rfl⟩|⟨jd,e,cs,rfl,hbk,hrows⟩
 · have h0:decide ((0:Int) < 0)=false:=by decide
   (repeat' (first|refine Run.ct rfl ?_|((first|refine Run.reg mixed ?_|refine Run.AE ?_|refine Run.A1 Cl (AF.le_refl _) ?_|(refine Run.loop ?_))<;>try simp -implicitDefEqProofs only [h0,go_sem])|fail))
   rfl
 (repeat' (first|refine Run.ct rfl ?_|((first|refine Run.reg mixed ?_|refine Run.AE ?_)<;>try simp -implicitDefEqProofs only [go_sem])|fail))
 refine Run.BD ?_
 refine Run.BK ((fun (a0:AV) (a1:AV) (a7:AV)=>fun (i:Nat)=>put 0 a0 (put 1 a1 (put 7 a7 (put 8 (.d (.int .i64 i)) U)))) _ _ _) (fun _=>E) (fun _=>σ) (fun i=>i≤l.length∧∀x∈l.take i,p x=false) (fun i=>l.length - i) ?_ 0 ⟨by simp,by simp⟩
 rintro i ⟨hi,hno⟩ ih
 by_cases hlt:i < l.length
 · obtain ⟨x,hx⟩:=BC hlt
   obtain ⟨cv,h1,h2,_,_,_,h3⟩:=hrows.at hx
   have hix:((i:Int) < (l.length:Int))=True:=by simp;omega
   have hw1:=A5 (show i+1≤9000000000000000000 by omega)
   have hc:=hf x (AT hx) cv h2.BY h2.cell
   cases hp:p x with
   |true=>
    rw [hp] at hc
    (repeat' (first|refine Run.ct rfl ?_|((first|refine Run.reg mixed ?_|refine Run.AE ?_|refine Run.A1 Cl (AF.le_refl _) ?_|(refine ⟨fid,[],caps,rfl,hb,AI.det hc ?_ (by simp [hcp,Fb,DM])⟩))<;>try simp -implicitDefEqProofs only [Ac hlt,hix,hbk,h1,h3,hw1,go_sem])|fail))
    rw [DX hno hx hp];rfl
   |false=>
    rw [hp] at hc
    (repeat' (first|refine Run.ct rfl ?_|((first|refine Run.reg mixed ?_|refine Run.AE ?_|(refine ⟨fid,[],caps,rfl,hb,AI.det hc ?_ (by simp [hcp,Fb,DM])⟩))<;>try simp -implicitDefEqProofs only [Ac hlt,hix,hbk,h1,h3,hw1,go_sem])|fail))
    exact ih (i+1) ⟨by omega,Eb hno hx hp⟩ (by omega)
 · (repeat' (first|refine Run.ct rfl ?_|((first|refine Run.reg mixed ?_|refine Run.AE ?_|refine Run.A1 Cl (AF.le_refl _) ?_)<;>try simp -implicitDefEqProofs only [Bi hlt,go_sem])|fail))
   rw [AK (by omega)] at hno
   rw [DY hno];rfl
theorem bM (s nm:Str) (n:Int) (cv:AV) (hcv:cv.BT=true) (j:Nat) (σ:AF) (hj:σ.blk j=some [.d (.str s)]):AL Tryz.prog 130 [.agg [.d (.str nm),.d (.int .i64 n),cv],.gp j 0] σ (fun v σ'=>v= .d (.bool (nm==s))∧σ'=σ):=by
 refine MC (by simp) ?_
 rw [BX]
 (repeat' (first|refine Run.ct rfl ?_|((first|refine Run.reg mixed ?_|refine Run.AE ?_|refine Run.A1 HM (AF.le_refl _) ?_)<;>try simp -implicitDefEqProofs only [hj,BM,hcv,go_sem])|fail))
def IY (l:List Dat):List Str:=l.map (·.name)
theorem X8 (l:List Dat) (s:Str):l.findIdx? (fun x=>x.name==s)=Ct (IY l) s:=by
 rw [← KB,IY,List.findIdx?_map];rfl
theorem Zs (l:List Dat) (dv:AV) (rest:List AV) (jr:Nat) (s:Str) (σ:AF) (hl:l.length≤1000000) (hb:σ.blk jr=some (dv::rest)) (hv:DlS σ l dv):
 AL Tryz.prog 99 [.gp jr 0,.d (.str s)] σ (fun v σ'=>v= .d (.int .i64 (E9 (Ct (IY l) s)))∧σ'=σ):=by
 refine NR (by simp) ?_
 rw [BX]
 (repeat' (first|refine Run.ct rfl ?_|((first|refine Run.reg mixed ?_|refine Run.AE ?_)<;>try simp -implicitDefEqProofs only [go_sem])|fail))
 intro j hj
 have hle:=Bl (cs:=[AV.d (.str s)]) hj
 have hcell:dv.BT=true:=by rcases hv with ⟨_,rfl⟩|⟨jd,e,cs,rfl,_,_⟩<;>rfl
 have hne:jr≠j:=fun e=>by rw [e,hj] at hb;cases hb
 have hc:=QU (fid:=130) (caps:=[.gp j 0]) (by kernel_rfl) rfl (fun x=>x.name==s) l dv (σ.AO j [.d (.str s)]) hl (hv.le hle) (fun d _ cv _ h2=>bM s d.name d.vars cv h2 j _ (by simp only [AM,if_true]))
 rw [X8] at hc
 have hnl:=hv.BY
 (repeat' (first|refine Run.ct rfl ?_|((first|refine Run.reg mixed ?_|refine Run.AE ?_|(refine AI.mk (by simp only [BP,Cp,hnl,Zz,N3]) hc ?_;rintro _ _ ⟨rfl,rfl⟩)|(refine Run.A1 IN (σ2:=σ) hle ?_))<;>try simp -implicitDefEqProofs only [hne,hb,hcell,go_sem])|fail))
def UG (t:TE) (s:Str):Bool:=match t with| .mk k n _=>k==4&&n==s
theorem So (t:TE) (s:Str) (σ:AF):AL Tryz.prog 159 [teA t,.d (.str s)] σ (fun v σ'=>v= .d (.bool (UG t s))∧σ'=σ):=by
 refine JG (by simp) ?_
 rw [BX]
 obtain ⟨k,n,l⟩:=t
 simp only [TE.A4,teA,AG,AQ]
 (repeat' (first|refine Run.ct rfl ?_|(refine QP (by first|exact GV.t|exact GV.f|exact GV.st|exact GV.sf) ⟨?_,fun h=>?_,?_⟩;rotate_left;(focus ((try simp only [AP,JN] at h);simp -implicitDefEqProofs only [BM,go_sem];first|exact Is.mk|exact Is.pv (by simp -implicitDefEqProofs only [h,Pf,↓Ef,↓Gk,↓Eg,BM,go_sem];rfl)));(try simp -implicitDefEqProofs only [Fo,Hm,Hn,↓Ef,↓Gk,↓Eg,BM,Eu,go_sem]))|((first|refine Run.reg mixed ?_|refine Run.AE ?_|refine Run.A1 FM (AF.le_refl _) ?_)<;>try simp -implicitDefEqProofs only [Fo,Hm,Hn,↓Ef,↓Gk,↓Eg,BM,go_sem])|fail))
 rfl
theorem Hh (t:TE) (l:List TE) (s:Str) (vs:List Str):Ea (t::l) (s::vs)=(UG t s&&Ea l vs):=by cases t;rfl
theorem S0:∀ {l:List TE} {vs:List Str},l.length≠vs.length→Ea l vs=false
 |[],[],h=>absurd rfl h
 |[],v::vs,_=>rfl
 |t::l,[],_=>by cases t;rfl
 |t::l,v::vs,h=>by rw [Hh,S0 (by simpa using h),Bm]
theorem WT (l:List TE) (vs:List Str) (σ:AF) (hl:l.length≤1000000):AL Tryz.prog 158 [.d (.sl (l.map TE.enc)),.d (.sl (vs.map Aw)),.fn 159 [] []] σ (fun v σ'=>v= .d (.bool (Ea l vs))∧σ'=σ):=by
 refine Kk (by simp) ?_
 rw [LO]
 have hb:=VB l.length vs.length
 cases hne:(l.length != vs.length) with
 |true=>
  rw [hne] at hb
  (repeat' (first|refine Run.ct rfl ?_|((first|refine Run.reg mixed ?_|refine Run.AE ?_|refine Run.A1 DK (AF.le_refl _) ?_)<;>try simp -implicitDefEqProofs only [AA,hb,go_sem])|fail))
  rw [S0 (by simpa using hne)]
 |false=>
 rw [hne] at hb
 have hlen:l.length=vs.length:=by simpa using hne
 (repeat' (first|refine Run.ct rfl ?_|((first|refine Run.reg mixed ?_|refine Run.AE ?_)<;>try simp -implicitDefEqProofs only [AA,hb,go_sem])|fail))
 refine Run.BD ?_
 refine Run.BK ((fun (a1:AV) (a2:AV) (a15:AV) (a16:AV)=>fun (i:Nat)=>put 1 a1 (put 2 a2 (put 15 a15 (put 16 a16 (put 17 (.d (.int .i64 i)) U))))) _ _ _ _) (fun _=>E) (fun _=>σ) (fun i=>i≤l.length∧Ea l vs=Ea (l.drop i) (vs.drop i)) (fun i=>l.length - i) ?_ 0 ⟨by simp,rfl⟩
 rintro i ⟨hi,hok⟩ ih
 by_cases hlt:i < l.length
 · obtain ⟨x,hx⟩:=BC hlt
   obtain ⟨s,hs⟩:=BC (show i < vs.length by omega)
   have he:=BA (enc:=TE.enc) hx
   have he2:=BA (enc:=Aw) hs
   simp only [Aw] at he2
   have hw1:=A5 (show i+1≤9000000000000000000 by omega)
   have hc:=So x s σ
   rw [B3 hx,B3 hs,Hh] at hok
   cases hp:UG x s with
   |true=>
    rw [hp] at hc hok
    obtain ⟨xk,xn,xl⟩:=x
    simp only [TE.A4,teA,AG,AQ] at he hc
    (repeat' (first|refine Run.ct rfl ?_|((first|refine Run.reg mixed ?_|refine Run.AE ?_|(refine ⟨_,[],[],rfl,by kernel_rfl,AI.det hc ?_⟩))<;>try simp -implicitDefEqProofs only [Ac hlt,he,he2,hw1,go_sem])|fail))
    exact ih (i+1) ⟨by omega,hok⟩ (by omega)
   |false=>
    rw [hp] at hc hok
    obtain ⟨xk,xn,xl⟩:=x
    simp only [TE.A4,teA,AG,AQ] at he hc
    (repeat' (first|refine Run.ct rfl ?_|((first|refine Run.reg mixed ?_|refine Run.AE ?_|refine Run.A1 DK (AF.le_refl _) ?_|(refine ⟨_,[],[],rfl,by kernel_rfl,AI.det hc ?_⟩))<;>try simp -implicitDefEqProofs only [Ac hlt,he,he2,hw1,go_sem])|fail))
    rw [hok];rfl
 · (repeat' (first|refine Run.ct rfl ?_|((first|refine Run.reg mixed ?_|refine Run.AE ?_|refine Run.A1 DK (AF.le_refl _) ?_)<;>try simp -implicitDefEqProofs only [Bi hlt,go_sem])|fail))
   rw [HS (by omega),HS (by omega)] at hok
   rw [hok];rfl
theorem V2 (l:List TE) (dv:AV) (nm:Str) (vs:List Str) (cs:List CE) (jr:Nat) (σ:AF) (hl:l.length≤1000000) (hb:σ.blk jr=some [dv,.d (.str nm),.d (.sl (vs.map Aw)),.d (.sl (cs.map CE.enc))]):
 AL Tryz.prog 131 [.gp jr 0,.d (.sl (l.map TE.enc))] σ (fun v σ'=>v= .d (.bool (Ea l vs))∧σ'=σ):=by
 refine Jr (by simp) ?_
 rw [BX]
 (repeat' (first|refine Run.ct rfl ?_|((first|refine Run.reg mixed ?_|refine Run.AE ?_|refine Run.A1 Fi (AF.le_refl _) ?_|refine AI.det (WT l vs σ hl) ?_)<;>try simp -implicitDefEqProofs only [hb,go_sem])|fail))
end Go.Ab
namespace Go.Ab
open Go.Proofs
def OR:Except Int Ty→AV
 | .ok t=>.tup [tyA t,.d (.int .i64 0)]
 | .error e=>.tup [.agg [.d (.int .i64 0),.d (.int .i64 0),.d (.sl [])],.d (.int .i64 e)]
theorem MH (ds:List (Str×Nat)) (vars:List Str) (m:List TE):∀ {l:List TE} {us:List Ty},Cf ds vars l= .ok us→Cf ds vars (l++m)=(Cf ds vars m).map (us++·)
 |[],us,h=>by
  simp only [Cf,EH] at h;subst h
  simp only [Ay]
  cases Cf ds vars m<;>rfl
 |t::l,us,h=>by
  rw [Cf] at h
  rw [Aa,Cf]
  cases ht:Hi ds vars false t with
  |error e=>rw [ht] at h;cases h
  |ok u=>
   rw [ht] at h
   simp only at h ⊢
   cases hl:Cf ds vars l with
   |error e=>rw [hl] at h;cases h
   |ok ys=>
    rw [hl] at h
    simp only [CP,EH] at h
    subst h
    rw [MH ds vars m hl]
    cases Cf ds vars m<;>rfl
theorem Qy {ds:List (Str×Nat)} {vars:List Str}:(∀(t:TE) (whole:Bool) (e:Int),Hi ds vars whole t= .error e→e≠0):=by
 intro t
 induction h:t.size using Nat.strongRecOn generalizing t with
 |_ N ih=>
 subst h
 obtain ⟨k,n,l⟩:=t
 have hl:∀(l':List TE),(∀x∈l',x.size < (TE.mk k n l).size)→∀e,Cf ds vars l'= .error e→e≠0:=by
  intro l'
  induction l' with
  |nil=>intro _ e h;cases h
  |cons x l' ihl=>
   intro hx e h
   rw [Cf] at h
   cases hxe:Hi ds vars false x with
   |error e'=>rw [hxe] at h;cases h;exact ih x.size (hx x (BG ..)) x rfl false _ hxe
   |ok u=>
    rw [hxe] at h
    cases hle:Cf ds vars l' with
    |error e'=>rw [hle] at h;cases h;exact ihl (fun y hy=>hx y (B6 _ hy)) _ hle
    |ok us=>rw [hle] at h;cases h
 have hsz:∀x∈l,x.size < (TE.mk k n l).size:=fun x hx=>by
  have:=TE.J0 hx;simp only [TE.size];omega
 have hmap:∀(num:Int) e,(Cf ds vars l).map (Ty.mk k num)= .error e→e≠0:=fun num e h=>by
  cases hle:Cf ds vars l with
  |error e'=>rw [hle] at h;cases h;exact hl l hsz _ hle
  |ok us=>rw [hle] at h;cases h
 intro whole e h
 rw [Hi] at h
 split at h
 · split at h
   · cases h;decide
   · exact hmap _ _ h
 · split at h
   · split at h
     · cases h;decide
     · split at h
       · cases h;decide
       · split at h
         · cases h;decide
         · exact hmap _ _ h
   · exact hmap _ _ h
def EZ (dl:List Dat):List (Str×Nat):=dl.map fun d=>(d.name,d.vars.toNat)
def RB (τ:AF) (jr:Nat) (dl:List Dat) (nm:Str) (vars:List Str) (cs:List CE):Prop:=∃dv,τ.blk jr=some [dv,.d (.str nm),.d (.sl (vars.map Aw)),.d (.sl (cs.map CE.enc))]∧DlS τ dl dv
theorem RB.le {τ τ':AF} {jr:Nat} {dl:List Dat} {nm:Str} {vars:List Str} {cs:List CE} (h:RB τ jr dl nm vars cs) (hl:τ.le τ'):RB τ' jr dl nm vars cs:=by
 obtain ⟨dv,h1,h2⟩:=h
 exact ⟨dv,hl.blk _ _ h1,h2.le hl⟩
set_option maxRecDepth 4000 in
set_option maxHeartbeats 4000000 in
theorem Wr (jr:Nat) (dl:List Dat) (nm:Str) (vars:List Str) (cs:List CE) (k num:Int) (l:List TE) (τ:AF) (hrb:RB τ jr dl nm vars cs) (hll:l.length≤1000000)
 (ih:∀x∈l,∀τ',RB τ' jr dl nm vars cs→AL Tryz.prog 100 [.gp jr 0,teA x,.d (.bool false)] τ' (fun v σ'=>v=OR (Hi (EZ dl) vars false x)∧σ'=τ')):
 Run CK (fun v σ'=>v=OR ((Cf (EZ dl) vars l).map (Ty.mk k num))∧σ'=τ) [.code (.loop Ff),.blk 1,.code (.seq (.reg [⟨some 102,.ldl (.t 8) (some 3),none⟩,⟨none,.st (.t 6) (.t 102) 3,none⟩,⟨some 7,.mv (.c (.d (.int .i64 0))),none⟩] [6,7]) .ret)]
  (put 0 (.gp jr 0) (put 6 (.lp 6 0) (put 8 (.lp 8 0) (put 79 (.d (.sl (l.map TE.enc))) (put 80 (.d (.int .i64 l.length)) (put 81 (.d (.int .i64 0)) U)))))) (Az 6 [.d (.int .i64 0),.d (.int .i64 0),.AZ] (Az 8 [.d (.int .i64 k),.d (.int .i64 num),.AZ] E)) τ:=by
 refine Run.BD ?_
 refine Run.BK ((fun (a0:AV) (a6:AV) (a8:AV) (a79:AV) (a80:AV)=>fun (y:Nat×List Ty×AV×AF)=>put 0 a0 (put 6 a6 (put 8 a8 (put 79 a79 (put 80 a80 (put 81 (.d (.int .i64 y.1)) U)))))) _ _ _ _ _) (fun y=>Az 6 [.d (.int .i64 0),.d (.int .i64 0),.AZ] (Az 8 [.d (.int .i64 k),.d (.int .i64 num),y.2.2.1] E)) (fun y=>y.2.2.2)
  (fun y=>y.1≤l.length∧y.2.1.length=y.1∧Cf (EZ dl) vars (l.take y.1)= .ok y.2.1∧Dh τ 57 3 (y.2.1.map Ty.enc) y.2.2.1 y.2.2.2) (fun y=>l.length - y.1) ?_ (0,[],.AZ,τ) ⟨by simp,rfl,rfl,Dh.nil _ _ _⟩
 rintro ⟨i,us,uv,τ1⟩ ⟨hi,hlu,hok,ho⟩ ih2
 simp only at hi hlu hok ho
 by_cases hlt:i < l.length
 · obtain ⟨x,hx⟩:=BC hlt
   have he:=BA (enc:=TE.enc) hx
   have hw1:=A5 (show i+1≤9000000000000000000 by omega)
   have hall:Cf (EZ dl) vars l=(Cf (EZ dl) vars (x::l.drop (i+1))).map (us++·):=by
    conv=>lhs;rw [← A3 i l,B3 hx]
    exact MH _ _ _ hok
   have hsn:Cf (EZ dl) vars (l.take (i+1))=(Cf (EZ dl) vars [x]).map (us++·):=by
    rw [BH hx];exact MH _ _ _ hok
   rw [Cf] at hall
   rw [Cf,Cf] at hsn
   have hc:=ih x (AT hx) τ1 (hrb.le ho.le)
   cases hr:Hi (EZ dl) vars false x with
   |error e=>
    rw [hr] at hc hall
    have hne:=Qy x false e hr
    have hne':(e != 0)=true:=by simpa using hne
    obtain ⟨xk,xn,xl⟩:=x
    simp only [TE.A4,teA,AG,AQ,OR] at he hc
    (repeat' (first|refine Run.ct rfl ?_|((first|refine Run.reg mixed ?_|refine Run.AE ?_|(refine Run.A1 B7 ho.le ?_)|refine AI.det (hc) ?_)<;>try simp -implicitDefEqProofs only [Ac hlt,he,hne',ho.cell,go_sem])|fail))
    rw [hall];rfl
   |ok u=>
    rw [hr] at hc hsn
    simp only [CP] at hsn
    obtain ⟨uk,un,ul⟩:=u
    obtain ⟨xk,xn,xl⟩:=x
    simp only [TE.A4,teA,AG,AQ,OR,tyA,Ty.enc] at he hc
    have h00:((0:Int) != 0)=false:=by decide
    (repeat' (first|refine Run.ct rfl ?_|((first|refine Run.reg mixed ?_|refine Run.AE ?_|(refine EY.own ho rfl (by simp) (by simp;omega) (by decide) (fun v2 σ2 ho2 hbk=>?_))|refine AI.det (hc) ?_)<;>try simp -implicitDefEqProofs only [Ac hlt,he,hw1,h00,ho.cell,ho.cells,ho.BY,ho.BO,go_sem])|fail))
    simp -implicitDefEqProofs only [ho2.cells,ho2.cell,go_sem]
    (repeat' (first|refine Run.ct rfl ?_|((first|refine Run.reg mixed ?_|refine Run.AE ?_)<;>try simp -implicitDefEqProofs only [hw1,ho2.cell,ho2.cells,go_sem])|fail))
    exact ih2 (i+1,us++[.mk uk un ul],v2,σ2) ⟨by simp only;omega,by simp [hlu],hsn,by simpa [Ty.enc] using ho2⟩ (by simp only;omega)
 · rw [AK (by omega)] at hok
   (repeat' (first|refine Run.ct rfl ?_|((first|refine Run.reg mixed ?_|refine Run.AE ?_|(refine Run.A1 B7 ho.le ?_))<;>try simp -implicitDefEqProofs only [Bi hlt,ho.cell,ho.cells,go_sem])|fail))
   rw [ho.plain,hok]
   simp [OR,tyA,Ty.enc,Ty.E8,CP]
theorem iN {dl:List Dat} {i:Nat} {d:Dat} (h:dl[i]?=some d):(EZ dl).getD i ([],0)=(d.name,d.vars.toNat):=by
 rw [Ap,EZ,Ag,h];rfl
theorem Tn (dl:List Dat):(EZ dl).map (·.1)=IY dl:=by simp [EZ,IY]
theorem bF {dl:List Dat} {s:Str} {i:Nat} (h:Ct (IY dl) s=some i):∃d,dl[i]?=some d:=by
 have:=Oe h
 rw [IY,Ag,AD] at this
 obtain ⟨d,hd,_⟩:=this
 exact ⟨d,hd⟩
theorem Z0 (jr:Nat) (dl:List Dat) (hdl:dl.length≤1000000) (hnn:∀d∈dl,0≤d.vars) (nm:Str) (vars:List Str) (cs:List CE):
 ∀(N:Nat) (t:TE) (whole:Bool) (τ:AF),t.size≤N→t.size≤1000000→RB τ jr dl nm vars cs→AL Tryz.prog 100 [.gp jr 0,teA t,.d (.bool whole)] τ (fun v σ'=>v=OR (Hi (EZ dl) vars whole t)∧σ'=τ):=by
 intro N
 induction N with
 |zero=>intro t whole τ h;have:=TE.size_pos t;omega
 |succ N ihN=>
 rintro ⟨k,n,l⟩ whole τ hN hsz hrb
 simp only [TE.size] at hN hsz
 have hlen:=TE.C8 l
 have hloop:=fun num=>Wr jr dl nm vars cs k num l τ hrb (by omega) (fun x hx τ' h=>by
  have:=TE.J0 hx
  exact ihN x false τ' (by omega) (by omega) h)
 clear ihN
 obtain ⟨dv,hb,hdv⟩:=hrb
 refine LZ (by simp) ?_
 rw [LO,teA,TE.A4]
 by_cases h4:k=4
 · subst h4
   have hres:Hi (EZ dl) vars whole (.mk 4 n l)=match Ct vars n with|none=>.error 3|some i=>(Cf (EZ dl) vars l).map (Ty.mk 4 i):=by
    rw [Hi,if_pos rfl];rfl
   have hi:=Mw vars n τ
   cases hix:Ct vars n with
   |none=>
    rw [hix] at hi hres
    simp only [E9] at hi hres
    have hneg:decide ((-1:Int) < 0)=true:=by decide
    (repeat' (first|refine Run.ct rfl ?_|((first|refine Run.reg mixed ?_|refine Run.AE ?_|refine Run.A1 B7 (AF.le_refl _) ?_|refine AI.det (hi) ?_)<;>try simp -implicitDefEqProofs only [AU,hb,hneg,go_sem])|fail))
    rw [hres];rfl
   |some i=>
    rw [hix] at hi hres
    simp only [E9] at hi hres
    have hneg:decide ((i:Int) < 0)=false:=decide_eq_false (by omega)
    rw [hres]
    (repeat' (first|refine Run.ct rfl ?_|((first|refine Run.reg mixed ?_|refine Run.AE ?_|refine AI.det (hi) ?_)<;>try simp -implicitDefEqProofs only [AU,hb,hneg,AA,go_sem])|fail))
    exact hloop i
 by_cases h5:k=5
 · subst h5
   have hres:Hi (EZ dl) vars whole (.mk 5 n l)=match Ct (IY dl) n with|none=>.error 3|some i=>if l.length≠((EZ dl).getD i ([],0)).2 then .error 5 else if i+1=(EZ dl).length∧¬(whole=true∧Ea l vars=true) then .error 7 else (Cf (EZ dl) vars l).map (Ty.mk 5 i):=by
    rw [Hi,if_neg h4,if_pos rfl,Tn];rfl
   have hf:=Zs dl dv _ jr n τ hdl hb hdv
   have hpar:=V2 l dv nm vars cs jr τ (by omega) hb
   cases hix:Ct (IY dl) n with
   |none=>
    rw [hix] at hf hres
    simp only [E9] at hf hres
    have hneg:decide ((-1:Int) < 0)=true:=by decide
    (repeat' (first|refine Run.ct rfl ?_|((first|refine Run.reg mixed ?_|refine Run.AE ?_|refine Run.A1 B7 (AF.le_refl _) ?_|refine AI.det (hf) ?_)<;>try simp -implicitDefEqProofs only [AU,hneg,go_sem])|fail))
    rw [hres];rfl
   |some i=>
    obtain ⟨d,hd⟩:=bF hix
    have hil:=(AR.1 hd).1
    have hdn:=hnn d (AT hd)
    rw [hix] at hf hres
    simp only [E9] at hf hres
    rw [iN hd] at hres
    have hneg:decide ((i:Int) < 0)=false:=decide_eq_false (by omega)
    rcases hdv with ⟨rfl,_⟩|⟨jd,e,cells,rfl,hbd,hrows⟩
    · simp at hil
    obtain ⟨cv,_,_,_,g1,_,_⟩:=hrows.at hd
    have hixx:((i:Int) < (dl.length:Int))=True:=by simp;omega
    have hcmp:((l.length:Int) != d.vars)=decide (l.length≠d.vars.toNat):=by
     rw [Af];simp only [bne_iff_ne,ne_eq,decide_eq_true_eq];omega
    by_cases hA:l.length≠d.vars.toNat
    · rw [decide_eq_true hA] at hcmp
      rw [if_pos hA] at hres
      (repeat' (first|refine Run.ct rfl ?_|((first|refine Run.reg mixed ?_|refine Run.AE ?_|refine Run.A1 B7 (AF.le_refl _) ?_|refine AI.det (hf) ?_)<;>try simp -implicitDefEqProofs only [AU,hb,hneg,AA,hixx,hbd,g1,hcmp,go_sem])|fail))
      rw [hres];rfl
    · rw [decide_eq_false hA] at hcmp
      rw [if_neg hA] at hres
      have hw1:IntKind.i64.wrap ((dl.length:Int) - 1)=((dl.length - 1:Nat):Int):=by rw [BL (by omega) (by omega)];omega
      have hlast:((i:Int)==((dl.length - 1:Nat):Int))=decide (i+1=(EZ dl).length):=by
       rw [Af];simp only [beq_iff_eq,decide_eq_true_eq,EZ,AA];omega
      by_cases hB:i+1=(EZ dl).length
      · rw [decide_eq_true hB] at hlast
        cases whole with
        |false=>
         rw [if_pos ⟨hB,by simp⟩] at hres
         (repeat' (first|refine Run.ct rfl ?_|((first|refine Run.reg mixed ?_|refine Run.AE ?_|refine Run.A1 B7 (AF.le_refl _) ?_|refine AI.det (hf) ?_)<;>try simp -implicitDefEqProofs only [AU,hb,hneg,AA,hixx,hbd,g1,hcmp,hw1,hlast,go_sem])|fail))
         rw [hres];rfl
        |true=>
         cases hC:Ea l vars with
         |false=>
          rw [hC] at hpar
          rw [if_pos ⟨hB,by simp [hC]⟩] at hres
          (repeat' (first|refine Run.ct rfl ?_|((first|refine Run.reg mixed ?_|refine Run.AE ?_|refine Run.A1 B7 (AF.le_refl _) ?_|refine AI.det (hf) ?_|refine AI.det (hpar) ?_)<;>try simp -implicitDefEqProofs only [AU,hb,hneg,AA,hixx,hbd,g1,hcmp,hw1,hlast,go_sem])|fail))
          rw [hres];rfl
         |true=>
          rw [hC] at hpar
          rw [if_neg (by simp [hC])] at hres
          rw [hres]
          (repeat' (first|refine Run.ct rfl ?_|((first|refine Run.reg mixed ?_|refine Run.AE ?_|refine AI.det (hf) ?_|refine AI.det (hpar) ?_)<;>try simp -implicitDefEqProofs only [AU,hb,hneg,AA,hixx,hbd,g1,hcmp,hw1,hlast,go_sem])|fail))
          exact hloop i
      · rw [decide_eq_false hB] at hlast
        rw [if_neg (fun h=>hB h.1)] at hres
        rw [hres]
        (repeat' (first|refine Run.ct rfl ?_|((first|refine Run.reg mixed ?_|refine Run.AE ?_|refine AI.det (hf) ?_)<;>try simp -implicitDefEqProofs only [AU,hb,hneg,AA,hixx,hbd,g1,hcmp,hw1,hlast,go_sem])|fail))
        exact hloop i
 · have hres:Hi (EZ dl) vars whole (.mk k n l)=(Cf (EZ dl) vars l).map (Ty.mk k 0):=by rw [Hi,if_neg h4,if_neg h5]
   rw [hres]
   (repeat' (first|refine Run.ct rfl ?_|((first|refine Run.reg mixed ?_|refine Run.AE ?_)<;>try simp -implicitDefEqProofs only [C1 h4,C1 h5,AA,go_sem])|fail))
   exact hloop 0
end Go.Ab
