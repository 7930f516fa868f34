/- Scope: constructors, rows of flags, the walk over a function. Scope: the alternatives of a match. Scope: the alternatives of a match, looked at. Conditions: none. -/
import Derived.Test.YtlckhmkeihbhmaaGreatXVa
set_option linter.unusedSimpArgs false
set_option linter.unusedVariables false
set_option maxRecDepth 4000
set_option maxHeartbeats 8000000
open List renaming cons_append→Aa,mem_cons_self→BG,mem_cons_of_mem→B6,length_cons→A9,getElem?_eq_some_iff→AR,take_append_drop→A3,findIdx?_eq_some_iff_getElem→dW,length_map→AA,mem_of_getElem?→AT,take_of_length_le→AK,set_eq_take_append_cons_drop→LN,replicate→AH,replicate_succ→EC,flatten_cons→Dq,nil_append→Ay,map_cons→AG,map_nil→AQ,range→An,ext_getElem?→Fq,getElem?_eq_none→BI,contains_iff_mem→A8,mem_append→A7,mem_singleton→Bd,getElem?_set→BW,all_eq_true→Ah,mem_map→Dr,mem_range→Ci,length_range→Lc,mem_cons→Bc,length_nil→CN,length_pos_iff→El
open Option renaming map_eq_some_iff→AD
open Nat renaming mul_one→Ax,le_refl→A0,zero_add→Am
open Bool renaming eq_iff_iff→Af,and_eq_true→AP,not_eq_true'→B1,or_eq_false_iff→N7,eq_false_iff→CU,and_false→Bm,not_false→E7,and_true→As,true_or→JO,false_and→B5,true_and→Au
open Prod.mk renaming injEq→B4
open Except.ok renaming injEq→EH
open Except renaming map→CP
namespace Go.Ab
open Go.Proofs
theorem Fz (l:List Con) (s:Str):l.findIdx? (fun c=>c.name==s)=HK l s:=by
 induction l with
 |nil=>rfl
 |cons x l ih=>
  rw [List.findIdx?_cons,HK]
  split
  · rfl
  · rw [ih]
theorem R5 (s:Str):∀(l m:List Dat),(∀d∈l,HK d.cons s=none)→IX (l++m) s=(IX m s).map fun x=>(x.1+l.length,x.2)
 |[],m,_=>by simp
 |d::l,m,h=>by
  rw [Aa,IX,h d (BG ..),R5 s l m (fun x hx=>h x (B6 _ hx))]
  simp only [Option.map_map,A9]
  congr 1
theorem W1 {s:Str} {dt:List Dat} {i k:Nat} {d:Dat} (h:∀d∈dt.take i,HK d.cons s=none) (hd:dt[i]?=some d) (hk:HK d.cons s=some k):IX dt s=some (i,k):=by
 have hi:=(AR.1 hd).1
 rw [← A3 i dt,R5 s _ _ h,B3 hd,IX,hk]
 simp;omega
theorem W2 {s:Str} {dt:List Dat} (h:∀d∈dt,HK d.cons s=none):IX dt s=none:=by
 have:=R5 s dt [] h
 simpa [IX] using this
theorem Yg {l:List Con} {s:Str} {k:Nat} (h:HK l s=some k):∃c,l[k]?=some c∧c.name=s:=by
 rw [← Fz,dW] at h
 obtain ⟨h1,h2,_⟩:=h
 exact ⟨l[k],by simp [h1],by simpa using h2⟩
theorem KA {s:Str}:∀ {dt:List Dat} {x:Nat×Nat},IX dt s=some x→∃d c,dt[x.1]?=some d∧d.cons[x.2]?=some c∧c.name=s
 |[],x,h=>by simp [IX] at h
 |d::l,x,h=>by
  rw [IX] at h
  split at h
  · rename_i k hk
    cases h
    obtain ⟨c,hc,hn⟩:=Yg hk
    exact ⟨d,c,rfl,hc,hn⟩
  · simp only [AD] at h
    obtain ⟨y,hy,rfl⟩:=h
    obtain ⟨d',c,h1,h2,h3⟩:=KA hy
    exact ⟨d',c,by simpa using h1,h2,h3⟩
theorem M7 {s:Str} {dt:List Dat} {x:Nat×Nat} {d:Dat} {c:Con} (h1:dt[x.1]?=some d) (h2:d.cons[x.2]?=some c):arity dt x=c.args.length:=by
 simp [arity,h1,h2]
def R4 (o:Option (Nat×Nat)):AV:=match o with
 |some x=>.tup [.d (.int .i64 x.1),.d (.int .i64 x.2),.d (.bool true)]
 |none=>.tup [.d (.int .i64 0),.d (.int .i64 0),.d (.bool false)]
def QS (dt:List Dat):Prop:=∀d∈dt,d.cons.length≤1000000
theorem N8 (dt:List Dat) (hdt:QS dt) (s:Str) (σ:AF):AL Tryz.prog 74 [dsA dt,.d (.str s)] σ (fun v σ'=>v=R4 (IX dt s)∧σ'=σ):=by
 refine Jg (by simp) ?_
 rw [BX,dsA]
 refine Run.slot 0 (fun hb0=>?_)
 simp only [EX,if_true,AV.FY,AA] at hb0
 (repeat' (first|refine Run.ct rfl ?_|((first|refine Run.reg mixed ?_|refine Run.AE ?_)<;>try simp -implicitDefEqProofs only [AA,go_sem])|fail))
 refine Run.BD ?_
 refine Run.BK ((fun (a0:AV) (a1:AV) (a10:AV)=>fun (i:Nat)=>put 0 a0 (put 1 a1 (put 10 a10 (put 11 (.d (.int .i64 i)) U)))) _ _ _) (fun _=>E) (fun _=>σ) (fun i=>i≤dt.length∧∀d∈dt.take i,HK d.cons s=none) (fun i=>dt.length - i) ?_ 0 ⟨by simp,by simp⟩
 rintro i ⟨hi,hno⟩ ih
 by_cases hlt:i < dt.length
 · obtain ⟨d,hd⟩:=BC hlt
   have he:=M8 hd
   have hw1:IntKind.i64.wrap ((i:Int)+1)=((i+1:Nat):Int):=by rw [BL (by omega) (by omega)];omega
   (repeat' (first|refine Run.ct rfl ?_|((first|refine Run.reg mixed ?_|refine Run.AE ?_)<;>try simp -implicitDefEqProofs only [Ac hlt,he,go_sem])|fail))
   have hdl:=hdt d (AT hd)
   have hat:=fun k=>W1 (k:=k) hno hd
   rw [← Fz] at hat
   have hnext:=fun (h:HK d.cons s=none)=>Eb (p:=fun d:Dat=>(HK d.cons s).isSome) (i:=i) (fun y hy=>by simp [hno y hy]) hd (by rw [h];rfl)
   obtain ⟨dn,dv,cs⟩:=d
   simp only [AA] at *
   (repeat' (first|refine Run.ct rfl ?_|((first|refine Run.reg mixed ?_|refine Run.AE ?_)<;>try simp -implicitDefEqProofs only [AA,go_sem])|fail))
   refine Run.BD ?_
   refine Run.BK ((fun (a0:AV) (a1:AV) (a7:AV) (a10:AV) (a11:AV) (a19:AV)=>fun (k:Nat)=>put 0 a0 (put 1 a1 (put 7 a7 (put 10 a10 (put 11 a11 (put 19 a19 (put 20 (.d (.int .i64 k)) U))))))) _ _ _ _ _ _) (fun _=>E) (fun _=>σ) (fun k=>k≤cs.length∧∀c∈cs.take k,(c.name==s)=false) (fun k=>cs.length - k) ?_ 0 ⟨by simp,by simp⟩
   rintro k ⟨hk,hnk⟩ ih2
   by_cases hkl:k < cs.length
   · obtain ⟨c,hc⟩:=BC hkl
     have hec:=M6 hc
     have hwk:=A5 (show k+1≤9000000000000000000 by omega)
     cases hs:(c.name==s) with
     |true=>
      (repeat' (first|refine Run.ct rfl ?_|((first|refine Run.reg mixed ?_|refine Run.AE ?_|refine Run.A1 DA (AF.le_refl _) ?_)<;>try simp -implicitDefEqProofs only [Ac hkl,he,hec,BM,hs,go_sem])|fail))
      rw [hat k (DX (p:=fun c:Con=>c.name==s) hnk hc hs)];rfl
     |false=>
      (repeat' (first|refine Run.ct rfl ?_|((first|refine Run.reg mixed ?_|refine Run.AE ?_)<;>try simp -implicitDefEqProofs only [Ac hkl,he,hec,hwk,BM,hs,go_sem])|fail))
      exact ih2 (k+1) ⟨by omega,Eb (p:=fun c:Con=>c.name==s) hnk hc hs⟩ (by omega)
   · rw [AK (by omega)] at hnk
     (repeat' (first|refine Run.ct rfl ?_|((first|refine Run.reg mixed ?_|refine Run.AE ?_)<;>try simp -implicitDefEqProofs only [Bi hkl,hw1,go_sem])|fail))
     refine ih (i+1) ⟨by omega,fun y hy=>?_⟩ (by omega)
     have:=hnext (by rw [← Fz,DY (p:=fun c:Con=>c.name==s) hnk]) y hy
     simpa using this
 · (repeat' (first|refine Run.ct rfl ?_|((first|refine Run.reg mixed ?_|refine Run.AE ?_|refine Run.A1 DA (AF.le_refl _) ?_)<;>try simp -implicitDefEqProofs only [Bi hlt,go_sem])|fail))
   rw [AK (by omega)] at hno
   rw [W2 hno];rfl
def BZ (l:List Bool):List AV:=l.map fun b=>.d (.bool b)
theorem Oa (l:List Bool):(BZ l).length=l.length:=by simp [BZ]
theorem Em {l:List Bool} {k:Nat} {x:Bool} (h:l[k]?=some x):(BZ l)[k]?=some (.d (.bool x)):=by simp [BZ,h]
theorem QX {l:List Bool} {k:Nat} (x:Bool) (h:k < l.length):wr (BZ l) k [.d (.bool x)]=BZ (l.set k x):=by
 unfold wr BZ
 rw [List.map_set,LN,if_pos (by simpa using h)]
 simp
theorem Ob (n:Nat):(AH n [AV.d (.bool false)]).flatten=BZ (AH n false):=by
 induction n with
 |zero=>rfl
 |succ n ih=>rw [EC,Dq,ih,EC];rfl
theorem Ux (l:List Bool) (b:Bool) (j e:Nat) (σ:AF) (hj:σ.blk j=some (BZ l)) (hl:l.length≤1000000000):AL Tryz.prog 132 [.ms j l.length 1 e,.d (.bool b)] σ (fun v σ'=>v= .d (.int .i64 (E9 (l.findIdx? (fun x=>b==x))))∧σ'=σ):=by
 refine Jh (by simp) ?_
 rw [BX]
 (repeat' (first|refine Run.ct rfl ?_|((first|refine Run.reg mixed ?_|refine Run.AE ?_)<;>try simp -implicitDefEqProofs only [go_sem])|fail))
 refine Run.BD ?_
 refine Run.BK ((fun (a0:AV) (a1:AV) (a7:AV)=>fun (i:Nat)=>put 0 a0 (put 1 a1 (put 7 a7 (put 8 (.d (.int .i64 i)) U)))) _ _ _) (fun _=>E) (fun _=>σ) (fun i=>i≤l.length∧∀x∈l.take i,(b==x)=false) (fun i=>l.length - i) ?_ 0 ⟨by simp,by simp⟩
 rintro i ⟨hi,hno⟩ ih
 by_cases hlt:i < l.length
 · obtain ⟨x,hx⟩:=BC hlt
   have he:=Em hx
   have hix:((i:Int) < (l.length:Int))=True:=by simp;omega
   have hw1:=A5 (show i+1≤9000000000000000000 by omega)
   cases hp:(b==x) with
   |true=>
    (repeat' (first|refine Run.ct rfl ?_|((first|refine Run.reg mixed ?_|refine Run.AE ?_|refine Run.A1 Ek (AF.le_refl _) ?_)<;>try simp -implicitDefEqProofs only [Ac hlt,hix,hj,he,hp,Ax,go_sem])|fail))
    rw [DX (p:=fun x=>b==x) hno hx hp];rfl
   |false=>
    (repeat' (first|refine Run.ct rfl ?_|((first|refine Run.reg mixed ?_|refine Run.AE ?_)<;>try simp -implicitDefEqProofs only [Ac hlt,hix,hj,he,hw1,hp,Ax,go_sem])|fail))
    exact ih (i+1) ⟨by omega,Eb (p:=fun x=>b==x) hno hx hp⟩ (by omega)
 · (repeat' (first|refine Run.ct rfl ?_|((first|refine Run.reg mixed ?_|refine Run.AE ?_|refine Run.A1 Ek (AF.le_refl _) ?_)<;>try simp -implicitDefEqProofs only [Bi hlt,go_sem])|fail))
   rw [AK (by omega)] at hno
   rw [DY (p:=fun x=>b==x) hno];rfl
theorem RO (l:List Bool) (b:Bool) (j e:Nat) (σ:AF) (hj:σ.blk j=some (BZ l)) (hl:l.length≤1000000000):AL Tryz.prog 102 [.ms j l.length 1 e,.d (.bool b)] σ (fun v σ'=>v= .d (.bool (l.any (fun x=>b==x)))∧σ'=σ):=by
 refine Hd (by simp) ?_
 rw [BX]
 (repeat' (first|refine Run.ct rfl ?_|((first|refine Run.reg mixed ?_|refine Run.AE ?_|refine Run.A1 FT (AF.le_refl _) ?_|refine AI.det (Ux l b j e σ hj hl) ?_)<;>try simp -implicitDefEqProofs only [Od,Il,go_sem])|fail))
theorem S7 (b:Bool) (σ:AF):AL Tryz.prog 102 [.AZ,.d (.bool b)] σ (fun v σ'=>v= .d (.bool false)∧σ'=σ):=by
 have hi:AL Tryz.prog 132 [.AZ,.d (.bool b)] σ (fun v σ'=>v= .d (.int .i64 (-1))∧σ'=σ):=by
  refine Jh (by simp) ?_
  rw [BX]
  have h0:decide ((0:Int) < 0)=false:=by decide
  (repeat' (first|refine Run.ct rfl ?_|((first|refine Run.reg mixed ?_|refine Run.AE ?_|refine Run.A1 Ek (AF.le_refl _) ?_|(refine Run.loop ?_))<;>try simp -implicitDefEqProofs only [h0,go_sem])|fail))
 refine Hd (by simp) ?_
 rw [BX]
 have h1:decide ((0:Int)≤-1)=false:=by decide
 (repeat' (first|refine Run.ct rfl ?_|((first|refine Run.reg mixed ?_|refine Run.AE ?_|refine Run.A1 FT (AF.le_refl _) ?_|refine AI.det (hi) ?_)<;>try simp -implicitDefEqProofs only [h1,go_sem])|fail))
theorem Us {S:Type} (vis:S→Ex×List Str→Int×S) (hS:S→AF) (fid:FuncId) (first caps:List AV) (hb:C2 Tryz.prog fid=true) (hfi:first.all AV.BY=true) (hca:caps.all AV.BY=true)
 (f:FE) (s:S) (hsz:f.body.size≤1000000) (hfr:∀t j,(hS s).blk j=none→(hS t).blk j=none) (hvis:∀j,(hS s).blk j=none→Zm vis hS j (.fn fid first caps) fid first caps (Ba f.body f.params)):
 AL Tryz.prog 30 [feA f,.fn fid first caps] (hS s) (fun v σ'=>match G9 vis (Ba f.body f.params) s with
  |(none,s')=>v= .tup [.d (.int .i64 ((f.body.size - 1:Nat):Int)),.d (.int .i64 0)]∧σ'=hS s'
  |(some (k,c),s')=>v= .tup [.d (.int .i64 (k:Nat)),.d (.int .i64 c)]∧σ'=hS s'):=by
 refine Sj (by simp) ?_
 rw [BX]
 have hw:=fun σ=>Ol [] f.params σ
 rw [show bdL []= .Es from rfl] at hw
 have hw':∀σ,AL Tryz.prog 64 [.Es,.d (.sl (f.params.map Aw))] σ (fun v σ'=>v= .d (bdL f.params)∧σ'=σ):=fun σ=>AL.plain (by simpa only [AV.DI,UR,G0,Ay] using hw σ)
 clear hw
 have hwalk:=fun j hj=>jZ vis hS j fid first caps hb hfi hca _ f.body f.params 0 s (A0 _) (by omega) (hvis j hj)
 have hnn:=K4 f.body f.params
 have hblk:∀j n s,(WH hS j (.fn fid first caps) n s).blk j=some [.d (.int .i64 n),.fn fid first caps]:=fun j n s=>by simp only [WH,AM,if_true]
 rcases hr:G9 vis (Ba f.body f.params) s with ⟨_|⟨k,c⟩,s'⟩
 · have hwalk:∀j,(hS s).blk j=none→AL Tryz.prog 63 [.gp j 0,exA f.body,.d (bdL f.params)] (WH hS j (.fn fid first caps) 0 s) (fun v σ'=>v= .d (.int .i64 0)∧σ'=WH hS j (.fn fid first caps) (f.body.size - 1) s'):=fun j hj=>(hwalk j hj).mono (by
    intro v σ' h
    simp only [WQ,hr] at h
    rw [hnn,Am] at h
    exact h)
   obtain ⟨nm,ps,o,n,u,ns,ks,al⟩:=f
   simp only [FE.enc,Ex.A4,feA,exA,AG,AQ] at hw' hwalk ⊢
   (repeat' (first|refine Run.ct rfl ?_|((first|refine Run.reg mixed ?_|refine Run.AE ?_)<;>try simp -implicitDefEqProofs only [go_sem])|fail))
   intro j hj
   have h0:(hS s).AO j [.d (.int .i64 0),.fn fid first caps]=WH hS j (.fn fid first caps) 0 s:=rfl
   rw [h0]
   have hle:(hS s').le (WH hS j (.fn fid first caps) ((Ex.mk o n u ns ks al).size - 1) s'):=Bl (hfr s' j hj)
   (repeat' (first|refine Run.ct rfl ?_|((first|refine Run.reg mixed ?_|refine Run.AE ?_|(refine AI.mk rfl (hwalk j hj) ?_;rintro _ _ ⟨rfl,rfl⟩)|(refine Run.A1 JW hle ?_)|refine AI.det (hw' _) ?_)<;>try simp -implicitDefEqProofs only [hblk,go_sem])|fail))
 · have hwalk:∀j,(hS s).blk j=none→AL Tryz.prog 63 [.gp j 0,exA f.body,.d (bdL f.params)] (WH hS j (.fn fid first caps) 0 s) (fun v σ'=>v= .d (.int .i64 c)∧σ'=WH hS j (.fn fid first caps) k s'):=fun j hj=>(hwalk j hj).mono (by
    intro v σ' h
    simp only [WQ,hr] at h
    rw [Am] at h
    exact h.2)
   obtain ⟨nm,ps,o,n,u,ns,ks,al⟩:=f
   simp only [FE.enc,Ex.A4,feA,exA,AG,AQ] at hw' hwalk ⊢
   (repeat' (first|refine Run.ct rfl ?_|((first|refine Run.reg mixed ?_|refine Run.AE ?_)<;>try simp -implicitDefEqProofs only [go_sem])|fail))
   intro j hj
   have h0:(hS s).AO j [.d (.int .i64 0),.fn fid first caps]=WH hS j (.fn fid first caps) 0 s:=rfl
   rw [h0]
   have hle:(hS s').le (WH hS j (.fn fid first caps) k s'):=Bl (hfr s' j hj)
   (repeat' (first|refine Run.ct rfl ?_|((first|refine Run.reg mixed ?_|refine Run.AE ?_|(refine AI.mk rfl (hwalk j hj) ?_;rintro _ _ ⟨rfl,rfl⟩)|(refine Run.A1 JW hle ?_)|refine AI.det (hw' _) ?_)<;>try simp -implicitDefEqProofs only [hblk,go_sem])|fail))
end Go.Ab
namespace Go.Ab
open Go.Proofs
theorem Og {α:Type} [DecidableEq α]:∀ {l m:List α},l.Nodup→(∀x∈l,x∈m)→l.length≤m.length
 |[],m,_,_=>by simp
 |x::l,m,hn,hs=>by
  have hx:=hs x (BG ..)
  have h1:(m.erase x).length=m.length - 1:=List.length_erase_of_mem hx
  have h2:=List.length_pos_of_mem hx
  have h3:l.length≤(m.erase x).length:=Og (List.nodup_cons.1 hn).2 (fun y hy=>(List.mem_erase_of_ne (by
   rintro rfl;exact (List.nodup_cons.1 hn).1 hy)).2 (hs y (B6 _ hy)))
  simp only [A9];omega
def Cn:List (Nat×Nat)→Nat
 |[]=>0
 |x::_=>x.1
def flg (xs:List (Nat×Nat)) (f n:Nat):List Bool:=(An n).map fun q=>xs.contains (f,q)
def exB:List (Nat×Nat)→Bool
 |[]=>true
 |x::l=>(x::l).all (fun y=>y.1==x.1)&&decide (x::l).Nodup
theorem LB (xs:List (Nat×Nat)) (f n:Nat):(flg xs f n).length=n:=by simp [flg]
theorem TL (xs:List (Nat×Nat)) {f n q:Nat} (h:q < n):(flg xs f n)[q]?=some (xs.contains (f,q)):=by simp [flg,h]
theorem iW (f n:Nat):flg [] f n=AH n false:=by
 apply Fq
 intro q
 by_cases h:q < n
 · rw [TL _ h];simp [h]
 · rw [BI (by simp [LB];omega),BI (by simp;omega)]
theorem eZ {xs:List (Nat×Nat)} {f n d k:Nat} (h:d≠f∨(f,k)∈xs):flg (xs++[(d,k)]) f n=flg xs f n:=by
 unfold flg
 apply List.map_congr_left
 intro q _
 rw [Af]
 simp only [A8,A7,Bd,B4]
 constructor
 · rintro (h1|⟨rfl,rfl⟩)
   · exact h1
   · rcases h with h|h
     · exact absurd rfl h
     · exact h
 · exact .inl
theorem Zt {xs:List (Nat×Nat)} {f n k:Nat} (hk:k < n):(flg xs f n).set k true=flg (xs++[(f,k)]) f n:=by
 apply Fq
 intro q
 by_cases h:q < n
 · rw [TL _ h,BW]
   by_cases hq:k=q
   · subst hq
     rw [if_pos rfl,if_pos (by rw [LB];exact hk)]
     congr 1
     simp
   · rw [if_neg hq,TL _ h]
     congr 1
     rw [Af]
     simp only [A8,A7,Bd,B4,true_and]
     constructor
     · exact .inl
     · rintro (h1|h1)
       · exact h1
       · exact absurd h1.symm hq
 · rw [BI (by simp [LB];omega),BI (by simp [LB];omega)]
theorem XZ {xs:List (Nat×Nat)} (hne:xs≠[]) (d k:Nat):exB (xs++[(d,k)])=(exB xs&& !(d != Cn xs||xs.contains (Cn xs,k))):=by
 cases xs with
 |nil=>exact absurd rfl hne
 |cons x l=>
  simp only [Aa,exB,Cn]
  rw [Af]
  simp only [AP,Ah,beq_iff_eq,decide_eq_true_eq,B1,N7,bne_eq_false_iff_eq]
  rw [show x::(l++[(d,k)])=(x::l)++[(d,k)] from rfl,List.nodup_append]
  constructor
  · rintro ⟨h1,h2,_,h3⟩
    have hd:d=x.1:=h1 (d,k) (by simp)
    refine ⟨⟨fun y hy=>h1 y (by simp only [A7];exact .inl hy),h2⟩,hd,?_⟩
    rw [CU]
    intro hc
    have:=h3 _ (A8.1 hc) (d,k) (by simp)
    exact this (by rw [hd])
  · rintro ⟨⟨h1,h2⟩,rfl,h3⟩
    refine ⟨fun y hy=>?_,h2,by simp,fun a ha b hb=>?_⟩
    · rcases A7.1 hy with hy|hy
      · exact h1 y hy
      · simp only [Bd] at hy;subst hy;rfl
    · simp only [Bd] at hb;subst hb
      rintro rfl
      rw [A8.2 ha] at h3;cases h3
theorem bH {dt:List Dat} {xs:List (Nat×Nat)} (hne:xs≠[]) (hk:∀x∈xs,x.1=Cn xs→x.2 < Fl dt (Cn xs)):
 Tp dt xs=(exB xs&& !(flg xs (Cn xs) (Fl dt (Cn xs))).any (fun x=>false==x)):=by
 cases xs with
 |nil=>exact absurd rfl hne
 |cons x l=>
  simp only [Tp,exB,Cn] at hk ⊢
  generalize hxs:x::l=xs at hk ⊢
  generalize Fl dt x.1=n at hk ⊢
  rw [Af]
  simp only [AP,Ah,beq_iff_eq,decide_eq_true_eq,B1,List.any_eq_false]
  constructor
  · rintro ⟨⟨h1,h2⟩,h3⟩
    refine ⟨⟨h1,h2⟩,fun b hb=>?_⟩
    simp only [flg,Dr,Ci] at hb
    obtain ⟨q,hq,rfl⟩:=hb
    intro hc
    have hc':¬(x.1,q)∈xs:=fun hm=>by rw [A8.2 hm] at hc;cases hc
    have:=Og (m:=((An n).map fun q=>(x.1,q)).erase (x.1,q)) h2 (fun y hy=>by
     have hy1:=h1 y hy
     rw [List.mem_erase_of_ne (by rintro rfl;exact hc' hy)]
     rw [Dr]
     exact ⟨y.2,by rw [Ci];exact hk y hy hy1,by rw [← hy1]⟩)
    rw [List.length_erase_of_mem (by rw [Dr];exact ⟨q,by simpa using hq,rfl⟩),AA,Lc] at this
    omega
  · rintro ⟨⟨h1,h2⟩,h3⟩
    refine ⟨⟨h1,h2⟩,?_⟩
    have hle:=Og (m:=(An n).map fun q=>(x.1,q)) h2 (fun y hy=>by
     rw [Dr]
     exact ⟨y.2,by rw [Ci];exact hk y hy (h1 y hy),by rw [← h1 y hy]⟩)
    have hge:=Og (l:=(An n).map fun q=>(x.1,q)) (m:=xs) (by
     rw [List.nodup_iff_pairwise_ne,List.pairwise_map]
     exact List.Pairwise.imp (fun h he=>h (Prod.mk.inj he).2) List.nodup_range) (fun y hy=>by
     rw [Dr] at hy
     obtain ⟨q,hq,rfl⟩:=hy
     have:=h3 (xs.contains (x.1,q)) (by simp only [flg,Dr];exact ⟨q,hq,rfl⟩)
     cases hc:xs.contains (x.1,q) with
     |true=>exact A8.1 hc
     |false=>rw [hc] at this;simp at this)
    rw [AA,Lc] at hle hge
    omega
theorem KD (dt:List Dat) (m:List Al):∀ {l:List Al} {xs:List (Nat×Nat)},Cg dt l= .ok xs→Cg dt (l++m)=(Cg dt m).map (xs++·)
 |[],xs,h=>by
  simp only [Cg,EH] at h;subst h
  simp only [Ay]
  cases Cg dt m<;>rfl
 | .mk c vs b::l,xs,h=>by
  rw [Aa,Cg]
  rw [Cg] at h
  cases hc:IX dt c with
  |none=>rw [hc] at h;cases h
  |some x=>
   rw [hc] at h
   simp only at h ⊢
   split at h
   · cases h
   · split at h
     · cases h
     · rename_i h1 h2
       rw [if_neg h1,if_neg h2]
       cases hl:Cg dt l with
       |error e=>rw [hl] at h;cases h
       |ok ys=>
        rw [hl] at h
        simp only [CP,EH] at h
        subst h
        rw [KD dt m hl]
        cases Cg dt m<;>rfl
end Go.Ab
namespace Go.Ab
open Go.Proofs
def Ve (dt:List Dat) (σ:AF) (xs:List (Nat×Nat)) (v:AV) (τ:AF):Prop:=
 (xs=[]∧v= .AZ∧τ=σ)∨(xs≠[]∧∃k e,σ.blk k=none∧v= .ms k (Fl dt (Cn xs)) 1 e∧τ=σ.AO k (BZ (flg xs (Cn xs) (Fl dt (Cn xs)))))
theorem Ve.le {dt:List Dat} {σ τ:AF} {xs:List (Nat×Nat)} {v:AV} (h:Ve dt σ xs v τ):σ.le τ:=by
 rcases h with ⟨_,_,rfl⟩|⟨_,k,e,hk,_,rfl⟩
 · exact AF.le_refl _
 · exact Bl hk
theorem UN {dt:List Dat} {d:Nat} {x:Dat} (h:dt[d]?=some x):Fl dt d=x.cons.length:=by simp [Fl,h]
theorem O9 {dt:List Dat}:∀ {l:List Al} {xs:List (Nat×Nat)},Cg dt l= .ok xs→∀x∈xs,x.2 < Fl dt x.1
 |[],xs,h=>by simp only [Cg,EH] at h;subst h;simp
 | .mk c vs b::l,xs,h=>by
  rw [Cg] at h
  cases hc:IX dt c with
  |none=>rw [hc] at h;cases h
  |some x=>
   rw [hc] at h
   simp only at h
   split at h
   · cases h
   · split at h
     · cases h
     · cases hl:Cg dt l with
       |error e=>rw [hl] at h;cases h
       |ok ys=>
        rw [hl] at h
        simp only [CP,EH] at h
        subst h
        intro y hy
        rcases Bc.1 hy with rfl|hy
        · obtain ⟨d,cc,h1,h2,_⟩:=KA hc
          rw [UN h1]
          exact (AR.1 h2).1
        · exact O9 hl y hy
theorem iU:exB []=true:=rfl
theorem Nw {xs:List (Nat×Nat)} (h:xs≠[]) (y:Nat×Nat):Cn (xs++[y])=Cn xs:=by
 cases xs with
 |nil=>exact absurd rfl h
 |cons x l=>rfl
theorem iC (ds:List DE) (fs:List FE) (dt:List Dat) (hdt:QS dt) (al:List Al) (σ:AF) (hal:al.length≤1000000):
 AL Tryz.prog 75 [.agg [.d (.sl (ds.map DE.enc)),.d (.sl (fs.map FE.enc)),.d (.sl (dt.map Dat.enc))],.d (.sl (al.map Al.enc))] σ (fun v σ'=>v= .d (.int .i64 (KE dt al))∧σ'=σ):=by
 refine OF (by simp) ?_
 rw [BX]
 (repeat' (first|refine Run.ct rfl ?_|((first|refine Run.reg mixed ?_|refine Run.AE ?_)<;>try simp -implicitDefEqProofs only [AA,go_sem])|fail))
 refine Run.BD ?_
 refine Run.BK ((fun (a2:AV) (a13:AV) (a14:AV)=>fun (y:Nat×List (Nat×Nat)×AV×AF)=>put 2 a2 (put 5 (.d (.bool (exB y.2.1))) (put 6 (.d (.int .i64 (Cn y.2.1))) (put 7 (y.2.2.1) (put 13 a13 (put 14 a14 (put 15 (.d (.int .i64 y.1)) U))))))) _ _ _) (fun _=>Az 2 [.d (.sl (ds.map DE.enc)),.d (.sl (fs.map FE.enc)),.d (.sl (dt.map Dat.enc))] E) (fun y=>y.2.2.2)
  (fun y=>y.1≤al.length∧y.2.1.length=y.1∧Cg dt (al.take y.1)= .ok y.2.1∧Ve dt σ y.2.1 y.2.2.1 y.2.2.2) (fun y=>al.length - y.1) ?_ (0,[],.AZ,σ) ⟨by simp,rfl,rfl,.inl ⟨rfl,rfl,rfl⟩⟩
 rintro ⟨i,xs,sv,τ⟩ ⟨hi,hlx,hok,hseen⟩ ih
 simp only at hi hlx hok hseen
 by_cases hlt:i < al.length
 · obtain ⟨a,ha⟩:=BC hlt
   have he:=BA (enc:=Al.enc) ha
   have hw1:=A5 (show i+1≤9000000000000000000 by omega)
   have hall:Cg dt al=(Cg dt (a::al.drop (i+1))).map (xs++·):=by
    conv=>lhs;rw [← A3 i al,B3 ha]
    exact KD dt _ hok
   have hsn:Cg dt (al.take (i+1))=(Cg dt [a]).map (xs++·):=by
    rw [BH ha];exact KD dt _ hok
   obtain ⟨c,vs,o,n,u,ns,ks,aa⟩:=a
   rw [Cg] at hall hsn
   simp only [Al.A4] at he
   have hctr:=N8 dt hdt c τ
   rw [dsA] at hctr
   have herr:∀e:Int,Cg dt al= .error e→KE dt al=e:=fun e h=>by rw [KE,h]
   cases hc:IX dt c with
   |none=>
    rw [hc] at hctr hall
    simp only [R4] at hctr
    (repeat' (first|refine Run.ct rfl ?_|((first|refine Run.reg mixed ?_|refine Run.AE ?_|(refine Run.A1 Bv hseen.le ?_)|refine AI.det (hctr) ?_)<;>try simp -implicitDefEqProofs only [Ac hlt,he,go_sem])|fail))
    rw [herr 3 (by rw [hall];rfl)]
   |some x=>
   rw [hc] at hctr hall hsn
   simp only [R4] at hctr hall hsn
   obtain ⟨d,cc,h1,h2,_⟩:=KA hc
   have har:=M7 (s:=[]) h1 h2
   have hn:=UN h1
   have hdl:=hdt d (AT h1)
   have hkn:x.2 < d.cons.length:=(AR.1 h2).1
   have hd:=M8 h1
   have hcc:=M6 h2
   rw [har] at hall hsn
   have hix:PC (.d (.int .i64 (x.1:Int)))=some x.1:=by simp [PC]
   by_cases hA:vs.length≠cc.args.length
   · rw [if_pos hA] at hall
     have hA':((vs.length:Int) != (cc.args.length:Int))=true:=by rw [VB];simpa using hA
     (repeat' (first|refine Run.ct rfl ?_|((first|refine Run.reg mixed ?_|refine Run.AE ?_|(refine Run.A1 Bv hseen.le ?_)|refine AI.det (hctr) ?_)<;>try simp -implicitDefEqProofs only [Ac hlt,he,hd,hcc,AA,Dt,hA',go_sem])|fail))
     rw [herr 5 (by rw [hall];rfl)]
   rw [if_neg hA] at hall hsn
   have hA':((vs.length:Int) != (cc.args.length:Int))=false:=by rw [VB];simpa using hA
   have hrep:=LG vs τ
   cases hB:CA vs with
   |true=>
    rw [hB] at hrep hall
    rw [if_pos rfl] at hall
    (repeat' (first|refine Run.ct rfl ?_|((first|refine Run.reg mixed ?_|refine Run.AE ?_|(refine Run.A1 Bv hseen.le ?_)|refine AI.det (hctr) ?_|refine AI.det (hrep) ?_)<;>try simp -implicitDefEqProofs only [Ac hlt,he,hd,hcc,AA,Dt,hA',go_sem])|fail))
    rw [herr 4 (by rw [hall];rfl)]
   |false=>
   rw [hB] at hrep hsn
   rw [if_neg (by simp)] at hsn
   simp only [Cg,CP] at hsn
   rw [show xs++[x]=xs++[(x.1,x.2)] from rfl] at hsn
   have hgo:∀(sv':AV) (τ':AF),Ve dt σ (xs++[(x.1,x.2)]) sv' τ'→_:=fun sv' τ' h=>ih (i+1,xs++[(x.1,x.2)],sv',τ') ⟨by simp only;omega,by simp [hlx],hsn,h⟩ (by simp only;omega)
   simp only at hgo
   have hx2:((x.2:Int) < ((d.cons.length:Nat):Int))=True:=by simp only [eq_iff_iff,iff_true];omega
   rcases hseen with ⟨rfl,rfl,rfl⟩|⟨hne,k,e,hk,rfl,rfl⟩
   · -- the first alternative
     have h0:((i:Int)==0)=true:=by
      simp only [CN] at hlx;subst hlx;rfl
     have hself:((x.1:Int) != (x.1:Int))=false:=by simp
     have hget:=Em (l:=AH d.cons.length false) (k:=x.2) (x:=false) (by simp [hkn])
     have w1:=QX (l:=AH d.cons.length false) (k:=x.2) true (by simpa using hkn)
     simp only [wr,A9,CN,Am] at w1
     have d1:(x.2+(0+1)≤(BZ (AH d.cons.length false)).length)=True:=by rw [Oa,List.length_replicate];simp;omega
     have hlast:∀k e,τ.blk k=none→Ve dt τ ([]++[(x.1,x.2)]) (.ms k d.cons.length 1 e) (τ.AO k (BZ ((AH d.cons.length false).set x.2 true))):=fun k e hk=>by
      refine .inr ⟨by simp,k,e,hk,by rw [show Cn ([]++[(x.1,x.2)])=x.1 from rfl,hn],?_⟩
      rw [show Cn ([]++[(x.1,x.2)])=x.1 from rfl,hn,← iW x.1,Zt hkn]
     have e1:exB ([]++[(x.1,x.2)])=true:=by simp [exB]
     rw [e1,show Cn ([]++[(x.1,x.2)])=x.1 from rfl] at hgo
     clear hall hsn ih herr
     (repeat' (first|refine Run.ct rfl ?_|((first|refine Run.reg mixed ?_|refine Run.AE ?_|(refine S9.mk d.cons.length (by omega) (by omega) (fun k hk=>?_))|refine AI.det (hctr) ?_|refine AI.det (hrep) ?_)<;>try simp -implicitDefEqProofs only [Ac hlt,he,hd,hcc,hw1,AA,Dt,hA',h0,hself,hx2,hget,w1,d1,Ax,Ob,iU,go_sem])|fail))
     exact hgo _ _ (hlast _ _ (by assumption))
   · have h0:((i:Int)==0)=false:=by
      have:=El.2 hne
      simp only [beq_eq_false_iff_ne,ne_eq];omega
     have hex:=XZ hne x.1 x.2
     rw [Nw hne,hex] at hgo
     have hsame:(x.1≠Cn xs∨(Cn xs,x.2)∈xs)→Ve dt σ (xs++[(x.1,x.2)]) (.ms k (Fl dt (Cn xs)) 1 e) (σ.AO k (BZ (flg xs (Cn xs) (Fl dt (Cn xs))))):=fun h=>by
      refine .inr ⟨by simp,k,e,hk,by rw [Nw hne],?_⟩
      rw [Nw hne,eZ h]
     clear hall hsn ih herr
     by_cases hf:x.1=Cn xs
     · have hself:((x.1:Int) != (Cn xs:Int))=false:=by simp [hf]
       have hself':(x.1 != Cn xs)=false:=by simpa using hf
       have hnf:Fl dt (Cn xs)=d.cons.length:=by rw [← hf];exact hn
       rw [hnf] at hsame hctr hrep ⊢
       have hget:=Em (TL xs (f:=Cn xs) hkn)
       cases hfl:xs.contains (Cn xs,x.2) with
       |true=>
        rw [hfl] at hget
        rw [hself',hfl,Bool.or_true,Bool.not_true,Bm] at hgo
        (repeat' (first|refine Run.ct rfl ?_|((first|refine Run.reg mixed ?_|refine Run.AE ?_|refine AI.det (hctr) ?_|refine AI.det (hrep) ?_)<;>try simp -implicitDefEqProofs only [Ac hlt,he,hd,hcc,hw1,AA,Dt,hA',h0,hself,hx2,hget,Ax,go_sem])|fail))
        exact hgo _ _ (hsame (.inr (A8.1 hfl)))
       |false=>
        rw [hfl] at hget
        rw [hself',hfl,Bool.or_self,E7,As] at hgo
        have w1:=QX (l:=flg xs (Cn xs) d.cons.length) (k:=x.2) true (by rw [LB];exact hkn)
        simp only [wr,A9,CN,Am] at w1
        have d1:(x.2+(0+1)≤(BZ (flg xs (Cn xs) d.cons.length)).length)=True:=by rw [Oa,LB];simp;omega
        (repeat' (first|refine Run.ct rfl ?_|((first|refine Run.reg mixed ?_|refine Run.AE ?_|refine AI.det (hctr) ?_|refine AI.det (hrep) ?_)<;>try simp -implicitDefEqProofs only [Ac hlt,he,hd,hcc,hw1,AA,Dt,hA',h0,hself,hx2,hget,w1,d1,Ax,go_sem])|fail))
        refine hgo _ _ (.inr ⟨by simp,k,e,hk,by rw [Nw hne,hnf],?_⟩)
        rw [Nw hne,hnf,Zt hkn,← hf]
     · have hself:((x.1:Int) != (Cn xs:Int))=true:=by simp only [bne_iff_ne,ne_eq];omega
       have hself':(x.1 != Cn xs)=true:=by simpa using hf
       rw [hself',JO,Bool.not_true,Bm] at hgo
       (repeat' (first|refine Run.ct rfl ?_|((first|refine Run.reg mixed ?_|refine Run.AE ?_|refine AI.det (hctr) ?_|refine AI.det (hrep) ?_)<;>try simp -implicitDefEqProofs only [Ac hlt,he,hd,hcc,hw1,AA,Dt,hA',h0,hself,Ax,go_sem])|fail))
       exact hgo _ _ (hsame (.inl hf))
 · rw [AK (by omega)] at hok
   have hres:KE dt al=if Tp dt xs then 0 else 7:=by rw [KE,hok]
   rcases hseen with ⟨rfl,rfl,rfl⟩|⟨hne,k,e,hk,rfl,rfl⟩
   · (repeat' (first|refine Run.ct rfl ?_|((first|refine Run.reg mixed ?_|refine Run.AE ?_|refine Run.A1 Bv (AF.le_refl _) ?_|refine AI.det (S7 false _) ?_)<;>try simp -implicitDefEqProofs only [Bi hlt,show exB []=true from rfl,go_sem])|fail))
     rw [hres];rfl
   · have hbd:=O9 hok
     have hend:=bH (dt:=dt) hne (fun x hx h=>by rw [← h];exact hbd x hx)
     have hnl:Fl dt (Cn xs)≤1000000:=by
      unfold Fl;split
      · rename_i d hd;exact hdt d (AT hd)
      · omega
     have hcb:=RO (flg xs (Cn xs) (Fl dt (Cn xs))) false k e (σ.AO k (BZ (flg xs (Cn xs) (Fl dt (Cn xs))))) (by simp only [AM,if_true]) (by rw [LB];omega)
     rw [LB] at hcb
     cases hB:exB xs with
     |false=>
      rw [hB,B5] at hend
      (repeat' (first|refine Run.ct rfl ?_|((first|refine Run.reg mixed ?_|refine Run.AE ?_|(refine Run.A1 Bv (Bl hk) ?_))<;>try simp -implicitDefEqProofs only [Bi hlt,hB,go_sem])|fail))
      rw [hres,hend];rfl
     |true=>
      rw [hB,Au] at hend
      cases hC:(flg xs (Cn xs) (Fl dt (Cn xs))).any (fun x=>false==x) with
      |true=>
       rw [hC] at hcb hend
       (repeat' (first|refine Run.ct rfl ?_|((first|refine Run.reg mixed ?_|refine Run.AE ?_|(refine Run.A1 Bv (Bl hk) ?_)|refine AI.det (hcb) ?_)<;>try simp -implicitDefEqProofs only [Bi hlt,hB,go_sem])|fail))
       rw [hres,hend];rfl
      |false=>
       rw [hC] at hcb hend
       (repeat' (first|refine Run.ct rfl ?_|((first|refine Run.reg mixed ?_|refine Run.AE ?_|(refine Run.A1 Bv (Bl hk) ?_)|refine AI.det (hcb) ?_)<;>try simp -implicitDefEqProofs only [Bi hlt,hB,go_sem])|fail))
       rw [hres,hend];rfl
end Go.Ab
