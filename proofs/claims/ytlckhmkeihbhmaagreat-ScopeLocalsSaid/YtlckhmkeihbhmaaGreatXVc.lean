/- Scope: constructors, rows of flags, the walk over a function. Scope: the alternatives of a match. Scope: the alternatives of a match, looked at. Conditions: none. -/
import Derived.Test.YtlckhmkeihbhmaaGreatXVa
set_option linter.unusedSimpArgs false
set_option linter.unusedVariables false
set_option maxRecDepth 4000
set_option maxHeartbeats 8000000
open List renaming cons_append→Ac,mem_cons_self→Ai,mem_cons_of_mem→Ao,length_cons→A5,getElem?_eq_some_iff→AR,take_append_drop→A4,findIdx?_eq_some_iff_getElem→jM,length_map→AA,mem_of_getElem?→AS,take_of_length_le→AG,set_eq_take_append_cons_drop→jN,replicate→AO,replicate_succ→Eu,flatten_cons→Em,nil_append→Au,map_cons→AH,map_nil→AM,range→BI,ext_getElem?→GL,getElem?_eq_none→BP,contains_iff_mem→Aa,mem_append→A6,mem_singleton→B6,getElem?_set→B5,all_eq_true→Aj,mem_map→CN,mem_range→Gt,mem_cons→BW,length_nil→CQ,length_pos_iff→Et
open Option renaming map_eq_some_iff→AE
open Nat renaming mul_one→BQ,le_refl→A0,zero_add→An
open Bool renaming eq_iff_iff→Af,and_eq_true→AN,not_eq_true'→Cf,or_eq_false_iff→Ix,eq_false_iff→Bw,or_true→MA,and_false→Bg,not_false→Eb,and_true→Az,true_or→J8,false_and→B2,true_and→BD
open Prod.mk renaming injEq→B1
open Except.ok renaming injEq→D3
open Except renaming map→CU
namespace Go.Ab
open Go.Proofs
theorem GQ (l:List Con) (s:Str):l.findIdx? (fun c=>c.name==s)=H5 l s:=by
 induction l with
 |nil=>rfl
 |cons x l ih=>
  rw [List.findIdx?_cons,H5]
  split
  · rfl
  · rw [ih]
theorem SQ (s:Str):∀(l m:List Dat),(∀d∈l,H5 d.cons s=none)→Ib (l++m) s=(Ib m s).map fun x=>(x.1+l.length,x.2)
 |[],m,_=>by simp
 |d::l,m,h=>by
  rw [Ac,Ib,h d (Ai ..),SQ s l m (fun x hx=>h x (Ao _ hx))]
  simp only [Option.map_map,A5]
  congr 1
theorem YF {s:Str} {dt:List Dat} {i k:Nat} {d:Dat} (h:∀d∈dt.take i,H5 d.cons s=none) (hd:dt[i]?=some d) (hk:H5 d.cons s=some k):Ib dt s=some (i,k):=by
 have hi:=(AR.1 hd).1
 rw [← A4 i dt,SQ s _ _ h,Bc hd,Ib,hk]
 simp;omega
theorem YG {s:Str} {dt:List Dat} (h:∀d∈dt,H5 d.cons s=none):Ib dt s=none:=by
 have:=SQ s dt [] h
 simpa [Ib] using this
theorem bR {l:List Con} {s:Str} {k:Nat} (h:H5 l s=some k):∃c,l[k]?=some c∧c.name=s:=by
 rw [← GQ,jM] at h
 obtain ⟨h1,h2,_⟩:=h
 exact ⟨l[k],by simp [h1],by simpa using h2⟩
theorem K1 {s:Str}:∀ {dt:List Dat} {x:Nat×Nat},Ib dt s=some x→∃d c,dt[x.1]?=some d∧d.cons[x.2]?=some c∧c.name=s
 |[],x,h=>by simp [Ib] at h
 |d::l,x,h=>by
  rw [Ib] at h
  split at h
  · rename_i k hk
    cases h
    obtain ⟨c,hc,hn⟩:=bR hk
    exact ⟨d,c,rfl,hc,hn⟩
  · simp only [AE] at h
    obtain ⟨y,hy,rfl⟩:=h
    obtain ⟨d',c,h1,h2,h3⟩:=K1 hy
    exact ⟨d',c,by simpa using h1,h2,h3⟩
theorem NG {s:Str} {dt:List Dat} {x:Nat×Nat} {d:Dat} {c:Con} (h1:dt[x.1]?=some d) (h2:d.cons[x.2]?=some c):arity dt x=c.args.length:=by
 simp [arity,h1,h2]
def SP (o:Option (Nat×Nat)):AV:=match o with
 |some x=>.tup [.d (.int .i64 x.1),.d (.int .i64 x.2),.d (.bool true)]
 |none=>.tup [.d (.int .i64 0),.d (.int .i64 0),.d (.bool false)]
def RJ (dt:List Dat):Prop:=∀d∈dt,d.cons.length≤1000000
theorem ON (dt:List Dat) (hdt:RJ dt) (s:Str) (σ:AF):AK Tryz.prog 74 [dsA dt,.d (.str s)] σ (fun v σ'=>v=SP (Ib dt s)∧σ'=σ):=by
 refine KB (by simp) ?_
 rw [BR,dsA]
 refine Run.slot 0 (fun hb0=>?_)
 simp only [CZ,if_true,AV.Dl,AA] at hb0
 (repeat' (first|refine Run.ct rfl ?_|((first|refine Run.reg mixed ?_|refine Run.AD ?_)<;>try simp -implicitDefEqProofs only [AA,go_sem])|fail))
 refine Run.Ay ?_
 refine Run.BB ((fun (a0:AV) (a1:AV) (a10:AV)=>fun (i:Nat)=>put 0 a0 (put 1 a1 (put 10 a10 (put 11 (.d (.int .i64 i)) U)))) _ _ _) (fun _=>E) (fun _=>σ) (fun i=>i≤dt.length∧∀d∈dt.take i,H5 d.cons s=none) (fun i=>dt.length - i) ?_ 0 ⟨by simp,by simp⟩
 rintro i ⟨hi,hno⟩ ih
 by_cases hlt:i < dt.length
 · obtain ⟨d,hd⟩:=Aw hlt
   have he:=NH hd
   have hw1:IntKind.i64.wrap ((i:Int)+1)=((i+1:Nat):Int):=by rw [As (by omega) (by omega)];omega
   (repeat' (first|refine Run.ct rfl ?_|((first|refine Run.reg mixed ?_|refine Run.AD ?_)<;>try simp -implicitDefEqProofs only [A8 hlt,he,go_sem])|fail))
   have hdl:=hdt d (AS hd)
   have hat:=fun k=>YF (k:=k) hno hd
   rw [← GQ] at hat
   have hnext:=fun (h:H5 d.cons s=none)=>Eg (p:=fun d:Dat=>(H5 d.cons s).isSome) (i:=i) (fun y hy=>by simp [hno y hy]) hd (by rw [h];rfl)
   obtain ⟨dn,dv,cs⟩:=d
   simp only [AA] at *
   (repeat' (first|refine Run.ct rfl ?_|((first|refine Run.reg mixed ?_|refine Run.AD ?_)<;>try simp -implicitDefEqProofs only [AA,go_sem])|fail))
   refine Run.Ay ?_
   refine Run.BB ((fun (a0:AV) (a1:AV) (a7:AV) (a10:AV) (a11:AV) (a19:AV)=>fun (k:Nat)=>put 0 a0 (put 1 a1 (put 7 a7 (put 10 a10 (put 11 a11 (put 19 a19 (put 20 (.d (.int .i64 k)) U))))))) _ _ _ _ _ _) (fun _=>E) (fun _=>σ) (fun k=>k≤cs.length∧∀c∈cs.take k,(c.name==s)=false) (fun k=>cs.length - k) ?_ 0 ⟨by simp,by simp⟩
   rintro k ⟨hk,hnk⟩ ih2
   by_cases hkl:k < cs.length
   · obtain ⟨c,hc⟩:=Aw hkl
     have hec:=ND hc
     have hwk:=A7 (show k+1≤9000000000000000000 by omega)
     cases hs:(c.name==s) with
     |true=>
      (repeat' (first|refine Run.ct rfl ?_|((first|refine Run.reg mixed ?_|refine Run.AD ?_|refine Run.A1 DJ (AF.le_refl _) ?_)<;>try simp -implicitDefEqProofs only [A8 hkl,he,hec,BS,hs,go_sem])|fail))
      rw [hat k (D6 (p:=fun c:Con=>c.name==s) hnk hc hs)];rfl
     |false=>
      (repeat' (first|refine Run.ct rfl ?_|((first|refine Run.reg mixed ?_|refine Run.AD ?_)<;>try simp -implicitDefEqProofs only [A8 hkl,he,hec,hwk,BS,hs,go_sem])|fail))
      exact ih2 (k+1) ⟨by omega,Eg (p:=fun c:Con=>c.name==s) hnk hc hs⟩ (by omega)
   · rw [AG (by omega)] at hnk
     (repeat' (first|refine Run.ct rfl ?_|((first|refine Run.reg mixed ?_|refine Run.AD ?_)<;>try simp -implicitDefEqProofs only [B8 hkl,hw1,go_sem])|fail))
     refine ih (i+1) ⟨by omega,fun y hy=>?_⟩ (by omega)
     have:=hnext (by rw [← GQ,D7 (p:=fun c:Con=>c.name==s) hnk]) y hy
     simpa using this
 · (repeat' (first|refine Run.ct rfl ?_|((first|refine Run.reg mixed ?_|refine Run.AD ?_|refine Run.A1 DJ (AF.le_refl _) ?_)<;>try simp -implicitDefEqProofs only [B8 hlt,go_sem])|fail))
   rw [AG (by omega)] at hno
   rw [YG hno];rfl
def B3 (l:List Bool):List AV:=l.map fun b=>.d (.bool b)
theorem PR (l:List Bool):(B3 l).length=l.length:=by simp [B3]
theorem Ev {l:List Bool} {k:Nat} {x:Bool} (h:l[k]?=some x):(B3 l)[k]?=some (.d (.bool x)):=by simp [B3,h]
theorem RO {l:List Bool} {k:Nat} (x:Bool) (h:k < l.length):wr (B3 l) k [.d (.bool x)]=B3 (l.set k x):=by
 unfold wr B3
 rw [List.map_set,jN,if_pos (by simpa using h)]
 simp
theorem PS (n:Nat):(AO n [AV.d (.bool false)]).flatten=B3 (AO n false):=by
 induction n with
 |zero=>rfl
 |succ n ih=>rw [Eu,Em,ih,Eu];rfl
theorem WX (l:List Bool) (b:Bool) (j e:Nat) (σ:AF) (hj:σ.blk j=some (B3 l)) (hl:l.length≤1000000000):AK Tryz.prog 132 [.ms j l.length 1 e,.d (.bool b)] σ (fun v σ'=>v= .d (.int .i64 (Ee (l.findIdx? (fun x=>b==x))))∧σ'=σ):=by
 refine KC (by simp) ?_
 rw [BR]
 (repeat' (first|refine Run.ct rfl ?_|((first|refine Run.reg mixed ?_|refine Run.AD ?_)<;>try simp -implicitDefEqProofs only [go_sem])|fail))
 refine Run.Ay ?_
 refine Run.BB ((fun (a0:AV) (a1:AV) (a7:AV)=>fun (i:Nat)=>put 0 a0 (put 1 a1 (put 7 a7 (put 8 (.d (.int .i64 i)) U)))) _ _ _) (fun _=>E) (fun _=>σ) (fun i=>i≤l.length∧∀x∈l.take i,(b==x)=false) (fun i=>l.length - i) ?_ 0 ⟨by simp,by simp⟩
 rintro i ⟨hi,hno⟩ ih
 by_cases hlt:i < l.length
 · obtain ⟨x,hx⟩:=Aw hlt
   have he:=Ev hx
   have hix:((i:Int) < (l.length:Int))=True:=by simp;omega
   have hw1:=A7 (show i+1≤9000000000000000000 by omega)
   cases hp:(b==x) with
   |true=>
    (repeat' (first|refine Run.ct rfl ?_|((first|refine Run.reg mixed ?_|refine Run.AD ?_|refine Run.A1 Es (AF.le_refl _) ?_)<;>try simp -implicitDefEqProofs only [A8 hlt,hix,hj,he,hp,BQ,go_sem])|fail))
    rw [D6 (p:=fun x=>b==x) hno hx hp];rfl
   |false=>
    (repeat' (first|refine Run.ct rfl ?_|((first|refine Run.reg mixed ?_|refine Run.AD ?_)<;>try simp -implicitDefEqProofs only [A8 hlt,hix,hj,he,hw1,hp,BQ,go_sem])|fail))
    exact ih (i+1) ⟨by omega,Eg (p:=fun x=>b==x) hno hx hp⟩ (by omega)
 · (repeat' (first|refine Run.ct rfl ?_|((first|refine Run.reg mixed ?_|refine Run.AD ?_|refine Run.A1 Es (AF.le_refl _) ?_)<;>try simp -implicitDefEqProofs only [B8 hlt,go_sem])|fail))
   rw [AG (by omega)] at hno
   rw [D7 (p:=fun x=>b==x) hno];rfl
theorem SB (l:List Bool) (b:Bool) (j e:Nat) (σ:AF) (hj:σ.blk j=some (B3 l)) (hl:l.length≤1000000000):AK Tryz.prog 102 [.ms j l.length 1 e,.d (.bool b)] σ (fun v σ'=>v= .d (.bool (l.any (fun x=>b==x)))∧σ'=σ):=by
 refine Hw (by simp) ?_
 rw [BR]
 (repeat' (first|refine Run.ct rfl ?_|((first|refine Run.reg mixed ?_|refine Run.AD ?_|refine Run.A1 F5 (AF.le_refl _) ?_|refine AI.det (WX l b j e σ hj hl) ?_)<;>try simp -implicitDefEqProofs only [PZ,JB,go_sem])|fail))
theorem T8 (b:Bool) (σ:AF):AK Tryz.prog 102 [.AU,.d (.bool b)] σ (fun v σ'=>v= .d (.bool false)∧σ'=σ):=by
 have hi:AK Tryz.prog 132 [.AU,.d (.bool b)] σ (fun v σ'=>v= .d (.int .i64 (-1))∧σ'=σ):=by
  refine KC (by simp) ?_
  rw [BR]
  have h0:decide ((0:Int) < 0)=false:=by decide
  (repeat' (first|refine Run.ct rfl ?_|((first|refine Run.reg mixed ?_|refine Run.AD ?_|refine Run.A1 Es (AF.le_refl _) ?_|(refine Run.loop ?_))<;>try simp -implicitDefEqProofs only [h0,go_sem])|fail))
 refine Hw (by simp) ?_
 rw [BR]
 have h1:decide ((0:Int)≤-1)=false:=by decide
 (repeat' (first|refine Run.ct rfl ?_|((first|refine Run.reg mixed ?_|refine Run.AD ?_|refine Run.A1 F5 (AF.le_refl _) ?_|refine AI.det (hi) ?_)<;>try simp -implicitDefEqProofs only [h1,go_sem])|fail))
theorem WR {S:Type} (vis:S→Ex×List Str→Int×S) (hS:S→AF) (fid:FuncId) (first caps:List AV) (hb:C7 Tryz.prog fid=true) (hfi:first.all AV.BF=true) (hca:caps.all AV.BF=true)
 (f:FE) (s:S) (hsz:f.body.size≤1000000) (hfr:∀t j,(hS s).blk j=none→(hS t).blk j=none) (hvis:∀j,(hS s).blk j=none→eI vis hS j (.fn fid first caps) fid first caps (B7 f.body f.params)):
 AK Tryz.prog 30 [feA f,.fn fid first caps] (hS s) (fun v σ'=>match Gr vis (B7 f.body f.params) s with
  |(none,s')=>v= .tup [.d (.int .i64 ((f.body.size - 1:Nat):Int)),.d (.int .i64 0)]∧σ'=hS s'
  |(some (k,c),s')=>v= .tup [.d (.int .i64 (k:Nat)),.d (.int .i64 c)]∧σ'=hS s'):=by
 refine Tm (by simp) ?_
 rw [BR]
 have hw:=fun σ=>P7 [] f.params σ
 rw [show bdL []= .FD from rfl] at hw
 have hw':∀σ,AK Tryz.prog 64 [.FD,.d (.sl (f.params.map Ak))] σ (fun v σ'=>v= .d (bdL f.params)∧σ'=σ):=fun σ=>AK.plain (by simpa only [AV.DA,Vc,GG,Au] using hw σ)
 clear hw
 have hwalk:=fun j hj=>oR vis hS j fid first caps hb hfi hca _ f.body f.params 0 s (A0 _) (by omega) (hvis j hj)
 have hnn:=Ks f.body f.params
 have hblk:∀j n s,(WH hS j (.fn fid first caps) n s).blk j=some [.d (.int .i64 n),.fn fid first caps]:=fun j n s=>by simp only [WH,AP,if_true]
 rcases hr:Gr vis (B7 f.body f.params) s with ⟨_|⟨k,c⟩,s'⟩
 · have hwalk:∀j,(hS s).blk j=none→AK Tryz.prog 63 [.gp j 0,exA f.body,.d (bdL f.params)] (WH hS j (.fn fid first caps) 0 s) (fun v σ'=>v= .d (.int .i64 0)∧σ'=WH hS j (.fn fid first caps) (f.body.size - 1) s'):=fun j hj=>(hwalk j hj).mono (by
    intro v σ' h
    simp only [WQ,hr] at h
    rw [hnn,An] at h
    exact h)
   obtain ⟨nm,ps,o,n,u,ns,ks,al⟩:=f
   simp only [FE.enc,Ex.A3,feA,exA,AH,AM] at hw' hwalk ⊢
   (repeat' (first|refine Run.ct rfl ?_|((first|refine Run.reg mixed ?_|refine Run.AD ?_)<;>try simp -implicitDefEqProofs only [go_sem])|fail))
   intro j hj
   have h0:(hS s).AQ j [.d (.int .i64 0),.fn fid first caps]=WH hS j (.fn fid first caps) 0 s:=rfl
   rw [h0]
   have hle:(hS s').le (WH hS j (.fn fid first caps) ((Ex.mk o n u ns ks al).size - 1) s'):=Bp (hfr s' j hj)
   (repeat' (first|refine Run.ct rfl ?_|((first|refine Run.reg mixed ?_|refine Run.AD ?_|(refine AI.mk rfl (hwalk j hj) ?_;rintro _ _ ⟨rfl,rfl⟩)|(refine Run.A1 Jh hle ?_)|refine AI.det (hw' _) ?_)<;>try simp -implicitDefEqProofs only [hblk,go_sem])|fail))
 · have hwalk:∀j,(hS s).blk j=none→AK Tryz.prog 63 [.gp j 0,exA f.body,.d (bdL f.params)] (WH hS j (.fn fid first caps) 0 s) (fun v σ'=>v= .d (.int .i64 c)∧σ'=WH hS j (.fn fid first caps) k s'):=fun j hj=>(hwalk j hj).mono (by
    intro v σ' h
    simp only [WQ,hr] at h
    rw [An] at h
    exact h.2)
   obtain ⟨nm,ps,o,n,u,ns,ks,al⟩:=f
   simp only [FE.enc,Ex.A3,feA,exA,AH,AM] at hw' hwalk ⊢
   (repeat' (first|refine Run.ct rfl ?_|((first|refine Run.reg mixed ?_|refine Run.AD ?_)<;>try simp -implicitDefEqProofs only [go_sem])|fail))
   intro j hj
   have h0:(hS s).AQ j [.d (.int .i64 0),.fn fid first caps]=WH hS j (.fn fid first caps) 0 s:=rfl
   rw [h0]
   have hle:(hS s').le (WH hS j (.fn fid first caps) k s'):=Bp (hfr s' j hj)
   (repeat' (first|refine Run.ct rfl ?_|((first|refine Run.reg mixed ?_|refine Run.AD ?_|(refine AI.mk rfl (hwalk j hj) ?_;rintro _ _ ⟨rfl,rfl⟩)|(refine Run.A1 Jh hle ?_)|refine AI.det (hw' _) ?_)<;>try simp -implicitDefEqProofs only [hblk,go_sem])|fail))
end Go.Ab
namespace Go.Ab
open Go.Proofs
theorem P2 {α:Type} [DecidableEq α]:∀ {l m:List α},l.Nodup→(∀x∈l,x∈m)→l.length≤m.length
 |[],m,_,_=>by simp
 |x::l,m,hn,hs=>by
  have hx:=hs x (Ai ..)
  have h1:(m.erase x).length=m.length - 1:=List.length_erase_of_mem hx
  have h2:=List.length_pos_of_mem hx
  have h3:l.length≤(m.erase x).length:=P2 (List.nodup_cons.1 hn).2 (fun y hy=>(List.mem_erase_of_ne (by
   rintro rfl;exact (List.nodup_cons.1 hn).1 hy)).2 (hs y (Ao _ hy)))
  simp only [A5];omega
def Cs:List (Nat×Nat)→Nat
 |[]=>0
 |x::_=>x.1
def flg (xs:List (Nat×Nat)) (f n:Nat):List Bool:=(BI n).map fun q=>xs.contains (f,q)
def exB:List (Nat×Nat)→Bool
 |[]=>true
 |x::l=>(x::l).all (fun y=>y.1==x.1)&&decide (x::l).Nodup
theorem L7 (xs:List (Nat×Nat)) (f n:Nat):(flg xs f n).length=n:=by simp [flg]
theorem UM (xs:List (Nat×Nat)) {f n q:Nat} (h:q < n):(flg xs f n)[q]?=some (xs.contains (f,q)):=by simp [flg,h]
theorem nN (f n:Nat):flg [] f n=AO n false:=by
 apply GL
 intro q
 by_cases h:q < n
 · rw [UM _ h];simp [h]
 · rw [BP (by simp [L7];omega),BP (by simp;omega)]
theorem kL {xs:List (Nat×Nat)} {f n d k:Nat} (h:d≠f∨(f,k)∈xs):flg (xs++[(d,k)]) f n=flg xs f n:=by
 unfold flg
 apply List.map_congr_left
 intro q _
 rw [Af]
 simp only [Aa,A6,B6,B1]
 constructor
 · rintro (h1|⟨rfl,rfl⟩)
   · exact h1
   · rcases h with h|h
     · exact absurd rfl h
     · exact h
 · exact .inl
theorem eQ {xs:List (Nat×Nat)} {f n k:Nat} (hk:k < n):(flg xs f n).set k true=flg (xs++[(f,k)]) f n:=by
 apply GL
 intro q
 by_cases h:q < n
 · rw [UM _ h,B5]
   by_cases hq:k=q
   · subst hq
     rw [if_pos rfl,if_pos (by rw [L7];exact hk)]
     congr 1
     simp
   · rw [if_neg hq,UM _ h]
     congr 1
     rw [Af]
     simp only [Aa,A6,B6,B1,true_and]
     constructor
     · exact .inl
     · rintro (h1|h1)
       · exact h1
       · exact absurd h1.symm hq
 · rw [BP (by simp [L7];omega),BP (by simp [L7];omega)]
theorem ZT {xs:List (Nat×Nat)} (hne:xs≠[]) (d k:Nat):exB (xs++[(d,k)])=(exB xs&& !(d != Cs xs||xs.contains (Cs xs,k))):=by
 cases xs with
 |nil=>exact absurd rfl hne
 |cons x l=>
  simp only [Ac,exB,Cs]
  rw [Af]
  simp only [AN,Aj,beq_iff_eq,decide_eq_true_eq,Cf,Ix,bne_eq_false_iff_eq]
  rw [show x::(l++[(d,k)])=(x::l)++[(d,k)] from rfl,List.nodup_append]
  constructor
  · rintro ⟨h1,h2,_,h3⟩
    have hd:d=x.1:=h1 (d,k) (by simp)
    refine ⟨⟨fun y hy=>h1 y (by simp only [A6];exact .inl hy),h2⟩,hd,?_⟩
    rw [Bw]
    intro hc
    have:=h3 _ (Aa.1 hc) (d,k) (by simp)
    exact this (by rw [hd])
  · rintro ⟨⟨h1,h2⟩,rfl,h3⟩
    refine ⟨fun y hy=>?_,h2,by simp,fun a ha b hb=>?_⟩
    · rcases A6.1 hy with hy|hy
      · exact h1 y hy
      · simp only [B6] at hy;subst hy;rfl
    · simp only [B6] at hb;subst hb
      rintro rfl
      rw [Aa.2 ha] at h3;cases h3
theorem gG {dt:List Dat} {xs:List (Nat×Nat)} (hne:xs≠[]) (hk:∀x∈xs,x.1=Cs xs→x.2 < GF dt (Cs xs)):
 VD dt xs=(exB xs&& !(flg xs (Cs xs) (GF dt (Cs xs))).any (fun x=>false==x)):=by
 cases xs with
 |nil=>exact absurd rfl hne
 |cons x l=>
  simp only [VD,exB,Cs] at hk ⊢
  generalize hxs:x::l=xs at hk ⊢
  generalize GF dt x.1=n at hk ⊢
  rw [Af]
  simp only [AN,Aj,beq_iff_eq,decide_eq_true_eq,Cf,List.any_eq_false]
  constructor
  · rintro ⟨⟨h1,h2⟩,h3⟩
    refine ⟨⟨h1,h2⟩,fun b hb=>?_⟩
    simp only [flg,CN,Gt] at hb
    obtain ⟨q,hq,rfl⟩:=hb
    intro hc
    have hc':¬(x.1,q)∈xs:=fun hm=>by rw [Aa.2 hm] at hc;cases hc
    have:=P2 (m:=((BI n).map fun q=>(x.1,q)).erase (x.1,q)) h2 (fun y hy=>by
     have hy1:=h1 y hy
     rw [List.mem_erase_of_ne (by rintro rfl;exact hc' hy)]
     rw [CN]
     exact ⟨y.2,by rw [Gt];exact hk y hy hy1,by rw [← hy1]⟩)
    rw [List.length_erase_of_mem (by rw [CN];exact ⟨q,by simpa using hq,rfl⟩),AA,List.length_range] at this
    omega
  · rintro ⟨⟨h1,h2⟩,h3⟩
    refine ⟨⟨h1,h2⟩,?_⟩
    have hle:=P2 (m:=(BI n).map fun q=>(x.1,q)) h2 (fun y hy=>by
     rw [CN]
     exact ⟨y.2,by rw [Gt];exact hk y hy (h1 y hy),by rw [← h1 y hy]⟩)
    have hge:=P2 (l:=(BI n).map fun q=>(x.1,q)) (m:=xs) (by
     rw [List.nodup_iff_pairwise_ne,List.pairwise_map]
     exact List.Pairwise.imp (fun h he=>h (Prod.mk.inj he).2) List.nodup_range) (fun y hy=>by
     rw [CN] at hy
     obtain ⟨q,hq,rfl⟩:=hy
     have:=h3 (xs.contains (x.1,q)) (by simp only [flg,CN];exact ⟨q,hq,rfl⟩)
     cases hc:xs.contains (x.1,q) with
     |true=>exact Aa.1 hc
     |false=>rw [hc] at this;simp at this)
    rw [AA,List.length_range] at hle hge
    omega
theorem K6 (dt:List Dat) (m:List Al):∀ {l:List Al} {xs:List (Nat×Nat)},C2 dt l= .ok xs→C2 dt (l++m)=(C2 dt m).map (xs++·)
 |[],xs,h=>by
  simp only [C2,D3] at h;subst h
  simp only [Au]
  cases C2 dt m<;>rfl
 | .mk c vs b::l,xs,h=>by
  rw [Ac,C2]
  rw [C2] at h
  cases hc:Ib dt c with
  |none=>rw [hc] at h;cases h
  |some x=>
   rw [hc] at h
   simp only at h ⊢
   split at h
   · cases h
   · split at h
     · cases h
     · rename_i h1 h2
       rw [if_neg h1,if_neg h2]
       cases hl:C2 dt l with
       |error e=>rw [hl] at h;cases h
       |ok ys=>
        rw [hl] at h
        simp only [CU,D3] at h
        subst h
        rw [K6 dt m hl]
        cases C2 dt m<;>rfl
end Go.Ab
namespace Go.Ab
open Go.Proofs
def XH (dt:List Dat) (σ:AF) (xs:List (Nat×Nat)) (v:AV) (τ:AF):Prop:=
 (xs=[]∧v= .AU∧τ=σ)∨(xs≠[]∧∃k e,σ.blk k=none∧v= .ms k (GF dt (Cs xs)) 1 e∧τ=σ.AQ k (B3 (flg xs (Cs xs) (GF dt (Cs xs)))))
theorem XH.le {dt:List Dat} {σ τ:AF} {xs:List (Nat×Nat)} {v:AV} (h:XH dt σ xs v τ):σ.le τ:=by
 rcases h with ⟨_,_,rfl⟩|⟨_,k,e,hk,_,rfl⟩
 · exact AF.le_refl _
 · exact Bp hk
theorem V4 {dt:List Dat} {d:Nat} {x:Dat} (h:dt[d]?=some x):GF dt d=x.cons.length:=by simp [GF,h]
theorem PQ {dt:List Dat}:∀ {l:List Al} {xs:List (Nat×Nat)},C2 dt l= .ok xs→∀x∈xs,x.2 < GF dt x.1
 |[],xs,h=>by simp only [C2,D3] at h;subst h;simp
 | .mk c vs b::l,xs,h=>by
  rw [C2] at h
  cases hc:Ib dt c with
  |none=>rw [hc] at h;cases h
  |some x=>
   rw [hc] at h
   simp only at h
   split at h
   · cases h
   · split at h
     · cases h
     · cases hl:C2 dt l with
       |error e=>rw [hl] at h;cases h
       |ok ys=>
        rw [hl] at h
        simp only [CU,D3] at h
        subst h
        intro y hy
        rcases BW.1 hy with rfl|hy
        · obtain ⟨d,cc,h1,h2,_⟩:=K1 hc
          rw [V4 h1]
          exact (AR.1 h2).1
        · exact PQ hl y hy
theorem nL:exB []=true:=rfl
theorem O8 {xs:List (Nat×Nat)} (h:xs≠[]) (y:Nat×Nat):Cs (xs++[y])=Cs xs:=by
 cases xs with
 |nil=>exact absurd rfl h
 |cons x l=>rfl
theorem mZ (ds:List DE) (fs:List FE) (dt:List Dat) (hdt:RJ dt) (al:List Al) (σ:AF) (hal:al.length≤1000000):
 AK Tryz.prog 75 [.agg [.d (.sl (ds.map DE.enc)),.d (.sl (fs.map FE.enc)),.d (.sl (dt.map Dat.enc))],.d (.sl (al.map Al.enc))] σ (fun v σ'=>v= .d (.int .i64 (Js dt al))∧σ'=σ):=by
 refine Oi (by simp) ?_
 rw [BR]
 (repeat' (first|refine Run.ct rfl ?_|((first|refine Run.reg mixed ?_|refine Run.AD ?_)<;>try simp -implicitDefEqProofs only [AA,go_sem])|fail))
 refine Run.Ay ?_
 refine Run.BB ((fun (a2:AV) (a13:AV) (a14:AV)=>fun (y:Nat×List (Nat×Nat)×AV×AF)=>put 2 a2 (put 5 (.d (.bool (exB y.2.1))) (put 6 (.d (.int .i64 (Cs y.2.1))) (put 7 (y.2.2.1) (put 13 a13 (put 14 a14 (put 15 (.d (.int .i64 y.1)) U))))))) _ _ _) (fun _=>BA 2 [.d (.sl (ds.map DE.enc)),.d (.sl (fs.map FE.enc)),.d (.sl (dt.map Dat.enc))] E) (fun y=>y.2.2.2)
  (fun y=>y.1≤al.length∧y.2.1.length=y.1∧C2 dt (al.take y.1)= .ok y.2.1∧XH dt σ y.2.1 y.2.2.1 y.2.2.2) (fun y=>al.length - y.1) ?_ (0,[],.AU,σ) ⟨by simp,rfl,rfl,.inl ⟨rfl,rfl,rfl⟩⟩
 rintro ⟨i,xs,sv,τ⟩ ⟨hi,hlx,hok,hseen⟩ ih
 simp only at hi hlx hok hseen
 by_cases hlt:i < al.length
 · obtain ⟨a,ha⟩:=Aw hlt
   have he:=Aq (enc:=Al.enc) ha
   have hw1:=A7 (show i+1≤9000000000000000000 by omega)
   have hall:C2 dt al=(C2 dt (a::al.drop (i+1))).map (xs++·):=by
    conv=>lhs;rw [← A4 i al,Bc ha]
    exact K6 dt _ hok
   have hsn:C2 dt (al.take (i+1))=(C2 dt [a]).map (xs++·):=by
    rw [Am ha];exact K6 dt _ hok
   obtain ⟨c,vs,o,n,u,ns,ks,aa⟩:=a
   rw [C2] at hall hsn
   simp only [Al.A3] at he
   have hctr:=ON dt hdt c τ
   rw [dsA] at hctr
   have herr:∀e:Int,C2 dt al= .error e→Js dt al=e:=fun e h=>by rw [Js,h]
   cases hc:Ib dt c with
   |none=>
    rw [hc] at hctr hall
    simp only [SP] at hctr
    (repeat' (first|refine Run.ct rfl ?_|((first|refine Run.reg mixed ?_|refine Run.AD ?_|(refine Run.A1 Bx hseen.le ?_)|refine AI.det (hctr) ?_)<;>try simp -implicitDefEqProofs only [A8 hlt,he,go_sem])|fail))
    rw [herr 3 (by rw [hall];rfl)]
   |some x=>
   rw [hc] at hctr hall hsn
   simp only [SP] at hctr hall hsn
   obtain ⟨d,cc,h1,h2,_⟩:=K1 hc
   have har:=NG (s:=[]) h1 h2
   have hn:=V4 h1
   have hdl:=hdt d (AS h1)
   have hkn:x.2 < d.cons.length:=(AR.1 h2).1
   have hd:=NH h1
   have hcc:=ND h2
   rw [har] at hall hsn
   have hix:Oq (.d (.int .i64 (x.1:Int)))=some x.1:=by simp [Oq]
   by_cases hA:vs.length≠cc.args.length
   · rw [if_pos hA] at hall
     have hA':((vs.length:Int) != (cc.args.length:Int))=true:=by rw [Ta];simpa using hA
     (repeat' (first|refine Run.ct rfl ?_|((first|refine Run.reg mixed ?_|refine Run.AD ?_|(refine Run.A1 Bx hseen.le ?_)|refine AI.det (hctr) ?_)<;>try simp -implicitDefEqProofs only [A8 hlt,he,hd,hcc,AA,EF,hA',go_sem])|fail))
     rw [herr 5 (by rw [hall];rfl)]
   rw [if_neg hA] at hall hsn
   have hA':((vs.length:Int) != (cc.args.length:Int))=false:=by rw [Ta];simpa using hA
   have hrep:=La vs τ
   cases hB:Bo vs with
   |true=>
    rw [hB] at hrep hall
    rw [if_pos rfl] at hall
    (repeat' (first|refine Run.ct rfl ?_|((first|refine Run.reg mixed ?_|refine Run.AD ?_|(refine Run.A1 Bx hseen.le ?_)|refine AI.det (hctr) ?_|refine AI.det (hrep) ?_)<;>try simp -implicitDefEqProofs only [A8 hlt,he,hd,hcc,AA,EF,hA',go_sem])|fail))
    rw [herr 4 (by rw [hall];rfl)]
   |false=>
   rw [hB] at hrep hsn
   rw [if_neg (by simp)] at hsn
   simp only [C2,CU] at hsn
   rw [show xs++[x]=xs++[(x.1,x.2)] from rfl] at hsn
   have hgo:∀(sv':AV) (τ':AF),XH dt σ (xs++[(x.1,x.2)]) sv' τ'→_:=fun sv' τ' h=>ih (i+1,xs++[(x.1,x.2)],sv',τ') ⟨by simp only;omega,by simp [hlx],hsn,h⟩ (by simp only;omega)
   simp only at hgo
   have hx2:((x.2:Int) < ((d.cons.length:Nat):Int))=True:=by simp only [eq_iff_iff,iff_true];omega
   rcases hseen with ⟨rfl,rfl,rfl⟩|⟨hne,k,e,hk,rfl,rfl⟩
   · -- the first alternative
     have h0:((i:Int)==0)=true:=by
      simp only [CQ] at hlx;subst hlx;rfl
     have hself:((x.1:Int) != (x.1:Int))=false:=by simp
     have hget:=Ev (l:=AO d.cons.length false) (k:=x.2) (x:=false) (by simp [hkn])
     have w1:=RO (l:=AO d.cons.length false) (k:=x.2) true (by simpa using hkn)
     simp only [wr,A5,CQ,An] at w1
     have d1:(x.2+(0+1)≤(B3 (AO d.cons.length false)).length)=True:=by rw [PR,List.length_replicate];simp;omega
     have hlast:∀k e,τ.blk k=none→XH dt τ ([]++[(x.1,x.2)]) (.ms k d.cons.length 1 e) (τ.AQ k (B3 ((AO d.cons.length false).set x.2 true))):=fun k e hk=>by
      refine .inr ⟨by simp,k,e,hk,by rw [show Cs ([]++[(x.1,x.2)])=x.1 from rfl,hn],?_⟩
      rw [show Cs ([]++[(x.1,x.2)])=x.1 from rfl,hn,← nN x.1,eQ hkn]
     have e1:exB ([]++[(x.1,x.2)])=true:=by simp [exB]
     rw [e1,show Cs ([]++[(x.1,x.2)])=x.1 from rfl] at hgo
     clear hall hsn ih herr
     (repeat' (first|refine Run.ct rfl ?_|((first|refine Run.reg mixed ?_|refine Run.AD ?_|(refine UZ.mk d.cons.length (by omega) (by omega) (fun k hk=>?_))|refine AI.det (hctr) ?_|refine AI.det (hrep) ?_)<;>try simp -implicitDefEqProofs only [A8 hlt,he,hd,hcc,hw1,AA,EF,hA',h0,hself,hx2,hget,w1,d1,BQ,PS,nL,go_sem])|fail))
     exact hgo _ _ (hlast _ _ (by assumption))
   · have h0:((i:Int)==0)=false:=by
      have:=Et.2 hne
      simp only [beq_eq_false_iff_ne,ne_eq];omega
     have hex:=ZT hne x.1 x.2
     rw [O8 hne,hex] at hgo
     have hsame:(x.1≠Cs xs∨(Cs xs,x.2)∈xs)→XH dt σ (xs++[(x.1,x.2)]) (.ms k (GF dt (Cs xs)) 1 e) (σ.AQ k (B3 (flg xs (Cs xs) (GF dt (Cs xs))))):=fun h=>by
      refine .inr ⟨by simp,k,e,hk,by rw [O8 hne],?_⟩
      rw [O8 hne,kL h]
     clear hall hsn ih herr
     by_cases hf:x.1=Cs xs
     · have hself:((x.1:Int) != (Cs xs:Int))=false:=by simp [hf]
       have hself':(x.1 != Cs xs)=false:=by simpa using hf
       have hnf:GF dt (Cs xs)=d.cons.length:=by rw [← hf];exact hn
       rw [hnf] at hsame hctr hrep ⊢
       have hget:=Ev (UM xs (f:=Cs xs) hkn)
       cases hfl:xs.contains (Cs xs,x.2) with
       |true=>
        rw [hfl] at hget
        rw [hself',hfl,MA,Bool.not_true,Bg] at hgo
        (repeat' (first|refine Run.ct rfl ?_|((first|refine Run.reg mixed ?_|refine Run.AD ?_|refine AI.det (hctr) ?_|refine AI.det (hrep) ?_)<;>try simp -implicitDefEqProofs only [A8 hlt,he,hd,hcc,hw1,AA,EF,hA',h0,hself,hx2,hget,BQ,go_sem])|fail))
        exact hgo _ _ (hsame (.inr (Aa.1 hfl)))
       |false=>
        rw [hfl] at hget
        rw [hself',hfl,Bool.or_self,Eb,Az] at hgo
        have w1:=RO (l:=flg xs (Cs xs) d.cons.length) (k:=x.2) true (by rw [L7];exact hkn)
        simp only [wr,A5,CQ,An] at w1
        have d1:(x.2+(0+1)≤(B3 (flg xs (Cs xs) d.cons.length)).length)=True:=by rw [PR,L7];simp;omega
        (repeat' (first|refine Run.ct rfl ?_|((first|refine Run.reg mixed ?_|refine Run.AD ?_|refine AI.det (hctr) ?_|refine AI.det (hrep) ?_)<;>try simp -implicitDefEqProofs only [A8 hlt,he,hd,hcc,hw1,AA,EF,hA',h0,hself,hx2,hget,w1,d1,BQ,go_sem])|fail))
        refine hgo _ _ (.inr ⟨by simp,k,e,hk,by rw [O8 hne,hnf],?_⟩)
        rw [O8 hne,hnf,eQ hkn,← hf]
     · have hself:((x.1:Int) != (Cs xs:Int))=true:=by simp only [bne_iff_ne,ne_eq];omega
       have hself':(x.1 != Cs xs)=true:=by simpa using hf
       rw [hself',J8,Bool.not_true,Bg] at hgo
       (repeat' (first|refine Run.ct rfl ?_|((first|refine Run.reg mixed ?_|refine Run.AD ?_|refine AI.det (hctr) ?_|refine AI.det (hrep) ?_)<;>try simp -implicitDefEqProofs only [A8 hlt,he,hd,hcc,hw1,AA,EF,hA',h0,hself,BQ,go_sem])|fail))
       exact hgo _ _ (hsame (.inl hf))
 · rw [AG (by omega)] at hok
   have hres:Js dt al=if VD dt xs then 0 else 7:=by rw [Js,hok]
   rcases hseen with ⟨rfl,rfl,rfl⟩|⟨hne,k,e,hk,rfl,rfl⟩
   · (repeat' (first|refine Run.ct rfl ?_|((first|refine Run.reg mixed ?_|refine Run.AD ?_|refine Run.A1 Bx (AF.le_refl _) ?_|refine AI.det (T8 false _) ?_)<;>try simp -implicitDefEqProofs only [B8 hlt,show exB []=true from rfl,go_sem])|fail))
     rw [hres];rfl
   · have hbd:=PQ hok
     have hend:=gG (dt:=dt) hne (fun x hx h=>by rw [← h];exact hbd x hx)
     have hnl:GF dt (Cs xs)≤1000000:=by
      unfold GF;split
      · rename_i d hd;exact hdt d (AS hd)
      · omega
     have hcb:=SB (flg xs (Cs xs) (GF dt (Cs xs))) false k e (σ.AQ k (B3 (flg xs (Cs xs) (GF dt (Cs xs))))) (by simp only [AP,if_true]) (by rw [L7];omega)
     rw [L7] at hcb
     cases hB:exB xs with
     |false=>
      rw [hB,B2] at hend
      (repeat' (first|refine Run.ct rfl ?_|((first|refine Run.reg mixed ?_|refine Run.AD ?_|(refine Run.A1 Bx (Bp hk) ?_))<;>try simp -implicitDefEqProofs only [B8 hlt,hB,go_sem])|fail))
      rw [hres,hend];rfl
     |true=>
      rw [hB,BD] at hend
      cases hC:(flg xs (Cs xs) (GF dt (Cs xs))).any (fun x=>false==x) with
      |true=>
       rw [hC] at hcb hend
       (repeat' (first|refine Run.ct rfl ?_|((first|refine Run.reg mixed ?_|refine Run.AD ?_|(refine Run.A1 Bx (Bp hk) ?_)|refine AI.det (hcb) ?_)<;>try simp -implicitDefEqProofs only [B8 hlt,hB,go_sem])|fail))
       rw [hres,hend];rfl
      |false=>
       rw [hC] at hcb hend
       (repeat' (first|refine Run.ct rfl ?_|((first|refine Run.reg mixed ?_|refine Run.AD ?_|(refine Run.A1 Bx (Bp hk) ?_)|refine AI.det (hcb) ?_)<;>try simp -implicitDefEqProofs only [B8 hlt,hB,go_sem])|fail))
       rw [hres,hend];rfl
end Go.Ab
