/- Scope: constructors, rows of flags, the walk over a function. Scope: the alternatives of a match. Scope: the alternatives of a match, looked at. Conditions: none. -/
import Derived.Test.YtlckhmkeihbhmaaGreatXVa
set_option linter.unusedSimpArgs false
set_option linter.unusedVariables false
set_option maxRecDepth 4000
set_option maxHeartbeats 8000000
open List renaming cons_append→Ad,mem_cons_self→BT,mem_cons_of_mem→B8,length_cons→A5,getElem?_eq_some_iff→AR,take_append_drop→A4,findIdx?_eq_some_iff_getElem→fV,length_map→AA,mem_of_getElem?→AT,take_of_length_le→AH,set_eq_take_append_cons_drop→fW,replicate→AG,replicate_succ→Eu,flatten_cons→En,nil_append→Au,map_cons→AI,map_nil→AO,range→Ae,ext_getElem?→Dv,getElem?_eq_none→Ao,contains_iff_mem→Aa,mem_append→A3,mem_singleton→B5,getElem?_set→An,all_eq_true→As,mem_map→Dw,mem_range→F9,length_range→GG,mem_cons→Bf,length_nil→BX,length_pos_iff→Et
open Option renaming map_eq_some_iff→AE
open Nat renaming mul_one→Ai,le_refl→A0,zero_add→Ak
open Bool renaming eq_iff_iff→Ac,and_eq_true→AQ,not_eq_true'→Cb,or_eq_false_iff→OC,eq_false_iff→Bv,not_true→IJ,and_false→B3,not_false→C2,and_true→Am,true_or→J0,false_and→B1,true_and→BA
open Prod.mk renaming injEq→B6
open Except.ok renaming injEq→EM
open Except renaming map→CP
namespace Go.Ab
open Go.Proofs
theorem GM (l:List Con) (s:Str):l.findIdx? (fun c=>c.name==s)=HX l s:=by
 induction l with
 |nil=>rfl
 |cons x l ih=>
  rw [List.findIdx?_cons,HX]
  split
  · rfl
  · rw [ih]
theorem SG (s:Str):∀(l m:List Dat),(∀d∈l,HX d.cons s=none)→I8 (l++m) s=(I8 m s).map fun x=>(x.1+l.length,x.2)
 |[],m,_=>by simp
 |d::l,m,h=>by
  rw [Ad,I8,h d (BT ..),SG s l m (fun x hx=>h x (B8 _ hx))]
  simp only [Option.map_map,A5]
  congr 1
theorem XS {s:Str} {dt:List Dat} {i k:Nat} {d:Dat} (h:∀d∈dt.take i,HX d.cons s=none) (hd:dt[i]?=some d) (hk:HX d.cons s=some k):I8 dt s=some (i,k):=by
 have hi:=(AR.1 hd).1
 rw [← A4 i dt,SG s _ _ h,Bb hd,I8,hk]
 simp;omega
theorem XU {s:Str} {dt:List Dat} (h:∀d∈dt,HX d.cons s=none):I8 dt s=none:=by
 have:=SG s dt [] h
 simpa [I8] using this
theorem Z6 {l:List Con} {s:Str} {k:Nat} (h:HX l s=some k):∃c,l[k]?=some c∧c.name=s:=by
 rw [← GM,fV] at h
 obtain ⟨h1,h2,_⟩:=h
 exact ⟨l[k],by simp [h1],by simpa using h2⟩
theorem KO {s:Str}:∀ {dt:List Dat} {x:Nat×Nat},I8 dt s=some x→∃d c,dt[x.1]?=some d∧d.cons[x.2]?=some c∧c.name=s
 |[],x,h=>by simp [I8] at h
 |d::l,x,h=>by
  rw [I8] at h
  split at h
  · rename_i k hk
    cases h
    obtain ⟨c,hc,hn⟩:=Z6 hk
    exact ⟨d,c,rfl,hc,hn⟩
  · simp only [AE] at h
    obtain ⟨y,hy,rfl⟩:=h
    obtain ⟨d',c,h1,h2,h3⟩:=KO hy
    exact ⟨d',c,by simpa using h1,h2,h3⟩
theorem NC {s:Str} {dt:List Dat} {x:Nat×Nat} {d:Dat} {c:Con} (h1:dt[x.1]?=some d) (h2:d.cons[x.2]?=some c):arity dt x=c.args.length:=by
 simp [arity,h1,h2]
def SF (o:Option (Nat×Nat)):AV:=match o with
 |some x=>.tup [.d (.int .i64 x.1),.d (.int .i64 x.2),.d (.bool true)]
 |none=>.tup [.d (.int .i64 0),.d (.int .i64 0),.d (.bool false)]
def QS (dt:List Dat):Prop:=∀d∈dt,d.cons.length≤1000000
theorem OD (dt:List Dat) (hdt:QS dt) (s:Str) (σ:AF):AM Tryz.prog 74 [dsA dt,.d (.str s)] σ (fun v σ'=>v=SF (I8 dt s)∧σ'=σ):=by
 refine Jp (by simp) ?_
 rw [BY,dsA]
 refine Run.slot 0 (fun hb0=>?_)
 simp only [Dn,if_true,AV.FB,AA] at hb0
 (repeat' (first|refine Run.ct rfl ?_|((first|refine Run.reg mixed ?_|refine Run.AD ?_)<;>try simp -implicitDefEqProofs only [AA,go_sem])|fail))
 refine Run.BD ?_
 refine Run.BG ((fun (a0:AV) (a1:AV) (a10:AV)=>fun (i:Nat)=>put 0 a0 (put 1 a1 (put 10 a10 (put 11 (.d (.int .i64 i)) U)))) _ _ _) (fun _=>E) (fun _=>σ) (fun i=>i≤dt.length∧∀d∈dt.take i,HX d.cons s=none) (fun i=>dt.length - i) ?_ 0 ⟨by simp,by simp⟩
 rintro i ⟨hi,hno⟩ ih
 by_cases hlt:i < dt.length
 · obtain ⟨d,hd⟩:=BC hlt
   have he:=ND hd
   have hw1:IntKind.i64.wrap ((i:Int)+1)=((i+1:Nat):Int):=by rw [BI (by omega) (by omega)];omega
   (repeat' (first|refine Run.ct rfl ?_|((first|refine Run.reg mixed ?_|refine Run.AD ?_)<;>try simp -implicitDefEqProofs only [A8 hlt,he,go_sem])|fail))
   have hdl:=hdt d (AT hd)
   have hat:=fun k=>XS (k:=k) hno hd
   rw [← GM] at hat
   have hnext:=fun (h:HX d.cons s=none)=>Eg (p:=fun d:Dat=>(HX d.cons s).isSome) (i:=i) (fun y hy=>by simp [hno y hy]) hd (by rw [h];rfl)
   obtain ⟨dn,dv,cs⟩:=d
   simp only [AA] at *
   (repeat' (first|refine Run.ct rfl ?_|((first|refine Run.reg mixed ?_|refine Run.AD ?_)<;>try simp -implicitDefEqProofs only [AA,go_sem])|fail))
   refine Run.BD ?_
   refine Run.BG ((fun (a0:AV) (a1:AV) (a7:AV) (a10:AV) (a11:AV) (a19:AV)=>fun (k:Nat)=>put 0 a0 (put 1 a1 (put 7 a7 (put 10 a10 (put 11 a11 (put 19 a19 (put 20 (.d (.int .i64 k)) U))))))) _ _ _ _ _ _) (fun _=>E) (fun _=>σ) (fun k=>k≤cs.length∧∀c∈cs.take k,(c.name==s)=false) (fun k=>cs.length - k) ?_ 0 ⟨by simp,by simp⟩
   rintro k ⟨hk,hnk⟩ ih2
   by_cases hkl:k < cs.length
   · obtain ⟨c,hc⟩:=BC hkl
     have hec:=NA hc
     have hwk:=A6 (show k+1≤9000000000000000000 by omega)
     cases hs:(c.name==s) with
     |true=>
      (repeat' (first|refine Run.ct rfl ?_|((first|refine Run.reg mixed ?_|refine Run.AD ?_|refine Run.A1 DF (AF.le_refl _) ?_)<;>try simp -implicitDefEqProofs only [A8 hkl,he,hec,BS,hs,go_sem])|fail))
      rw [hat k (D1 (p:=fun c:Con=>c.name==s) hnk hc hs)];rfl
     |false=>
      (repeat' (first|refine Run.ct rfl ?_|((first|refine Run.reg mixed ?_|refine Run.AD ?_)<;>try simp -implicitDefEqProofs only [A8 hkl,he,hec,hwk,BS,hs,go_sem])|fail))
      exact ih2 (k+1) ⟨by omega,Eg (p:=fun c:Con=>c.name==s) hnk hc hs⟩ (by omega)
   · rw [AH (by omega)] at hnk
     (repeat' (first|refine Run.ct rfl ?_|((first|refine Run.reg mixed ?_|refine Run.AD ?_)<;>try simp -implicitDefEqProofs only [Bd hkl,hw1,go_sem])|fail))
     refine ih (i+1) ⟨by omega,fun y hy=>?_⟩ (by omega)
     have:=hnext (by rw [← GM,D2 (p:=fun c:Con=>c.name==s) hnk]) y hy
     simpa using this
 · (repeat' (first|refine Run.ct rfl ?_|((first|refine Run.reg mixed ?_|refine Run.AD ?_|refine Run.A1 DF (AF.le_refl _) ?_)<;>try simp -implicitDefEqProofs only [Bd hlt,go_sem])|fail))
   rw [AH (by omega)] at hno
   rw [XU hno];rfl
def BK (l:List Bool):List AV:=l.map fun b=>.d (.bool b)
theorem PH (l:List Bool):(BK l).length=l.length:=by simp [BK]
theorem DD {l:List Bool} {k:Nat} {x:Bool} (h:l[k]?=some x):(BK l)[k]?=some (.d (.bool x)):=by simp [BK,h]
theorem RA {l:List Bool} {k:Nat} (x:Bool) (h:k < l.length):wr (BK l) k [.d (.bool x)]=BK (l.set k x):=by
 unfold wr BK
 rw [List.map_set,fW,if_pos (by simpa using h)]
 simp
theorem KM (n:Nat):(AG n [AV.d (.bool false)]).flatten=BK (AG n false):=by
 induction n with
 |zero=>rfl
 |succ n ih=>rw [Eu,En,ih,Eu];rfl
theorem Vj (l:List Bool) (b:Bool) (j e:Nat) (σ:AF) (hj:σ.blk j=some (BK l)) (hl:l.length≤1000000000):AM Tryz.prog 132 [.ms j l.length 1 e,.d (.bool b)] σ (fun v σ'=>v= .d (.int .i64 (Ee (l.findIdx? (fun x=>b==x))))∧σ'=σ):=by
 refine Jq (by simp) ?_
 rw [BY]
 (repeat' (first|refine Run.ct rfl ?_|((first|refine Run.reg mixed ?_|refine Run.AD ?_)<;>try simp -implicitDefEqProofs only [go_sem])|fail))
 refine Run.BD ?_
 refine Run.BG ((fun (a0:AV) (a1:AV) (a7:AV)=>fun (i:Nat)=>put 0 a0 (put 1 a1 (put 7 a7 (put 8 (.d (.int .i64 i)) U)))) _ _ _) (fun _=>E) (fun _=>σ) (fun i=>i≤l.length∧∀x∈l.take i,(b==x)=false) (fun i=>l.length - i) ?_ 0 ⟨by simp,by simp⟩
 rintro i ⟨hi,hno⟩ ih
 by_cases hlt:i < l.length
 · obtain ⟨x,hx⟩:=BC hlt
   have he:=DD hx
   have hix:((i:Int) < (l.length:Int))=True:=by simp;omega
   have hw1:=A6 (show i+1≤9000000000000000000 by omega)
   cases hp:(b==x) with
   |true=>
    (repeat' (first|refine Run.ct rfl ?_|((first|refine Run.reg mixed ?_|refine Run.AD ?_|refine Run.A1 Es (AF.le_refl _) ?_)<;>try simp -implicitDefEqProofs only [A8 hlt,hix,hj,he,hp,Ai,go_sem])|fail))
    rw [D1 (p:=fun x=>b==x) hno hx hp];rfl
   |false=>
    (repeat' (first|refine Run.ct rfl ?_|((first|refine Run.reg mixed ?_|refine Run.AD ?_)<;>try simp -implicitDefEqProofs only [A8 hlt,hix,hj,he,hw1,hp,Ai,go_sem])|fail))
    exact ih (i+1) ⟨by omega,Eg (p:=fun x=>b==x) hno hx hp⟩ (by omega)
 · (repeat' (first|refine Run.ct rfl ?_|((first|refine Run.reg mixed ?_|refine Run.AD ?_|refine Run.A1 Es (AF.le_refl _) ?_)<;>try simp -implicitDefEqProofs only [Bd hlt,go_sem])|fail))
   rw [AH (by omega)] at hno
   rw [D2 (p:=fun x=>b==x) hno];rfl
theorem Ru (l:List Bool) (b:Bool) (j e:Nat) (σ:AF) (hj:σ.blk j=some (BK l)) (hl:l.length≤1000000000):AM Tryz.prog 102 [.ms j l.length 1 e,.d (.bool b)] σ (fun v σ'=>v= .d (.bool (l.any (fun x=>b==x)))∧σ'=σ):=by
 refine Ho (by simp) ?_
 rw [BY]
 (repeat' (first|refine Run.ct rfl ?_|((first|refine Run.reg mixed ?_|refine Run.AD ?_|refine Run.A1 F4 (AF.le_refl _) ?_|refine AJ.det (Vj l b j e σ hj hl) ?_)<;>try simp -implicitDefEqProofs only [PL,Iw,go_sem])|fail))
theorem TQ (b:Bool) (σ:AF):AM Tryz.prog 102 [.AY,.d (.bool b)] σ (fun v σ'=>v= .d (.bool false)∧σ'=σ):=by
 have hi:AM Tryz.prog 132 [.AY,.d (.bool b)] σ (fun v σ'=>v= .d (.int .i64 (-1))∧σ'=σ):=by
  refine Jq (by simp) ?_
  rw [BY]
  have h0:decide ((0:Int) < 0)=false:=by decide
  (repeat' (first|refine Run.ct rfl ?_|((first|refine Run.reg mixed ?_|refine Run.AD ?_|refine Run.A1 Es (AF.le_refl _) ?_|(refine Run.loop ?_))<;>try simp -implicitDefEqProofs only [h0,go_sem])|fail))
 refine Ho (by simp) ?_
 rw [BY]
 have h1:decide ((0:Int)≤-1)=false:=by decide
 (repeat' (first|refine Run.ct rfl ?_|((first|refine Run.reg mixed ?_|refine Run.AD ?_|refine Run.A1 F4 (AF.le_refl _) ?_|refine AJ.det (hi) ?_)<;>try simp -implicitDefEqProofs only [h1,go_sem])|fail))
theorem Ve {S:Type} (vis:S→Ex×List Str→Int×S) (hS:S→AF) (fid:FuncId) (first caps:List AV) (hb:C0 Tryz.prog fid=true) (hfi:first.all AV.BZ=true) (hca:caps.all AV.BZ=true)
 (f:FE) (s:S) (hsz:f.body.size≤1000000) (hfr:∀t j,(hS s).blk j=none→(hS t).blk j=none) (hvis:∀j,(hS s).blk j=none→bN vis hS j (.fn fid first caps) fid first caps (B7 f.body f.params)):
 AM Tryz.prog 30 [feA f,.fn fid first caps] (hS s) (fun v σ'=>match Gl vis (B7 f.body f.params) s with
  |(none,s')=>v= .tup [.d (.int .i64 ((f.body.size - 1:Nat):Int)),.d (.int .i64 0)]∧σ'=hS s'
  |(some (k,c),s')=>v= .tup [.d (.int .i64 (k:Nat)),.d (.int .i64 c)]∧σ'=hS s'):=by
 refine T5 (by simp) ?_
 rw [BY]
 have hw:=fun σ=>PV [] f.params σ
 rw [show bdL []= .FD from rfl] at hw
 have hw':∀σ,AM Tryz.prog 64 [.FD,.d (.sl (f.params.map BF))] σ (fun v σ'=>v= .d (bdL f.params)∧σ'=σ):=fun σ=>AM.plain (by simpa only [AV.DM,VB,Gc,Au] using hw σ)
 clear hw
 have hwalk:=fun j hj=>lQ vis hS j fid first caps hb hfi hca _ f.body f.params 0 s (A0 _) (by omega) (hvis j hj)
 have hnn:=JT f.body f.params
 have hblk:∀j n s,(WH hS j (.fn fid first caps) n s).blk j=some [.d (.int .i64 n),.fn fid first caps]:=fun j n s=>by simp only [WH,AL,if_true]
 rcases hr:Gl vis (B7 f.body f.params) s with ⟨_|⟨k,c⟩,s'⟩
 · have hwalk:∀j,(hS s).blk j=none→AM Tryz.prog 63 [.gp j 0,exA f.body,.d (bdL f.params)] (WH hS j (.fn fid first caps) 0 s) (fun v σ'=>v= .d (.int .i64 0)∧σ'=WH hS j (.fn fid first caps) (f.body.size - 1) s'):=fun j hj=>(hwalk j hj).mono (by
    intro v σ' h
    simp only [WQ,hr] at h
    rw [hnn,Ak] at h
    exact h)
   obtain ⟨nm,ps,o,n,u,ns,ks,al⟩:=f
   simp only [FE.enc,Ex.A7,feA,exA,AI,AO] at hw' hwalk ⊢
   (repeat' (first|refine Run.ct rfl ?_|((first|refine Run.reg mixed ?_|refine Run.AD ?_)<;>try simp -implicitDefEqProofs only [go_sem])|fail))
   intro j hj
   have h0:(hS s).AP j [.d (.int .i64 0),.fn fid first caps]=WH hS j (.fn fid first caps) 0 s:=rfl
   rw [h0]
   have hle:(hS s').le (WH hS j (.fn fid first caps) ((Ex.mk o n u ns ks al).size - 1) s'):=Bj (hfr s' j hj)
   (repeat' (first|refine Run.ct rfl ?_|((first|refine Run.reg mixed ?_|refine Run.AD ?_|(refine AJ.mk rfl (hwalk j hj) ?_;rintro _ _ ⟨rfl,rfl⟩)|(refine Run.A1 J6 hle ?_)|refine AJ.det (hw' _) ?_)<;>try simp -implicitDefEqProofs only [hblk,go_sem])|fail))
 · have hwalk:∀j,(hS s).blk j=none→AM Tryz.prog 63 [.gp j 0,exA f.body,.d (bdL f.params)] (WH hS j (.fn fid first caps) 0 s) (fun v σ'=>v= .d (.int .i64 c)∧σ'=WH hS j (.fn fid first caps) k s'):=fun j hj=>(hwalk j hj).mono (by
    intro v σ' h
    simp only [WQ,hr] at h
    rw [Ak] at h
    exact h.2)
   obtain ⟨nm,ps,o,n,u,ns,ks,al⟩:=f
   simp only [FE.enc,Ex.A7,feA,exA,AI,AO] at hw' hwalk ⊢
   (repeat' (first|refine Run.ct rfl ?_|((first|refine Run.reg mixed ?_|refine Run.AD ?_)<;>try simp -implicitDefEqProofs only [go_sem])|fail))
   intro j hj
   have h0:(hS s).AP j [.d (.int .i64 0),.fn fid first caps]=WH hS j (.fn fid first caps) 0 s:=rfl
   rw [h0]
   have hle:(hS s').le (WH hS j (.fn fid first caps) k s'):=Bj (hfr s' j hj)
   (repeat' (first|refine Run.ct rfl ?_|((first|refine Run.reg mixed ?_|refine Run.AD ?_|(refine AJ.mk rfl (hwalk j hj) ?_;rintro _ _ ⟨rfl,rfl⟩)|(refine Run.A1 J6 hle ?_)|refine AJ.det (hw' _) ?_)<;>try simp -implicitDefEqProofs only [hblk,go_sem])|fail))
end Go.Ab
namespace Go.Ab
open Go.Proofs
theorem PO {α:Type} [DecidableEq α]:∀ {l m:List α},l.Nodup→(∀x∈l,x∈m)→l.length≤m.length
 |[],m,_,_=>by simp
 |x::l,m,hn,hs=>by
  have hx:=hs x (BT ..)
  have h1:(m.erase x).length=m.length - 1:=List.length_erase_of_mem hx
  have h2:=List.length_pos_of_mem hx
  have h3:l.length≤(m.erase x).length:=PO (List.nodup_cons.1 hn).2 (fun y hy=>(List.mem_erase_of_ne (by
   rintro rfl;exact (List.nodup_cons.1 hn).1 hy)).2 (hs y (B8 _ hy)))
  simp only [A5];omega
def Cp:List (Nat×Nat)→Nat
 |[]=>0
 |x::_=>x.1
def flg (xs:List (Nat×Nat)) (f n:Nat):List Bool:=(Ae n).map fun q=>xs.contains (f,q)
def exB:List (Nat×Nat)→Bool
 |[]=>true
 |x::l=>(x::l).all (fun y=>y.1==x.1)&&decide (x::l).Nodup
theorem L1 (xs:List (Nat×Nat)) (f n:Nat):(flg xs f n).length=n:=by simp [flg]
theorem Tw (xs:List (Nat×Nat)) {f n q:Nat} (h:q < n):(flg xs f n)[q]?=some (xs.contains (f,q)):=by simp [flg,h]
theorem kR (f n:Nat):flg [] f n=AG n false:=by
 apply Dv
 intro q
 by_cases h:q < n
 · rw [Tw _ h];simp [h]
 · rw [Ao (by simp [L1];omega),Ao (by simp;omega)]
theorem gW {xs:List (Nat×Nat)} {f n d k:Nat} (h:d≠f∨(f,k)∈xs):flg (xs++[(d,k)]) f n=flg xs f n:=by
 unfold flg
 apply List.map_congr_left
 intro q _
 rw [Ac]
 simp only [Aa,A3,B5,B6]
 constructor
 · rintro (h1|⟨rfl,rfl⟩)
   · exact h1
   · rcases h with h|h
     · exact absurd rfl h
     · exact h
 · exact .inl
theorem bU {xs:List (Nat×Nat)} {f n k:Nat} (hk:k < n):(flg xs f n).set k true=flg (xs++[(f,k)]) f n:=by
 apply Dv
 intro q
 by_cases h:q < n
 · rw [Tw _ h,An]
   by_cases hq:k=q
   · subst hq
     rw [if_pos rfl,if_pos (by rw [L1];exact hk)]
     congr 1
     simp
   · rw [if_neg hq,Tw _ h]
     congr 1
     rw [Ac]
     simp only [Aa,A3,B5,B6,true_and]
     constructor
     · exact .inl
     · rintro (h1|h1)
       · exact h1
       · exact absurd h1.symm hq
 · rw [Ao (by simp [L1];omega),Ao (by simp [L1];omega)]
theorem YL {xs:List (Nat×Nat)} (hne:xs≠[]) (d k:Nat):exB (xs++[(d,k)])=(exB xs&& !(d != Cp xs||xs.contains (Cp xs,k))):=by
 cases xs with
 |nil=>exact absurd rfl hne
 |cons x l=>
  simp only [Ad,exB,Cp]
  rw [Ac]
  simp only [AQ,As,beq_iff_eq,decide_eq_true_eq,Cb,OC,bne_eq_false_iff_eq]
  rw [show x::(l++[(d,k)])=(x::l)++[(d,k)] from rfl,List.nodup_append]
  constructor
  · rintro ⟨h1,h2,_,h3⟩
    have hd:d=x.1:=h1 (d,k) (by simp)
    refine ⟨⟨fun y hy=>h1 y (by simp only [A3];exact .inl hy),h2⟩,hd,?_⟩
    rw [Bv]
    intro hc
    have:=h3 _ (Aa.1 hc) (d,k) (by simp)
    exact this (by rw [hd])
  · rintro ⟨⟨h1,h2⟩,rfl,h3⟩
    refine ⟨fun y hy=>?_,h2,by simp,fun a ha b hb=>?_⟩
    · rcases A3.1 hy with hy|hy
      · exact h1 y hy
      · simp only [B5] at hy;subst hy;rfl
    · simp only [B5] at hb;subst hb
      rintro rfl
      rw [Aa.2 ha] at h3;cases h3
theorem dA {dt:List Dat} {xs:List (Nat×Nat)} (hne:xs≠[]) (hk:∀x∈xs,x.1=Cp xs→x.2 < GD dt (Cp xs)):
 Ub dt xs=(exB xs&& !(flg xs (Cp xs) (GD dt (Cp xs))).any (fun x=>false==x)):=by
 cases xs with
 |nil=>exact absurd rfl hne
 |cons x l=>
  simp only [Ub,exB,Cp] at hk ⊢
  generalize hxs:x::l=xs at hk ⊢
  generalize GD dt x.1=n at hk ⊢
  rw [Ac]
  simp only [AQ,As,beq_iff_eq,decide_eq_true_eq,Cb,List.any_eq_false]
  constructor
  · rintro ⟨⟨h1,h2⟩,h3⟩
    refine ⟨⟨h1,h2⟩,fun b hb=>?_⟩
    simp only [flg,Dw,F9] at hb
    obtain ⟨q,hq,rfl⟩:=hb
    intro hc
    have hc':¬(x.1,q)∈xs:=fun hm=>by rw [Aa.2 hm] at hc;cases hc
    have:=PO (m:=((Ae n).map fun q=>(x.1,q)).erase (x.1,q)) h2 (fun y hy=>by
     have hy1:=h1 y hy
     rw [List.mem_erase_of_ne (by rintro rfl;exact hc' hy)]
     rw [Dw]
     exact ⟨y.2,by rw [F9];exact hk y hy hy1,by rw [← hy1]⟩)
    rw [List.length_erase_of_mem (by rw [Dw];exact ⟨q,by simpa using hq,rfl⟩),AA,GG] at this
    omega
  · rintro ⟨⟨h1,h2⟩,h3⟩
    refine ⟨⟨h1,h2⟩,?_⟩
    have hle:=PO (m:=(Ae n).map fun q=>(x.1,q)) h2 (fun y hy=>by
     rw [Dw]
     exact ⟨y.2,by rw [F9];exact hk y hy (h1 y hy),by rw [← h1 y hy]⟩)
    have hge:=PO (l:=(Ae n).map fun q=>(x.1,q)) (m:=xs) (by
     rw [List.nodup_iff_pairwise_ne,List.pairwise_map]
     exact List.Pairwise.imp (fun h he=>h (Prod.mk.inj he).2) List.nodup_range) (fun y hy=>by
     rw [Dw] at hy
     obtain ⟨q,hq,rfl⟩:=hy
     have:=h3 (xs.contains (x.1,q)) (by simp only [flg,Dw];exact ⟨q,hq,rfl⟩)
     cases hc:xs.contains (x.1,q) with
     |true=>exact Aa.1 hc
     |false=>rw [hc] at this;simp at this)
    rw [AA,GG] at hle hge
    omega
theorem KU (dt:List Dat) (m:List Al):∀ {l:List Al} {xs:List (Nat×Nat)},Ci dt l= .ok xs→Ci dt (l++m)=(Ci dt m).map (xs++·)
 |[],xs,h=>by
  simp only [Ci,EM] at h;subst h
  simp only [Au]
  cases Ci dt m<;>rfl
 | .mk c vs b::l,xs,h=>by
  rw [Ad,Ci]
  rw [Ci] at h
  cases hc:I8 dt c with
  |none=>rw [hc] at h;cases h
  |some x=>
   rw [hc] at h
   simp only at h ⊢
   split at h
   · cases h
   · split at h
     · cases h
     · rename_i h1 h2
       rw [if_neg h1,if_neg h2]
       cases hl:Ci dt l with
       |error e=>rw [hl] at h;cases h
       |ok ys=>
        rw [hl] at h
        simp only [CP,EM] at h
        subst h
        rw [KU dt m hl]
        cases Ci dt m<;>rfl
end Go.Ab
namespace Go.Ab
open Go.Proofs
def W5 (dt:List Dat) (σ:AF) (xs:List (Nat×Nat)) (v:AV) (τ:AF):Prop:=
 (xs=[]∧v= .AY∧τ=σ)∨(xs≠[]∧∃k e,σ.blk k=none∧v= .ms k (GD dt (Cp xs)) 1 e∧τ=σ.AP k (BK (flg xs (Cp xs) (GD dt (Cp xs)))))
theorem W5.le {dt:List Dat} {σ τ:AF} {xs:List (Nat×Nat)} {v:AV} (h:W5 dt σ xs v τ):σ.le τ:=by
 rcases h with ⟨_,_,rfl⟩|⟨_,k,e,hk,_,rfl⟩
 · exact AF.le_refl _
 · exact Bj hk
theorem Ux {dt:List Dat} {d:Nat} {x:Dat} (h:dt[d]?=some x):GD dt d=x.cons.length:=by simp [GD,h]
theorem PG {dt:List Dat}:∀ {l:List Al} {xs:List (Nat×Nat)},Ci dt l= .ok xs→∀x∈xs,x.2 < GD dt x.1
 |[],xs,h=>by simp only [Ci,EM] at h;subst h;simp
 | .mk c vs b::l,xs,h=>by
  rw [Ci] at h
  cases hc:I8 dt c with
  |none=>rw [hc] at h;cases h
  |some x=>
   rw [hc] at h
   simp only at h
   split at h
   · cases h
   · split at h
     · cases h
     · cases hl:Ci dt l with
       |error e=>rw [hl] at h;cases h
       |ok ys=>
        rw [hl] at h
        simp only [CP,EM] at h
        subst h
        intro y hy
        rcases Bf.1 hy with rfl|hy
        · obtain ⟨d,cc,h1,h2,_⟩:=KO hc
          rw [Ux h1]
          exact (AR.1 h2).1
        · exact PG hl y hy
theorem kQ:exB []=true:=rfl
theorem OZ {xs:List (Nat×Nat)} (h:xs≠[]) (y:Nat×Nat):Cp (xs++[y])=Cp xs:=by
 cases xs with
 |nil=>exact absurd rfl h
 |cons x l=>rfl
theorem j8 (ds:List DE) (fs:List FE) (dt:List Dat) (hdt:QS dt) (al:List Al) (σ:AF) (hal:al.length≤1000000):
 AM Tryz.prog 75 [.agg [.d (.sl (ds.map DE.enc)),.d (.sl (fs.map FE.enc)),.d (.sl (dt.map Dat.enc))],.d (.sl (al.map Al.enc))] σ (fun v σ'=>v= .d (.int .i64 (KV dt al))∧σ'=σ):=by
 refine O8 (by simp) ?_
 rw [BY]
 (repeat' (first|refine Run.ct rfl ?_|((first|refine Run.reg mixed ?_|refine Run.AD ?_)<;>try simp -implicitDefEqProofs only [AA,go_sem])|fail))
 refine Run.BD ?_
 refine Run.BG ((fun (a2:AV) (a13:AV) (a14:AV)=>fun (y:Nat×List (Nat×Nat)×AV×AF)=>put 2 a2 (put 5 (.d (.bool (exB y.2.1))) (put 6 (.d (.int .i64 (Cp y.2.1))) (put 7 (y.2.2.1) (put 13 a13 (put 14 a14 (put 15 (.d (.int .i64 y.1)) U))))))) _ _ _) (fun _=>BE 2 [.d (.sl (ds.map DE.enc)),.d (.sl (fs.map FE.enc)),.d (.sl (dt.map Dat.enc))] E) (fun y=>y.2.2.2)
  (fun y=>y.1≤al.length∧y.2.1.length=y.1∧Ci dt (al.take y.1)= .ok y.2.1∧W5 dt σ y.2.1 y.2.2.1 y.2.2.2) (fun y=>al.length - y.1) ?_ (0,[],.AY,σ) ⟨by simp,rfl,rfl,.inl ⟨rfl,rfl,rfl⟩⟩
 rintro ⟨i,xs,sv,τ⟩ ⟨hi,hlx,hok,hseen⟩ ih
 simp only at hi hlx hok hseen
 by_cases hlt:i < al.length
 · obtain ⟨a,ha⟩:=BC hlt
   have he:=Ay (enc:=Al.enc) ha
   have hw1:=A6 (show i+1≤9000000000000000000 by omega)
   have hall:Ci dt al=(Ci dt (a::al.drop (i+1))).map (xs++·):=by
    conv=>lhs;rw [← A4 i al,Bb ha]
    exact KU dt _ hok
   have hsn:Ci dt (al.take (i+1))=(Ci dt [a]).map (xs++·):=by
    rw [Aw ha];exact KU dt _ hok
   obtain ⟨c,vs,o,n,u,ns,ks,aa⟩:=a
   rw [Ci] at hall hsn
   simp only [Al.A7] at he
   have hctr:=OD dt hdt c τ
   rw [dsA] at hctr
   have herr:∀e:Int,Ci dt al= .error e→KV dt al=e:=fun e h=>by rw [KV,h]
   cases hc:I8 dt c with
   |none=>
    rw [hc] at hctr hall
    simp only [SF] at hctr
    (repeat' (first|refine Run.ct rfl ?_|((first|refine Run.reg mixed ?_|refine Run.AD ?_|(refine Run.A1 Bw hseen.le ?_)|refine AJ.det (hctr) ?_)<;>try simp -implicitDefEqProofs only [A8 hlt,he,go_sem])|fail))
    rw [herr 3 (by rw [hall];rfl)]
   |some x=>
   rw [hc] at hctr hall hsn
   simp only [SF] at hctr hall hsn
   obtain ⟨d,cc,h1,h2,_⟩:=KO hc
   have har:=NC (s:=[]) h1 h2
   have hn:=Ux h1
   have hdl:=hdt d (AT h1)
   have hkn:x.2 < d.cons.length:=(AR.1 h2).1
   have hd:=ND h1
   have hcc:=NA h2
   rw [har] at hall hsn
   have hix:Of (.d (.int .i64 (x.1:Int)))=some x.1:=by simp [Of]
   by_cases hA:vs.length≠cc.args.length
   · rw [if_pos hA] at hall
     have hA':((vs.length:Int) != (cc.args.length:Int))=true:=by rw [TU];simpa using hA
     (repeat' (first|refine Run.ct rfl ?_|((first|refine Run.reg mixed ?_|refine Run.AD ?_|(refine Run.A1 Bw hseen.le ?_)|refine AJ.det (hctr) ?_)<;>try simp -implicitDefEqProofs only [A8 hlt,he,hd,hcc,AA,Dz,hA',go_sem])|fail))
     rw [herr 5 (by rw [hall];rfl)]
   rw [if_neg hA] at hall hsn
   have hA':((vs.length:Int) != (cc.args.length:Int))=false:=by rw [TU];simpa using hA
   have hrep:=L5 vs τ
   cases hB:CC vs with
   |true=>
    rw [hB] at hrep hall
    rw [if_pos rfl] at hall
    (repeat' (first|refine Run.ct rfl ?_|((first|refine Run.reg mixed ?_|refine Run.AD ?_|(refine Run.A1 Bw hseen.le ?_)|refine AJ.det (hctr) ?_|refine AJ.det (hrep) ?_)<;>try simp -implicitDefEqProofs only [A8 hlt,he,hd,hcc,AA,Dz,hA',go_sem])|fail))
    rw [herr 4 (by rw [hall];rfl)]
   |false=>
   rw [hB] at hrep hsn
   rw [if_neg (by simp)] at hsn
   simp only [Ci,CP] at hsn
   rw [show xs++[x]=xs++[(x.1,x.2)] from rfl] at hsn
   have hgo:∀(sv':AV) (τ':AF),W5 dt σ (xs++[(x.1,x.2)]) sv' τ'→_:=fun sv' τ' h=>ih (i+1,xs++[(x.1,x.2)],sv',τ') ⟨by simp only;omega,by simp [hlx],hsn,h⟩ (by simp only;omega)
   simp only at hgo
   have hx2:((x.2:Int) < ((d.cons.length:Nat):Int))=True:=by simp only [eq_iff_iff,iff_true];omega
   rcases hseen with ⟨rfl,rfl,rfl⟩|⟨hne,k,e,hk,rfl,rfl⟩
   · -- the first alternative
     have h0:((i:Int)==0)=true:=by
      simp only [BX] at hlx;subst hlx;rfl
     have hself:((x.1:Int) != (x.1:Int))=false:=by simp
     have hget:=DD (l:=AG d.cons.length false) (k:=x.2) (x:=false) (by simp [hkn])
     have w1:=RA (l:=AG d.cons.length false) (k:=x.2) true (by simpa using hkn)
     simp only [wr,A5,BX,Ak] at w1
     have d1:(x.2+(0+1)≤(BK (AG d.cons.length false)).length)=True:=by rw [PH,List.length_replicate];simp;omega
     have hlast:∀k e,τ.blk k=none→W5 dt τ ([]++[(x.1,x.2)]) (.ms k d.cons.length 1 e) (τ.AP k (BK ((AG d.cons.length false).set x.2 true))):=fun k e hk=>by
      refine .inr ⟨by simp,k,e,hk,by rw [show Cp ([]++[(x.1,x.2)])=x.1 from rfl,hn],?_⟩
      rw [show Cp ([]++[(x.1,x.2)])=x.1 from rfl,hn,← kR x.1,bU hkn]
     have e1:exB ([]++[(x.1,x.2)])=true:=by simp [exB]
     rw [e1,show Cp ([]++[(x.1,x.2)])=x.1 from rfl] at hgo
     clear hall hsn ih herr
     (repeat' (first|refine Run.ct rfl ?_|((first|refine Run.reg mixed ?_|refine Run.AD ?_|(refine Qx.mk d.cons.length (by omega) (by omega) (fun k hk=>?_))|refine AJ.det (hctr) ?_|refine AJ.det (hrep) ?_)<;>try simp -implicitDefEqProofs only [A8 hlt,he,hd,hcc,hw1,AA,Dz,hA',h0,hself,hx2,hget,w1,d1,Ai,KM,kQ,go_sem])|fail))
     exact hgo _ _ (hlast _ _ (by assumption))
   · have h0:((i:Int)==0)=false:=by
      have:=Et.2 hne
      simp only [beq_eq_false_iff_ne,ne_eq];omega
     have hex:=YL hne x.1 x.2
     rw [OZ hne,hex] at hgo
     have hsame:(x.1≠Cp xs∨(Cp xs,x.2)∈xs)→W5 dt σ (xs++[(x.1,x.2)]) (.ms k (GD dt (Cp xs)) 1 e) (σ.AP k (BK (flg xs (Cp xs) (GD dt (Cp xs))))):=fun h=>by
      refine .inr ⟨by simp,k,e,hk,by rw [OZ hne],?_⟩
      rw [OZ hne,gW h]
     clear hall hsn ih herr
     by_cases hf:x.1=Cp xs
     · have hself:((x.1:Int) != (Cp xs:Int))=false:=by simp [hf]
       have hself':(x.1 != Cp xs)=false:=by simpa using hf
       have hnf:GD dt (Cp xs)=d.cons.length:=by rw [← hf];exact hn
       rw [hnf] at hsame hctr hrep ⊢
       have hget:=DD (Tw xs (f:=Cp xs) hkn)
       cases hfl:xs.contains (Cp xs,x.2) with
       |true=>
        rw [hfl] at hget
        rw [hself',hfl,Bool.or_true,IJ,B3] at hgo
        (repeat' (first|refine Run.ct rfl ?_|((first|refine Run.reg mixed ?_|refine Run.AD ?_|refine AJ.det (hctr) ?_|refine AJ.det (hrep) ?_)<;>try simp -implicitDefEqProofs only [A8 hlt,he,hd,hcc,hw1,AA,Dz,hA',h0,hself,hx2,hget,Ai,go_sem])|fail))
        exact hgo _ _ (hsame (.inr (Aa.1 hfl)))
       |false=>
        rw [hfl] at hget
        rw [hself',hfl,Bool.or_self,C2,Am] at hgo
        have w1:=RA (l:=flg xs (Cp xs) d.cons.length) (k:=x.2) true (by rw [L1];exact hkn)
        simp only [wr,A5,BX,Ak] at w1
        have d1:(x.2+(0+1)≤(BK (flg xs (Cp xs) d.cons.length)).length)=True:=by rw [PH,L1];simp;omega
        (repeat' (first|refine Run.ct rfl ?_|((first|refine Run.reg mixed ?_|refine Run.AD ?_|refine AJ.det (hctr) ?_|refine AJ.det (hrep) ?_)<;>try simp -implicitDefEqProofs only [A8 hlt,he,hd,hcc,hw1,AA,Dz,hA',h0,hself,hx2,hget,w1,d1,Ai,go_sem])|fail))
        refine hgo _ _ (.inr ⟨by simp,k,e,hk,by rw [OZ hne,hnf],?_⟩)
        rw [OZ hne,hnf,bU hkn,← hf]
     · have hself:((x.1:Int) != (Cp xs:Int))=true:=by simp only [bne_iff_ne,ne_eq];omega
       have hself':(x.1 != Cp xs)=true:=by simpa using hf
       rw [hself',J0,IJ,B3] at hgo
       (repeat' (first|refine Run.ct rfl ?_|((first|refine Run.reg mixed ?_|refine Run.AD ?_|refine AJ.det (hctr) ?_|refine AJ.det (hrep) ?_)<;>try simp -implicitDefEqProofs only [A8 hlt,he,hd,hcc,hw1,AA,Dz,hA',h0,hself,Ai,go_sem])|fail))
       exact hgo _ _ (hsame (.inl hf))
 · rw [AH (by omega)] at hok
   have hres:KV dt al=if Ub dt xs then 0 else 7:=by rw [KV,hok]
   rcases hseen with ⟨rfl,rfl,rfl⟩|⟨hne,k,e,hk,rfl,rfl⟩
   · (repeat' (first|refine Run.ct rfl ?_|((first|refine Run.reg mixed ?_|refine Run.AD ?_|refine Run.A1 Bw (AF.le_refl _) ?_|refine AJ.det (TQ false _) ?_)<;>try simp -implicitDefEqProofs only [Bd hlt,show exB []=true from rfl,go_sem])|fail))
     rw [hres];rfl
   · have hbd:=PG hok
     have hend:=dA (dt:=dt) hne (fun x hx h=>by rw [← h];exact hbd x hx)
     have hnl:GD dt (Cp xs)≤1000000:=by
      unfold GD;split
      · rename_i d hd;exact hdt d (AT hd)
      · omega
     have hcb:=Ru (flg xs (Cp xs) (GD dt (Cp xs))) false k e (σ.AP k (BK (flg xs (Cp xs) (GD dt (Cp xs))))) (by simp only [AL,if_true]) (by rw [L1];omega)
     rw [L1] at hcb
     cases hB:exB xs with
     |false=>
      rw [hB,B1] at hend
      (repeat' (first|refine Run.ct rfl ?_|((first|refine Run.reg mixed ?_|refine Run.AD ?_|(refine Run.A1 Bw (Bj hk) ?_))<;>try simp -implicitDefEqProofs only [Bd hlt,hB,go_sem])|fail))
      rw [hres,hend];rfl
     |true=>
      rw [hB,BA] at hend
      cases hC:(flg xs (Cp xs) (GD dt (Cp xs))).any (fun x=>false==x) with
      |true=>
       rw [hC] at hcb hend
       (repeat' (first|refine Run.ct rfl ?_|((first|refine Run.reg mixed ?_|refine Run.AD ?_|(refine Run.A1 Bw (Bj hk) ?_)|refine AJ.det (hcb) ?_)<;>try simp -implicitDefEqProofs only [Bd hlt,hB,go_sem])|fail))
       rw [hres,hend];rfl
      |false=>
       rw [hC] at hcb hend
       (repeat' (first|refine Run.ct rfl ?_|((first|refine Run.reg mixed ?_|refine Run.AD ?_|(refine Run.A1 Bw (Bj hk) ?_)|refine AJ.det (hcb) ?_)<;>try simp -implicitDefEqProofs only [Bd hlt,hB,go_sem])|fail))
       rw [hres,hend];rfl
end Go.Ab
