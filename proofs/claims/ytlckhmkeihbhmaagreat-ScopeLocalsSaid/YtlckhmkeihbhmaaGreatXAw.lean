/- The sanity check of the laws of scope. Several owned slices side by side. Several owned slices, as a list. Reference scope: find, twice. Reference scope: Constructor. Reference scope: resolve's loop. Reference scope: resolve. Conditions: none. -/
import Derived.Test.YtlckhmkeihbhmaaGreatXYh
set_option linter.unusedSimpArgs false
set_option linter.unusedVariables false
set_option maxRecDepth 4000
set_option maxHeartbeats 8000000
open List renaming map_cons→AH,map_nil→AM,mem_cons_self→Ai,mem_cons_of_mem→Ao,pairwise_cons→He,mem_cons→BW,length_map→AA,take_of_length_le→AG,contains_iff_mem→Aa,mem_of_getElem?→AS,getElem?_take→BM,mem_append→A6,mem_singleton→B6,take_append_drop→A4,getElem?_cons_zero→LW,getElem?_map→Ad,getElem?_eq_some_iff→AR,getD_eq_getElem?_getD→Bq
open Nat renaming mul_le_mul→MF,lt_or_ge→Bt
open Option.some renaming injEq→AJ
open Bool renaming false_or→DW,false_and→B2,and_false→Bg,not_false→Eb,true_and→BD,eq_false_iff→Bw,eq_iff_iff→Af
open Except renaming map→CU
open Int renaming reduceBEq→AW
open Option renaming map_eq_some_iff→AE
namespace Go.Ab
open Go.Proofs
def awP:Pg:=⟨[],[⟨[102],[],.mk 4 [103] 0 [] [] []⟩]⟩
theorem m6:KJ awP=(3,0,0):=by decide+kernel
theorem VW (σ:AF):AK Tryz.prog 14 [] σ (fun v σ'=>v= .d (.bool true)∧σ'=σ):=by
 have hc:=Kx awP σ (fun d hd=>by cases hd)
 rw [m6] at hc
 refine Wg (by simp) ?_
 rw [show BK []=U from by funext s;simp [BK,U]]
 simp only [pgA,awP,Pg.enc,FE.enc,Ex.A3,AH,AM,dgA] at hc
 have hc':AK Tryz.prog 18 [.agg [.AU,.d (.sl [[.str [102],.sl [],.int .i64 4,.str [103],.int .i64 0,.sl [],.sl [],.sl []]])]] σ (fun v σ'=>v= .agg [.d (.int .i64 3),.d (.int .i64 0),.d (.int .i64 0)]∧σ'=σ):=
  AK.plain (by simp only [AV.DA,H8,NT,GG];exact hc)
 (repeat' (first|refine Run.ct rfl ?_|((first|refine Run.reg mixed ?_|refine Run.AD ?_|refine Run.A1 QP (AF.le_refl _) ?_|refine AI.det (hc') ?_|(refine BO rfl (fun h=>?_) (fun h=>?_)<;>try (cases h;done)))<;>try simp -implicitDefEqProofs only [go_sem])|(refine ⟨fun h=>?_,fun h=>?_⟩<;>first|(cases h;done)|try simp only [h])|fail))
end Go.Ab
namespace Go.Ab
def tkA:AV→Option Nat
 | .own t _ _ _=>some t
 |_=>none
def UX (v w:AV):Prop:=∀t,tkA v=some t→tkA w≠some t
theorem UX.symm {v w:AV} (h:UX v w):UX w v:=fun t h1 h2=>h t h2 h1
theorem bA (w:AV):UX .AU w:=fun t h=>by cases h
theorem Cl.M4 {σ0 σ σ':AF} {e s:Nat} {rows:List (List DV)} {w:AV} (h:Cl σ0 e s rows w σ) (hle:σ0.le σ') (ht:∀t,tkA w=some t→σ.tok t=true→σ'.tok t=true):Cl σ0 e s rows w σ':=by
 obtain ⟨⟨σ1,ha,hl⟩,_,h1,h2,h3,h4,h5,h6,h7⟩:=h
 refine ⟨?_,hle,h1,h2,h3,h4,h5,h6,h7⟩
 unfold Nw at ha ⊢
 split at ha
 · cases ha;exact ⟨σ',rfl,hle⟩
 · rename_i t e' s' rows'
   split at ha
   · rename_i hc
     cases ha
     obtain ⟨q1,q2,q3⟩:=hc
     refine ⟨σ'.Ei t,by rw [if_pos ⟨q1,q2,ht t rfl q3⟩],⟨hle.blk,fun t' h'=>?_,hle.gt,hle.bt⟩⟩
     have hne:t'≠t:=fun e=>by
      have:=hl.tok t' h'
      simp [AF.Ei,e] at this
     simp [AF.Ei,hne,hle.tok t' h']
   · cases ha
 · cases ha
theorem Dh.sT {cx:Cx} {K:Fm→Lm→AF→Prop} {F:Fm} {L:Lm} {σ σ0:AF} {d:Option Nat} {e size bytes:Nat} {s x:AV} {rows srows:List (List DV)} (ho:Cl σ0 e size rows s σ) (h2:x.rows=some srows)
 (h3:∀r∈srows,r.length=size) (h4:rows.length+srows.length≤1000000000) (hb:bytes≤10000)
 (h:∀v σ',Cl σ0 e size (rows++srows) v σ'→(∀i,σ'.blk i=σ.blk i)→(∀e2 s2 rows2 w,Cl σ0 e2 s2 rows2 w σ→UX s w→Cl σ0 e2 s2 rows2 w σ'∧UX v w)→K (Av d v F) L σ'):Dh e size bytes s x d K F L σ:=by
 obtain ⟨σ1,ha,hl⟩:=ho.app
 have hblk:∀i,σ1.blk i=σ.blk i:=fun i=>by
  unfold Nw at ha
  split at ha
  · cases ha;rfl
  · split at ha
    · cases ha;rfl
    · cases ha
  · cases ha
 have htok:∀t,tkA s≠some t→σ.tok t=true→σ1.tok t=true:=fun t hne ht=>by
  unfold Nw at ha
  split at ha
  · cases ha;exact ht
  · rename_i ts e' s' rows'
    split at ha
    · cases ha
      have:t≠ts:=fun e=>hne (by rw [e];rfl)
      simp [AF.Ei,this,ht]
    · cases ha
  · cases ha
 refine Dh.mk ha h2 h3 (by simp only [maxLen];omega) ?_ (fun t ht=>h _ _ (Cl.own hl ho.le ht) (fun i=>by rw [Q6];exact hblk i) (fun e2 s2 rows2 w hw hap=>?_))
 · calc (rows.length+srows.length) * bytes≤1000000000 * 10000:=MF h4 hb
    _≤140737488355328:=by decide
 · have hwt:∀t',tkA w=some t'→σ.tok t'=true:=fun t' h'=>by
    obtain ⟨_,hw1,_⟩:=hw.app
    cases w<;>simp only [tkA] at h'<;>try cases h'
    simp only [Nw] at hw1
    split at hw1
    · rename_i hc;exact hc.2.2
    · cases hw1
   have hown:=Cl.own (e:=e) (s:=size) (rows:=rows++srows) hl ho.le ht
   refine ⟨hw.M4 hown.le (fun t' h1 h2=>?_),fun t' h1 h3=>?_⟩
   · have:=htok t' (fun e=>hap t' e h1) h2
     simp [AF.F3,this]
   · simp only [tkA,AJ] at h1
     subst h1
     rw [hwt _ h3] at ht;cases ht
end Go.Ab
namespace Go.Ab
structure Ow where
 e:Nat
 s:Nat
 rows:List (List DV)
 v:AV
def Gp (σ0:AF) (l:List Ow) (τ:AF):Prop:=(∀x∈l,Cl σ0 x.e x.s x.rows x.v τ)∧l.Pairwise fun a b=>UX a.v b.v
theorem Gp.perm {σ0 τ:AF} {l m:List Ow} (h:Gp σ0 l τ) (hp:l.Perm m):Gp σ0 m τ:=
 ⟨fun x hx=>h.1 x (hp.mem_iff.2 hx),(hp.pairwise_iff (fun hab=>hab.symm)).1 h.2⟩
theorem Gp.head {σ0 τ:AF} {l:List Ow} {x:Ow} (h:Gp σ0 (x::l) τ):Cl σ0 x.e x.s x.rows x.v τ:=h.1 x (Ai ..)
theorem Gp.tail {σ0 τ:AF} {l:List Ow} {x:Ow} (h:Gp σ0 (x::l) τ):Gp σ0 l τ:=⟨fun y hy=>h.1 y (Ao _ hy),(He.1 h.2).2⟩
theorem Gp.nil {σ0 τ:AF} {l:List Ow} (h:Gp σ0 l τ) (hle:σ0.le τ) (e s:Nat):Gp σ0 (⟨e,s,[],.AU⟩::l) τ:=
 ⟨fun y hy=>by
   rcases BW.1 hy with rfl|hy
   · exact ⟨⟨τ,rfl,hle⟩,hle,rfl,rfl,rfl,rfl,fun _=>rfl,rfl,rfl⟩
   · exact h.1 y hy,He.2 ⟨fun y _=>bA y.v,h.2⟩⟩
theorem Dh.iL {cx:Cx} {K:Fm→Lm→AF→Prop} {F:Fm} {L:Lm} {σ σ0:AF} {d:Option Nat} {e size bytes:Nat} {s x:AV} {rows srows:List (List DV)} {l:List Ow} (ho:Gp σ0 (⟨e,size,rows,s⟩::l) σ) (h2:x.rows=some srows)
 (h3:∀r∈srows,r.length=size) (h4:rows.length+srows.length≤1000000000) (hb:bytes≤10000)
 (h:∀v σ',Gp σ0 (⟨e,size,rows++srows,v⟩::l) σ'→(∀i,σ'.blk i=σ.blk i)→K (Av d v F) L σ'):Dh e size bytes s x d K F L σ:=
 Dh.sT (cx:=cx) ho.head h2 h3 h4 hb (fun v σ' h1 hbk hk=>h v σ' ⟨fun y hy=>by
  rcases BW.1 hy with rfl|hy
  · exact h1
  · exact (hk _ _ _ _ (ho.tail.1 y hy) ((He.1 ho.2).1 y hy)).1,
  He.2 ⟨fun y hy=>(hk _ _ _ _ (ho.tail.1 y hy) ((He.1 ho.2).1 y hy)).2,(He.1 ho.2).2⟩⟩ hbk)
end Go.Ab
namespace Go.Ab
open Go.Proofs
theorem Qu (l:List Str) (s:Str) (σ:AF):AK Tryz.prog 59 [.d (.sl (l.map Ak)),.d (.str s)] σ (fun v σ'=>v= .d (.int .i64 (Ee (Cd l s)))∧σ'=σ):=by
 refine gU (by simp) ?_
 rw [BR,← K3]
 refine Run.slot 0 (fun hb0=>?_)
 simp only [CZ,if_true,AV.Dl,AA] at hb0
 (repeat' (first|refine Run.ct rfl ?_|((first|refine Run.reg mixed ?_|refine Run.AD ?_)<;>try simp -implicitDefEqProofs only [AA,go_sem])|fail))
 refine Run.Ay ?_
 refine Run.BB ((fun (a0:AV) (a1:AV)=>fun (i:Nat)=>put 0 a0 (put 1 a1 (put 5 (.d (.int .i64 i)) U))) _ _) (fun _=>E) (fun _=>σ) (fun i=>i≤l.length∧∀x∈l.take i,(x==s)=false) (fun i=>l.length - i) ?_ 0 ⟨by simp,by simp⟩
 rintro i ⟨hi,hno⟩ ih
 by_cases hlt:i < l.length
 · obtain ⟨x,hx⟩:=Aw hlt
   have he:=Aq (enc:=Ak) hx
   simp only [Ak] at he
   have hw1:IntKind.i64.wrap ((i:Int)+1)=((i+1:Nat):Int):=by rw [As (by omega) (by omega)];omega
   cases hp:(x==s) with
   |true=>
    (repeat' (first|refine Run.ct rfl ?_|((first|refine Run.reg mixed ?_|refine Run.AD ?_|refine Run.A1 SY (AF.le_refl _) ?_)<;>try simp -implicitDefEqProofs only [A8 hlt,he,hw1,BS,hp,AA,go_sem])|fail))
    rw [D6 (p:=fun x=>x==s) hno hx hp];rfl
   |false=>
    (repeat' (first|refine Run.ct rfl ?_|((first|refine Run.reg mixed ?_|refine Run.AD ?_)<;>try simp -implicitDefEqProofs only [A8 hlt,he,hw1,BS,hp,AA,go_sem])|fail))
    exact ih (i+1) ⟨by omega,Eg (p:=fun x=>x==s) hno hx hp⟩ (by omega)
 · (repeat' (first|refine Run.ct rfl ?_|((first|refine Run.reg mixed ?_|refine Run.AD ?_|refine Run.A1 SY (AF.le_refl _) ?_)<;>try simp -implicitDefEqProofs only [B8 hlt,AA,go_sem])|fail))
   rw [AG (by omega)] at hno
   rw [D7 (p:=fun x=>x==s) hno];rfl
theorem L9 (l:List Str) (σ:AF):AK Tryz.prog 38 [.d (.sl (l.map Ak))] σ (fun v σ'=>v= .d (.bool (Bo l))∧σ'=σ):=by
 refine cJ (by simp) ?_
 rw [Bf]
 refine Run.slot 0 (fun hb0=>?_)
 simp only [CZ,if_true,AV.Dl,AA] at hb0
 (repeat' (first|refine Run.ct rfl ?_|((first|refine Run.reg mixed ?_|refine Run.AD ?_)<;>try simp -implicitDefEqProofs only [AA,go_sem])|fail))
 refine Run.Ay ?_
 refine Run.BB ((fun (a0:AV)=>fun (i:Nat)=>put 0 a0 (put 3 (.d (.int .i64 i)) U)) _) (fun _=>E) (fun _=>σ) (fun i=>i≤l.length∧Bo (l.take i)=false) (fun i=>l.length - i) ?_ 0 ⟨by simp,by simp [Bo]⟩
 rintro i ⟨hi,hno⟩ ih
 by_cases hlt:i < l.length
 · obtain ⟨x,hx⟩:=Aw hlt
   have he:=Aq (enc:=Ak) hx
   simp only [Ak] at he
   have hw1:IntKind.i64.wrap ((i:Int)+1)=((i+1:Nat):Int):=by rw [As (by omega) (by omega)];omega
   have hsn:=PJ (l.take i) x
   rw [← Am hx,hno,DW] at hsn
   (repeat' (first|refine Run.ct rfl ?_|((first|refine Run.reg mixed ?_|refine Run.AD ?_)<;>try simp -implicitDefEqProofs only [A8 hlt,AA,go_sem])|fail))
   refine Run.Ay ?_
   refine Run.BB ((fun (a0:AV) (a3:AV)=>fun (j:Nat)=>put 0 a0 (put 3 a3 (put 4 (.d (.int .i64 j)) U))) _ _) (fun _=>E) (fun _=>σ) (fun j=>j≤i∧∀y∈l.take j,((x==y)&& !(x==[]))=false) (fun j=>i - j) ?_ 0 ⟨by simp,by simp⟩
   rintro j ⟨hj,hnj⟩ ih2
   by_cases hji:j < i
   · obtain ⟨y,hy⟩:=Aw (show j < l.length by omega)
     have hey:=Aq (enc:=Ak) hy
     simp only [Ak] at hey
     have hw2:IntKind.i64.wrap ((j:Int)+1)=((j+1:Nat):Int):=by rw [As (by omega) (by omega)];omega
     cases h1:(x==y) with
     |false=>
      (repeat' (first|refine Run.ct rfl ?_|((first|refine Run.reg mixed ?_|refine Run.AD ?_)<;>try simp -implicitDefEqProofs only [A8 hji,he,hey,hw2,BS,C4,h1,AA,go_sem])|fail))
      exact ih2 (j+1) ⟨by omega,Eg (p:=fun y=>(x==y)&& !(x==[])) hnj hy (by simp only [h1,B2])⟩ (by omega)
     |true=>
      cases h2:(x==[]) with
      |true=>
       (repeat' (first|refine Run.ct rfl ?_|((first|refine Run.reg mixed ?_|refine Run.AD ?_)<;>try simp -implicitDefEqProofs only [A8 hji,he,hey,hw2,BS,C4,h1,h2,AA,go_sem])|fail))
       exact ih2 (j+1) ⟨by omega,Eg (p:=fun y=>(x==y)&& !(x==[])) hnj hy (by simp only [h2,Bool.not_true,Bg])⟩ (by omega)
      |false=>
       have hct:(l.take i).contains x=true:=by
        have:x=y:=by simpa using h1
        subst this
        rw [Aa]
        exact AS (by rw [BM,if_pos hji];exact hy)
       (repeat' (first|refine Run.ct rfl ?_|((first|refine Run.reg mixed ?_|refine Run.AD ?_|refine Run.A1 Qh (AF.le_refl _) ?_)<;>try simp -implicitDefEqProofs only [A8 hji,he,hey,hw2,BS,C4,h1,h2,AA,go_sem])|fail))
       rw [T5 (i:=i+1) (by rw [hsn,h2,hct];rfl)]
   · have hje:j=i:=by omega
     subst hje
     have hct:(!(x==[])&&(l.take j).contains x)=false:=by
      cases h2:(x==[]) with
      |true=>rfl
      |false=>
       rw [Eb,BD,Bw]
       intro hc
       rw [Aa] at hc
       have:=hnj x hc
       simp [h2] at this
     (repeat' (first|refine Run.ct rfl ?_|((first|refine Run.reg mixed ?_|refine Run.AD ?_)<;>try simp -implicitDefEqProofs only [B8 hji,hw1,go_sem])|fail))
     exact ih (j+1) ⟨by omega,by rw [hsn,hct]⟩ (by omega)
 · (repeat' (first|refine Run.ct rfl ?_|((first|refine Run.reg mixed ?_|refine Run.AD ?_|refine Run.A1 Qh (AF.le_refl _) ?_)<;>try simp -implicitDefEqProofs only [B8 hlt,AA,go_sem])|fail))
   rw [AG (by omega)] at hno
   rw [hno]
end Go.Ab
namespace Go.Ab
open Go.Proofs
theorem L8 (dt:List Dat) (hdt:RJ dt) (s:Str) (σ:AF):AK Tryz.prog 67 [dsA dt,.d (.str s)] σ (fun v σ'=>v=SP (Ib dt s)∧σ'=σ):=by
 refine S0 (by simp) ?_
 rw [BR,dsA]
 refine Run.slot 0 (fun hb0=>?_)
 simp only [CZ,if_true,AV.Dl,AA] at hb0
 (repeat' (first|refine Run.ct rfl ?_|((first|refine Run.reg mixed ?_|refine Run.AD ?_)<;>try simp -implicitDefEqProofs only [AA,go_sem])|fail))
 refine Run.Ay ?_
 refine Run.BB ((fun (a0:AV) (a1:AV)=>fun (i:Nat)=>put 0 a0 (put 1 a1 (put 7 (.d (.int .i64 i)) U))) _ _) (fun _=>E) (fun _=>σ) (fun i=>i≤dt.length∧∀d∈dt.take i,H5 d.cons s=none) (fun i=>dt.length - i) ?_ 0 ⟨by simp,by simp⟩
 rintro i ⟨hi,hno⟩ ih
 by_cases hlt:i < dt.length
 · obtain ⟨d,hd⟩:=Aw hlt
   have he:=NH hd
   have hw1:IntKind.i64.wrap ((i:Int)+1)=((i+1:Nat):Int):=by rw [As (by omega) (by omega)];omega
   have hdl:=hdt d (AS hd)
   (repeat' (first|refine Run.ct rfl ?_|((first|refine Run.reg mixed ?_|refine Run.AD ?_)<;>try simp -implicitDefEqProofs only [A8 hlt,AA,go_sem])|fail))
   refine Run.Ay ?_
   refine Run.BB ((fun (a0:AV) (a1:AV) (a7:AV)=>fun (k:Nat)=>put 0 a0 (put 1 a1 (put 7 a7 (put 8 (.d (.int .i64 k)) U)))) _ _ _) (fun _=>E) (fun _=>σ) (fun k=>k≤d.cons.length∧∀c∈d.cons.take k,(c.name==s)=false) (fun k=>d.cons.length - k) ?_ 0 ⟨by simp,by simp⟩
   rintro k ⟨hk,hnk⟩ ih2
   by_cases hkl:k < d.cons.length
   · obtain ⟨c,hc⟩:=Aw hkl
     have hec:=ND hc
     have hw2:IntKind.i64.wrap ((k:Int)+1)=((k+1:Nat):Int):=by rw [As (by omega) (by omega)];omega
     cases hp:(c.name==s) with
     |true=>
      have hca:H5 d.cons s=some k:=by rw [← GQ];exact D6 (p:=fun c:Con=>c.name==s) hnk hc hp
      (repeat' (first|refine Run.ct rfl ?_|((first|refine Run.reg mixed ?_|refine Run.AD ?_|refine Run.A1 Ih (AF.le_refl _) ?_)<;>try simp -implicitDefEqProofs only [A8 hkl,he,hec,hw2,BS,hp,AA,go_sem])|fail))
      rw [YF hno hd hca];rfl
     |false=>
      (repeat' (first|refine Run.ct rfl ?_|((first|refine Run.reg mixed ?_|refine Run.AD ?_)<;>try simp -implicitDefEqProofs only [A8 hkl,he,hec,hw2,BS,hp,AA,go_sem])|fail))
      exact ih2 (k+1) ⟨by omega,Eg (p:=fun c:Con=>c.name==s) hnk hc hp⟩ (by omega)
   · (repeat' (first|refine Run.ct rfl ?_|((first|refine Run.reg mixed ?_|refine Run.AD ?_)<;>try simp -implicitDefEqProofs only [B8 hkl,he,hw1,AA,go_sem])|fail))
     rw [AG (by omega)] at hnk
     have hca:H5 d.cons s=none:=by rw [← GQ];exact D7 (p:=fun c:Con=>c.name==s) hnk
     refine ih (i+1) ⟨by omega,fun x hx=>?_⟩ (by omega)
     rw [Am hd] at hx
     rcases A6.1 hx with h|h
     · exact hno x h
     · rw [B6] at h;subst h;exact hca
 · (repeat' (first|refine Run.ct rfl ?_|((first|refine Run.reg mixed ?_|refine Run.AD ?_|refine Run.A1 Ih (AF.le_refl _) ?_)<;>try simp -implicitDefEqProofs only [B8 hlt,AA,go_sem])|fail))
   rw [AG (by omega)] at hno
   rw [YG hno];rfl
end Go.Ab
namespace Go.Ab
open Go.Proofs
set_option maxRecDepth 4000 in
set_option maxHeartbeats 4000000 in
theorem Tv (ps:List DE) (fs:List FE) (ds:List (Str×Nat)) (vars:List Str) (k num:Int) (n:Str) (l:List TE) (τ:AF) (hll:l.length≤1000000)
 (ih:∀x∈l,∀τ',AK Tryz.prog 60 [pgA ⟨ps,fs⟩,.d (.sl ((ds.map (·.1)).map Ak)),.d (.sl (vars.map Ak)),teA x,.d (.bool false)] τ' (fun v σ'=>v=Oy (IB ds vars false x)∧σ'=τ')):
 Run Gj (fun v σ'=>v=Oy ((Ck ds vars l).map (Ty.mk k num))∧σ'=τ) [.code (.loop Ng),.blk 3,.code (.seq (.reg [⟨some 123,.ldl (.t 12) (some 3),none⟩,⟨none,.st (.t 10) (.t 123) 3,none⟩,⟨some 11,.mv (.c (.d (.int .i64 0))),none⟩] [10,11]) .ret)]
  (put 1 (.d (.sl ((ds.map (·.1)).map Ak))) (put 2 (.d (.sl (vars.map Ak))) (put 5 (.lp 5 0) (put 8 (.lp 8 0) (put 10 (.lp 10 0) (put 12 (.lp 12 0) (put 14 (.d (.int .i64 0)) U)))))))
  (BA 5 [.d (.sl (ps.map DE.enc)),.d (.sl (fs.map FE.enc))] (BA 8 [.d (.int .i64 k),.d (.str n),.d (.sl (l.map TE.enc))] (BA 10 [.d (.int .i64 0),.d (.int .i64 0),.AU] (BA 12 [.d (.int .i64 k),.d (.int .i64 num),.AU] E)))) τ:=by
 refine Run.Ay ?_
 refine Run.BB ((fun (a1:AV) (a2:AV) (a5:AV) (a8:AV) (a10:AV) (a12:AV)=>fun (y:Nat×List Ty×AV×AF)=>put 1 a1 (put 2 a2 (put 5 a5 (put 8 a8 (put 10 a10 (put 12 a12 (put 14 (.d (.int .i64 y.1)) U))))))) _ _ _ _ _ _) (fun y=>BA 5 [.d (.sl (ps.map DE.enc)),.d (.sl (fs.map FE.enc))] (BA 8 [.d (.int .i64 k),.d (.str n),.d (.sl (l.map TE.enc))] (BA 10 [.d (.int .i64 0),.d (.int .i64 0),.AU] (BA 12 [.d (.int .i64 k),.d (.int .i64 num),y.2.2.1] E)))) (fun y=>y.2.2.2)
  (fun y=>y.1≤l.length∧y.2.1.length=y.1∧Ck ds vars (l.take y.1)= .ok y.2.1∧Cl τ 57 3 (y.2.1.map Ty.enc) y.2.2.1 y.2.2.2) (fun y=>l.length - y.1) ?_ (0,[],.AU,τ) ⟨by simp,rfl,rfl,Cl.nil _ _ _⟩
 rintro ⟨i,us,uv,τ1⟩ ⟨hi,hlu,hok,ho⟩ ih2
 simp only at hi hlu hok ho
 by_cases hlt:i < l.length
 · obtain ⟨x,hx⟩:=Aw hlt
   have he:=Aq (enc:=TE.enc) hx
   have hw1:=A7 (show i+1≤9000000000000000000 by omega)
   have hall:Ck ds vars l=(Ck ds vars (x::l.drop (i+1))).map (us++·):=by
    conv=>lhs;rw [← A4 i l,Bc hx]
    exact Mc _ _ _ hok
   have hsn:Ck ds vars (l.take (i+1))=(Ck ds vars [x]).map (us++·):=by
    rw [Am hx];exact Mc _ _ _ hok
   rw [Ck] at hall
   rw [Ck,Ck] at hsn
   have hc:=ih x (AS hx) τ1
   simp only [pgA,Pg.enc,AH,AM] at hc
   cases hr:IB ds vars false x with
   |error e=>
    rw [hr] at hc hall
    have hne:=Ro x false e hr
    have hne':(e != 0)=true:=by simpa using hne
    obtain ⟨xk,xn,xl⟩:=x
    simp only [TE.A3,teA,AH,AM,Oy] at he hc
    (repeat' (first|refine Run.ct rfl ?_|((first|refine Run.reg mixed ?_|refine Run.AD ?_|(refine Run.A1 EO ho.le ?_)|refine AI.det (hc) ?_)<;>try simp -implicitDefEqProofs only [A8 hlt,he,hne',ho.cell,AA,go_sem])|fail))
    rw [hall];rfl
   |ok u=>
    rw [hr] at hc hsn
    simp only [CU] at hsn
    obtain ⟨uk,un,ul⟩:=u
    obtain ⟨xk,xn,xl⟩:=x
    simp only [TE.A3,teA,AH,AM,Oy,tyA,Ty.enc] at he hc
    have h00:((0:Int) != 0)=false:=by decide
    (repeat' (first|refine Run.ct rfl ?_|((first|refine Run.reg mixed ?_|refine Run.AD ?_|(refine Dh.own ho rfl (by simp) (by simp;omega) (by decide) (fun v2 σ2 ho2 hbk=>?_))|refine AI.det (hc) ?_)<;>try simp -implicitDefEqProofs only [A8 hlt,he,hw1,h00,ho.cell,ho.cells,ho.BF,ho.BG,AA,go_sem])|fail))
    simp -implicitDefEqProofs only [ho2.cells,ho2.cell,go_sem]
    (repeat' (first|refine Run.ct rfl ?_|((first|refine Run.reg mixed ?_|refine Run.AD ?_)<;>try simp -implicitDefEqProofs only [hw1,ho2.cell,ho2.cells,go_sem])|fail))
    exact ih2 (i+1,us++[.mk uk un ul],v2,σ2) ⟨by simp only;omega,by simp [hlu],hsn,by simpa [Ty.enc] using ho2⟩ (by simp only;omega)
 · rw [AG (by omega)] at hok
   (repeat' (first|refine Run.ct rfl ?_|((first|refine Run.reg mixed ?_|refine Run.AD ?_|(refine Run.A1 EO ho.le ?_))<;>try simp -implicitDefEqProofs only [B8 hlt,ho.cell,ho.cells,AA,go_sem])|fail))
   rw [ho.plain,hok]
   simp [Oy,tyA,Ty.enc,Ty.Ed,CU]
end Go.Ab
namespace Go.Ab
open Go.Proofs
theorem T0:∀ {l:List TE} {vs:List Str},l.length=vs.length→(∀(j:Nat) (t:TE) (v:Str),l[j]?=some t→vs[j]?=some v→VU t v=true)→Ef l vs=true
 |[],[],_,_=>rfl
 |[],v::vs,h,_=>by simp at h
 |t::l,[],h,_=>by simp at h
 |t::l,v::vs,h,hp=>by
  rw [IA,hp 0 t v rfl rfl,T0 (by simpa using h) (fun j t' v' h1 h2=>hp (j+1) t' v' h1 h2)]
  rfl
theorem Qq:∀ {l:List TE} {vs:List Str} {j:Nat} {t:TE} {v:Str},l[j]?=some t→vs[j]?=some v→VU t v=false→Ef l vs=false
 |[],vs,j,t,v,h,_,_=>by simp at h
 |t::l,[],j,t',v,_,h,_=>by simp at h
 |t::l,v::vs,0,t',v',h1,h2,h=>by
  simp only [LW,AJ] at h1 h2
  subst h1;subst h2
  rw [IA,h];rfl
 |t::l,v::vs,j+1,t',v',h1,h2,h=>by
  rw [IA,Qq (j:=j) (by simpa using h1) (by simpa using h2) h,Bg]
structure jO (ps:List DE) (ds:List (Str×Nat)) (vars:List Str):Prop where
 at':∀(i:Nat) (x:Str×Nat),ds[i]?=some x→∃d:DE,ps[i]?=some d∧d.vars.length=x.2
 last:∀x:Str×Nat,ds[ds.length - 1]?=some x→x.2=vars.length
 ne:ds.length≤1000000
theorem Wu (ps:List DE) (fs:List FE) (ds:List (Str×Nat)) (vars:List Str) (hh:jO ps ds vars):
 ∀(N:Nat) (t:TE) (whole:Bool) (τ:AF),t.size≤N→t.size≤1000000→AK Tryz.prog 60 [pgA ⟨ps,fs⟩,.d (.sl ((ds.map (·.1)).map Ak)),.d (.sl (vars.map Ak)),teA t,.d (.bool whole)] τ (fun v σ'=>v=Oy (IB ds vars whole t)∧σ'=τ):=by
 intro N
 induction N with
 |zero=>intro t whole τ h;have:=TE.size_pos t;omega
 |succ N ihN=>
 rintro ⟨k,n,l⟩ whole τ hN hsz
 simp only [TE.size] at hN hsz
 have hlen:=TE.CY l
 have hloop:=fun num=>Tv ps fs ds vars k num n l τ (by omega) (fun x hx τ'=>by
  have:=TE.G2 hx
  exact ihN x false τ' (by omega) (by omega))
 clear ihN
 refine YM (by simp) ?_
 rw [jW,teA,TE.A3]
 simp only [pgA,Pg.enc,AH,AM]
 by_cases h4:k=4
 · subst h4
   have hres:IB ds vars whole (.mk 4 n l)=match Cd vars n with|none=>.error 3|some i=>(Ck ds vars l).map (Ty.mk 4 i):=by
    rw [IB,if_pos rfl];rfl
   have hi:=Qu vars n τ
   cases hix:Cd vars n with
   |none=>
    rw [hix] at hi hres
    simp only [Ee] at hi hres
    have hneg:decide ((-1:Int) < 0)=true:=by decide
    (repeat' (first|refine Run.ct rfl ?_|((first|refine Run.reg mixed ?_|refine Run.AD ?_|refine Run.A1 EO (AF.le_refl _) ?_|refine AI.det (hi) ?_)<;>try simp -implicitDefEqProofs only [AW,hneg,go_sem])|fail))
    rw [hres];rfl
   |some i=>
    rw [hix] at hi hres
    simp only [Ee] at hi hres
    have hneg:decide ((i:Int) < 0)=false:=decide_eq_false (by omega)
    rw [hres]
    (repeat' (first|refine Run.ct rfl ?_|((first|refine Run.reg mixed ?_|refine Run.AD ?_|refine AI.det (hi) ?_)<;>try simp -implicitDefEqProofs only [AW,hneg,AA,go_sem])|fail))
    exact hloop i
 by_cases h5:k=5
 · subst h5
   have hres:IB ds vars whole (.mk 5 n l)=match Cd (ds.map (·.1)) n with|none=>.error 3|some i=>if l.length≠(ds.getD i ([],0)).2 then .error 5 else if i+1=ds.length∧¬(whole=true∧Ef l vars=true) then .error 7 else (Ck ds vars l).map (Ty.mk 5 i):=by
    rw [IB,if_neg h4,if_pos rfl];rfl
   have hf:=Qu (ds.map (·.1)) n τ
   cases hix:Cd (ds.map (·.1)) n with
   |none=>
    rw [hix] at hf hres
    simp only [Ee] at hf hres
    have hneg:decide ((-1:Int) < 0)=true:=by decide
    (repeat' (first|refine Run.ct rfl ?_|((first|refine Run.reg mixed ?_|refine Run.AD ?_|refine Run.A1 EO (AF.le_refl _) ?_|refine AI.det (hf) ?_)<;>try simp -implicitDefEqProofs only [AW,hneg,go_sem])|fail))
    rw [hres];rfl
   |some i=>
    have hsp:=P0 hix
    rw [Ad,AE] at hsp
    obtain ⟨x,hx,hxn⟩:=hsp
    obtain ⟨d,hd,hdv⟩:=hh.at' i x hx
    have hil:=(AR.1 hx).1
    have hgd:ds.getD i ([],0)=x:=by rw [Bq,hx];rfl
    rw [hix] at hf hres
    simp only [Ee,hgd] at hf hres
    have hneg:decide ((i:Int) < 0)=false:=decide_eq_false (by omega)
    have hed:=Aq (enc:=DE.enc) hd
    obtain ⟨dn,dvs',dc⟩:=d
    simp only [DE.enc] at hed hdv
    have hcmp:((l.length:Int) != (dvs'.length:Int))=decide (l.length≠x.2):=by
     rw [Af];simp only [bne_iff_ne,ne_eq,decide_eq_true_eq];omega
    by_cases hA:l.length≠x.2
    · rw [decide_eq_true hA] at hcmp
      rw [if_pos hA] at hres
      (repeat' (first|refine Run.ct rfl ?_|((first|refine Run.reg mixed ?_|refine Run.AD ?_|refine Run.A1 EO (AF.le_refl _) ?_|refine AI.det (hf) ?_)<;>try simp -implicitDefEqProofs only [AW,hneg,AA,hed,hcmp,go_sem])|fail))
      rw [hres];rfl
    · rw [decide_eq_false hA] at hcmp
      rw [if_neg hA] at hres
      have hdl:=hh.ne
      have hw1:IntKind.i64.wrap ((ds.length:Int) - 1)=((ds.length - 1:Nat):Int):=by rw [As (by omega) (by omega)];omega
      have hlast:((i:Int)==((ds.length - 1:Nat):Int))=decide (i+1=ds.length):=by
       rw [Af];simp only [beq_iff_eq,decide_eq_true_eq];omega
      by_cases hB:i+1=ds.length
      · rw [decide_eq_true hB] at hlast
        have hlv:l.length=vars.length:=by
         have:=hh.last x (by rw [show ds.length - 1=i by omega];exact hx)
         omega
        (repeat' (first|refine Run.ct rfl ?_|((first|refine Run.reg mixed ?_|refine Run.AD ?_|refine AI.det (hf) ?_)<;>try simp -implicitDefEqProofs only [AW,hneg,AA,hed,hcmp,hw1,hlast,go_sem])|fail))
        refine Run.Ay ?_
        refine Run.BB ((fun (a1:AV) (a2:AV) (a4:AV) (a5:AV) (a8:AV) (a10:AV) (a12:AV)=>fun (j:Nat)=>put 1 a1 (put 2 a2 (put 4 a4 (put 5 a5 (put 8 a8 (put 10 a10 (put 12 a12 (put 13 (.d (.int .i64 j)) U)))))))) _ _ _ _ _ _ _) (fun _=>BA 5 [.d (.sl (ps.map DE.enc)),.d (.sl (fs.map FE.enc))] (BA 8 [.d (.int .i64 5),.d (.str n),.d (.sl (l.map TE.enc))] (BA 10 [.d (.int .i64 0),.d (.int .i64 0),.AU] (BA 12 [.d (.int .i64 5),.d (.int .i64 i),.AU] E)))) (fun _=>τ)
         (fun j=>j≤l.length∧∀(q:Nat) (t:TE) (v:Str),q < j→l[q]?=some t→vars[q]?=some v→VU t v=true) (fun j=>l.length - j) ?_ 0 ⟨by simp,fun q _ _ hq=>by omega⟩
        rintro j ⟨hj,hpj⟩ ih2
        by_cases hjl:j < l.length
        · obtain ⟨t,ht⟩:=Aw hjl
          obtain ⟨v,hv⟩:=Aw (show j < vars.length by omega)
          have het:=Aq (enc:=TE.enc) ht
          have hev:=Aq (enc:=Ak) hv
          have hwj:=A7 (show j+1≤9000000000000000000 by omega)
          obtain ⟨tk,tn,tl⟩:=t
          simp only [TE.A3,Ak] at het hev
          have hip:VU (.mk tk tn tl) v=(tk==4&&tn==v):=rfl
          by_cases hk4:tk=4
          · subst hk4
            have hn4:((4:Int) != 4)=false:=by decide
            cases hv2:(tn==v) with
            |true=>
             have hvn:(tn != v)=false:=by simpa [bne] using hv2
             (repeat' (first|refine Run.ct rfl ?_|((first|refine Run.reg mixed ?_|refine Run.AD ?_)<;>try simp -implicitDefEqProofs only [A8 hjl,het,hev,hn4,hvn,C4,hv2,hwj,AA,go_sem])|fail))
             refine ih2 (j+1) ⟨by omega,fun q t' v' hq h1 h2=>?_⟩ (by omega)
             rcases Bt q j with h|h
             · exact hpj q t' v' h h1 h2
             · have:q=j:=by omega
               subst this
               rw [ht] at h1;rw [hv] at h2
               cases h1;cases h2
               rw [hip,hv2];rfl
            |false=>
             have hpb:Ef l vars=false:=Qq ht hv (by rw [hip,hv2];rfl)
             rw [if_pos ⟨hB,by simp [hpb]⟩] at hres
             have hvn:(tn != v)=true:=by simp [bne,hv2]
             (repeat' (first|refine Run.ct rfl ?_|((first|refine Run.reg mixed ?_|refine Run.AD ?_|(refine Run.A1 EO (σ2:=τ) (AF.le_refl _) ?_))<;>try simp -implicitDefEqProofs only [A8 hjl,het,hev,hn4,hvn,C4,hv2,hwj,AA,go_sem])|fail))
             rw [hres];rfl
          · have hn4:(tk != 4)=true:=by simpa using hk4
            have hpb:Ef l vars=false:=Qq ht hv (by rw [hip,CA hk4];rfl)
            rw [if_pos ⟨hB,by simp [hpb]⟩] at hres
            (repeat' (first|refine Run.ct rfl ?_|((first|refine Run.reg mixed ?_|refine Run.AD ?_|(refine Run.A1 EO (σ2:=τ) (AF.le_refl _) ?_))<;>try simp -implicitDefEqProofs only [A8 hjl,het,hev,hn4,hwj,AA,go_sem])|fail))
            rw [hres];rfl
        · have hpb:Ef l vars=true:=T0 hlv (fun q t v h1 h2=>hpj q t v (by have:=(AR.1 h1).1;omega) h1 h2)
          cases whole with
          |false=>
           rw [if_pos ⟨hB,by simp⟩] at hres
           (repeat' (first|refine Run.ct rfl ?_|((first|refine Run.reg mixed ?_|refine Run.AD ?_|(refine Run.A1 EO (σ2:=τ) (AF.le_refl _) ?_))<;>try simp -implicitDefEqProofs only [B8 hjl,AA,go_sem])|fail))
           rw [hres];rfl
          |true=>
           rw [if_neg (by simp [hpb])] at hres
           rw [hres]
           (repeat' (first|refine Run.ct rfl ?_|((first|refine Run.reg mixed ?_|refine Run.AD ?_)<;>try simp -implicitDefEqProofs only [B8 hjl,AA,go_sem])|fail))
           exact hloop i
      · rw [decide_eq_false hB] at hlast
        rw [if_neg (fun h=>hB h.1)] at hres
        rw [hres]
        (repeat' (first|refine Run.ct rfl ?_|((first|refine Run.reg mixed ?_|refine Run.AD ?_|refine AI.det (hf) ?_)<;>try simp -implicitDefEqProofs only [AW,hneg,AA,hed,hcmp,hw1,hlast,go_sem])|fail))
        exact hloop i
 · have hres:IB ds vars whole (.mk k n l)=(Ck ds vars l).map (Ty.mk k 0):=by rw [IB,if_neg h4,if_neg h5]
   rw [hres]
   (repeat' (first|refine Run.ct rfl ?_|((first|refine Run.reg mixed ?_|refine Run.AD ?_)<;>try simp -implicitDefEqProofs only [CA h4,CA h5,AA,go_sem])|fail))
   exact hloop 0
end Go.Ab
