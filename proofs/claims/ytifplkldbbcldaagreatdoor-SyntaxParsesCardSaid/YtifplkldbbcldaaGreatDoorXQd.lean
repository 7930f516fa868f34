/- Both parsers do the same, in plain data: expressions and programs. Valid programs, in plain data. The tokens of a text in plain data, and what both parsers make of them. Texts of programs in plain data. Names as tokens, in plain data. The tokens of formatted texts, in plain data: the pieces. The tokens of formatted texts, in plain data: types, expressions, programs. Conditions: none. -/
import Derived.Lib.ItoaNum
import Derived.Lib.Join
import Derived.Test.YtifplkldbbcldaaGreatDoorXQb
set_option linter.unusedSimpArgs false
set_option linter.unusedVariables false
set_option maxRecDepth 4000
set_option maxHeartbeats 8000000
open List renaming all_eq_true→A7,mem_append→Bb,takeWhile_cons→Mb,length_cons→AG,length_drop→Ah,length_append→AA,length_nil→AI,mem_cons_of_mem→Bh,mem_cons_self→BB,cons_append→Ae,mem_cons→Cm,nil_append→A6,append_assoc→AY
open Bool renaming and_eq_true→AR,not_eq_true'→CZ,or_eq_true→CR,eq_false_iff→Jz,not_eq_true→R9,or_false→NA
open Except.ok renaming injEq→HK
open Prod.mk renaming injEq→Ba
open Option renaming bind_eq_bind→AU,bind_eq_some_iff→AF
namespace Go.Ab
theorem xI {E:PM Ex} {E':RM Ex} (h:Sim E E'):Sim (Xv E) (YD E'):=by
 unfold Xv YD
 refine Yx fun r p hw ho=>?_
 cases h3:((r.headD C6).kind==3) with
 |true=>
  refine Pk h3 (Pl h3 ?_)
  exact A1 Yy (fun _=>Ao _) r p hw ho
 |false=>
 refine Mx h3 (Km h3 ?_)
 cases h1:((r.headD C6).kind==1) with
 |true=>
  have n1:∀w,Gi w=true→((r.headD C6).text==w)=false:=fun w=>nk hw ho (.inl rfl) h1
  refine Pk h1 (G3 hw ho (n1 _ (by decide)) (G3 hw ho (n1 _ (by decide)) (G3 hw ho (n1 _ (by decide)) (G3 hw ho (n1 _ (by decide)) (Pl h1 ?_)))))
  exact A1 Nd (fun _=>Ao _) r p hw ho
 |false=>
 refine Mx h1 ?_
 cases h2:((r.headD C6).kind==2) with
 |true=>
  have n1:∀w,Gi w=true→((r.headD C6).text==w)=false:=fun w=>nk hw ho (.inr (.inl rfl)) h2
  refine Pk h2 (G3 hw ho (n1 _ (by decide)) (G3 hw ho (n1 _ (by decide)) (G3 hw ho (n1 _ (by decide)) (G3 hw ho (n1 _ (by decide)) (Km h1 (Pl h2 ?_))))))
  exact A1 Pq (fun _=>A1 (TR h) fun _=>Ao _) r p hw ho
 |false=>
 refine Mx h2 ?_
 refine Dc hw ho (A1 Yy fun _=>Ao _) fun _=>Dc hw ho (Ao _) fun _=>Dc hw ho (Ao _) fun _=>Dc hw ho (AAU h) fun _=>Km h1 (Km h2 ?_)
 have a1:=fun u=>A1 (eW h) fun l=>Ao (exN 14 u l)
 have a2:=fun u=>A1 (sT h) fun l=>Ao (exN 14 u l)
 have a3:=fun u=>A1 (sU h) fun l=>Ao (exN 14 u l)
 exact Dc hw ho xJ fun _=>Dc hw ho (A1 (eW h) fun _=>Ao _) fun _=>Dc hw ho (a2 1) fun _=>Dc hw ho (a2 2) fun _=>Dc hw ho (a3 3) fun _=>Dc hw ho (a1 4) fun _=>Dc hw ho (a1 5) fun _=>Dc hw ho (a1 6) fun _=>Dc hw ho (a2 7) fun _=>pT rfl
theorem kB {E:PM Ex} {E':RM Ex} (h:Sim E E'):∀n a,Sim (ZR E n a) (WH E' n a)
 |0,a=>Ao _
 |n+1,a=>by
  unfold ZR WH
  exact Dd (A1 (RE h) fun _=>kB h n _) (Ao _)
theorem Yw {E:PM Ex} {E':RM Ex} (h:Sim E E'):Sim (VE E) (Q6 E'):=A1 (xI h) fun a=>kB h _ a
theorem Td {E:PM Ex} {E':RM Ex} (h:Sim E E'):∀n a,Sim (P1 E n a) (Q9 E' n a)
 |0,a=>Ao _
 |n+1,a=>by
  unfold P1 Q9
  exact Dd (A1 (Yw h) fun _=>Td h n _) (Dd (A1 (Yw h) fun _=>Td h n _) (Dd (A1 (Yw h) fun _=>Td h n _) (Ao _)))
theorem bG {E:PM Ex} {E':RM Ex} (h:Sim E E'):Sim (OR E) (N6 E'):=A1 (Yw h) fun a=>Td h _ a
theorem bH {E:PM Ex} {E':RM Ex} (h:Sim E E'):∀n a,Sim (Yh E n a) (YG E' n a)
 |0,a=>Ao _
 |n+1,a=>by
  unfold Yh YG
  exact Dd (A1 (bG h) fun _=>bH h n _) (Dd (A1 (bG h) fun _=>bH h n _) (Ao _))
theorem Yz {E:PM Ex} {E':RM Ex} (h:Sim E E'):Sim (Nu E) (Q7 E'):=A1 (bG h) fun a=>bH h _ a
theorem xE {E:PM Ex} {E':RM Ex} (h:Sim E E'):Sim (WB E) (pO E'):=by
 unfold WB pO
 exact A1 (Yz h) fun a=>Dd (A1 (Yz h) fun _=>Ao _) (Dd (A1 (Yz h) fun _=>Ao _) (Dd (A1 (Yz h) fun _=>Ao _) (Ao _)))
theorem kE:∀n,Sim (C0 n) (IS n)
 |0=>kC _ _
 |n+1=>by
  have h:=kE n
  unfold C0 IS
  refine Yx (Dd (AAT h) (Dd ?_ (Dd ?_ (Dd ?_ (Dd ?_ (xE h))))))
  · exact A1 h fun _=>A1 B6 fun _=>A1 h fun _=>A1 B6 fun _=>A1 h fun _=>Ao _
  · exact A1 h fun _=>A1 B6 fun _=>A1 (X3 (AAP h)) fun _=>A1 B6 fun _=>Ao _
  · exact A1 B6 fun _=>A1 (RE Nd) fun _=>A1 B6 fun _=>A1 h fun _=>Ao _
  · exact A1 h fun _=>A1 B6 fun _=>A1 Pp fun _=>A1 B6 fun _=>A1 h fun _=>A1 B6 fun _=>Ao _
theorem AAV:Sim tyR ADO:=pW _
theorem AAR:Sim exR AAN:=kE _
theorem AAQ:Sim jI VK:=A1 Pq fun _=>A1 (TR AAV) fun _=>Ao _
theorem xF:Sim Uf aK:=A1 Pq fun _=>A1 (TR Nd) fun _=>A1 B6 fun _=>A1 (X3 AAQ) fun _=>A1 B6 fun _=>Ao _
theorem AAS:Sim YZ sQ:=by
 show Sim YZ (D9.bind fun f=>(RM.A9 [40]).bind fun _=>(Mp D9).bind fun ps=>(RM.A9 [61]).bind fun _=>AAN.bind fun b=>(RM.A9 [59]).bind fun _=>.pure ⟨f,ps,b⟩)
 unfold YZ
 exact A1 Nd fun _=>A1 B6 fun _=>A1 (RE Nd) fun _=>A1 B6 fun _=>A1 AAR fun _=>A1 B6 fun _=>Ao _
theorem X4:∀n ds fs,Sim (M6 n ds fs) (N8 n ds fs)
 |0,ds,fs=>Ao _
 |n+1,ds,fs=>by
  unfold M6 N8
  refine Yx (xH (Ao _) (Dd (A1 xF fun _=>X4 n _ _) fun r p hw ho=>?_))
  cases hc:((r.headD C6).text==[102,117,110]) with
  |true=>
   have e:=mM (α:=Pg) (t:=[102,117,110]) (k:=fun _=>sQ.bind fun f=>N8 n ds (fs++[f])) hw ho (by decide) hc (RM.fail ⟨ds,fs⟩)
   unfold Fe
   rw [e]
   exact Dc hw ho (A1 AAS fun f=>X4 n ds (fs++[f])) fun h=>by rw [hc] at h;cases h
  |false=>
   refine pS hc ?_
   have e:=mL (α:=Pg) (t:=[102,117,110]) (k:=fun _=>sQ.bind fun f=>N8 n ds (fs++[f])) hw ho (by decide) hc
   unfold Fe
   rw [e]
   obtain ⟨f1,f2⟩:=(M6 n ds fs).st (PSt.fail ⟨r,false,p⟩) rfl
   exact ⟨.inr ⟨f1,rfl,f2⟩,fun hf=>by
    have:((PM.fail ()).bind fun _=>M6 n ds fs).run ⟨r,false,p⟩=(M6 n ds fs).run (PSt.fail ⟨r,false,p⟩):=rfl
    rw [this,f1] at hf;cases hf⟩
theorem kF:Sim Lf H8:=X4 _ [] []
end Go.Ab
namespace Go.Ab
def HJ (k:Int) (s:Str):Bool:=
 (Au s).2.2==0&&((Au s).1.length==2&&(match (Au s).1 with|[]=>false|a::_=>a.kind==k&&a.text==s))
def EE (s:Str):Bool:=HJ 1 s
def upperB (s:Str):Bool:=HJ 2 s
def KA (s:Str):Bool:=s==[]||EE s
def OT (k:Int) (n:Str) (len:Nat):Bool:=
 if k=1∨k=2∨k=3 then n==[]&&decide (len=0)
                                     else if k=4 then EE n&&decide (len=0)
                                     else if k=5 then upperB n&&decide (len≤6)
                                     else if k=6 then n==[]&&decide (2≤len)&&decide (len≤6)
                                     else if k=7∨k=8 then n==[]&&decide (len=1)
                                     else if k=9 then n==[]&&decide (1≤len)&&decide (len≤7)
                                     else false
def Cq:Nat→TE→Bool
 |0,_=>false
 |d+1,.mk k n l=>OT k n l.length&&l.all (Cq d)
def Vg (c:CE):Bool:=upperB c.name&&decide (c.args.length≤6)&&c.args.all (Cq 40)
def JY (d:DE):Bool:=upperB d.name&&decide (d.vars.length≤6)&&d.vars.all EE&&decide (1≤d.cons.length)&&decide (d.cons.length≤8)&&d.cons.all Vg
def Re:Al→Bool
 | .mk c vs _=>upperB c&&decide (vs.length≤6)&&vs.all KA
def nmB (o:Int) (n:Str):Bool:=
 if o=4 then EE n else if o=6 then upperB n else if o=7∨o=17 then KA n else n==[]
def nuB (o:Int) (u:Int):Bool:=
 if o=2 then decide (0≤u)&&decide (u≤1) else if o=3 then decide (-1000000≤u)&&decide (u≤1000000) else if o=13 then decide (1≤u)&&decide (u≤8)
                                                                                                                                          else if o=14 then decide (1≤u)&&decide (u≤7) else if o=15 then decide (-1000≤u)&&decide (u≤1000) else u==0
def nsB (o:Int) (ns:List Str):Bool:=
 if o=8 then decide (2≤ns.length)&&decide (ns.length≤6)&&ns.all KA else if o=11 then decide (ns.length≤6)&&ns.all EE else decide (ns.length=0)
def asB (o:Int) (al:List Al):Bool:=
 if o=10 then decide (1≤al.length)&&al.all Re else decide (al.length=0)
def Le (u:Int):Nat:=if u=1∨u=2∨u=7 then 2 else if u=3 then 3 else if u=4∨u=5∨u=6 then 1 else 0
def nkB (o u:Int) (nk:Nat):Bool:=
 if o=1∨o=2∨o=3∨o=4∨o=15 then decide (nk=0)
                                       else if o=5 then decide (2≤nk)&&decide (nk≤6)
                                       else if o=6 then decide (nk≤6)
                                       else if o=7∨o=8∨o=13∨o=17 then decide (nk=2)
                                       else if o=9 then decide (nk=3)
                                       else if o=10∨o=11∨o=16 then decide (nk=1)
                                       else if o=12 then decide (1≤nk)&&decide (nk≤7)
                                       else if o=14 then decide (nk=Le u)
                                       else false
def Iw (o:Int) (n:Str) (u:Int) (ns:List Str) (nk:Nat) (al:List Al):Bool:=
 nmB o n&&nuB o u&&nsB o ns&&asB o al&&nkB o u nk
def vEx:Nat→Nat→Ex→Option Nat
 |0,_,_=>none
 |d+1,q,.mk o n u ns ks al=>
  match q with
  |0=>none
  |q+1=>if Iw o n u ns ks.length al then (ks.foldlM (fun q e=>vEx d q e) q).bind fun q=>al.foldlM (fun q a=>match a with| .mk _ _ b=>vEx d q b) q else none
def Xn (f:FE):Bool:=EE f.name&&decide (f.params.length≤6)&&f.params.all EE
def RJ (q:Nat) (f:FE):Option Nat:=if Xn f then vEx 40 q f.body else none
def DM (p:Pg):Bool:=decide (p.data.length≤12)&&decide (p.Zc.length≤24)&&p.data.all JY&&(p.Zc.foldlM RJ 600).isSome
end Go.Ab
namespace Go.Ab
theorem Xd {w:Str} (h:Gi w=true):∃b l,w=b::l∧UL b.toNat=false∧Gd b.toNat=false∧(Vx b.toNat=true→dD w=true):=by
 have h0:∀w∈Gg++eV,∃b l,w=b::l∧UL b.toNat=false∧Gd b.toNat=false:=by
  have:(Gg++eV).all (fun w=>match w with|[]=>false|b::_=>!UL b.toNat&& !Gd b.toNat)=true:=by decide
  intro w hw
  have:=A7.1 this w hw
  match w,this with
  |b::l,this=>
   simp only [AR,CZ] at this
   exact ⟨b,l,rfl,this.1,this.2⟩
 have h1:∀w∈eV,∀b l,w=b::l→Vx b.toNat=false:=by
  have:eV.all (fun w=>match w with|[]=>false|b::_=>!Vx b.toNat)=true:=by decide
  intro w hw b l e
  have:=A7.1 this w hw
  subst e
  simpa using this
 simp only [Gi,CR] at h
 have hm:w∈Gg++eV:=by
  rw [Bb]
  rcases h with h|h
  · left
    simp only [dD,List.any_eq_true,beq_iff_eq] at h
    obtain ⟨x,hx,rfl⟩:=h
    exact hx
  · right;simpa [List.contains_eq_mem] using h
 obtain ⟨b,l,e,h2,h3⟩:=h0 w hm
 refine ⟨b,l,e,h2,h3,fun hl=>?_⟩
 rcases h with h|h
 · exact h
 · have:=h1 w (by simpa [List.contains_eq_mem] using h) b l e
   rw [hl] at this;cases this
def inner (t:Tok):Prop:=p9 t∧t.kind≠6∧t.text≠[]
theorem nP {s:Str} {k:Int} {t:Str} (i:Nat) (h:FK s= .ok (k,t)):inner ⟨k,t,i⟩:=by
 have hl:=(TP h).1
 have hne:t≠[]:=by rintro rfl;simp at hl
 match s,h with
 |b::r,h=>
  have hhd:∀p:UInt8→Bool,∀u,(b::r).takeWhile p=u→u≠[]→∃l,u=b::l:=fun p u hu hn=>by
   rw [Mb] at hu
   split at hu
   · exact ⟨_,hu.symm⟩
   · exact absurd hu.symm hn
  simp only [FK] at h
  split at h
  · rename_i hlu
    split at h
    · cases h
    · split at h
      · rename_i hup
        simp only [HK,Ba] at h
        obtain ⟨rfl,hq⟩:=h
        obtain ⟨l,rfl⟩:=hhd _ _ hq hne
        refine ⟨.inl ⟨.inr (.inl rfl),?_⟩,fun h6=>absurd h6 (by simp),hne⟩
        rw [Jz]
        intro hw
        obtain ⟨c,l',e,h1,_⟩:=Xd hw
        simp only at e
        cases e
        rw [hup] at h1;cases h1
      · split at h
        · simp only [HK,Ba] at h
          obtain ⟨rfl,hq⟩:=h
          exact ⟨.inr (.inl rfl),fun h6=>absurd h6 (by simp),hne⟩
        · rename_i hup hk
          simp only [HK,Ba] at h
          obtain ⟨rfl,hq⟩:=h
          rw [hq] at hk
          obtain ⟨l,rfl⟩:=hhd _ _ hq hne
          refine ⟨.inl ⟨.inl rfl,?_⟩,fun h6=>absurd h6 (by simp),hne⟩
          rw [Jz]
          intro hw
          obtain ⟨c,l',e,_,_,h2⟩:=Xd hw
          simp only at e h2
          cases e
          rw [R9] at hup
          rw [hup,NA] at hlu
          exact hk (h2 hlu)
  · split at h
    · rename_i hd
      split at h
      · cases h
      · split at h
        · simp only [HK,Ba] at h
          obtain ⟨rfl,hq⟩:=h
          obtain ⟨l,rfl⟩:=hhd _ _ hq hne
          refine ⟨.inl ⟨.inr (.inr rfl),?_⟩,fun h6=>absurd h6 (by simp),hne⟩
          rw [Jz]
          intro hw
          obtain ⟨c,l',e,_,h1,_⟩:=Xd hw
          simp only at e
          cases e
          rw [hd] at h1;cases h1
        · cases h
    · split at h
      · cases h
      · simp only [HK,Ba] at h
        obtain ⟨rfl,hq⟩:=h
        exact ⟨.inr (.inr (.inl rfl)),fun h6=>absurd h6 (by simp),hne⟩
theorem W0:∀(n:Nat) (rest:Str) (i:Nat) (acc:List Tok),(∀t∈acc,inner t)→(EG n rest i acc).2.2=0→rest.length < n→∃l e,(EG n rest i acc).1=l++[⟨6,[],e⟩]∧(∀t∈l,inner t)∧l.length≤acc.length+rest.length
 |0,rest,i,acc,_,_,hn=>by omega
 |n+1,[],i,acc,ha,_,_=>⟨acc,i,rfl,ha,Nat.le_add_right _ _⟩
 |n+1,b::r,i,acc,ha,h,hn=>by
  simp only [AG] at hn
  rw [EG] at h ⊢
  split at h
  · rename_i hb
    rw [if_pos hb]
    obtain ⟨l,e,h1,h2,h3⟩:=W0 n r (i+1) acc ha h (by omega)
    exact ⟨l,e,h1,h2,by simp only [AG];omega⟩
  · rename_i hb
    rw [if_neg hb]
    split at h
    · rename_i hc
      rw [if_pos hc]
      rw [beq_iff_eq] at hc
      subst hc
      have:1≤cmt (35::r):=by simp [cmt]
      obtain ⟨l,e,h1,h2,h3⟩:=W0 n _ _ acc ha h (by rw [Ah];simp only [AG];omega)
      exact ⟨l,e,h1,h2,by rw [Ah] at h3;simp only [AG] at h3 ⊢;omega⟩
    · rename_i hc
      rw [if_neg hc]
      cases hs:FK (b::r) with
      |error e=>
       rw [hs] at h
       simp only at h
       rcases Pm hs with rfl|rfl<;>cases h
      |ok x=>
       obtain ⟨k,t⟩:=x
       rw [hs] at h
       simp only at h ⊢
       have hl:=TP hs
       obtain ⟨l,e,h1,h2,h3⟩:=W0 n _ _ _ (fun u hu=>by
        rcases Bb.1 hu with hu|hu
        · exact ha u hu
        · simp at hu;subst hu;exact nP i hs) h (by rw [Ah];simp only [AG] at hl ⊢;omega)
       exact ⟨l,e,h1,h2,by rw [AA,Ah] at h3;simp only [AG,AI] at h3 hl ⊢;omega⟩
theorem yA:∀ {l:List Tok} {e:Nat},(∀t∈l,inner t)→WF (l++[⟨6,[],e⟩])∧∀t∈l++[⟨6,[],e⟩],p9 t
 |[],e,_=>⟨⟨rfl,rfl⟩,fun t ht=>(by simp at ht;subst ht;exact .inr (.inr (.inr ⟨rfl,rfl⟩)))⟩
 |t::l,e,h=>by
  obtain ⟨h1,h2⟩:=yA (l:=l) (e:=e) (fun u hu=>h u (Bh _ hu))
  have ht:=h t (BB ..)
  refine ⟨?_,fun u hu=>?_⟩
  · rw [Ae]
    cases hl:l++[(⟨6,[],e⟩:Tok)] with
    |nil=>simp at hl
    |cons u m=>rw [hl] at h1;exact ⟨ht.2,h1⟩
  · rw [Ae] at hu
    rcases Cm.1 hu with rfl|hu
    · exact ht.1
    · exact h2 u hu
theorem bL {s:Str} (h:(Au s).2.2=0):WF (Au s).1∧Fg (Au s).1:=by
 unfold Au at h ⊢
 split at h
 · cases h
 · rename_i hl
   rw [if_neg hl]
   obtain ⟨l,e,h1,h2,h3⟩:=W0 (s.length+1) s 0 [] (fun t ht=>by cases ht) h (by omega)
   rw [h1]
   obtain ⟨w1,w2⟩:=yA (l:=l) (e:=e) h2
   refine ⟨w1,?_,w2⟩
   rw [AA];simp only [AI,AG] at h3 ⊢;omega
noncomputable def Ew (s:Str):Pg×Nat×Int:=
 if (Au s).2.2≠0 then (⟨[],[]⟩,(Au s).2.1,(Au s).2.2)
                                            else if (Lf.run ⟨(Au s).1,false,0⟩).2.f then (⟨[],[]⟩,(Lf.run ⟨(Au s).1,false,0⟩).2.p,2)
                                            else if DM (Lf.run ⟨(Au s).1,false,0⟩).1 then ((Lf.run ⟨(Au s).1,false,0⟩).1,0,0) else (⟨[],[]⟩,0,9)
noncomputable def WK (s:Str):Pg×Nat×Int:=
 if (Au s).2.2≠0 then (⟨[],[]⟩,(Au s).2.1,(Au s).2.2)
                                            else if (H8.run ⟨(Au s).1,false⟩).2.b then (⟨[],[]⟩,(H8.run ⟨(Au s).1,false⟩).2.hd.pos,2)
                                            else if DM (H8.run ⟨(Au s).1,false⟩).1 then ((H8.run ⟨(Au s).1,false⟩).1,0,0) else (⟨[],[]⟩,0,9)
theorem mV (s:Str):WK s=Ew s:=by
 unfold WK Ew
 by_cases h:(Au s).2.2≠0
 · rw [if_pos h,if_pos h]
 · rw [if_neg h,if_neg h]
   obtain ⟨w,o⟩:=bL (Classical.not_not.1 h)
   obtain ⟨h1,h2⟩:=kF _ 0 w o
   rcases h1 with ⟨f1,f2,_⟩|⟨f1,f2,f3⟩
   · rw [f1,f2,h2 f1];rfl
   · rw [f1,f2,f3];rfl
end Go.Ab
namespace Go.Ab
mutual
def Ex.nb:Ex→Prop
 | .mk o n u ns ks al=>Iw o n u ns ks.length al=true∧Ex.nbs ks∧Al.nbs al
def Ex.nbs:List Ex→Prop
 |[]=>True
 |t::l=>t.nb∧Ex.nbs l
def Al.nb:Al→Prop
 | .mk _ _ b=>b.nb
def Al.nbs:List Al→Prop
 |[]=>True
 |t::l=>t.nb∧Al.nbs l
end
theorem Ex.WA:∀ {l:List Ex},Ex.nbs l↔∀t∈l,t.nb
 |[]=>by simp [Ex.nbs]
 |t::l=>by simp [Ex.nbs,Ex.WA (l:=l)]
theorem Al.WA:∀ {l:List Al},Al.nbs l↔∀t∈l,t.nb
 |[]=>by simp [Al.nbs]
 |t::l=>by simp [Al.nbs,Al.WA (l:=l)]
theorem T7 {α:Type} {f:Nat→α→Option Nat} {Q:α→Prop}:∀(l:List α) (q r:Nat),(∀x∈l,∀a b,f a x=some b→Q x)→l.foldlM f q=some r→∀x∈l,Q x
 |[],_,_,_,_,x,hx=>by cases hx
 |y::l,q,r,hf,h,x,hx=>by
  rw [List.foldlM_cons,AU,AF] at h
  obtain ⟨b,hb,h⟩:=h
  rcases Cm.1 hx with rfl|hx
  · exact hf _ (BB ..) q b hb
  · exact T7 l b r (fun z hz=>hf z (Bh _ hz)) h x hx
theorem oB:∀(d q:Nat) (e:Ex) (r:Nat),vEx d q e=some r→e.nb
 |0,q,.mk ..,r,h=>by simp [vEx] at h
 |d+1,0,.mk ..,r,h=>by cases h
 |d+1,q+1,.mk o n u ns ks al,r,h=>by
  simp only [vEx] at h
  split at h
  · rename_i hn
    rw [AF] at h
    obtain ⟨c,hc,h⟩:=h
    rw [Ex.nb,Ex.WA,Al.WA]
    refine ⟨hn,T7 ks q c (fun x _ a b hab=>oB d a x b hab) hc,T7 al c r (fun x _ a b hab=>?_) h⟩
    obtain ⟨cc,vs,bd⟩:=x
    rw [Al.nb]
    exact oB d a bd b hab
  · cases h
def cms (l:List Str):Str:=Lib.join l [44,32]
def Lc (s:Str):Str:=40::(s++[41])
def Lb (l:List Str):Str:=if l=[] then [] else Lc (cms l)
def L9 (l:List Str):Str:=Lc (cms l)
def shown (s:Str):Str:=if s=[] then [95] else s
def at0 (l:List Str) (i:Nat):Str:=l.getD i []
def tyN (k:Int) (n:Str) (ts:List Str):Str:=
 if k=1 then [105,110,116] else if k=2 then [98,111,111,108] else if k=3 then [117,110,105,116]
  else if k=7 then [97,114,114,97,121]++Lb ts else if k=8 then [114,101,102]++Lb ts
  else if k=9 then [102,110]++(L9 ts.dropLast++([32,45,62,32]++ts.getLastD []))
  else n++Lb ts
mutual
def Es:TE→Str
 | .mk k n l=>tyN k n (fQ l)
def fQ:List TE→List Str
 |[]=>[]
 |t::l=>Es t::fQ l
end
theorem Uv:∀l:List TE,fQ l=l.map Es
 |[]=>rfl
 |t::l=>by rw [fQ,Uv l];rfl
def Hz (u:Int):Nat:=if u=1∨u=2 then 2 else if u=3∨u=4∨u=5 then 3 else 1
def lvl:Ex→Nat
 | .mk o _ u _ _ _=>if o=7∨o=8∨o=9∨o=10∨o=11∨o=17 then 0 else if o=13 then Hz u else if o=12 then 4 else 5
def pl (d:Nat) (k:Ex) (t:Str):Str:=if lvl k < d then Lc t else t
def opT (u:Int):Str:=sE u.toNat
def prT (u:Int):Str:=if u=1 then [110,101,119] else if u=2 then [103,101,116] else if u=3 then [115,101,116] else if u=4 then [108,101,110] else if u=5 then [114,101,102] else if u=6 then [114,101,97,100] else [119,114,105,116,101]
def dQ:Ex→Bool
 | .mk o _ _ _ ks _=>o==6&&ks.isEmpty
def ACJ (ks:List Ex) (ts:List Str):Str:=match ks with
 |[]=>L9 ts.tail
 |k::_=>(if dQ k then Lc (at0 ts 0) else pl 4 k (at0 ts 0))++L9 ts.tail
def ACP (u:Int) (ks:List Ex) (ts:List Str):Str:=match ks with
 |[a,b]=>pl (if Hz u=1 then 2 else Hz u) a (at0 ts 0)++(32::(opT u++(32::pl (if Hz u=1 then 2 else Hz u+1) b (at0 ts 1))))
 |_=>[]
def QH (o:Int) (n:Str) (u:Int) (ns:List Str) (ks:List Ex) (ts:List Str) (as':List Str):Str:=
 if o=7 then [108,101,116,32]++(shown n++([32,61,32]++(at0 ts 0++([32,105,110,32]++at0 ts 1))))
                                                                   else if o=8 then [108,101,116,32]++(Lb (ns.map shown)++([32,61,32]++(at0 ts 0++([32,105,110,32]++at0 ts 1))))
                                                                   else if o=9 then [105,102,32]++(at0 ts 0++([32,116,104,101,110,32]++(at0 ts 1++([32,101,108,115,101,32]++at0 ts 2))))
                                                                   else if o=10 then [109,97,116,99,104,32]++(at0 ts 0++([32,119,105,116,104,32]++(Lib.join as' [32,124,32]++[32,101,110,100])))
                                                                   else if o=11 then [102,110]++(L9 ns++([32,45,62,32]++at0 ts 0))
                                                                   else if o=17 then [116,114,121,32]++(at0 ts 0++([32,99,97,116,99,104,32]++(shown n++([32,45,62,32]++(at0 ts 1++[32,101,110,100])))))
                                                                   else if o=13 then ACP u ks ts
                                                                   else if o=12 then ACJ ks ts
                                                                   else if o=1 then [40,41]
                                                                   else if o=2 then (if u=1 then [116,114,117,101] else [102,97,108,115,101])
                                                                   else if o=3 then Lib.itoa u
                                                                   else if o=5 then L9 ts
                                                                   else if o=14 then prT u++L9 ts
                                                                   else if o=16 then [114,97,105,115,101]++L9 ts
                                                                   else if o=15 then [116,105,99,107]++Lc (Lib.itoa u)
                                                                   else n++Lb ts
def alT (c:Str) (vs:List Str) (b:Str):Str:=c++(Lb (vs.map shown)++([32,45,62,32]++b))
mutual
def BO:Ex→Str
 | .mk o n u ns ks al=>QH o n u ns ks (Xm ks) (KN al)
def Xm:List Ex→List Str
 |[]=>[]
 |t::l=>BO t::Xm l
def Rg:Al→Str
 | .mk c vs b=>alT c vs (BO b)
def KN:List Al→List Str
 |[]=>[]
 |t::l=>Rg t::KN l
end
theorem PD:∀l:List Ex,Xm l=l.map BO
 |[]=>rfl
 |t::l=>by rw [Xm,PD l];rfl
theorem dZ:∀l:List Al,KN l=l.map Rg
 |[]=>rfl
 |t::l=>by rw [KN,dZ l];rfl
def fmtC (c:CE):Str:=c.name++Lb (c.args.map Es)
def Wk (d:DE):Str:=[100,97,116,97,32]++(d.name++(Lb d.vars++([32,61,32]++(Lib.join (d.cons.map fmtC) [32,124,32]++[59,10]))))
def Z9 (f:FE):Str:=[102,117,110,32]++(f.name++(L9 f.params++([32,61,32]++(BO f.body++[59,10]))))
def rC (p:Pg):Str:=(p.data.map Wk).flatten++(p.Zc.map Z9).flatten
end Go.Ab
namespace Go.Ab
def ADB (s:Str):Prop:=∃b r,s=b::r∧Vx b.toNat=true∧(∀x∈s,Da IX x=true)∧s.length≤24∧dD s=false
theorem takeWhile_eq {α:Type} {p:α→Bool}:∀ {l:List α},l.takeWhile p=l→∀x∈l,p x=true
 |[],_,x,hx=>by cases hx
 |y::l,h,x,hx=>by
  rw [Mb] at h
  split at h
  · rename_i hy
    rcases Cm.1 hx with rfl|hx
    · exact hy
    · exact takeWhile_eq (by simpa using h) x hx
  · cases h
theorem Ko:∀(n:Nat) (rest:Str) (i:Nat) (acc:List Tok),(EG n rest i acc).2.2=0→(EG n rest i acc).1=[]∨∃tl,(EG n rest i acc).1=acc++tl∧∀t∈tl,t.text.length≤rest.length
 |0,rest,i,acc,_=>.inl rfl
 |n+1,[],i,acc,_=>.inr ⟨[⟨6,[],i⟩],rfl,fun t ht=>by simp at ht;simp [ht]⟩
 |n+1,b::r,i,acc,h=>by
  rw [EG] at h ⊢
  split at h
  · rename_i hb
    rw [if_pos hb]
    rcases Ko n r (i+1) acc h with h|⟨tl,h1,h2⟩
    · exact .inl h
    · exact .inr ⟨tl,h1,fun t ht=>by have:=h2 t ht;simp only [AG];omega⟩
  · rename_i hb
    rw [if_neg hb]
    split at h
    · rename_i hc
      rw [if_pos hc]
      rcases Ko n _ _ acc h with h|⟨tl,h1,h2⟩
      · exact .inl h
      · exact .inr ⟨tl,h1,fun t ht=>by have:=h2 t ht;rw [Ah] at this;omega⟩
    · rename_i hc
      rw [if_neg hc]
      cases hs:FK (b::r) with
      |error e=>
       rw [hs] at h
       simp only at h
       rcases Pm hs with rfl|rfl<;>cases h
      |ok x=>
       obtain ⟨k,t⟩:=x
       rw [hs] at h
       simp only at h ⊢
       rcases Ko n _ _ _ h with h|⟨tl,h1,h2⟩
       · exact .inl h
       · refine .inr ⟨⟨k,t,i⟩::tl,by rw [h1];simp,fun u hu=>?_⟩
         rcases Cm.1 hu with rfl|hu
         · exact (TP hs).2
         · have:=h2 u hu;rw [Ah] at this;omega
theorem vQ {s:Str} (h:EE s=true):ADB s:=by
 rw [EE,HJ] at h
 simp only [AR,beq_iff_eq] at h
 obtain ⟨h0,h1,h2⟩:=h
 rw [Au] at h0 h1 h2
 split at h0
 · cases h0
 · rename_i hle
   rw [if_neg hle] at h1 h2
   match s,h0,h1,h2 with
   |[],_,h1,_=>simp [EG] at h1
   |b::r,h0,h1,h2=>
    rw [show (b::r).length+1=(r.length+1)+1 from rfl] at h0 h1 h2
    rw [EG] at h0 h1 h2
    have hsm:∀(n:Nat) (rest:Str) (i:Nat),rest.length < (b::r).length→(EG n rest i []).2.2=0→(EG n rest i []).1.length=2→(match (EG n rest i []).1 with|[]=>false|a::_=>decide (a.kind=1)&&decide (a.text=b::r))=true→False:=by
     intro n rest i hlt g0 g1 g2
     rcases Ko n rest i [] g0 with h|⟨tl,h,hm⟩
     · rw [h] at g1;cases g1
     · rw [h,A6] at g1 g2
       cases tl with
       |nil=>cases g1
       |cons a tl=>
        simp only [AR,decide_eq_true_eq] at g2
        have:=hm a (BB ..)
        rw [g2.2] at this
        omega
    have hcv:∀(l:List Tok),(match l with|[]=>false|a::_=>a.kind==1&&a.text==b::r)=true→(match l with|[]=>false|a::_=>decide (a.kind=1)&&decide (a.text=b::r))=true:=by
     intro l hl
     cases l with
     |nil=>cases hl
     |cons a l=>simpa using hl
    split at h0
    · rename_i hb
      rw [if_pos hb] at h1 h2
      exact (hsm _ _ _ (by simp) h0 h1 (hcv _ h2)).elim
    · rename_i hb
      rw [if_neg hb] at h1 h2
      split at h0
      · rename_i hc
        rw [if_pos hc] at h1 h2
        refine (hsm _ _ _ ?_ h0 h1 (hcv _ h2)).elim
        rw [beq_iff_eq] at hc
        subst hc
        have:1≤cmt (35::r):=by simp [cmt]
        rw [Ah];simp only [AG];omega
      · rename_i hc
        rw [if_neg hc] at h1 h2
        cases hs:FK (b::r) with
        |error e=>
         rw [hs] at h0
         rcases Pm hs with rfl|rfl<;>cases h0
        |ok x=>
         obtain ⟨k,t⟩:=x
         rw [hs] at h0 h1 h2
         rcases Ko _ _ _ _ h0 with h|⟨tl,h,hm⟩
         · rw [h] at h1;cases h1
         · rw [h] at h2
           replace h2:(k==1&&t==b::r)=true:=h2
           rw [AR,beq_iff_eq,beq_iff_eq] at h2
           obtain ⟨rfl,rfl⟩:=h2
           rw [FK] at hs
           split at hs
           · rename_i hlu
             split at hs
             · cases hs
             · rename_i hlen
               split at hs
               · cases hs
               · rename_i hup
                 split at hs
                 · cases hs
                 · rename_i hkey
                   simp only [HK,Ba,true_and] at hs
                   rw [hs] at hlen hkey
                   refine ⟨b,r,rfl,?_,takeWhile_eq hs,by simpa using hlen,by simpa using hkey⟩
                   rw [R9] at hup
                   rw [hup,NA] at hlu
                   exact hlu
           · split at hs
             · split at hs
               · cases hs
               · split at hs<;>cases hs
             · split at hs<;>cases hs
end Go.Ab
namespace Go.Ab
abbrev KT:=Int×Str
def pY:Str→Bool
 |[]=>true
 |b::_=>[10,32,40,41,44,59].contains b
def VY (s:Str) (ks:List KT) (rest:Str):Prop:=∀n i acc,(s++rest).length < n→∃n' i' acc',strip acc'=strip acc++ks∧rest.length < n'∧EG n (s++rest) i acc=EG n' rest i' acc'
def AB3 (s:Str) (ks:List KT):Prop:=∀rest,pY rest=true→VY s ks rest
def cD (s:Str) (ks:List KT):Prop:=∀rest,VY s ks rest
theorem VY.trans {s1 s2:Str} {k1 k2:List KT} {rest:Str} (h1:VY s1 k1 (s2++rest)) (h2:VY s2 k2 rest):VY (s1++s2) (k1++k2) rest:=fun n i acc hn=>by
 rw [AY] at hn ⊢
 obtain ⟨n1,i1,a1,e1,l1,g1⟩:=h1 n i acc hn
 obtain ⟨n2,i2,a2,e2,l2,g2⟩:=h2 n1 i1 a1 l1
 exact ⟨n2,i2,a2,by rw [e2,e1,AY],l2,by rw [g1,g2]⟩
theorem VY.nil (rest:Str):VY [] [] rest:=fun n i acc hn=>⟨n,i,acc,by simp,hn,rfl⟩
theorem cD.s {s:Str} {ks:List KT} (h:cD s ks):AB3 s ks:=fun r _=>h r
theorem cD.nil:cD [] []:=VY.nil
theorem cD.a {s1 s2:Str} {k1 k2:List KT} (h1:cD s1 k1) (h2:cD s2 k2):cD (s1++s2) (k1++k2):=fun r=>(h1 _).trans (h2 r)
theorem xO {s r:Str} (h:pY s=true) (hn:s≠[]):pY (s++r)=true:=by
 cases s with
 |nil=>exact absurd rfl hn
 |cons b l=>exact h
theorem AB3.a {s1 s2:Str} {k1 k2:List KT} (h1:AB3 s1 k1) (hs:pY s2=true) (hn:s2≠[]) (h2:cD s2 k2):cD (s1++s2) (k1++k2):=fun r=>(h1 _ (xO hs hn)).trans (h2 r)
end Go.Ab
namespace Go.Ab
def AB0 (u:Int):List KT:=if u < 0 then [(5,[45]),(3,Lib.decDigits u.natAbs)] else [(3,Lib.decDigits u.toNat)]
theorem tE {s:Str} (h:upperB s=true):∃b r,s=b::r∧UL b.toNat=true∧(∀x∈b::r,Da IX x=true)∧(b::r).length≤24:=by
 rw [upperB,HJ] at h
 simp only [AR,beq_iff_eq] at h
 obtain ⟨h0,h1,h2⟩:=h
 rw [Au] at h0 h1 h2
 split at h0
 · cases h0
 · rename_i hle
   rw [if_neg hle] at h1 h2
   match s,h0,h1,h2 with
   |[],_,h1,_=>simp [EG] at h1
   |b::r,h0,h1,h2=>
    rw [show (b::r).length+1=(r.length+1)+1 from rfl] at h0 h1 h2
    rw [EG] at h0 h1 h2
    have hsm:∀(n:Nat) (rest:Str) (i:Nat),rest.length < (b::r).length→(EG n rest i []).2.2=0→(EG n rest i []).1.length=2→(match (EG n rest i []).1 with|[]=>false|a::_=>a.kind==2&&a.text==b::r)=true→False:=by
     intro n rest i hlt g0 g1 g2
     rcases Ko n rest i [] g0 with h|⟨tl,h,hm⟩
     · rw [h] at g1;cases g1
     · rw [h,A6] at g1 g2
       cases tl with
       |nil=>cases g1
       |cons a tl=>
        simp only [AR,beq_iff_eq] at g2
        have:=hm a (BB ..)
        rw [g2.2] at this
        omega
    split at h0
    · rename_i hb
      rw [if_pos hb] at h1 h2
      exact (hsm _ _ _ (by simp) h0 h1 h2).elim
    · rename_i hb
      rw [if_neg hb] at h1 h2
      split at h0
      · rename_i hc
        rw [if_pos hc] at h1 h2
        refine (hsm _ _ _ ?_ h0 h1 h2).elim
        rw [beq_iff_eq] at hc
        subst hc
        have:1≤cmt (35::r):=by simp [cmt]
        rw [Ah];simp only [AG];omega
      · rename_i hc
        rw [if_neg hc] at h1 h2
        cases hs:FK (b::r) with
        |error e=>
         rw [hs] at h0
         rcases Pm hs with rfl|rfl<;>cases h0
        |ok x=>
         obtain ⟨k,t⟩:=x
         rw [hs] at h0 h1 h2
         rcases Ko _ _ _ _ h0 with h|⟨tl,h,hm⟩
         · rw [h] at h1;cases h1
         · rw [h] at h2
           replace h2:(k==2&&t==b::r)=true:=h2
           rw [AR,beq_iff_eq,beq_iff_eq] at h2
           obtain ⟨rfl,rfl⟩:=h2
           rw [FK] at hs
           split at hs
           · split at hs
             · cases hs
             · rename_i hlen
               split at hs
               · rename_i hup
                 simp only [HK,Ba,true_and] at hs
                 rw [hs] at hlen
                 exact ⟨b,r,rfl,hup,takeWhile_eq hs,by simpa using hlen⟩
               · split at hs<;>cases hs
           · split at hs
             · split at hs
               · cases hs
               · split at hs<;>cases hs
             · split at hs<;>cases hs
def shK (s:Str):List KT:=if s=[] then [(5,[95])] else [(1,s)]
def cmK (l:List (List KT)):List KT:=[(5,[44])].intercalate l
def sF (k:List KT):List KT:=(5,[40])::(k++[(5,[41])])
def ADD (l:List (List KT)):List KT:=if l=[] then [] else sF (cmK l)
def r8 (l:List (List KT)):List KT:=sF (cmK l)
end Go.Ab
