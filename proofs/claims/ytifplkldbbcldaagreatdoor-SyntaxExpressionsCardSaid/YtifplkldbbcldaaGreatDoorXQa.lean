/- The parser in plain data: its steps. The parser of the reference in plain data: its steps, and that it does what the program's parser does. Both parsers do the same, in plain data. Both parsers do the same, in plain data: expressions and programs. Valid programs, in plain data. The tokens of a text in plain data, and what both parsers make of them. Conditions: none. -/
import Derived.Test.YtifplkldbbcldaaGreatDoorXTl
set_option linter.unusedSimpArgs false
set_option linter.unusedVariables false
set_option maxRecDepth 4000
set_option maxHeartbeats 8000000
open List renaming length_cons→AB,map_cons→AF,length→Kd,drop→Ja,length_append→AA,nil_append→A3,mem_cons_self→Ah,all_eq_true→A7,mem_append→BW,contains_eq_mem→Dx,takeWhile_cons→F5,length_drop→An,length_nil→AE,mem_cons_of_mem→Am,cons_append→A0,mem_cons→CT
open Prod.mk renaming injEq→B7
open Nat renaming le_refl→A9,le_trans→BD
open Bool renaming and_eq_true→AN,or_eq_true→BV,not_eq_true'→CS,eq_false_iff→F1,not_eq_true→Qw,or_false→Mm
open Except.ok renaming injEq→Gw
namespace Go.Ab
structure PSt where
 r:List Tok
 f:Bool
 p:Nat
def Uk:Tok:=⟨6,[],0⟩
def PSt.hd (s:PSt):Tok:=s.r.headD Uk
def PSt.adv (s:PSt):PSt:=⟨s.r.tail,s.f,s.p⟩
def VX (r:List Tok):List Tok:=r.drop (r.length - 1)
def PSt.fail (s:PSt):PSt:=⟨VX s.r,true,if s.f then s.p else s.hd.pos⟩
def WF:List Tok→Prop
 |[]=>False
 |[t]=>t.kind=6∧t.text=[]
 |t::l=>(t.kind≠6∧t.text≠[])∧WF l
theorem WF.ne {r:List Tok} (h:WF r):r≠[]:=by rintro rfl;exact h
theorem WF.tail {t:Tok} {l:List Tok} (h:WF (t::l)) (hk:t.kind≠6∨t.text≠[]):WF l:=by
 cases l with
 |nil=>simp only [WF] at h;rcases hk with hk|hk<;>simp_all
 |cons u l=>exact h.2
theorem WF.last:∀ {r:List Tok},WF r→WF (VX r)
 |[],h=>h.elim
 |[t],h=>h
 |t::u::l,h=>by
  have:=WF.last (r:=u::l) h.2
  unfold VX at this ⊢
  simp only [AB,Nat.add_sub_cancel] at this ⊢
  rw [List.drop_succ_cons]
  exact this
theorem tP (r:List Tok):VX r <:+r:=List.drop_suffix _ _
theorem Sx {s:PSt} (h:WF s.r) (hk:s.hd.kind≠6∨s.hd.text≠[]):WF s.adv.r∧s.adv.r <:+s.r:=by
 obtain ⟨r,f,p⟩:=s
 cases r with
 |nil=>exact h.elim
 |cons t l=>exact ⟨h.tail hk,List.suffix_cons t l⟩
theorem Vj {s:PSt} (h:WF s.r):WF s.fail.r∧s.fail.r <:+s.r:=⟨h.last,tP _⟩
def strip (r:List Tok):List (Int×Str):=r.map fun t=>(t.kind,t.text)
theorem Vg:∀ {r r':List Tok},strip r=strip r'→(r.headD Uk).kind=(r'.headD Uk).kind∧(r.headD Uk).text=(r'.headD Uk).text
 |[],[],_=>⟨rfl,rfl⟩
 |[],_::_,h=>by simp [strip] at h
 |_::_,[],h=>by simp [strip] at h
 |t::l,u::m,h=>by
  simp only [strip,AF,List.cons.injEq,B7] at h
  exact ⟨h.1.1,h.1.2⟩
theorem Z9 {r r':List Tok} (h:strip r=strip r'):strip r.tail=strip r'.tail:=by
 have:=congrArg List.tail h
 simpa only [strip,List.map_tail] using this
theorem Z8 {r r':List Tok} (h:strip r=strip r'):strip (VX r)=strip (VX r'):=by
 have hl:r.length=r'.length:=by simpa [strip] using congrArg Kd h
 have:=congrArg (Ja (r.length - 1)) h
 simpa only [strip,VX,List.map_drop,hl] using this
theorem rN {a l t:List Tok} (h:a <:+l++t) (hl:t.length≤a.length):∃m,a=m++t∧m <:+l:=by
 obtain ⟨pre,h⟩:=h
 have h1:pre.length≤l.length:=by
  have:=congrArg Kd h
  simp only [AA] at this;omega
 refine ⟨l.drop pre.length,?_,List.drop_suffix _ _⟩
 have:=congrArg (Ja pre.length) h
 rw [List.drop_left,List.drop_append_of_le_length h1] at this
 exact this
structure PM (α:Type) where
 run:PSt→α×PSt
 st:∀s,s.f=true→(run s).2.f=true∧(run s).2.p=s.p
 sf:∀s,WF s.r→WF (run s).2.r∧(run s).2.r <:+s.r
 pm:∀s s',strip s.r=strip s'.r→s.f=s'.f→(run s).1=(run s').1∧strip (run s).2.r=strip (run s').2.r∧(run s).2.f=(run s').2.f
 fr:∀(l t1 t2:List Tok) (f:Bool) (p:Nat) (l':List Tok),l'≠[]→WF (l++t1)→(run ⟨l++t1,f,p⟩).2.f=false→(run ⟨l++t1,f,p⟩).2.r=l'++t1→(run ⟨l++t2,f,p⟩)=((run ⟨l++t1,f,p⟩).1,⟨l'++t2,false,(run ⟨l++t1,f,p⟩).2.p⟩)
theorem jS {l l' t:List Tok} {a:List Tok} (h:a <:+l++t) (e:a=l'++t) (hn:l'≠[]):l≠[]:=by
 rintro rfl
 have:=h.length_le
 rw [e,AA,A3] at this
 cases l' with
 |nil=>exact hn rfl
 |cons x l'=>simp at this;omega
namespace PM
variable {α β:Type}
def pure (a:α):PM α:=⟨fun s=>(a,s),fun _ h=>⟨h,rfl⟩,fun _ h=>⟨h,List.suffix_refl _⟩,fun _ _ h k=>⟨rfl,h,k⟩,fun l t1 t2 f p l' _ _ hf hr=>by
 simp only at hf hr ⊢
 rw [List.append_cancel_right hr,hf]⟩
def bind (m:PM α) (k:α→PM β):PM β:=
 ⟨fun s=>(k (m.run s).1).run (m.run s).2,fun s h=>by
   obtain ⟨h1,h2⟩:=m.st s h
   obtain ⟨h3,h4⟩:=(k (m.run s).1).st _ h1
   exact ⟨h3,h4.trans h2⟩,fun s h=>by
   obtain ⟨h1,h2⟩:=m.sf s h
   obtain ⟨h3,h4⟩:=(k (m.run s).1).sf _ h1
   exact ⟨h3,h4.trans h2⟩,fun s s' h hf=>by
   obtain ⟨h1,h2,h3⟩:=m.pm s s' h hf
   have:=(k (m.run s).1).pm _ _ h2 h3
   rw [h1] at this ⊢
   exact this,fun l t1 t2 f p l' hn hw hf hr=>by
   have s1f:(m.run ⟨l++t1,f,p⟩).2.f=false:=by
    cases hc:(m.run ⟨l++t1,f,p⟩).2.f with
    |false=>rfl
    |true=>have:=((k (m.run ⟨l++t1,f,p⟩).1).st _ hc).1;rw [hf] at this;cases this
   obtain ⟨w1,u1⟩:=m.sf ⟨l++t1,f,p⟩ hw
   obtain ⟨w2,u2⟩:=(k (m.run ⟨l++t1,f,p⟩).1).sf _ w1
   have hl:=u2.length_le
   rw [hr,AA] at hl
   obtain ⟨l1,e1,_⟩:=rN u1 (by omega)
   have hn1:l1≠[]:=by
    rintro rfl
    rw [e1] at hl
    cases l' with
    |nil=>exact hn rfl
    |cons x l'=>simp at hl;omega
   have em:=m.fr l t1 t2 f p l1 hn1 hw s1f e1
   rw [em]
   simp only
   generalize m.run ⟨l++t1,f,p⟩=x at *
   obtain ⟨a,r,g,q⟩:=x
   simp only at *
   subst e1 s1f
   exact (k a).fr l1 t1 t2 false q l' hn w1 hf hr⟩
def acc (t:Str) (ht:t≠[]) (y n:PM α):PM α:=
 ⟨fun s=>if s.hd.text==t then y.run s.adv else n.run s,fun s h=>by
   split
   · exact y.st s.adv h
   · exact n.st s h,fun s h=>by
   split
   · rename_i e
     rw [beq_iff_eq] at e
     obtain ⟨h1,h2⟩:=Sx h (.inr (by rw [e];exact ht))
     obtain ⟨h3,h4⟩:=y.sf s.adv h1
     exact ⟨h3,h4.trans h2⟩
   · exact n.sf s h,fun s s' h hf=>by
   have e:s.hd.text=s'.hd.text:=(Vg h).2
   rw [e]
   split
   · exact y.pm s.adv s'.adv (Z9 h) hf
   · exact n.pm s s' h hf,fun l t1 t2 f p l' hn hw hf hr=>by
   cases l with
   |nil=>
    exfalso
    have hs:(if (PSt.mk ([]++t1) f p).hd.text==t then y.run (PSt.mk ([]++t1) f p).adv else n.run ⟨[]++t1,f,p⟩).2.r <:+[]++t1:=by
     split
     · rename_i e
       rw [beq_iff_eq] at e
       obtain ⟨h1,h2⟩:=Sx (s:=⟨[]++t1,f,p⟩) hw (.inr (by rw [e];exact ht))
       exact (y.sf _ h1).2.trans h2
     · exact (n.sf ⟨[]++t1,f,p⟩ hw).2
    exact jS hs hr hn rfl
   |cons x l0=>
    have h1:∀t,(PSt.mk (x::l0++t) f p).hd=x:=fun _=>rfl
    have h2:∀t,(PSt.mk (x::l0++t) f p).adv=⟨l0++t,f,p⟩:=fun _=>rfl
    simp only [h1,h2] at hf hr ⊢
    split
    · rename_i e
      rw [if_pos e] at hf hr
      rw [beq_iff_eq] at e
      exact y.fr l0 t1 t2 f p l' hn (hw.tail (.inr (by rw [e];exact ht))) hf hr
    · rename_i e
      rw [if_neg e] at hf hr
      exact n.fr (x::l0) t1 t2 f p l' hn hw hf hr⟩
def kind (k:Int) (y n:PM α):PM α:=
 ⟨fun s=>if s.hd.kind==k then y.run s else n.run s,fun s h=>by
   split
   · exact y.st s h
   · exact n.st s h,fun s h=>by
   split
   · exact y.sf s h
   · exact n.sf s h,fun s s' h hf=>by
   have e:s.hd.kind=s'.hd.kind:=(Vg h).1
   rw [e]
   split
   · exact y.pm s s' h hf
   · exact n.pm s s' h hf,fun l t1 t2 f p l' hn hw hf hr=>by
   cases l with
   |nil=>
    exfalso
    have hs:(if (PSt.mk ([]++t1) f p).hd.kind==k then y.run ⟨[]++t1,f,p⟩ else n.run ⟨[]++t1,f,p⟩).2.r <:+[]++t1:=by
     split
     · exact (y.sf ⟨[]++t1,f,p⟩ hw).2
     · exact (n.sf ⟨[]++t1,f,p⟩ hw).2
    exact jS hs hr hn rfl
   |cons x l0=>
    have h1:∀t,(PSt.mk (x::l0++t) f p).hd=x:=fun _=>rfl
    simp only [h1] at hf hr ⊢
    split
    · rename_i e
      rw [if_pos e] at hf hr
      exact y.fr (x::l0) t1 t2 f p l' hn hw hf hr
    · rename_i e
      rw [if_neg e] at hf hr
      exact n.fr (x::l0) t1 t2 f p l' hn hw hf hr⟩
def fail (a:α):PM α:=⟨fun s=>(a,s.fail),fun s h=>⟨rfl,by simp [PSt.fail,h]⟩,fun s h=>Vj h,fun s s' h hf=>⟨rfl,Z8 h,rfl⟩,fun l t1 t2 f p l' hn hw hf hr=>by cases hf⟩
def tok (c:Int→Str→Bool) (hc:∀k t,c k t=true→k≠6∨t≠[]) (g:Str→α) (b:α):PM α:=
 ⟨fun s=>if c s.hd.kind s.hd.text then (g s.hd.text,s.adv) else (b,s.fail),fun s hf=>by
   split
   · exact ⟨hf,rfl⟩
   · exact ⟨rfl,by simp [PSt.fail,hf]⟩,fun s hw=>by
   split
   · rename_i e;exact Sx hw (hc _ _ e)
   · exact Vj hw,fun s s' h hf=>by
   have e1:s.hd.kind=s'.hd.kind:=(Vg h).1
   have e2:s.hd.text=s'.hd.text:=(Vg h).2
   rw [e1,e2]
   split
   · exact ⟨rfl,Z9 h,hf⟩
   · exact ⟨rfl,Z8 h,rfl⟩,fun l t1 t2 f p l' hn hw hf hr=>by
   cases l with
   |nil=>
    exfalso
    have hs:(if c (PSt.mk ([]++t1) f p).hd.kind (PSt.mk ([]++t1) f p).hd.text then (g (PSt.mk ([]++t1) f p).hd.text,(PSt.mk ([]++t1) f p).adv) else (b,PSt.fail ⟨[]++t1,f,p⟩)).2.r <:+[]++t1:=by
     split
     · rename_i e;exact (Sx (s:=⟨[]++t1,f,p⟩) hw (hc _ _ e)).2
     · exact (Vj (s:=⟨[]++t1,f,p⟩) hw).2
    exact jS hs hr hn rfl
   |cons x l0=>
    have h1:∀t,(PSt.mk (x::l0++t) f p).hd=x:=fun _=>rfl
    have h2:∀t,(PSt.mk (x::l0++t) f p).adv=⟨l0++t,f,p⟩:=fun _=>rfl
    simp only [h1,h2] at hf hr ⊢
    split
    · rename_i e
      rw [if_pos e] at hf hr
      simp only at hf hr ⊢
      rw [List.append_cancel_right hr,hf]
    · rename_i e
      rw [if_neg e] at hf
      cases hf⟩
def exp (t:Str) (ht:t≠[]):PM Unit:=tok (fun _ u=>u==t) (fun _ u h=>.inr (by rw [beq_iff_eq] at h;rw [h];exact ht)) (fun _=>()) ()
def take (k:Int) (hk:k≠6):PM Str:=tok (fun q _=>q==k) (fun q _ h=>.inl (by rw [beq_iff_eq] at h;rw [h];exact hk)) id []
def map (g:α→β) (m:PM α):PM β:=m.bind fun a=>pure (g a)
end PM
theorem nG:∃n:Nat,20000≤n:=⟨20000,A9 _⟩
noncomputable def BK:Nat:=Classical.choose nG
theorem Fb:20000≤BK:=Classical.choose_spec nG
def E3 {α:Type} (read:PM α) (t:Str) (ht:t≠[]):Nat→List α→PM (List α)
 |0,l=>.pure l
 |n+1,l=>.acc t ht (read.bind fun x=>E3 read t ht n (l++[x])) (.pure l)
noncomputable def items {α:Type} (read:PM α) (t:Str) (ht:t≠[]):PM (List α):=read.bind fun x=>E3 read t ht BK [x]
noncomputable def listed {α:Type} (read:PM α):PM (List α):=(items read [44] (by decide)).bind fun l=>(PM.exp [41] (by decide)).bind fun _=>.pure l
noncomputable def closed {α:Type} (read:PM α):PM (List α):= .acc [41] (by decide) (.pure []) (listed read)
noncomputable def IZ {α:Type} (read:PM α):PM (List α):= .acc [40] (by decide) (listed read) (.pure [])
def Fj:PM Str:= .take 1 (by decide)
def FY:PM Str:= .take 2 (by decide)
def G8:PM Str:= .acc [95] (by decide) (.pure []) Fj
def RR (s:Str):Int:=(FI s 0).getD 0
def Je:PM Int:=(PM.take 3 (by decide)).map RR
@[reducible] def Fx (t:Str) (ht:t≠[]:=by decide):PM Unit:= .exp t ht
@[reducible] def EX {α:Type} (t:Str) (y n:PM α) (ht:t≠[]:=by decide):PM α:= .acc t ht y n
def S5 (k:Int) (T:PM TE):PM TE:=(Fx [40]).bind fun _=>T.bind fun t=>(Fx [41]).bind fun _=>.pure (.mk k [] [t])
noncomputable def Fy:Nat→PM TE
 |0=>.fail (.mk 0 [] [])
 |n+1=>
  .kind 1 (Fj.bind fun x=>.pure (.mk 4 x [])) <|
  .kind 2 (FY.bind fun x=>(IZ (Fy n)).bind fun l=>.pure (.mk 5 x l)) <|
  EX [105,110,116] (.pure (.mk 1 [] [])) <|
  EX [98,111,111,108] (.pure (.mk 2 [] [])) <|
  EX [117,110,105,116] (.pure (.mk 3 [] [])) <|
  EX [97,114,114,97,121] (S5 7 (Fy n)) <|
  EX [114,101,102] (S5 8 (Fy n)) <|
  EX [40] ((Fy n).bind fun a=>(Fx [44]).bind fun _=>(listed (Fy n)).bind fun l=>.pure (.mk 6 [] (a::l))) <|
  EX [102,110] ((Fx [40]).bind fun _=>(closed (Fy n)).bind fun l=>(Fx [45,62]).bind fun _=>(Fy n).bind fun t=>.pure (.mk 9 [] (l++[t]))) <|
  .fail (.mk 0 [] [])
def exN (o u:Int) (ks:List Ex):Ex:= .mk o [] u [] ks []
noncomputable def hX (E:PM Ex):PM Ex:=
 EX [40] (G8.bind fun a=>(Fx [44]).bind fun _=>(listed G8).bind fun l=>(Fx [61]).bind fun _=>E.bind fun x=>(Fx [105,110]).bind fun _=>E.bind fun y=>.pure (.mk 8 [] 0 (a::l) [x,y] []))
  (G8.bind fun a=>(Fx [61]).bind fun _=>E.bind fun x=>(Fx [105,110]).bind fun _=>E.bind fun y=>.pure (.mk 7 a 0 [] [x,y] []))
noncomputable def lH (E:PM Ex):PM Al:=FY.bind fun c=>(IZ G8).bind fun l=>(Fx [45,62]).bind fun _=>E.bind fun x=>.pure (.mk c l x)
def V5:Nat→Str
 |1=>[43]|2=>[45]|3=>[42]|4=>[47]|5=>[37]|6=>[60]|7=>[60,61]|_=>[61,61]
def O2 (E:PM Ex):PM (List Ex):=(Fx [40]).bind fun _=>E.bind fun x=>(Fx [41]).bind fun _=>.pure [x]
def S4 (E:PM Ex):PM (List Ex):=(Fx [40]).bind fun _=>E.bind fun x=>(Fx [44]).bind fun _=>E.bind fun y=>(Fx [41]).bind fun _=>.pure [x,y]
def eG (E:PM Ex):PM (List Ex):=(Fx [40]).bind fun _=>E.bind fun x=>(Fx [44]).bind fun _=>E.bind fun y=>(Fx [44]).bind fun _=>E.bind fun z=>(Fx [41]).bind fun _=>.pure [x,y,z]
noncomputable def eH (E:PM Ex):PM Ex:=
 EX [41] (.pure (exN 1 0 [])) (E.bind fun x=>EX [41] (.pure x) ((Fx [44]).bind fun _=>(listed E).bind fun l=>.pure (exN 5 0 (x::l))))
def cG:PM Ex:=(Fx [40]).bind fun _=>(EX [45] (Je.map fun n=>-n) Je).bind fun n=>(Fx [41]).bind fun _=>.pure (exN 15 n [])
noncomputable def Ih (E:PM Ex):PM Ex:=
 .kind 3 (Je.bind fun n=>.pure (exN 3 n [])) <|
 .kind 1 (Fj.bind fun x=>.pure (.mk 4 x 0 [] [] [])) <|
 .kind 2 (FY.bind fun x=>(IZ E).bind fun l=>.pure (.mk 6 x 0 [] l [])) <|
 EX [45] (Je.bind fun n=>.pure (exN 3 (-n) [])) <|
 EX [116,114,117,101] (.pure (exN 2 1 [])) <|
 EX [102,97,108,115,101] (.pure (exN 2 0 [])) <|
 EX [40] (eH E) <|
 EX [116,105,99,107] cG <|
 EX [114,97,105,115,101] ((O2 E).bind fun l=>.pure (exN 16 0 l)) <|
 EX [110,101,119] ((S4 E).bind fun l=>.pure (exN 14 1 l)) <|
 EX [103,101,116] ((S4 E).bind fun l=>.pure (exN 14 2 l)) <|
 EX [115,101,116] ((eG E).bind fun l=>.pure (exN 14 3 l)) <|
 EX [108,101,110] ((O2 E).bind fun l=>.pure (exN 14 4 l)) <|
 EX [114,101,102] ((O2 E).bind fun l=>.pure (exN 14 5 l)) <|
 EX [114,101,97,100] ((O2 E).bind fun l=>.pure (exN 14 6 l)) <|
 EX [119,114,105,116,101] ((S4 E).bind fun l=>.pure (exN 14 7 l)) <|
 .fail (exN 0 0 [])
noncomputable def UR (E:PM Ex):Nat→Ex→PM Ex
 |0,a=>.pure a
 |n+1,a=>EX [40] ((closed E).bind fun l=>UR E n (exN 12 0 (a::l))) (.pure a)
noncomputable def RS (E:PM Ex):PM Ex:=(Ih E).bind fun a=>UR E BK a
def Hh (op:Int) (a b:Ex):Ex:=exN 13 op [a,b]
noncomputable def KE (E:PM Ex):Nat→Ex→PM Ex
 |0,a=>.pure a
 |n+1,a=>
  EX [42] ((RS E).bind fun b=>KE E n (Hh 3 a b)) <|
  EX [47] ((RS E).bind fun b=>KE E n (Hh 4 a b)) <|
  EX [37] ((RS E).bind fun b=>KE E n (Hh 5 a b)) <|
  .pure a
noncomputable def MR (E:PM Ex):PM Ex:=(RS E).bind fun a=>KE E BK a
noncomputable def Td (E:PM Ex):Nat→Ex→PM Ex
 |0,a=>.pure a
 |n+1,a=>
  EX [43] ((MR E).bind fun b=>Td E n (Hh 1 a b)) <|
  EX [45] ((MR E).bind fun b=>Td E n (Hh 2 a b)) <|
  .pure a
noncomputable def LR (E:PM Ex):PM Ex:=(MR E).bind fun a=>Td E BK a
noncomputable def Wt (E:PM Ex):PM Ex:=(LR E).bind fun a=>
 EX [60] ((LR E).bind fun b=>.pure (Hh 6 a b)) <|
 EX [60,61] ((LR E).bind fun b=>.pure (Hh 7 a b)) <|
 EX [61,61] ((LR E).bind fun b=>.pure (Hh 8 a b)) <|
 .pure a
noncomputable def CD:Nat→PM Ex
 |0=>.fail (exN 0 0 [])
 |n+1=>
  EX [108,101,116] (hX (CD n)) <|
  EX [105,102] ((CD n).bind fun a=>(Fx [116,104,101,110]).bind fun _=>(CD n).bind fun b=>(Fx [101,108,115,101]).bind fun _=>(CD n).bind fun c=>.pure (exN 9 0 [a,b,c])) <|
  EX [109,97,116,99,104] ((CD n).bind fun a=>(Fx [119,105,116,104]).bind fun _=>(items (lH (CD n)) [124] (by decide)).bind fun l=>(Fx [101,110,100]).bind fun _=>.pure (.mk 10 [] 0 [] [a] l)) <|
  EX [102,110] ((Fx [40]).bind fun _=>(closed Fj).bind fun l=>(Fx [45,62]).bind fun _=>(CD n).bind fun a=>.pure (.mk 11 [] 0 l [a] [])) <|
  EX [116,114,121] ((CD n).bind fun a=>(Fx [99,97,116,99,104]).bind fun _=>G8.bind fun x=>(Fx [45,62]).bind fun _=>(CD n).bind fun b=>(Fx [101,110,100]).bind fun _=>.pure (.mk 17 x 0 [] [a,b] [])) <|
  Wt (CD n)
noncomputable def tyR:PM TE:=Fy BK
noncomputable def exR:PM Ex:=CD BK
noncomputable def hU:PM CE:=FY.bind fun c=>(IZ tyR).bind fun l=>.pure ⟨c,l⟩
noncomputable def UI:PM DE:=FY.bind fun d=>(IZ Fj).bind fun vs=>(Fx [61]).bind fun _=>(items hU [124] (by decide)).bind fun cs=>(Fx [59]).bind fun _=>.pure ⟨d,vs,cs⟩
noncomputable def aN:PM FE:=Fj.bind fun f=>(Fx [40]).bind fun _=>(closed Fj).bind fun ps=>(Fx [61]).bind fun _=>exR.bind fun b=>(Fx [59]).bind fun _=>.pure ⟨f,ps,b⟩
noncomputable def MS:Nat→List DE→List FE→PM Pg
 |0,ds,fs=>.pure ⟨ds,fs⟩
 |n+1,ds,fs=>
  .kind 6 (.pure ⟨ds,fs⟩) <|
  EX [100,97,116,97] (UI.bind fun d=>MS n (ds++[d]) fs) <|
  EX [102,117,110] (aN.bind fun f=>MS n ds (fs++[f])) <|
  (PM.fail ()).bind fun _=>MS n ds fs
noncomputable def NT:PM Pg:=MS BK [] []
end Go.Ab
namespace Go.Ab
structure RSt where
 r:List Tok
 b:Bool
def RSt.hd (s:RSt):Tok:=s.r.headD Uk
def RSt.adv (s:RSt):RSt:=⟨s.r.tail,s.b⟩
def RSt.is (s:RSt) (t:Str):Bool:=!s.b&&(s.hd.kind==4||s.hd.kind==5)&&s.hd.text==t
theorem yV {s:RSt} (h:WF s.r) (hk:s.hd.kind≠6∨s.hd.text≠[]):WF s.adv.r∧s.adv.r <:+s.r:=
 Sx (s:=⟨s.r,false,0⟩) h hk
theorem RSt.xG {s:RSt} {t:Str} (h:s.is t=true):s.b=false∧(s.hd.kind=4∨s.hd.kind=5)∧s.hd.text=t:=by
 simp only [RSt.is,AN,BV,beq_iff_eq,CS] at h
 exact ⟨h.1.1,h.1.2,h.2⟩
theorem RSt.ABE {s:RSt} (t:Str) (h:s.b=true):s.is t=false:=by simp [RSt.is,h]
structure RM (α:Type) where
 run:RSt→α×RSt
 st:∀s,s.b=true→(run s).2=s
 sf:∀s,WF s.r→WF (run s).2.r∧(run s).2.r <:+s.r
namespace RM
variable {α β:Type}
def pure (a:α):RM α:=⟨fun s=>(a,s),fun _ _=>rfl,fun _ h=>⟨h,List.suffix_refl _⟩⟩
def bind (m:RM α) (k:α→RM β):RM β:=
 ⟨fun s=>(k (m.run s).1).run (m.run s).2,fun s h=>by
   have h1:=m.st s h
   rw [(k (m.run s).1).st _ (by rw [h1];exact h),h1],fun s h=>by
   obtain ⟨h1,h2⟩:=m.sf s h
   obtain ⟨h3,h4⟩:=(k (m.run s).1).sf _ h1
   exact ⟨h3,h4.trans h2⟩⟩
def acc (t:Str) (y n:RM α):RM α:=
 ⟨fun s=>if s.is t then y.run s.adv else n.run s,fun s h=>by
   rw [if_neg (by rw [RSt.ABE t h];decide)];exact n.st s h,fun s h=>by
   split
   · rename_i e
     obtain ⟨_,hk,_⟩:=RSt.xG e
     obtain ⟨h1,h2⟩:=yV h (.inl (by omega))
     obtain ⟨h3,h4⟩:=y.sf s.adv h1
     exact ⟨h3,h4.trans h2⟩
   · exact n.sf s h⟩
def ite (c:RSt→Bool) (y n:RM α):RM α:=
 ⟨fun s=>if c s then y.run s else n.run s,fun s h=>by
   split
   · exact y.st s h
   · exact n.st s h,fun s h=>by
   split
   · exact y.sf s h
   · exact n.sf s h⟩
def kind (k:Int) (y n:RM α):RM α:=ite (fun s=>s.hd.kind==k) y n
def bad (a:α) (n:RM α):RM α:=ite (fun s=>s.b) (pure a) n
def fail (a:α):RM α:=⟨fun s=>(a,⟨s.r,true⟩),fun ⟨r,b⟩ h=>by simp only at h;rw [h],fun _ h=>⟨h,List.suffix_refl _⟩⟩
def map (g:α→β) (m:RM α):RM β:=m.bind fun a=>pure (g a)
end RM
end Go.Ab
namespace Go.Ab
def UL:List Str:=[[45,62],[60,61],[61,61],[40],[41],[44],[61],[124],[43],[45],[42],[47],[37],[60],[59],[95]]
def OL (s:Str):Bool:=S0 s||UL.contains s
def oK (t:Tok):Prop:=((t.kind=1∨t.kind=2∨t.kind=3)∧OL t.text=false)∨t.kind=4∨t.kind=5∨(t.kind=6∧t.text=[])
def Vk (r:List Tok):Prop:=r.length≤17000∧∀t∈r,oK t
theorem Vk.suf {a r:List Tok} (h:Vk r) (hs:a <:+r):Vk a:=⟨BD hs.length_le h.1,fun t ht=>h.2 t (hs.subset ht)⟩
theorem ADB {r:List Tok} (hw:WF r) (h:Vk r):oK (r.headD Uk):=by
 cases r with
 |nil=>exact hw.elim
 |cons t l=>exact h.2 t (Ah ..)
theorem nk {r:List Tok} (hw:WF r) (h:Vk r) {k:Int} (hk:k=1∨k=2∨k=3) (e:((r.headD Uk).kind==k)=true) {w:Str} (hw2:OL w=true):((r.headD Uk).text==w)=false:=by
 rw [beq_iff_eq] at e
 rcases ADB hw h with ⟨_,h2⟩|h2|h2|⟨h2,_⟩
 · rw [F1];intro hc;rw [beq_iff_eq] at hc;rw [hc,hw2] at h2;cases h2
 · omega
 · omega
 · omega
section
variable {α β:Type}
end
theorem uR {α:Type} {t:Str} {ht:t≠[]} {y n:PM α} {r:List Tok} {f:Bool} {p:Nat} (hc:((r.headD Uk).text==t)=true):(PM.acc t ht y n).run ⟨r,f,p⟩=y.run ⟨r.tail,f,p⟩:=if_pos hc
theorem S6 {α:Type} {t:Str} {ht:t≠[]} {y n:PM α} {r:List Tok} {f:Bool} {p:Nat} (hc:((r.headD Uk).text==t)=false):(PM.acc t ht y n).run ⟨r,f,p⟩=n.run ⟨r,f,p⟩:=if_neg (by rw [PSt.hd,hc];decide)
end Go.Ab
namespace Go.Ab
end Go.Ab
namespace Go.Ab
def GS (k:Int) (s:Str):Bool:=
 (BL s).2.2==0&&((BL s).1.length==2&&(match (BL s).1 with|[]=>false|a::_=>a.kind==k&&a.text==s))
def D5 (s:Str):Bool:=GS 1 s
def upperB (s:Str):Bool:=GS 2 s
def GZ (s:Str):Bool:=s==[]||D5 s
def Cv (k:Int) (n:Str) (len:Nat):Bool:=
 if k=1∨k=2∨k=3 then n==[]&&decide (len=0)
                                     else if k=4 then D5 n&&decide (len=0)
                                     else if k=5 then upperB n&&decide (len≤6)
                                     else if k=6 then n==[]&&decide (2≤len)&&decide (len≤6)
                                     else if k=7∨k=8 then n==[]&&decide (len=1)
                                     else if k=9 then n==[]&&decide (1≤len)&&decide (len≤7)
                                     else false
def Bo:Nat→TE→Bool
 |0,_=>false
 |d+1,.mk k n l=>Cv k n l.length&&l.all (Bo d)
def Ru (c:CE):Bool:=upperB c.name&&decide (c.args.length≤6)&&c.args.all (Bo 40)
def Gq (d:DE):Bool:=upperB d.name&&decide (d.vars.length≤6)&&d.vars.all D5&&decide (1≤d.cons.length)&&decide (d.cons.length≤8)&&d.cons.all Ru
def MY:Al→Bool
 | .mk c vs _=>upperB c&&decide (vs.length≤6)&&vs.all GZ
def nmB (o:Int) (n:Str):Bool:=
 if o=4 then D5 n else if o=6 then upperB n else if o=7∨o=17 then GZ n else n==[]
def nuB (o:Int) (u:Int):Bool:=
 if o=2 then decide (0≤u)&&decide (u≤1) else if o=3 then decide (-1000000≤u)&&decide (u≤1000000) else if o=13 then decide (1≤u)&&decide (u≤8)
                                                                                                                                          else if o=14 then decide (1≤u)&&decide (u≤7) else if o=15 then decide (-1000≤u)&&decide (u≤1000) else u==0
def nsB (o:Int) (ns:List Str):Bool:=
 if o=8 then decide (2≤ns.length)&&decide (ns.length≤6)&&ns.all GZ else if o=11 then decide (ns.length≤6)&&ns.all D5 else decide (ns.length=0)
def asB (o:Int) (al:List Al):Bool:=
 if o=10 then decide (1≤al.length)&&al.all MY else decide (al.length=0)
def He (u:Int):Nat:=if u=1∨u=2∨u=7 then 2 else if u=3 then 3 else if u=4∨u=5∨u=6 then 1 else 0
def nkB (o u:Int) (nk:Nat):Bool:=
 if o=1∨o=2∨o=3∨o=4∨o=15 then decide (nk=0)
                                       else if o=5 then decide (2≤nk)&&decide (nk≤6)
                                       else if o=6 then decide (nk≤6)
                                       else if o=7∨o=8∨o=13∨o=17 then decide (nk=2)
                                       else if o=9 then decide (nk=3)
                                       else if o=10∨o=11∨o=16 then decide (nk=1)
                                       else if o=12 then decide (1≤nk)&&decide (nk≤7)
                                       else if o=14 then decide (nk=He u)
                                       else false
def Fi (o:Int) (n:Str) (u:Int) (ns:List Str) (nk:Nat) (al:List Al):Bool:=
 nmB o n&&nuB o u&&nsB o ns&&asB o al&&nkB o u nk
def vEx:Nat→Nat→Ex→Option Nat
 |0,_,_=>none
 |d+1,q,.mk o n u ns ks al=>
  match q with
  |0=>none
  |q+1=>if Fi o n u ns ks.length al then (ks.foldlM (fun q e=>vEx d q e) q).bind fun q=>al.foldlM (fun q a=>match a with| .mk _ _ b=>vEx d q b) q else none
def NH (f:FE):Bool:=D5 f.name&&decide (f.params.length≤6)&&f.params.all D5
def Pd (q:Nat) (f:FE):Option Nat:=if NH f then vEx 40 q f.body else none
def C0 (p:Pg):Bool:=decide (p.data.length≤12)&&decide (p.Rx.length≤24)&&p.data.all Gq&&(p.Rx.foldlM Pd 600).isSome
end Go.Ab
namespace Go.Ab
theorem TQ {w:Str} (h:OL w=true):∃b l,w=b::l∧K9 b.toNat=false∧Em b.toNat=false∧(M9 b.toNat=true→S0 w=true):=by
 have h0:∀w∈FP++UL,∃b l,w=b::l∧K9 b.toNat=false∧Em b.toNat=false:=by
  have:(FP++UL).all (fun w=>match w with|[]=>false|b::_=>!K9 b.toNat&& !Em b.toNat)=true:=by decide
  intro w hw
  have:=A7.1 this w hw
  match w,this with
  |b::l,this=>
   simp only [AN,CS] at this
   exact ⟨b,l,rfl,this.1,this.2⟩
 have h1:∀w∈UL,∀b l,w=b::l→M9 b.toNat=false:=by
  have:UL.all (fun w=>match w with|[]=>false|b::_=>!M9 b.toNat)=true:=by decide
  intro w hw b l e
  have:=A7.1 this w hw
  subst e
  simpa using this
 simp only [OL,BV] at h
 have hm:w∈FP++UL:=by
  rw [BW]
  rcases h with h|h
  · left
    simp only [S0,List.any_eq_true,beq_iff_eq] at h
    obtain ⟨x,hx,rfl⟩:=h
    exact hx
  · right;simpa [Dx] using h
 obtain ⟨b,l,e,h2,h3⟩:=h0 w hm
 refine ⟨b,l,e,h2,h3,fun hl=>?_⟩
 rcases h with h|h
 · exact h
 · have:=h1 w (by simpa [Dx] using h) b l e
   rw [hl] at this;cases this
def inner (t:Tok):Prop:=oK t∧t.kind≠6∧t.text≠[]
theorem ZW {s:Str} {k:Int} {t:Str} (i:Nat) (h:Da s= .ok (k,t)):inner ⟨k,t,i⟩:=by
 have hl:=(P5 h).1
 have hne:t≠[]:=by rintro rfl;simp at hl
 match s,h with
 |b::r,h=>
  have hhd:∀p:UInt8→Bool,∀u,(b::r).takeWhile p=u→u≠[]→∃l,u=b::l:=fun p u hu hn=>by
   rw [F5] at hu
   split at hu
   · exact ⟨_,hu.symm⟩
   · exact absurd hu.symm hn
  simp only [Da] at h
  split at h
  · rename_i hlu
    split at h
    · cases h
    · split at h
      · rename_i hup
        simp only [Gw,B7] at h
        obtain ⟨rfl,hq⟩:=h
        obtain ⟨l,rfl⟩:=hhd _ _ hq hne
        refine ⟨.inl ⟨.inr (.inl rfl),?_⟩,fun h6=>absurd h6 (by simp),hne⟩
        rw [F1]
        intro hw
        obtain ⟨c,l',e,h1,_⟩:=TQ hw
        simp only at e
        cases e
        rw [hup] at h1;cases h1
      · split at h
        · simp only [Gw,B7] at h
          obtain ⟨rfl,hq⟩:=h
          exact ⟨.inr (.inl rfl),fun h6=>absurd h6 (by simp),hne⟩
        · rename_i hup hk
          simp only [Gw,B7] at h
          obtain ⟨rfl,hq⟩:=h
          rw [hq] at hk
          obtain ⟨l,rfl⟩:=hhd _ _ hq hne
          refine ⟨.inl ⟨.inl rfl,?_⟩,fun h6=>absurd h6 (by simp),hne⟩
          rw [F1]
          intro hw
          obtain ⟨c,l',e,_,_,h2⟩:=TQ hw
          simp only at e h2
          cases e
          rw [Qw] at hup
          rw [hup,Mm] at hlu
          exact hk (h2 hlu)
  · split at h
    · rename_i hd
      split at h
      · cases h
      · split at h
        · simp only [Gw,B7] at h
          obtain ⟨rfl,hq⟩:=h
          obtain ⟨l,rfl⟩:=hhd _ _ hq hne
          refine ⟨.inl ⟨.inr (.inr rfl),?_⟩,fun h6=>absurd h6 (by simp),hne⟩
          rw [F1]
          intro hw
          obtain ⟨c,l',e,_,h1,_⟩:=TQ hw
          simp only at e
          cases e
          rw [hd] at h1;cases h1
        · cases h
    · split at h
      · cases h
      · simp only [Gw,B7] at h
        obtain ⟨rfl,hq⟩:=h
        exact ⟨.inr (.inr (.inl rfl)),fun h6=>absurd h6 (by simp),hne⟩
theorem Vf:∀(n:Nat) (rest:Str) (i:Nat) (acc:List Tok),(∀t∈acc,inner t)→(D6 n rest i acc).2.2=0→rest.length < n→∃l e,(D6 n rest i acc).1=l++[⟨6,[],e⟩]∧(∀t∈l,inner t)∧l.length≤acc.length+rest.length
 |0,rest,i,acc,_,_,hn=>by omega
 |n+1,[],i,acc,ha,_,_=>⟨acc,i,rfl,ha,Nat.le_add_right _ _⟩
 |n+1,b::r,i,acc,ha,h,hn=>by
  simp only [AB] at hn
  rw [D6] at h ⊢
  split at h
  · rename_i hb
    rw [if_pos hb]
    obtain ⟨l,e,h1,h2,h3⟩:=Vf n r (i+1) acc ha h (by omega)
    exact ⟨l,e,h1,h2,by simp only [AB];omega⟩
  · rename_i hb
    rw [if_neg hb]
    split at h
    · rename_i hc
      rw [if_pos hc]
      rw [beq_iff_eq] at hc
      subst hc
      have:1≤cmt (35::r):=by simp [cmt]
      obtain ⟨l,e,h1,h2,h3⟩:=Vf n _ _ acc ha h (by rw [An];simp only [AB];omega)
      exact ⟨l,e,h1,h2,by rw [An] at h3;simp only [AB] at h3 ⊢;omega⟩
    · rename_i hc
      rw [if_neg hc]
      cases hs:Da (b::r) with
      |error e=>
       rw [hs] at h
       simp only at h
       rcases P4 hs with rfl|rfl<;>cases h
      |ok x=>
       obtain ⟨k,t⟩:=x
       rw [hs] at h
       simp only at h ⊢
       have hl:=P5 hs
       obtain ⟨l,e,h1,h2,h3⟩:=Vf n _ _ _ (fun u hu=>by
        rcases BW.1 hu with hu|hu
        · exact ha u hu
        · simp at hu;subst hu;exact ZW i hs) h (by rw [An];simp only [AB] at hl ⊢;omega)
       exact ⟨l,e,h1,h2,by rw [AA,An] at h3;simp only [AB,AE] at h3 hl ⊢;omega⟩
theorem wE:∀ {l:List Tok} {e:Nat},(∀t∈l,inner t)→WF (l++[⟨6,[],e⟩])∧∀t∈l++[⟨6,[],e⟩],oK t
 |[],e,_=>⟨⟨rfl,rfl⟩,fun t ht=>(by simp at ht;subst ht;exact .inr (.inr (.inr ⟨rfl,rfl⟩)))⟩
 |t::l,e,h=>by
  obtain ⟨h1,h2⟩:=wE (l:=l) (e:=e) (fun u hu=>h u (Am _ hu))
  have ht:=h t (Ah ..)
  refine ⟨?_,fun u hu=>?_⟩
  · rw [A0]
    cases hl:l++[(⟨6,[],e⟩:Tok)] with
    |nil=>simp at hl
    |cons u m=>rw [hl] at h1;exact ⟨ht.2,h1⟩
  · rw [A0] at hu
    rcases CT.1 hu with rfl|hu
    · exact ht.1
    · exact h2 u hu
theorem iY {s:Str} (h:(BL s).2.2=0):WF (BL s).1∧Vk (BL s).1:=by
 unfold BL at h ⊢
 split at h
 · cases h
 · rename_i hl
   rw [if_neg hl]
   obtain ⟨l,e,h1,h2,h3⟩:=Vf (s.length+1) s 0 [] (fun t ht=>by cases ht) h (by omega)
   rw [h1]
   obtain ⟨w1,w2⟩:=wE (l:=l) (e:=e) h2
   refine ⟨w1,?_,w2⟩
   rw [AA];simp only [AE,AB] at h3 ⊢;omega
noncomputable def KY (s:Str):Pg×Nat×Int:=
 if (BL s).2.2≠0 then (⟨[],[]⟩,(BL s).2.1,(BL s).2.2)
                                            else if (NT.run ⟨(BL s).1,false,0⟩).2.f then (⟨[],[]⟩,(NT.run ⟨(BL s).1,false,0⟩).2.p,2)
                                            else if C0 (NT.run ⟨(BL s).1,false,0⟩).1 then ((NT.run ⟨(BL s).1,false,0⟩).1,0,0) else (⟨[],[]⟩,0,9)
end Go.Ab
