/- The parser of the reference in plain data: its steps, and that it does what the program's parser does. Both parsers do the same, in plain data. Conditions: none. -/
import Derived.Test.YtifplkldbbcldaaGreatDoorXTn
set_option linter.unusedSimpArgs false
set_option linter.unusedVariables false
set_option maxRecDepth 4000
set_option maxHeartbeats 8000000
open Bool renaming and_eq_true→AR,or_eq_true→CR,not_eq_true'→CZ,true_and→Bg,and_false→G6,eq_false_iff→Jz
open List renaming suffix_refl→Lx,mem_cons_self→BB,length_append→AA,length_cons→AG,length_nil→AI
open Nat renaming le_trans→Ay,le_refl→A4
namespace Go.Ab
structure RSt where
 r:List Tok
 b:Bool
def RSt.hd (s:RSt):Tok:=s.r.headD C6
def RSt.adv (s:RSt):RSt:=⟨s.r.tail,s.b⟩
def RSt.is (s:RSt) (t:Str):Bool:=!s.b&&(s.hd.kind==4||s.hd.kind==5)&&s.hd.text==t
theorem Yu {s:RSt} (h:WF s.r) (hk:s.hd.kind≠6∨s.hd.text≠[]):WF s.adv.r∧s.adv.r <:+s.r:=
 MP (s:=⟨s.r,false,0⟩) h hk
theorem RSt.Vr {s:RSt} {t:Str} (h:s.is t=true):s.b=false∧(s.hd.kind=4∨s.hd.kind=5)∧s.hd.text=t:=by
 simp only [RSt.is,AR,CR,beq_iff_eq,CZ] at h
 exact ⟨h.1.1,h.1.2,h.2⟩
theorem RSt.mG {s:RSt} (t:Str) (h:s.b=true):s.is t=false:=by simp [RSt.is,h]
structure RM (α:Type) where
 run:RSt→α×RSt
 st:∀s,s.b=true→(run s).2=s
 sf:∀s,WF s.r→WF (run s).2.r∧(run s).2.r <:+s.r
namespace RM
variable {α β:Type}
def pure (a:α):RM α:=⟨fun s=>(a,s),fun _ _=>rfl,fun _ h=>⟨h,Lx _⟩⟩
def bind (m:RM α) (k:α→RM β):RM β:=
 ⟨fun s=>(k (m.run s).1).run (m.run s).2,fun s h=>by
   have h1:=m.st s h
   rw [(k (m.run s).1).st _ (by rw [h1];exact h),h1],fun s h=>by
   obtain ⟨h1,h2⟩:=m.sf s h
   obtain ⟨h3,h4⟩:=(k (m.run s).1).sf _ h1
   exact ⟨h3,h4.trans h2⟩⟩
def acc (t:Str) (y n:RM α):RM α:=
 ⟨fun s=>if s.is t then y.run s.adv else n.run s,fun s h=>by
   rw [if_neg (by rw [RSt.mG t h];decide)];exact n.st s h,fun s h=>by
   split
   · rename_i e
     obtain ⟨_,hk,_⟩:=RSt.Vr e
     obtain ⟨h1,h2⟩:=Yu h (.inl (by omega))
     obtain ⟨h3,h4⟩:=y.sf s.adv h1
     exact ⟨h3,h4.trans h2⟩
   · exact n.sf s h⟩
def ite (c:RSt→Bool) (y n:RM α):RM α:=
 ⟨fun s=>if c s then y.run s else n.run s,fun s h=>by
   split
   · exact y.st s h
   · exact n.st s h,fun s h=>by
   split
   · exact y.sf s h
   · exact n.sf s h⟩
def kind (k:Int) (y n:RM α):RM α:=ite (fun s=>s.hd.kind==k) y n
def bad (a:α) (n:RM α):RM α:=ite (fun s=>s.b) (pure a) n
def fail (a:α):RM α:=⟨fun s=>(a,⟨s.r,true⟩),fun ⟨r,b⟩ h=>by simp only at h;rw [h],fun _ h=>⟨h,Lx _⟩⟩
def A9 (t:Str):RM Unit:=acc t (pure ()) (fail ())
def word (k:Int) (hk:k≠6):RM Str:=
 ⟨fun s=>if !s.b&&s.hd.kind==k then (s.hd.text,s.adv) else ([],⟨s.r,true⟩),fun s h=>by
   obtain ⟨r,b⟩:=s
   simp only at h
   simp [h],fun s h=>by
   split
   · rename_i e
     simp only [AR,beq_iff_eq] at e
     exact Yu h (.inl (by rw [e.2];exact hk))
   · exact ⟨h,Lx _⟩⟩
def map (g:α→β) (m:RM α):RM β:=m.bind fun a=>pure (g a)
end RM
def B5 {α:Type} (read:RM α) (t:Str):Nat→List α→RM (List α)
 |0,l=>.pure l
 |n+1,l=>.acc t (read.bind fun x=>B5 read t n (l++[x])) (.pure l)
noncomputable def BX {α:Type} (read:RM α) (t:Str):RM (List α):=read.bind fun x=>B5 read t Af [x]
noncomputable def OS {α:Type} (read:RM α):RM (List α):=(BX read [44]).bind fun l=>(RM.A9 [41]).bind fun _=>.pure l
noncomputable def YF {α:Type} (read:RM α):RM (List α):= .acc [40] (OS read) (.pure [])
noncomputable def Mp {α:Type} (read:RM α):RM (List α):= .acc [41] (.pure []) (OS read)
def D9:RM Str:= .word 1 (by decide)
def Fv:RM Str:= .word 2 (by decide)
def De:RM Str:= .acc [95] (.pure []) D9
def Ju:RM Int:=(RM.word 3 (by decide)).map Rt
noncomputable def Oc:RM (List Str):=(RM.A9 [40]).bind fun _=>Mp D9
def jU (k:Int) (T:RM TE):RM TE:=(RM.A9 [40]).bind fun _=>T.bind fun t=>(RM.A9 [41]).bind fun _=>.pure (.mk k [] [t])
noncomputable def FR:Nat→RM TE
 |0=>.fail (.mk 0 [] [])
 |n+1=>
  .bad (.mk 0 [] []) <|
  .acc [105,110,116] (.pure (.mk 1 [] [])) <|
  .acc [98,111,111,108] (.pure (.mk 2 [] [])) <|
  .acc [117,110,105,116] (.pure (.mk 3 [] [])) <|
  .kind 1 (D9.bind fun x=>.pure (.mk 4 x [])) <|
  .kind 2 (Fv.bind fun x=>(YF (FR n)).bind fun l=>.pure (.mk 5 x l)) <|
  .acc [97,114,114,97,121] (jU 7 (FR n)) <|
  .acc [114,101,102] (jU 8 (FR n)) <|
  .acc [102,110] ((RM.A9 [40]).bind fun _=>(Mp (FR n)).bind fun l=>(RM.A9 [45,62]).bind fun _=>(FR n).bind fun t=>.pure (.mk 9 [] (l++[t]))) <|
  (RM.A9 [40]).bind fun _=>(FR n).bind fun a=>(RM.A9 [44]).bind fun _=>(OS (FR n)).bind fun l=>.pure (.mk 6 [] (a::l))
noncomputable def AAJ (E:RM Ex):RM Ex:=
 .acc [40] (De.bind fun a=>(RM.A9 [44]).bind fun _=>(OS De).bind fun l=>(RM.A9 [61]).bind fun _=>E.bind fun x=>(RM.A9 [105,110]).bind fun _=>E.bind fun y=>.pure (.mk 8 [] 0 (a::l) [x,y] []))
  (De.bind fun a=>(RM.A9 [61]).bind fun _=>E.bind fun x=>(RM.A9 [105,110]).bind fun _=>E.bind fun y=>.pure (.mk 7 a 0 [] [x,y] []))
noncomputable def XI (E:RM Ex):RM Al:=Fv.bind fun c=>(YF De).bind fun l=>(RM.A9 [45,62]).bind fun _=>E.bind fun x=>.pure (.mk c l x)
def Ob (E:RM Ex):RM (List Ex):=(RM.A9 [40]).bind fun _=>E.bind fun x=>(RM.A9 [41]).bind fun _=>.pure [x]
def TG (E:RM Ex):RM (List Ex):=(RM.A9 [40]).bind fun _=>E.bind fun x=>(RM.A9 [44]).bind fun _=>E.bind fun y=>(RM.A9 [41]).bind fun _=>.pure [x,y]
def gO (E:RM Ex):RM (List Ex):=(RM.A9 [40]).bind fun _=>E.bind fun x=>(RM.A9 [44]).bind fun _=>E.bind fun y=>(RM.A9 [44]).bind fun _=>E.bind fun z=>(RM.A9 [41]).bind fun _=>.pure [x,y,z]
def Xb:List Ex→Ex
 |[x]=>x
 |l=>exN 5 0 l
noncomputable def AAK (E:RM Ex):RM Ex:= .acc [41] (.pure (exN 1 0 [])) ((OS E).map Xb)
def pP:RM Ex:=(RM.A9 [40]).bind fun _=>(RM.acc [45] (Ju.map fun n=>-n) Ju).bind fun n=>(RM.A9 [41]).bind fun _=>.pure (exN 15 n [])
noncomputable def YD (E:RM Ex):RM Ex:=
 .bad (exN 0 0 []) <|
 .kind 3 (Ju.bind fun n=>.pure (exN 3 n [])) <|
 .acc [45] (Ju.bind fun n=>.pure (exN 3 (-n) [])) <|
 .acc [116,114,117,101] (.pure (exN 2 1 [])) <|
 .acc [102,97,108,115,101] (.pure (exN 2 0 [])) <|
 .acc [40] (AAK E) <|
 .kind 1 (D9.bind fun x=>.pure (.mk 4 x 0 [] [] [])) <|
 .kind 2 (Fv.bind fun x=>(YF E).bind fun l=>.pure (.mk 6 x 0 [] l [])) <|
 .acc [116,105,99,107] pP <|
 .acc [114,97,105,115,101] ((Ob E).bind fun l=>.pure (exN 16 0 l)) <|
 .acc [110,101,119] ((TG E).bind fun l=>.pure (exN 14 1 l)) <|
 .acc [103,101,116] ((TG E).bind fun l=>.pure (exN 14 2 l)) <|
 .acc [115,101,116] ((gO E).bind fun l=>.pure (exN 14 3 l)) <|
 .acc [108,101,110] ((Ob E).bind fun l=>.pure (exN 14 4 l)) <|
 .acc [114,101,102] ((Ob E).bind fun l=>.pure (exN 14 5 l)) <|
 .acc [114,101,97,100] ((Ob E).bind fun l=>.pure (exN 14 6 l)) <|
 .acc [119,114,105,116,101] ((TG E).bind fun l=>.pure (exN 14 7 l)) <|
 .fail (exN 0 0 [])
noncomputable def WH (E:RM Ex):Nat→Ex→RM Ex
 |0,a=>.pure a
 |n+1,a=>.acc [40] ((Mp E).bind fun l=>WH E n (exN 12 0 (a::l))) (.pure a)
noncomputable def Q6 (E:RM Ex):RM Ex:=(YD E).bind fun a=>WH E Af a
noncomputable def Q9 (E:RM Ex):Nat→Ex→RM Ex
 |0,a=>.pure a
 |n+1,a=>
  .acc [42] ((Q6 E).bind fun b=>Q9 E n (E1 3 a b)) <|
  .acc [47] ((Q6 E).bind fun b=>Q9 E n (E1 4 a b)) <|
  .acc [37] ((Q6 E).bind fun b=>Q9 E n (E1 5 a b)) <|
  .pure a
noncomputable def N6 (E:RM Ex):RM Ex:=(Q6 E).bind fun a=>Q9 E Af a
noncomputable def YG (E:RM Ex):Nat→Ex→RM Ex
 |0,a=>.pure a
 |n+1,a=>
  .acc [43] ((N6 E).bind fun b=>YG E n (E1 1 a b)) <|
  .acc [45] ((N6 E).bind fun b=>YG E n (E1 2 a b)) <|
  .pure a
noncomputable def Q7 (E:RM Ex):RM Ex:=(N6 E).bind fun a=>YG E Af a
noncomputable def pO (E:RM Ex):RM Ex:=(Q7 E).bind fun a=>
 .acc [60] ((Q7 E).bind fun b=>.pure (E1 6 a b)) <|
 .acc [60,61] ((Q7 E).bind fun b=>.pure (E1 7 a b)) <|
 .acc [61,61] ((Q7 E).bind fun b=>.pure (E1 8 a b)) <|
 .pure a
noncomputable def IS:Nat→RM Ex
 |0=>.fail (exN 0 0 [])
 |n+1=>
  .bad (exN 0 0 []) <|
  .acc [108,101,116] (AAJ (IS n)) <|
  .acc [105,102] ((IS n).bind fun a=>(RM.A9 [116,104,101,110]).bind fun _=>(IS n).bind fun b=>(RM.A9 [101,108,115,101]).bind fun _=>(IS n).bind fun c=>.pure (exN 9 0 [a,b,c])) <|
  .acc [109,97,116,99,104] ((IS n).bind fun a=>(RM.A9 [119,105,116,104]).bind fun _=>(BX (XI (IS n)) [124]).bind fun l=>(RM.A9 [101,110,100]).bind fun _=>.pure (.mk 10 [] 0 [] [a] l)) <|
  .acc [102,110] (Oc.bind fun l=>(RM.A9 [45,62]).bind fun _=>(IS n).bind fun a=>.pure (.mk 11 [] 0 l [a] [])) <|
  .acc [116,114,121] ((IS n).bind fun a=>(RM.A9 [99,97,116,99,104]).bind fun _=>De.bind fun x=>(RM.A9 [45,62]).bind fun _=>(IS n).bind fun b=>(RM.A9 [101,110,100]).bind fun _=>.pure (.mk 17 x 0 [] [a,b] [])) <|
  pO (IS n)
noncomputable def ADO:RM TE:=FR Af
noncomputable def AAN:RM Ex:=IS Af
noncomputable def VK:RM CE:=Fv.bind fun c=>(YF ADO).bind fun l=>.pure ⟨c,l⟩
noncomputable def aK:RM DE:=Fv.bind fun d=>(YF D9).bind fun vs=>(RM.A9 [61]).bind fun _=>(BX VK [124]).bind fun cs=>(RM.A9 [59]).bind fun _=>.pure ⟨d,vs,cs⟩
noncomputable def sQ:RM FE:=D9.bind fun f=>Oc.bind fun ps=>(RM.A9 [61]).bind fun _=>AAN.bind fun b=>(RM.A9 [59]).bind fun _=>.pure ⟨f,ps,b⟩
noncomputable def N8:Nat→List DE→List FE→RM Pg
 |0,ds,fs=>.pure ⟨ds,fs⟩
 |n+1,ds,fs=>
  .bad ⟨ds,fs⟩ <|
  .kind 6 (.pure ⟨ds,fs⟩) <|
  .acc [100,97,116,97] (aK.bind fun d=>N8 n (ds++[d]) fs) <|
  (RM.A9 [102,117,110]).bind fun _=>sQ.bind fun f=>N8 n ds (fs++[f])
noncomputable def H8:RM Pg:=N8 Af [] []
end Go.Ab
namespace Go.Ab
def eV:List Str:=[[45,62],[60,61],[61,61],[40],[41],[44],[61],[124],[43],[45],[42],[47],[37],[60],[59],[95]]
def Gi (s:Str):Bool:=dD s||eV.contains s
def p9 (t:Tok):Prop:=((t.kind=1∨t.kind=2∨t.kind=3)∧Gi t.text=false)∨t.kind=4∨t.kind=5∨(t.kind=6∧t.text=[])
def Fg (r:List Tok):Prop:=r.length≤17000∧∀t∈r,p9 t
theorem Fg.suf {a r:List Tok} (h:Fg r) (hs:a <:+r):Fg a:=⟨Ay hs.length_le h.1,fun t ht=>h.2 t (hs.subset ht)⟩
def PR (s:PSt) (t:RSt):Prop:=(s.f=false∧t.b=false∧s.r=t.r)∨(s.f=true∧t.b=true∧s.p=t.hd.pos)
def Fe {α:Type} (m:PM α) (m':RM α) (r:List Tok) (p:Nat):Prop:=
 PR (m.run ⟨r,false,p⟩).2 (m'.run ⟨r,false⟩).2∧((m.run ⟨r,false,p⟩).2.f=false→(m.run ⟨r,false,p⟩).1=(m'.run ⟨r,false⟩).1)
def Sim {α:Type} (m:PM α) (m':RM α):Prop:=∀r p,WF r→Fg r→Fe m m' r p
theorem ABV {r:List Tok} (hw:WF r) (h:Fg r):p9 (r.headD C6):=by
 cases r with
 |nil=>exact hw.elim
 |cons t l=>exact h.2 t (BB ..)
theorem Xo {r:List Tok} (hw:WF r) (h:Fg r) {w:Str} (k:Gi w=true):(RSt.mk r false).is w=((r.headD C6).text==w):=by
 have ho:=ABV hw h
 unfold RSt.is RSt.hd
 simp only [Bool.not_false,Bg]
 cases hc:((r.headD C6).text==w) with
 |false=>rw [G6]
 |true=>
  rw [beq_iff_eq] at hc
  rcases ho with ⟨_,h2⟩|h2|h2|⟨_,h2⟩
  · rw [hc,k] at h2;cases h2
  · rw [h2];rfl
  · rw [h2];rfl
  · rw [hc] at h2;subst h2;exact absurd k (by decide)
theorem nk {r:List Tok} (hw:WF r) (h:Fg r) {k:Int} (hk:k=1∨k=2∨k=3) (e:((r.headD C6).kind==k)=true) {w:Str} (hw2:Gi w=true):((r.headD C6).text==w)=false:=by
 rw [beq_iff_eq] at e
 rcases ABV hw h with ⟨_,h2⟩|h2|h2|⟨h2,_⟩
 · rw [Jz];intro hc;rw [beq_iff_eq] at hc;rw [hc,hw2] at h2;cases h2
 · omega
 · omega
 · omega
section
variable {α β:Type}
theorem Ao (a:α):Sim (.pure a) (.pure a):=fun _ _ _ _=>⟨.inl ⟨rfl,rfl,rfl⟩,fun _=>rfl⟩
theorem eX {m:PM α} {m':RM α} {k:α→PM β} {k':α→RM β} {r:List Tok} {p:Nat} (hw:WF r) (ho:Fg r) (h:Fe m m' r p) (hk:∀r1 p1,WF r1→Fg r1→r1 <:+r→Fe (k (m.run ⟨r,false,p⟩).1) (k' (m.run ⟨r,false,p⟩).1) r1 p1):Fe (m.bind k) (m'.bind k') r p:=by
 obtain ⟨h1,h2⟩:=h
 obtain ⟨w1,w2⟩:=m.sf ⟨r,false,p⟩ hw
 show PR ((k (m.run ⟨r,false,p⟩).1).run (m.run ⟨r,false,p⟩).2).2 ((k' (m'.run ⟨r,false⟩).1).run (m'.run ⟨r,false⟩).2).2∧(((k (m.run ⟨r,false,p⟩).1).run (m.run ⟨r,false,p⟩).2).2.f=false→((k (m.run ⟨r,false,p⟩).1).run (m.run ⟨r,false,p⟩).2).1=((k' (m'.run ⟨r,false⟩).1).run (m'.run ⟨r,false⟩).2).1)
 generalize m.run ⟨r,false,p⟩=x at *
 generalize m'.run ⟨r,false⟩=y at *
 obtain ⟨a,s⟩:=x
 obtain ⟨b,t⟩:=y
 simp only at *
 rcases h1 with ⟨f1,f2,f3⟩|⟨f1,f2,f3⟩
 · obtain ⟨r1,f,q⟩:=s
   obtain ⟨r2,g⟩:=t
   simp only at f1 f2 f3 w1 w2
   subst f1 f2 f3
   rw [← h2 rfl]
   exact hk r1 q w1 (ho.suf w2) w2
 · obtain ⟨e1,e2⟩:=(k a).st s f1
   have e3:=(k' b).st t f2
   refine ⟨.inr ⟨e1,by rw [e3];exact f2,by rw [e2,e3];exact f3⟩,fun hf=>?_⟩
   rw [e1] at hf;cases hf
theorem X2 {m:PM α} {m':RM α} {k:α→PM β} {k':α→RM β} {r:List Tok} {p:Nat} (hw:WF r) (ho:Fg r) (h:Fe m m' r p) (hk:∀a r1 p1,WF r1→Fg r1→r1 <:+r→Fe (k a) (k' a) r1 p1):Fe (m.bind k) (m'.bind k') r p:=
 eX hw ho h fun r1 p1=>hk _ r1 p1
theorem A1 {m:PM α} {m':RM α} {k:α→PM β} {k':α→RM β} (h:Sim m m') (hk:∀a,Sim (k a) (k' a)):Sim (m.bind k) (m'.bind k'):=
 fun r p hw ho=>X2 hw ho (h r p hw ho) fun a r1 p1 w o _=>hk a r1 p1 w o
theorem pV {m:PM α} {m':RM α} (g:α→β) (h:Sim m m'):Sim (m.map g) (m'.map g):=A1 h fun _=>Ao _
theorem Dd {t:Str} {ht:t≠[]} {y n:PM α} {y' n':RM α} (hy:Sim y y') (hn:Sim n n') (hw:Gi t=true:=by decide):Sim (.acc t ht y n) (.acc t y' n'):=fun r p h ho=>by
 have e:=Xo h ho hw
 show PR (if (r.headD C6).text==t then y.run ⟨r.tail,false,p⟩ else n.run ⟨r,false,p⟩).2 (if (RSt.mk r false).is t then y'.run ⟨r.tail,false⟩ else n'.run ⟨r,false⟩).2∧_
 unfold Fe at *
 show PR (if (r.headD C6).text==t then y.run ⟨r.tail,false,p⟩ else n.run ⟨r,false,p⟩).2 (if (RSt.mk r false).is t then y'.run ⟨r.tail,false⟩ else n'.run ⟨r,false⟩).2∧((if (r.headD C6).text==t then y.run ⟨r.tail,false,p⟩ else n.run ⟨r,false,p⟩).2.f=false→(if (r.headD C6).text==t then y.run ⟨r.tail,false,p⟩ else n.run ⟨r,false,p⟩).1=(if (RSt.mk r false).is t then y'.run ⟨r.tail,false⟩ else n'.run ⟨r,false⟩).1)
 rw [e]
 split
 · rename_i hc
   rw [beq_iff_eq] at hc
   obtain ⟨w1,w2⟩:=MP (s:=⟨r,false,p⟩) h (.inr (by rw [PSt.hd,hc];exact ht))
   exact hy r.tail p w1 (ho.suf w2)
 · exact hn r p h ho
theorem B6 {t:Str} {ht:t≠[]} (hw:Gi t=true:=by decide):Sim (PM.exp t ht) (RM.A9 t):=fun r p h ho=>by
 have e:=Xo h ho hw
 unfold Fe
 show PR (if (r.headD C6).text==t then ((),PSt.mk r.tail false p) else ((),PSt.fail ⟨r,false,p⟩)).2 (if (RSt.mk r false).is t then ((),RSt.mk r.tail false) else ((),RSt.mk r true)).2∧(_→()=())
 rw [e]
 cases hc:((r.headD C6).text==t) with
 |true=>exact ⟨.inl ⟨rfl,rfl,rfl⟩,fun _=>rfl⟩
 |false=>exact ⟨.inr ⟨rfl,rfl,rfl⟩,fun _=>rfl⟩
theorem bI (k:Int) (hk:k≠6):Sim (PM.take k hk) (RM.word k hk):=fun r p _ _=>by
 unfold Fe
 show PR (if (r.headD C6).kind==k then ((r.headD C6).text,PSt.mk r.tail false p) else ([],PSt.fail ⟨r,false,p⟩)).2 (if !false&&(r.headD C6).kind==k then ((r.headD C6).text,RSt.mk r.tail false) else ([],RSt.mk r true)).2∧
  ((if (r.headD C6).kind==k then ((r.headD C6).text,PSt.mk r.tail false p) else ([],PSt.fail ⟨r,false,p⟩)).2.f=false→(if (r.headD C6).kind==k then ((r.headD C6).text,PSt.mk r.tail false p) else ([],PSt.fail ⟨r,false,p⟩)).1=(if !false&&(r.headD C6).kind==k then ((r.headD C6).text,RSt.mk r.tail false) else ([],RSt.mk r true)).1)
 cases hc:((r.headD C6).kind==k) with
 |true=>exact ⟨.inl ⟨rfl,rfl,rfl⟩,fun _=>rfl⟩
 |false=>exact ⟨.inr ⟨rfl,rfl,rfl⟩,fun h=>by cases h⟩
theorem Yx {a:α} {m:PM α} {n:RM α} (h:Sim m n):Sim m (.bad a n):=fun r p hw ho=>h r p hw ho
theorem xH {k:Int} {y n:PM α} {y' n':RM α} (hy:Sim y y') (hn:Sim n n'):Sim (.kind k y n) (.kind k y' n'):=fun r p h ho=>by
 unfold Fe
 show PR (if (r.headD C6).kind==k then y.run ⟨r,false,p⟩ else n.run ⟨r,false,p⟩).2 (if (r.headD C6).kind==k then y'.run ⟨r,false⟩ else n'.run ⟨r,false⟩).2∧((if (r.headD C6).kind==k then y.run ⟨r,false,p⟩ else n.run ⟨r,false,p⟩).2.f=false→(if (r.headD C6).kind==k then y.run ⟨r,false,p⟩ else n.run ⟨r,false,p⟩).1=(if (r.headD C6).kind==k then y'.run ⟨r,false⟩ else n'.run ⟨r,false⟩).1)
 split
 · exact hy r p h ho
 · exact hn r p h ho
theorem xG {a:α} {m':RM α} (h:∀r,WF r→Fg r→(m'.run ⟨r,false⟩).2=⟨r,true⟩):Sim (PM.fail a) m':=fun r p hw ho=>by
 unfold Fe
 rw [h r hw ho]
 exact ⟨.inr ⟨rfl,rfl,rfl⟩,fun h=>by cases h⟩
theorem kC (a b:α):Sim (PM.fail a) (RM.fail b):=xG fun _ _ _=>rfl
theorem Dc {t:Str} {ht:t≠[]} {y n:PM α} {y' n':RM α} {r:List Tok} {p:Nat} (h:WF r) (ho:Fg r) (hy:Sim y y') (hn:((r.headD C6).text==t)=false→Fe n n' r p) (hw:Gi t=true:=by decide):Fe (.acc t ht y n) (.acc t y' n') r p:=by
 have e:=Xo h ho hw
 unfold Fe
 show PR (if (r.headD C6).text==t then y.run ⟨r.tail,false,p⟩ else n.run ⟨r,false,p⟩).2 (if (RSt.mk r false).is t then y'.run ⟨r.tail,false⟩ else n'.run ⟨r,false⟩).2∧((if (r.headD C6).text==t then y.run ⟨r.tail,false,p⟩ else n.run ⟨r,false,p⟩).2.f=false→(if (r.headD C6).text==t then y.run ⟨r.tail,false,p⟩ else n.run ⟨r,false,p⟩).1=(if (RSt.mk r false).is t then y'.run ⟨r.tail,false⟩ else n'.run ⟨r,false⟩).1)
 rw [e]
 cases hc:((r.headD C6).text==t) with
 |true=>
  rw [beq_iff_eq] at hc
  obtain ⟨w1,w2⟩:=MP (s:=⟨r,false,p⟩) h (.inr (by rw [PSt.hd,hc];exact ht))
  exact hy r.tail p w1 (ho.suf w2)
 |false=>exact hn hc
theorem pS {t:Str} {ht:t≠[]} {y n:PM α} {m':RM α} {r:List Tok} {p:Nat} (hc:((r.headD C6).text==t)=false) (h:Fe n m' r p):Fe (.acc t ht y n) m' r p:=by
 have e:(PM.acc t ht y n).run ⟨r,false,p⟩=n.run ⟨r,false,p⟩:=if_neg (by rw [PSt.hd,hc];decide)
 unfold Fe at *;rw [e];exact h
theorem G3 {t:Str} {m:PM α} {y' n':RM α} {r:List Tok} {p:Nat} (hw:WF r) (ho:Fg r) (hc:((r.headD C6).text==t)=false) (h:Fe m n' r p) (k:Gi t=true:=by decide):Fe m (.acc t y' n') r p:=by
 have e:(RM.acc t y' n').run ⟨r,false⟩=n'.run ⟨r,false⟩:=if_neg (by rw [Xo hw ho k,hc];decide)
 unfold Fe at *;rw [e];exact h
theorem Pk {k:Int} {y n:PM α} {m':RM α} {r:List Tok} {p:Nat} (hc:((r.headD C6).kind==k)=true) (h:Fe y m' r p):Fe (.kind k y n) m' r p:=by
 have e:(PM.kind k y n).run ⟨r,false,p⟩=y.run ⟨r,false,p⟩:=if_pos hc
 unfold Fe at *;rw [e];exact h
theorem Mx {k:Int} {y n:PM α} {m':RM α} {r:List Tok} {p:Nat} (hc:((r.headD C6).kind==k)=false) (h:Fe n m' r p):Fe (.kind k y n) m' r p:=by
 have e:(PM.kind k y n).run ⟨r,false,p⟩=n.run ⟨r,false,p⟩:=if_neg (by rw [PSt.hd,hc];decide)
 unfold Fe at *;rw [e];exact h
theorem Pl {k:Int} {m:PM α} {y' n':RM α} {r:List Tok} {p:Nat} (hc:((r.headD C6).kind==k)=true) (h:Fe m y' r p):Fe m (.kind k y' n') r p:=by
 have e:(RM.kind k y' n').run ⟨r,false⟩=y'.run ⟨r,false⟩:=if_pos hc
 unfold Fe at *;rw [e];exact h
theorem Km {k:Int} {m:PM α} {y' n':RM α} {r:List Tok} {p:Nat} (hc:((r.headD C6).kind==k)=false) (h:Fe m n' r p):Fe m (.kind k y' n') r p:=by
 have e:(RM.kind k y' n').run ⟨r,false⟩=n'.run ⟨r,false⟩:=if_neg (by simp only [RSt.hd,hc];decide)
 unfold Fe at *;rw [e];exact h
theorem pT {a:α} {m':RM α} {r:List Tok} {p:Nat} (h:(m'.run ⟨r,false⟩).2=⟨r,true⟩):Fe (PM.fail a) m' r p:=by
 unfold Fe
 rw [h]
 exact ⟨.inr ⟨rfl,rfl,rfl⟩,fun h=>by cases h⟩
theorem bF {m:PM α} {m':RM α} {t:Str} {ht:t≠[]} (hw:Gi t=true) (h:Sim m m'):∀n l,Sim (Bp m t ht n l) (B5 m' t n l)
 |0,l=>Ao l
 |n+1,l=>Dd (A1 h fun x=>bF hw h n (l++[x])) (Ao l) hw
theorem X3 {m:PM α} {m':RM α} {t:Str} {ht:t≠[]} (h:Sim m m') (hw:Gi t=true:=by decide):Sim (items m t ht) (BX m' t):=
 A1 h fun _=>bF hw h _ _
theorem RF {m:PM α} {m':RM α} (h:Sim m m'):Sim (listed m) (OS m'):=A1 (X3 h) fun _=>A1 B6 fun _=>Ao _
theorem RE {m:PM α} {m':RM α} (h:Sim m m'):Sim (closed m) (Mp m'):=Dd (Ao _) (RF h)
theorem TR {m:PM α} {m':RM α} (h:Sim m m'):Sim (If m) (YF m'):=Dd (RF h) (Ao _)
end
theorem Nd:Sim E3 D9:=bI _ _
theorem Pq:Sim Dx Fv:=bI _ _
theorem Pp:Sim FJ De:=Dd (Ao _) Nd
theorem Yy:Sim JH Ju:=pV _ (bI _ _)
theorem kD (k:Int) {T:PM TE} {T':RM TE} (h:Sim T T'):Sim (OQ k T) (jU k T'):=A1 B6 fun _=>A1 h fun _=>A1 B6 fun _=>Ao _
theorem mM {α:Type} {t:Str} {r:List Tok} {k:Unit→RM α} (hw:WF r) (ho:Fg r) (w:Gi t=true) (hc:((r.headD C6).text==t)=true) (n:RM α):((RM.A9 t).bind k).run ⟨r,false⟩=(RM.acc t (k ()) n).run ⟨r,false⟩:=by
 have e:=Xo hw ho w
 rw [hc] at e
 show (k (if (RSt.mk r false).is t then ((),RSt.mk r.tail false) else ((),RSt.mk r true)).1).run (if (RSt.mk r false).is t then ((),RSt.mk r.tail false) else ((),RSt.mk r true)).2=if (RSt.mk r false).is t then (k ()).run ⟨r.tail,false⟩ else n.run ⟨r,false⟩
 rw [e];rfl
theorem mL {α:Type} {t:Str} {r:List Tok} {k:Unit→RM α} (hw:WF r) (ho:Fg r) (w:Gi t=true) (hc:((r.headD C6).text==t)=false):(((RM.A9 t).bind k).run ⟨r,false⟩).2=⟨r,true⟩:=by
 have e:=Xo hw ho w
 rw [hc] at e
 show ((k (if (RSt.mk r false).is t then ((),RSt.mk r.tail false) else ((),RSt.mk r true)).1).run (if (RSt.mk r false).is t then ((),RSt.mk r.tail false) else ((),RSt.mk r true)).2).2=_
 rw [e]
 exact (k ()).st _ rfl
theorem xV {r:List Tok} {t u:Str} (h:((r.headD C6).text==t)=true) (hn:(t==u)=false):((r.headD C6).text==u)=false:=by
 rw [beq_iff_eq] at h;rw [h];exact hn
theorem pW:∀n,Sim (GK n) (FR n)
 |0=>kC _ _
 |n+1=>by
  have ih:=pW n
  rw [GK,FR]
  refine Yx fun r p hw ho=>?_
  cases h1:((r.headD C6).kind==1) with
  |true=>
   have n1:∀w,Gi w=true→((r.headD C6).text==w)=false:=fun w=>nk hw ho (.inl rfl) h1
   refine Pk h1 (G3 hw ho (n1 _ (by decide)) (G3 hw ho (n1 _ (by decide)) (G3 hw ho (n1 _ (by decide)) (Pl h1 ?_))))
   exact A1 Nd (fun x=>Ao _) r p hw ho
  |false=>
  cases h2:((r.headD C6).kind==2) with
  |true=>
   have n1:∀w,Gi w=true→((r.headD C6).text==w)=false:=fun w=>nk hw ho (.inr (.inl rfl)) h2
   refine Mx h1 (Pk h2 (G3 hw ho (n1 _ (by decide)) (G3 hw ho (n1 _ (by decide)) (G3 hw ho (n1 _ (by decide)) (Km h1 (Pl h2 ?_))))))
   exact A1 Pq (fun x=>A1 (TR ih) fun l=>Ao _) r p hw ho
  |false=>
   refine Mx h1 (Mx h2 (Dc hw ho (Ao _) fun _=>Dc hw ho (Ao _) fun _=>Dc hw ho (Ao _) fun _=>Km h1 (Km h2 (Dc hw ho (kD 7 ih) fun _=>Dc hw ho (kD 8 ih) fun _=>?_))))
   cases h3:((r.headD C6).text==[40]) with
   |true=>
    refine G3 hw ho (xV h3 (by decide)) ?_
    have e:=fun k=>mM (α:=TE) (k:=k) hw ho (by decide) h3 (.fail (.mk 0 [] []))
    unfold Fe
    rw [e]
    exact Dc hw ho (A1 ih fun a=>A1 B6 fun _=>A1 (RF ih) fun l=>Ao _) (fun h=>by rw [h3] at h;cases h)
   |false=>
    refine pS h3 (Dc hw ho (A1 B6 fun _=>A1 (RE ih) fun l=>A1 B6 fun _=>A1 ih fun t=>Ao _) fun _=>pT ?_)
    exact mL hw ho (by decide) h3
theorem AAT {E:PM Ex} {E':RM Ex} (h:Sim E E'):Sim (jJ E) (AAJ E'):=by
 unfold jJ AAJ
 exact Dd (A1 Pp fun a=>A1 B6 fun _=>A1 (RF Pp) fun l=>A1 B6 fun _=>A1 h fun x=>A1 B6 fun _=>A1 h fun y=>Ao _)
  (A1 Pp fun a=>A1 B6 fun _=>A1 h fun x=>A1 B6 fun _=>A1 h fun y=>Ao _)
theorem AAP {E:PM Ex} {E':RM Ex} (h:Sim E E'):Sim (jH E) (XI E'):=by
 unfold jH XI
 exact A1 Pq fun c=>A1 (TR Pp) fun l=>A1 B6 fun _=>A1 h fun x=>Ao _
theorem eW {E:PM Ex} {E':RM Ex} (h:Sim E E'):Sim (Jf E) (Ob E'):=by
 unfold Jf Ob
 exact A1 B6 fun _=>A1 h fun x=>A1 B6 fun _=>Ao _
theorem sT {E:PM Ex} {E':RM Ex} (h:Sim E E'):Sim (N2 E) (TG E'):=by
 unfold N2 TG
 exact A1 B6 fun _=>A1 h fun x=>A1 B6 fun _=>A1 h fun y=>A1 B6 fun _=>Ao _
theorem sU {E:PM Ex} {E':RM Ex} (h:Sim E E'):Sim (Zx E) (gO E'):=by
 unfold Zx gO
 exact A1 B6 fun _=>A1 h fun x=>A1 B6 fun _=>A1 h fun y=>A1 B6 fun _=>A1 h fun z=>A1 B6 fun _=>Ao _
theorem xJ:Sim WD pP:=by
 unfold WD pP
 exact A1 B6 fun _=>A1 (Dd (pV _ Yy) Yy) fun n=>A1 B6 fun _=>Ao _
theorem ADH {α:Type} {t:Str} {ht:t≠[]} {y n:PM α} {r:List Tok} {f:Bool} {p:Nat} (hc:((r.headD C6).text==t)=true):(PM.acc t ht y n).run ⟨r,f,p⟩=y.run ⟨r.tail,f,p⟩:=if_pos hc
theorem mT {α:Type} {t:Str} {ht:t≠[]} {y n:PM α} {r:List Tok} {f:Bool} {p:Nat} (hc:((r.headD C6).text==t)=false):(PM.acc t ht y n).run ⟨r,f,p⟩=n.run ⟨r,f,p⟩:=if_neg (by rw [PSt.hd,hc];decide)
theorem wV {α:Type} {t:Str} {y n:RM α} {r:List Tok} (hw:WF r) (ho:Fg r) (k:Gi t=true) (hc:((r.headD C6).text==t)=true):(RM.acc t y n).run ⟨r,false⟩=y.run ⟨r.tail,false⟩:=if_pos (by rw [Xo hw ho k,hc])
theorem wU {α:Type} {t:Str} {y n:RM α} {r:List Tok} (hw:WF r) (ho:Fg r) (k:Gi t=true) (hc:((r.headD C6).text==t)=false):(RM.acc t y n).run ⟨r,false⟩=n.run ⟨r,false⟩:=if_neg (by rw [Xo hw ho k,hc];decide)
theorem hO {r:List Tok} (h:WF r):1≤r.length:=by cases r with|nil=>exact h.elim|cons x l=>simp
theorem qC {r:List Tok} (h:WF r) {t:Str} (ht:t≠[]) (hc:((r.headD C6).text==t)=true):WF r.tail∧r.tail <:+r∧r.tail.length+1=r.length:=by
 rw [beq_iff_eq] at hc
 obtain ⟨w1,w2⟩:=MP (s:=⟨r,false,0⟩) h (.inr (by rw [PSt.hd,hc];exact ht))
 refine ⟨w1,w2,?_⟩
 have:=hO h
 rw [List.length_tail];omega
theorem j8 {α:Type} {E:PM α} {E':RM α} (h:Sim E E') {t:Str} (ht:t≠[]) (wt:Gi t=true) (x:α):∀(N n n':Nat) (l:List α) (r:List Tok) (p:Nat),r.length≤N→r.length≤n→r.length≤n'→WF r→Fg r→Fe ((Bp E t ht n l).map (x::·)) (B5 E' t n' (x::l)) r p
 |0,n,n',l,r,p,hN,_,_,hw,_=>by have:=hO hw;omega
 |N+1,0,n',l,r,p,hN,hn,_,hw,_=>by have:=hO hw;omega
 |N+1,n+1,0,l,r,p,hN,hn,hn',hw,_=>by have:=hO hw;omega
 |N+1,n+1,n'+1,l,r,p,hN,hn,hn',hw,ho=>by
  cases hc:((r.headD C6).text==t) with
  |true=>
   obtain ⟨w1,w2,w3⟩:=qC hw ht hc
   have e1:((Bp E t ht (n+1) l).map (x::·)).run ⟨r,false,p⟩=(E.bind fun y=>(Bp E t ht n (l++[y])).map (x::·)).run ⟨r.tail,false,p⟩:=by
    have:=ADH (y:=E.bind fun y=>Bp E t ht n (l++[y])) (n:=PM.pure l) (ht:=ht) (f:=false) (p:=p) hc
    show ((PM.acc t ht (E.bind fun y=>Bp E t ht n (l++[y])) (.pure l)).bind fun a=>PM.pure (x::a)).run ⟨r,false,p⟩=_
    simp only [PM.bind] at this ⊢
    rw [this];rfl
   have e2:(B5 E' t (n'+1) (x::l)).run ⟨r,false⟩=(E'.bind fun y=>B5 E' t n' (x::(l++[y]))).run ⟨r.tail,false⟩:=wV hw ho wt hc
   unfold Fe
   rw [e1,e2]
   refine X2 w1 (ho.suf w2) (h _ _ w1 (ho.suf w2)) fun y r1 p1 v1 o1 s1=>?_
   have:=s1.length_le
   exact j8 h ht wt x N n n' (l++[y]) r1 p1 (by omega) (by omega) (by omega) v1 o1
  |false=>
   have e1:((Bp E t ht (n+1) l).map (x::·)).run ⟨r,false,p⟩=(x::l,⟨r,false,p⟩):=by
    have:=mT (y:=E.bind fun y=>Bp E t ht n (l++[y])) (n:=PM.pure l) (ht:=ht) (f:=false) (p:=p) hc
    show ((PM.acc t ht (E.bind fun y=>Bp E t ht n (l++[y])) (.pure l)).bind fun a=>PM.pure (x::a)).run ⟨r,false,p⟩=_
    simp only [PM.bind] at this ⊢
    rw [this];rfl
   have e2:(B5 E' t (n'+1) (x::l)).run ⟨r,false⟩=(x::l,⟨r,false⟩):=wU hw ho wt hc
   unfold Fe
   rw [e1,e2]
   exact ⟨.inl ⟨rfl,rfl,rfl⟩,fun _=>rfl⟩
theorem xU:∀ {l:List Ex},2≤l.length→Xb l=exN 5 0 l
 |[],h=>by simp at h
 |[x],h=>by simp at h
 |x::y::l,_=>rfl
theorem eC {α:Type} (E:PM α) {t:Str} (ht:t≠[]):∀(n:Nat) (l:List α) (s:PSt),l.length≤((Bp E t ht n l).run s).1.length
 |0,l,s=>A4 _
 |n+1,l,s=>by
  show l.length≤(if s.hd.text==t then (E.bind fun x=>Bp E t ht n (l++[x])).run s.adv else (l,s)).1.length
  split
  · have:=eC E ht n (l++[(E.run s.adv).1]) (E.run s.adv).2
    rw [AA] at this
    exact Ay (Nat.le_add_right _ _) this
  · exact A4 _
theorem AAU {E:PM Ex} {E':RM Ex} (h:Sim E E'):Sim (jK E) (AAK E'):=by
 unfold jK AAK
 refine Dd (Ao _) ?_
 show Sim (E.bind fun x=>Bf [41] (.pure x) ((C1 [44]).bind fun _=>(listed E).bind fun l=>.pure (exN 5 0 (x::l)))) (E'.bind fun x=>(B5 E' [44] Af [x]).bind fun l=>(RM.A9 [41]).bind fun _=>.pure (Xb l))
 refine A1 h fun x r p hw ho=>?_
 obtain ⟨n,hn⟩:∃n,Af=n+1:=⟨Af - 1,by have:=Bo;omega⟩
 have hK:19999≤n:=by have:=Bo;omega
 have e0:((B5 E' [44] Af [x]).bind fun l=>(RM.A9 [41]).bind fun _=>RM.pure (Xb l)).run ⟨r,false⟩=((B5 E' [44] (n+1) [x]).bind fun l=>(RM.A9 [41]).bind fun _=>RM.pure (Xb l)).run ⟨r,false⟩:=by
  rw [← hn]
 unfold Fe
 rw [e0]
 cases hc:((r.headD C6).text==[44]) with
 |true=>
  obtain ⟨w1,w2,w3⟩:=qC hw (by decide) hc
  have hc1:=xV hc (show ([44]==[41])=false by decide)
  have e1:(Bf [41] (.pure x) ((C1 [44]).bind fun _=>(listed E).bind fun l=>.pure (exN 5 0 (x::l)))).run ⟨r,false,p⟩=(E.bind fun y=>((Bp E [44] (by decide) Af [y]).map (x::·)).bind fun l=>(C1 [41]).bind fun _=>.pure (exN 5 0 l)).run ⟨r.tail,false,p⟩:=by
   rw [mT hc1]
   rw [beq_iff_eq] at hc
   have:(C1 [44]).run ⟨r,false,p⟩=((),⟨r.tail,false,p⟩):=if_pos (by rw [beq_iff_eq];exact hc)
   show (((listed E).bind fun l=>PM.pure (exN 5 0 (x::l))).run ((C1 [44]).run ⟨r,false,p⟩).2)=_
   rw [this];rfl
  have e2:((B5 E' [44] (n+1) [x]).bind fun l=>(RM.A9 [41]).bind fun _=>RM.pure (Xb l)).run ⟨r,false⟩=(E'.bind fun y=>(B5 E' [44] n [x,y]).bind fun l=>(RM.A9 [41]).bind fun _=>RM.pure (Xb l)).run ⟨r.tail,false⟩:=by
   have:=wV (y:=E'.bind fun y=>B5 E' [44] n ([x]++[y])) (n:=RM.pure [x]) hw ho (t:=[44]) (by decide) hc
   show ((RM.acc [44] (E'.bind fun y=>B5 E' [44] n ([x]++[y])) (RM.pure [x])).bind fun l=>(RM.A9 [41]).bind fun _=>RM.pure (Xb l)).run ⟨r,false⟩=_
   simp only [RM.bind] at this ⊢
   rw [this];rfl
  rw [e1,e2]
  refine X2 w1 (ho.suf w2) (h _ _ w1 (ho.suf w2)) fun y r1 p1 v1 o1 s1=>?_
  have hs:=s1.length_le
  have h2:=j8 h (t:=[44]) (by decide) (by decide) x r1.length Af n [y] r1 p1 (A4 _) (by have:=o1.1;have:=Bo;omega) (by have:=o1.1;omega) v1 o1
  refine eX (m:=(Bp E [44] (by decide) Af [y]).map (x::·)) v1 o1 h2 fun r2 p2 v2 o2 _=>?_
  have hl:=eC E (t:=[44]) (by decide) Af [y] ⟨r1,false,p1⟩
  rw [show Xb (((Bp E [44] (by decide) Af [y]).map (x::·)).run ⟨r1,false,p1⟩).1=exN 5 0 (((Bp E [44] (by decide) Af [y]).map (x::·)).run ⟨r1,false,p1⟩).1 from xU (by
   show 2≤(x::((Bp E [44] (by decide) Af [y]).run ⟨r1,false,p1⟩).1).length
   simp only [AG,AI] at hl ⊢;omega)]
  exact A1 B6 (fun _=>Ao _) r2 p2 v2 o2
 |false=>
  have e2:((B5 E' [44] (n+1) [x]).bind fun l=>(RM.A9 [41]).bind fun _=>RM.pure (Xb l)).run ⟨r,false⟩=((RM.A9 [41]).bind fun _=>RM.pure x).run ⟨r,false⟩:=by
   have:=wU (y:=E'.bind fun y=>B5 E' [44] n ([x]++[y])) (n:=RM.pure [x]) hw ho (t:=[44]) (by decide) hc
   show ((RM.acc [44] (E'.bind fun y=>B5 E' [44] n ([x]++[y])) (RM.pure [x])).bind fun l=>(RM.A9 [41]).bind fun _=>RM.pure (Xb l)).run ⟨r,false⟩=_
   simp only [RM.bind] at this ⊢
   rw [this];rfl
  rw [e2]
  cases hc1:((r.headD C6).text==[41]) with
  |true=>
   have:=mM (α:=Ex) (t:=[41]) (k:=fun _=>RM.pure x) hw ho (by decide) hc1 (RM.fail x)
   rw [this]
   exact Dc hw ho (Ao x) (fun h=>by rw [hc1] at h;cases h)
  |false=>
   rw [mT hc1]
   have e3:=mL (α:=Ex) (t:=[41]) (k:=fun _=>RM.pure x) hw ho (by decide) hc1
   rw [e3]
   have hne:¬((r.headD C6).text==[44])=true:=by rw [hc];decide
   have e4:(C1 [44]).run ⟨r,false,p⟩=((),PSt.fail ⟨r,false,p⟩):=if_neg hne
   have e5:((C1 [44]).bind fun _=>(listed E).bind fun l=>PM.pure (exN 5 0 (x::l))).run ⟨r,false,p⟩=((listed E).bind fun l=>PM.pure (exN 5 0 (x::l))).run (PSt.fail ⟨r,false,p⟩):=by
    show ((listed E).bind fun l=>PM.pure (exN 5 0 (x::l))).run ((C1 [44]).run ⟨r,false,p⟩).2=_
    rw [e4]
   rw [e5]
   obtain ⟨f1,f2⟩:=((listed E).bind fun l=>PM.pure (exN 5 0 (x::l))).st (PSt.fail ⟨r,false,p⟩) rfl
   exact ⟨.inr ⟨f1,rfl,f2⟩,fun hf=>by rw [f1] at hf;cases hf⟩
end Go.Ab
