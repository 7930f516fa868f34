/- Blanks between tokens, and texts in a row: their tokens, in plain data. Two texts in a row, in plain data. What is read is not larger than its text, in plain data. The compact codes of the functions of this seat, computed out of the translation. Conditions: none. -/
import Derived.Test.YtifplkldbbcldaaGreatDoorProg
import Derived.KernelRfl
import Derived.Test.YtifplkldbbcldaaGreatDoorXQl
set_option linter.unusedSimpArgs false
set_option linter.unusedVariables false
set_option maxRecDepth 4000
set_option maxHeartbeats 8000000
open List renaming takeWhile_cons→F9,mem_cons→CW,length_pos_iff→Aj,length_drop→Ao,map_cons→AG
namespace Go.Ab
theorem sO {p:UInt8→Bool}:∀ {l:Str},∀x∈l.takeWhile p,p x=true
 |[],x,h=>by cases h
 |b::l,x,h=>by
  rw [F9] at h
  split at h
  · rename_i hb
    rcases CW.1 h with rfl|h
    · exact hb
    · exact sO x h
  · cases h
def dR (x:Pg×PSt):Pg×Nat×Int:=if x.2.f then (⟨[],[]⟩,x.2.p,2) else if Cq x.1 then (x.1,0,0) else (⟨[],[]⟩,0,9)
theorem Uk {s:Str} (h:(BN s).2.2=0):Ka s=dR (NZ.run ⟨(BN s).1,false,0⟩):=by
 unfold Ka dR
 rw [if_neg (by rw [h];simp)]
theorem qA {x y:Pg×PSt} (h1:x.1=y.1) (h2:x.2.f=y.2.f):(dR x).1=(dR y).1∧(dR x).2.2=(dR y).2.2:=by
 unfold dR
 rw [h1,h2]
 split
 · exact ⟨rfl,rfl⟩
 · split<;>exact ⟨rfl,rfl⟩
theorem iM {s t:Str} (hs:(BN s).2.2=0) (ht:(BN t).2.2=0) (h:strip (BN s).1=strip (BN t).1):(Ka s).1=(Ka t).1∧(Ka s).2.2=(Ka t).2.2:=by
 obtain ⟨h1,_,h3⟩:=NZ.pm ⟨(BN s).1,false,0⟩ ⟨(BN t).1,false,0⟩ h rfl
 rw [Uk hs,Uk ht]
 exact qA h1 h3
end Go.Ab
namespace Go.Ab
theorem vT (n:Nat) (ds:List DE) (fs:List FE) (s:PSt):(MY (n+1) ds fs).run s=
 if s.hd.kind==6 then (⟨ds,fs⟩,s)
                         else if s.hd.text==[100,97,116,97] then (MY n (ds++[(UQ.run s.adv).1]) fs).run (UQ.run s.adv).2
                         else if s.hd.text==[102,117,110] then (MY n ds (fs++[(aX.run s.adv).1])).run (aX.run s.adv).2
                         else (MY n ds fs).run s.fail:=rfl
theorem ACP {s:PSt} (h:WF s.r) (hk:(s.hd.kind==6)=false):2≤s.r.length:=by
 obtain ⟨r,f,p⟩:=s
 match r,h,hk with
 |[t],h,hk=>
  have:(PSt.mk [t] f p).hd=t:=rfl
  rw [this,h.1] at hk;cases hk
 |t::u::l,_,_=>simp
theorem B0 {s:PSt} (h:WF s.r):s.adv.r.length+1=s.r.length:=by
 obtain ⟨r,f,p⟩:=s
 cases r with
 |nil=>exact h.elim
 |cons t l=>rfl
theorem gL {s:PSt} (h:WF s.r):s.fail.r.length=1:=by
 have:1≤s.r.length:=Aj.2 h.ne
 show (Va s.r).length=1
 unfold Va;rw [Ao];omega
end Go.Ab
namespace Go.Ab
variable {α β:Type}
def SzO (c:Nat) (m:PM α) (μ:α→Nat):Prop:=∀s,WF s.r→(m.run s).2.f=false→μ (m.run s).1+(m.run s).2.r.length≤s.r.length+c
theorem SzO.pure {c:Nat} {a:α} {μ:α→Nat} (h:μ a≤c):SzO c (.pure a) μ:=fun s _ _=>by
 show μ a+s.r.length≤s.r.length+c;omega
theorem SzO.bind {c:Nat} {m:PM α} {f:α→PM β} {μ:α→Nat} {ν:β→Nat} (h:SzO 0 m μ) (hf:∀a,SzO (c+μ a) (f a) ν):SzO c (m.bind f) ν:=fun s hw hs=>by
 have hs':((f (m.run s).1).run (m.run s).2).2.f=false:=hs
 have h1:(m.run s).2.f=false:=by
  cases hc:(m.run s).2.f with
  |false=>rfl
  |true=>have:=((f (m.run s).1).st _ hc).1;rw [hs'] at this;cases this
 have e1:=h s hw h1
 have e2:=hf (m.run s).1 (m.run s).2 (m.sf s hw).1 hs'
 show ν ((f (m.run s).1).run (m.run s).2).1+((f (m.run s).1).run (m.run s).2).2.r.length≤_
 omega
theorem SzO.acc {c:Nat} {t:Str} {ht:t≠[]} {y n:PM α} {μ:α→Nat} (hy:SzO (c+1) y μ) (hn:SzO c n μ):SzO c (.acc t ht y n) μ:=fun s hw hs=>by
 cases hc:s.hd.text==t with
 |true=>
  have e:(PM.acc t ht y n).run s=y.run s.adv:=if_pos hc
  rw [e] at hs ⊢
  have hk:s.hd.text≠[]:=by rw [beq_iff_eq] at hc;rw [hc];exact ht
  have h1:=hy s.adv (TK hw (.inr hk)).1 hs
  have h2:=B0 hw
  omega
 |false=>
  have e:(PM.acc t ht y n).run s=n.run s:=if_neg (by rw [hc];decide)
  rw [e] at hs ⊢
  exact hn s hw hs
theorem SzO.kind {c:Nat} {k:Int} {y n:PM α} {μ:α→Nat} (hy:SzO c y μ) (hn:SzO c n μ):SzO c (.kind k y n) μ:=fun s hw hs=>by
 cases hc:s.hd.kind==k with
 |true=>
  have e:(PM.kind k y n).run s=y.run s:=if_pos hc
  rw [e] at hs ⊢
  exact hy s hw hs
 |false=>
  have e:(PM.kind k y n).run s=n.run s:=if_neg (by rw [hc];decide)
  rw [e] at hs ⊢
  exact hn s hw hs
theorem SzO.fail {c:Nat} {a:α} {μ:α→Nat}:SzO c (.fail a) μ:=fun s _ h=>by cases h
theorem SzO.tok {cc:Int→Str→Bool} {hc:∀k t,cc k t=true→k≠6∨t≠[]} {g:Str→α} {b:α}:SzO 0 (.tok cc hc g b) (fun _=>1):=fun s hw hs=>by
 cases hcc:cc s.hd.kind s.hd.text with
 |true=>
  have e:(PM.tok cc hc g b).run s=(g s.hd.text,s.adv):=if_pos hcc
  rw [e]
  have h2:=B0 hw
  show 1+s.adv.r.length≤_
  omega
 |false=>
  have e:(PM.tok cc hc g b).run s=(b,s.fail):=if_neg (by rw [hcc];decide)
  rw [e] at hs
  cases hs
theorem SzO.mono {c:Nat} {m:PM α} {μ ν:α→Nat} (h:SzO c m μ) (hl:∀a,ν a≤μ a):SzO c m ν:=fun s hw hs=>by
 have:=h s hw hs;have:=hl (m.run s).1;omega
def EH (μ:α→Nat) (l:List α):Nat:=(l.map μ).sum
theorem jO (μ:α→Nat) (l m:List α):EH μ (l++m)=EH μ l+EH μ m:=by simp [EH]
theorem Zo (μ:α→Nat) (x:α):EH μ [x]=μ x:=by simp [EH]
theorem Vs {μ:α→Nat} {l:List α} {x:α} (h:x∈l):μ x≤EH μ l:=by
 induction l with
 |nil=>cases h
 |cons y l ih=>
  simp only [EH,AG,List.sum_cons] at ih ⊢
  rcases CW.1 h with rfl|h
  · omega
  · have:=ih h;omega
theorem Zp {read:PM α} {t:Str} {ht:t≠[]} {μ:α→Nat} (h:SzO 0 read μ):∀(n c:Nat) (l:List α),EH μ l≤c→SzO c (E8 read t ht n l) (EH μ)
 |0,c,l,hl=>SzO.pure hl
 |n+1,c,l,hl=>SzO.acc (SzO.bind h (fun a=>Zp h n _ _ (by rw [jO,Zo];omega))) (SzO.pure hl)
theorem cY {read:PM α} {t:Str} {ht:t≠[]} {μ:α→Nat} (h:SzO 0 read μ):SzO 0 (items read t ht) (EH μ):=
 SzO.bind h (fun a=>Zp h _ _ _ (by rw [Zo];omega))
theorem OQ {t:Str} {ht:t≠[]}:SzO 0 (.exp t ht) (fun _=>1):=SzO.tok
theorem TB {k:Int} {hk:k≠6}:SzO 0 (.take k hk) (fun _=>1):=SzO.tok
theorem Ut {read:PM α} {μ:α→Nat} (h:SzO 0 read μ):SzO 0 (listed read) (EH μ):=SzO.bind (cY h) (fun a=>SzO.bind OQ (fun _=>SzO.pure (by omega)))
theorem mT {read:PM α} {μ:α→Nat} (h:SzO 0 read μ):SzO 0 (closed read) (EH μ):=SzO.acc (SzO.pure (by simp [EH])) (Ut h)
theorem Zq {read:PM α} {μ:α→Nat} (h:SzO 0 read μ):SzO 0 (I6 read) (EH μ):=SzO.acc (fun s hw hs=>by have:=Ut h s hw hs;omega) (SzO.pure (by simp [EH]))
theorem Mq:∀l:List TE,TE.BA l=EH TE.size l
 |[]=>rfl
 |t::l=>by rw [TE.BA,Mq l];simp [EH]
theorem oT:∀n,SzO 0 (GA n) TE.size
 |0=>SzO.fail
 |n+1=>by
  have ih:=oT n
  have hel:∀k,SzO 1 (Si k (GA n)) TE.size:=fun k=>SzO.bind OQ (fun _=>SzO.bind ih (fun t=>SzO.bind OQ (fun _=>SzO.pure (by simp [TE.size,TE.BA];omega))))
  rw [GA]
  refine SzO.kind (SzO.bind TB (fun x=>SzO.pure (by simp [TE.size,TE.BA]))) ?_
  refine SzO.kind (SzO.bind TB (fun x=>SzO.bind (Zq ih) (fun l=>SzO.pure (by rw [TE.size,Mq];omega)))) ?_
  refine SzO.acc (SzO.pure (by simp [TE.size,TE.BA])) (SzO.acc (SzO.pure (by simp [TE.size,TE.BA])) (SzO.acc (SzO.pure (by simp [TE.size,TE.BA])) (SzO.acc (hel 7) (SzO.acc (hel 8) (SzO.acc ?_ (SzO.acc ?_ SzO.fail))))))
  · exact SzO.bind ih (fun a=>SzO.bind OQ (fun _=>SzO.bind (Ut ih) (fun l=>SzO.pure (by rw [TE.size,TE.BA,Mq];omega))))
  · exact SzO.bind OQ (fun _=>SzO.bind (mT ih) (fun l=>SzO.bind OQ (fun _=>SzO.bind ih (fun t=>SzO.pure (by rw [TE.size,TE.DB,TE.BA,TE.BA,Mq];omega)))))
def sZ (c:CE):Nat:=EH TE.size c.args
def kR (d:DE):Nat:=EH sZ d.cons
theorem zD:SzO 0 iK sZ:=SzO.bind TB (fun c=>SzO.bind (Zq (oT _)) (fun l=>SzO.pure (by show EH TE.size l≤_;omega)))
theorem wM:SzO 0 UQ kR:=SzO.bind TB (fun c=>SzO.bind (Zq (μ:=fun _=>0) (TB.mono (fun _=>by omega))) (fun l=>SzO.bind OQ (fun _=>SzO.bind (cY zD) (fun cs=>SzO.bind OQ (fun _=>SzO.pure (by show EH sZ cs≤_;omega))))))
theorem zro (m:PM α):SzO 0 m (fun _=>0):=fun s hw _=>by have:=(m.sf s hw).2.length_le;simp only;omega
theorem Vu:∀(n c:Nat) (ds:List DE) (fs:List FE),EH kR ds≤c→SzO c (MY n ds fs) (fun p=>EH kR p.data)
 |0,c,ds,fs,h=>SzO.pure h
 |n+1,c,ds,fs,h=>by
  rw [MY]
  exact SzO.kind (SzO.pure h) (SzO.acc (SzO.bind wM (fun d=>Vu n _ _ _ (by rw [jO,Zo];omega))) (SzO.acc (SzO.bind (zro aX) (fun f=>Vu n _ _ _ (by omega))) (SzO.bind (zro (PM.fail ())) (fun _=>Vu n _ _ _ (by omega)))))
theorem iQ {r:List Tok} {p:Nat} (hw:WF r) (hl:r.length≤17000) (hf:(NZ.run ⟨r,false,p⟩).2.f=false):∀d∈(NZ.run ⟨r,false,p⟩).1.data,∀c∈d.cons,∀t∈c.args,t.size≤17000:=by
 have h:=Vu BL 0 [] [] (by simp [EH]) ⟨r,false,p⟩ hw hf
 intro d hd c hc t ht
 have h1:t.size≤sZ c:=Vs ht
 have h2:sZ c≤kR d:=Vs hc
 have h3:kR d≤EH kR (NZ.run ⟨r,false,p⟩).1.data:=Vs hd
 have h4:EH kR (NZ.run ⟨r,false,p⟩).1.data+(NZ.run ⟨r,false,p⟩).2.r.length≤r.length+0:=h
 omega
end Go.Ab
namespace Go.Ab
open Go.Proofs
variable {args:List AV} {σ:AN} {K:AV→AN→Prop}
def Y5:C:=(.seq (.reg [Qo 2 (.al [.AX,.AX] false),
 Qo 3 (.mv (.c (.d (.int .i64 0)))),
 Qo 4 (.mv (.c (.d (.int .i64 0))))] [0,2])
 (.seq (.reg [Qm 11 0,
 Qo 12 (.call 21 [(.t 11)]),
 Qm 10 12,
 Qo 13 (.ext (.t 10) 0),
 Qo 14 (.ext (.t 10) 1),
 Qo 15 (.ext (.t 10) 2),
 Qm 5 13,
 Qm 6 14,
 Qm 7 15] [2,5,6,7])
 (.seq (.seq (.reg [Qm 16 7,
 Qo 17 (.bin .neq (.t 16) (.c (.d (.int .i64 0))))] [2,5,6,7,17])
 (.cond (.t 17) (.seq (.reg [Qo 18 (.bld [.AX,.AX] []),
 Qm 19 6,
 Qm 20 7,
 ⟨none,.st (.t 2) (.t 18) 2,none⟩,
 Qm 3 19,
 Qm 4 20] [2,3,4])
 .ret)
 .skip))
 (.seq (.reg [Qm 21 5,
 Qo 22 (.bld [.AX,(.d (.int .i64 0)),(.d (.bool false)),(.d (.int .i64 0))] [(0,1,(.t 21))]),
 Qo 23 (.box (.t 22) true),
 Qm 8 23] [2,8])
 (.seq (.reg [Qm 24 8,
 Qo 25 (.call 28 [(.t 24)]),
 Qo 9 (.al [.AX,.AX] false),
 ⟨none,.st (.t 9) (.t 25) 2,none⟩] [2,8,9])
 (.seq (.seq (.reg [Qm 26 8,
 Qo 27 (.nck (.t 26)),
 Qo 28 (.fld (.t 27) 2),
 Qo 29 (.ld (.t 28) none)] [2,8,9,29])
 (.cond (.t 29) (.seq (.FA (.one (Qo 30 (.bld [.AX,.AX] []))
 (.one (Qm 31 8)
 (.one (Qo 32 (.nck (.t 31)))
 (.one (Qo 33 (.fld (.t 32) 3))
 (.alt (Qo 34 (.ld (.t 33) none))
 (.one ⟨none,.st (.t 2) (.t 30) 2,none⟩
 (.one (Qm 3 34)
 (.one (Qo 4 (.mv (.c (.d (.int .i64 2)))))
 .done)))
 (.alt ⟨none,.st (.t 2) (.t 30) 2,none⟩
 (.one (Qo 34 (.ld (.t 33) none))
 (.one (Qm 3 34)
 (.one (Qo 4 (.mv (.c (.d (.int .i64 2)))))
 .done)))
 .done)))))) [2,3,4])
 .ret)
 .skip))
 (.seq (.seq (.reg [Qo 35 (.ldl (.t 9) (some 2)),
 Qo 36 (.call 19 [(.t 35)]),
 Qo 37 (.un .not (.t 36))] [2,9,37])
 (.cond (.t 37) (.seq (.reg [Qo 38 (.bld [.AX,.AX] []),
 ⟨none,.st (.t 2) (.t 38) 2,none⟩,
 Qo 3 (.mv (.c (.d (.int .i64 0)))),
 Qo 4 (.mv (.c (.d (.int .i64 9))))] [2,3,4])
 .ret)
 .skip))
 (.seq (.reg [Qo 39 (.ldl (.t 9) (some 2)),
 ⟨none,.st (.t 2) (.t 39) 2,none⟩,
 Qo 3 (.mv (.c (.d (.int .i64 0)))),
 Qo 4 (.mv (.c (.d (.int .i64 0))))] [2,3,4])
 .ret))))))))
def Zs:List (List Nat×PT):=[([0,2],.done),([2,5,6,7],.done),([2,5,6,7,17],.done),([2,3,4],.done),([2,8],.done),([2,8,9],.done),([2,8,9,29],.done),([2,3,4],(.one 0 (.one 1 (.one 2 (.one 3 (.alt 4 (.one 5 (.one 6 (.one 7 .done))) (.alt 5 (.one 4 (.one 6 (.one 7 .done))) .done))))))),([2,9,37],.done),([2,3,4],.done),([2,3,4],.done)]
noncomputable def H4:Cx:=⟨Tryz.prog,12,Tryz.f12,40,[23,300035,300039],[],[.c 2 (some 2),.t 3,.t 4]⟩
theorem HM:Good H4:=⟨Tryz.func12,by kernel_rfl⟩
theorem X7:H4.rs=[.c 2 (some 2),.t 3,.t 4]:=rfl
theorem Yl (hl:args.length≤40) (h:Run H4 K [.code Y5] (Ar args) E σ):AQ Tryz.prog 12 args σ K:=
 AW (cx:=H4) (code:=Tryz.f12.body.getD .skip) HM (by kernel_rfl) Tryz.ntmps12 hl (AZ H4 _ Zs _ [] (by kernel_rfl)) h
def My:C:=(.seq (.seq (.reg [Qm 4 0,
 Qo 5 (.call 64 [(.t 4)]),
 Qo 6 (.fd (.t 5) 0 none),
 Qo 7 (.bin .neq (.t 6) (.c (.d (.int .i64 6))))] [0,2,3,7])
 (.cond (.t 7) .skip
 (.exit 0)))
 (.block 1 (.block 2 (.seq (.reg [Qm 11 0,
 Qo 12 (.call 65 [(.t 11),(.c (.d (.str [100,97,116,97])))]),
 Qm 10 12] [0,2,3,10])
 (.cond (.t 10) (.reg [Qo 13 (.fld (.t 3) 0),
 Qo 14 (.ldl (.t 13) none),
 Qm 15 0,
 Qo 16 (.call 66 [(.t 15)]),
 Qo 17 (.bsl 3 1 [(.d (.str [])),.AX,.AX] [(0,3,(.t 16))]),
 Qo 18 (.app 61 3 64 (.t 14) (.t 17)),
 Qo 19 (.fld (.t 3) 0),
 ⟨none,.st (.t 19) (.t 18) 1,none⟩] [0,2,3])
 (.seq (.reg [Qm 21 0,
 Qo 22 (.call 65 [(.t 21),(.c (.d (.str [102,117,110])))]),
 Qm 20 22] [0,2,3,20])
 (.cond (.t 20) (.reg [Qo 23 (.fld (.t 3) 1),
 Qo 24 (.ldl (.t 23) none),
 Qm 25 0,
 Qo 26 (.call 67 [(.t 25)]),
 Qo 27 (.bsl 8 1 [(.d (.str [])),.AX,(.d (.int .i64 0)),(.d (.str [])),(.d (.int .i64 0)),.AX,.AX,.AX] [(0,8,(.t 26))]),
 Qo 28 (.app 66 8 144 (.t 24) (.t 27)),
 Qo 29 (.fld (.t 3) 1),
 ⟨none,.st (.t 29) (.t 28) 1,none⟩] [0,2,3])
 (.reg [Qm 8 0,
 Qo 9 (.call 68 [(.t 8)])] [0,2,3]))))))))
def Ie:C:=(.seq (.reg [Qo 2 (.al [.AX,.AX] false)] [0,2])
 (.seq (.reg [Qo 3 (.al [.AX,.AX] false)] [0,2,3])
 (.seq (.block 0 (.loop My))
 (.seq (.reg [Qo 30 (.ldl (.t 3) (some 2)),
 ⟨none,.st (.t 2) (.t 30) 2,none⟩] [2])
 .ret))))
noncomputable def Bq:Cx:=⟨Tryz.prog,28,Tryz.f28,31,[300014,300024,300030],[],[.c 2 (some 2)]⟩
theorem Im:Good Bq:=⟨Tryz.func28,by kernel_rfl⟩
theorem Od:Bq.rs=[.c 2 (some 2)]:=rfl
theorem PI (hl:args.length≤31) (h:Run Bq K [.code Ie] (Ar args) E σ):AQ Tryz.prog 28 args σ K:=
 AW (cx:=Bq) (code:=Tryz.f28.body.getD .skip) Im (by kernel_rfl) Tryz.ntmps28 hl (AZ Bq _ (Az Ie) _ [] (by kernel_rfl)) h
def LB:C:=(.seq (.reg [Qo 2 (.al [(.d (.int .i64 0)),(.d (.str [])),(.d (.int .i64 0))] false)] [0,2])
 (.seq (.reg [Qm 3 0,
 Qo 4 (.nck (.t 3)),
 Qo 5 (.fld (.t 4) 0),
 Qo 6 (.ld (.t 5) none),
 Qm 7 0,
 Qo 8 (.nck (.t 7)),
 Qo 9 (.fld (.t 8) 1),
 Qo 10 (.ld (.t 9) none),
 Qo 11 (.ix (.t 6) (.t 10) 3),
 Qo 12 (.ld (.t 11) (some 3)),
 ⟨none,.st (.t 2) (.t 12) 3,none⟩] [2])
 .ret))
noncomputable def ES:Cx:=⟨Tryz.prog,64,Tryz.f64,13,[],[],[.c 2 (some 3)]⟩
theorem LU:Good ES:=⟨Tryz.func64,by kernel_rfl⟩
theorem Re:ES.rs=[.c 2 (some 3)]:=rfl
theorem S0 (hl:args.length≤13) (h:Run ES K [.code LB] (Ar args) E σ):AQ Tryz.prog 64 args σ K:=
 AW (cx:=ES) (code:=Tryz.f64.body.getD .skip) LU (by kernel_rfl) Tryz.ntmps64 hl (AZ ES _ (Az LB) _ [] (by kernel_rfl)) h
def JQ:C:=(.seq (.reg [Qo 4 (.mv (.c (.d (.bool false))))] [0,1])
 (.seq (.seq (.reg [Qm 5 0,
 Qo 6 (.call 64 [(.t 5)]),
 Qo 7 (.fd (.t 6) 1 none),
 Qm 8 1,
 Qo 9 (.bin .neq (.t 7) (.t 8))] [0,9])
 (.cond (.t 9) (.seq (.reg [Qo 4 (.mv (.c (.d (.bool false))))] [4])
 .ret)
 .skip))
 (.seq (.reg [Qm 10 0,
 Qo 11 (.nck (.t 10)),
 Qo 12 (.fld (.t 11) 1),
 Qo 13 (.ld (.t 12) none),
 Qo 14 (.bin .add (.t 13) (.c (.d (.int .i64 1)))),
 Qo 15 (.nck (.t 10)),
 Qo 16 (.fld (.t 15) 1),
 ⟨none,.st (.t 16) (.t 14) 1,none⟩] [])
 (.seq (.reg [Qo 4 (.mv (.c (.d (.bool true))))] [4])
 .ret))))
noncomputable def D2:Cx:=⟨Tryz.prog,65,Tryz.f65,17,[],[],[.t 4]⟩
theorem GU:Good D2:=⟨Tryz.func65,by kernel_rfl⟩
theorem P6:D2.rs=[.t 4]:=rfl
theorem J6 (hl:args.length≤17) (h:Run D2 K [.code JQ] (Ar args) E σ):AQ Tryz.prog 65 args σ K:=
 AW (cx:=D2) (code:=Tryz.f65.body.getD .skip) GU (by kernel_rfl) Tryz.ntmps65 hl (AZ D2 _ (Az JQ) _ [] (by kernel_rfl)) h
def Kx:C:=(.seq (.reg [Qo 2 (.al [(.d (.str [])),.AX,.AX] false)] [0,2])
 (.seq (.reg [Qm 4 0,
 Qo 5 (.call 124 [(.t 4),(.c (.d (.int .i64 2)))]),
 Qo 6 (.bld [(.d (.str [])),.AX,.AX] [(0,1,(.t 5))]),
 Qo 3 (.al [(.d (.str [])),.AX,.AX] false),
 ⟨none,.st (.t 3) (.t 6) 3,none⟩] [0,2,3])
 (.seq (.reg [Qm 7 0,
 Qm 8 0,
 Qo 9 (.mkf 126 [(.t 8)] []),
 Qo 10 (.call 125 [(.t 7),(.t 9)]),
 Qo 11 (.fld (.t 3) 1),
 ⟨none,.st (.t 11) (.t 10) 1,none⟩] [0,2,3])
 (.seq (.reg [Qm 12 0,
 Qo 13 (.call 127 [(.t 12),(.c (.d (.str [61])))])] [0,2,3])
 (.seq (.reg [Qm 14 0,
 Qm 15 0,
 Qo 16 (.mkf 129 [(.t 15)] []),
 Qo 17 (.call 128 [(.t 14),(.c (.d (.str [124]))),(.t 16)]),
 Qo 18 (.fld (.t 3) 2),
 ⟨none,.st (.t 18) (.t 17) 1,none⟩] [0,2,3])
 (.seq (.reg [Qm 19 0,
 Qo 20 (.call 127 [(.t 19),(.c (.d (.str [59])))])] [2,3])
 (.seq (.reg [Qo 21 (.ldl (.t 3) (some 3)),
 ⟨none,.st (.t 2) (.t 21) 3,none⟩] [2])
 .ret)))))))
noncomputable def EN:Cx:=⟨Tryz.prog,66,Tryz.f66,22,[300021],[],[.c 2 (some 3)]⟩
theorem LQ:Good EN:=⟨Tryz.func66,by kernel_rfl⟩
theorem R9:EN.rs=[.c 2 (some 3)]:=rfl
theorem SW (hl:args.length≤22) (h:Run EN K [.code Kx] (Ar args) E σ):AQ Tryz.prog 66 args σ K:=
 AW (cx:=EN) (code:=Tryz.f66.body.getD .skip) LQ (by kernel_rfl) Tryz.ntmps66 hl (AZ EN _ (Az Kx) _ [] (by kernel_rfl)) h
def MN:C:=(.seq (.reg [Qo 2 (.al [(.d (.str [])),.AX,(.d (.int .i64 0)),(.d (.str [])),(.d (.int .i64 0)),.AX,.AX,.AX] false)] [0,2])
 (.seq (.reg [Qm 4 0,
 Qo 5 (.call 126 [(.t 4)]),
 Qo 6 (.bld [(.d (.str [])),.AX,(.d (.int .i64 0)),(.d (.str [])),(.d (.int .i64 0)),.AX,.AX,.AX] [(0,1,(.t 5))]),
 Qo 3 (.al [(.d (.str [])),.AX,(.d (.int .i64 0)),(.d (.str [])),(.d (.int .i64 0)),.AX,.AX,.AX] false),
 ⟨none,.st (.t 3) (.t 6) 8,none⟩] [0,2,3])
 (.seq (.reg [Qm 7 0,
 Qo 8 (.call 127 [(.t 7),(.c (.d (.str [40])))])] [0,2,3])
 (.seq (.reg [Qm 9 0,
 Qm 10 0,
 Qo 11 (.mkf 126 [(.t 10)] []),
 Qo 12 (.call 130 [(.t 9),(.t 11)]),
 Qo 13 (.fld (.t 3) 1),
 ⟨none,.st (.t 13) (.t 12) 1,none⟩] [0,2,3])
 (.seq (.reg [Qm 14 0,
 Qo 15 (.call 127 [(.t 14),(.c (.d (.str [61])))])] [0,2,3])
 (.seq (.reg [Qm 16 0,
 Qo 17 (.call 131 [(.t 16)]),
 Qo 18 (.fld (.t 3) 2),
 ⟨none,.st (.t 18) (.t 17) 6,none⟩] [0,2,3])
 (.seq (.reg [Qm 19 0,
 Qo 20 (.call 127 [(.t 19),(.c (.d (.str [59])))])] [2,3])
 (.seq (.reg [Qo 21 (.ldl (.t 3) (some 8)),
 ⟨none,.st (.t 2) (.t 21) 8,none⟩] [2])
 .ret))))))))
noncomputable def Eh:Cx:=⟨Tryz.prog,67,Tryz.f67,22,[300021],[],[.c 2 (some 8)]⟩
theorem MU:Good Eh:=⟨Tryz.func67,by kernel_rfl⟩
theorem Sr:Eh.rs=[.c 2 (some 8)]:=rfl
theorem Tc (hl:args.length≤22) (h:Run Eh K [.code MN] (Ar args) E σ):AQ Tryz.prog 67 args σ K:=
 AW (cx:=Eh) (code:=Tryz.f67.body.getD .skip) MU (by kernel_rfl) Tryz.ntmps67 hl (AZ Eh _ (Az MN) _ [] (by kernel_rfl)) h
def Kz:C:=(.seq (.seq (.reg [Qm 2 0,
 Qo 3 (.nck (.t 2)),
 Qo 4 (.fld (.t 3) 2),
 Qo 5 (.ld (.t 4) none),
 Qo 6 (.un .not (.t 5))] [0,6])
 (.cond (.t 6) (.reg [Qm 7 0,
 Qm 8 0,
 Qm 9 0,
 Qo 10 (.call 64 [(.t 9)]),
 Qo 11 (.fd (.t 10) 2 none),
 Qo 12 (.nck (.t 7)),
 Qo 13 (.fld (.t 12) 2),
 ⟨none,.st (.t 13) (.c (.d (.bool true))) 1,none⟩,
 Qo 14 (.nck (.t 8)),
 Qo 15 (.fld (.t 14) 3),
 ⟨none,.st (.t 15) (.t 11) 1,none⟩] [0])
 .skip))
 (.reg [Qm 16 0,
 Qm 17 0,
 Qo 18 (.nck (.t 17)),
 Qo 19 (.fld (.t 18) 0),
 Qo 20 (.ld (.t 19) none),
 Qo 21 (.len (.t 20)),
 Qo 22 (.bin .sub (.t 21) (.c (.d (.int .i64 1)))),
 Qo 23 (.nck (.t 16)),
 Qo 24 (.fld (.t 23) 1),
 ⟨none,.st (.t 24) (.t 22) 1,none⟩] []))
noncomputable def EP:Cx:=⟨Tryz.prog,68,Tryz.f68,25,[],[],[]⟩
theorem HS:Good EP:=⟨Tryz.func68,by kernel_rfl⟩
theorem Rb:EP.rs=[]:=rfl
theorem SY (hl:args.length≤25) (h:Run EP K [.code Kz] (Ar args) E σ):AQ Tryz.prog 68 args σ K:=
 AW (cx:=EP) (code:=Tryz.f68.body.getD .skip) HS (by kernel_rfl) Tryz.ntmps68 hl (AZ EP _ (Az Kz) _ [] (by kernel_rfl)) h
def Jx:C:=(.seq (.reg [Qo 2 (.mv (.c (.d (.str []))))] [0])
 (.seq (.seq (.reg [Qm 3 0] [3])
 (.block 0 (.seq (.reg [Qo 5 (.bin .eql (.t 3) (.c (.d (.int .i64 1)))),
 Qm 4 5] [3,4])
 (.cond (.t 4) (.seq (.reg [Qo 2 (.mv (.c (.d (.str [43]))))] [2])
 .ret)
 (.seq (.reg [Qo 7 (.bin .eql (.t 3) (.c (.d (.int .i64 2)))),
 Qm 6 7] [3,6])
 (.cond (.t 6) (.seq (.reg [Qo 2 (.mv (.c (.d (.str [45]))))] [2])
 .ret)
 (.seq (.reg [Qo 9 (.bin .eql (.t 3) (.c (.d (.int .i64 3)))),
 Qm 8 9] [3,8])
 (.cond (.t 8) (.seq (.reg [Qo 2 (.mv (.c (.d (.str [42]))))] [2])
 .ret)
 (.seq (.reg [Qo 11 (.bin .eql (.t 3) (.c (.d (.int .i64 4)))),
 Qm 10 11] [3,10])
 (.cond (.t 10) (.seq (.reg [Qo 2 (.mv (.c (.d (.str [47]))))] [2])
 .ret)
 (.seq (.reg [Qo 13 (.bin .eql (.t 3) (.c (.d (.int .i64 5)))),
 Qm 12 13] [3,12])
 (.cond (.t 12) (.seq (.reg [Qo 2 (.mv (.c (.d (.str [37]))))] [2])
 .ret)
 (.seq (.reg [Qo 15 (.bin .eql (.t 3) (.c (.d (.int .i64 6)))),
 Qm 14 15] [3,14])
 (.cond (.t 14) (.seq (.reg [Qo 2 (.mv (.c (.d (.str [60]))))] [2])
 .ret)
 (.seq (.reg [Qo 17 (.bin .eql (.t 3) (.c (.d (.int .i64 7)))),
 Qm 16 17] [16])
 (.cond (.t 16) (.seq (.reg [Qo 2 (.mv (.c (.d (.str [60,61]))))] [2])
 .ret)
 .skip))))))))))))))))
 (.seq (.reg [Qo 2 (.mv (.c (.d (.str [61,61]))))] [2])
 .ret)))
noncomputable def Dj:Cx:=⟨Tryz.prog,91,Tryz.f91,18,[],[],[.t 2]⟩
theorem KI:Good Dj:=⟨Tryz.func91,by kernel_rfl⟩
theorem Qb:Dj.rs=[.t 2]:=rfl
theorem RT (hl:args.length≤18) (h:Run Dj K [.code Jx] (Ar args) E σ):AQ Tryz.prog 91 args σ K:=
 AW (cx:=Dj) (code:=Tryz.f91.body.getD .skip) KI (by kernel_rfl) Tryz.ntmps91 hl (AZ Dj _ (Az Jx) _ [] (by kernel_rfl)) h
def LF:C:=(.seq (.reg [Qo 4 (.mv (.c (.d (.str []))))] [0,1])
 (.seq (.reg [Qm 6 0,
 Qo 7 (.call 64 [(.t 6)]),
 Qo 5 (.al [(.d (.int .i64 0)),(.d (.str [])),(.d (.int .i64 0))] false),
 ⟨none,.st (.t 5) (.t 7) 3,none⟩] [0,1,5])
 (.seq (.seq (.reg [Qo 8 (.fld (.t 5) 0),
 Qo 9 (.ldl (.t 8) none),
 Qm 10 1,
 Qo 11 (.bin .neq (.t 9) (.t 10))] [0,5,11])
 (.cond (.t 11) (.seq (.reg [Qm 12 0,
 Qo 13 (.call 68 [(.t 12)])] [])
 (.seq (.reg [Qo 4 (.mv (.c (.d (.str []))))] [4])
 .ret))
 .skip))
 (.seq (.reg [Qm 14 0,
 Qo 15 (.nck (.t 14)),
 Qo 16 (.fld (.t 15) 1),
 Qo 17 (.ld (.t 16) none),
 Qo 18 (.bin .add (.t 17) (.c (.d (.int .i64 1)))),
 Qo 19 (.nck (.t 14)),
 Qo 20 (.fld (.t 19) 1),
 ⟨none,.st (.t 20) (.t 18) 1,none⟩] [5])
 (.seq (.reg [Qo 21 (.fld (.t 5) 1),
 Qo 22 (.ldl (.t 21) none),
 Qm 4 22] [4])
 .ret)))))
noncomputable def EV:Cx:=⟨Tryz.prog,124,Tryz.f124,23,[300009,300022],[],[.t 4]⟩
theorem HT:Good EV:=⟨Tryz.func124,by kernel_rfl⟩
theorem Rh:EV.rs=[.t 4]:=rfl
theorem S3 (hl:args.length≤23) (h:Run EV K [.code LF] (Ar args) E σ):AQ Tryz.prog 124 args σ K:=
 AW (cx:=EV) (code:=Tryz.f124.body.getD .skip) HT (by kernel_rfl) Tryz.ntmps124 hl (AZ EV _ (Az LF) _ [] (by kernel_rfl)) h
def JP:C:=(.seq (.reg [Qo 4 (.mv (.c .AX))] [0,1])
 (.seq (.seq (.reg [Qm 5 0,
 Qo 6 (.call 65 [(.t 5),(.c (.d (.str [40])))]),
 Qo 7 (.un .not (.t 6))] [0,1,7])
 (.cond (.t 7) (.seq (.reg [Qo 4 (.mv (.c .AX))] [4])
 .ret)
 .skip))
 (.seq (.reg [Qm 8 0,
 Qm 9 1,
 Qo 10 (.call 166 [(.t 8),(.t 9)]),
 Qm 4 10] [4])
 .ret)))
noncomputable def D1:Cx:=⟨Tryz.prog,125,Tryz.f125,11,[],[],[.t 4]⟩
theorem GS:Good D1:=⟨Tryz.func125,by kernel_rfl⟩
theorem P5:D1.rs=[.t 4]:=rfl
theorem QQ (hl:args.length≤11) (h:Run D1 K [.code JP] (Ar args) E σ):AQ Tryz.prog 125 args σ K:=
 AW (cx:=D1) (code:=Tryz.f125.body.getD .skip) GS (by kernel_rfl) Tryz.ntmps125 hl (AZ D1 _ (Az JP) _ [] (by kernel_rfl)) h
def LA:C:=(.seq (.reg [Qo 2 (.mv (.c (.d (.str []))))] [0])
 (.seq (.reg [Qm 3 0,
 Qo 4 (.call 124 [(.t 3),(.c (.d (.int .i64 1)))]),
 Qm 2 4] [2])
 .ret))
noncomputable def ER:Cx:=⟨Tryz.prog,126,Tryz.f126,5,[],[],[.t 2]⟩
theorem LR:Good ER:=⟨Tryz.func126,by kernel_rfl⟩
theorem Rc:ER.rs=[.t 2]:=rfl
theorem SZ (hl:args.length≤5) (h:Run ER K [.code LA] (Ar args) E σ):AQ Tryz.prog 126 args σ K:=
 AW (cx:=ER) (code:=Tryz.f126.body.getD .skip) LR (by kernel_rfl) Tryz.ntmps126 hl (AZ ER _ (Az LA) _ [] (by kernel_rfl)) h
def JS:C:=(.seq (.reg [Qm 4 0,
 Qm 5 1,
 Qo 6 (.call 65 [(.t 4),(.t 5)]),
 Qo 7 (.un .not (.t 6))] [0,7])
 (.cond (.t 7) (.reg [Qm 8 0,
 Qo 9 (.call 68 [(.t 8)])] [])
 .skip))
noncomputable def D3:Cx:=⟨Tryz.prog,127,Tryz.f127,10,[],[],[]⟩
theorem GW:Good D3:=⟨Tryz.func127,by kernel_rfl⟩
theorem P7:D3.rs=[]:=rfl
theorem QR (hl:args.length≤10) (h:Run D3 K [.code JS] (Ar args) E σ):AQ Tryz.prog 127 args σ K:=
 AW (cx:=D3) (code:=Tryz.f127.body.getD .skip) GW (by kernel_rfl) Tryz.ntmps127 hl (AZ D3 _ (Az JS) _ [] (by kernel_rfl)) h
def Ku:C:=(.seq (.seq (.reg [Qm 11 0,
 Qm 12 1,
 Qo 13 (.call 65 [(.t 11),(.t 12)])] [0,1,2,7,13])
 (.cond (.t 13) .skip
 (.exit 0)))
 (.block 1 (.reg [Qm 14 7,
 Qm 15 2,
 Qo 16 (.E1 (.t 15) []),
 Qo 17 (.bsl 2 1 [(.d (.str [])),.AX] [(0,2,(.t 16))]),
 Qo 18 (.app 72 2 40 (.t 14) (.t 17)),
 Qm 7 18] [0,1,2,7])))
def HF:C:=(.seq (.reg [Qo 6 (.mv (.c .AX))] [0,1,2])
 (.seq (.reg [Qm 8 2,
 Qo 9 (.E1 (.t 8) []),
 Qo 10 (.Mw 72 2 1 [(.d (.str [])),.AX] [(0,2,(.t 9))]),
 Qm 7 10] [0,1,2,7])
 (.seq (.block 0 (.loop Ku))
 (.seq (.reg [Qm 19 7,
 Qm 6 19] [6])
 .ret))))
noncomputable def C5:Cx:=⟨Tryz.prog,128,Tryz.f128,20,[10],[],[.t 6]⟩
theorem HO:Good C5:=⟨Tryz.func128,by kernel_rfl⟩
theorem Mm:C5.rs=[.t 6]:=rfl
theorem NR (hl:args.length≤20) (h:Run C5 K [.code HF] (Ar args) E σ):AQ Tryz.prog 128 args σ K:=
 AW (cx:=C5) (code:=Tryz.f128.body.getD .skip) HO (by kernel_rfl) Tryz.ntmps128 hl (AZ C5 _ (Az HF) _ [] (by kernel_rfl)) h
def MM:C:=(.seq (.reg [Qo 2 (.al [(.d (.str [])),.AX] false)] [0,2])
 (.seq (.reg [Qm 4 0,
 Qo 5 (.call 124 [(.t 4),(.c (.d (.int .i64 2)))]),
 Qo 6 (.bld [(.d (.str [])),.AX] [(0,1,(.t 5))]),
 Qo 3 (.al [(.d (.str [])),.AX] false),
 ⟨none,.st (.t 3) (.t 6) 2,none⟩] [0,2,3])
 (.seq (.reg [Qm 7 0,
 Qm 8 0,
 Qo 9 (.mkf 168 [(.t 8)] []),
 Qo 10 (.call 167 [(.t 7),(.t 9)]),
 Qo 11 (.fld (.t 3) 1),
 ⟨none,.st (.t 11) (.t 10) 1,none⟩] [2,3])
 (.seq (.reg [Qo 12 (.ldl (.t 3) (some 2)),
 ⟨none,.st (.t 2) (.t 12) 2,none⟩] [2])
 .ret))))
noncomputable def Eg:Cx:=⟨Tryz.prog,129,Tryz.f129,13,[300012],[],[.c 2 (some 2)]⟩
theorem MT:Good Eg:=⟨Tryz.func129,by kernel_rfl⟩
theorem Sq:Eg.rs=[.c 2 (some 2)]:=rfl
theorem Tb (hl:args.length≤13) (h:Run Eg K [.code MM] (Ar args) E σ):AQ Tryz.prog 129 args σ K:=
 AW (cx:=Eg) (code:=Tryz.f129.body.getD .skip) MT (by kernel_rfl) Tryz.ntmps129 hl (AZ Eg _ (Az MM) _ [] (by kernel_rfl)) h
def JJ:C:=(.seq (.reg [Qo 4 (.mv (.c .AX))] [0,1])
 (.seq (.seq (.reg [Qm 5 0,
 Qo 6 (.call 65 [(.t 5),(.c (.d (.str [41])))])] [0,1,6])
 (.cond (.t 6) (.seq (.reg [Qo 4 (.mv (.c .AX))] [4])
 .ret)
 .skip))
 (.seq (.reg [Qm 7 0,
 Qm 8 1,
 Qo 9 (.call 166 [(.t 7),(.t 8)]),
 Qm 4 9] [4])
 .ret)))
noncomputable def DW:Cx:=⟨Tryz.prog,130,Tryz.f130,10,[],[],[.t 4]⟩
theorem GQ:Good DW:=⟨Tryz.func130,by kernel_rfl⟩
theorem P0:DW.rs=[.t 4]:=rfl
theorem QL (hl:args.length≤10) (h:Run DW K [.code JJ] (Ar args) E σ):AQ Tryz.prog 130 args σ K:=
 AW (cx:=DW) (code:=Tryz.f130.body.getD .skip) GQ (by kernel_rfl) Tryz.ntmps130 hl (AZ DW _ (Az JJ) _ [] (by kernel_rfl)) h
def Ky:C:=(.seq (.reg [Qo 2 (.al [(.d (.int .i64 0)),(.d (.str [])),(.d (.int .i64 0)),.AX,.AX,.AX] false)] [0,2])
 (.seq (.block 0 (.seq (.reg [Qm 11 0,
 Qo 12 (.call 65 [(.t 11),(.c (.d (.str [108,101,116])))]),
 Qm 10 12] [0,2,10])
 (.cond (.t 10) (.seq (.reg [Qm 13 0,
 Qo 14 (.call 169 [(.t 13)]),
 ⟨none,.st (.t 2) (.t 14) 6,none⟩] [2])
 .ret)
 (.seq (.reg [Qm 16 0,
 Qo 17 (.call 65 [(.t 16),(.c (.d (.str [105,102])))]),
 Qm 15 17] [0,2,15])
 (.cond (.t 15) (.seq (.reg [Qm 18 0,
 Qo 19 (.call 131 [(.t 18)]),
 Qo 3 (.al [(.d (.int .i64 0)),(.d (.str [])),(.d (.int .i64 0)),.AX,.AX,.AX] false),
 ⟨none,.st (.t 3) (.t 19) 6,none⟩] [0,2,3])
 (.seq (.reg [Qm 20 0,
 Qo 21 (.call 127 [(.t 20),(.c (.d (.str [116,104,101,110])))])] [0,2,3])
 (.seq (.reg [Qm 22 0,
 Qo 23 (.call 131 [(.t 22)]),
 Qo 4 (.al [(.d (.int .i64 0)),(.d (.str [])),(.d (.int .i64 0)),.AX,.AX,.AX] false),
 ⟨none,.st (.t 4) (.t 23) 6,none⟩] [0,2,3,4])
 (.seq (.reg [Qm 24 0,
 Qo 25 (.call 127 [(.t 24),(.c (.d (.str [101,108,115,101])))])] [0,2,3,4])
 (.seq (.reg [Qo 26 (.ldl (.t 3) (some 6)),
 Qo 27 (.ldl (.t 4) (some 6)),
 Qm 28 0,
 Qo 29 (.call 131 [(.t 28)]),
 Qo 30 (.bsl 6 3 [(.d (.int .i64 0)),(.d (.str [])),(.d (.int .i64 0)),.AX,.AX,.AX,(.d (.int .i64 0)),(.d (.str [])),(.d (.int .i64 0)),.AX,.AX,.AX,(.d (.int .i64 0)),(.d (.str [])),(.d (.int .i64 0)),.AX,.AX,.AX] [(0,6,(.t 26)),(6,6,(.t 27)),(12,6,(.t 29))]),
 Qo 31 (.bld [(.d (.int .i64 0)),(.d (.str [])),(.d (.int .i64 0)),.AX,.AX,.AX] [(0,1,(.c (.d (.int .i64 9)))),(4,1,(.t 30))]),
 ⟨none,.st (.t 2) (.t 31) 6,none⟩] [2])
 .ret)))))
 (.seq (.reg [Qm 33 0,
 Qo 34 (.call 65 [(.t 33),(.c (.d (.str [109,97,116,99,104])))]),
 Qm 32 34] [0,2,32])
 (.cond (.t 32) (.seq (.reg [Qm 35 0,
 Qo 36 (.call 131 [(.t 35)]),
 Qo 37 (.bsl 6 1 [(.d (.int .i64 0)),(.d (.str [])),(.d (.int .i64 0)),.AX,.AX,.AX] [(0,6,(.t 36))]),
 Qo 38 (.bld [(.d (.int .i64 0)),(.d (.str [])),(.d (.int .i64 0)),.AX,.AX,.AX] [(0,1,(.c (.d (.int .i64 10)))),(4,1,(.t 37))]),
 Qo 5 (.al [(.d (.int .i64 0)),(.d (.str [])),(.d (.int .i64 0)),.AX,.AX,.AX] false),
 ⟨none,.st (.t 5) (.t 38) 6,none⟩] [0,2,5])
 (.seq (.reg [Qm 39 0,
 Qo 40 (.call 127 [(.t 39),(.c (.d (.str [119,105,116,104])))])] [0,2,5])
 (.seq (.reg [Qm 41 0,
 Qm 42 0,
 Qo 43 (.mkf 171 [(.t 42)] []),
 Qo 44 (.call 170 [(.t 41),(.c (.d (.str [124]))),(.t 43)]),
 Qo 45 (.fld (.t 5) 5),
 ⟨none,.st (.t 45) (.t 44) 1,none⟩] [0,2,5])
 (.seq (.reg [Qm 46 0,
 Qo 47 (.call 127 [(.t 46),(.c (.d (.str [101,110,100])))])] [2,5])
 (.seq (.reg [Qo 48 (.ldl (.t 5) (some 6)),
 ⟨none,.st (.t 2) (.t 48) 6,none⟩] [2])
 .ret)))))
 (.seq (.reg [Qm 50 0,
 Qo 51 (.call 65 [(.t 50),(.c (.d (.str [102,110])))]),
 Qm 49 51] [0,2,49])
 (.cond (.t 49) (.seq (.reg [Qm 52 0,
 Qo 53 (.call 127 [(.t 52),(.c (.d (.str [40])))])] [0,2])
 (.seq (.reg [Qm 54 0,
 Qm 55 0,
 Qo 56 (.mkf 126 [(.t 55)] []),
 Qo 57 (.call 130 [(.t 54),(.t 56)]),
 Qo 58 (.bld [(.d (.int .i64 0)),(.d (.str [])),(.d (.int .i64 0)),.AX,.AX,.AX] [(0,1,(.c (.d (.int .i64 11)))),(3,1,(.t 57))]),
 Qo 6 (.al [(.d (.int .i64 0)),(.d (.str [])),(.d (.int .i64 0)),.AX,.AX,.AX] false),
 ⟨none,.st (.t 6) (.t 58) 6,none⟩] [0,2,6])
 (.seq (.reg [Qm 59 0,
 Qo 60 (.call 127 [(.t 59),(.c (.d (.str [45,62])))])] [0,2,6])
 (.seq (.reg [Qm 61 0,
 Qo 62 (.call 131 [(.t 61)]),
 Qo 63 (.bsl 6 1 [(.d (.int .i64 0)),(.d (.str [])),(.d (.int .i64 0)),.AX,.AX,.AX] [(0,6,(.t 62))]),
 Qo 64 (.fld (.t 6) 4),
 ⟨none,.st (.t 64) (.t 63) 1,none⟩] [2,6])
 (.seq (.reg [Qo 65 (.ldl (.t 6) (some 6)),
 ⟨none,.st (.t 2) (.t 65) 6,none⟩] [2])
 .ret)))))
 (.seq (.reg [Qm 67 0,
 Qo 68 (.call 65 [(.t 67),(.c (.d (.str [116,114,121])))]),
 Qm 66 68] [0,2,66])
 (.cond (.t 66) (.seq (.reg [Qm 69 0,
 Qo 70 (.call 131 [(.t 69)]),
 Qo 7 (.al [(.d (.int .i64 0)),(.d (.str [])),(.d (.int .i64 0)),.AX,.AX,.AX] false),
 ⟨none,.st (.t 7) (.t 70) 6,none⟩] [0,2,7])
 (.seq (.reg [Qm 71 0,
 Qo 72 (.call 127 [(.t 71),(.c (.d (.str [99,97,116,99,104])))])] [0,2,7])
 (.seq (.reg [Qm 73 0,
 Qo 74 (.call 172 [(.t 73)]),
 Qm 8 74] [0,2,7,8])
 (.seq (.reg [Qm 75 0,
 Qo 76 (.call 127 [(.t 75),(.c (.d (.str [45,62])))])] [0,2,7,8])
 (.seq (.reg [Qm 77 0,
 Qo 78 (.call 131 [(.t 77)]),
 Qo 9 (.al [(.d (.int .i64 0)),(.d (.str [])),(.d (.int .i64 0)),.AX,.AX,.AX] false),
 ⟨none,.st (.t 9) (.t 78) 6,none⟩] [0,2,7,8,9])
 (.seq (.reg [Qm 79 0,
 Qo 80 (.call 127 [(.t 79),(.c (.d (.str [101,110,100])))])] [2,7,8,9])
 (.seq (.reg [Qm 81 8,
 Qo 82 (.ldl (.t 7) (some 6)),
 Qo 83 (.ldl (.t 9) (some 6)),
 Qo 84 (.bsl 6 2 [(.d (.int .i64 0)),(.d (.str [])),(.d (.int .i64 0)),.AX,.AX,.AX,(.d (.int .i64 0)),(.d (.str [])),(.d (.int .i64 0)),.AX,.AX,.AX] [(0,6,(.t 82)),(6,6,(.t 83))]),
 Qo 85 (.bld [(.d (.int .i64 0)),(.d (.str [])),(.d (.int .i64 0)),.AX,.AX,.AX] [(0,1,(.c (.d (.int .i64 17)))),(1,1,(.t 81)),(4,1,(.t 84))]),
 ⟨none,.st (.t 2) (.t 85) 6,none⟩] [2])
 .ret)))))))
 .skip)))))))))))
 (.seq (.reg [Qm 86 0,
 Qo 87 (.call 173 [(.t 86)]),
 ⟨none,.st (.t 2) (.t 87) 6,none⟩] [2])
 .ret)))
noncomputable def EO:Cx:=⟨Tryz.prog,131,Tryz.f131,88,[300026,300027,300048,300065,300082,300083],[],[.c 2 (some 6)]⟩
theorem C2:Good EO:=⟨Tryz.func131,by kernel_rfl⟩
theorem Ra:EO.rs=[.c 2 (some 6)]:=rfl
theorem SX (hl:args.length≤88) (h:Run EO K [.code Ky] (Ar args) E σ):AQ Tryz.prog 131 args σ K:=
 AW (cx:=EO) (code:=Tryz.f131.body.getD .skip) C2 (by kernel_rfl) Tryz.ntmps131 hl (AZ EO _ (Az Ky) _ [] (by kernel_rfl)) h
def JO:C:=(.seq (.reg [Qo 2 (.mv (.c (.d (.int .i64 0))))] [0])
 (.seq (.seq (.reg [Qm 3 0] [3])
 (.block 0 (.seq (.seq (.reg [Qo 5 (.bin .eql (.t 3) (.c (.d (.int .i64 1)))),
 Qm 4 5] [3,4])
 (.cond (.t 4) .skip
 (.reg [Qo 6 (.bin .eql (.t 3) (.c (.d (.int .i64 2)))),
 Qm 4 6] [3,4])))
 (.cond (.t 4) (.seq (.reg [Qo 2 (.mv (.c (.d (.int .i64 2))))] [2])
 .ret)
 (.seq (.seq (.reg [Qo 8 (.bin .eql (.t 3) (.c (.d (.int .i64 3)))),
 Qm 7 8] [3,7])
 (.cond (.t 7) .skip
 (.seq (.reg [Qo 9 (.bin .eql (.t 3) (.c (.d (.int .i64 4)))),
 Qm 7 9] [3,7])
 (.cond (.t 7) .skip
 (.reg [Qo 10 (.bin .eql (.t 3) (.c (.d (.int .i64 5)))),
 Qm 7 10] [7])))))
 (.cond (.t 7) (.seq (.reg [Qo 2 (.mv (.c (.d (.int .i64 3))))] [2])
 .ret)
 .skip))))))
 (.seq (.reg [Qo 2 (.mv (.c (.d (.int .i64 1))))] [2])
 .ret)))
noncomputable def D0:Cx:=⟨Tryz.prog,138,Tryz.f138,11,[],[],[.t 2]⟩
theorem GR:Good D0:=⟨Tryz.func138,by kernel_rfl⟩
theorem P4:D0.rs=[.t 2]:=rfl
theorem QP (hl:args.length≤11) (h:Run D0 K [.code JO] (Ar args) E σ):AQ Tryz.prog 138 args σ K:=
 AW (cx:=D0) (code:=Tryz.f138.body.getD .skip) GR (by kernel_rfl) Tryz.ntmps138 hl (AZ D0 _ (Az JO) _ [] (by kernel_rfl)) h
def JM:C:=(.seq (.reg [Qo 4 (.mv (.c .AX))] [0,1])
 (.seq (.reg [Qm 6 0,
 Qm 7 1,
 Qo 8 (.call 182 [(.t 6),(.c (.d (.str [44]))),(.t 7)]),
 Qm 5 8] [0,5])
 (.seq (.reg [Qm 9 0,
 Qo 10 (.call 127 [(.t 9),(.c (.d (.str [41])))])] [5])
 (.seq (.reg [Qm 11 5,
 Qm 4 11] [4])
 .ret))))
noncomputable def DY:Cx:=⟨Tryz.prog,166,Tryz.f166,12,[],[],[.t 4]⟩
theorem JZ:Good DY:=⟨Tryz.func166,by kernel_rfl⟩
theorem P2:DY.rs=[.t 4]:=rfl
theorem QN (hl:args.length≤12) (h:Run DY K [.code JM] (Ar args) E σ):AQ Tryz.prog 166 args σ K:=
 AW (cx:=DY) (code:=Tryz.f166.body.getD .skip) JZ (by kernel_rfl) Tryz.ntmps166 hl (AZ DY _ (Az JM) _ [] (by kernel_rfl)) h
def G7:C:=(.seq (.reg [Qo 4 (.mv (.c .AX))] [0,1])
 (.seq (.seq (.reg [Qm 5 0,
 Qo 6 (.call 65 [(.t 5),(.c (.d (.str [40])))]),
 Qo 7 (.un .not (.t 6))] [0,1,7])
 (.cond (.t 7) (.seq (.reg [Qo 4 (.mv (.c .AX))] [4])
 .ret)
 .skip))
 (.seq (.reg [Qm 8 0,
 Qm 9 1,
 Qo 10 (.call 183 [(.t 8),(.t 9)]),
 Qm 4 10] [4])
 .ret)))
noncomputable def CF:Cx:=⟨Tryz.prog,167,Tryz.f167,11,[],[],[.t 4]⟩
theorem E7:Good CF:=⟨Tryz.func167,by kernel_rfl⟩
theorem L8:CF.rs=[.t 4]:=rfl
theorem Lv (hl:args.length≤11) (h:Run CF K [.code G7] (Ar args) E σ):AQ Tryz.prog 167 args σ K:=
 AW (cx:=CF) (code:=Tryz.f167.body.getD .skip) E7 (by kernel_rfl) Tryz.ntmps167 hl (AZ CF _ (Az G7) _ [] (by kernel_rfl)) h
def T7:C:=(.seq (.reg [Qo 2 (.al [(.d (.int .i64 0)),(.d (.str [])),.AX] false)] [0,2])
 (.seq (.seq (.reg [Qm 7 0,
 Qo 8 (.call 64 [(.t 7)]),
 Qo 3 (.al [(.d (.int .i64 0)),(.d (.str [])),(.d (.int .i64 0))] false),
 ⟨none,.st (.t 3) (.t 8) 3,none⟩] [0,2,3])
 (.block 0 (.seq (.reg [Qo 10 (.fld (.t 3) 0),
 Qo 11 (.ldl (.t 10) none),
 Qo 12 (.bin .eql (.t 11) (.c (.d (.int .i64 1)))),
 Qm 9 12] [0,2,3,9])
 (.cond (.t 9) (.seq (.reg [Qm 13 0,
 Qo 14 (.call 126 [(.t 13)]),
 Qo 15 (.bld [(.d (.int .i64 0)),(.d (.str [])),.AX] [(0,1,(.c (.d (.int .i64 4)))),(1,1,(.t 14))]),
 ⟨none,.st (.t 2) (.t 15) 3,none⟩] [2])
 .ret)
 (.seq (.reg [Qo 17 (.fld (.t 3) 0),
 Qo 18 (.ldl (.t 17) none),
 Qo 19 (.bin .eql (.t 18) (.c (.d (.int .i64 2)))),
 Qm 16 19] [0,2,16])
 (.cond (.t 16) (.seq (.reg [Qm 20 0,
 Qo 21 (.call 124 [(.t 20),(.c (.d (.int .i64 2)))]),
 Qo 22 (.bld [(.d (.int .i64 0)),(.d (.str [])),.AX] [(0,1,(.c (.d (.int .i64 5)))),(1,1,(.t 21))]),
 Qo 4 (.al [(.d (.int .i64 0)),(.d (.str [])),.AX] false),
 ⟨none,.st (.t 4) (.t 22) 3,none⟩] [0,2,4])
 (.seq (.reg [Qm 23 0,
 Qm 24 0,
 Qo 25 (.mkf 168 [(.t 24)] []),
 Qo 26 (.call 167 [(.t 23),(.t 25)]),
 Qo 27 (.fld (.t 4) 2),
 ⟨none,.st (.t 27) (.t 26) 1,none⟩] [2,4])
 (.seq (.reg [Qo 28 (.ldl (.t 4) (some 3)),
 ⟨none,.st (.t 2) (.t 28) 3,none⟩] [2])
 .ret)))
 (.seq (.reg [Qm 30 0,
 Qo 31 (.call 65 [(.t 30),(.c (.d (.str [105,110,116])))]),
 Qm 29 31] [0,2,29])
 (.cond (.t 29) (.seq (.reg [Qo 32 (.bld [(.d (.int .i64 0)),(.d (.str [])),.AX] [(0,1,(.c (.d (.int .i64 1))))]),
 ⟨none,.st (.t 2) (.t 32) 3,none⟩] [2])
 .ret)
 (.seq (.reg [Qm 34 0,
 Qo 35 (.call 65 [(.t 34),(.c (.d (.str [98,111,111,108])))]),
 Qm 33 35] [0,2,33])
 (.cond (.t 33) (.seq (.reg [Qo 36 (.bld [(.d (.int .i64 0)),(.d (.str [])),.AX] [(0,1,(.c (.d (.int .i64 2))))]),
 ⟨none,.st (.t 2) (.t 36) 3,none⟩] [2])
 .ret)
 (.seq (.reg [Qm 38 0,
 Qo 39 (.call 65 [(.t 38),(.c (.d (.str [117,110,105,116])))]),
 Qm 37 39] [0,2,37])
 (.cond (.t 37) (.seq (.reg [Qo 40 (.bld [(.d (.int .i64 0)),(.d (.str [])),.AX] [(0,1,(.c (.d (.int .i64 3))))]),
 ⟨none,.st (.t 2) (.t 40) 3,none⟩] [2])
 .ret)
 (.seq (.reg [Qm 42 0,
 Qo 43 (.call 65 [(.t 42),(.c (.d (.str [97,114,114,97,121])))]),
 Qm 41 43] [0,2,41])
 (.cond (.t 41) (.seq (.reg [Qm 44 0,
 Qo 45 (.call 184 [(.t 44),(.c (.d (.int .i64 7)))]),
 ⟨none,.st (.t 2) (.t 45) 3,none⟩] [2])
 .ret)
 (.seq (.reg [Qm 47 0,
 Qo 48 (.call 65 [(.t 47),(.c (.d (.str [114,101,102])))]),
 Qm 46 48] [0,2,46])
 (.cond (.t 46) (.seq (.reg [Qm 49 0,
 Qo 50 (.call 184 [(.t 49),(.c (.d (.int .i64 8)))]),
 ⟨none,.st (.t 2) (.t 50) 3,none⟩] [2])
 .ret)
 (.seq (.reg [Qm 52 0,
 Qo 53 (.call 65 [(.t 52),(.c (.d (.str [40])))]),
 Qm 51 53] [0,2,51])
 (.cond (.t 51) (.seq (.reg [Qm 54 0,
 Qo 55 (.call 168 [(.t 54)]),
 Qo 5 (.al [(.d (.int .i64 0)),(.d (.str [])),.AX] false),
 ⟨none,.st (.t 5) (.t 55) 3,none⟩] [0,2,5])
 (.seq (.reg [Qm 56 0,
 Qo 57 (.call 127 [(.t 56),(.c (.d (.str [44])))])] [0,2,5])
 (.seq (.FA (.one (Qo 58 (.ldl (.t 5) (some 3)))
 (.one (Qm 60 0)
 (.one (Qm 61 0)
 (.one (Qo 62 (.mkf 168 [(.t 61)] []))
 (.alt (Qo 59 (.Mw 75 3 1 [(.d (.int .i64 0)),(.d (.str [])),.AX] [(0,3,(.t 58))]))
 (.one (Qo 63 (.call 183 [(.t 60),(.t 62)]))
 (.one (Qo 64 (.app 75 3 48 (.t 59) (.t 63)))
 (.one (Qo 65 (.bld [(.d (.int .i64 0)),(.d (.str [])),.AX] [(0,1,(.c (.d (.int .i64 6)))),(2,1,(.t 64))]))
 (.one ⟨none,.st (.t 2) (.t 65) 3,none⟩
 .done))))
 (.alt (Qo 63 (.call 183 [(.t 60),(.t 62)]))
 (.one (Qo 59 (.Mw 75 3 1 [(.d (.int .i64 0)),(.d (.str [])),.AX] [(0,3,(.t 58))]))
 (.one (Qo 64 (.app 75 3 48 (.t 59) (.t 63)))
 (.one (Qo 65 (.bld [(.d (.int .i64 0)),(.d (.str [])),.AX] [(0,1,(.c (.d (.int .i64 6)))),(2,1,(.t 64))]))
 (.one ⟨none,.st (.t 2) (.t 65) 3,none⟩
 .done))))
 .done)))))) [2])
 .ret)))
 (.seq (.reg [Qm 67 0,
 Qo 68 (.call 65 [(.t 67),(.c (.d (.str [102,110])))]),
 Qm 66 68] [0,2,66])
 (.cond (.t 66) (.seq (.reg [Qm 69 0,
 Qo 70 (.call 127 [(.t 69),(.c (.d (.str [40])))])] [0,2])
 (.seq (.reg [Qm 71 0,
 Qm 72 0,
 Qo 73 (.mkf 168 [(.t 72)] []),
 Qo 74 (.call 185 [(.t 71),(.t 73)]),
 Qm 6 74] [0,2,6])
 (.seq (.reg [Qm 75 0,
 Qo 76 (.call 127 [(.t 75),(.c (.d (.str [45,62])))])] [0,2,6])
 (.seq (.reg [Qm 77 6,
 Qm 78 0,
 Qo 79 (.call 168 [(.t 78)]),
 Qo 80 (.bsl 3 1 [(.d (.int .i64 0)),(.d (.str [])),.AX] [(0,3,(.t 79))]),
 Qo 81 (.app 75 3 48 (.t 77) (.t 80)),
 Qo 82 (.bld [(.d (.int .i64 0)),(.d (.str [])),.AX] [(0,1,(.c (.d (.int .i64 9)))),(2,1,(.t 81))]),
 ⟨none,.st (.t 2) (.t 82) 3,none⟩] [2])
 .ret))))
 .skip))))))))))))))))))))
 (.seq (.reg [Qm 83 0,
 Qo 84 (.call 68 [(.t 83)])] [2])
 (.seq (.reg [Qo 85 (.bld [(.d (.int .i64 0)),(.d (.str [])),.AX] []),
 ⟨none,.st (.t 2) (.t 85) 3,none⟩] [2])
 .ret))))
def Tq:List (List Nat×PT):=[([0,2],.done),([0,2,3],.done),([0,2,3,9],.done),([2],.done),([0,2,16],.done),([0,2,4],.done),([2,4],.done),([2],.done),([0,2,29],.done),([2],.done),([0,2,33],.done),([2],.done),([0,2,37],.done),([2],.done),([0,2,41],.done),([2],.done),([0,2,46],.done),([2],.done),([0,2,51],.done),([0,2,5],.done),([0,2,5],.done),([2],(.one 0 (.one 2 (.one 3 (.one 4 (.alt 1 (.one 5 (.one 6 (.one 7 (.one 8 .done)))) (.alt 5 (.one 1 (.one 6 (.one 7 (.one 8 .done)))) .done))))))),([0,2,66],.done),([0,2],.done),([0,2,6],.done),([0,2,6],.done),([2],.done),([2],.done),([2],.done)]
noncomputable def Ek:Cx:=⟨Tryz.prog,168,Tryz.f168,86,[59,300011,300018,300028,300058],[],[.c 2 (some 3)]⟩
theorem BW:Good Ek:=⟨Tryz.func168,by kernel_rfl⟩
theorem Sv:Ek.rs=[.c 2 (some 3)]:=rfl
theorem Tf (hl:args.length≤86) (h:Run Ek K [.code T7] (Ar args) E σ):AQ Tryz.prog 168 args σ K:=
 AW (cx:=Ek) (code:=Tryz.f168.body.getD .skip) BW (by kernel_rfl) Tryz.ntmps168 hl (AZ Ek _ Tq _ [] (by kernel_rfl)) h
def MO:C:=(.seq (.reg [Qo 2 (.al [(.d (.int .i64 0)),(.d (.str [])),(.d (.int .i64 0)),.AX,.AX,.AX] false)] [0,2])
 (.seq (.reg [Qo 3 (.al [(.d (.int .i64 0)),(.d (.str [])),(.d (.int .i64 0)),.AX,.AX,.AX] false)] [0,2,3])
 (.seq (.seq (.reg [Qm 6 0,
 Qo 7 (.call 65 [(.t 6),(.c (.d (.str [40])))])] [0,2,3,7])
 (.cond (.t 7) (.seq (.reg [Qm 8 0,
 Qo 9 (.call 172 [(.t 8)]),
 Qm 4 9] [0,2,3,4])
 (.seq (.reg [Qm 10 0,
 Qo 11 (.call 127 [(.t 10),(.c (.d (.str [44])))])] [0,2,3,4])
 (.reg [Qm 12 4,
 Qo 13 (.Mw 9 1 1 [(.d (.str []))] [(0,1,(.t 12))]),
 Qm 14 0,
 Qm 15 0,
 Qo 16 (.mkf 172 [(.t 15)] []),
 Qo 17 (.call 166 [(.t 14),(.t 16)]),
 Qo 18 (.app 9 1 16 (.t 13) (.t 17)),
 Qo 19 (.fld (.t 3) 0),
 ⟨none,.st (.t 19) (.c (.d (.int .i64 8))) 1,none⟩,
 Qo 20 (.fld (.t 3) 3),
 ⟨none,.st (.t 20) (.t 18) 1,none⟩] [0,2,3])))
 (.reg [Qm 21 0,
 Qo 22 (.call 172 [(.t 21)]),
 Qo 23 (.fld (.t 3) 0),
 ⟨none,.st (.t 23) (.c (.d (.int .i64 7))) 1,none⟩,
 Qo 24 (.fld (.t 3) 1),
 ⟨none,.st (.t 24) (.t 22) 1,none⟩] [0,2,3])))
 (.seq (.reg [Qm 25 0,
 Qo 26 (.call 127 [(.t 25),(.c (.d (.str [61])))])] [0,2,3])
 (.seq (.reg [Qm 27 0,
 Qo 28 (.call 131 [(.t 27)]),
 Qo 5 (.al [(.d (.int .i64 0)),(.d (.str [])),(.d (.int .i64 0)),.AX,.AX,.AX] false),
 ⟨none,.st (.t 5) (.t 28) 6,none⟩] [0,2,3,5])
 (.seq (.reg [Qm 29 0,
 Qo 30 (.call 127 [(.t 29),(.c (.d (.str [105,110])))])] [0,2,3,5])
 (.seq (.reg [Qo 31 (.ldl (.t 5) (some 6)),
 Qm 32 0,
 Qo 33 (.call 131 [(.t 32)]),
 Qo 34 (.bsl 6 2 [(.d (.int .i64 0)),(.d (.str [])),(.d (.int .i64 0)),.AX,.AX,.AX,(.d (.int .i64 0)),(.d (.str [])),(.d (.int .i64 0)),.AX,.AX,.AX] [(0,6,(.t 31)),(6,6,(.t 33))]),
 Qo 35 (.fld (.t 3) 4),
 ⟨none,.st (.t 35) (.t 34) 1,none⟩] [2,3])
 (.seq (.reg [Qo 36 (.ldl (.t 3) (some 6)),
 ⟨none,.st (.t 2) (.t 36) 6,none⟩] [2])
 .ret))))))))
noncomputable def Ei:Cx:=⟨Tryz.prog,169,Tryz.f169,37,[13,300031,300036],[],[.c 2 (some 6)]⟩
theorem Ho:Good Ei:=⟨Tryz.func169,by kernel_rfl⟩
theorem Ss:Ei.rs=[.c 2 (some 6)]:=rfl
theorem Td (hl:args.length≤37) (h:Run Ei K [.code MO] (Ar args) E σ):AQ Tryz.prog 169 args σ K:=
 AW (cx:=Ei) (code:=Tryz.f169.body.getD .skip) Ho (by kernel_rfl) Tryz.ntmps169 hl (AZ Ei _ (Az MO) _ [] (by kernel_rfl)) h
def No:C:=(.seq (.seq (.reg [Qm 11 0,
 Qm 12 1,
 Qo 13 (.call 65 [(.t 11),(.t 12)])] [0,1,2,7,13])
 (.cond (.t 13) .skip
 (.exit 0)))
 (.block 1 (.reg [Qm 14 7,
 Qm 15 2,
 Qo 16 (.E1 (.t 15) []),
 Qo 17 (.bsl 8 1 [(.d (.str [])),.AX,(.d (.int .i64 0)),(.d (.str [])),(.d (.int .i64 0)),.AX,.AX,.AX] [(0,8,(.t 16))]),
 Qo 18 (.app 112 8 144 (.t 14) (.t 17)),
 Qm 7 18] [0,1,2,7])))
def JK:C:=(.seq (.reg [Qo 6 (.mv (.c .AX))] [0,1,2])
 (.seq (.reg [Qm 8 2,
 Qo 9 (.E1 (.t 8) []),
 Qo 10 (.Mw 112 8 1 [(.d (.str [])),.AX,(.d (.int .i64 0)),(.d (.str [])),(.d (.int .i64 0)),.AX,.AX,.AX] [(0,8,(.t 9))]),
 Qm 7 10] [0,1,2,7])
 (.seq (.block 0 (.loop No))
 (.seq (.reg [Qm 19 7,
 Qm 6 19] [6])
 .ret))))
noncomputable def DX:Cx:=⟨Tryz.prog,170,Tryz.f170,20,[10],[],[.t 6]⟩
theorem JY:Good DX:=⟨Tryz.func170,by kernel_rfl⟩
theorem P1:DX.rs=[.t 6]:=rfl
theorem QM (hl:args.length≤20) (h:Run DX K [.code JK] (Ar args) E σ):AQ Tryz.prog 170 args σ K:=
 AW (cx:=DX) (code:=Tryz.f170.body.getD .skip) JY (by kernel_rfl) Tryz.ntmps170 hl (AZ DX _ (Az JK) _ [] (by kernel_rfl)) h
def ML:C:=(.seq (.reg [Qo 2 (.al [(.d (.str [])),.AX,(.d (.int .i64 0)),(.d (.str [])),(.d (.int .i64 0)),.AX,.AX,.AX] false)] [0,2])
 (.seq (.reg [Qm 4 0,
 Qo 5 (.call 124 [(.t 4),(.c (.d (.int .i64 2)))]),
 Qo 6 (.bld [(.d (.str [])),.AX,(.d (.int .i64 0)),(.d (.str [])),(.d (.int .i64 0)),.AX,.AX,.AX] [(0,1,(.t 5))]),
 Qo 3 (.al [(.d (.str [])),.AX,(.d (.int .i64 0)),(.d (.str [])),(.d (.int .i64 0)),.AX,.AX,.AX] false),
 ⟨none,.st (.t 3) (.t 6) 8,none⟩] [0,2,3])
 (.seq (.reg [Qm 7 0,
 Qm 8 0,
 Qo 9 (.mkf 172 [(.t 8)] []),
 Qo 10 (.call 125 [(.t 7),(.t 9)]),
 Qo 11 (.fld (.t 3) 1),
 ⟨none,.st (.t 11) (.t 10) 1,none⟩] [0,2,3])
 (.seq (.reg [Qm 12 0,
 Qo 13 (.call 127 [(.t 12),(.c (.d (.str [45,62])))])] [0,2,3])
 (.seq (.reg [Qm 14 0,
 Qo 15 (.call 131 [(.t 14)]),
 Qo 16 (.fld (.t 3) 2),
 ⟨none,.st (.t 16) (.t 15) 6,none⟩] [2,3])
 (.seq (.reg [Qo 17 (.ldl (.t 3) (some 8)),
 ⟨none,.st (.t 2) (.t 17) 8,none⟩] [2])
 .ret))))))
noncomputable def Ef:Cx:=⟨Tryz.prog,171,Tryz.f171,18,[300017],[],[.c 2 (some 8)]⟩
theorem MR:Good Ef:=⟨Tryz.func171,by kernel_rfl⟩
theorem So:Ef.rs=[.c 2 (some 8)]:=rfl
theorem T9 (hl:args.length≤18) (h:Run Ef K [.code ML] (Ar args) E σ):AQ Tryz.prog 171 args σ K:=
 AW (cx:=Ef) (code:=Tryz.f171.body.getD .skip) MR (by kernel_rfl) Tryz.ntmps171 hl (AZ Ef _ (Az ML) _ [] (by kernel_rfl)) h
def Kv:C:=(.seq (.reg [Qo 2 (.mv (.c (.d (.str []))))] [0])
 (.seq (.seq (.reg [Qm 3 0,
 Qo 4 (.call 65 [(.t 3),(.c (.d (.str [95])))])] [0,4])
 (.cond (.t 4) (.seq (.reg [Qo 2 (.mv (.c (.d (.str []))))] [2])
 .ret)
 .skip))
 (.seq (.reg [Qm 5 0,
 Qo 6 (.call 126 [(.t 5)]),
 Qm 2 6] [2])
 .ret)))
noncomputable def EL:Cx:=⟨Tryz.prog,172,Tryz.f172,7,[],[],[.t 2]⟩
theorem HQ:Good EL:=⟨Tryz.func172,by kernel_rfl⟩
theorem R7:EL.rs=[.t 2]:=rfl
theorem SS (hl:args.length≤7) (h:Run EL K [.code Kv] (Ar args) E σ):AQ Tryz.prog 172 args σ K:=
 AW (cx:=EL) (code:=Tryz.f172.body.getD .skip) HQ (by kernel_rfl) Tryz.ntmps172 hl (AZ EL _ (Az Kv) _ [] (by kernel_rfl)) h
def Kw:C:=(.seq (.reg [Qo 2 (.al [(.d (.int .i64 0)),(.d (.str [])),(.d (.int .i64 0)),.AX,.AX,.AX] false)] [0,2])
 (.seq (.reg [Qm 5 0,
 Qo 6 (.call 186 [(.t 5)]),
 Qo 3 (.al [(.d (.int .i64 0)),(.d (.str [])),(.d (.int .i64 0)),.AX,.AX,.AX] false),
 ⟨none,.st (.t 3) (.t 6) 6,none⟩] [0,2,3])
 (.seq (.seq (.reg [Qm 7 0,
 Qo 8 (.call 187 [(.t 7),(.c (.d (.int .i64 1)))]),
 Qm 4 8] [0,2,3,4])
 (.seq (.reg [Qm 9 4,
 Qo 10 (.bin .neq (.t 9) (.c (.d (.int .i64 0))))] [0,2,3,4,10])
 (.cond (.t 10) (.seq (.reg [Qm 11 4,
 Qo 12 (.ldl (.t 3) (some 6)),
 Qm 13 0,
 Qo 14 (.call 186 [(.t 13)]),
 Qo 15 (.call 188 [(.t 11),(.t 12),(.t 14)]),
 ⟨none,.st (.t 2) (.t 15) 6,none⟩] [2])
 .ret)
 .skip)))
 (.seq (.reg [Qo 16 (.ldl (.t 3) (some 6)),
 ⟨none,.st (.t 2) (.t 16) 6,none⟩] [2])
 .ret))))
noncomputable def EM:Cx:=⟨Tryz.prog,173,Tryz.f173,17,[300012,300016],[],[.c 2 (some 6)]⟩
theorem HR:Good EM:=⟨Tryz.func173,by kernel_rfl⟩
theorem R8:EM.rs=[.c 2 (some 6)]:=rfl
theorem SU (hl:args.length≤17) (h:Run EM K [.code Kw] (Ar args) E σ):AQ Tryz.prog 173 args σ K:=
 AW (cx:=EM) (code:=Tryz.f173.body.getD .skip) HR (by kernel_rfl) Tryz.ntmps173 hl (AZ EM _ (Az Kw) _ [] (by kernel_rfl)) h
def OW:C:=(.seq (.seq (.reg [Qm 11 0,
 Qm 12 1,
 Qo 13 (.call 65 [(.t 11),(.t 12)])] [0,1,2,7,13])
 (.cond (.t 13) .skip
 (.exit 0)))
 (.block 1 (.reg [Qm 14 7,
 Qm 15 2,
 Qo 16 (.E1 (.t 15) []),
 Qo 17 (.bsl 1 1 [(.d (.str []))] [(0,1,(.t 16))]),
 Qo 18 (.app 9 1 16 (.t 14) (.t 17)),
 Qm 7 18] [0,1,2,7])))
def Jw:C:=(.seq (.reg [Qo 6 (.mv (.c .AX))] [0,1,2])
 (.seq (.reg [Qm 8 2,
 Qo 9 (.E1 (.t 8) []),
 Qo 10 (.Mw 9 1 1 [(.d (.str []))] [(0,1,(.t 9))]),
 Qm 7 10] [0,1,2,7])
 (.seq (.block 0 (.loop OW))
 (.seq (.reg [Qm 19 7,
 Qm 6 19] [6])
 .ret))))
noncomputable def Di:Cx:=⟨Tryz.prog,182,Tryz.f182,20,[10],[],[.t 6]⟩
theorem KH:Good Di:=⟨Tryz.func182,by kernel_rfl⟩
theorem Qa:Di.rs=[.t 6]:=rfl
theorem RS (hl:args.length≤20) (h:Run Di K [.code Jw] (Ar args) E σ):AQ Tryz.prog 182 args σ K:=
 AW (cx:=Di) (code:=Tryz.f182.body.getD .skip) KH (by kernel_rfl) Tryz.ntmps182 hl (AZ Di _ (Az Jw) _ [] (by kernel_rfl)) h
def G6:C:=(.seq (.reg [Qo 4 (.mv (.c .AX))] [0,1])
 (.seq (.reg [Qm 6 0,
 Qm 7 1,
 Qo 8 (.call 196 [(.t 6),(.c (.d (.str [44]))),(.t 7)]),
 Qm 5 8] [0,5])
 (.seq (.reg [Qm 9 0,
 Qo 10 (.call 127 [(.t 9),(.c (.d (.str [41])))])] [5])
 (.seq (.reg [Qm 11 5,
 Qm 4 11] [4])
 .ret))))
noncomputable def CD:Cx:=⟨Tryz.prog,183,Tryz.f183,12,[],[],[.t 4]⟩
theorem Gb:Good CD:=⟨Tryz.func183,by kernel_rfl⟩
theorem L7:CD.rs=[.t 4]:=rfl
theorem Lu (hl:args.length≤12) (h:Run CD K [.code G6] (Ar args) E σ):AQ Tryz.prog 183 args σ K:=
 AW (cx:=CD) (code:=Tryz.f183.body.getD .skip) Gb (by kernel_rfl) Tryz.ntmps183 hl (AZ CD _ (Az G6) _ [] (by kernel_rfl)) h
def Ic:C:=(.seq (.reg [Qo 4 (.al [(.d (.int .i64 0)),(.d (.str [])),.AX] false)] [0,1,4])
 (.seq (.reg [Qm 6 0,
 Qo 7 (.call 127 [(.t 6),(.c (.d (.str [40])))])] [0,1,4])
 (.seq (.reg [Qm 8 0,
 Qo 9 (.call 168 [(.t 8)]),
 Qo 5 (.al [(.d (.int .i64 0)),(.d (.str [])),.AX] false),
 ⟨none,.st (.t 5) (.t 9) 3,none⟩] [0,1,4,5])
 (.seq (.reg [Qm 10 0,
 Qo 11 (.call 127 [(.t 10),(.c (.d (.str [41])))])] [1,4,5])
 (.seq (.reg [Qm 12 1,
 Qo 13 (.ldl (.t 5) (some 3)),
 Qo 14 (.bsl 3 1 [(.d (.int .i64 0)),(.d (.str [])),.AX] [(0,3,(.t 13))]),
 Qo 15 (.bld [(.d (.int .i64 0)),(.d (.str [])),.AX] [(0,1,(.t 12)),(2,1,(.t 14))]),
 ⟨none,.st (.t 4) (.t 15) 3,none⟩] [4])
 .ret)))))
noncomputable def DG:Cx:=⟨Tryz.prog,184,Tryz.f184,16,[300013],[],[.c 4 (some 3)]⟩
theorem Il:Good DG:=⟨Tryz.func184,by kernel_rfl⟩
theorem Oc:DG.rs=[.c 4 (some 3)]:=rfl
theorem PH (hl:args.length≤16) (h:Run DG K [.code Ic] (Ar args) E σ):AQ Tryz.prog 184 args σ K:=
 AW (cx:=DG) (code:=Tryz.f184.body.getD .skip) Il (by kernel_rfl) Tryz.ntmps184 hl (AZ DG _ (Az Ic) _ [] (by kernel_rfl)) h
def G5:C:=(.seq (.reg [Qo 4 (.mv (.c .AX))] [0,1])
 (.seq (.seq (.reg [Qm 5 0,
 Qo 6 (.call 65 [(.t 5),(.c (.d (.str [41])))])] [0,1,6])
 (.cond (.t 6) (.seq (.reg [Qo 4 (.mv (.c .AX))] [4])
 .ret)
 .skip))
 (.seq (.reg [Qm 7 0,
 Qm 8 1,
 Qo 9 (.call 183 [(.t 7),(.t 8)]),
 Qm 4 9] [4])
 .ret)))
noncomputable def CC:Cx:=⟨Tryz.prog,185,Tryz.f185,10,[],[],[.t 4]⟩
theorem E6:Good CC:=⟨Tryz.func185,by kernel_rfl⟩
theorem L6:CC.rs=[.t 4]:=rfl
theorem Lt (hl:args.length≤10) (h:Run CC K [.code G5] (Ar args) E σ):AQ Tryz.prog 185 args σ K:=
 AW (cx:=CC) (code:=Tryz.f185.body.getD .skip) E6 (by kernel_rfl) Tryz.ntmps185 hl (AZ CC _ (Az G5) _ [] (by kernel_rfl)) h
def Pz:C:=(.seq (.seq (.reg [Qm 9 4,
 Qo 10 (.bin .neq (.t 9) (.c (.d (.int .i64 0))))] [0,2,3,4,10])
 (.cond (.t 10) .skip
 (.exit 0)))
 (.seq (.block 1 (.reg [Qm 13 4,
 Qo 14 (.ldl (.t 3) (some 6)),
 Qm 15 0,
 Qo 16 (.call 197 [(.t 15)]),
 Qo 17 (.call 188 [(.t 13),(.t 14),(.t 16)]),
 ⟨none,.st (.t 3) (.t 17) 6,none⟩] [0,2,3]))
 (.reg [Qm 11 0,
 Qo 12 (.call 187 [(.t 11),(.c (.d (.int .i64 2)))]),
 Qm 4 12] [0,2,3,4])))
def MP:C:=(.seq (.reg [Qo 2 (.al [(.d (.int .i64 0)),(.d (.str [])),(.d (.int .i64 0)),.AX,.AX,.AX] false)] [0,2])
 (.seq (.reg [Qm 5 0,
 Qo 6 (.call 197 [(.t 5)]),
 Qo 3 (.al [(.d (.int .i64 0)),(.d (.str [])),(.d (.int .i64 0)),.AX,.AX,.AX] false),
 ⟨none,.st (.t 3) (.t 6) 6,none⟩] [0,2,3])
 (.seq (.seq (.reg [Qm 7 0,
 Qo 8 (.call 187 [(.t 7),(.c (.d (.int .i64 2)))]),
 Qm 4 8] [0,2,3,4])
 (.block 0 (.loop Pz)))
 (.seq (.reg [Qo 18 (.ldl (.t 3) (some 6)),
 ⟨none,.st (.t 2) (.t 18) 6,none⟩] [2])
 .ret))))
noncomputable def Ej:Cx:=⟨Tryz.prog,186,Tryz.f186,19,[300014,300018],[],[.c 2 (some 6)]⟩
theorem MV:Good Ej:=⟨Tryz.func186,by kernel_rfl⟩
theorem Su:Ej.rs=[.c 2 (some 6)]:=rfl
theorem Te (hl:args.length≤19) (h:Run Ej K [.code MP] (Ar args) E σ):AQ Tryz.prog 186 args σ K:=
 AW (cx:=Ej) (code:=Tryz.f186.body.getD .skip) MV (by kernel_rfl) Tryz.ntmps186 hl (AZ Ej _ (Az MP) _ [] (by kernel_rfl)) h
def M5:C:=(.seq (.seq (.reg [Qm 6 5,
 Qo 7 (.bin .leq (.t 6) (.c (.d (.int .i64 8))))] [0,1,5,7])
 (.cond (.t 7) .skip
 (.exit 0)))
 (.seq (.block 1 (.seq (.reg [Qm 10 5,
 Qo 11 (.call 138 [(.t 10)]),
 Qm 12 1,
 Qo 13 (.bin .eql (.t 11) (.t 12)),
 Qm 14 13,
 ⟨some 15,.mv (.t 0),some (14,true)⟩,
 ⟨some 16,.mv (.t 5),some (14,true)⟩,
 ⟨some 17,.call 91 [(.t 16)],some (14,true)⟩,
 ⟨some 18,.call 65 [(.t 15),(.t 17)],some (14,true)⟩,
 Qo 19 (.pick (.t 14) (.t 18) (.c (.d (.bool false))))] [0,1,5,19])
 (.cond (.t 19) (.seq (.reg [Qm 20 5,
 Qm 4 20] [4])
 .ret)
 .skip)))
 (.reg [Qm 8 5,
 Qo 9 (.bin .add (.t 8) (.c (.d (.int .i64 1)))),
 Qm 5 9] [0,1,5])))
def IB:C:=(.seq (.reg [Qo 4 (.mv (.c (.d (.int .i64 0))))] [0,1])
 (.seq (.seq (.reg [Qo 5 (.mv (.c (.d (.int .i64 1))))] [0,1,5])
 (.block 0 (.loop M5)))
 (.seq (.reg [Qo 4 (.mv (.c (.d (.int .i64 0))))] [4])
 .ret)))
noncomputable def Cy:Cx:=⟨Tryz.prog,187,Tryz.f187,21,[],[],[.t 4]⟩
theorem F2:Good Cy:=⟨Tryz.func187,by kernel_rfl⟩
theorem OB:Cy.rs=[.t 4]:=rfl
theorem O4 (hl:args.length≤21) (h:Run Cy K [.code IB] (Ar args) E σ):AQ Tryz.prog 187 args σ K:=
 AW (cx:=Cy) (code:=Tryz.f187.body.getD .skip) F2 (by kernel_rfl) Tryz.ntmps187 hl (AZ Cy _ (Az IB) _ [] (by kernel_rfl)) h
def Qu:C:=(.seq (.reg [Qo 4 (.box (.t 1) false),
 Qo 5 (.box (.t 2) false),
 Qo 6 (.al [(.d (.int .i64 0)),(.d (.str [])),(.d (.int .i64 0)),.AX,.AX,.AX] false)] [0,4,5,6])
 (.seq (.reg [Qm 7 0,
 Qo 8 (.ldl (.t 4) (some 6)),
 Qo 9 (.ldl (.t 5) (some 6)),
 Qo 10 (.bsl 6 2 [(.d (.int .i64 0)),(.d (.str [])),(.d (.int .i64 0)),.AX,.AX,.AX,(.d (.int .i64 0)),(.d (.str [])),(.d (.int .i64 0)),.AX,.AX,.AX] [(0,6,(.t 8)),(6,6,(.t 9))]),
 Qo 11 (.bld [(.d (.int .i64 0)),(.d (.str [])),(.d (.int .i64 0)),.AX,.AX,.AX] [(0,1,(.c (.d (.int .i64 13)))),(2,1,(.t 7)),(4,1,(.t 10))]),
 ⟨none,.st (.t 6) (.t 11) 6,none⟩] [6])
 .ret))
noncomputable def Gg:Cx:=⟨Tryz.prog,188,Tryz.f188,12,[300008,300009],[],[.c 6 (some 6)]⟩
theorem Qy:Good Gg:=⟨Tryz.func188,by kernel_rfl⟩
theorem W8:Gg.rs=[.c 6 (some 6)]:=rfl
theorem XW (hl:args.length≤12) (h:Run Gg K [.code Qu] (Ar args) E σ):AQ Tryz.prog 188 args σ K:=
 AW (cx:=Gg) (code:=Tryz.f188.body.getD .skip) Qy (by kernel_rfl) Tryz.ntmps188 hl (AZ Gg _ (Az Qu) _ [] (by kernel_rfl)) h
def KV:C:=(.seq (.seq (.reg [Qm 11 0,
 Qm 12 1,
 Qo 13 (.call 65 [(.t 11),(.t 12)])] [0,1,2,7,13])
 (.cond (.t 13) .skip
 (.exit 0)))
 (.block 1 (.reg [Qm 14 7,
 Qm 15 2,
 Qo 16 (.E1 (.t 15) []),
 Qo 17 (.bsl 3 1 [(.d (.int .i64 0)),(.d (.str [])),.AX] [(0,3,(.t 16))]),
 Qo 18 (.app 75 3 48 (.t 14) (.t 17)),
 Qm 7 18] [0,1,2,7])))
def Gu:C:=(.seq (.reg [Qo 6 (.mv (.c .AX))] [0,1,2])
 (.seq (.reg [Qm 8 2,
 Qo 9 (.E1 (.t 8) []),
 Qo 10 (.Mw 75 3 1 [(.d (.int .i64 0)),(.d (.str [])),.AX] [(0,3,(.t 9))]),
 Qm 7 10] [0,1,2,7])
 (.seq (.block 0 (.loop KV))
 (.seq (.reg [Qm 19 7,
 Qm 6 19] [6])
 .ret))))
noncomputable def CQ:Cx:=⟨Tryz.prog,196,Tryz.f196,20,[10],[],[.t 6]⟩
theorem Gx:Good CQ:=⟨Tryz.func196,by kernel_rfl⟩
theorem ME:CQ.rs=[.t 6]:=rfl
theorem Md (hl:args.length≤20) (h:Run CQ K [.code Gu] (Ar args) E σ):AQ Tryz.prog 196 args σ K:=
 AW (cx:=CQ) (code:=Tryz.f196.body.getD .skip) Gx (by kernel_rfl) Tryz.ntmps196 hl (AZ CQ _ (Az Gu) _ [] (by kernel_rfl)) h
def Ov:C:=(.seq (.seq (.reg [Qm 9 4,
 Qo 10 (.bin .neq (.t 9) (.c (.d (.int .i64 0))))] [0,2,3,4,10])
 (.cond (.t 10) .skip
 (.exit 0)))
 (.seq (.block 1 (.reg [Qm 13 4,
 Qo 14 (.ldl (.t 3) (some 6)),
 Qm 15 0,
 Qo 16 (.call 204 [(.t 15)]),
 Qo 17 (.call 188 [(.t 13),(.t 14),(.t 16)]),
 ⟨none,.st (.t 3) (.t 17) 6,none⟩] [0,2,3]))
 (.reg [Qm 11 0,
 Qo 12 (.call 187 [(.t 11),(.c (.d (.int .i64 3)))]),
 Qm 4 12] [0,2,3,4])))
def LD:C:=(.seq (.reg [Qo 2 (.al [(.d (.int .i64 0)),(.d (.str [])),(.d (.int .i64 0)),.AX,.AX,.AX] false)] [0,2])
 (.seq (.reg [Qm 5 0,
 Qo 6 (.call 204 [(.t 5)]),
 Qo 3 (.al [(.d (.int .i64 0)),(.d (.str [])),(.d (.int .i64 0)),.AX,.AX,.AX] false),
 ⟨none,.st (.t 3) (.t 6) 6,none⟩] [0,2,3])
 (.seq (.seq (.reg [Qm 7 0,
 Qo 8 (.call 187 [(.t 7),(.c (.d (.int .i64 3)))]),
 Qm 4 8] [0,2,3,4])
 (.block 0 (.loop Ov)))
 (.seq (.reg [Qo 18 (.ldl (.t 3) (some 6)),
 ⟨none,.st (.t 2) (.t 18) 6,none⟩] [2])
 .ret))))
noncomputable def EU:Cx:=⟨Tryz.prog,197,Tryz.f197,19,[300014,300018],[],[.c 2 (some 6)]⟩
theorem LV:Good EU:=⟨Tryz.func197,by kernel_rfl⟩
theorem Rg:EU.rs=[.c 2 (some 6)]:=rfl
theorem S2 (hl:args.length≤19) (h:Run EU K [.code LD] (Ar args) E σ):AQ Tryz.prog 197 args σ K:=
 AW (cx:=EU) (code:=Tryz.f197.body.getD .skip) LV (by kernel_rfl) Tryz.ntmps197 hl (AZ EU _ (Az LD) _ [] (by kernel_rfl)) h
def JR:C:=(.seq (.seq (.reg [Qm 6 0,
 Qo 7 (.call 65 [(.t 6),(.c (.d (.str [40])))])] [0,2,3,7])
 (.cond (.t 7) .skip
 (.exit 0)))
 (.block 1 (.FA (.one (Qo 8 (.ldl (.t 3) (some 6)))
 (.one (Qm 10 0)
 (.one (Qm 11 0)
 (.one (Qo 12 (.mkf 131 [(.t 11)] []))
 (.alt (Qo 9 (.Mw 44 6 1 [(.d (.int .i64 0)),(.d (.str [])),(.d (.int .i64 0)),.AX,.AX,.AX] [(0,6,(.t 8))]))
 (.one (Qo 13 (.call 208 [(.t 10),(.t 12)]))
 (.one (Qo 14 (.app 44 6 104 (.t 9) (.t 13)))
 (.one (Qo 15 (.bld [(.d (.int .i64 0)),(.d (.str [])),(.d (.int .i64 0)),.AX,.AX,.AX] [(0,1,(.c (.d (.int .i64 12)))),(4,1,(.t 14))]))
 (.one ⟨none,.st (.t 3) (.t 15) 6,none⟩
 .done))))
 (.alt (Qo 13 (.call 208 [(.t 10),(.t 12)]))
 (.one (Qo 9 (.Mw 44 6 1 [(.d (.int .i64 0)),(.d (.str [])),(.d (.int .i64 0)),.AX,.AX,.AX] [(0,6,(.t 8))]))
 (.one (Qo 14 (.app 44 6 104 (.t 9) (.t 13)))
 (.one (Qo 15 (.bld [(.d (.int .i64 0)),(.d (.str [])),(.d (.int .i64 0)),.AX,.AX,.AX] [(0,1,(.c (.d (.int .i64 12)))),(4,1,(.t 14))]))
 (.one ⟨none,.st (.t 3) (.t 15) 6,none⟩
 .done))))
 .done)))))) [0,2,3])))
def T6:C:=(.seq (.reg [Qo 2 (.al [(.d (.int .i64 0)),(.d (.str [])),(.d (.int .i64 0)),.AX,.AX,.AX] false)] [0,2])
 (.seq (.reg [Qm 4 0,
 Qo 5 (.call 207 [(.t 4)]),
 Qo 3 (.al [(.d (.int .i64 0)),(.d (.str [])),(.d (.int .i64 0)),.AX,.AX,.AX] false),
 ⟨none,.st (.t 3) (.t 5) 6,none⟩] [0,2,3])
 (.seq (.block 0 (.loop JR))
 (.seq (.reg [Qo 16 (.ldl (.t 3) (some 6)),
 ⟨none,.st (.t 2) (.t 16) 6,none⟩] [2])
 .ret))))
def Tp:List (List Nat×PT):=[([0,2],.done),([0,2,3],.done),([0,2,3,7],.done),([0,2,3],(.one 0 (.one 2 (.one 3 (.one 4 (.alt 1 (.one 5 (.one 6 (.one 7 (.one 8 .done)))) (.alt 5 (.one 1 (.one 6 (.one 7 (.one 8 .done)))) .done))))))),([2],.done)]
noncomputable def D7:Cx:=⟨Tryz.prog,204,Tryz.f204,17,[9,300008,300016],[],[.c 2 (some 6)]⟩
theorem MS:Good D7:=⟨Tryz.func204,by kernel_rfl⟩
theorem Sp:D7.rs=[.c 2 (some 6)]:=rfl
theorem Ta (hl:args.length≤17) (h:Run D7 K [.code T6] (Ar args) E σ):AQ Tryz.prog 204 args σ K:=
 AW (cx:=D7) (code:=Tryz.f204.body.getD .skip) MS (by kernel_rfl) Tryz.ntmps204 hl (AZ D7 _ Tp _ [] (by kernel_rfl)) h
def Ou:C:=(.seq (.seq (.reg [Qm 68 5,
 Qo 69 (.bin .leq (.t 68) (.c (.d (.int .i64 7))))] [0,2,5,69])
 (.cond (.t 69) .skip
 (.exit 1)))
 (.seq (.block 2 (.seq (.reg [Qm 73 5,
 Qo 74 (.call 147 [(.t 73)]),
 Qm 72 74,
 Qo 75 (.ext (.t 72) 0),
 Qo 76 (.ext (.t 72) 1),
 Qm 6 75,
 Qm 7 76] [0,2,5,6,7])
 (.seq (.reg [Qm 77 0,
 Qm 78 6,
 Qo 79 (.call 65 [(.t 77),(.t 78)])] [0,2,5,7,79])
 (.cond (.t 79) (.seq (.reg [Qm 80 5,
 Qm 81 0,
 Qm 82 7,
 Qo 83 (.call 213 [(.t 81),(.t 82)]),
 Qo 84 (.bld [(.d (.int .i64 0)),(.d (.str [])),(.d (.int .i64 0)),.AX,.AX,.AX] [(0,1,(.c (.d (.int .i64 14)))),(2,1,(.t 80)),(4,1,(.t 83))]),
 ⟨none,.st (.t 2) (.t 84) 6,none⟩] [2])
 .ret)
 .skip))))
 (.reg [Qm 70 5,
 Qo 71 (.bin .add (.t 70) (.c (.d (.int .i64 1)))),
 Qm 5 71] [0,2,5])))
def LC:C:=(.seq (.reg [Qo 2 (.al [(.d (.int .i64 0)),(.d (.str [])),(.d (.int .i64 0)),.AX,.AX,.AX] false)] [0,2])
 (.seq (.seq (.reg [Qm 8 0,
 Qo 9 (.call 64 [(.t 8)]),
 Qo 3 (.al [(.d (.int .i64 0)),(.d (.str [])),(.d (.int .i64 0))] false),
 ⟨none,.st (.t 3) (.t 9) 3,none⟩] [0,2,3])
 (.block 0 (.seq (.reg [Qo 11 (.fld (.t 3) 0),
 Qo 12 (.ldl (.t 11) none),
 Qo 13 (.bin .eql (.t 12) (.c (.d (.int .i64 3)))),
 Qm 10 13] [0,2,3,10])
 (.cond (.t 10) (.seq (.reg [Qm 14 0,
 Qo 15 (.call 209 [(.t 14)]),
 Qo 16 (.bld [(.d (.int .i64 0)),(.d (.str [])),(.d (.int .i64 0)),.AX,.AX,.AX] [(0,1,(.c (.d (.int .i64 3)))),(2,1,(.t 15))]),
 ⟨none,.st (.t 2) (.t 16) 6,none⟩] [2])
 .ret)
 (.seq (.reg [Qo 18 (.fld (.t 3) 0),
 Qo 19 (.ldl (.t 18) none),
 Qo 20 (.bin .eql (.t 19) (.c (.d (.int .i64 1)))),
 Qm 17 20] [0,2,3,17])
 (.cond (.t 17) (.seq (.reg [Qm 21 0,
 Qo 22 (.call 126 [(.t 21)]),
 Qo 23 (.bld [(.d (.int .i64 0)),(.d (.str [])),(.d (.int .i64 0)),.AX,.AX,.AX] [(0,1,(.c (.d (.int .i64 4)))),(1,1,(.t 22))]),
 ⟨none,.st (.t 2) (.t 23) 6,none⟩] [2])
 .ret)
 (.seq (.reg [Qo 25 (.fld (.t 3) 0),
 Qo 26 (.ldl (.t 25) none),
 Qo 27 (.bin .eql (.t 26) (.c (.d (.int .i64 2)))),
 Qm 24 27] [0,2,24])
 (.cond (.t 24) (.seq (.reg [Qm 28 0,
 Qo 29 (.call 124 [(.t 28),(.c (.d (.int .i64 2)))]),
 Qo 30 (.bld [(.d (.int .i64 0)),(.d (.str [])),(.d (.int .i64 0)),.AX,.AX,.AX] [(0,1,(.c (.d (.int .i64 6)))),(1,1,(.t 29))]),
 Qo 4 (.al [(.d (.int .i64 0)),(.d (.str [])),(.d (.int .i64 0)),.AX,.AX,.AX] false),
 ⟨none,.st (.t 4) (.t 30) 6,none⟩] [0,2,4])
 (.seq (.reg [Qm 31 0,
 Qm 32 0,
 Qo 33 (.mkf 131 [(.t 32)] []),
 Qo 34 (.call 210 [(.t 31),(.t 33)]),
 Qo 35 (.fld (.t 4) 4),
 ⟨none,.st (.t 35) (.t 34) 1,none⟩] [2,4])
 (.seq (.reg [Qo 36 (.ldl (.t 4) (some 6)),
 ⟨none,.st (.t 2) (.t 36) 6,none⟩] [2])
 .ret)))
 (.seq (.reg [Qm 38 0,
 Qo 39 (.call 65 [(.t 38),(.c (.d (.str [45])))]),
 Qm 37 39] [0,2,37])
 (.cond (.t 37) (.seq (.reg [Qm 40 0,
 Qo 41 (.call 209 [(.t 40)]),
 Qo 42 (.un .neg (.t 41)),
 Qo 43 (.bld [(.d (.int .i64 0)),(.d (.str [])),(.d (.int .i64 0)),.AX,.AX,.AX] [(0,1,(.c (.d (.int .i64 3)))),(2,1,(.t 42))]),
 ⟨none,.st (.t 2) (.t 43) 6,none⟩] [2])
 .ret)
 (.seq (.reg [Qm 45 0,
 Qo 46 (.call 65 [(.t 45),(.c (.d (.str [116,114,117,101])))]),
 Qm 44 46] [0,2,44])
 (.cond (.t 44) (.seq (.reg [Qo 47 (.bld [(.d (.int .i64 0)),(.d (.str [])),(.d (.int .i64 0)),.AX,.AX,.AX] [(0,1,(.c (.d (.int .i64 2)))),(2,1,(.c (.d (.int .i64 1))))]),
 ⟨none,.st (.t 2) (.t 47) 6,none⟩] [2])
 .ret)
 (.seq (.reg [Qm 49 0,
 Qo 50 (.call 65 [(.t 49),(.c (.d (.str [102,97,108,115,101])))]),
 Qm 48 50] [0,2,48])
 (.cond (.t 48) (.seq (.reg [Qo 51 (.bld [(.d (.int .i64 0)),(.d (.str [])),(.d (.int .i64 0)),.AX,.AX,.AX] [(0,1,(.c (.d (.int .i64 2))))]),
 ⟨none,.st (.t 2) (.t 51) 6,none⟩] [2])
 .ret)
 (.seq (.reg [Qm 53 0,
 Qo 54 (.call 65 [(.t 53),(.c (.d (.str [40])))]),
 Qm 52 54] [0,2,52])
 (.cond (.t 52) (.seq (.reg [Qm 55 0,
 Qo 56 (.call 211 [(.t 55)]),
 ⟨none,.st (.t 2) (.t 56) 6,none⟩] [2])
 .ret)
 (.seq (.reg [Qm 58 0,
 Qo 59 (.call 65 [(.t 58),(.c (.d (.str [116,105,99,107])))]),
 Qm 57 59] [0,2,57])
 (.cond (.t 57) (.seq (.reg [Qm 60 0,
 Qo 61 (.call 212 [(.t 60)]),
 ⟨none,.st (.t 2) (.t 61) 6,none⟩] [2])
 .ret)
 (.seq (.reg [Qm 63 0,
 Qo 64 (.call 65 [(.t 63),(.c (.d (.str [114,97,105,115,101])))]),
 Qm 62 64] [0,2,62])
 (.cond (.t 62) (.seq (.reg [Qm 65 0,
 Qo 66 (.call 213 [(.t 65),(.c (.d (.int .i64 1)))]),
 Qo 67 (.bld [(.d (.int .i64 0)),(.d (.str [])),(.d (.int .i64 0)),.AX,.AX,.AX] [(0,1,(.c (.d (.int .i64 16)))),(4,1,(.t 66))]),
 ⟨none,.st (.t 2) (.t 67) 6,none⟩] [2])
 .ret)
 .skip))))))))))))))))))))
 (.seq (.seq (.reg [Qo 5 (.mv (.c (.d (.int .i64 1))))] [0,2,5])
 (.block 1 (.loop Ou)))
 (.seq (.reg [Qm 85 0,
 Qo 86 (.call 68 [(.t 85)])] [2])
 (.seq (.reg [Qo 87 (.bld [(.d (.int .i64 0)),(.d (.str [])),(.d (.int .i64 0)),.AX,.AX,.AX] []),
 ⟨none,.st (.t 2) (.t 87) 6,none⟩] [2])
 .ret)))))
noncomputable def ET:Cx:=⟨Tryz.prog,207,Tryz.f207,88,[300012,300019,300026,300036],[],[.c 2 (some 6)]⟩
theorem BS:Good ET:=⟨Tryz.func207,by kernel_rfl⟩
theorem Rf:ET.rs=[.c 2 (some 6)]:=rfl
theorem S1 (hl:args.length≤88) (h:Run ET K [.code LC] (Ar args) E σ):AQ Tryz.prog 207 args σ K:=
 AW (cx:=ET) (code:=Tryz.f207.body.getD .skip) BS (by kernel_rfl) Tryz.ntmps207 hl (AZ ET _ (Az LC) _ [] (by kernel_rfl)) h
def Hw:C:=(.seq (.reg [Qo 4 (.mv (.c .AX))] [0,1])
 (.seq (.seq (.reg [Qm 5 0,
 Qo 6 (.call 65 [(.t 5),(.c (.d (.str [41])))])] [0,1,6])
 (.cond (.t 6) (.seq (.reg [Qo 4 (.mv (.c .AX))] [4])
 .ret)
 .skip))
 (.seq (.reg [Qm 7 0,
 Qm 8 1,
 Qo 9 (.call 214 [(.t 7),(.t 8)]),
 Qm 4 9] [4])
 .ret)))
noncomputable def Ct:Cx:=⟨Tryz.prog,208,Tryz.f208,10,[],[],[.t 4]⟩
theorem FY:Good Ct:=⟨Tryz.func208,by kernel_rfl⟩
theorem Nx:Ct.rs=[.t 4]:=rfl
theorem O0 (hl:args.length≤10) (h:Run Ct K [.code Hw] (Ar args) E σ):AQ Tryz.prog 208 args σ K:=
 AW (cx:=Ct) (code:=Tryz.f208.body.getD .skip) FY (by kernel_rfl) Tryz.ntmps208 hl (AZ Ct _ (Az Hw) _ [] (by kernel_rfl)) h
def JT:C:=(.seq (.reg [Qo 2 (.mv (.c (.d (.int .i64 0))))] [0])
 (.seq (.reg [Qm 6 0,
 Qo 7 (.call 124 [(.t 6),(.c (.d (.int .i64 3)))]),
 Qo 8 (.call 215 [(.t 7),(.c (.d (.int .i64 10))),(.c (.d (.int .i64 64)))]),
 Qm 5 8,
 Qo 9 (.ext (.t 5) 0),
 Qo 10 (.ext (.t 5) 1),
 Qm 3 9,
 Qm 4 10] [3])
 (.seq (.reg [Qm 11 3,
 Qm 2 11] [2])
 .ret)))
noncomputable def D4:Cx:=⟨Tryz.prog,209,Tryz.f209,12,[],[],[.t 2]⟩
theorem J1:Good D4:=⟨Tryz.func209,by kernel_rfl⟩
theorem P8:D4.rs=[.t 2]:=rfl
theorem QS (hl:args.length≤12) (h:Run D4 K [.code JT] (Ar args) E σ):AQ Tryz.prog 209 args σ K:=
 AW (cx:=D4) (code:=Tryz.f209.body.getD .skip) J1 (by kernel_rfl) Tryz.ntmps209 hl (AZ D4 _ (Az JT) _ [] (by kernel_rfl)) h
def Hz:C:=(.seq (.reg [Qo 4 (.mv (.c .AX))] [0,1])
 (.seq (.seq (.reg [Qm 5 0,
 Qo 6 (.call 65 [(.t 5),(.c (.d (.str [40])))]),
 Qo 7 (.un .not (.t 6))] [0,1,7])
 (.cond (.t 7) (.seq (.reg [Qo 4 (.mv (.c .AX))] [4])
 .ret)
 .skip))
 (.seq (.reg [Qm 8 0,
 Qm 9 1,
 Qo 10 (.call 214 [(.t 8),(.t 9)]),
 Qm 4 10] [4])
 .ret)))
noncomputable def Cv:Cx:=⟨Tryz.prog,210,Tryz.f210,11,[],[],[.t 4]⟩
theorem FZ:Good Cv:=⟨Tryz.func210,by kernel_rfl⟩
theorem Nz:Cv.rs=[.t 4]:=rfl
theorem O2 (hl:args.length≤11) (h:Run Cv K [.code Hz] (Ar args) E σ):AQ Tryz.prog 210 args σ K:=
 AW (cx:=Cv) (code:=Tryz.f210.body.getD .skip) FZ (by kernel_rfl) Tryz.ntmps210 hl (AZ Cv _ (Az Hz) _ [] (by kernel_rfl)) h
def M6:C:=(.seq (.reg [Qo 2 (.al [(.d (.int .i64 0)),(.d (.str [])),(.d (.int .i64 0)),.AX,.AX,.AX] false)] [0,2])
 (.seq (.seq (.reg [Qm 4 0,
 Qo 5 (.call 65 [(.t 4),(.c (.d (.str [41])))])] [0,2,5])
 (.cond (.t 5) (.seq (.reg [Qo 6 (.bld [(.d (.int .i64 0)),(.d (.str [])),(.d (.int .i64 0)),.AX,.AX,.AX] [(0,1,(.c (.d (.int .i64 1))))]),
 ⟨none,.st (.t 2) (.t 6) 6,none⟩] [2])
 .ret)
 .skip))
 (.seq (.reg [Qm 7 0,
 Qo 8 (.call 131 [(.t 7)]),
 Qo 3 (.al [(.d (.int .i64 0)),(.d (.str [])),(.d (.int .i64 0)),.AX,.AX,.AX] false),
 ⟨none,.st (.t 3) (.t 8) 6,none⟩] [0,2,3])
 (.seq (.seq (.reg [Qm 9 0,
 Qo 10 (.call 65 [(.t 9),(.c (.d (.str [41])))])] [0,2,3,10])
 (.cond (.t 10) (.seq (.reg [Qo 11 (.ldl (.t 3) (some 6)),
 ⟨none,.st (.t 2) (.t 11) 6,none⟩] [2])
 .ret)
 .skip))
 (.seq (.reg [Qm 12 0,
 Qo 13 (.call 127 [(.t 12),(.c (.d (.str [44])))])] [0,2,3])
 (.seq (.FA (.one (Qo 14 (.ldl (.t 3) (some 6)))
 (.one (Qm 16 0)
 (.one (Qm 17 0)
 (.one (Qo 18 (.mkf 131 [(.t 17)] []))
 (.alt (Qo 15 (.Mw 44 6 1 [(.d (.int .i64 0)),(.d (.str [])),(.d (.int .i64 0)),.AX,.AX,.AX] [(0,6,(.t 14))]))
 (.one (Qo 19 (.call 214 [(.t 16),(.t 18)]))
 (.one (Qo 20 (.app 44 6 104 (.t 15) (.t 19)))
 (.one (Qo 21 (.bld [(.d (.int .i64 0)),(.d (.str [])),(.d (.int .i64 0)),.AX,.AX,.AX] [(0,1,(.c (.d (.int .i64 5)))),(4,1,(.t 20))]))
 (.one ⟨none,.st (.t 2) (.t 21) 6,none⟩
 .done))))
 (.alt (Qo 19 (.call 214 [(.t 16),(.t 18)]))
 (.one (Qo 15 (.Mw 44 6 1 [(.d (.int .i64 0)),(.d (.str [])),(.d (.int .i64 0)),.AX,.AX,.AX] [(0,6,(.t 14))]))
 (.one (Qo 20 (.app 44 6 104 (.t 15) (.t 19)))
 (.one (Qo 21 (.bld [(.d (.int .i64 0)),(.d (.str [])),(.d (.int .i64 0)),.AX,.AX,.AX] [(0,1,(.c (.d (.int .i64 5)))),(4,1,(.t 20))]))
 (.one ⟨none,.st (.t 2) (.t 21) 6,none⟩
 .done))))
 .done)))))) [2])
 .ret))))))
def Mp:List (List Nat×PT):=[([0,2],.done),([0,2,5],.done),([2],.done),([0,2,3],.done),([0,2,3,10],.done),([2],.done),([0,2,3],.done),([2],(.one 0 (.one 2 (.one 3 (.one 4 (.alt 1 (.one 5 (.one 6 (.one 7 (.one 8 .done)))) (.alt 5 (.one 1 (.one 6 (.one 7 (.one 8 .done)))) .done)))))))]
noncomputable def CR:Cx:=⟨Tryz.prog,211,Tryz.f211,22,[15,300011,300014],[],[.c 2 (some 6)]⟩
theorem CO:Good CR:=⟨Tryz.func211,by kernel_rfl⟩
theorem MF:CR.rs=[.c 2 (some 6)]:=rfl
theorem Me (hl:args.length≤22) (h:Run CR K [.code M6] (Ar args) E σ):AQ Tryz.prog 211 args σ K:=
 AW (cx:=CR) (code:=Tryz.f211.body.getD .skip) CO (by kernel_rfl) Tryz.ntmps211 hl (AZ CR _ Mp _ [] (by kernel_rfl)) h
def LG:C:=(.seq (.reg [Qo 2 (.al [(.d (.int .i64 0)),(.d (.str [])),(.d (.int .i64 0)),.AX,.AX,.AX] false)] [0,2])
 (.seq (.reg [Qm 4 0,
 Qo 5 (.call 127 [(.t 4),(.c (.d (.str [40])))])] [0,2])
 (.seq (.reg [Qo 6 (.bld [(.d (.int .i64 0)),(.d (.str [])),(.d (.int .i64 0)),.AX,.AX,.AX] [(0,1,(.c (.d (.int .i64 15))))]),
 Qo 3 (.al [(.d (.int .i64 0)),(.d (.str [])),(.d (.int .i64 0)),.AX,.AX,.AX] false),
 ⟨none,.st (.t 3) (.t 6) 6,none⟩] [0,2,3])
 (.seq (.seq (.reg [Qm 7 0,
 Qo 8 (.call 65 [(.t 7),(.c (.d (.str [45])))])] [0,2,3,8])
 (.cond (.t 8) (.reg [Qm 9 0,
 Qo 10 (.call 209 [(.t 9)]),
 Qo 11 (.un .neg (.t 10)),
 Qo 12 (.fld (.t 3) 2),
 ⟨none,.st (.t 12) (.t 11) 1,none⟩] [0,2,3])
 (.reg [Qm 13 0,
 Qo 14 (.call 209 [(.t 13)]),
 Qo 15 (.fld (.t 3) 2),
 ⟨none,.st (.t 15) (.t 14) 1,none⟩] [0,2,3])))
 (.seq (.reg [Qm 16 0,
 Qo 17 (.call 127 [(.t 16),(.c (.d (.str [41])))])] [2,3])
 (.seq (.reg [Qo 18 (.ldl (.t 3) (some 6)),
 ⟨none,.st (.t 2) (.t 18) 6,none⟩] [2])
 .ret))))))
noncomputable def EW:Cx:=⟨Tryz.prog,212,Tryz.f212,19,[300018],[],[.c 2 (some 6)]⟩
theorem HU:Good EW:=⟨Tryz.func212,by kernel_rfl⟩
theorem Ri:EW.rs=[.c 2 (some 6)]:=rfl
theorem S4 (hl:args.length≤19) (h:Run EW K [.code LG] (Ar args) E σ):AQ Tryz.prog 212 args σ K:=
 AW (cx:=EW) (code:=Tryz.f212.body.getD .skip) HU (by kernel_rfl) Tryz.ntmps212 hl (AZ EW _ (Az LG) _ [] (by kernel_rfl)) h
def Ln:C:=(.seq (.reg [Qo 14 (.bin .lss (.t 13) (.t 12))] [0,5,12,13,14])
 (.seq (.cond (.t 14) .skip
 (.exit 0))
 (.seq (.block 1 (.seq (.reg [Qm 15 0,
 Qo 16 (.call 127 [(.t 15),(.c (.d (.str [44])))])] [0,5,12,13])
 (.reg [Qm 17 5,
 Qm 18 0,
 Qo 19 (.call 131 [(.t 18)]),
 Qo 20 (.bsl 6 1 [(.d (.int .i64 0)),(.d (.str [])),(.d (.int .i64 0)),.AX,.AX,.AX] [(0,6,(.t 19))]),
 Qo 21 (.app 44 6 104 (.t 17) (.t 20)),
 Qm 5 21] [0,5,12,13])))
 (.reg [Qo 22 (.bin .add (.t 13) (.c (.d (.int .i64 1)))),
 Qm 13 22] [0,5,12,13]))))
def Hf:C:=(.seq (.reg [Qo 4 (.mv (.c .AX))] [0,1])
 (.seq (.reg [Qm 6 0,
 Qo 7 (.call 127 [(.t 6),(.c (.d (.str [40])))])] [0,1])
 (.seq (.reg [Qm 8 0,
 Qo 9 (.call 131 [(.t 8)]),
 Qo 10 (.Mw 44 6 1 [(.d (.int .i64 0)),(.d (.str [])),(.d (.int .i64 0)),.AX,.AX,.AX] [(0,6,(.t 9))]),
 Qm 5 10] [0,1,5])
 (.seq (.seq (.reg [Qm 11 1,
 Qo 12 (.bin .sub (.t 11) (.c (.d (.int .i64 1)))),
 Qo 13 (.mv (.c (.d (.int .i64 0))))] [0,5,12,13])
 (.block 0 (.loop Ln)))
 (.seq (.reg [Qm 23 0,
 Qo 24 (.call 127 [(.t 23),(.c (.d (.str [41])))])] [5])
 (.seq (.reg [Qm 25 5,
 Qm 4 25] [4])
 .ret))))))
noncomputable def Ce:Cx:=⟨Tryz.prog,213,Tryz.f213,26,[10],[],[.t 4]⟩
theorem Hi:Good Ce:=⟨Tryz.func213,by kernel_rfl⟩
theorem N4:Ce.rs=[.t 4]:=rfl
theorem Nt (hl:args.length≤26) (h:Run Ce K [.code Hf] (Ar args) E σ):AQ Tryz.prog 213 args σ K:=
 AW (cx:=Ce) (code:=Tryz.f213.body.getD .skip) Hi (by kernel_rfl) Tryz.ntmps213 hl (AZ Ce _ (Az Hf) _ [] (by kernel_rfl)) h
def Hy:C:=(.seq (.reg [Qo 4 (.mv (.c .AX))] [0,1])
 (.seq (.reg [Qm 6 0,
 Qm 7 1,
 Qo 8 (.call 216 [(.t 6),(.c (.d (.str [44]))),(.t 7)]),
 Qm 5 8] [0,5])
 (.seq (.reg [Qm 9 0,
 Qo 10 (.call 127 [(.t 9),(.c (.d (.str [41])))])] [5])
 (.seq (.reg [Qm 11 5,
 Qm 4 11] [4])
 .ret))))
noncomputable def Cu:Cx:=⟨Tryz.prog,214,Tryz.f214,12,[],[],[.t 4]⟩
theorem IF:Good Cu:=⟨Tryz.func214,by kernel_rfl⟩
theorem Ny:Cu.rs=[.t 4]:=rfl
theorem O1 (hl:args.length≤12) (h:Run Cu K [.code Hy] (Ar args) E σ):AQ Tryz.prog 214 args σ K:=
 AW (cx:=Cu) (code:=Tryz.f214.body.getD .skip) IF (by kernel_rfl) Tryz.ntmps214 hl (AZ Cu _ (Az Hy) _ [] (by kernel_rfl)) h
def Mx:C:=(.seq (.seq (.reg [Qm 11 0,
 Qm 12 1,
 Qo 13 (.call 65 [(.t 11),(.t 12)])] [0,1,2,7,13])
 (.cond (.t 13) .skip
 (.exit 0)))
 (.block 1 (.reg [Qm 14 7,
 Qm 15 2,
 Qo 16 (.E1 (.t 15) []),
 Qo 17 (.bsl 6 1 [(.d (.int .i64 0)),(.d (.str [])),(.d (.int .i64 0)),.AX,.AX,.AX] [(0,6,(.t 16))]),
 Qo 18 (.app 44 6 104 (.t 14) (.t 17)),
 Qm 7 18] [0,1,2,7])))
def Ib:C:=(.seq (.reg [Qo 6 (.mv (.c .AX))] [0,1,2])
 (.seq (.reg [Qm 8 2,
 Qo 9 (.E1 (.t 8) []),
 Qo 10 (.Mw 44 6 1 [(.d (.int .i64 0)),(.d (.str [])),(.d (.int .i64 0)),.AX,.AX,.AX] [(0,6,(.t 9))]),
 Qm 7 10] [0,1,2,7])
 (.seq (.block 0 (.loop Mx))
 (.seq (.reg [Qm 19 7,
 Qm 6 19] [6])
 .ret))))
noncomputable def DF:Cx:=⟨Tryz.prog,216,Tryz.f216,20,[10],[],[.t 6]⟩
theorem Ik:Good DF:=⟨Tryz.func216,by kernel_rfl⟩
theorem Ob:DF.rs=[.t 6]:=rfl
theorem PG (hl:args.length≤20) (h:Run DF K [.code Ib] (Ar args) E σ):AQ Tryz.prog 216 args σ K:=
 AW (cx:=DF) (code:=Tryz.f216.body.getD .skip) Ik (by kernel_rfl) Tryz.ntmps216 hl (AZ DF _ (Az Ib) _ [] (by kernel_rfl)) h
attribute [go_sem] X7 Od Re P6 R9 Sr Rb Qb Rh P5 Rc P7 Mm Sq P0 Ra P4 P2 L8 Sv Ss P1 So R7 R8 Qa L7 Oc L6 Su OB W8 ME Rg Sp Rf Nx P8 Nz MF Ri N4 Ny Ob
end Go.Ab
