/- Two texts in a row, in plain data. What is read is not larger than its text, in plain data. The compact codes of the functions of this seat, computed out of the translation. Conditions: none. -/
import Derived.Test.YtifplkldbbcldaaGreatDoorProg
import Derived.KernelRfl
import Derived.Test.YtifplkldbbcldaaGreatDoorXQm
set_option linter.unusedSimpArgs false
set_option linter.unusedVariables false
set_option maxRecDepth 4000
set_option maxHeartbeats 8000000
open List renaming length_pos_iff→Aq,length_drop→Ad,map_cons→AE,mem_cons→Bm
namespace Go.Ab
theorem nI (n:Nat) (ds:List DE) (fs:List FE) (s:PSt):(LL (n+1) ds fs).run s=
 if s.hd.kind==6 then (⟨ds,fs⟩,s)
                         else if s.hd.text==[100,97,116,97] then (LL n (ds++[(SN.run s.adv).1]) fs).run (SN.run s.adv).2
                         else if s.hd.text==[102,117,110] then (LL n ds (fs++[(X8.run s.adv).1])).run (X8.run s.adv).2
                         else (LL n ds fs).run s.fail:=rfl
theorem uW {s:PSt} (h:WF s.r) (hk:(s.hd.kind==6)=false):2≤s.r.length:=by
 obtain ⟨r,f,p⟩:=s
 match r,h,hk with
 |[t],h,hk=>
  have:(PSt.mk [t] f p).hd=t:=rfl
  rw [this,h.1] at hk;cases hk
 |t::u::l,_,_=>simp
theorem BP {s:PSt} (h:WF s.r):s.adv.r.length+1=s.r.length:=by
 obtain ⟨r,f,p⟩:=s
 cases r with
 |nil=>exact h.elim
 |cons t l=>rfl
theorem Z5 {s:PSt} (h:WF s.r):s.fail.r.length=1:=by
 have:1≤s.r.length:=Aq.2 h.ne
 show (TZ s.r).length=1
 unfold TZ;rw [Ad];omega
theorem mT {a:Str} (h:(Dg a).2.2=0):(Ao a).2.2=0∧(KY.run ⟨(Ao a).1,false,0⟩).2.f=false∧(Dg a).1=(KY.run ⟨(Ao a).1,false,0⟩).1∧E6 (Dg a).1=true:=by
 have h0:(Ao a).2.2=0:=by
  apply Classical.byContradiction
  intro hne
  unfold Dg at h
  rw [if_pos hne] at h
  exact hne h
 rw [Oh h0] at h ⊢
 unfold XW at h ⊢
 split at h
 · cases h
 · rename_i hf
   rw [if_neg hf]
   split at h
   · rename_i hv
     rw [if_pos hv]
     exact ⟨h0,by simpa using hf,rfl,hv⟩
   · cases h
end Go.Ab
namespace Go.Ab
variable {α β:Type}
def SzO (c:Nat) (m:PM α) (μ:α→Nat):Prop:=∀s,WF s.r→(m.run s).2.f=false→μ (m.run s).1+(m.run s).2.r.length≤s.r.length+c
theorem SzO.pure {c:Nat} {a:α} {μ:α→Nat} (h:μ a≤c):SzO c (.pure a) μ:=fun s _ _=>by
 show μ a+s.r.length≤s.r.length+c;omega
theorem SzO.bind {c:Nat} {m:PM α} {f:α→PM β} {μ:α→Nat} {ν:β→Nat} (h:SzO 0 m μ) (hf:∀a,SzO (c+μ a) (f a) ν):SzO c (m.bind f) ν:=fun s hw hs=>by
 have hs':((f (m.run s).1).run (m.run s).2).2.f=false:=hs
 have h1:(m.run s).2.f=false:=by
  cases hc:(m.run s).2.f with
  |false=>rfl
  |true=>have:=((f (m.run s).1).st _ hc).1;rw [hs'] at this;cases this
 have e1:=h s hw h1
 have e2:=hf (m.run s).1 (m.run s).2 (m.sf s hw).1 hs'
 show ν ((f (m.run s).1).run (m.run s).2).1+((f (m.run s).1).run (m.run s).2).2.r.length≤_
 omega
theorem SzO.acc {c:Nat} {t:Str} {ht:t≠[]} {y n:PM α} {μ:α→Nat} (hy:SzO (c+1) y μ) (hn:SzO c n μ):SzO c (.acc t ht y n) μ:=fun s hw hs=>by
 cases hc:s.hd.text==t with
 |true=>
  have e:(PM.acc t ht y n).run s=y.run s.adv:=if_pos hc
  rw [e] at hs ⊢
  have hk:s.hd.text≠[]:=by rw [beq_iff_eq] at hc;rw [hc];exact ht
  have h1:=hy s.adv (RB hw (.inr hk)).1 hs
  have h2:=BP hw
  omega
 |false=>
  have e:(PM.acc t ht y n).run s=n.run s:=if_neg (by rw [hc];decide)
  rw [e] at hs ⊢
  exact hn s hw hs
theorem SzO.kind {c:Nat} {k:Int} {y n:PM α} {μ:α→Nat} (hy:SzO c y μ) (hn:SzO c n μ):SzO c (.kind k y n) μ:=fun s hw hs=>by
 cases hc:s.hd.kind==k with
 |true=>
  have e:(PM.kind k y n).run s=y.run s:=if_pos hc
  rw [e] at hs ⊢
  exact hy s hw hs
 |false=>
  have e:(PM.kind k y n).run s=n.run s:=if_neg (by rw [hc];decide)
  rw [e] at hs ⊢
  exact hn s hw hs
theorem SzO.fail {c:Nat} {a:α} {μ:α→Nat}:SzO c (.fail a) μ:=fun s _ h=>by cases h
theorem SzO.tok {cc:Int→Str→Bool} {hc:∀k t,cc k t=true→k≠6∨t≠[]} {g:Str→α} {b:α}:SzO 0 (.tok cc hc g b) (fun _=>1):=fun s hw hs=>by
 cases hcc:cc s.hd.kind s.hd.text with
 |true=>
  have e:(PM.tok cc hc g b).run s=(g s.hd.text,s.adv):=if_pos hcc
  rw [e]
  have h2:=BP hw
  show 1+s.adv.r.length≤_
  omega
 |false=>
  have e:(PM.tok cc hc g b).run s=(b,s.fail):=if_neg (by rw [hcc];decide)
  rw [e] at hs
  cases hs
theorem SzO.mono {c:Nat} {m:PM α} {μ ν:α→Nat} (h:SzO c m μ) (hl:∀a,ν a≤μ a):SzO c m ν:=fun s hw hs=>by
 have:=h s hw hs;have:=hl (m.run s).1;omega
def Di (μ:α→Nat) (l:List α):Nat:=(l.map μ).sum
theorem aM (μ:α→Nat) (l m:List α):Di μ (l++m)=Di μ l+Di μ m:=by simp [Di]
theorem Wt (μ:α→Nat) (x:α):Di μ [x]=μ x:=by simp [Di]
theorem Tj {μ:α→Nat} {l:List α} {x:α} (h:x∈l):μ x≤Di μ l:=by
 induction l with
 |nil=>cases h
 |cons y l ih=>
  simp only [Di,AE,List.sum_cons] at ih ⊢
  rcases Bm.1 h with rfl|h
  · omega
  · have:=ih h;omega
theorem Wu {read:PM α} {t:Str} {ht:t≠[]} {μ:α→Nat} (h:SzO 0 read μ):∀(n c:Nat) (l:List α),Di μ l≤c→SzO c (EJ read t ht n l) (Di μ)
 |0,c,l,hl=>SzO.pure hl
 |n+1,c,l,hl=>SzO.acc (SzO.bind h (fun a=>Wu h n _ _ (by rw [aM,Wt];omega))) (SzO.pure hl)
theorem YM {read:PM α} {t:Str} {ht:t≠[]} {μ:α→Nat} (h:SzO 0 read μ):SzO 0 (items read t ht) (Di μ):=
 SzO.bind h (fun a=>Wu h _ _ _ (by rw [Wt];omega))
theorem Mn {t:Str} {ht:t≠[]}:SzO 0 (.exp t ht) (fun _=>1):=SzO.tok
theorem Qw {k:Int} {hk:k≠6}:SzO 0 (.take k hk) (fun _=>1):=SzO.tok
theorem So {read:PM α} {μ:α→Nat} (h:SzO 0 read μ):SzO 0 (listed read) (Di μ):=SzO.bind (YM h) (fun a=>SzO.bind Mn (fun _=>SzO.pure (by omega)))
theorem dR {read:PM α} {μ:α→Nat} (h:SzO 0 read μ):SzO 0 (closed read) (Di μ):=SzO.acc (SzO.pure (by simp [Di])) (So h)
theorem Wv {read:PM α} {μ:α→Nat} (h:SzO 0 read μ):SzO 0 (Hf read) (Di μ):=SzO.acc (fun s hw hs=>by have:=So h s hw hs;omega) (SzO.pure (by simp [Di]))
theorem OE:∀l:List TE,TE.BN l=Di TE.size l
 |[]=>rfl
 |t::l=>by rw [TE.BN,OE l];simp [Di]
theorem fX:∀n,SzO 0 (FZ n) TE.size
 |0=>SzO.fail
 |n+1=>by
  have ih:=fX n
  have hel:∀k,SzO 1 (Qe k (FZ n)) TE.size:=fun k=>SzO.bind Mn (fun _=>SzO.bind ih (fun t=>SzO.bind Mn (fun _=>SzO.pure (by simp [TE.size,TE.BN];omega))))
  rw [FZ]
  refine SzO.kind (SzO.bind Qw (fun x=>SzO.pure (by simp [TE.size,TE.BN]))) ?_
  refine SzO.kind (SzO.bind Qw (fun x=>SzO.bind (Wv ih) (fun l=>SzO.pure (by rw [TE.size,OE];omega)))) ?_
  refine SzO.acc (SzO.pure (by simp [TE.size,TE.BN])) (SzO.acc (SzO.pure (by simp [TE.size,TE.BN])) (SzO.acc (SzO.pure (by simp [TE.size,TE.BN])) (SzO.acc (hel 7) (SzO.acc (hel 8) (SzO.acc ?_ (SzO.acc ?_ SzO.fail))))))
  · exact SzO.bind ih (fun a=>SzO.bind Mn (fun _=>SzO.bind (So ih) (fun l=>SzO.pure (by rw [TE.size,TE.BN,OE];omega))))
  · exact SzO.bind Mn (fun _=>SzO.bind (dR ih) (fun l=>SzO.bind Mn (fun _=>SzO.bind ih (fun t=>SzO.pure (by rw [TE.size,TE.En,TE.BN,TE.BN,OE];omega)))))
def kN (c:CE):Nat:=Di TE.size c.args
def bY (d:DE):Nat:=Di kN d.cons
theorem rA:SzO 0 Zv kN:=SzO.bind Qw (fun c=>SzO.bind (Wv (fX _)) (fun l=>SzO.pure (by show Di TE.size l≤_;omega)))
theorem n6:SzO 0 SN bY:=SzO.bind Qw (fun c=>SzO.bind (Wv (μ:=fun _=>0) (Qw.mono (fun _=>by omega))) (fun l=>SzO.bind Mn (fun _=>SzO.bind (YM rA) (fun cs=>SzO.bind Mn (fun _=>SzO.pure (by show Di kN cs≤_;omega))))))
theorem zro (m:PM α):SzO 0 m (fun _=>0):=fun s hw _=>by have:=(m.sf s hw).2.length_le;simp only;omega
theorem Tl:∀(n c:Nat) (ds:List DE) (fs:List FE),Di bY ds≤c→SzO c (LL n ds fs) (fun p=>Di bY p.data)
 |0,c,ds,fs,h=>SzO.pure h
 |n+1,c,ds,fs,h=>by
  rw [LL]
  exact SzO.kind (SzO.pure h) (SzO.acc (SzO.bind n6 (fun d=>Tl n _ _ _ (by rw [aM,Wt];omega))) (SzO.acc (SzO.bind (zro X8) (fun f=>Tl n _ _ _ (by omega))) (SzO.bind (zro (PM.fail ())) (fun _=>Tl n _ _ _ (by omega)))))
theorem aB {r:List Tok} {p:Nat} (hw:WF r) (hl:r.length≤17000) (hf:(KY.run ⟨r,false,p⟩).2.f=false):∀d∈(KY.run ⟨r,false,p⟩).1.data,∀c∈d.cons,∀t∈c.args,t.size≤17000:=by
 have h:=Tl BC 0 [] [] (by simp [Di]) ⟨r,false,p⟩ hw hf
 intro d hd c hc t ht
 have h1:t.size≤kN c:=Tj ht
 have h2:kN c≤bY d:=Tj hc
 have h3:bY d≤Di bY (KY.run ⟨r,false,p⟩).1.data:=Tj hd
 have h4:Di bY (KY.run ⟨r,false,p⟩).1.data+(KY.run ⟨r,false,p⟩).2.r.length≤r.length+0:=h
 omega
end Go.Ab
namespace Go.Ab
open Go.Proofs
variable {args:List AV} {σ:AN} {K:AV→AN→Prop}
def Vo:C:=(.seq (.reg [Qo 2 (.al [.AW,.AW] false),
 Qo 3 (.mv (.c (.d (.int .i64 0)))),
 Qo 4 (.mv (.c (.d (.int .i64 0))))] [0,2])
 (.seq (.reg [Qm 11 0,
 Qo 12 (.call 21 [(.t 11)]),
 Qm 10 12,
 Qo 13 (.ext (.t 10) 0),
 Qo 14 (.ext (.t 10) 1),
 Qo 15 (.ext (.t 10) 2),
 Qm 5 13,
 Qm 6 14,
 Qm 7 15] [2,5,6,7])
 (.seq (.seq (.reg [Qm 16 7,
 Qo 17 (.bin .neq (.t 16) (.c (.d (.int .i64 0))))] [2,5,6,7,17])
 (.cond (.t 17) (.seq (.reg [Qo 18 (.bld [.AW,.AW] []),
 Qm 19 6,
 Qm 20 7,
 ⟨none,.st (.t 2) (.t 18) 2,none⟩,
 Qm 3 19,
 Qm 4 20] [2,3,4])
 .ret)
 .skip))
 (.seq (.reg [Qm 21 5,
 Qo 22 (.bld [.AW,(.d (.int .i64 0)),(.d (.bool false)),(.d (.int .i64 0))] [(0,1,(.t 21))]),
 Qo 23 (.box (.t 22) true),
 Qm 8 23] [2,8])
 (.seq (.reg [Qm 24 8,
 Qo 25 (.call 28 [(.t 24)]),
 Qo 9 (.al [.AW,.AW] false),
 ⟨none,.st (.t 9) (.t 25) 2,none⟩] [2,8,9])
 (.seq (.seq (.reg [Qm 26 8,
 Qo 27 (.nck (.t 26)),
 Qo 28 (.fld (.t 27) 2),
 Qo 29 (.ld (.t 28) none)] [2,8,9,29])
 (.cond (.t 29) (.seq (.Qi (.one (Qo 30 (.bld [.AW,.AW] []))
 (.one (Qm 31 8)
 (.one (Qo 32 (.nck (.t 31)))
 (.one (Qo 33 (.fld (.t 32) 3))
 (.alt (Qo 34 (.ld (.t 33) none))
 (.one ⟨none,.st (.t 2) (.t 30) 2,none⟩
 (.one (Qm 3 34)
 (.one (Qo 4 (.mv (.c (.d (.int .i64 2)))))
 .done)))
 (.alt ⟨none,.st (.t 2) (.t 30) 2,none⟩
 (.one (Qo 34 (.ld (.t 33) none))
 (.one (Qm 3 34)
 (.one (Qo 4 (.mv (.c (.d (.int .i64 2)))))
 .done)))
 .done)))))) [2,3,4])
 .ret)
 .skip))
 (.seq (.seq (.reg [Qo 35 (.ldl (.t 9) (some 2)),
 Qo 36 (.call 19 [(.t 35)]),
 Qo 37 (.un .not (.t 36))] [2,9,37])
 (.cond (.t 37) (.seq (.reg [Qo 38 (.bld [.AW,.AW] []),
 ⟨none,.st (.t 2) (.t 38) 2,none⟩,
 Qo 3 (.mv (.c (.d (.int .i64 0)))),
 Qo 4 (.mv (.c (.d (.int .i64 9))))] [2,3,4])
 .ret)
 .skip))
 (.seq (.reg [Qo 39 (.ldl (.t 9) (some 2)),
 ⟨none,.st (.t 2) (.t 39) 2,none⟩,
 Qo 3 (.mv (.c (.d (.int .i64 0)))),
 Qo 4 (.mv (.c (.d (.int .i64 0))))] [2,3,4])
 .ret))))))))
def Ww:List (List Nat×PT):=[([0,2],.done),([2,5,6,7],.done),([2,5,6,7,17],.done),([2,3,4],.done),([2,8],.done),([2,8,9],.done),([2,8,9,29],.done),([2,3,4],(.one 0 (.one 1 (.one 2 (.one 3 (.alt 4 (.one 5 (.one 6 (.one 7 .done))) (.alt 5 (.one 4 (.one 6 (.one 7 .done))) .done))))))),([2,9,37],.done),([2,3,4],.done),([2,3,4],.done)]
noncomputable def Gf:Cx:=⟨Tryz.prog,12,Tryz.f12,40,[23,300035,300039],[],[.c 2 (some 2),.t 3,.t 4]⟩
theorem G0:Good Gf:=⟨Tryz.func12,by kernel_rfl⟩
theorem VJ:Gf.rs=[.c 2 (some 2),.t 3,.t 4]:=rfl
theorem WA (hl:args.length≤40) (h:Run Gf K [.code Vo] (As args) E σ):AT Tryz.prog 12 args σ K:=
 AX (cx:=Gf) (code:=Tryz.f12.body.getD .skip) G0 (by kernel_rfl) Tryz.ntmps12 hl (AZ Gf _ Ww _ [] (by kernel_rfl)) h
def Lk:C:=(.seq (.seq (.reg [Qm 4 0,
 Qo 5 (.call 64 [(.t 4)]),
 Qo 6 (.fd (.t 5) 0 none),
 Qo 7 (.bin .neq (.t 6) (.c (.d (.int .i64 6))))] [0,2,3,7])
 (.cond (.t 7) .skip
 (.exit 0)))
 (.block 1 (.block 2 (.seq (.reg [Qm 11 0,
 Qo 12 (.call 65 [(.t 11),(.c (.d (.str [100,97,116,97])))]),
 Qm 10 12] [0,2,3,10])
 (.cond (.t 10) (.reg [Qo 13 (.fld (.t 3) 0),
 Qo 14 (.ldl (.t 13) none),
 Qm 15 0,
 Qo 16 (.call 66 [(.t 15)]),
 Qo 17 (.bsl 3 1 [(.d (.str [])),.AW,.AW] [(0,3,(.t 16))]),
 Qo 18 (.app 61 3 64 (.t 14) (.t 17)),
 Qo 19 (.fld (.t 3) 0),
 ⟨none,.st (.t 19) (.t 18) 1,none⟩] [0,2,3])
 (.seq (.reg [Qm 21 0,
 Qo 22 (.call 65 [(.t 21),(.c (.d (.str [102,117,110])))]),
 Qm 20 22] [0,2,3,20])
 (.cond (.t 20) (.reg [Qo 23 (.fld (.t 3) 1),
 Qo 24 (.ldl (.t 23) none),
 Qm 25 0,
 Qo 26 (.call 67 [(.t 25)]),
 Qo 27 (.bsl 8 1 [(.d (.str [])),.AW,(.d (.int .i64 0)),(.d (.str [])),(.d (.int .i64 0)),.AW,.AW,.AW] [(0,8,(.t 26))]),
 Qo 28 (.app 66 8 144 (.t 24) (.t 27)),
 Qo 29 (.fld (.t 3) 1),
 ⟨none,.st (.t 29) (.t 28) 1,none⟩] [0,2,3])
 (.reg [Qm 8 0,
 Qo 9 (.call 68 [(.t 8)])] [0,2,3]))))))))
def Hk:C:=(.seq (.reg [Qo 2 (.al [.AW,.AW] false)] [0,2])
 (.seq (.reg [Qo 3 (.al [.AW,.AW] false)] [0,2,3])
 (.seq (.block 0 (.loop Lk))
 (.seq (.reg [Qo 30 (.ldl (.t 3) (some 2)),
 ⟨none,.st (.t 2) (.t 30) 2,none⟩] [2])
 .ret))))
noncomputable def Bb:Cx:=⟨Tryz.prog,28,Tryz.f28,31,[300014,300024,300030],[],[.c 2 (some 2)]⟩
theorem Hr:Good Bb:=⟨Tryz.func28,by kernel_rfl⟩
theorem NK:Bb.rs=[.c 2 (some 2)]:=rfl
theorem N8 (hl:args.length≤31) (h:Run Bb K [.code Hk] (As args) E σ):AT Tryz.prog 28 args σ K:=
 AX (cx:=Bb) (code:=Tryz.f28.body.getD .skip) Hr (by kernel_rfl) Tryz.ntmps28 hl (AZ Bb _ (BB Hk) _ [] (by kernel_rfl)) h
def Jv:C:=(.seq (.reg [Qo 2 (.al [(.d (.int .i64 0)),(.d (.str [])),(.d (.int .i64 0))] false)] [0,2])
 (.seq (.reg [Qm 3 0,
 Qo 4 (.nck (.t 3)),
 Qo 5 (.fld (.t 4) 0),
 Qo 6 (.ld (.t 5) none),
 Qm 7 0,
 Qo 8 (.nck (.t 7)),
 Qo 9 (.fld (.t 8) 1),
 Qo 10 (.ld (.t 9) none),
 Qo 11 (.ix (.t 6) (.t 10) 3),
 Qo 12 (.ld (.t 11) (some 3)),
 ⟨none,.st (.t 2) (.t 12) 3,none⟩] [2])
 .ret))
noncomputable def Dt:Cx:=⟨Tryz.prog,64,Tryz.f64,13,[],[],[.c 2 (some 3)]⟩
theorem KL:Good Dt:=⟨Tryz.func64,by kernel_rfl⟩
theorem Po:Dt.rs=[.c 2 (some 3)]:=rfl
theorem QZ (hl:args.length≤13) (h:Run Dt K [.code Jv] (As args) E σ):AT Tryz.prog 64 args σ K:=
 AX (cx:=Dt) (code:=Tryz.f64.body.getD .skip) KL (by kernel_rfl) Tryz.ntmps64 hl (AZ Dt _ (BB Jv) _ [] (by kernel_rfl)) h
def IS:C:=(.seq (.reg [Qo 4 (.mv (.c (.d (.bool false))))] [0,1])
 (.seq (.seq (.reg [Qm 5 0,
 Qo 6 (.call 64 [(.t 5)]),
 Qo 7 (.fd (.t 6) 1 none),
 Qm 8 1,
 Qo 9 (.bin .neq (.t 7) (.t 8))] [0,9])
 (.cond (.t 9) (.seq (.reg [Qo 4 (.mv (.c (.d (.bool false))))] [4])
 .ret)
 .skip))
 (.seq (.reg [Qm 10 0,
 Qo 11 (.nck (.t 10)),
 Qo 12 (.fld (.t 11) 1),
 Qo 13 (.ld (.t 12) none),
 Qo 14 (.bin .add (.t 13) (.c (.d (.int .i64 1)))),
 Qo 15 (.nck (.t 10)),
 Qo 16 (.fld (.t 15) 1),
 ⟨none,.st (.t 16) (.t 14) 1,none⟩] [])
 (.seq (.reg [Qo 4 (.mv (.c (.d (.bool true))))] [4])
 .ret))))
noncomputable def DC:Cx:=⟨Tryz.prog,65,Tryz.f65,17,[],[],[.t 4]⟩
theorem Fe:Good DC:=⟨Tryz.func65,by kernel_rfl⟩
theorem Nv:DC.rs=[.t 4]:=rfl
theorem I9 (hl:args.length≤17) (h:Run DC K [.code IS] (As args) E σ):AT Tryz.prog 65 args σ K:=
 AX (cx:=DC) (code:=Tryz.f65.body.getD .skip) Fe (by kernel_rfl) Tryz.ntmps65 hl (AZ DC _ (BB IS) _ [] (by kernel_rfl)) h
def Jr:C:=(.seq (.reg [Qo 2 (.al [(.d (.str [])),.AW,.AW] false)] [0,2])
 (.seq (.reg [Qm 4 0,
 Qo 5 (.call 124 [(.t 4),(.c (.d (.int .i64 2)))]),
 Qo 6 (.bld [(.d (.str [])),.AW,.AW] [(0,1,(.t 5))]),
 Qo 3 (.al [(.d (.str [])),.AW,.AW] false),
 ⟨none,.st (.t 3) (.t 6) 3,none⟩] [0,2,3])
 (.seq (.reg [Qm 7 0,
 Qm 8 0,
 Qo 9 (.mkf 126 [(.t 8)] []),
 Qo 10 (.call 125 [(.t 7),(.t 9)]),
 Qo 11 (.fld (.t 3) 1),
 ⟨none,.st (.t 11) (.t 10) 1,none⟩] [0,2,3])
 (.seq (.reg [Qm 12 0,
 Qo 13 (.call 127 [(.t 12),(.c (.d (.str [61])))])] [0,2,3])
 (.seq (.reg [Qm 14 0,
 Qm 15 0,
 Qo 16 (.mkf 129 [(.t 15)] []),
 Qo 17 (.call 128 [(.t 14),(.c (.d (.str [124]))),(.t 16)]),
 Qo 18 (.fld (.t 3) 2),
 ⟨none,.st (.t 18) (.t 17) 1,none⟩] [0,2,3])
 (.seq (.reg [Qm 19 0,
 Qo 20 (.call 127 [(.t 19),(.c (.d (.str [59])))])] [2,3])
 (.seq (.reg [Qo 21 (.ldl (.t 3) (some 3)),
 ⟨none,.st (.t 2) (.t 21) 3,none⟩] [2])
 .ret)))))))
noncomputable def Dp:Cx:=⟨Tryz.prog,66,Tryz.f66,22,[300021],[],[.c 2 (some 3)]⟩
theorem KI:Good Dp:=⟨Tryz.func66,by kernel_rfl⟩
theorem Pk:Dp.rs=[.c 2 (some 3)]:=rfl
theorem QV (hl:args.length≤22) (h:Run Dp K [.code Jr] (As args) E σ):AT Tryz.prog 66 args σ K:=
 AX (cx:=Dp) (code:=Tryz.f66.body.getD .skip) KI (by kernel_rfl) Tryz.ntmps66 hl (AZ Dp _ (BB Jr) _ [] (by kernel_rfl)) h
def LA:C:=(.seq (.reg [Qo 2 (.al [(.d (.str [])),.AW,(.d (.int .i64 0)),(.d (.str [])),(.d (.int .i64 0)),.AW,.AW,.AW] false)] [0,2])
 (.seq (.reg [Qm 4 0,
 Qo 5 (.call 126 [(.t 4)]),
 Qo 6 (.bld [(.d (.str [])),.AW,(.d (.int .i64 0)),(.d (.str [])),(.d (.int .i64 0)),.AW,.AW,.AW] [(0,1,(.t 5))]),
 Qo 3 (.al [(.d (.str [])),.AW,(.d (.int .i64 0)),(.d (.str [])),(.d (.int .i64 0)),.AW,.AW,.AW] false),
 ⟨none,.st (.t 3) (.t 6) 8,none⟩] [0,2,3])
 (.seq (.reg [Qm 7 0,
 Qo 8 (.call 127 [(.t 7),(.c (.d (.str [40])))])] [0,2,3])
 (.seq (.reg [Qm 9 0,
 Qm 10 0,
 Qo 11 (.mkf 126 [(.t 10)] []),
 Qo 12 (.call 130 [(.t 9),(.t 11)]),
 Qo 13 (.fld (.t 3) 1),
 ⟨none,.st (.t 13) (.t 12) 1,none⟩] [0,2,3])
 (.seq (.reg [Qm 14 0,
 Qo 15 (.call 127 [(.t 14),(.c (.d (.str [61])))])] [0,2,3])
 (.seq (.reg [Qm 16 0,
 Qo 17 (.call 131 [(.t 16)]),
 Qo 18 (.fld (.t 3) 2),
 ⟨none,.st (.t 18) (.t 17) 6,none⟩] [0,2,3])
 (.seq (.reg [Qm 19 0,
 Qo 20 (.call 127 [(.t 19),(.c (.d (.str [59])))])] [2,3])
 (.seq (.reg [Qo 21 (.ldl (.t 3) (some 8)),
 ⟨none,.st (.t 2) (.t 21) 8,none⟩] [2])
 .ret))))))))
noncomputable def ET:Cx:=⟨Tryz.prog,67,Tryz.f67,22,[300021],[],[.c 2 (some 8)]⟩
theorem LI:Good ET:=⟨Tryz.func67,by kernel_rfl⟩
theorem Qp:ET.rs=[.c 2 (some 8)]:=rfl
theorem R9 (hl:args.length≤22) (h:Run ET K [.code LA] (As args) E σ):AT Tryz.prog 67 args σ K:=
 AX (cx:=ET) (code:=Tryz.f67.body.getD .skip) LI (by kernel_rfl) Tryz.ntmps67 hl (AZ ET _ (BB LA) _ [] (by kernel_rfl)) h
def Jt:C:=(.seq (.seq (.reg [Qm 2 0,
 Qo 3 (.nck (.t 2)),
 Qo 4 (.fld (.t 3) 2),
 Qo 5 (.ld (.t 4) none),
 Qo 6 (.un .not (.t 5))] [0,6])
 (.cond (.t 6) (.reg [Qm 7 0,
 Qm 8 0,
 Qm 9 0,
 Qo 10 (.call 64 [(.t 9)]),
 Qo 11 (.fd (.t 10) 2 none),
 Qo 12 (.nck (.t 7)),
 Qo 13 (.fld (.t 12) 2),
 ⟨none,.st (.t 13) (.c (.d (.bool true))) 1,none⟩,
 Qo 14 (.nck (.t 8)),
 Qo 15 (.fld (.t 14) 3),
 ⟨none,.st (.t 15) (.t 11) 1,none⟩] [0])
 .skip))
 (.reg [Qm 16 0,
 Qm 17 0,
 Qo 18 (.nck (.t 17)),
 Qo 19 (.fld (.t 18) 0),
 Qo 20 (.ld (.t 19) none),
 Qo 21 (.len (.t 20)),
 Qo 22 (.bin .sub (.t 21) (.c (.d (.int .i64 1)))),
 Qo 23 (.nck (.t 16)),
 Qo 24 (.fld (.t 23) 1),
 ⟨none,.st (.t 24) (.t 22) 1,none⟩] []))
noncomputable def Dr:Cx:=⟨Tryz.prog,68,Tryz.f68,25,[],[],[]⟩
theorem G6:Good Dr:=⟨Tryz.func68,by kernel_rfl⟩
theorem Pm:Dr.rs=[]:=rfl
theorem QX (hl:args.length≤25) (h:Run Dr K [.code Jt] (As args) E σ):AT Tryz.prog 68 args σ K:=
 AX (cx:=Dr) (code:=Tryz.f68.body.getD .skip) G6 (by kernel_rfl) Tryz.ntmps68 hl (AZ Dr _ (BB Jt) _ [] (by kernel_rfl)) h
def JC:C:=(.seq (.reg [Qo 2 (.mv (.c (.d (.str []))))] [0])
 (.seq (.seq (.reg [Qm 3 0] [3])
 (.block 0 (.seq (.reg [Qo 5 (.bin .eql (.t 3) (.c (.d (.int .i64 1)))),
 Qm 4 5] [3,4])
 (.cond (.t 4) (.seq (.reg [Qo 2 (.mv (.c (.d (.str [43]))))] [2])
 .ret)
 (.seq (.reg [Qo 7 (.bin .eql (.t 3) (.c (.d (.int .i64 2)))),
 Qm 6 7] [3,6])
 (.cond (.t 6) (.seq (.reg [Qo 2 (.mv (.c (.d (.str [45]))))] [2])
 .ret)
 (.seq (.reg [Qo 9 (.bin .eql (.t 3) (.c (.d (.int .i64 3)))),
 Qm 8 9] [3,8])
 (.cond (.t 8) (.seq (.reg [Qo 2 (.mv (.c (.d (.str [42]))))] [2])
 .ret)
 (.seq (.reg [Qo 11 (.bin .eql (.t 3) (.c (.d (.int .i64 4)))),
 Qm 10 11] [3,10])
 (.cond (.t 10) (.seq (.reg [Qo 2 (.mv (.c (.d (.str [47]))))] [2])
 .ret)
 (.seq (.reg [Qo 13 (.bin .eql (.t 3) (.c (.d (.int .i64 5)))),
 Qm 12 13] [3,12])
 (.cond (.t 12) (.seq (.reg [Qo 2 (.mv (.c (.d (.str [37]))))] [2])
 .ret)
 (.seq (.reg [Qo 15 (.bin .eql (.t 3) (.c (.d (.int .i64 6)))),
 Qm 14 15] [3,14])
 (.cond (.t 14) (.seq (.reg [Qo 2 (.mv (.c (.d (.str [60]))))] [2])
 .ret)
 (.seq (.reg [Qo 17 (.bin .eql (.t 3) (.c (.d (.int .i64 7)))),
 Qm 16 17] [16])
 (.cond (.t 16) (.seq (.reg [Qo 2 (.mv (.c (.d (.str [60,61]))))] [2])
 .ret)
 .skip))))))))))))))))
 (.seq (.reg [Qo 2 (.mv (.c (.d (.str [61,61]))))] [2])
 .ret)))
noncomputable def DR:Cx:=⟨Tryz.prog,91,Tryz.f91,18,[],[],[.t 2]⟩
theorem JO:Good DR:=⟨Tryz.func91,by kernel_rfl⟩
theorem On:DR.rs=[.t 2]:=rfl
theorem P1 (hl:args.length≤18) (h:Run DR K [.code JC] (As args) E σ):AT Tryz.prog 91 args σ K:=
 AX (cx:=DR) (code:=Tryz.f91.body.getD .skip) JO (by kernel_rfl) Tryz.ntmps91 hl (AZ DR _ (BB JC) _ [] (by kernel_rfl)) h
def Jy:C:=(.seq (.reg [Qo 4 (.mv (.c (.d (.str []))))] [0,1])
 (.seq (.reg [Qm 6 0,
 Qo 7 (.call 64 [(.t 6)]),
 Qo 5 (.al [(.d (.int .i64 0)),(.d (.str [])),(.d (.int .i64 0))] false),
 ⟨none,.st (.t 5) (.t 7) 3,none⟩] [0,1,5])
 (.seq (.seq (.reg [Qo 8 (.fld (.t 5) 0),
 Qo 9 (.ldl (.t 8) none),
 Qm 10 1,
 Qo 11 (.bin .neq (.t 9) (.t 10))] [0,5,11])
 (.cond (.t 11) (.seq (.reg [Qm 12 0,
 Qo 13 (.call 68 [(.t 12)])] [])
 (.seq (.reg [Qo 4 (.mv (.c (.d (.str []))))] [4])
 .ret))
 .skip))
 (.seq (.reg [Qm 14 0,
 Qo 15 (.nck (.t 14)),
 Qo 16 (.fld (.t 15) 1),
 Qo 17 (.ld (.t 16) none),
 Qo 18 (.bin .add (.t 17) (.c (.d (.int .i64 1)))),
 Qo 19 (.nck (.t 14)),
 Qo 20 (.fld (.t 19) 1),
 ⟨none,.st (.t 20) (.t 18) 1,none⟩] [5])
 (.seq (.reg [Qo 21 (.fld (.t 5) 1),
 Qo 22 (.ldl (.t 21) none),
 Qm 4 22] [4])
 .ret)))))
noncomputable def Dw:Cx:=⟨Tryz.prog,124,Tryz.f124,23,[300009,300022],[],[.t 4]⟩
theorem G7:Good Dw:=⟨Tryz.func124,by kernel_rfl⟩
theorem Ps:Dw.rs=[.t 4]:=rfl
theorem Q2 (hl:args.length≤23) (h:Run Dw K [.code Jy] (As args) E σ):AT Tryz.prog 124 args σ K:=
 AX (cx:=Dw) (code:=Tryz.f124.body.getD .skip) G7 (by kernel_rfl) Tryz.ntmps124 hl (AZ Dw _ (BB Jy) _ [] (by kernel_rfl)) h
def IQ:C:=(.seq (.reg [Qo 4 (.mv (.c .AW))] [0,1])
 (.seq (.seq (.reg [Qm 5 0,
 Qo 6 (.call 65 [(.t 5),(.c (.d (.str [40])))]),
 Qo 7 (.un .not (.t 6))] [0,1,7])
 (.cond (.t 7) (.seq (.reg [Qo 4 (.mv (.c .AW))] [4])
 .ret)
 .skip))
 (.seq (.reg [Qm 8 0,
 Qm 9 1,
 Qo 10 (.call 166 [(.t 8),(.t 9)]),
 Qm 4 10] [4])
 .ret)))
noncomputable def DB:Cx:=⟨Tryz.prog,125,Tryz.f125,11,[],[],[.t 4]⟩
theorem Fc:Good DB:=⟨Tryz.func125,by kernel_rfl⟩
theorem Nu:DB.rs=[.t 4]:=rfl
theorem O7 (hl:args.length≤11) (h:Run DB K [.code IQ] (As args) E σ):AT Tryz.prog 125 args σ K:=
 AX (cx:=DB) (code:=Tryz.f125.body.getD .skip) Fc (by kernel_rfl) Tryz.ntmps125 hl (AZ DB _ (BB IQ) _ [] (by kernel_rfl)) h
def Ju:C:=(.seq (.reg [Qo 2 (.mv (.c (.d (.str []))))] [0])
 (.seq (.reg [Qm 3 0,
 Qo 4 (.call 124 [(.t 3),(.c (.d (.int .i64 1)))]),
 Qm 2 4] [2])
 .ret))
noncomputable def Ds:Cx:=⟨Tryz.prog,126,Tryz.f126,5,[],[],[.t 2]⟩
theorem KJ:Good Ds:=⟨Tryz.func126,by kernel_rfl⟩
theorem Pn:Ds.rs=[.t 2]:=rfl
theorem QY (hl:args.length≤5) (h:Run Ds K [.code Ju] (As args) E σ):AT Tryz.prog 126 args σ K:=
 AX (cx:=Ds) (code:=Tryz.f126.body.getD .skip) KJ (by kernel_rfl) Tryz.ntmps126 hl (AZ Ds _ (BB Ju) _ [] (by kernel_rfl)) h
def IU:C:=(.seq (.reg [Qm 4 0,
 Qm 5 1,
 Qo 6 (.call 65 [(.t 4),(.t 5)]),
 Qo 7 (.un .not (.t 6))] [0,7])
 (.cond (.t 7) (.reg [Qm 8 0,
 Qo 9 (.call 68 [(.t 8)])] [])
 .skip))
noncomputable def DD:Cx:=⟨Tryz.prog,127,Tryz.f127,10,[],[],[]⟩
theorem Ff:Good DD:=⟨Tryz.func127,by kernel_rfl⟩
theorem Nw:DD.rs=[]:=rfl
theorem O8 (hl:args.length≤10) (h:Run DD K [.code IU] (As args) E σ):AT Tryz.prog 127 args σ K:=
 AX (cx:=DD) (code:=Tryz.f127.body.getD .skip) Ff (by kernel_rfl) Tryz.ntmps127 hl (AZ DD _ (BB IU) _ [] (by kernel_rfl)) h
def Jo:C:=(.seq (.seq (.reg [Qm 11 0,
 Qm 12 1,
 Qo 13 (.call 65 [(.t 11),(.t 12)])] [0,1,2,7,13])
 (.cond (.t 13) .skip
 (.exit 0)))
 (.block 1 (.reg [Qm 14 7,
 Qm 15 2,
 Qo 16 (.ED (.t 15) []),
 Qo 17 (.bsl 2 1 [(.d (.str [])),.AW] [(0,2,(.t 16))]),
 Qo 18 (.app 72 2 40 (.t 14) (.t 17)),
 Qm 7 18] [0,1,2,7])))
def GW:C:=(.seq (.reg [Qo 6 (.mv (.c .AW))] [0,1,2])
 (.seq (.reg [Qm 8 2,
 Qo 9 (.ED (.t 8) []),
 Qo 10 (.Li 72 2 1 [(.d (.str [])),.AW] [(0,2,(.t 9))]),
 Qm 7 10] [0,1,2,7])
 (.seq (.block 0 (.loop Jo))
 (.seq (.reg [Qm 19 7,
 Qm 6 19] [6])
 .ret))))
noncomputable def CJ:Cx:=⟨Tryz.prog,128,Tryz.f128,20,[10],[],[.t 6]⟩
theorem G2:Good CJ:=⟨Tryz.func128,by kernel_rfl⟩
theorem L8:CJ.rs=[.t 6]:=rfl
theorem MC (hl:args.length≤20) (h:Run CJ K [.code GW] (As args) E σ):AT Tryz.prog 128 args σ K:=
 AX (cx:=CJ) (code:=Tryz.f128.body.getD .skip) G2 (by kernel_rfl) Tryz.ntmps128 hl (AZ CJ _ (BB GW) _ [] (by kernel_rfl)) h
def Kz:C:=(.seq (.reg [Qo 2 (.al [(.d (.str [])),.AW] false)] [0,2])
 (.seq (.reg [Qm 4 0,
 Qo 5 (.call 124 [(.t 4),(.c (.d (.int .i64 2)))]),
 Qo 6 (.bld [(.d (.str [])),.AW] [(0,1,(.t 5))]),
 Qo 3 (.al [(.d (.str [])),.AW] false),
 ⟨none,.st (.t 3) (.t 6) 2,none⟩] [0,2,3])
 (.seq (.reg [Qm 7 0,
 Qm 8 0,
 Qo 9 (.mkf 168 [(.t 8)] []),
 Qo 10 (.call 167 [(.t 7),(.t 9)]),
 Qo 11 (.fld (.t 3) 1),
 ⟨none,.st (.t 11) (.t 10) 1,none⟩] [2,3])
 (.seq (.reg [Qo 12 (.ldl (.t 3) (some 2)),
 ⟨none,.st (.t 2) (.t 12) 2,none⟩] [2])
 .ret))))
noncomputable def ES:Cx:=⟨Tryz.prog,129,Tryz.f129,13,[300012],[],[.c 2 (some 2)]⟩
theorem LH:Good ES:=⟨Tryz.func129,by kernel_rfl⟩
theorem Qn:ES.rs=[.c 2 (some 2)]:=rfl
theorem R8 (hl:args.length≤13) (h:Run ES K [.code Kz] (As args) E σ):AT Tryz.prog 129 args σ K:=
 AX (cx:=ES) (code:=Tryz.f129.body.getD .skip) LH (by kernel_rfl) Tryz.ntmps129 hl (AZ ES _ (BB Kz) _ [] (by kernel_rfl)) h
def IK:C:=(.seq (.reg [Qo 4 (.mv (.c .AW))] [0,1])
 (.seq (.seq (.reg [Qm 5 0,
 Qo 6 (.call 65 [(.t 5),(.c (.d (.str [41])))])] [0,1,6])
 (.cond (.t 6) (.seq (.reg [Qo 4 (.mv (.c .AW))] [4])
 .ret)
 .skip))
 (.seq (.reg [Qm 7 0,
 Qm 8 1,
 Qo 9 (.call 166 [(.t 7),(.t 8)]),
 Qm 4 9] [4])
 .ret)))
noncomputable def Cv:Cx:=⟨Tryz.prog,130,Tryz.f130,10,[],[],[.t 4]⟩
theorem Fa:Good Cv:=⟨Tryz.func130,by kernel_rfl⟩
theorem Np:Cv.rs=[.t 4]:=rfl
theorem O2 (hl:args.length≤10) (h:Run Cv K [.code IK] (As args) E σ):AT Tryz.prog 130 args σ K:=
 AX (cx:=Cv) (code:=Tryz.f130.body.getD .skip) Fa (by kernel_rfl) Tryz.ntmps130 hl (AZ Cv _ (BB IK) _ [] (by kernel_rfl)) h
def Js:C:=(.seq (.reg [Qo 2 (.al [(.d (.int .i64 0)),(.d (.str [])),(.d (.int .i64 0)),.AW,.AW,.AW] false)] [0,2])
 (.seq (.block 0 (.seq (.reg [Qm 11 0,
 Qo 12 (.call 65 [(.t 11),(.c (.d (.str [108,101,116])))]),
 Qm 10 12] [0,2,10])
 (.cond (.t 10) (.seq (.reg [Qm 13 0,
 Qo 14 (.call 169 [(.t 13)]),
 ⟨none,.st (.t 2) (.t 14) 6,none⟩] [2])
 .ret)
 (.seq (.reg [Qm 16 0,
 Qo 17 (.call 65 [(.t 16),(.c (.d (.str [105,102])))]),
 Qm 15 17] [0,2,15])
 (.cond (.t 15) (.seq (.reg [Qm 18 0,
 Qo 19 (.call 131 [(.t 18)]),
 Qo 3 (.al [(.d (.int .i64 0)),(.d (.str [])),(.d (.int .i64 0)),.AW,.AW,.AW] false),
 ⟨none,.st (.t 3) (.t 19) 6,none⟩] [0,2,3])
 (.seq (.reg [Qm 20 0,
 Qo 21 (.call 127 [(.t 20),(.c (.d (.str [116,104,101,110])))])] [0,2,3])
 (.seq (.reg [Qm 22 0,
 Qo 23 (.call 131 [(.t 22)]),
 Qo 4 (.al [(.d (.int .i64 0)),(.d (.str [])),(.d (.int .i64 0)),.AW,.AW,.AW] false),
 ⟨none,.st (.t 4) (.t 23) 6,none⟩] [0,2,3,4])
 (.seq (.reg [Qm 24 0,
 Qo 25 (.call 127 [(.t 24),(.c (.d (.str [101,108,115,101])))])] [0,2,3,4])
 (.seq (.reg [Qo 26 (.ldl (.t 3) (some 6)),
 Qo 27 (.ldl (.t 4) (some 6)),
 Qm 28 0,
 Qo 29 (.call 131 [(.t 28)]),
 Qo 30 (.bsl 6 3 [(.d (.int .i64 0)),(.d (.str [])),(.d (.int .i64 0)),.AW,.AW,.AW,(.d (.int .i64 0)),(.d (.str [])),(.d (.int .i64 0)),.AW,.AW,.AW,(.d (.int .i64 0)),(.d (.str [])),(.d (.int .i64 0)),.AW,.AW,.AW] [(0,6,(.t 26)),(6,6,(.t 27)),(12,6,(.t 29))]),
 Qo 31 (.bld [(.d (.int .i64 0)),(.d (.str [])),(.d (.int .i64 0)),.AW,.AW,.AW] [(0,1,(.c (.d (.int .i64 9)))),(4,1,(.t 30))]),
 ⟨none,.st (.t 2) (.t 31) 6,none⟩] [2])
 .ret)))))
 (.seq (.reg [Qm 33 0,
 Qo 34 (.call 65 [(.t 33),(.c (.d (.str [109,97,116,99,104])))]),
 Qm 32 34] [0,2,32])
 (.cond (.t 32) (.seq (.reg [Qm 35 0,
 Qo 36 (.call 131 [(.t 35)]),
 Qo 37 (.bsl 6 1 [(.d (.int .i64 0)),(.d (.str [])),(.d (.int .i64 0)),.AW,.AW,.AW] [(0,6,(.t 36))]),
 Qo 38 (.bld [(.d (.int .i64 0)),(.d (.str [])),(.d (.int .i64 0)),.AW,.AW,.AW] [(0,1,(.c (.d (.int .i64 10)))),(4,1,(.t 37))]),
 Qo 5 (.al [(.d (.int .i64 0)),(.d (.str [])),(.d (.int .i64 0)),.AW,.AW,.AW] false),
 ⟨none,.st (.t 5) (.t 38) 6,none⟩] [0,2,5])
 (.seq (.reg [Qm 39 0,
 Qo 40 (.call 127 [(.t 39),(.c (.d (.str [119,105,116,104])))])] [0,2,5])
 (.seq (.reg [Qm 41 0,
 Qm 42 0,
 Qo 43 (.mkf 171 [(.t 42)] []),
 Qo 44 (.call 170 [(.t 41),(.c (.d (.str [124]))),(.t 43)]),
 Qo 45 (.fld (.t 5) 5),
 ⟨none,.st (.t 45) (.t 44) 1,none⟩] [0,2,5])
 (.seq (.reg [Qm 46 0,
 Qo 47 (.call 127 [(.t 46),(.c (.d (.str [101,110,100])))])] [2,5])
 (.seq (.reg [Qo 48 (.ldl (.t 5) (some 6)),
 ⟨none,.st (.t 2) (.t 48) 6,none⟩] [2])
 .ret)))))
 (.seq (.reg [Qm 50 0,
 Qo 51 (.call 65 [(.t 50),(.c (.d (.str [102,110])))]),
 Qm 49 51] [0,2,49])
 (.cond (.t 49) (.seq (.reg [Qm 52 0,
 Qo 53 (.call 127 [(.t 52),(.c (.d (.str [40])))])] [0,2])
 (.seq (.reg [Qm 54 0,
 Qm 55 0,
 Qo 56 (.mkf 126 [(.t 55)] []),
 Qo 57 (.call 130 [(.t 54),(.t 56)]),
 Qo 58 (.bld [(.d (.int .i64 0)),(.d (.str [])),(.d (.int .i64 0)),.AW,.AW,.AW] [(0,1,(.c (.d (.int .i64 11)))),(3,1,(.t 57))]),
 Qo 6 (.al [(.d (.int .i64 0)),(.d (.str [])),(.d (.int .i64 0)),.AW,.AW,.AW] false),
 ⟨none,.st (.t 6) (.t 58) 6,none⟩] [0,2,6])
 (.seq (.reg [Qm 59 0,
 Qo 60 (.call 127 [(.t 59),(.c (.d (.str [45,62])))])] [0,2,6])
 (.seq (.reg [Qm 61 0,
 Qo 62 (.call 131 [(.t 61)]),
 Qo 63 (.bsl 6 1 [(.d (.int .i64 0)),(.d (.str [])),(.d (.int .i64 0)),.AW,.AW,.AW] [(0,6,(.t 62))]),
 Qo 64 (.fld (.t 6) 4),
 ⟨none,.st (.t 64) (.t 63) 1,none⟩] [2,6])
 (.seq (.reg [Qo 65 (.ldl (.t 6) (some 6)),
 ⟨none,.st (.t 2) (.t 65) 6,none⟩] [2])
 .ret)))))
 (.seq (.reg [Qm 67 0,
 Qo 68 (.call 65 [(.t 67),(.c (.d (.str [116,114,121])))]),
 Qm 66 68] [0,2,66])
 (.cond (.t 66) (.seq (.reg [Qm 69 0,
 Qo 70 (.call 131 [(.t 69)]),
 Qo 7 (.al [(.d (.int .i64 0)),(.d (.str [])),(.d (.int .i64 0)),.AW,.AW,.AW] false),
 ⟨none,.st (.t 7) (.t 70) 6,none⟩] [0,2,7])
 (.seq (.reg [Qm 71 0,
 Qo 72 (.call 127 [(.t 71),(.c (.d (.str [99,97,116,99,104])))])] [0,2,7])
 (.seq (.reg [Qm 73 0,
 Qo 74 (.call 172 [(.t 73)]),
 Qm 8 74] [0,2,7,8])
 (.seq (.reg [Qm 75 0,
 Qo 76 (.call 127 [(.t 75),(.c (.d (.str [45,62])))])] [0,2,7,8])
 (.seq (.reg [Qm 77 0,
 Qo 78 (.call 131 [(.t 77)]),
 Qo 9 (.al [(.d (.int .i64 0)),(.d (.str [])),(.d (.int .i64 0)),.AW,.AW,.AW] false),
 ⟨none,.st (.t 9) (.t 78) 6,none⟩] [0,2,7,8,9])
 (.seq (.reg [Qm 79 0,
 Qo 80 (.call 127 [(.t 79),(.c (.d (.str [101,110,100])))])] [2,7,8,9])
 (.seq (.reg [Qm 81 8,
 Qo 82 (.ldl (.t 7) (some 6)),
 Qo 83 (.ldl (.t 9) (some 6)),
 Qo 84 (.bsl 6 2 [(.d (.int .i64 0)),(.d (.str [])),(.d (.int .i64 0)),.AW,.AW,.AW,(.d (.int .i64 0)),(.d (.str [])),(.d (.int .i64 0)),.AW,.AW,.AW] [(0,6,(.t 82)),(6,6,(.t 83))]),
 Qo 85 (.bld [(.d (.int .i64 0)),(.d (.str [])),(.d (.int .i64 0)),.AW,.AW,.AW] [(0,1,(.c (.d (.int .i64 17)))),(1,1,(.t 81)),(4,1,(.t 84))]),
 ⟨none,.st (.t 2) (.t 85) 6,none⟩] [2])
 .ret)))))))
 .skip)))))))))))
 (.seq (.reg [Qm 86 0,
 Qo 87 (.call 173 [(.t 86)]),
 ⟨none,.st (.t 2) (.t 87) 6,none⟩] [2])
 .ret)))
noncomputable def Dq:Cx:=⟨Tryz.prog,131,Tryz.f131,88,[300026,300027,300048,300065,300082,300083],[],[.c 2 (some 6)]⟩
theorem CD:Good Dq:=⟨Tryz.func131,by kernel_rfl⟩
theorem Pl:Dq.rs=[.c 2 (some 6)]:=rfl
theorem QW (hl:args.length≤88) (h:Run Dq K [.code Js] (As args) E σ):AT Tryz.prog 131 args σ K:=
 AX (cx:=Dq) (code:=Tryz.f131.body.getD .skip) CD (by kernel_rfl) Tryz.ntmps131 hl (AZ Dq _ (BB Js) _ [] (by kernel_rfl)) h
def IP:C:=(.seq (.reg [Qo 2 (.mv (.c (.d (.int .i64 0))))] [0])
 (.seq (.seq (.reg [Qm 3 0] [3])
 (.block 0 (.seq (.seq (.reg [Qo 5 (.bin .eql (.t 3) (.c (.d (.int .i64 1)))),
 Qm 4 5] [3,4])
 (.cond (.t 4) .skip
 (.reg [Qo 6 (.bin .eql (.t 3) (.c (.d (.int .i64 2)))),
 Qm 4 6] [3,4])))
 (.cond (.t 4) (.seq (.reg [Qo 2 (.mv (.c (.d (.int .i64 2))))] [2])
 .ret)
 (.seq (.seq (.reg [Qo 8 (.bin .eql (.t 3) (.c (.d (.int .i64 3)))),
 Qm 7 8] [3,7])
 (.cond (.t 7) .skip
 (.seq (.reg [Qo 9 (.bin .eql (.t 3) (.c (.d (.int .i64 4)))),
 Qm 7 9] [3,7])
 (.cond (.t 7) .skip
 (.reg [Qo 10 (.bin .eql (.t 3) (.c (.d (.int .i64 5)))),
 Qm 7 10] [7])))))
 (.cond (.t 7) (.seq (.reg [Qo 2 (.mv (.c (.d (.int .i64 3))))] [2])
 .ret)
 .skip))))))
 (.seq (.reg [Qo 2 (.mv (.c (.d (.int .i64 1))))] [2])
 .ret)))
noncomputable def DA:Cx:=⟨Tryz.prog,138,Tryz.f138,11,[],[],[.t 2]⟩
theorem Fb:Good DA:=⟨Tryz.func138,by kernel_rfl⟩
theorem Nt:DA.rs=[.t 2]:=rfl
theorem O6 (hl:args.length≤11) (h:Run DA K [.code IP] (As args) E σ):AT Tryz.prog 138 args σ K:=
 AX (cx:=DA) (code:=Tryz.f138.body.getD .skip) Fb (by kernel_rfl) Tryz.ntmps138 hl (AZ DA _ (BB IP) _ [] (by kernel_rfl)) h
def IM:C:=(.seq (.reg [Qo 4 (.mv (.c .AW))] [0,1])
 (.seq (.reg [Qm 6 0,
 Qm 7 1,
 Qo 8 (.call 182 [(.t 6),(.c (.d (.str [44]))),(.t 7)]),
 Qm 5 8] [0,5])
 (.seq (.reg [Qm 9 0,
 Qo 10 (.call 127 [(.t 9),(.c (.d (.str [41])))])] [5])
 (.seq (.reg [Qm 11 5,
 Qm 4 11] [4])
 .ret))))
noncomputable def Cy:Cx:=⟨Tryz.prog,166,Tryz.f166,12,[],[],[.t 4]⟩
theorem I3:Good Cy:=⟨Tryz.func166,by kernel_rfl⟩
theorem Nr:Cy.rs=[.t 4]:=rfl
theorem O4 (hl:args.length≤12) (h:Run Cy K [.code IM] (As args) E σ):AT Tryz.prog 166 args σ K:=
 AX (cx:=Cy) (code:=Tryz.f166.body.getD .skip) I3 (by kernel_rfl) Tryz.ntmps166 hl (AZ Cy _ (BB IM) _ [] (by kernel_rfl)) h
def Fl:C:=(.seq (.reg [Qo 4 (.mv (.c .AW))] [0,1])
 (.seq (.seq (.reg [Qm 5 0,
 Qo 6 (.call 65 [(.t 5),(.c (.d (.str [40])))]),
 Qo 7 (.un .not (.t 6))] [0,1,7])
 (.cond (.t 7) (.seq (.reg [Qo 4 (.mv (.c .AW))] [4])
 .ret)
 .skip))
 (.seq (.reg [Qm 8 0,
 Qm 9 1,
 Qo 10 (.call 183 [(.t 8),(.t 9)]),
 Qm 4 10] [4])
 .ret)))
noncomputable def Bq:Cx:=⟨Tryz.prog,167,Tryz.f167,11,[],[],[.t 4]⟩
theorem EI:Good Bq:=⟨Tryz.func167,by kernel_rfl⟩
theorem K4:Bq.rs=[.t 4]:=rfl
theorem Kl (hl:args.length≤11) (h:Run Bq K [.code Fl] (As args) E σ):AT Tryz.prog 167 args σ K:=
 AX (cx:=Bq) (code:=Tryz.f167.body.getD .skip) EI (by kernel_rfl) Tryz.ntmps167 hl (AZ Bq _ (BB Fl) _ [] (by kernel_rfl)) h
def R3:C:=(.seq (.reg [Qo 2 (.al [(.d (.int .i64 0)),(.d (.str [])),.AW] false)] [0,2])
 (.seq (.seq (.reg [Qm 7 0,
 Qo 8 (.call 64 [(.t 7)]),
 Qo 3 (.al [(.d (.int .i64 0)),(.d (.str [])),(.d (.int .i64 0))] false),
 ⟨none,.st (.t 3) (.t 8) 3,none⟩] [0,2,3])
 (.block 0 (.seq (.reg [Qo 10 (.fld (.t 3) 0),
 Qo 11 (.ldl (.t 10) none),
 Qo 12 (.bin .eql (.t 11) (.c (.d (.int .i64 1)))),
 Qm 9 12] [0,2,3,9])
 (.cond (.t 9) (.seq (.reg [Qm 13 0,
 Qo 14 (.call 126 [(.t 13)]),
 Qo 15 (.bld [(.d (.int .i64 0)),(.d (.str [])),.AW] [(0,1,(.c (.d (.int .i64 4)))),(1,1,(.t 14))]),
 ⟨none,.st (.t 2) (.t 15) 3,none⟩] [2])
 .ret)
 (.seq (.reg [Qo 17 (.fld (.t 3) 0),
 Qo 18 (.ldl (.t 17) none),
 Qo 19 (.bin .eql (.t 18) (.c (.d (.int .i64 2)))),
 Qm 16 19] [0,2,16])
 (.cond (.t 16) (.seq (.reg [Qm 20 0,
 Qo 21 (.call 124 [(.t 20),(.c (.d (.int .i64 2)))]),
 Qo 22 (.bld [(.d (.int .i64 0)),(.d (.str [])),.AW] [(0,1,(.c (.d (.int .i64 5)))),(1,1,(.t 21))]),
 Qo 4 (.al [(.d (.int .i64 0)),(.d (.str [])),.AW] false),
 ⟨none,.st (.t 4) (.t 22) 3,none⟩] [0,2,4])
 (.seq (.reg [Qm 23 0,
 Qm 24 0,
 Qo 25 (.mkf 168 [(.t 24)] []),
 Qo 26 (.call 167 [(.t 23),(.t 25)]),
 Qo 27 (.fld (.t 4) 2),
 ⟨none,.st (.t 27) (.t 26) 1,none⟩] [2,4])
 (.seq (.reg [Qo 28 (.ldl (.t 4) (some 3)),
 ⟨none,.st (.t 2) (.t 28) 3,none⟩] [2])
 .ret)))
 (.seq (.reg [Qm 30 0,
 Qo 31 (.call 65 [(.t 30),(.c (.d (.str [105,110,116])))]),
 Qm 29 31] [0,2,29])
 (.cond (.t 29) (.seq (.reg [Qo 32 (.bld [(.d (.int .i64 0)),(.d (.str [])),.AW] [(0,1,(.c (.d (.int .i64 1))))]),
 ⟨none,.st (.t 2) (.t 32) 3,none⟩] [2])
 .ret)
 (.seq (.reg [Qm 34 0,
 Qo 35 (.call 65 [(.t 34),(.c (.d (.str [98,111,111,108])))]),
 Qm 33 35] [0,2,33])
 (.cond (.t 33) (.seq (.reg [Qo 36 (.bld [(.d (.int .i64 0)),(.d (.str [])),.AW] [(0,1,(.c (.d (.int .i64 2))))]),
 ⟨none,.st (.t 2) (.t 36) 3,none⟩] [2])
 .ret)
 (.seq (.reg [Qm 38 0,
 Qo 39 (.call 65 [(.t 38),(.c (.d (.str [117,110,105,116])))]),
 Qm 37 39] [0,2,37])
 (.cond (.t 37) (.seq (.reg [Qo 40 (.bld [(.d (.int .i64 0)),(.d (.str [])),.AW] [(0,1,(.c (.d (.int .i64 3))))]),
 ⟨none,.st (.t 2) (.t 40) 3,none⟩] [2])
 .ret)
 (.seq (.reg [Qm 42 0,
 Qo 43 (.call 65 [(.t 42),(.c (.d (.str [97,114,114,97,121])))]),
 Qm 41 43] [0,2,41])
 (.cond (.t 41) (.seq (.reg [Qm 44 0,
 Qo 45 (.call 184 [(.t 44),(.c (.d (.int .i64 7)))]),
 ⟨none,.st (.t 2) (.t 45) 3,none⟩] [2])
 .ret)
 (.seq (.reg [Qm 47 0,
 Qo 48 (.call 65 [(.t 47),(.c (.d (.str [114,101,102])))]),
 Qm 46 48] [0,2,46])
 (.cond (.t 46) (.seq (.reg [Qm 49 0,
 Qo 50 (.call 184 [(.t 49),(.c (.d (.int .i64 8)))]),
 ⟨none,.st (.t 2) (.t 50) 3,none⟩] [2])
 .ret)
 (.seq (.reg [Qm 52 0,
 Qo 53 (.call 65 [(.t 52),(.c (.d (.str [40])))]),
 Qm 51 53] [0,2,51])
 (.cond (.t 51) (.seq (.reg [Qm 54 0,
 Qo 55 (.call 168 [(.t 54)]),
 Qo 5 (.al [(.d (.int .i64 0)),(.d (.str [])),.AW] false),
 ⟨none,.st (.t 5) (.t 55) 3,none⟩] [0,2,5])
 (.seq (.reg [Qm 56 0,
 Qo 57 (.call 127 [(.t 56),(.c (.d (.str [44])))])] [0,2,5])
 (.seq (.Qi (.one (Qo 58 (.ldl (.t 5) (some 3)))
 (.one (Qm 60 0)
 (.one (Qm 61 0)
 (.one (Qo 62 (.mkf 168 [(.t 61)] []))
 (.alt (Qo 59 (.Li 75 3 1 [(.d (.int .i64 0)),(.d (.str [])),.AW] [(0,3,(.t 58))]))
 (.one (Qo 63 (.call 183 [(.t 60),(.t 62)]))
 (.one (Qo 64 (.app 75 3 48 (.t 59) (.t 63)))
 (.one (Qo 65 (.bld [(.d (.int .i64 0)),(.d (.str [])),.AW] [(0,1,(.c (.d (.int .i64 6)))),(2,1,(.t 64))]))
 (.one ⟨none,.st (.t 2) (.t 65) 3,none⟩
 .done))))
 (.alt (Qo 63 (.call 183 [(.t 60),(.t 62)]))
 (.one (Qo 59 (.Li 75 3 1 [(.d (.int .i64 0)),(.d (.str [])),.AW] [(0,3,(.t 58))]))
 (.one (Qo 64 (.app 75 3 48 (.t 59) (.t 63)))
 (.one (Qo 65 (.bld [(.d (.int .i64 0)),(.d (.str [])),.AW] [(0,1,(.c (.d (.int .i64 6)))),(2,1,(.t 64))]))
 (.one ⟨none,.st (.t 2) (.t 65) 3,none⟩
 .done))))
 .done)))))) [2])
 .ret)))
 (.seq (.reg [Qm 67 0,
 Qo 68 (.call 65 [(.t 67),(.c (.d (.str [102,110])))]),
 Qm 66 68] [0,2,66])
 (.cond (.t 66) (.seq (.reg [Qm 69 0,
 Qo 70 (.call 127 [(.t 69),(.c (.d (.str [40])))])] [0,2])
 (.seq (.reg [Qm 71 0,
 Qm 72 0,
 Qo 73 (.mkf 168 [(.t 72)] []),
 Qo 74 (.call 185 [(.t 71),(.t 73)]),
 Qm 6 74] [0,2,6])
 (.seq (.reg [Qm 75 0,
 Qo 76 (.call 127 [(.t 75),(.c (.d (.str [45,62])))])] [0,2,6])
 (.seq (.reg [Qm 77 6,
 Qm 78 0,
 Qo 79 (.call 168 [(.t 78)]),
 Qo 80 (.bsl 3 1 [(.d (.int .i64 0)),(.d (.str [])),.AW] [(0,3,(.t 79))]),
 Qo 81 (.app 75 3 48 (.t 77) (.t 80)),
 Qo 82 (.bld [(.d (.int .i64 0)),(.d (.str [])),.AW] [(0,1,(.c (.d (.int .i64 9)))),(2,1,(.t 81))]),
 ⟨none,.st (.t 2) (.t 82) 3,none⟩] [2])
 .ret))))
 .skip))))))))))))))))))))
 (.seq (.reg [Qm 83 0,
 Qo 84 (.call 68 [(.t 83)])] [2])
 (.seq (.reg [Qo 85 (.bld [(.d (.int .i64 0)),(.d (.str [])),.AW] []),
 ⟨none,.st (.t 2) (.t 85) 3,none⟩] [2])
 .ret))))
def Rp:List (List Nat×PT):=[([0,2],.done),([0,2,3],.done),([0,2,3,9],.done),([2],.done),([0,2,16],.done),([0,2,4],.done),([2,4],.done),([2],.done),([0,2,29],.done),([2],.done),([0,2,33],.done),([2],.done),([0,2,37],.done),([2],.done),([0,2,41],.done),([2],.done),([0,2,46],.done),([2],.done),([0,2,51],.done),([0,2,5],.done),([0,2,5],.done),([2],(.one 0 (.one 2 (.one 3 (.one 4 (.alt 1 (.one 5 (.one 6 (.one 7 (.one 8 .done)))) (.alt 5 (.one 1 (.one 6 (.one 7 (.one 8 .done)))) .done))))))),([0,2,66],.done),([0,2],.done),([0,2,6],.done),([0,2,6],.done),([2],.done),([2],.done),([2],.done)]
noncomputable def EW:Cx:=⟨Tryz.prog,168,Tryz.f168,86,[59,300011,300018,300028,300058],[],[.c 2 (some 3)]⟩
theorem BK:Good EW:=⟨Tryz.func168,by kernel_rfl⟩
theorem Qs:EW.rs=[.c 2 (some 3)]:=rfl
theorem Rc (hl:args.length≤86) (h:Run EW K [.code R3] (As args) E σ):AT Tryz.prog 168 args σ K:=
 AX (cx:=EW) (code:=Tryz.f168.body.getD .skip) BK (by kernel_rfl) Tryz.ntmps168 hl (AZ EW _ Rp _ [] (by kernel_rfl)) h
def LB:C:=(.seq (.reg [Qo 2 (.al [(.d (.int .i64 0)),(.d (.str [])),(.d (.int .i64 0)),.AW,.AW,.AW] false)] [0,2])
 (.seq (.reg [Qo 3 (.al [(.d (.int .i64 0)),(.d (.str [])),(.d (.int .i64 0)),.AW,.AW,.AW] false)] [0,2,3])
 (.seq (.seq (.reg [Qm 6 0,
 Qo 7 (.call 65 [(.t 6),(.c (.d (.str [40])))])] [0,2,3,7])
 (.cond (.t 7) (.seq (.reg [Qm 8 0,
 Qo 9 (.call 172 [(.t 8)]),
 Qm 4 9] [0,2,3,4])
 (.seq (.reg [Qm 10 0,
 Qo 11 (.call 127 [(.t 10),(.c (.d (.str [44])))])] [0,2,3,4])
 (.reg [Qm 12 4,
 Qo 13 (.Li 9 1 1 [(.d (.str []))] [(0,1,(.t 12))]),
 Qm 14 0,
 Qm 15 0,
 Qo 16 (.mkf 172 [(.t 15)] []),
 Qo 17 (.call 166 [(.t 14),(.t 16)]),
 Qo 18 (.app 9 1 16 (.t 13) (.t 17)),
 Qo 19 (.fld (.t 3) 0),
 ⟨none,.st (.t 19) (.c (.d (.int .i64 8))) 1,none⟩,
 Qo 20 (.fld (.t 3) 3),
 ⟨none,.st (.t 20) (.t 18) 1,none⟩] [0,2,3])))
 (.reg [Qm 21 0,
 Qo 22 (.call 172 [(.t 21)]),
 Qo 23 (.fld (.t 3) 0),
 ⟨none,.st (.t 23) (.c (.d (.int .i64 7))) 1,none⟩,
 Qo 24 (.fld (.t 3) 1),
 ⟨none,.st (.t 24) (.t 22) 1,none⟩] [0,2,3])))
 (.seq (.reg [Qm 25 0,
 Qo 26 (.call 127 [(.t 25),(.c (.d (.str [61])))])] [0,2,3])
 (.seq (.reg [Qm 27 0,
 Qo 28 (.call 131 [(.t 27)]),
 Qo 5 (.al [(.d (.int .i64 0)),(.d (.str [])),(.d (.int .i64 0)),.AW,.AW,.AW] false),
 ⟨none,.st (.t 5) (.t 28) 6,none⟩] [0,2,3,5])
 (.seq (.reg [Qm 29 0,
 Qo 30 (.call 127 [(.t 29),(.c (.d (.str [105,110])))])] [0,2,3,5])
 (.seq (.reg [Qo 31 (.ldl (.t 5) (some 6)),
 Qm 32 0,
 Qo 33 (.call 131 [(.t 32)]),
 Qo 34 (.bsl 6 2 [(.d (.int .i64 0)),(.d (.str [])),(.d (.int .i64 0)),.AW,.AW,.AW,(.d (.int .i64 0)),(.d (.str [])),(.d (.int .i64 0)),.AW,.AW,.AW] [(0,6,(.t 31)),(6,6,(.t 33))]),
 Qo 35 (.fld (.t 3) 4),
 ⟨none,.st (.t 35) (.t 34) 1,none⟩] [2,3])
 (.seq (.reg [Qo 36 (.ldl (.t 3) (some 6)),
 ⟨none,.st (.t 2) (.t 36) 6,none⟩] [2])
 .ret))))))))
noncomputable def EU:Cx:=⟨Tryz.prog,169,Tryz.f169,37,[13,300031,300036],[],[.c 2 (some 6)]⟩
theorem HB:Good EU:=⟨Tryz.func169,by kernel_rfl⟩
theorem Qq:EU.rs=[.c 2 (some 6)]:=rfl
theorem Ra (hl:args.length≤37) (h:Run EU K [.code LB] (As args) E σ):AT Tryz.prog 169 args σ K:=
 AX (cx:=EU) (code:=Tryz.f169.body.getD .skip) HB (by kernel_rfl) Tryz.ntmps169 hl (AZ EU _ (BB LB) _ [] (by kernel_rfl)) h
def MZ:C:=(.seq (.seq (.reg [Qm 11 0,
 Qm 12 1,
 Qo 13 (.call 65 [(.t 11),(.t 12)])] [0,1,2,7,13])
 (.cond (.t 13) .skip
 (.exit 0)))
 (.block 1 (.reg [Qm 14 7,
 Qm 15 2,
 Qo 16 (.ED (.t 15) []),
 Qo 17 (.bsl 8 1 [(.d (.str [])),.AW,(.d (.int .i64 0)),(.d (.str [])),(.d (.int .i64 0)),.AW,.AW,.AW] [(0,8,(.t 16))]),
 Qo 18 (.app 112 8 144 (.t 14) (.t 17)),
 Qm 7 18] [0,1,2,7])))
def IL:C:=(.seq (.reg [Qo 6 (.mv (.c .AW))] [0,1,2])
 (.seq (.reg [Qm 8 2,
 Qo 9 (.ED (.t 8) []),
 Qo 10 (.Li 112 8 1 [(.d (.str [])),.AW,(.d (.int .i64 0)),(.d (.str [])),(.d (.int .i64 0)),.AW,.AW,.AW] [(0,8,(.t 9))]),
 Qm 7 10] [0,1,2,7])
 (.seq (.block 0 (.loop MZ))
 (.seq (.reg [Qm 19 7,
 Qm 6 19] [6])
 .ret))))
noncomputable def Cw:Cx:=⟨Tryz.prog,170,Tryz.f170,20,[10],[],[.t 6]⟩
theorem I2:Good Cw:=⟨Tryz.func170,by kernel_rfl⟩
theorem Nq:Cw.rs=[.t 6]:=rfl
theorem O3 (hl:args.length≤20) (h:Run Cw K [.code IL] (As args) E σ):AT Tryz.prog 170 args σ K:=
 AX (cx:=Cw) (code:=Tryz.f170.body.getD .skip) I2 (by kernel_rfl) Tryz.ntmps170 hl (AZ Cw _ (BB IL) _ [] (by kernel_rfl)) h
def Ky:C:=(.seq (.reg [Qo 2 (.al [(.d (.str [])),.AW,(.d (.int .i64 0)),(.d (.str [])),(.d (.int .i64 0)),.AW,.AW,.AW] false)] [0,2])
 (.seq (.reg [Qm 4 0,
 Qo 5 (.call 124 [(.t 4),(.c (.d (.int .i64 2)))]),
 Qo 6 (.bld [(.d (.str [])),.AW,(.d (.int .i64 0)),(.d (.str [])),(.d (.int .i64 0)),.AW,.AW,.AW] [(0,1,(.t 5))]),
 Qo 3 (.al [(.d (.str [])),.AW,(.d (.int .i64 0)),(.d (.str [])),(.d (.int .i64 0)),.AW,.AW,.AW] false),
 ⟨none,.st (.t 3) (.t 6) 8,none⟩] [0,2,3])
 (.seq (.reg [Qm 7 0,
 Qm 8 0,
 Qo 9 (.mkf 172 [(.t 8)] []),
 Qo 10 (.call 125 [(.t 7),(.t 9)]),
 Qo 11 (.fld (.t 3) 1),
 ⟨none,.st (.t 11) (.t 10) 1,none⟩] [0,2,3])
 (.seq (.reg [Qm 12 0,
 Qo 13 (.call 127 [(.t 12),(.c (.d (.str [45,62])))])] [0,2,3])
 (.seq (.reg [Qm 14 0,
 Qo 15 (.call 131 [(.t 14)]),
 Qo 16 (.fld (.t 3) 2),
 ⟨none,.st (.t 16) (.t 15) 6,none⟩] [2,3])
 (.seq (.reg [Qo 17 (.ldl (.t 3) (some 8)),
 ⟨none,.st (.t 2) (.t 17) 8,none⟩] [2])
 .ret))))))
noncomputable def ER:Cx:=⟨Tryz.prog,171,Tryz.f171,18,[300017],[],[.c 2 (some 8)]⟩
theorem LF:Good ER:=⟨Tryz.func171,by kernel_rfl⟩
theorem Qk:ER.rs=[.c 2 (some 8)]:=rfl
theorem R6 (hl:args.length≤18) (h:Run ER K [.code Ky] (As args) E σ):AT Tryz.prog 171 args σ K:=
 AX (cx:=ER) (code:=Tryz.f171.body.getD .skip) LF (by kernel_rfl) Tryz.ntmps171 hl (AZ ER _ (BB Ky) _ [] (by kernel_rfl)) h
def Jp:C:=(.seq (.reg [Qo 2 (.mv (.c (.d (.str []))))] [0])
 (.seq (.seq (.reg [Qm 3 0,
 Qo 4 (.call 65 [(.t 3),(.c (.d (.str [95])))])] [0,4])
 (.cond (.t 4) (.seq (.reg [Qo 2 (.mv (.c (.d (.str []))))] [2])
 .ret)
 .skip))
 (.seq (.reg [Qm 5 0,
 Qo 6 (.call 126 [(.t 5)]),
 Qm 2 6] [2])
 .ret)))
noncomputable def Dm:Cx:=⟨Tryz.prog,172,Tryz.f172,7,[],[],[.t 2]⟩
theorem G4:Good Dm:=⟨Tryz.func172,by kernel_rfl⟩
theorem Ph:Dm.rs=[.t 2]:=rfl
theorem QS (hl:args.length≤7) (h:Run Dm K [.code Jp] (As args) E σ):AT Tryz.prog 172 args σ K:=
 AX (cx:=Dm) (code:=Tryz.f172.body.getD .skip) G4 (by kernel_rfl) Tryz.ntmps172 hl (AZ Dm _ (BB Jp) _ [] (by kernel_rfl)) h
def Jq:C:=(.seq (.reg [Qo 2 (.al [(.d (.int .i64 0)),(.d (.str [])),(.d (.int .i64 0)),.AW,.AW,.AW] false)] [0,2])
 (.seq (.reg [Qm 5 0,
 Qo 6 (.call 186 [(.t 5)]),
 Qo 3 (.al [(.d (.int .i64 0)),(.d (.str [])),(.d (.int .i64 0)),.AW,.AW,.AW] false),
 ⟨none,.st (.t 3) (.t 6) 6,none⟩] [0,2,3])
 (.seq (.seq (.reg [Qm 7 0,
 Qo 8 (.call 187 [(.t 7),(.c (.d (.int .i64 1)))]),
 Qm 4 8] [0,2,3,4])
 (.seq (.reg [Qm 9 4,
 Qo 10 (.bin .neq (.t 9) (.c (.d (.int .i64 0))))] [0,2,3,4,10])
 (.cond (.t 10) (.seq (.reg [Qm 11 4,
 Qo 12 (.ldl (.t 3) (some 6)),
 Qm 13 0,
 Qo 14 (.call 186 [(.t 13)]),
 Qo 15 (.call 188 [(.t 11),(.t 12),(.t 14)]),
 ⟨none,.st (.t 2) (.t 15) 6,none⟩] [2])
 .ret)
 .skip)))
 (.seq (.reg [Qo 16 (.ldl (.t 3) (some 6)),
 ⟨none,.st (.t 2) (.t 16) 6,none⟩] [2])
 .ret))))
noncomputable def Dn:Cx:=⟨Tryz.prog,173,Tryz.f173,17,[300012,300016],[],[.c 2 (some 6)]⟩
theorem G5:Good Dn:=⟨Tryz.func173,by kernel_rfl⟩
theorem Pj:Dn.rs=[.c 2 (some 6)]:=rfl
theorem QU (hl:args.length≤17) (h:Run Dn K [.code Jq] (As args) E σ):AT Tryz.prog 173 args σ K:=
 AX (cx:=Dn) (code:=Tryz.f173.body.getD .skip) G5 (by kernel_rfl) Tryz.ntmps173 hl (AZ Dn _ (BB Jq) _ [] (by kernel_rfl)) h
def Mt:C:=(.seq (.seq (.reg [Qm 11 0,
 Qm 12 1,
 Qo 13 (.call 65 [(.t 11),(.t 12)])] [0,1,2,7,13])
 (.cond (.t 13) .skip
 (.exit 0)))
 (.block 1 (.reg [Qm 14 7,
 Qm 15 2,
 Qo 16 (.ED (.t 15) []),
 Qo 17 (.bsl 1 1 [(.d (.str []))] [(0,1,(.t 16))]),
 Qo 18 (.app 9 1 16 (.t 14) (.t 17)),
 Qm 7 18] [0,1,2,7])))
def JB:C:=(.seq (.reg [Qo 6 (.mv (.c .AW))] [0,1,2])
 (.seq (.reg [Qm 8 2,
 Qo 9 (.ED (.t 8) []),
 Qo 10 (.Li 9 1 1 [(.d (.str []))] [(0,1,(.t 9))]),
 Qm 7 10] [0,1,2,7])
 (.seq (.block 0 (.loop Mt))
 (.seq (.reg [Qm 19 7,
 Qm 6 19] [6])
 .ret))))
noncomputable def DQ:Cx:=⟨Tryz.prog,182,Tryz.f182,20,[10],[],[.t 6]⟩
theorem JN:Good DQ:=⟨Tryz.func182,by kernel_rfl⟩
theorem Om:DQ.rs=[.t 6]:=rfl
theorem P0 (hl:args.length≤20) (h:Run DQ K [.code JB] (As args) E σ):AT Tryz.prog 182 args σ K:=
 AX (cx:=DQ) (code:=Tryz.f182.body.getD .skip) JN (by kernel_rfl) Tryz.ntmps182 hl (AZ DQ _ (BB JB) _ [] (by kernel_rfl)) h
def Fk:C:=(.seq (.reg [Qo 4 (.mv (.c .AW))] [0,1])
 (.seq (.reg [Qm 6 0,
 Qm 7 1,
 Qo 8 (.call 196 [(.t 6),(.c (.d (.str [44]))),(.t 7)]),
 Qm 5 8] [0,5])
 (.seq (.reg [Qm 9 0,
 Qo 10 (.call 127 [(.t 9),(.c (.d (.str [41])))])] [5])
 (.seq (.reg [Qm 11 5,
 Qm 4 11] [4])
 .ret))))
noncomputable def Bp:Cx:=⟨Tryz.prog,183,Tryz.f183,12,[],[],[.t 4]⟩
theorem Fp:Good Bp:=⟨Tryz.func183,by kernel_rfl⟩
theorem K3:Bp.rs=[.t 4]:=rfl
theorem Kk (hl:args.length≤12) (h:Run Bp K [.code Fk] (As args) E σ):AT Tryz.prog 183 args σ K:=
 AX (cx:=Bp) (code:=Tryz.f183.body.getD .skip) Fp (by kernel_rfl) Tryz.ntmps183 hl (AZ Bp _ (BB Fk) _ [] (by kernel_rfl)) h
def Hj:C:=(.seq (.reg [Qo 4 (.al [(.d (.int .i64 0)),(.d (.str [])),.AW] false)] [0,1,4])
 (.seq (.reg [Qm 6 0,
 Qo 7 (.call 127 [(.t 6),(.c (.d (.str [40])))])] [0,1,4])
 (.seq (.reg [Qm 8 0,
 Qo 9 (.call 168 [(.t 8)]),
 Qo 5 (.al [(.d (.int .i64 0)),(.d (.str [])),.AW] false),
 ⟨none,.st (.t 5) (.t 9) 3,none⟩] [0,1,4,5])
 (.seq (.reg [Qm 10 0,
 Qo 11 (.call 127 [(.t 10),(.c (.d (.str [41])))])] [1,4,5])
 (.seq (.reg [Qm 12 1,
 Qo 13 (.ldl (.t 5) (some 3)),
 Qo 14 (.bsl 3 1 [(.d (.int .i64 0)),(.d (.str [])),.AW] [(0,3,(.t 13))]),
 Qo 15 (.bld [(.d (.int .i64 0)),(.d (.str [])),.AW] [(0,1,(.t 12)),(2,1,(.t 14))]),
 ⟨none,.st (.t 4) (.t 15) 3,none⟩] [4])
 .ret)))))
noncomputable def Ci:Cx:=⟨Tryz.prog,184,Tryz.f184,16,[300013],[],[.c 4 (some 3)]⟩
theorem Hq:Good Ci:=⟨Tryz.func184,by kernel_rfl⟩
theorem NJ:Ci.rs=[.c 4 (some 3)]:=rfl
theorem N7 (hl:args.length≤16) (h:Run Ci K [.code Hj] (As args) E σ):AT Tryz.prog 184 args σ K:=
 AX (cx:=Ci) (code:=Tryz.f184.body.getD .skip) Hq (by kernel_rfl) Tryz.ntmps184 hl (AZ Ci _ (BB Hj) _ [] (by kernel_rfl)) h
def Fj:C:=(.seq (.reg [Qo 4 (.mv (.c .AW))] [0,1])
 (.seq (.seq (.reg [Qm 5 0,
 Qo 6 (.call 65 [(.t 5),(.c (.d (.str [41])))])] [0,1,6])
 (.cond (.t 6) (.seq (.reg [Qo 4 (.mv (.c .AW))] [4])
 .ret)
 .skip))
 (.seq (.reg [Qm 7 0,
 Qm 8 1,
 Qo 9 (.call 183 [(.t 7),(.t 8)]),
 Qm 4 9] [4])
 .ret)))
noncomputable def Bo:Cx:=⟨Tryz.prog,185,Tryz.f185,10,[],[],[.t 4]⟩
theorem EH:Good Bo:=⟨Tryz.func185,by kernel_rfl⟩
theorem K0:Bo.rs=[.t 4]:=rfl
theorem Kj (hl:args.length≤10) (h:Run Bo K [.code Fj] (As args) E σ):AT Tryz.prog 185 args σ K:=
 AX (cx:=Bo) (code:=Tryz.f185.body.getD .skip) EH (by kernel_rfl) Tryz.ntmps185 hl (AZ Bo _ (BB Fj) _ [] (by kernel_rfl)) h
def OQ:C:=(.seq (.seq (.reg [Qm 9 4,
 Qo 10 (.bin .neq (.t 9) (.c (.d (.int .i64 0))))] [0,2,3,4,10])
 (.cond (.t 10) .skip
 (.exit 0)))
 (.seq (.block 1 (.reg [Qm 13 4,
 Qo 14 (.ldl (.t 3) (some 6)),
 Qm 15 0,
 Qo 16 (.call 197 [(.t 15)]),
 Qo 17 (.call 188 [(.t 13),(.t 14),(.t 16)]),
 ⟨none,.st (.t 3) (.t 17) 6,none⟩] [0,2,3]))
 (.reg [Qm 11 0,
 Qo 12 (.call 187 [(.t 11),(.c (.d (.int .i64 2)))]),
 Qm 4 12] [0,2,3,4])))
def LC:C:=(.seq (.reg [Qo 2 (.al [(.d (.int .i64 0)),(.d (.str [])),(.d (.int .i64 0)),.AW,.AW,.AW] false)] [0,2])
 (.seq (.reg [Qm 5 0,
 Qo 6 (.call 197 [(.t 5)]),
 Qo 3 (.al [(.d (.int .i64 0)),(.d (.str [])),(.d (.int .i64 0)),.AW,.AW,.AW] false),
 ⟨none,.st (.t 3) (.t 6) 6,none⟩] [0,2,3])
 (.seq (.seq (.reg [Qm 7 0,
 Qo 8 (.call 187 [(.t 7),(.c (.d (.int .i64 2)))]),
 Qm 4 8] [0,2,3,4])
 (.block 0 (.loop OQ)))
 (.seq (.reg [Qo 18 (.ldl (.t 3) (some 6)),
 ⟨none,.st (.t 2) (.t 18) 6,none⟩] [2])
 .ret))))
noncomputable def EV:Cx:=⟨Tryz.prog,186,Tryz.f186,19,[300014,300018],[],[.c 2 (some 6)]⟩
theorem LJ:Good EV:=⟨Tryz.func186,by kernel_rfl⟩
theorem Qr:EV.rs=[.c 2 (some 6)]:=rfl
theorem Rb (hl:args.length≤19) (h:Run EV K [.code LC] (As args) E σ):AT Tryz.prog 186 args σ K:=
 AX (cx:=EV) (code:=Tryz.f186.body.getD .skip) LJ (by kernel_rfl) Tryz.ntmps186 hl (AZ EV _ (BB LC) _ [] (by kernel_rfl)) h
def LR:C:=(.seq (.seq (.reg [Qm 6 5,
 Qo 7 (.bin .leq (.t 6) (.c (.d (.int .i64 8))))] [0,1,5,7])
 (.cond (.t 7) .skip
 (.exit 0)))
 (.seq (.block 1 (.seq (.reg [Qm 10 5,
 Qo 11 (.call 138 [(.t 10)]),
 Qm 12 1,
 Qo 13 (.bin .eql (.t 11) (.t 12)),
 Qm 14 13,
 ⟨some 15,.mv (.t 0),some (14,true)⟩,
 ⟨some 16,.mv (.t 5),some (14,true)⟩,
 ⟨some 17,.call 91 [(.t 16)],some (14,true)⟩,
 ⟨some 18,.call 65 [(.t 15),(.t 17)],some (14,true)⟩,
 Qo 19 (.pick (.t 14) (.t 18) (.c (.d (.bool false))))] [0,1,5,19])
 (.cond (.t 19) (.seq (.reg [Qm 20 5,
 Qm 4 20] [4])
 .ret)
 .skip)))
 (.reg [Qm 8 5,
 Qo 9 (.bin .add (.t 8) (.c (.d (.int .i64 1)))),
 Qm 5 9] [0,1,5])))
def HO:C:=(.seq (.reg [Qo 4 (.mv (.c (.d (.int .i64 0))))] [0,1])
 (.seq (.seq (.reg [Qo 5 (.mv (.c (.d (.int .i64 1))))] [0,1,5])
 (.block 0 (.loop LR)))
 (.seq (.reg [Qo 4 (.mv (.c (.d (.int .i64 0))))] [4])
 .ret)))
noncomputable def C8:Cx:=⟨Tryz.prog,187,Tryz.f187,21,[],[],[.t 4]⟩
theorem Eu:Good C8:=⟨Tryz.func187,by kernel_rfl⟩
theorem Mb:C8.rs=[.t 4]:=rfl
theorem NB (hl:args.length≤21) (h:Run C8 K [.code HO] (As args) E σ):AT Tryz.prog 187 args σ K:=
 AX (cx:=C8) (code:=Tryz.f187.body.getD .skip) Eu (by kernel_rfl) Tryz.ntmps187 hl (AZ C8 _ (BB HO) _ [] (by kernel_rfl)) h
def PG:C:=(.seq (.reg [Qo 4 (.box (.t 1) false),
 Qo 5 (.box (.t 2) false),
 Qo 6 (.al [(.d (.int .i64 0)),(.d (.str [])),(.d (.int .i64 0)),.AW,.AW,.AW] false)] [0,4,5,6])
 (.seq (.reg [Qm 7 0,
 Qo 8 (.ldl (.t 4) (some 6)),
 Qo 9 (.ldl (.t 5) (some 6)),
 Qo 10 (.bsl 6 2 [(.d (.int .i64 0)),(.d (.str [])),(.d (.int .i64 0)),.AW,.AW,.AW,(.d (.int .i64 0)),(.d (.str [])),(.d (.int .i64 0)),.AW,.AW,.AW] [(0,6,(.t 8)),(6,6,(.t 9))]),
 Qo 11 (.bld [(.d (.int .i64 0)),(.d (.str [])),(.d (.int .i64 0)),.AW,.AW,.AW] [(0,1,(.c (.d (.int .i64 13)))),(2,1,(.t 7)),(4,1,(.t 10))]),
 ⟨none,.st (.t 6) (.t 11) 6,none⟩] [6])
 .ret))
noncomputable def Ft:Cx:=⟨Tryz.prog,188,Tryz.f188,12,[300008,300009],[],[.c 6 (some 6)]⟩
theorem PL:Good Ft:=⟨Tryz.func188,by kernel_rfl⟩
theorem U2:Ft.rs=[.c 6 (some 6)]:=rfl
theorem VC (hl:args.length≤12) (h:Run Ft K [.code PG] (As args) E σ):AT Tryz.prog 188 args σ K:=
 AX (cx:=Ft) (code:=Tryz.f188.body.getD .skip) PL (by kernel_rfl) Tryz.ntmps188 hl (AZ Ft _ (BB PG) _ [] (by kernel_rfl)) h
def JZ:C:=(.seq (.seq (.reg [Qm 11 0,
 Qm 12 1,
 Qo 13 (.call 65 [(.t 11),(.t 12)])] [0,1,2,7,13])
 (.cond (.t 13) .skip
 (.exit 0)))
 (.block 1 (.reg [Qm 14 7,
 Qm 15 2,
 Qo 16 (.ED (.t 15) []),
 Qo 17 (.bsl 3 1 [(.d (.int .i64 0)),(.d (.str [])),.AW] [(0,3,(.t 16))]),
 Qo 18 (.app 75 3 48 (.t 14) (.t 17)),
 Qm 7 18] [0,1,2,7])))
def GG:C:=(.seq (.reg [Qo 6 (.mv (.c .AW))] [0,1,2])
 (.seq (.reg [Qm 8 2,
 Qo 9 (.ED (.t 8) []),
 Qo 10 (.Li 75 3 1 [(.d (.int .i64 0)),(.d (.str [])),.AW] [(0,3,(.t 9))]),
 Qm 7 10] [0,1,2,7])
 (.seq (.block 0 (.loop JZ))
 (.seq (.reg [Qm 19 7,
 Qm 6 19] [6])
 .ret))))
noncomputable def By:Cx:=⟨Tryz.prog,196,Tryz.f196,20,[10],[],[.t 6]⟩
theorem GJ:Good By:=⟨Tryz.func196,by kernel_rfl⟩
theorem Kp:By.rs=[.t 6]:=rfl
theorem LZ (hl:args.length≤20) (h:Run By K [.code GG] (As args) E σ):AT Tryz.prog 196 args σ K:=
 AX (cx:=By) (code:=Tryz.f196.body.getD .skip) GJ (by kernel_rfl) Tryz.ntmps196 hl (AZ By _ (BB GG) _ [] (by kernel_rfl)) h
def NZ:C:=(.seq (.seq (.reg [Qm 9 4,
 Qo 10 (.bin .neq (.t 9) (.c (.d (.int .i64 0))))] [0,2,3,4,10])
 (.cond (.t 10) .skip
 (.exit 0)))
 (.seq (.block 1 (.reg [Qm 13 4,
 Qo 14 (.ldl (.t 3) (some 6)),
 Qm 15 0,
 Qo 16 (.call 204 [(.t 15)]),
 Qo 17 (.call 188 [(.t 13),(.t 14),(.t 16)]),
 ⟨none,.st (.t 3) (.t 17) 6,none⟩] [0,2,3]))
 (.reg [Qm 11 0,
 Qo 12 (.call 187 [(.t 11),(.c (.d (.int .i64 3)))]),
 Qm 4 12] [0,2,3,4])))
def Jx:C:=(.seq (.reg [Qo 2 (.al [(.d (.int .i64 0)),(.d (.str [])),(.d (.int .i64 0)),.AW,.AW,.AW] false)] [0,2])
 (.seq (.reg [Qm 5 0,
 Qo 6 (.call 204 [(.t 5)]),
 Qo 3 (.al [(.d (.int .i64 0)),(.d (.str [])),(.d (.int .i64 0)),.AW,.AW,.AW] false),
 ⟨none,.st (.t 3) (.t 6) 6,none⟩] [0,2,3])
 (.seq (.seq (.reg [Qm 7 0,
 Qo 8 (.call 187 [(.t 7),(.c (.d (.int .i64 3)))]),
 Qm 4 8] [0,2,3,4])
 (.block 0 (.loop NZ)))
 (.seq (.reg [Qo 18 (.ldl (.t 3) (some 6)),
 ⟨none,.st (.t 2) (.t 18) 6,none⟩] [2])
 .ret))))
noncomputable def Dv:Cx:=⟨Tryz.prog,197,Tryz.f197,19,[300014,300018],[],[.c 2 (some 6)]⟩
theorem KM:Good Dv:=⟨Tryz.func197,by kernel_rfl⟩
theorem Pq:Dv.rs=[.c 2 (some 6)]:=rfl
theorem Q1 (hl:args.length≤19) (h:Run Dv K [.code Jx] (As args) E σ):AT Tryz.prog 197 args σ K:=
 AX (cx:=Dv) (code:=Tryz.f197.body.getD .skip) KM (by kernel_rfl) Tryz.ntmps197 hl (AZ Dv _ (BB Jx) _ [] (by kernel_rfl)) h
def IT:C:=(.seq (.seq (.reg [Qm 6 0,
 Qo 7 (.call 65 [(.t 6),(.c (.d (.str [40])))])] [0,2,3,7])
 (.cond (.t 7) .skip
 (.exit 0)))
 (.block 1 (.Qi (.one (Qo 8 (.ldl (.t 3) (some 6)))
 (.one (Qm 10 0)
 (.one (Qm 11 0)
 (.one (Qo 12 (.mkf 131 [(.t 11)] []))
 (.alt (Qo 9 (.Li 44 6 1 [(.d (.int .i64 0)),(.d (.str [])),(.d (.int .i64 0)),.AW,.AW,.AW] [(0,6,(.t 8))]))
 (.one (Qo 13 (.call 208 [(.t 10),(.t 12)]))
 (.one (Qo 14 (.app 44 6 104 (.t 9) (.t 13)))
 (.one (Qo 15 (.bld [(.d (.int .i64 0)),(.d (.str [])),(.d (.int .i64 0)),.AW,.AW,.AW] [(0,1,(.c (.d (.int .i64 12)))),(4,1,(.t 14))]))
 (.one ⟨none,.st (.t 3) (.t 15) 6,none⟩
 .done))))
 (.alt (Qo 13 (.call 208 [(.t 10),(.t 12)]))
 (.one (Qo 9 (.Li 44 6 1 [(.d (.int .i64 0)),(.d (.str [])),(.d (.int .i64 0)),.AW,.AW,.AW] [(0,6,(.t 8))]))
 (.one (Qo 14 (.app 44 6 104 (.t 9) (.t 13)))
 (.one (Qo 15 (.bld [(.d (.int .i64 0)),(.d (.str [])),(.d (.int .i64 0)),.AW,.AW,.AW] [(0,1,(.c (.d (.int .i64 12)))),(4,1,(.t 14))]))
 (.one ⟨none,.st (.t 3) (.t 15) 6,none⟩
 .done))))
 .done)))))) [0,2,3])))
def R2:C:=(.seq (.reg [Qo 2 (.al [(.d (.int .i64 0)),(.d (.str [])),(.d (.int .i64 0)),.AW,.AW,.AW] false)] [0,2])
 (.seq (.reg [Qm 4 0,
 Qo 5 (.call 207 [(.t 4)]),
 Qo 3 (.al [(.d (.int .i64 0)),(.d (.str [])),(.d (.int .i64 0)),.AW,.AW,.AW] false),
 ⟨none,.st (.t 3) (.t 5) 6,none⟩] [0,2,3])
 (.seq (.block 0 (.loop IT))
 (.seq (.reg [Qo 16 (.ldl (.t 3) (some 6)),
 ⟨none,.st (.t 2) (.t 16) 6,none⟩] [2])
 .ret))))
def Ro:List (List Nat×PT):=[([0,2],.done),([0,2,3],.done),([0,2,3,7],.done),([0,2,3],(.one 0 (.one 2 (.one 3 (.one 4 (.alt 1 (.one 5 (.one 6 (.one 7 (.one 8 .done)))) (.alt 5 (.one 1 (.one 6 (.one 7 (.one 8 .done)))) .done))))))),([2],.done)]
noncomputable def DI:Cx:=⟨Tryz.prog,204,Tryz.f204,17,[9,300008,300016],[],[.c 2 (some 6)]⟩
theorem LG:Good DI:=⟨Tryz.func204,by kernel_rfl⟩
theorem Ql:DI.rs=[.c 2 (some 6)]:=rfl
theorem R7 (hl:args.length≤17) (h:Run DI K [.code R2] (As args) E σ):AT Tryz.prog 204 args σ K:=
 AX (cx:=DI) (code:=Tryz.f204.body.getD .skip) LG (by kernel_rfl) Tryz.ntmps204 hl (AZ DI _ Ro _ [] (by kernel_rfl)) h
def NY:C:=(.seq (.seq (.reg [Qm 68 5,
 Qo 69 (.bin .leq (.t 68) (.c (.d (.int .i64 7))))] [0,2,5,69])
 (.cond (.t 69) .skip
 (.exit 1)))
 (.seq (.block 2 (.seq (.reg [Qm 73 5,
 Qo 74 (.call 147 [(.t 73)]),
 Qm 72 74,
 Qo 75 (.ext (.t 72) 0),
 Qo 76 (.ext (.t 72) 1),
 Qm 6 75,
 Qm 7 76] [0,2,5,6,7])
 (.seq (.reg [Qm 77 0,
 Qm 78 6,
 Qo 79 (.call 65 [(.t 77),(.t 78)])] [0,2,5,7,79])
 (.cond (.t 79) (.seq (.reg [Qm 80 5,
 Qm 81 0,
 Qm 82 7,
 Qo 83 (.call 213 [(.t 81),(.t 82)]),
 Qo 84 (.bld [(.d (.int .i64 0)),(.d (.str [])),(.d (.int .i64 0)),.AW,.AW,.AW] [(0,1,(.c (.d (.int .i64 14)))),(2,1,(.t 80)),(4,1,(.t 83))]),
 ⟨none,.st (.t 2) (.t 84) 6,none⟩] [2])
 .ret)
 .skip))))
 (.reg [Qm 70 5,
 Qo 71 (.bin .add (.t 70) (.c (.d (.int .i64 1)))),
 Qm 5 71] [0,2,5])))
def Jw:C:=(.seq (.reg [Qo 2 (.al [(.d (.int .i64 0)),(.d (.str [])),(.d (.int .i64 0)),.AW,.AW,.AW] false)] [0,2])
 (.seq (.seq (.reg [Qm 8 0,
 Qo 9 (.call 64 [(.t 8)]),
 Qo 3 (.al [(.d (.int .i64 0)),(.d (.str [])),(.d (.int .i64 0))] false),
 ⟨none,.st (.t 3) (.t 9) 3,none⟩] [0,2,3])
 (.block 0 (.seq (.reg [Qo 11 (.fld (.t 3) 0),
 Qo 12 (.ldl (.t 11) none),
 Qo 13 (.bin .eql (.t 12) (.c (.d (.int .i64 3)))),
 Qm 10 13] [0,2,3,10])
 (.cond (.t 10) (.seq (.reg [Qm 14 0,
 Qo 15 (.call 209 [(.t 14)]),
 Qo 16 (.bld [(.d (.int .i64 0)),(.d (.str [])),(.d (.int .i64 0)),.AW,.AW,.AW] [(0,1,(.c (.d (.int .i64 3)))),(2,1,(.t 15))]),
 ⟨none,.st (.t 2) (.t 16) 6,none⟩] [2])
 .ret)
 (.seq (.reg [Qo 18 (.fld (.t 3) 0),
 Qo 19 (.ldl (.t 18) none),
 Qo 20 (.bin .eql (.t 19) (.c (.d (.int .i64 1)))),
 Qm 17 20] [0,2,3,17])
 (.cond (.t 17) (.seq (.reg [Qm 21 0,
 Qo 22 (.call 126 [(.t 21)]),
 Qo 23 (.bld [(.d (.int .i64 0)),(.d (.str [])),(.d (.int .i64 0)),.AW,.AW,.AW] [(0,1,(.c (.d (.int .i64 4)))),(1,1,(.t 22))]),
 ⟨none,.st (.t 2) (.t 23) 6,none⟩] [2])
 .ret)
 (.seq (.reg [Qo 25 (.fld (.t 3) 0),
 Qo 26 (.ldl (.t 25) none),
 Qo 27 (.bin .eql (.t 26) (.c (.d (.int .i64 2)))),
 Qm 24 27] [0,2,24])
 (.cond (.t 24) (.seq (.reg [Qm 28 0,
 Qo 29 (.call 124 [(.t 28),(.c (.d (.int .i64 2)))]),
 Qo 30 (.bld [(.d (.int .i64 0)),(.d (.str [])),(.d (.int .i64 0)),.AW,.AW,.AW] [(0,1,(.c (.d (.int .i64 6)))),(1,1,(.t 29))]),
 Qo 4 (.al [(.d (.int .i64 0)),(.d (.str [])),(.d (.int .i64 0)),.AW,.AW,.AW] false),
 ⟨none,.st (.t 4) (.t 30) 6,none⟩] [0,2,4])
 (.seq (.reg [Qm 31 0,
 Qm 32 0,
 Qo 33 (.mkf 131 [(.t 32)] []),
 Qo 34 (.call 210 [(.t 31),(.t 33)]),
 Qo 35 (.fld (.t 4) 4),
 ⟨none,.st (.t 35) (.t 34) 1,none⟩] [2,4])
 (.seq (.reg [Qo 36 (.ldl (.t 4) (some 6)),
 ⟨none,.st (.t 2) (.t 36) 6,none⟩] [2])
 .ret)))
 (.seq (.reg [Qm 38 0,
 Qo 39 (.call 65 [(.t 38),(.c (.d (.str [45])))]),
 Qm 37 39] [0,2,37])
 (.cond (.t 37) (.seq (.reg [Qm 40 0,
 Qo 41 (.call 209 [(.t 40)]),
 Qo 42 (.un .neg (.t 41)),
 Qo 43 (.bld [(.d (.int .i64 0)),(.d (.str [])),(.d (.int .i64 0)),.AW,.AW,.AW] [(0,1,(.c (.d (.int .i64 3)))),(2,1,(.t 42))]),
 ⟨none,.st (.t 2) (.t 43) 6,none⟩] [2])
 .ret)
 (.seq (.reg [Qm 45 0,
 Qo 46 (.call 65 [(.t 45),(.c (.d (.str [116,114,117,101])))]),
 Qm 44 46] [0,2,44])
 (.cond (.t 44) (.seq (.reg [Qo 47 (.bld [(.d (.int .i64 0)),(.d (.str [])),(.d (.int .i64 0)),.AW,.AW,.AW] [(0,1,(.c (.d (.int .i64 2)))),(2,1,(.c (.d (.int .i64 1))))]),
 ⟨none,.st (.t 2) (.t 47) 6,none⟩] [2])
 .ret)
 (.seq (.reg [Qm 49 0,
 Qo 50 (.call 65 [(.t 49),(.c (.d (.str [102,97,108,115,101])))]),
 Qm 48 50] [0,2,48])
 (.cond (.t 48) (.seq (.reg [Qo 51 (.bld [(.d (.int .i64 0)),(.d (.str [])),(.d (.int .i64 0)),.AW,.AW,.AW] [(0,1,(.c (.d (.int .i64 2))))]),
 ⟨none,.st (.t 2) (.t 51) 6,none⟩] [2])
 .ret)
 (.seq (.reg [Qm 53 0,
 Qo 54 (.call 65 [(.t 53),(.c (.d (.str [40])))]),
 Qm 52 54] [0,2,52])
 (.cond (.t 52) (.seq (.reg [Qm 55 0,
 Qo 56 (.call 211 [(.t 55)]),
 ⟨none,.st (.t 2) (.t 56) 6,none⟩] [2])
 .ret)
 (.seq (.reg [Qm 58 0,
 Qo 59 (.call 65 [(.t 58),(.c (.d (.str [116,105,99,107])))]),
 Qm 57 59] [0,2,57])
 (.cond (.t 57) (.seq (.reg [Qm 60 0,
 Qo 61 (.call 212 [(.t 60)]),
 ⟨none,.st (.t 2) (.t 61) 6,none⟩] [2])
 .ret)
 (.seq (.reg [Qm 63 0,
 Qo 64 (.call 65 [(.t 63),(.c (.d (.str [114,97,105,115,101])))]),
 Qm 62 64] [0,2,62])
 (.cond (.t 62) (.seq (.reg [Qm 65 0,
 Qo 66 (.call 213 [(.t 65),(.c (.d (.int .i64 1)))]),
 Qo 67 (.bld [(.d (.int .i64 0)),(.d (.str [])),(.d (.int .i64 0)),.AW,.AW,.AW] [(0,1,(.c (.d (.int .i64 16)))),(4,1,(.t 66))]),
 ⟨none,.st (.t 2) (.t 67) 6,none⟩] [2])
 .ret)
 .skip))))))))))))))))))))
 (.seq (.seq (.reg [Qo 5 (.mv (.c (.d (.int .i64 1))))] [0,2,5])
 (.block 1 (.loop NY)))
 (.seq (.reg [Qm 85 0,
 Qo 86 (.call 68 [(.t 85)])] [2])
 (.seq (.reg [Qo 87 (.bld [(.d (.int .i64 0)),(.d (.str [])),(.d (.int .i64 0)),.AW,.AW,.AW] []),
 ⟨none,.st (.t 2) (.t 87) 6,none⟩] [2])
 .ret)))))
noncomputable def Du:Cx:=⟨Tryz.prog,207,Tryz.f207,88,[300012,300019,300026,300036],[],[.c 2 (some 6)]⟩
theorem BD:Good Du:=⟨Tryz.func207,by kernel_rfl⟩
theorem Pp:Du.rs=[.c 2 (some 6)]:=rfl
theorem Q0 (hl:args.length≤88) (h:Run Du K [.code Jw] (As args) E σ):AT Tryz.prog 207 args σ K:=
 AX (cx:=Du) (code:=Tryz.f207.body.getD .skip) BD (by kernel_rfl) Tryz.ntmps207 hl (AZ Du _ (BB Jw) _ [] (by kernel_rfl)) h
def HK:C:=(.seq (.reg [Qo 4 (.mv (.c .AW))] [0,1])
 (.seq (.seq (.reg [Qm 5 0,
 Qo 6 (.call 65 [(.t 5),(.c (.d (.str [41])))])] [0,1,6])
 (.cond (.t 6) (.seq (.reg [Qo 4 (.mv (.c .AW))] [4])
 .ret)
 .skip))
 (.seq (.reg [Qm 7 0,
 Qm 8 1,
 Qo 9 (.call 214 [(.t 7),(.t 8)]),
 Qm 4 9] [4])
 .ret)))
noncomputable def C4:Cx:=⟨Tryz.prog,208,Tryz.f208,10,[],[],[.t 4]⟩
theorem Er:Good C4:=⟨Tryz.func208,by kernel_rfl⟩
theorem M7:C4.rs=[.t 4]:=rfl
theorem Mx (hl:args.length≤10) (h:Run C4 K [.code HK] (As args) E σ):AT Tryz.prog 208 args σ K:=
 AX (cx:=C4) (code:=Tryz.f208.body.getD .skip) Er (by kernel_rfl) Tryz.ntmps208 hl (AZ C4 _ (BB HK) _ [] (by kernel_rfl)) h
def IV:C:=(.seq (.reg [Qo 2 (.mv (.c (.d (.int .i64 0))))] [0])
 (.seq (.reg [Qm 6 0,
 Qo 7 (.call 124 [(.t 6),(.c (.d (.int .i64 3)))]),
 Qo 8 (.call 215 [(.t 7),(.c (.d (.int .i64 10))),(.c (.d (.int .i64 64)))]),
 Qm 5 8,
 Qo 9 (.ext (.t 5) 0),
 Qo 10 (.ext (.t 5) 1),
 Qm 3 9,
 Qm 4 10] [3])
 (.seq (.reg [Qm 11 3,
 Qm 2 11] [2])
 .ret)))
noncomputable def DF:Cx:=⟨Tryz.prog,209,Tryz.f209,12,[],[],[.t 2]⟩
theorem I5:Good DF:=⟨Tryz.func209,by kernel_rfl⟩
theorem Nx:DF.rs=[.t 2]:=rfl
theorem O9 (hl:args.length≤12) (h:Run DF K [.code IV] (As args) E σ):AT Tryz.prog 209 args σ K:=
 AX (cx:=DF) (code:=Tryz.f209.body.getD .skip) I5 (by kernel_rfl) Tryz.ntmps209 hl (AZ DF _ (BB IV) _ [] (by kernel_rfl)) h
def HM:C:=(.seq (.reg [Qo 4 (.mv (.c .AW))] [0,1])
 (.seq (.seq (.reg [Qm 5 0,
 Qo 6 (.call 65 [(.t 5),(.c (.d (.str [40])))]),
 Qo 7 (.un .not (.t 6))] [0,1,7])
 (.cond (.t 7) (.seq (.reg [Qo 4 (.mv (.c .AW))] [4])
 .ret)
 .skip))
 (.seq (.reg [Qm 8 0,
 Qm 9 1,
 Qo 10 (.call 214 [(.t 8),(.t 9)]),
 Qm 4 10] [4])
 .ret)))
noncomputable def C6:Cx:=⟨Tryz.prog,210,Tryz.f210,11,[],[],[.t 4]⟩
theorem Es:Good C6:=⟨Tryz.func210,by kernel_rfl⟩
theorem M9:C6.rs=[.t 4]:=rfl
theorem Mz (hl:args.length≤11) (h:Run C6 K [.code HM] (As args) E σ):AT Tryz.prog 210 args σ K:=
 AX (cx:=C6) (code:=Tryz.f210.body.getD .skip) Es (by kernel_rfl) Tryz.ntmps210 hl (AZ C6 _ (BB HM) _ [] (by kernel_rfl)) h
def LU:C:=(.seq (.reg [Qo 2 (.al [(.d (.int .i64 0)),(.d (.str [])),(.d (.int .i64 0)),.AW,.AW,.AW] false)] [0,2])
 (.seq (.seq (.reg [Qm 4 0,
 Qo 5 (.call 65 [(.t 4),(.c (.d (.str [41])))])] [0,2,5])
 (.cond (.t 5) (.seq (.reg [Qo 6 (.bld [(.d (.int .i64 0)),(.d (.str [])),(.d (.int .i64 0)),.AW,.AW,.AW] [(0,1,(.c (.d (.int .i64 1))))]),
 ⟨none,.st (.t 2) (.t 6) 6,none⟩] [2])
 .ret)
 .skip))
 (.seq (.reg [Qm 7 0,
 Qo 8 (.call 131 [(.t 7)]),
 Qo 3 (.al [(.d (.int .i64 0)),(.d (.str [])),(.d (.int .i64 0)),.AW,.AW,.AW] false),
 ⟨none,.st (.t 3) (.t 8) 6,none⟩] [0,2,3])
 (.seq (.seq (.reg [Qm 9 0,
 Qo 10 (.call 65 [(.t 9),(.c (.d (.str [41])))])] [0,2,3,10])
 (.cond (.t 10) (.seq (.reg [Qo 11 (.ldl (.t 3) (some 6)),
 ⟨none,.st (.t 2) (.t 11) 6,none⟩] [2])
 .ret)
 .skip))
 (.seq (.reg [Qm 12 0,
 Qo 13 (.call 127 [(.t 12),(.c (.d (.str [44])))])] [0,2,3])
 (.seq (.Qi (.one (Qo 14 (.ldl (.t 3) (some 6)))
 (.one (Qm 16 0)
 (.one (Qm 17 0)
 (.one (Qo 18 (.mkf 131 [(.t 17)] []))
 (.alt (Qo 15 (.Li 44 6 1 [(.d (.int .i64 0)),(.d (.str [])),(.d (.int .i64 0)),.AW,.AW,.AW] [(0,6,(.t 14))]))
 (.one (Qo 19 (.call 214 [(.t 16),(.t 18)]))
 (.one (Qo 20 (.app 44 6 104 (.t 15) (.t 19)))
 (.one (Qo 21 (.bld [(.d (.int .i64 0)),(.d (.str [])),(.d (.int .i64 0)),.AW,.AW,.AW] [(0,1,(.c (.d (.int .i64 5)))),(4,1,(.t 20))]))
 (.one ⟨none,.st (.t 2) (.t 21) 6,none⟩
 .done))))
 (.alt (Qo 19 (.call 214 [(.t 16),(.t 18)]))
 (.one (Qo 15 (.Li 44 6 1 [(.d (.int .i64 0)),(.d (.str [])),(.d (.int .i64 0)),.AW,.AW,.AW] [(0,6,(.t 14))]))
 (.one (Qo 20 (.app 44 6 104 (.t 15) (.t 19)))
 (.one (Qo 21 (.bld [(.d (.int .i64 0)),(.d (.str [])),(.d (.int .i64 0)),.AW,.AW,.AW] [(0,1,(.c (.d (.int .i64 5)))),(4,1,(.t 20))]))
 (.one ⟨none,.st (.t 2) (.t 21) 6,none⟩
 .done))))
 .done)))))) [2])
 .ret))))))
def Ld:List (List Nat×PT):=[([0,2],.done),([0,2,5],.done),([2],.done),([0,2,3],.done),([0,2,3,10],.done),([2],.done),([0,2,3],.done),([2],(.one 0 (.one 2 (.one 3 (.one 4 (.alt 1 (.one 5 (.one 6 (.one 7 (.one 8 .done)))) (.alt 5 (.one 1 (.one 6 (.one 7 (.one 8 .done)))) .done)))))))]
noncomputable def Bz:Cx:=⟨Tryz.prog,211,Tryz.f211,22,[15,300011,300014],[],[.c 2 (some 6)]⟩
theorem Bw:Good Bz:=⟨Tryz.func211,by kernel_rfl⟩
theorem Kq:Bz.rs=[.c 2 (some 6)]:=rfl
theorem L1 (hl:args.length≤22) (h:Run Bz K [.code LU] (As args) E σ):AT Tryz.prog 211 args σ K:=
 AX (cx:=Bz) (code:=Tryz.f211.body.getD .skip) Bw (by kernel_rfl) Tryz.ntmps211 hl (AZ Bz _ Ld _ [] (by kernel_rfl)) h
def Jz:C:=(.seq (.reg [Qo 2 (.al [(.d (.int .i64 0)),(.d (.str [])),(.d (.int .i64 0)),.AW,.AW,.AW] false)] [0,2])
 (.seq (.reg [Qm 4 0,
 Qo 5 (.call 127 [(.t 4),(.c (.d (.str [40])))])] [0,2])
 (.seq (.reg [Qo 6 (.bld [(.d (.int .i64 0)),(.d (.str [])),(.d (.int .i64 0)),.AW,.AW,.AW] [(0,1,(.c (.d (.int .i64 15))))]),
 Qo 3 (.al [(.d (.int .i64 0)),(.d (.str [])),(.d (.int .i64 0)),.AW,.AW,.AW] false),
 ⟨none,.st (.t 3) (.t 6) 6,none⟩] [0,2,3])
 (.seq (.seq (.reg [Qm 7 0,
 Qo 8 (.call 65 [(.t 7),(.c (.d (.str [45])))])] [0,2,3,8])
 (.cond (.t 8) (.reg [Qm 9 0,
 Qo 10 (.call 209 [(.t 9)]),
 Qo 11 (.un .neg (.t 10)),
 Qo 12 (.fld (.t 3) 2),
 ⟨none,.st (.t 12) (.t 11) 1,none⟩] [0,2,3])
 (.reg [Qm 13 0,
 Qo 14 (.call 209 [(.t 13)]),
 Qo 15 (.fld (.t 3) 2),
 ⟨none,.st (.t 15) (.t 14) 1,none⟩] [0,2,3])))
 (.seq (.reg [Qm 16 0,
 Qo 17 (.call 127 [(.t 16),(.c (.d (.str [41])))])] [2,3])
 (.seq (.reg [Qo 18 (.ldl (.t 3) (some 6)),
 ⟨none,.st (.t 2) (.t 18) 6,none⟩] [2])
 .ret))))))
noncomputable def Dx:Cx:=⟨Tryz.prog,212,Tryz.f212,19,[300018],[],[.c 2 (some 6)]⟩
theorem G8:Good Dx:=⟨Tryz.func212,by kernel_rfl⟩
theorem Pt:Dx.rs=[.c 2 (some 6)]:=rfl
theorem Q3 (hl:args.length≤19) (h:Run Dx K [.code Jz] (As args) E σ):AT Tryz.prog 212 args σ K:=
 AX (cx:=Dx) (code:=Tryz.f212.body.getD .skip) G8 (by kernel_rfl) Tryz.ntmps212 hl (AZ Dx _ (BB Jz) _ [] (by kernel_rfl)) h
def Ke:C:=(.seq (.reg [Qo 14 (.bin .lss (.t 13) (.t 12))] [0,5,12,13,14])
 (.seq (.cond (.t 14) .skip
 (.exit 0))
 (.seq (.block 1 (.seq (.reg [Qm 15 0,
 Qo 16 (.call 127 [(.t 15),(.c (.d (.str [44])))])] [0,5,12,13])
 (.reg [Qm 17 5,
 Qm 18 0,
 Qo 19 (.call 131 [(.t 18)]),
 Qo 20 (.bsl 6 1 [(.d (.int .i64 0)),(.d (.str [])),(.d (.int .i64 0)),.AW,.AW,.AW] [(0,6,(.t 19))]),
 Qo 21 (.app 44 6 104 (.t 17) (.t 20)),
 Qm 5 21] [0,5,12,13])))
 (.reg [Qo 22 (.bin .add (.t 13) (.c (.d (.int .i64 1)))),
 Qm 13 22] [0,5,12,13]))))
def Gt:C:=(.seq (.reg [Qo 4 (.mv (.c .AW))] [0,1])
 (.seq (.reg [Qm 6 0,
 Qo 7 (.call 127 [(.t 6),(.c (.d (.str [40])))])] [0,1])
 (.seq (.reg [Qm 8 0,
 Qo 9 (.call 131 [(.t 8)]),
 Qo 10 (.Li 44 6 1 [(.d (.int .i64 0)),(.d (.str [])),(.d (.int .i64 0)),.AW,.AW,.AW] [(0,6,(.t 9))]),
 Qm 5 10] [0,1,5])
 (.seq (.seq (.reg [Qm 11 1,
 Qo 12 (.bin .sub (.t 11) (.c (.d (.int .i64 1)))),
 Qo 13 (.mv (.c (.d (.int .i64 0))))] [0,5,12,13])
 (.block 0 (.loop Ke)))
 (.seq (.reg [Qm 23 0,
 Qo 24 (.call 127 [(.t 23),(.c (.d (.str [41])))])] [5])
 (.seq (.reg [Qm 25 5,
 Qm 4 25] [4])
 .ret))))))
noncomputable def CU:Cx:=⟨Tryz.prog,213,Tryz.f213,26,[10],[],[.t 4]⟩
theorem Gw:Good CU:=⟨Tryz.func213,by kernel_rfl⟩
theorem MO:CU.rs=[.t 4]:=rfl
theorem M3 (hl:args.length≤26) (h:Run CU K [.code Gt] (As args) E σ):AT Tryz.prog 213 args σ K:=
 AX (cx:=CU) (code:=Tryz.f213.body.getD .skip) Gw (by kernel_rfl) Tryz.ntmps213 hl (AZ CU _ (BB Gt) _ [] (by kernel_rfl)) h
def HL:C:=(.seq (.reg [Qo 4 (.mv (.c .AW))] [0,1])
 (.seq (.reg [Qm 6 0,
 Qm 7 1,
 Qo 8 (.call 216 [(.t 6),(.c (.d (.str [44]))),(.t 7)]),
 Qm 5 8] [0,5])
 (.seq (.reg [Qm 9 0,
 Qo 10 (.call 127 [(.t 9),(.c (.d (.str [41])))])] [5])
 (.seq (.reg [Qm 11 5,
 Qm 4 11] [4])
 .ret))))
noncomputable def C5:Cx:=⟨Tryz.prog,214,Tryz.f214,12,[],[],[.t 4]⟩
theorem HS:Good C5:=⟨Tryz.func214,by kernel_rfl⟩
theorem M8:C5.rs=[.t 4]:=rfl
theorem My (hl:args.length≤12) (h:Run C5 K [.code HL] (As args) E σ):AT Tryz.prog 214 args σ K:=
 AX (cx:=C5) (code:=Tryz.f214.body.getD .skip) HS (by kernel_rfl) Tryz.ntmps214 hl (AZ C5 _ (BB HL) _ [] (by kernel_rfl)) h
def Lj:C:=(.seq (.seq (.reg [Qm 11 0,
 Qm 12 1,
 Qo 13 (.call 65 [(.t 11),(.t 12)])] [0,1,2,7,13])
 (.cond (.t 13) .skip
 (.exit 0)))
 (.block 1 (.reg [Qm 14 7,
 Qm 15 2,
 Qo 16 (.ED (.t 15) []),
 Qo 17 (.bsl 6 1 [(.d (.int .i64 0)),(.d (.str [])),(.d (.int .i64 0)),.AW,.AW,.AW] [(0,6,(.t 16))]),
 Qo 18 (.app 44 6 104 (.t 14) (.t 17)),
 Qm 7 18] [0,1,2,7])))
def Hi:C:=(.seq (.reg [Qo 6 (.mv (.c .AW))] [0,1,2])
 (.seq (.reg [Qm 8 2,
 Qo 9 (.ED (.t 8) []),
 Qo 10 (.Li 44 6 1 [(.d (.int .i64 0)),(.d (.str [])),(.d (.int .i64 0)),.AW,.AW,.AW] [(0,6,(.t 9))]),
 Qm 7 10] [0,1,2,7])
 (.seq (.block 0 (.loop Lj))
 (.seq (.reg [Qm 19 7,
 Qm 6 19] [6])
 .ret))))
noncomputable def Ch:Cx:=⟨Tryz.prog,216,Tryz.f216,20,[10],[],[.t 6]⟩
theorem Hp:Good Ch:=⟨Tryz.func216,by kernel_rfl⟩
theorem NI:Ch.rs=[.t 6]:=rfl
theorem N6 (hl:args.length≤20) (h:Run Ch K [.code Hi] (As args) E σ):AT Tryz.prog 216 args σ K:=
 AX (cx:=Ch) (code:=Tryz.f216.body.getD .skip) Hp (by kernel_rfl) Tryz.ntmps216 hl (AZ Ch _ (BB Hi) _ [] (by kernel_rfl)) h
attribute [go_sem] VJ NK Po Nv Pk Qp Pm On Ps Nu Pn Nw L8 Qn Np Pl Nt Nr K4 Qs Qq Nq Qk Ph Pj Om K3 NJ K0 Qr Mb U2 Kp Pq Ql Pp M7 Nx M9 Kq Pt MO M8 NI
end Go.Ab
