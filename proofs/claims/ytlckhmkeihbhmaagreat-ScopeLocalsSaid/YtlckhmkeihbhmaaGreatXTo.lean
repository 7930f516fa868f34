/- One token. Texts split into tokens. Valid programs, in plain data. Names and arities, in plain data. The compact codes of the functions of this seat, computed out of the translation. Conditions: none. -/
import Derived.Test.YtlckhmkeihbhmaaGreatProg
import Derived.KernelRfl
import Derived.Test.YtlckhmkeihbhmaaGreatXLfP
set_option linter.unusedSimpArgs false
set_option linter.unusedVariables false
set_option maxRecDepth 4000
set_option maxHeartbeats 8000000
open Bool renaming or_true→MA,true_or→J8,or_false→Gg,false_or→DW,and_true→Az,true_and→BD,and_false→Bg,false_and→B2,false_eq_true→AZ
open Nat renaming le_refl→A0,lt_or_ge→Bt
open List renaming getElem?_drop→BL,drop_drop→ED,drop_length→Ja,length_append→AT,range→BI
namespace Go.Ab
open Go.Proofs
def GH:Str→Except Int (Int×Str)
 |[]=>.error 2
 |b::r=>
  if Sc b.toNat||SA b.toNat then
   if decide (((b::r).takeWhile (EE H2)).length>24) then .error 9
                                  else if SA b.toNat then .ok (2,(b::r).takeWhile (EE H2))
                                  else if YY ((b::r).takeWhile (EE H2)) then .ok (4,(b::r).takeWhile (EE H2))
                                  else .ok (1,(b::r).takeWhile (EE H2))
                                  else if Ho b.toNat then
   if b==48&&decide (((b::r).takeWhile (EE Ho)).length>1) then .error 2
                                         else if (Lc ((b::r).takeWhile (EE Ho)) 0).isSome then .ok (3,(b::r).takeWhile (EE Ho))
                                         else .error 9
                                         else if (b::r).take (HE (b::r))==[] then .error 2
                                         else .ok (5,(b::r).take (HE (b::r)))
def jD (k:Int) (t:Str) (p:Int):AV:= .agg [.d (.int .i64 k),.d (.str t),.d (.int .i64 p)]
def aE (p:Int):Except Int (Int×Str)→AV
 | .error e=>.tup [jD 0 [] 0,.d (.int .i64 e)]
 | .ok (k,t)=>.tup [jD k t p,.d (.int .i64 0)]
theorem El {α:Type} (p:α→Bool) (l:List α):(l.takeWhile p).length≤l.length:=(List.takeWhile_prefix p).length_le
theorem mK (b:UInt8):((b.toNat:Int)==48)=(b==48):=oP b 48
theorem r8 (n:Nat):decide ((24:Int) < (n:Int))=decide (n>24):=decide_eq_decide.2 (by omega)
theorem gt1 (n:Nat):decide ((1:Int) < (n:Int))=decide (n>1):=decide_eq_decide.2 (by omega)
theorem gQ:C7 Tryz.prog 169=true:=by kernel_rfl
theorem kQ:C7 Tryz.prog 171=true:=by kernel_rfl
theorem Q3 (src:Str) (i:Nat) (σ:AF) (hl:src.length≤1000000000) (hi:i < src.length):
 AK Tryz.prog 163 [.d (.str src),.d (.int .i64 i)] σ (fun v σ'=>v=aE i (GH (src.drop i))∧σ'=σ):=by
 obtain ⟨b,hb⟩:=Aw hi
 have hd:=Bc hb
 rw [hd]
 have hld:(src.drop i).length≤1000000000:=by simp;omega
 rw [hd] at hld
 have hw1:=El (EE H2) (b::src.drop (i+1))
 have hw2:=El (EE Ho) (b::src.drop (i+1))
 have hs1:PF (.d (.str src)) (some (.d (.int .i64 (i:Int)))) none=some (.d (.str (b::src.drop (i+1)))):=by rw [dQ (by omega),hd]
 refine YO (by simp) ?_
 rw [BR]
 generalize src.drop (i+1)=r at *
 (repeat' (first|refine Run.ct rfl ?_|((first|refine Run.reg mixed ?_|refine Run.AD ?_|refine Run.A1 Rf (AF.le_refl _) ?_|refine AI.det (PH _ _) ?_|refine AI.det (PI _ _) ?_|refine AI.det (Ky _ _) ?_|refine AI.det (TB _ _) ?_|refine AI.det (WN _ _ (by omega)) ?_|refine AI.det (XF _ _ (by simp)) ?_|refine AI.det (Ns (c:=H2) gQ UK _ _ hld) ?_|refine AI.det (Ns (c:=Ho) kQ Ky _ _ hld) ?_|(refine BO rfl (fun h=>?_) (fun h=>?_)<;>try (cases h;done)))<;>try simp -implicitDefEqProofs only [Cr hb,hs1,mK,r8,gt1,go_sem])|(refine ⟨fun h=>?_,fun h=>?_⟩<;>first|(cases h;done)|try simp only [h])|fail))
 all_goals (clear hw1 hw2 hs1 hd hld;first|(simp only [GH,aE,jD, *,MA,J8,Gg,DW,Az,BD,Bg,B2,AZ,reduceIte];done)|simp_all [GH,aE,jD])
end Go.Ab
namespace Go.Ab
open Go.Proofs
structure Tok where
 kind:Int
 text:Str
 pos:Nat
def Tok.enc (t:Tok):List DV:=[.int .i64 t.kind,.str t.text,.int .i64 t.pos]
def cmt (s:Str):Nat:=(s.takeWhile (fun c=>!(c==10))).length
def GK:Nat→Str→Nat→List Tok→List Tok×Nat×Int
 |0,_,_,_=>([],0,0)
 |n+1,rest,i,acc=>match rest with
  |[]=>(acc++[⟨6,[],i⟩],0,0)
  |b::r=>
   if Xx b.toNat then GK n r (i+1) acc
                               else if b==35 then GK n ((b::r).drop (cmt (b::r))) (i+cmt (b::r)) acc
                               else match GH (b::r) with
    | .error e=>([],i,e)
    | .ok (k,t)=>GK n ((b::r).drop t.length) (i+t.length) (acc++[⟨k,t,i⟩])
def FH (s:Str):List Tok×Nat×Int:=if s.length>16384 then ([],0,9) else GK (s.length+1) s 0 []
def IH (r:List Tok×Nat×Int):AV:= .tup [.d (.sl (r.1.map Tok.enc)),.d (.int .i64 r.2.1),.d (.int .i64 r.2.2)]
theorem N5 (b:UInt8):((b.toNat:Int)==35)=(b==35):=oP b 35
theorem Yr (b:UInt8):((b.toNat:Int)==10)=(b==10):=oP b 10
theorem kO (n:Nat):decide ((16384:Int) < (n:Int))=decide (n>16384):=decide_eq_decide.2 (by omega)
theorem WB {s:Str} {k:Int} {t:Str} (h:GH s= .ok (k,t)):1≤t.length∧t.length≤s.length:=by
 match s with
 |[]=>simp [GH] at h
 |b::r=>
  have h1:=El (EE H2) (b::r)
  have h2:=El (EE Ho) (b::r)
  simp only [GH] at h
  split at h
  · rename_i hlu
    have hw:EE H2 b=true:=by
     simp only [EE,H2];rw [hlu];rfl
    have h3:1≤((b::r).takeWhile (EE H2)).length:=by simp [hw]
    split at h
    · cases h
    · split at h
      · cases h;exact ⟨h3,h1⟩
      · split at h<;>(cases h;exact ⟨h3,h1⟩)
  · split at h
    · rename_i hdg
      have h3:1≤((b::r).takeWhile (EE Ho)).length:=by simp [EE,hdg]
      split at h
      · cases h
      · split at h<;>cases h
        exact ⟨h3,h2⟩
    · split at h
      · cases h
      · rename_i hne
        cases h
        refine ⟨?_,List.length_take_le' _ _⟩
        cases he:(b::r).take (HE (b::r)) with
        |nil=>rw [he] at hne;simp at hne
        |cons=>simp
theorem WA {s:Str} {e:Int} (h:GH s= .error e):e=2∨e=9:=by
 match s with
 |[]=>simp only [GH,Except.error.injEq] at h;omega
 |b::r=>
  simp only [GH] at h
  repeat' split at h
  all_goals first|(cases h;simp;done)|cases h
theorem WM (s:Str) (σ:AF):AK Tryz.prog 149 [.d (.str s)] σ (fun v σ'=>v=IH (FH s)∧σ'=σ):=by
 refine Wj (by simp) ?_
 rw [Bf]
 (repeat' (first|refine Run.ct rfl ?_|((first|refine Run.reg mixed ?_|refine Run.AD ?_|refine Run.A1 CJ (AF.le_refl _) ?_)<;>try simp -implicitDefEqProofs only [kO,go_sem])|(refine ⟨fun h=>?_,fun h=>?_⟩<;>first|(cases h;done)|try simp only [h])|fail))
 · have:s.length>16384:=by simpa using h
   simp [IH,FH,this]
 · have hl:¬s.length>16384:=by simpa using h
   refine Run.Ay ?_
   refine Run.BB ((fun (a0:AV)=>fun (y:Nat×AV×AF)=>put 0 a0 (put 5 (y.2.1) (put 6 (.d (.int .i64 y.1)) U))) _) (fun _=>E) (fun y=>y.2.2) (fun y=>y.1≤s.length∧∃acc n,Cl σ 216 3 (acc.map Tok.enc) y.2.1 y.2.2∧acc.length≤y.1∧s.length - y.1 < n∧FH s=GK n (s.drop y.1) y.1 acc) (fun y=>s.length - y.1) ?_ (0,.AU,σ) ⟨by simp,[],s.length+1,Cl.nil _ _ _,by simp,by simp,by simp [FH,hl]⟩
   rintro ⟨i,v,σ1⟩ ⟨hi,acc,n,ho,hac,hn,hs⟩ ih
   simp only at hi ho hac hn hs
   obtain ⟨n,rfl⟩:∃m,n=m+1:=⟨n - 1,by omega⟩
   by_cases hlt:i < s.length
   · obtain ⟨x,hx⟩:=Aw hlt
     rw [Bc hx,GK] at hs
     have hw1:=A7 (show i+1≤9000000000000000000 by omega)
     have hsl:(x::s.drop (i+1)).length=s.length - i:=by simp;omega
     cases hb:Xx x.toNat with
     |true=>
      rw [hb] at hs
      (repeat' (first|refine Run.ct rfl ?_|((first|refine Run.reg mixed ?_|refine Run.AD ?_|refine Run.A1 CJ (AF.le_refl _) ?_|refine AI.det (II _ _) ?_)<;>try simp -implicitDefEqProofs only [A8 hlt,Cr hx,hb,hw1,go_sem])|fail))
      exact ih (i+1,v,σ1) ⟨hlt,acc,n,ho,by simp only;omega,by simp only;omega,hs⟩ (by simp only;omega)
     |false=>
      rw [hb,if_neg (by simp)] at hs
      cases hc:(x==35) with
      |true=>
       rw [hc,if_pos rfl] at hs
       (repeat' (first|refine Run.ct rfl ?_|((first|refine Run.reg mixed ?_|refine Run.AD ?_|refine Run.A1 CJ (AF.le_refl _) ?_|refine AI.det (II _ _) ?_)<;>try simp -implicitDefEqProofs only [A8 hlt,Cr hx,N5,hb,hc,go_sem])|fail))
       refine Run.Ma [0,5,6] ?_;simp -implicitDefEqProofs only [go_sem]
       refine Run.Ay ?_
       refine Run.BB ((fun (a0:AV) (a5:AV)=>fun (j:Nat)=>put 0 a0 (put 5 a5 (put 6 (.d (.int .i64 j)) U))) _ _) (fun _=>E) (fun _=>σ1) (fun j=>i≤j∧j≤s.length∧∀q b,q < j - i→(s.drop i)[q]?=some b→(!(b==10))=true) (fun j=>s.length - j) ?_ i ⟨A0 i,hi,by intro q b hq;omega⟩
       rintro j ⟨hij,hj,hall⟩ ih2
       have hw2:=A7 (show j+1≤9000000000000000000 by omega)
       by_cases hjl:j < s.length
       · obtain ⟨z,hz⟩:=Aw hjl
         have hz2:(s.drop i)[j - i]?=some z:=by rw [BL,show i+(j - i)=j by omega];exact hz
         cases h10:(z==10) with
         |true=>
          (repeat' (first|refine Run.ct rfl ?_|((first|refine Run.reg mixed ?_|refine Run.AD ?_|refine Run.A1 CJ (AF.le_refl _) ?_)<;>try simp -implicitDefEqProofs only [A8 hjl,Cr hz,Yr,h10,go_sem])|fail))
          have hk:cmt (x::s.drop (i+1))=j - i:=by
           rw [← Bc hx,cmt,EX hall (by simp;omega) (fun b hb=>by rw [hz2] at hb;cases hb;simp [h10])]
           simp;omega
          have hji:j≠i:=fun e=>by
           subst e
           rw [hx] at hz;cases hz
           simp only [beq_iff_eq] at hc h10
           rw [hc] at h10;exact absurd h10 (by decide)
          rw [hk,← Bc hx,ED,show i+(j - i)=j by omega] at hs
          refine Run.Ma [0,5,6] ?_;simp -implicitDefEqProofs only [go_sem]
          exact ih (j,v,σ1) ⟨hj,acc,n,ho,by simp only;omega,by simp only;omega,hs⟩ (by simp only;omega)
         |false=>
          (repeat' (first|refine Run.ct rfl ?_|((first|refine Run.reg mixed ?_|refine Run.AD ?_|refine Run.A1 CJ (AF.le_refl _) ?_)<;>try simp -implicitDefEqProofs only [A8 hjl,Cr hz,Yr,h10,hw2,go_sem])|fail))
          refine ih2 (j+1) ⟨by omega,hjl,fun q b hq hb=>?_⟩ (by omega)
          rcases Bt q (j - i) with h2|h2
          · exact hall q b h2 hb
          · have:q=j - i:=by omega
            subst this
            rw [hz2] at hb;cases hb;simp [h10]
       · have hje:j=s.length:=by omega
         have hk:cmt (x::s.drop (i+1))=j - i:=by
          rw [← Bc hx,cmt,EX hall (by simp;omega) (fun b hb=>by rw [BL,show i+(j - i)=j by omega,hje] at hb;simp at hb)]
          simp;omega
         rw [hk,← Bc hx,ED,show i+(j - i)=j by omega,hje,Ja] at hs
         obtain ⟨n,rfl⟩:∃m,n=m+1:=⟨n - 1,by omega⟩
         rw [GK] at hs
         (repeat' (first|refine Run.ct rfl ?_|((first|refine Run.reg mixed ?_|refine Run.AD ?_|(refine Dh.own ho rfl (by simp) (by simp;omega) (by decide) (fun v2 σ2 ho2 hbk=>?_))|(refine Run.A1 CJ ho2.le ?_)|refine Run.A1 CJ (AF.le_refl _) ?_)<;>try simp -implicitDefEqProofs only [B8 hjl,go_sem])|fail))
         simp -implicitDefEqProofs only [ho2.BF,ho2.plain,go_sem]
         rw [hs];simp [IH,Tok.enc]
      |false=>
       rw [hc,if_neg (by simp)] at hs
       rcases hsc:GH (x::s.drop (i+1)) with e|⟨k,t⟩
       · rw [hsc] at hs
         have he:=WA hsc
         have hne:(e != 0)=true:=by simp;omega
         (repeat' (first|refine Run.ct rfl ?_|((first|refine Run.reg mixed ?_|refine Run.AD ?_|(refine Run.A1 CJ ho.le ?_)|refine Run.A1 CJ (AF.le_refl _) ?_|refine AI.det (II _ _) ?_|refine AI.det (Q3 _ _ _ (by omega) hlt) ?_)<;>try simp -implicitDefEqProofs only [A8 hlt,Cr hx,N5,hb,hc,Bc hx,hsc,aE,jD,hne,ho.BG,AZ,go_sem])|fail))
         rw [hs];rfl
       · rw [hsc] at hs
         have hsn:=WB hsc
         rw [hsl] at hsn
         (repeat' (first|refine Run.ct rfl ?_|((first|refine Run.reg mixed ?_|refine Run.AD ?_|(refine Dh.own ho rfl (by simp) (by simp;omega) (by decide) (fun v2 σ2 ho2 hbk=>?_))|refine Run.A1 CJ (AF.le_refl _) ?_|refine AI.det (II _ _) ?_|refine AI.det (Q3 _ _ _ (by omega) hlt) ?_)<;>try simp -implicitDefEqProofs only [A8 hlt,Cr hx,N5,hb,hc,Bc hx,hsc,aE,jD,ho.BG,AZ,wrap_add (show i+t.length≤9000000000000000000 by omega),go_sem])|(refine ⟨fun h=>?_,fun h=>?_⟩<;>first|(cases h;done)|try simp only [h])|fail))
         refine ih (i+t.length,v2,σ2) ⟨?_,acc++[⟨k,t,i⟩],n,?_,?_,?_,?_⟩ ?_
         · simp only;omega
         · simpa [Tok.enc] using ho2
         · simp only [AT,List.length_singleton];omega
         · simp only;omega
         · rw [hs];simp only;rw [← Bc hx,ED]
         · simp only;omega
   · have hge:i=s.length:=by omega
     rw [hge,Ja,GK] at hs
     (repeat' (first|refine Run.ct rfl ?_|((first|refine Run.reg mixed ?_|refine Run.AD ?_|(refine Dh.own ho rfl (by simp) (by simp;omega) (by decide) (fun v2 σ2 ho2 hbk=>?_))|(refine Run.A1 CJ ho2.le ?_)|refine Run.A1 CJ (AF.le_refl _) ?_)<;>try simp -implicitDefEqProofs only [B8 hlt,go_sem])|fail))
     simp -implicitDefEqProofs only [ho2.BF,ho2.plain,go_sem]
     rw [hs];simp [IH,Tok.enc]
end Go.Ab
namespace Go.Ab
def GJ (k:Int) (s:Str):Bool:=
 (FH s).2.2==0&&((FH s).1.length==2&&(match (FH s).1 with|[]=>false|a::_=>a.kind==k&&a.text==s))
def Cv (s:Str):Bool:=GJ 1 s
def FI (s:Str):Bool:=GJ 2 s
def LZ (s:Str):Bool:=s==[]||Cv s
def US (k:Int) (n:Str) (len:Nat):Bool:=
 if k=1∨k=2∨k=3 then n==[]&&decide (len=0)
                                     else if k=4 then Cv n&&decide (len=0)
                                     else if k=5 then FI n&&decide (len≤6)
                                     else if k=6 then n==[]&&decide (2≤len)&&decide (len≤6)
                                     else if k=7∨k=8 then n==[]&&decide (len=1)
                                     else if k=9 then n==[]&&decide (1≤len)&&decide (len≤7)
                                     else false
def Dx:Nat→TE→Bool
 |0,_=>false
 |d+1,.mk k n l=>US k n l.length&&l.all (Dx d)
def Wd (c:CE):Bool:=FI c.name&&decide (c.args.length≤6)&&c.args.all (Dx 40)
def L5 (d:DE):Bool:=FI d.name&&decide (d.vars.length≤6)&&d.vars.all Cv&&decide (1≤d.cons.length)&&decide (d.cons.length≤8)&&d.cons.all Wd
def Nv:Al→Bool
 | .mk c vs _=>FI c&&decide (vs.length≤6)&&vs.all LZ
def nmB (o:Int) (n:Str):Bool:=
 if o=4 then Cv n else if o=6 then FI n else if o=7∨o=17 then LZ n else n==[]
def nuB (o:Int) (u:Int):Bool:=
 if o=2 then decide (0≤u)&&decide (u≤1) else if o=3 then decide (-1000000≤u)&&decide (u≤1000000) else if o=13 then decide (1≤u)&&decide (u≤8)
                                                                                                                                          else if o=14 then decide (1≤u)&&decide (u≤7) else if o=15 then decide (-1000≤u)&&decide (u≤1000) else u==0
def nsB (o:Int) (ns:List Str):Bool:=
 if o=8 then decide (2≤ns.length)&&decide (ns.length≤6)&&ns.all LZ else if o=11 then decide (ns.length≤6)&&ns.all Cv else decide (ns.length=0)
def asB (o:Int) (al:List Al):Bool:=
 if o=10 then decide (1≤al.length)&&al.all Nv else decide (al.length=0)
def Vf (u:Int):Nat:=if u=1∨u=2∨u=7 then 2 else if u=3 then 3 else if u=4∨u=5∨u=6 then 1 else 0
def nkB (o u:Int) (nk:Nat):Bool:=
 if o=1∨o=2∨o=3∨o=4∨o=15 then decide (nk=0)
                                       else if o=5 then decide (2≤nk)&&decide (nk≤6)
                                       else if o=6 then decide (nk≤6)
                                       else if o=7∨o=8∨o=13∨o=17 then decide (nk=2)
                                       else if o=9 then decide (nk=3)
                                       else if o=10∨o=11∨o=16 then decide (nk=1)
                                       else if o=12 then decide (1≤nk)&&decide (nk≤7)
                                       else if o=14 then decide (nk=Vf u)
                                       else false
def JZ (o:Int) (n:Str) (u:Int) (ns:List Str) (nk:Nat) (al:List Al):Bool:=
 nmB o n&&nuB o u&&nsB o ns&&asB o al&&nkB o u nk
def vEx:Nat→Nat→Ex→Option Nat
 |0,_,_=>none
 |d+1,q,.mk o n u ns ks al=>
  match q with
  |0=>none
  |q+1=>if JZ o n u ns ks.length al then (ks.foldlM (fun q e=>vEx d q e) q).bind fun q=>al.foldlM (fun q a=>match a with| .mk _ _ b=>vEx d q b) q else none
def X0 (f:FE):Bool:=Cv f.name&&decide (f.params.length≤6)&&f.params.all Cv
def KY (q:Nat) (f:FE):Option Nat:=if X0 f then vEx 40 q f.body else none
def Cu (p:Pg):Bool:=decide (p.data.length≤12)&&decide (p.Hp.length≤24)&&p.data.all L5&&(p.Hp.foldlM KY 600).isSome
end Go.Ab
namespace Go.Ab
def Cd:List Str→Str→Option Nat
 |[],_=>none
 |x::l,s=>if x==s then some 0 else (Cd l s).map (·+1)
def Ee (o:Option Nat):Int:=match o with|some i=>i|none=>-1
def Bo:List Str→Bool
 |[]=>false
 |x::l=>(!(x==[])&&l.contains x)||Bo l
def Ef:List TE→List Str→Bool
 |[],[]=>true
 | .mk k n _::l,v::vs=>(k==4&&n==v)&&Ef l vs
 |_,_=>false
mutual
def IB (ds:List (Str×Nat)) (vars:List Str):Bool→TE→Except Int Ty
 |whole,.mk k n l=>
  if k=4 then
   match Cd vars n with
   |none=>.error 3
   |some i=>(Ck ds vars l).map (Ty.mk k i)
                                 else if k=5 then
   match Cd (ds.map (·.1)) n with
   |none=>.error 3
   |some i=>
    if l.length≠(ds.getD i ([],0)).2 then .error 5
                             else if i+1=ds.length∧¬(whole=true∧Ef l vars=true) then .error 7
                             else (Ck ds vars l).map (Ty.mk k i)
                             else (Ck ds vars l).map (Ty.mk k 0)
def Ck (ds:List (Str×Nat)) (vars:List Str):List TE→Except Int (List Ty)
 |[]=>.ok []
 |t::l=>match IB ds vars false t with
  | .error e=>.error e
  | .ok u=>(Ck ds vars l).map (u::·)
end
def Dw (ds:List (Str×Nat)) (vars:List Str):List TE→Except Int (List Ty)
 |[]=>.ok []
 |t::l=>match IB ds vars true t with
  | .error e=>.error e
  | .ok u=>(Dw ds vars l).map (u::·)
def Eo (ds:List (Str×Nat)) (vars:List Str):List Str→List CE→Except Int (List Con)
 |_,[]=>.ok []
 |used,c::l=>
  if used.contains c.name then .error 4
   else match Dw ds vars c.args with
  | .error e=>.error e
  | .ok ts=>(Eo ds vars (used++[c.name]) l).map (⟨c.name,ts⟩::·)
def Nl (ds:List (Str×Nat)) (used:List Str) (d:DE):Except Int Dat:=
 if (ds.map (·.1)).contains d.name||Bo d.vars then .error 4
               else (Eo (ds++[(d.name,d.vars.length)]) d.vars used d.cons).map (⟨d.name,d.vars.length,·⟩)
def Ct (l:List DE):List (Str×Nat):=l.map fun d=>(d.name,d.vars.length)
def I8 (l:List DE):List Str:=l.flatMap fun d=>d.cons.map (·.name)
def DN:List DE→List DE→Except (Int×Nat) (List Dat)
 |_,[]=>.ok []
 |done,d::l=>match Nl (Ct done) (I8 done) d with
  | .error e=>.error (e,done.length)
  | .ok x=>(DN (done++[d]) l).map (x::·)
abbrev Dg:=Int×Int×Int
def Jz (p:Pg):Except Dg (List Dat):=
 if Cu p then (match DN [] p.data with| .error (e,i)=>.error (e,-1,i)| .ok l=>.ok l) else .error (1,-1,0)
def Ex.op:Ex→Int| .mk o _ _ _ _ _=>o
def Ex.num:Ex→Int| .mk _ _ u _ _ _=>u
def Ex.name:Ex→Str| .mk _ n _ _ _ _=>n
def Ex.names:Ex→List Str| .mk _ _ _ ns _ _=>ns
def Ex.kids:Ex→List Ex| .mk _ _ _ _ ks _=>ks
def Ex.alts:Ex→List Al| .mk _ _ _ _ _ al=>al
def Al.con:Al→Str| .mk c _ _=>c
def Al.vars:Al→List Str| .mk _ vs _=>vs
def Al.body:Al→Ex| .mk _ _ b=>b
def FV (o:Int) (n:Str) (ns:List Str) (sc:List Str) (i:Nat):List Str:=
 if (o=7∨o=17)∧i=1 then (if n=[] then sc else sc++[n])
                          else if (o=8∧i=1)∨o=11 then sc++ns else sc
mutual
def B7:Ex→List Str→List (Ex×List Str)
 | .mk o n u ns ks al,sc=>(.mk o n u ns ks al,sc)::(B9 o n ns sc 0 ks++Bj sc al)
def B9 (o:Int) (n:Str) (ns sc:List Str):Nat→List Ex→List (Ex×List Str)
 |_,[]=>[]
 |i,k::l=>B7 k (FV o n ns sc i)++B9 o n ns sc (i+1) l
def Ot:Al→List Str→List (Ex×List Str)
 | .mk _ vs b,sc=>B7 b (sc++vs)
def Bj (sc:List Str):List Al→List (Ex×List Str)
 |[]=>[]
 |a::l=>Ot a sc++Bj sc l
end
def H5:List Con→Str→Option Nat
 |[],_=>none
 |c::l,s=>if c.name==s then some 0 else (H5 l s).map (·+1)
def Ib:List Dat→Str→Option (Nat×Nat)
 |[],_=>none
 |d::l,s=>match H5 d.cons s with
  |some k=>some (0,k)
  |none=>(Ib l s).map fun x=>(x.1+1,x.2)
def arity (dt:List Dat) (x:Nat×Nat):Nat:=match dt[x.1]? with|some d=>(match d.cons[x.2]? with|some c=>c.args.length|none=>0)|none=>0
def GF (dt:List Dat) (d:Nat):Nat:=match dt[d]? with|some x=>x.cons.length|none=>0
def C2 (dt:List Dat):List Al→Except Int (List (Nat×Nat))
 |[]=>.ok []
 | .mk c vs _::l=>match Ib dt c with
  |none=>.error 3
  |some x=>if vs.length≠arity dt x then .error 5 else if Bo vs then .error 4 else (C2 dt l).map (x::·)
def VD (dt:List Dat):List (Nat×Nat)→Bool
 |[]=>true
 |x::l=>(x::l).all (fun y=>y.1==x.1)&&decide ((x::l).Nodup)&&decide ((x::l).length=GF dt x.1)
def Js (dt:List Dat) (l:List Al):Int:=match C2 dt l with| .error e=>e| .ok xs=>if VD dt xs then 0 else 7
def Bm (fs:List FE):List Str:=fs.map (·.name)
def EP (fs:List FE) (dt:List Dat) (e:Ex) (sc:List Str):Int:=
 if e.op=4 then (if !sc.contains e.name&&(Cd (Bm fs) e.name).isNone then 3 else 0)
                                               else if e.op=6 then
  match Ib dt e.name with
  |none=>3
  |some x=>if e.kids.length≠arity dt x then 5 else 0
            else if e.op=8∨e.op=11 then (if Bo e.names then 4 else 0)
            else if e.op=10 then Js dt e.alts
            else if e.op=12 then
  match e.kids.head? with
  |none=>0
  |some h=>if h.op=4&& !sc.contains h.name then
   (match Cd (Bm fs) h.name with
   |none=>0
   |some f=>match fs[f]? with
    |some g=>if g.params.length+1≠e.kids.length then 5 else 0
    |none=>0) else 0
            else 0
def EB (vis:Ex→List Str→Int):List (Ex×List Str)→Option (Nat×Int)
 |[]=>none
 |x::l=>if vis x.1 x.2=0 then (EB vis l).map (fun y=>(y.1+1,y.2)) else some (0,vis x.1 x.2)
def Lj (fs:List FE) (dt:List Dat) (i:Nat) (f:FE):Option Dg:=
 if Cd (Bm fs) f.name≠some i∨Bo f.params=true then some (4,i,0)
                                                          else match EB (EP fs dt) (B7 f.body f.params) with
  |some (k,c)=>some (c,i,k)
  |none=>none
def FB (fs:List FE) (dt:List Dat):Nat→List FE→Dg
 |_,[]=>(0,0,0)
 |i,f::l=>match Lj fs dt i f with
  |some d=>d
  |none=>FB fs dt (i+1) l
def KJ (p:Pg):Dg:=match Jz p with| .error d=>d| .ok dt=>FB p.Hp dt 0 p.Hp
def Ft (fs:List FE) (g:Nat) (x:Ex×List Str):Bool:=x.1.op==4&&(!x.2.contains x.1.name&&Cd (Bm fs) x.1.name==some g)
def MT (fs:List FE) (f:FE):List Nat:=(BI fs.length).filter fun g=>(B7 f.body f.params).any (Ft fs g)
def Ez (p:Pg):List (List Nat):=if (KJ p).1=0 then p.Hp.map (MT p.Hp) else []
end Go.Ab
namespace Go.Ab
open Go.Proofs
variable {args:List AV} {σ:AF} {K:AV→AF→Prop}
def Ue:C:=(.seq (.reg [Qo 66 (.bin .lss (.t 65) (.t 64))] [1,3,23,24,25,46,47,48,63,64,65,66])
 (.seq (.cond (.t 66) .skip
 (.exit 4))
 (.seq (.block 5 (.seq (.reg [Qo 67 (.ix (.t 63) (.t 65) 3),
 Qo 68 (.ld (.t 67) (some 3)),
 Qo 9 (.al [(.d (.int .i64 0)),(.d (.str [])),.AU] false),
 ⟨none,.st (.t 9) (.t 68) 3,none⟩] [1,3,9,23,24,25,46,47,48,63,64,65])
 (.seq (.reg [Qo 69 (.ldl (.t 9) (some 3)),
 Qo 70 (.call 27 [(.t 69),(.t 3)]),
 Qo 71 (.un .not (.t 70))] [1,3,23,24,25,46,47,48,63,64,65,71])
 (.cond (.t 71) (.seq (.reg [Qo 2 (.mv (.c (.d (.bool false))))] [2])
 .ret)
 .skip))))
 (.reg [Qo 72 (.bin .add (.t 65) (.c (.d (.int .i64 1)))),
 Qm 65 72] [1,3,23,24,25,46,47,48,63,64,65]))))
def Uf:C:=(.seq (.reg [Qo 49 (.bin .lss (.t 48) (.t 47))] [1,3,23,24,25,46,47,48,49])
 (.seq (.cond (.t 49) .skip
 (.exit 2))
 (.seq (.block 3 (.seq (.reg [Qo 50 (.ix (.t 46) (.t 48) 2),
 Qo 51 (.ld (.t 50) (some 2)),
 Qo 7 (.al [(.d (.str [])),.AU] false),
 ⟨none,.st (.t 7) (.t 51) 2,none⟩] [1,3,7,23,24,25,46,47,48])
 (.seq (.seq (.reg [Qo 52 (.fld (.t 7) 0),
 Qo 53 (.ldl (.t 52) none),
 Qo 54 (.Fv (.t 53)),
 Qo 55 (.bin .gtr (.t 54) (.c (.d (.int .i64 40)))),
 Qm 56 55,
 ⟨some 57,.fld (.t 7) 1,some (56,false)⟩,
 ⟨some 58,.ldl (.t 57) none,some (56,false)⟩,
 ⟨some 59,.len (.t 58),some (56,false)⟩,
 ⟨some 60,.bin .gtr (.t 59) (.c (.d (.int .i64 10))),some (56,false)⟩,
 Qo 61 (.pick (.t 56) (.c (.d (.bool true))) (.t 60))] [1,3,7,23,24,25,46,47,48,61])
 (.cond (.t 61) (.seq (.reg [Qo 2 (.mv (.c (.d (.bool false))))] [2])
 .ret)
 .skip))
 (.seq (.reg [Qo 62 (.fld (.t 7) 1),
 Qo 63 (.ldl (.t 62) none),
 Qo 64 (.len (.t 63)),
 Qo 65 (.mv (.c (.d (.int .i64 0))))] [1,3,23,24,25,46,47,48,63,64,65])
 (.block 4 (.loop Ue))))))
 (.reg [Qo 73 (.bin .add (.t 48) (.c (.d (.int .i64 1)))),
 Qm 48 73] [1,3,23,24,25,46,47,48]))))
def Ug:C:=(.seq (.reg [Qo 26 (.bin .lss (.t 25) (.t 24))] [1,3,23,24,25,26])
 (.seq (.cond (.t 26) .skip
 (.exit 0))
 (.seq (.block 1 (.seq (.reg [Qo 27 (.ix (.t 23) (.t 25) 3),
 Qo 28 (.ld (.t 27) (some 3)),
 Qo 5 (.al [(.d (.str [])),.AU,.AU] false),
 ⟨none,.st (.t 5) (.t 28) 3,none⟩] [1,3,5,23,24,25])
 (.seq (.seq (.reg [Qo 29 (.fld (.t 5) 0),
 Qo 30 (.ldl (.t 29) none),
 Qo 31 (.Fv (.t 30)),
 Qo 32 (.bin .gtr (.t 31) (.c (.d (.int .i64 40)))),
 Qm 33 32,
 ⟨some 34,.fld (.t 5) 1,some (33,false)⟩,
 ⟨some 35,.ldl (.t 34) none,some (33,false)⟩,
 ⟨some 36,.call 26 [(.t 35),(.c (.d (.int .i64 10)))],some (33,false)⟩,
 ⟨some 37,.un .not (.t 36),some (33,false)⟩,
 Qo 38 (.pick (.t 33) (.c (.d (.bool true))) (.t 37)),
 Qm 39 38,
 ⟨some 40,.fld (.t 5) 2,some (39,false)⟩,
 ⟨some 41,.ldl (.t 40) none,some (39,false)⟩,
 ⟨some 42,.len (.t 41),some (39,false)⟩,
 ⟨some 43,.bin .gtr (.t 42) (.c (.d (.int .i64 10))),some (39,false)⟩,
 Qo 44 (.pick (.t 39) (.c (.d (.bool true))) (.t 43))] [1,3,5,23,24,25,44])
 (.cond (.t 44) (.seq (.reg [Qo 2 (.mv (.c (.d (.bool false))))] [2])
 .ret)
 .skip))
 (.seq (.reg [Qo 45 (.fld (.t 5) 2),
 Qo 46 (.ldl (.t 45) none),
 Qo 47 (.len (.t 46)),
 Qo 48 (.mv (.c (.d (.int .i64 0))))] [1,3,23,24,25,46,47,48])
 (.block 2 (.loop Uf))))))
 (.reg [Qo 74 (.bin .add (.t 25) (.c (.d (.int .i64 1)))),
 Qm 25 74] [1,3,23,24,25]))))
def Uh:C:=(.seq (.reg [Qo 79 (.bin .lss (.t 78) (.t 77))] [3,76,77,78,79])
 (.seq (.cond (.t 79) .skip
 (.exit 6))
 (.seq (.block 7 (.seq (.reg [Qo 80 (.ix (.t 76) (.t 78) 8),
 Qo 81 (.ld (.t 80) (some 8)),
 Qo 11 (.al [(.d (.str [])),.AU,(.d (.int .i64 0)),(.d (.str [])),(.d (.int .i64 0)),.AU,.AU,.AU] false),
 ⟨none,.st (.t 11) (.t 81) 8,none⟩] [3,11,76,77,78])
 (.seq (.reg [Qo 82 (.fld (.t 11) 0),
 Qo 83 (.ldl (.t 82) none),
 Qo 84 (.Fv (.t 83)),
 Qo 85 (.bin .gtr (.t 84) (.c (.d (.int .i64 40)))),
 Qm 86 85,
 ⟨some 87,.fld (.t 11) 1,some (86,false)⟩,
 ⟨some 88,.ldl (.t 87) none,some (86,false)⟩,
 ⟨some 89,.call 26 [(.t 88),(.c (.d (.int .i64 10)))],some (86,false)⟩,
 ⟨some 90,.un .not (.t 89),some (86,false)⟩,
 Qo 91 (.pick (.t 86) (.c (.d (.bool true))) (.t 90)),
 Qm 92 91,
 ⟨some 93,.fld (.t 11) 2,some (92,false)⟩,
 ⟨some 94,.ldl (.t 93) (some 6),some (92,false)⟩,
 ⟨some 95,.call 28 [(.t 94),(.t 3)],some (92,false)⟩,
 ⟨some 96,.un .not (.t 95),some (92,false)⟩,
 Qo 97 (.pick (.t 92) (.c (.d (.bool true))) (.t 96))] [3,76,77,78,97])
 (.cond (.t 97) (.seq (.reg [Qo 2 (.mv (.c (.d (.bool false))))] [2])
 .ret)
 .skip))))
 (.reg [Qo 98 (.bin .add (.t 78) (.c (.d (.int .i64 1)))),
 Qm 78 98] [3,76,77,78]))))
def TL:C:=(.seq (.reg [Qo 1 (.box (.t 0) false),
 Qo 2 (.mv (.c (.d (.bool false))))] [1])
 (.seq (.seq (.reg [Qo 12 (.fld (.t 1) 0),
 Qo 13 (.ldl (.t 12) none),
 Qo 14 (.len (.t 13)),
 Qo 15 (.bin .gtr (.t 14) (.c (.d (.int .i64 14)))),
 Qm 16 15,
 ⟨some 17,.fld (.t 1) 1,some (16,false)⟩,
 ⟨some 18,.ldl (.t 17) none,some (16,false)⟩,
 ⟨some 19,.len (.t 18),some (16,false)⟩,
 ⟨some 20,.bin .gtr (.t 19) (.c (.d (.int .i64 26))),some (16,false)⟩,
 Qo 21 (.pick (.t 16) (.c (.d (.bool true))) (.t 20))] [1,21])
 (.cond (.t 21) (.seq (.reg [Qo 2 (.mv (.c (.d (.bool false))))] [2])
 .ret)
 .skip))
 (.seq (.reg [Qo 3 (.ex (.alt 3 [(.d (.int .i64 0))]) []),
 ⟨none,.st (.t 3) (.c (.d (.int .i64 200))) 1,none⟩] [1,3])
 (.seq (.seq (.reg [Qo 22 (.fld (.t 1) 0),
 Qo 23 (.ldl (.t 22) none),
 Qo 24 (.len (.t 23)),
 Qo 25 (.mv (.c (.d (.int .i64 0))))] [1,3,23,24,25])
 (.block 0 (.loop Ug)))
 (.seq (.seq (.reg [Qo 75 (.fld (.t 1) 1),
 Qo 76 (.ldl (.t 75) none),
 Qo 77 (.len (.t 76)),
 Qo 78 (.mv (.c (.d (.int .i64 0))))] [3,76,77,78])
 (.block 6 (.loop Uh)))
 (.seq (.reg [Qo 2 (.mv (.c (.d (.bool true))))] [2])
 .ret))))))
noncomputable def J3:Cx:=⟨Tryz.prog,8,Tryz.f8,99,[3,300013,300018,300023,300030,300035,300041,300046,300053,300058,300063,300069,300076,300083,300088,300094],[],[.t 2]⟩
theorem Cn:Good J3:=⟨Tryz.func8,by kernel_rfl⟩
theorem Yg:J3.rs=[.t 2]:=rfl
theorem Z0 (hl:args.length≤99) (h:Run J3 K [.code TL] (BK args) E σ):AK Tryz.prog 8 args σ K:=
 AX (cx:=J3) (code:=Tryz.f8.body.getD .skip) Cn (by kernel_rfl) Tryz.ntmps8 hl (AY J3 _ (B0 TL) _ [] (by kernel_rfl)) h
def Q9:C:=(.seq (.reg [Qo 14 (.bin .lss (.t 13) (.t 12))] [0,1,12,13,14])
 (.seq (.cond (.t 14) .skip
 (.exit 0))
 (.seq (.block 1 (.seq (.reg [Qm 15 13,
 Qm 5 15] [0,1,5,12,13])
 (.seq (.reg [Qm 16 0,
 Qm 17 5,
 Qo 18 (.ix (.t 16) (.t 17) 1),
 Qo 19 (.ld (.t 18) none),
 Qm 20 1,
 Qm 21 5,
 Qo 22 (.ix (.t 20) (.t 21) 1),
 Qo 23 (.ld (.t 22) none),
 Qo 24 (.call 29 [(.t 19),(.t 23)]),
 Qo 25 (.un .not (.t 24))] [0,1,12,13,25])
 (.cond (.t 25) (.seq (.reg [Qo 4 (.mv (.c (.d (.bool false))))] [4])
 .ret)
 .skip))))
 (.reg [Qo 26 (.bin .add (.t 13) (.c (.d (.int .i64 1)))),
 Qm 13 26] [0,1,12,13]))))
def N9:C:=(.seq (.reg [Qo 4 (.mv (.c (.d (.bool false))))] [0,1])
 (.seq (.seq (.reg [Qm 6 0,
 Qo 7 (.len (.t 6)),
 Qm 8 1,
 Qo 9 (.len (.t 8)),
 Qo 10 (.bin .neq (.t 7) (.t 9))] [0,1,10])
 (.cond (.t 10) (.seq (.reg [Qo 4 (.mv (.c (.d (.bool false))))] [4])
 .ret)
 .skip))
 (.seq (.seq (.reg [Qm 11 0,
 Qo 12 (.len (.t 11)),
 Qo 13 (.mv (.c (.d (.int .i64 0))))] [0,1,12,13])
 (.block 0 (.loop Q9)))
 (.seq (.reg [Qo 4 (.mv (.c (.d (.bool true))))] [4])
 .ret))))
noncomputable def Fc:Cx:=⟨Tryz.prog,9,Tryz.f9,27,[],[],[.t 4]⟩
theorem HR:Good Fc:=⟨Tryz.func9,by kernel_rfl⟩
theorem So:Fc.rs=[.t 4]:=rfl
theorem Ti (hl:args.length≤27) (h:Run Fc K [.code N9] (BK args) E σ):AK Tryz.prog 9 args σ K:=
 AX (cx:=Fc) (code:=Tryz.f9.body.getD .skip) HR (by kernel_rfl) Tryz.ntmps9 hl (AY Fc _ (B0 N9) _ [] (by kernel_rfl)) h
def Ua:C:=(.seq (.reg [Qo 36 (.bin .lss (.t 35) (.t 34))] [1,2,14,15,16,26,27,28,33,34,35,36])
 (.seq (.cond (.t 36) .skip
 (.exit 4))
 (.seq (.block 5 (.seq (.reg [Qo 37 (.ix (.t 33) (.t 35) 3),
 Qo 38 (.ld (.t 37) (some 3)),
 Qo 10 (.al [(.d (.int .i64 0)),(.d (.str [])),.AU] false),
 ⟨none,.st (.t 10) (.t 38) 3,none⟩] [1,2,10,14,15,16,26,27,28,33,34,35])
 (.seq (.reg [Qo 39 (.ldl (.t 10) (some 3)),
 Qo 40 (.call 40 [(.t 39)]),
 Qm 41 1,
 Qo 42 (.bin .gtr (.t 40) (.t 41))] [1,2,14,15,16,26,27,28,33,34,35,42])
 (.cond (.t 42) (.seq (.reg [Qo 4 (.mv (.c (.d (.bool true))))] [4])
 .ret)
 .skip))))
 (.reg [Qo 43 (.bin .add (.t 35) (.c (.d (.int .i64 1)))),
 Qm 35 43] [1,2,14,15,16,26,27,28,33,34,35]))))
def Ub:C:=(.seq (.reg [Qo 29 (.bin .lss (.t 28) (.t 27))] [1,2,14,15,16,26,27,28,29])
 (.seq (.cond (.t 29) .skip
 (.exit 2))
 (.seq (.block 3 (.seq (.reg [Qo 30 (.ix (.t 26) (.t 28) 2),
 Qo 31 (.ld (.t 30) (some 2)),
 Qo 8 (.al [(.d (.str [])),.AU] false),
 ⟨none,.st (.t 8) (.t 31) 2,none⟩] [1,2,8,14,15,16,26,27,28])
 (.seq (.reg [Qo 32 (.fld (.t 8) 1),
 Qo 33 (.ldl (.t 32) none),
 Qo 34 (.len (.t 33)),
 Qo 35 (.mv (.c (.d (.int .i64 0))))] [1,2,14,15,16,26,27,28,33,34,35])
 (.block 4 (.loop Ua)))))
 (.reg [Qo 44 (.bin .add (.t 28) (.c (.d (.int .i64 1)))),
 Qm 28 44] [1,2,14,15,16,26,27,28]))))
def Uc:C:=(.seq (.reg [Qo 17 (.bin .lss (.t 16) (.t 15))] [1,2,14,15,16,17])
 (.seq (.cond (.t 17) .skip
 (.exit 0))
 (.seq (.block 1 (.seq (.reg [Qo 18 (.ix (.t 14) (.t 16) 3),
 Qo 19 (.ld (.t 18) (some 3)),
 Qo 6 (.al [(.d (.str [])),.AU,.AU] false),
 ⟨none,.st (.t 6) (.t 19) 3,none⟩] [1,2,6,14,15,16])
 (.seq (.seq (.reg [Qo 20 (.fld (.t 6) 1),
 Qo 21 (.ldl (.t 20) none),
 Qo 22 (.call 39 [(.t 21)]),
 Qm 23 1,
 Qo 24 (.bin .gtr (.t 22) (.t 23))] [1,2,6,14,15,16,24])
 (.cond (.t 24) (.seq (.reg [Qo 4 (.mv (.c (.d (.bool true))))] [4])
 .ret)
 .skip))
 (.seq (.reg [Qo 25 (.fld (.t 6) 2),
 Qo 26 (.ldl (.t 25) none),
 Qo 27 (.len (.t 26)),
 Qo 28 (.mv (.c (.d (.int .i64 0))))] [1,2,14,15,16,26,27,28])
 (.block 2 (.loop Ub))))))
 (.reg [Qo 45 (.bin .add (.t 16) (.c (.d (.int .i64 1)))),
 Qm 16 45] [1,2,14,15,16]))))
def Ud:C:=(.seq (.reg [Qo 50 (.bin .lss (.t 49) (.t 48))] [1,47,48,49,50])
 (.seq (.cond (.t 50) .skip
 (.exit 6))
 (.seq (.block 7 (.seq (.reg [Qo 51 (.ix (.t 47) (.t 49) 8),
 Qo 52 (.ld (.t 51) (some 8)),
 Qo 12 (.al [(.d (.str [])),.AU,(.d (.int .i64 0)),(.d (.str [])),(.d (.int .i64 0)),.AU,.AU,.AU] false),
 ⟨none,.st (.t 12) (.t 52) 8,none⟩] [1,12,47,48,49])
 (.seq (.reg [Qo 53 (.fld (.t 12) 0),
 Qo 54 (.ldl (.t 53) none),
 Qo 55 (.Fv (.t 54)),
 Qm 56 1,
 Qo 57 (.bin .gtr (.t 55) (.t 56)),
 Qm 58 57,
 ⟨some 59,.fld (.t 12) 1,some (58,false)⟩,
 ⟨some 60,.ldl (.t 59) none,some (58,false)⟩,
 ⟨some 61,.call 39 [(.t 60)],some (58,false)⟩,
 ⟨some 62,.mv (.t 1),some (58,false)⟩,
 ⟨some 63,.bin .gtr (.t 61) (.t 62),some (58,false)⟩,
 Qo 64 (.pick (.t 58) (.c (.d (.bool true))) (.t 63)),
 Qm 65 64,
 ⟨some 66,.fld (.t 12) 2,some (65,false)⟩,
 ⟨some 67,.ldl (.t 66) (some 6),some (65,false)⟩,
 ⟨some 68,.call 41 [(.t 67)],some (65,false)⟩,
 ⟨some 69,.mv (.t 1),some (65,false)⟩,
 ⟨some 70,.bin .gtr (.t 68) (.t 69),some (65,false)⟩,
 Qo 71 (.pick (.t 65) (.c (.d (.bool true))) (.t 70))] [1,47,48,49,71])
 (.cond (.t 71) (.seq (.reg [Qo 4 (.mv (.c (.d (.bool true))))] [4])
 .ret)
 .skip))))
 (.reg [Qo 72 (.bin .add (.t 49) (.c (.d (.int .i64 1)))),
 Qm 49 72] [1,47,48,49]))))
def TK:C:=(.seq (.reg [Qo 2 (.box (.t 0) false),
 Qo 4 (.mv (.c (.d (.bool false))))] [1,2])
 (.seq (.seq (.reg [Qo 13 (.fld (.t 2) 0),
 Qo 14 (.ldl (.t 13) none),
 Qo 15 (.len (.t 14)),
 Qo 16 (.mv (.c (.d (.int .i64 0))))] [1,2,14,15,16])
 (.block 0 (.loop Uc)))
 (.seq (.seq (.reg [Qo 46 (.fld (.t 2) 1),
 Qo 47 (.ldl (.t 46) none),
 Qo 48 (.len (.t 47)),
 Qo 49 (.mv (.c (.d (.int .i64 0))))] [1,47,48,49])
 (.block 6 (.loop Ud)))
 (.seq (.reg [Qo 4 (.mv (.c (.d (.bool false))))] [4])
 .ret))))
noncomputable def J2:Cx:=⟨Tryz.prog,16,Tryz.f16,73,[300014,300021,300026,300033,300039,300047,300054,300060,300067],[],[.t 4]⟩
theorem GR:Good J2:=⟨Tryz.func16,by kernel_rfl⟩
theorem Yf:J2.rs=[.t 4]:=rfl
theorem ZZ (hl:args.length≤73) (h:Run J2 K [.code TK] (BK args) E σ):AK Tryz.prog 16 args σ K:=
 AX (cx:=J2) (code:=Tryz.f16.body.getD .skip) GR (by kernel_rfl) Tryz.ntmps16 hl (AY J2 _ (B0 TK) _ [] (by kernel_rfl)) h
def SG:C:=(.seq (.reg [Qo 15 (.bin .lss (.t 14) (.t 13))] [1,4,5,12,13,14,15])
 (.seq (.cond (.t 15) .skip
 (.exit 0))
 (.seq (.block 1 (.seq (.reg [Qo 16 (.ix (.t 12) (.t 14) 8),
 Qo 17 (.ld (.t 16) (some 8)),
 Qo 7 (.al [(.d (.str [])),.AU,(.d (.int .i64 0)),(.d (.str [])),(.d (.int .i64 0)),.AU,.AU,.AU] false),
 ⟨none,.st (.t 7) (.t 17) 8,none⟩] [1,4,5,7,12,13,14])
 (.reg [Qo 18 (.fld (.t 5) 1),
 Qo 19 (.ldl (.t 18) none),
 Qo 20 (.fld (.t 7) 0),
 Qo 21 (.ldl (.t 20) none),
 Qo 22 (.fld (.t 7) 1),
 Qo 23 (.ldl (.t 22) none),
 Qm 24 1,
 Qo 26 (.fld (.t 7) 2),
 Qo 27 (.ldl (.t 26) (some 6)),
 Qo 28 (.fld (.t 7) 1),
 Qo 29 (.ldl (.t 28) none),
 Qm 30 1,
 Qo 25 (.call 42 [(.t 23),(.t 24)]),
 Qo 31 (.call 43 [(.t 27),(.t 29),(.t 30)]),
 Qo 32 (.bld [(.d (.str [])),.AU,(.d (.int .i64 0)),(.d (.str [])),(.d (.int .i64 0)),.AU,.AU,.AU] [(0,1,(.t 21)),(1,1,(.t 25)),(2,6,(.t 31))]),
 Qo 33 (.bsl 8 1 [(.d (.str [])),.AU,(.d (.int .i64 0)),(.d (.str [])),(.d (.int .i64 0)),.AU,.AU,.AU] [(0,8,(.t 32))]),
 Qo 34 (.app 44 8 144 (.t 19) (.t 33)),
 Qo 35 (.fld (.t 5) 1),
 ⟨none,.st (.t 35) (.t 34) 1,none⟩] [1,4,5,12,13,14])))
 (.reg [Qo 36 (.bin .add (.t 14) (.c (.d (.int .i64 1)))),
 Qm 14 36] [1,4,5,12,13,14]))))
def W2:C:=(.seq (.reg [Qo 2 (.box (.t 0) false),
 Qo 4 (.al [.AU,.AU] false)] [1,2,4])
 (.seq (.reg [Qo 8 (.fld (.t 2) 0),
 Qo 9 (.ldl (.t 8) none),
 Qo 10 (.bld [.AU,.AU] [(0,1,(.t 9))]),
 Qo 5 (.al [.AU,.AU] false),
 ⟨none,.st (.t 5) (.t 10) 2,none⟩] [1,2,4,5])
 (.seq (.seq (.reg [Qo 11 (.fld (.t 2) 1),
 Qo 12 (.ldl (.t 11) none),
 Qo 13 (.len (.t 12)),
 Qo 14 (.mv (.c (.d (.int .i64 0))))] [1,4,5,12,13,14])
 (.block 0 (.loop SG)))
 (.seq (.reg [Qo 37 (.ldl (.t 5) (some 2)),
 ⟨none,.st (.t 4) (.t 37) 2,none⟩] [4])
 .ret))))
def XE:List (List Nat×PT):=[([1,2,4],.done),([1,2,4,5],.done),([1,4,5,12,13,14],.done),([1,4,5,12,13,14,15],.done),([1,4,5,7,12,13,14],.done),([1,4,5,12,13,14],(.one 0 (.one 1 (.one 2 (.one 3 (.one 4 (.one 5 (.one 6 (.one 8 (.one 9 (.one 10 (.one 11 (.one 12 (.one 7 (.one 13 (.one 14 (.one 15 (.one 16 (.one 17 (.one 18 .done)))))))))))))))))))),([1,4,5,12,13,14],.done),([4],.done)]
noncomputable def HG:Cx:=⟨Tryz.prog,17,Tryz.f17,38,[300009,300012,300019,300021,300023,300027,300029,300037],[],[.c 4 (some 2)]⟩
theorem QO:Good HG:=⟨Tryz.func17,by kernel_rfl⟩
theorem Vm:HG.rs=[.c 4 (some 2)]:=rfl
theorem Wf (hl:args.length≤38) (h:Run HG K [.code W2] (BK args) E σ):AK Tryz.prog 17 args σ K:=
 AX (cx:=HG) (code:=Tryz.f17.body.getD .skip) QO (by kernel_rfl) Tryz.ntmps17 hl (AY HG _ XE _ [] (by kernel_rfl)) h
def Tb:C:=(.seq (.seq (.reg [Qm 6 5,
 Qm 7 0,
 Qo 8 (.len (.t 7)),
 Qo 9 (.bin .lss (.t 6) (.t 8)),
 Qm 10 9,
 ⟨some 11,.mv (.t 5),some (10,true)⟩,
 ⟨some 12,.mv (.t 1),some (10,true)⟩,
 ⟨some 13,.bin .leq (.t 11) (.t 12),some (10,true)⟩,
 Qo 14 (.pick (.t 10) (.t 13) (.c (.d (.bool false))))] [0,1,5,14])
 (.cond (.t 14) .skip
 (.exit 0)))
 (.seq (.block 1 (.seq (.reg [Qm 17 0,
 Qm 18 5,
 Qo 19 (.ix (.t 17) (.t 18) 1),
 Qo 20 (.ld (.t 19) none),
 Qo 21 (.Fv (.t 20)),
 Qo 22 (.bin .gtr (.t 21) (.c (.d (.int .i64 40))))] [0,1,5,22])
 (.cond (.t 22) (.seq (.reg [Qo 4 (.mv (.c (.d (.bool false))))] [4])
 .ret)
 .skip)))
 (.reg [Qm 15 5,
 Qo 16 (.bin .add (.t 15) (.c (.d (.int .i64 1)))),
 Qm 5 16] [0,1,5])))
def RR:C:=(.seq (.reg [Qo 4 (.mv (.c (.d (.bool false))))] [0,1])
 (.seq (.seq (.reg [Qo 5 (.mv (.c (.d (.int .i64 0))))] [0,1,5])
 (.block 0 (.loop Tb)))
 (.seq (.reg [Qm 23 0,
 Qo 24 (.len (.t 23)),
 Qm 25 1,
 Qo 26 (.bin .leq (.t 24) (.t 25)),
 Qm 4 26] [4])
 .ret)))
noncomputable def IJ:Cx:=⟨Tryz.prog,26,Tryz.f26,27,[],[],[.t 4]⟩
theorem KN:Good IJ:=⟨Tryz.func26,by kernel_rfl⟩
theorem Wv:IJ.rs=[.t 4]:=rfl
theorem YJ (hl:args.length≤27) (h:Run IJ K [.code RR] (BK args) E σ):AK Tryz.prog 26 args σ K:=
 AX (cx:=IJ) (code:=Tryz.f26.body.getD .skip) KN (by kernel_rfl) Tryz.ntmps26 hl (AY IJ _ (B0 RR) _ [] (by kernel_rfl)) h
def RU:C:=(.seq (.seq (.reg [Qm 21 5,
 Qo 22 (.fld (.t 2) 2),
 Qo 23 (.ldl (.t 22) none),
 Qo 24 (.len (.t 23)),
 Qo 25 (.bin .lss (.t 21) (.t 24))] [1,2,5,25])
 (.cond (.t 25) .skip
 (.exit 0)))
 (.seq (.block 1 (.seq (.reg [Qo 28 (.fld (.t 2) 2),
 Qo 29 (.ldl (.t 28) none),
 Qm 30 5,
 Qo 31 (.ix (.t 29) (.t 30) 3),
 Qo 32 (.ld (.t 31) (some 3)),
 Qm 33 1,
 Qo 34 (.call 27 [(.t 32),(.t 33)]),
 Qo 35 (.un .not (.t 34))] [1,2,5,35])
 (.cond (.t 35) (.seq (.reg [Qo 4 (.mv (.c (.d (.bool false))))] [4])
 .ret)
 .skip)))
 (.reg [Qm 26 5,
 Qo 27 (.bin .add (.t 26) (.c (.d (.int .i64 1)))),
 Qm 5 27] [1,2,5])))
def OU:C:=(.seq (.reg [Qo 2 (.box (.t 0) false),
 Qo 4 (.mv (.c (.d (.bool false))))] [1,2])
 (.seq (.reg [Qm 6 1,
 Qo 7 (.nck (.t 6)),
 Qo 8 (.ld (.t 7) none),
 Qo 9 (.bin .sub (.t 8) (.c (.d (.int .i64 1)))),
 Qo 10 (.nck (.t 6)),
 ⟨none,.st (.t 10) (.t 9) 1,none⟩] [1,2])
 (.seq (.seq (.reg [Qm 11 1,
 Qo 12 (.nck (.t 11)),
 Qo 13 (.ld (.t 12) none),
 Qo 14 (.bin .lss (.t 13) (.c (.d (.int .i64 0)))),
 Qm 15 14,
 ⟨some 16,.fld (.t 2) 1,some (15,false)⟩,
 ⟨some 17,.ldl (.t 16) none,some (15,false)⟩,
 ⟨some 18,.Fv (.t 17),some (15,false)⟩,
 ⟨some 19,.bin .gtr (.t 18) (.c (.d (.int .i64 40))),some (15,false)⟩,
 Qo 20 (.pick (.t 15) (.c (.d (.bool true))) (.t 19))] [1,2,20])
 (.cond (.t 20) (.seq (.reg [Qo 4 (.mv (.c (.d (.bool false))))] [4])
 .ret)
 .skip))
 (.seq (.seq (.reg [Qo 5 (.mv (.c (.d (.int .i64 0))))] [1,2,5])
 (.block 0 (.loop RU)))
 (.seq (.reg [Qo 4 (.mv (.c (.d (.bool true))))] [4])
 .ret)))))
noncomputable def G9:Cx:=⟨Tryz.prog,27,Tryz.f27,36,[300017,300023,300029],[],[.t 4]⟩
theorem GS:Good G9:=⟨Tryz.func27,by kernel_rfl⟩
theorem Tx:G9.rs=[.t 4]:=rfl
theorem VM (hl:args.length≤36) (h:Run G9 K [.code OU] (BK args) E σ):AK Tryz.prog 27 args σ K:=
 AX (cx:=G9) (code:=Tryz.f27.body.getD .skip) GS (by kernel_rfl) Tryz.ntmps27 hl (AY G9 _ (B0 OU) _ [] (by kernel_rfl)) h
def Ui:C:=(.seq (.seq (.reg [Qm 40 5,
 Qo 41 (.fld (.t 2) 4),
 Qo 42 (.ldl (.t 41) none),
 Qo 43 (.len (.t 42)),
 Qo 44 (.bin .lss (.t 40) (.t 43))] [1,2,5,44])
 (.cond (.t 44) .skip
 (.exit 0)))
 (.seq (.block 1 (.seq (.reg [Qo 47 (.fld (.t 2) 4),
 Qo 48 (.ldl (.t 47) none),
 Qm 49 5,
 Qo 50 (.ix (.t 48) (.t 49) 6),
 Qo 51 (.ld (.t 50) (some 6)),
 Qm 52 1,
 Qo 53 (.call 28 [(.t 51),(.t 52)]),
 Qo 54 (.un .not (.t 53))] [1,2,5,54])
 (.cond (.t 54) (.seq (.reg [Qo 4 (.mv (.c (.d (.bool false))))] [4])
 .ret)
 .skip)))
 (.reg [Qm 45 5,
 Qo 46 (.bin .add (.t 45) (.c (.d (.int .i64 1)))),
 Qm 5 46] [1,2,5])))
def Uj:C:=(.seq (.seq (.reg [Qm 55 6,
 Qo 56 (.fld (.t 2) 5),
 Qo 57 (.ldl (.t 56) none),
 Qo 58 (.len (.t 57)),
 Qo 59 (.bin .lss (.t 55) (.t 58))] [1,2,6,59])
 (.cond (.t 59) .skip
 (.exit 2)))
 (.seq (.block 3 (.seq (.reg [Qo 62 (.fld (.t 2) 5),
 Qo 63 (.ldl (.t 62) none),
 Qm 64 6,
 Qo 65 (.ix (.t 63) (.t 64) 8),
 Qo 66 (.fld (.t 65) 0),
 Qo 67 (.ld (.t 66) none),
 Qo 68 (.Fv (.t 67)),
 Qo 69 (.bin .gtr (.t 68) (.c (.d (.int .i64 40)))),
 Qm 70 69,
 ⟨some 71,.fld (.t 2) 5,some (70,false)⟩,
 ⟨some 72,.ldl (.t 71) none,some (70,false)⟩,
 ⟨some 73,.mv (.t 6),some (70,false)⟩,
 ⟨some 74,.ix (.t 72) (.t 73) 8,some (70,false)⟩,
 ⟨some 75,.fld (.t 74) 1,some (70,false)⟩,
 ⟨some 76,.ld (.t 75) none,some (70,false)⟩,
 ⟨some 77,.call 26 [(.t 76),(.c (.d (.int .i64 10)))],some (70,false)⟩,
 ⟨some 78,.un .not (.t 77),some (70,false)⟩,
 Qo 79 (.pick (.t 70) (.c (.d (.bool true))) (.t 78)),
 Qm 80 79,
 ⟨some 81,.fld (.t 2) 5,some (80,false)⟩,
 ⟨some 82,.ldl (.t 81) none,some (80,false)⟩,
 ⟨some 83,.mv (.t 6),some (80,false)⟩,
 ⟨some 84,.ix (.t 82) (.t 83) 8,some (80,false)⟩,
 ⟨some 85,.fld (.t 84) 2,some (80,false)⟩,
 ⟨some 86,.ld (.t 85) (some 6),some (80,false)⟩,
 ⟨some 87,.mv (.t 1),some (80,false)⟩,
 ⟨some 88,.call 28 [(.t 86),(.t 87)],some (80,false)⟩,
 ⟨some 89,.un .not (.t 88),some (80,false)⟩,
 Qo 90 (.pick (.t 80) (.c (.d (.bool true))) (.t 89))] [1,2,6,90])
 (.cond (.t 90) (.seq (.reg [Qo 4 (.mv (.c (.d (.bool false))))] [4])
 .ret)
 .skip)))
 (.reg [Qm 60 6,
 Qo 61 (.bin .add (.t 60) (.c (.d (.int .i64 1)))),
 Qm 6 61] [1,2,6])))
def TM:C:=(.seq (.reg [Qo 2 (.box (.t 0) false),
 Qo 4 (.mv (.c (.d (.bool false))))] [1,2])
 (.seq (.reg [Qm 7 1,
 Qo 8 (.nck (.t 7)),
 Qo 9 (.ld (.t 8) none),
 Qo 10 (.bin .sub (.t 9) (.c (.d (.int .i64 1)))),
 Qo 11 (.nck (.t 7)),
 ⟨none,.st (.t 11) (.t 10) 1,none⟩] [1,2])
 (.seq (.seq (.reg [Qm 12 1,
 Qo 13 (.nck (.t 12)),
 Qo 14 (.ld (.t 13) none),
 Qo 15 (.bin .lss (.t 14) (.c (.d (.int .i64 0)))),
 Qm 16 15,
 ⟨some 17,.fld (.t 2) 1,some (16,false)⟩,
 ⟨some 18,.ldl (.t 17) none,some (16,false)⟩,
 ⟨some 19,.Fv (.t 18),some (16,false)⟩,
 ⟨some 20,.bin .gtr (.t 19) (.c (.d (.int .i64 40))),some (16,false)⟩,
 Qo 21 (.pick (.t 16) (.c (.d (.bool true))) (.t 20)),
 Qm 22 21,
 ⟨some 23,.fld (.t 2) 3,some (22,false)⟩,
 ⟨some 24,.ldl (.t 23) none,some (22,false)⟩,
 ⟨some 25,.call 26 [(.t 24),(.c (.d (.int .i64 10)))],some (22,false)⟩,
 ⟨some 26,.un .not (.t 25),some (22,false)⟩,
 Qo 27 (.pick (.t 22) (.c (.d (.bool true))) (.t 26)),
 Qm 28 27,
 ⟨some 29,.fld (.t 2) 4,some (28,false)⟩,
 ⟨some 30,.ldl (.t 29) none,some (28,false)⟩,
 ⟨some 31,.len (.t 30),some (28,false)⟩,
 ⟨some 32,.bin .gtr (.t 31) (.c (.d (.int .i64 10))),some (28,false)⟩,
 Qo 33 (.pick (.t 28) (.c (.d (.bool true))) (.t 32)),
 Qm 34 33,
 ⟨some 35,.fld (.t 2) 5,some (34,false)⟩,
 ⟨some 36,.ldl (.t 35) none,some (34,false)⟩,
 ⟨some 37,.len (.t 36),some (34,false)⟩,
 ⟨some 38,.bin .gtr (.t 37) (.c (.d (.int .i64 10))),some (34,false)⟩,
 Qo 39 (.pick (.t 34) (.c (.d (.bool true))) (.t 38))] [1,2,39])
 (.cond (.t 39) (.seq (.reg [Qo 4 (.mv (.c (.d (.bool false))))] [4])
 .ret)
 .skip))
 (.seq (.seq (.reg [Qo 5 (.mv (.c (.d (.int .i64 0))))] [1,2,5])
 (.block 0 (.loop Ui)))
 (.seq (.seq (.reg [Qo 6 (.mv (.c (.d (.int .i64 0))))] [1,2,6])
 (.block 2 (.loop Uj)))
 (.seq (.reg [Qo 4 (.mv (.c (.d (.bool true))))] [4])
 .ret))))))
noncomputable def J4:Cx:=⟨Tryz.prog,28,Tryz.f28,91,[300018,300024,300030,300036,300042,300048,300057,300063,300072,300082],[],[.t 4]⟩
theorem Dk:Good J4:=⟨Tryz.func28,by kernel_rfl⟩
theorem Yh:J4.rs=[.t 4]:=rfl
theorem Z1 (hl:args.length≤91) (h:Run J4 K [.code TM] (BK args) E σ):AK Tryz.prog 28 args σ K:=
 AX (cx:=J4) (code:=Tryz.f28.body.getD .skip) Dk (by kernel_rfl) Tryz.ntmps28 hl (AY J4 _ (B0 TM) _ [] (by kernel_rfl)) h
def Q8:C:=(.seq (.reg [Qo 14 (.bin .lss (.t 13) (.t 12))] [0,1,12,13,14])
 (.seq (.cond (.t 14) .skip
 (.exit 0))
 (.seq (.block 1 (.seq (.reg [Qm 15 13,
 Qm 5 15] [0,1,5,12,13])
 (.seq (.reg [Qm 16 0,
 Qm 17 5,
 Qo 18 (.ix (.t 16) (.t 17) 1),
 Qo 19 (.ld (.t 18) none),
 Qm 20 1,
 Qm 21 5,
 Qo 22 (.ix (.t 20) (.t 21) 1),
 Qo 23 (.ld (.t 22) none),
 Qo 24 (.bin .neq (.t 19) (.t 23))] [0,1,12,13,24])
 (.cond (.t 24) (.seq (.reg [Qo 4 (.mv (.c (.d (.bool false))))] [4])
 .ret)
 .skip))))
 (.reg [Qo 25 (.bin .add (.t 13) (.c (.d (.int .i64 1)))),
 Qm 13 25] [0,1,12,13]))))
def N8:C:=(.seq (.reg [Qo 4 (.mv (.c (.d (.bool false))))] [0,1])
 (.seq (.seq (.reg [Qm 6 0,
 Qo 7 (.len (.t 6)),
 Qm 8 1,
 Qo 9 (.len (.t 8)),
 Qo 10 (.bin .neq (.t 7) (.t 9))] [0,1,10])
 (.cond (.t 10) (.seq (.reg [Qo 4 (.mv (.c (.d (.bool false))))] [4])
 .ret)
 .skip))
 (.seq (.seq (.reg [Qm 11 0,
 Qo 12 (.len (.t 11)),
 Qo 13 (.mv (.c (.d (.int .i64 0))))] [0,1,12,13])
 (.block 0 (.loop Q8)))
 (.seq (.reg [Qo 4 (.mv (.c (.d (.bool true))))] [4])
 .ret))))
noncomputable def Fb:Cx:=⟨Tryz.prog,29,Tryz.f29,26,[],[],[.t 4]⟩
theorem HQ:Good Fb:=⟨Tryz.func29,by kernel_rfl⟩
theorem Sn:Fb.rs=[.t 4]:=rfl
theorem Th (hl:args.length≤26) (h:Run Fb K [.code N8] (BK args) E σ):AK Tryz.prog 29 args σ K:=
 AX (cx:=Fb) (code:=Tryz.f29.body.getD .skip) HQ (by kernel_rfl) Tryz.ntmps29 hl (AY Fb _ (B0 N8) _ [] (by kernel_rfl)) h
def RT:C:=(.seq (.reg [Qo 9 (.bin .lss (.t 8) (.t 7))] [3,6,7,8,9])
 (.seq (.cond (.t 9) .skip
 (.exit 0))
 (.seq (.block 1 (.seq (.reg [Qo 10 (.ix (.t 6) (.t 8) 1),
 Qo 11 (.ld (.t 10) none),
 Qm 5 11] [3,5,6,7,8])
 (.reg [Qm 12 3,
 Qm 13 5,
 Qo 14 (.Fv (.t 13)),
 Qo 15 (.mm true (.t 12) (.t 14)),
 Qm 3 15] [3,6,7,8])))
 (.reg [Qo 16 (.bin .add (.t 8) (.c (.d (.int .i64 1)))),
 Qm 8 16] [3,6,7,8]))))
def OT:C:=(.seq (.reg [Qo 2 (.mv (.c (.d (.int .i64 0))))] [0])
 (.seq (.reg [Qo 3 (.mv (.c (.d (.int .i64 0))))] [0,3])
 (.seq (.seq (.reg [Qm 6 0,
 Qo 7 (.len (.t 6)),
 Qo 8 (.mv (.c (.d (.int .i64 0))))] [3,6,7,8])
 (.block 0 (.loop RT)))
 (.seq (.reg [Qm 17 3,
 Qm 2 17] [2])
 .ret))))
noncomputable def G8:Cx:=⟨Tryz.prog,39,Tryz.f39,18,[],[],[.t 2]⟩
theorem Oa:Good G8:=⟨Tryz.func39,by kernel_rfl⟩
theorem Tw:G8.rs=[.t 2]:=rfl
theorem VL (hl:args.length≤18) (h:Run G8 K [.code OT] (BK args) E σ):AK Tryz.prog 39 args σ K:=
 AX (cx:=G8) (code:=Tryz.f39.body.getD .skip) Oa (by kernel_rfl) Tryz.ntmps39 hl (AY G8 _ (B0 OT) _ [] (by kernel_rfl)) h
def Qa:C:=(.seq (.reg [Qo 13 (.bin .lss (.t 12) (.t 11))] [3,10,11,12,13])
 (.seq (.cond (.t 13) .skip
 (.exit 0))
 (.seq (.block 1 (.seq (.reg [Qo 14 (.ix (.t 10) (.t 12) 3),
 Qo 15 (.ld (.t 14) (some 3)),
 Qo 5 (.al [(.d (.int .i64 0)),(.d (.str [])),.AU] false),
 ⟨none,.st (.t 5) (.t 15) 3,none⟩] [3,5,10,11,12])
 (.reg [Qm 16 3,
 Qo 17 (.ldl (.t 5) (some 3)),
 Qo 18 (.call 40 [(.t 17)]),
 Qo 19 (.mm true (.t 16) (.t 18)),
 Qm 3 19] [3,10,11,12])))
 (.reg [Qo 20 (.bin .add (.t 12) (.c (.d (.int .i64 1)))),
 Qm 12 20] [3,10,11,12]))))
def Nd:C:=(.seq (.reg [Qo 1 (.box (.t 0) false),
 Qo 2 (.mv (.c (.d (.int .i64 0))))] [1])
 (.seq (.reg [Qo 6 (.fld (.t 1) 1),
 Qo 7 (.ldl (.t 6) none),
 Qo 8 (.Fv (.t 7)),
 Qm 3 8] [1,3])
 (.seq (.seq (.reg [Qo 9 (.fld (.t 1) 2),
 Qo 10 (.ldl (.t 9) none),
 Qo 11 (.len (.t 10)),
 Qo 12 (.mv (.c (.d (.int .i64 0))))] [3,10,11,12])
 (.block 0 (.loop Qa)))
 (.seq (.reg [Qm 21 3,
 Qm 2 21] [2])
 .ret))))
noncomputable def Fe:Cx:=⟨Tryz.prog,40,Tryz.f40,22,[300007,300010,300017],[],[.t 2]⟩
theorem Nm:Good Fe:=⟨Tryz.func40,by kernel_rfl⟩
theorem Sp:Fe.rs=[.t 2]:=rfl
theorem Tj (hl:args.length≤22) (h:Run Fe K [.code Nd] (BK args) E σ):AK Tryz.prog 40 args σ K:=
 AX (cx:=Fe) (code:=Tryz.f40.body.getD .skip) Nm (by kernel_rfl) Tryz.ntmps40 hl (AY Fe _ (B0 Nd) _ [] (by kernel_rfl)) h
def Uk:C:=(.seq (.reg [Qo 19 (.bin .lss (.t 18) (.t 17))] [1,3,16,17,18,19])
 (.seq (.cond (.t 19) .skip
 (.exit 0))
 (.seq (.block 1 (.seq (.reg [Qo 20 (.ix (.t 16) (.t 18) 6),
 Qo 21 (.ld (.t 20) (some 6)),
 Qo 5 (.al [(.d (.int .i64 0)),(.d (.str [])),(.d (.int .i64 0)),.AU,.AU,.AU] false),
 ⟨none,.st (.t 5) (.t 21) 6,none⟩] [1,3,5,16,17,18])
 (.reg [Qm 22 3,
 Qo 23 (.ldl (.t 5) (some 6)),
 Qo 24 (.call 41 [(.t 23)]),
 Qo 25 (.mm true (.t 22) (.t 24)),
 Qm 3 25] [1,3,16,17,18])))
 (.reg [Qo 26 (.bin .add (.t 18) (.c (.d (.int .i64 1)))),
 Qm 18 26] [1,3,16,17,18]))))
def Ul:C:=(.seq (.reg [Qo 31 (.bin .lss (.t 30) (.t 29))] [3,28,29,30,31])
 (.seq (.cond (.t 31) .skip
 (.exit 2))
 (.seq (.block 3 (.seq (.reg [Qo 32 (.ix (.t 28) (.t 30) 8),
 Qo 33 (.ld (.t 32) (some 8)),
 Qo 7 (.al [(.d (.str [])),.AU,(.d (.int .i64 0)),(.d (.str [])),(.d (.int .i64 0)),.AU,.AU,.AU] false),
 ⟨none,.st (.t 7) (.t 33) 8,none⟩] [3,7,28,29,30])
 (.reg [Qm 34 3,
 Qo 35 (.fld (.t 7) 1),
 Qo 36 (.ldl (.t 35) none),
 Qo 38 (.fld (.t 7) 2),
 Qo 39 (.ldl (.t 38) (some 6)),
 Qo 37 (.call 39 [(.t 36)]),
 Qo 40 (.call 41 [(.t 39)]),
 Qo 41 (.mm3 true (.t 34) (.t 37) (.t 40)),
 Qm 3 41] [3,28,29,30])))
 (.reg [Qo 42 (.bin .add (.t 30) (.c (.d (.int .i64 1)))),
 Qm 30 42] [3,28,29,30]))))
def ZF:C:=(.seq (.reg [Qo 1 (.box (.t 0) false),
 Qo 2 (.mv (.c (.d (.int .i64 0))))] [1])
 (.seq (.reg [Qo 8 (.fld (.t 1) 1),
 Qo 9 (.ldl (.t 8) none),
 Qo 10 (.Fv (.t 9)),
 Qo 11 (.fld (.t 1) 3),
 Qo 12 (.ldl (.t 11) none),
 Qo 13 (.call 39 [(.t 12)]),
 Qo 14 (.mm true (.t 10) (.t 13)),
 Qm 3 14] [1,3])
 (.seq (.seq (.reg [Qo 15 (.fld (.t 1) 4),
 Qo 16 (.ldl (.t 15) none),
 Qo 17 (.len (.t 16)),
 Qo 18 (.mv (.c (.d (.int .i64 0))))] [1,3,16,17,18])
 (.block 0 (.loop Uk)))
 (.seq (.seq (.reg [Qo 27 (.fld (.t 1) 5),
 Qo 28 (.ldl (.t 27) none),
 Qo 29 (.len (.t 28)),
 Qo 30 (.mv (.c (.d (.int .i64 0))))] [3,28,29,30])
 (.block 2 (.loop Ul)))
 (.seq (.reg [Qm 43 3,
 Qm 2 43] [2])
 .ret)))))
def aM:List (List Nat×PT):=[([1],.done),([1,3],.done),([1,3,16,17,18],.done),([1,3,16,17,18,19],.done),([1,3,5,16,17,18],.done),([1,3,16,17,18],.done),([1,3,16,17,18],.done),([3,28,29,30],.done),([3,28,29,30,31],.done),([3,7,28,29,30],.done),([3,28,29,30],(.one 0 (.one 1 (.one 2 (.one 4 (.one 5 (.one 3 (.one 6 (.one 7 (.one 8 .done)))))))))),([3,28,29,30],.done),([2],.done)]
noncomputable def J5:Cx:=⟨Tryz.prog,41,Tryz.f41,44,[300009,300012,300016,300023,300028,300036,300039],[],[.t 2]⟩
theorem TW:Good J5:=⟨Tryz.func41,by kernel_rfl⟩
theorem Yi:J5.rs=[.t 2]:=rfl
theorem Z2 (hl:args.length≤44) (h:Run J5 K [.code ZF] (BK args) E σ):AK Tryz.prog 41 args σ K:=
 AX (cx:=J5) (code:=Tryz.f41.body.getD .skip) TW (by kernel_rfl) Tryz.ntmps41 hl (AY J5 _ aM _ [] (by kernel_rfl)) h
def Qb:C:=(.seq (.reg [Qo 11 (.bin .lss (.t 10) (.t 9))] [1,5,8,9,10,11])
 (.seq (.cond (.t 11) .skip
 (.exit 0))
 (.seq (.block 1 (.seq (.reg [Qo 12 (.ix (.t 8) (.t 10) 1),
 Qo 13 (.ld (.t 12) none),
 Qm 7 13] [1,5,7,8,9,10])
 (.seq (.seq (.reg [Qm 14 7,
 Qo 15 (.bin .neq (.t 14) (.c (.d (.str []))))] [1,5,7,8,9,10,15])
 (.cond (.t 15) (.reg [Qm 16 7,
 Qm 17 1,
 Qo 18 (.bin .add (.t 16) (.t 17)),
 Qm 7 18] [1,5,7,8,9,10])
 .skip))
 (.reg [Qm 19 5,
 Qm 20 7,
 Qo 21 (.bsl 1 1 [(.d (.str []))] [(0,1,(.t 20))]),
 Qo 22 (.app 9 1 16 (.t 19) (.t 21)),
 Qm 5 22] [1,5,8,9,10]))))
 (.reg [Qo 23 (.bin .add (.t 10) (.c (.d (.int .i64 1)))),
 Qm 10 23] [1,5,8,9,10]))))
def Nf:C:=(.seq (.reg [Qo 4 (.mv (.c .AU))] [0,1])
 (.seq (.reg [Qo 5 (.mv (.c .AU))] [0,1,5])
 (.seq (.seq (.reg [Qm 8 0,
 Qo 9 (.len (.t 8)),
 Qo 10 (.mv (.c (.d (.int .i64 0))))] [1,5,8,9,10])
 (.block 0 (.loop Qb)))
 (.seq (.reg [Qm 24 5,
 Qm 4 24] [4])
 .ret))))
noncomputable def Ff:Cx:=⟨Tryz.prog,42,Tryz.f42,25,[],[],[.t 4]⟩
theorem Nn:Good Ff:=⟨Tryz.func42,by kernel_rfl⟩
theorem Sq:Ff.rs=[.t 4]:=rfl
theorem Tk (hl:args.length≤25) (h:Run Ff K [.code Nf] (BK args) E σ):AK Tryz.prog 42 args σ K:=
 AX (cx:=Ff) (code:=Tryz.f42.body.getD .skip) Nn (by kernel_rfl) Tryz.ntmps42 hl (AY Ff _ (B0 Nf) _ [] (by kernel_rfl)) h
def Na:C:=(.seq (.reg [Qo 39 (.bin .lss (.t 38) (.t 37))] [1,2,3,6,7,36,37,38,39])
 (.seq (.cond (.t 39) .skip
 (.exit 1))
 (.seq (.block 2 (.seq (.reg [Qo 40 (.ix (.t 36) (.t 38) 1),
 Qo 41 (.ld (.t 40) none),
 Qm 9 41] [1,2,3,6,7,9,36,37,38])
 (.seq (.reg [Qm 42 9,
 Qo 43 (.fld (.t 3) 1),
 Qo 44 (.ldl (.t 43) none),
 Qo 45 (.bin .eql (.t 42) (.t 44))] [1,2,3,6,7,36,37,38,45])
 (.cond (.t 45) (.reg [Qo 46 (.fld (.t 3) 1),
 Qo 47 (.ldl (.t 46) none),
 Qm 48 2,
 Qo 49 (.bin .add (.t 47) (.t 48)),
 Qo 50 (.fld (.t 7) 1),
 ⟨none,.st (.t 50) (.t 49) 1,none⟩] [1,2,3,6,7,36,37,38])
 .skip))))
 (.reg [Qo 51 (.bin .add (.t 38) (.c (.d (.int .i64 1)))),
 Qm 38 51] [1,2,3,6,7,36,37,38]))))
def Nb:C:=(.seq (.reg [Qo 67 (.bin .lss (.t 66) (.t 65))] [1,2,3,6,7,64,65,66,67])
 (.seq (.cond (.t 67) .skip
 (.exit 3))
 (.seq (.block 4 (.seq (.reg [Qm 68 66,
 Qo 69 (.ix (.t 64) (.t 66) 6),
 Qo 70 (.ld (.t 69) (some 6)),
 Qo 11 (.al [(.d (.int .i64 0)),(.d (.str [])),(.d (.int .i64 0)),.AU,.AU,.AU] false),
 Qm 10 68,
 ⟨none,.st (.t 11) (.t 70) 6,none⟩] [1,2,3,6,7,10,11,64,65,66])
 (.seq (.reg [Qm 71 1,
 Qm 12 71] [1,2,3,6,7,10,11,12,64,65,66])
 (.seq (.block 5 (.seq (.reg [Qo 73 (.fld (.t 3) 0),
 Qo 74 (.ldl (.t 73) none),
 Qo 75 (.bin .eql (.t 74) (.c (.d (.int .i64 7)))),
 Qm 76 75,
 ⟨some 77,.fld (.t 3) 0,some (76,false)⟩,
 ⟨some 78,.ldl (.t 77) none,some (76,false)⟩,
 ⟨some 79,.bin .eql (.t 78) (.c (.d (.int .i64 17))),some (76,false)⟩,
 Qo 80 (.pick (.t 76) (.c (.d (.bool true))) (.t 79)),
 Qm 81 80,
 ⟨some 82,.mv (.t 10),some (81,true)⟩,
 ⟨some 83,.bin .eql (.t 82) (.c (.d (.int .i64 1))),some (81,true)⟩,
 Qo 84 (.pick (.t 81) (.t 83) (.c (.d (.bool false)))),
 Qm 72 84] [1,2,3,6,7,10,11,12,64,65,66,72])
 (.cond (.t 72) (.reg [Qm 85 12,
 Qo 86 (.fld (.t 3) 1),
 Qo 87 (.ldl (.t 86) none),
 Qo 88 (.bsl 1 1 [(.d (.str []))] [(0,1,(.t 87))]),
 Qo 89 (.app 9 1 16 (.t 85) (.t 88)),
 Qm 12 89] [1,2,3,6,7,11,12,64,65,66])
 (.seq (.reg [Qo 91 (.fld (.t 3) 0),
 Qo 92 (.ldl (.t 91) none),
 Qo 93 (.bin .eql (.t 92) (.c (.d (.int .i64 8)))),
 Qm 94 93,
 ⟨some 95,.mv (.t 10),some (94,true)⟩,
 ⟨some 96,.bin .eql (.t 95) (.c (.d (.int .i64 1))),some (94,true)⟩,
 Qo 97 (.pick (.t 94) (.t 96) (.c (.d (.bool false)))),
 Qm 98 97,
 ⟨some 99,.fld (.t 3) 0,some (98,false)⟩,
 ⟨some 100,.ldl (.t 99) none,some (98,false)⟩,
 ⟨some 101,.bin .eql (.t 100) (.c (.d (.int .i64 11))),some (98,false)⟩,
 Qo 102 (.pick (.t 98) (.c (.d (.bool true))) (.t 101)),
 Qm 90 102] [1,2,3,6,7,11,12,64,65,66,90])
 (.cond (.t 90) (.reg [Qm 103 12,
 Qo 104 (.fld (.t 3) 3),
 Qo 105 (.ldl (.t 104) none),
 Qo 106 (.app 9 1 16 (.t 103) (.t 105)),
 Qm 12 106] [1,2,3,6,7,11,12,64,65,66])
 .skip)))))
 (.reg [Qo 107 (.fld (.t 7) 4),
 Qo 108 (.ldl (.t 107) none),
 Qo 109 (.ldl (.t 11) (some 6)),
 Qm 110 12,
 Qm 111 2,
 Qo 112 (.call 43 [(.t 109),(.t 110),(.t 111)]),
 Qo 113 (.bsl 6 1 [(.d (.int .i64 0)),(.d (.str [])),(.d (.int .i64 0)),.AU,.AU,.AU] [(0,6,(.t 112))]),
 Qo 114 (.app 42 6 104 (.t 108) (.t 113)),
 Qo 115 (.fld (.t 7) 4),
 ⟨none,.st (.t 115) (.t 114) 1,none⟩] [1,2,3,6,7,64,65,66])))))
 (.reg [Qo 116 (.bin .add (.t 66) (.c (.d (.int .i64 1)))),
 Qm 66 116] [1,2,3,6,7,64,65,66]))))
def Nc:C:=(.seq (.reg [Qo 121 (.bin .lss (.t 120) (.t 119))] [1,2,6,7,118,119,120,121])
 (.seq (.cond (.t 121) .skip
 (.exit 6))
 (.seq (.block 7 (.seq (.reg [Qo 122 (.ix (.t 118) (.t 120) 8),
 Qo 123 (.ld (.t 122) (some 8)),
 Qo 14 (.al [(.d (.str [])),.AU,(.d (.int .i64 0)),(.d (.str [])),(.d (.int .i64 0)),.AU,.AU,.AU] false),
 ⟨none,.st (.t 14) (.t 123) 8,none⟩] [1,2,6,7,14,118,119,120])
 (.reg [Qo 124 (.fld (.t 7) 5),
 Qo 125 (.ldl (.t 124) none),
 Qo 126 (.fld (.t 14) 0),
 Qo 127 (.ldl (.t 126) none),
 Qo 128 (.fld (.t 14) 1),
 Qo 129 (.ldl (.t 128) none),
 Qm 130 2,
 Qo 132 (.fld (.t 14) 2),
 Qo 133 (.ldl (.t 132) (some 6)),
 Qm 134 1,
 Qo 135 (.fld (.t 14) 1),
 Qo 136 (.ldl (.t 135) none),
 Qm 138 2,
 Qo 131 (.call 42 [(.t 129),(.t 130)]),
 Qo 137 (.app 9 1 16 (.t 134) (.t 136)),
 Qo 139 (.call 43 [(.t 133),(.t 137),(.t 138)]),
 Qo 140 (.bld [(.d (.str [])),.AU,(.d (.int .i64 0)),(.d (.str [])),(.d (.int .i64 0)),.AU,.AU,.AU] [(0,1,(.t 127)),(1,1,(.t 131)),(2,6,(.t 139))]),
 Qo 141 (.bsl 8 1 [(.d (.str [])),.AU,(.d (.int .i64 0)),(.d (.str [])),(.d (.int .i64 0)),.AU,.AU,.AU] [(0,8,(.t 140))]),
 Qo 142 (.app 129 8 144 (.t 125) (.t 141)),
 Qo 143 (.fld (.t 7) 5),
 ⟨none,.st (.t 143) (.t 142) 1,none⟩] [1,2,6,7,118,119,120])))
 (.reg [Qo 144 (.bin .add (.t 120) (.c (.d (.int .i64 1)))),
 Qm 120 144] [1,2,6,7,118,119,120]))))
def YA:C:=(.seq (.reg [Qo 3 (.box (.t 0) false),
 Qo 6 (.al [(.d (.int .i64 0)),(.d (.str [])),(.d (.int .i64 0)),.AU,.AU,.AU] false)] [1,2,3,6])
 (.seq (.reg [Qm 15 1,
 Qm 16 1,
 Qo 17 (.len (.t 16)),
 Qm 18 1,
 Qo 19 (.len (.t 18)),
 Qo 20 (.sls (.t 15) none (some (.t 17)) (some (.t 19)) 1),
 Qm 1 20] [1,2,3,6])
 (.seq (.reg [Qo 7 (.al [(.d (.int .i64 0)),(.d (.str [])),(.d (.int .i64 0)),.AU,.AU,.AU] false),
 Qo 21 (.fld (.t 3) 0),
 Qo 22 (.ldl (.t 21) none),
 Qo 23 (.fld (.t 3) 1),
 Qo 24 (.ldl (.t 23) none),
 Qo 25 (.fld (.t 3) 2),
 Qo 26 (.ldl (.t 25) none),
 Qo 27 (.fld (.t 3) 3),
 Qo 28 (.ldl (.t 27) none),
 Qm 29 2,
 Qo 30 (.call 42 [(.t 28),(.t 29)]),
 Qo 31 (.bld [(.d (.int .i64 0)),(.d (.str [])),(.d (.int .i64 0)),.AU,.AU,.AU] [(0,1,(.t 22)),(1,1,(.t 24)),(2,1,(.t 26)),(3,1,(.t 30))]),
 ⟨none,.st (.t 7) (.t 31) 6,none⟩] [1,2,3,6,7])
 (.seq (.seq (.reg [Qo 32 (.fld (.t 3) 0),
 Qo 33 (.ldl (.t 32) none)] [1,2,3,6,7,33])
 (.block 0 (.seq (.reg [Qo 35 (.bin .eql (.t 33) (.c (.d (.int .i64 4)))),
 Qm 34 35] [1,2,3,6,7,33,34])
 (.cond (.t 34) (.seq (.reg [Qm 36 1,
 Qo 37 (.len (.t 36)),
 Qo 38 (.mv (.c (.d (.int .i64 0))))] [1,2,3,6,7,36,37,38])
 (.block 1 (.loop Na)))
 (.seq (.seq (.reg [Qo 53 (.bin .eql (.t 33) (.c (.d (.int .i64 7)))),
 Qm 52 53] [1,2,3,6,7,33,52])
 (.cond (.t 52) .skip
 (.reg [Qo 54 (.bin .eql (.t 33) (.c (.d (.int .i64 17)))),
 Qm 52 54] [1,2,3,6,7,52])))
 (.cond (.t 52) (.reg [Qo 55 (.fld (.t 3) 1),
 Qo 56 (.ldl (.t 55) none),
 Qo 57 (.bsl 1 1 [(.d (.str []))] [(0,1,(.t 56))]),
 Qm 58 2,
 Qo 59 (.call 42 [(.t 57),(.t 58)]),
 Qo 60 (.ix (.t 59) (.c (.d (.int .i64 0))) 1),
 Qo 61 (.ld (.t 60) none),
 Qo 62 (.fld (.t 7) 1),
 ⟨none,.st (.t 62) (.t 61) 1,none⟩] [1,2,3,6,7])
 .skip))))))
 (.seq (.seq (.reg [Qo 63 (.fld (.t 3) 4),
 Qo 64 (.ldl (.t 63) none),
 Qo 65 (.len (.t 64)),
 Qo 66 (.mv (.c (.d (.int .i64 0))))] [1,2,3,6,7,64,65,66])
 (.block 3 (.loop Nb)))
 (.seq (.seq (.reg [Qo 117 (.fld (.t 3) 5),
 Qo 118 (.ldl (.t 117) none),
 Qo 119 (.len (.t 118)),
 Qo 120 (.mv (.c (.d (.int .i64 0))))] [1,2,6,7,118,119,120])
 (.block 6 (.loop Nc)))
 (.seq (.reg [Qo 145 (.ldl (.t 7) (some 6)),
 ⟨none,.st (.t 6) (.t 145) 6,none⟩] [6])
 .ret)))))))
def Yp:List (List Nat×PT):=[([1,2,3,6],.done),([1,2,3,6],.done),([1,2,3,6,7],(.lay 11 (.one 0 (.one 1 (.one 2 (.one 3 (.one 4 (.one 5 (.one 6 (.one 7 (.one 8 (.one 9 (.one 10 (.one 12 .done)))))))))))))),([1,2,3,6,7,33],.done),([1,2,3,6,7,33,34],.done),([1,2,3,6,7,36,37,38],.done),([1,2,3,6,7,36,37,38,39],.done),([1,2,3,6,7,9,36,37,38],.done),([1,2,3,6,7,36,37,38,45],.done),([1,2,3,6,7,36,37,38],.done),([1,2,3,6,7,36,37,38],.done),([1,2,3,6,7,33,52],.done),([1,2,3,6,7,52],.done),([1,2,3,6,7],.done),([1,2,3,6,7,64,65,66],.done),([1,2,3,6,7,64,65,66,67],.done),([1,2,3,6,7,10,11,64,65,66],.done),([1,2,3,6,7,10,11,12,64,65,66],.done),([1,2,3,6,7,10,11,12,64,65,66,72],.done),([1,2,3,6,7,11,12,64,65,66],.done),([1,2,3,6,7,11,12,64,65,66,90],.done),([1,2,3,6,7,11,12,64,65,66],.done),([1,2,3,6,7,64,65,66],.done),([1,2,3,6,7,64,65,66],.done),([1,2,6,7,118,119,120],.done),([1,2,6,7,118,119,120,121],.done),([1,2,6,7,14,118,119,120],.done),([1,2,6,7,118,119,120],(.one 0 (.one 1 (.one 2 (.one 3 (.one 4 (.one 5 (.one 6 (.one 8 (.one 9 (.one 10 (.one 11 (.one 12 (.one 14 (.one 7 (.one 13 (.one 15 (.one 16 (.one 17 (.one 18 (.one 19 (.one 20 .done)))))))))))))))))))))),([1,2,6,7,118,119,120],.done),([6],.done)]
noncomputable def DD:Cx:=⟨Tryz.prog,43,Tryz.f43,146,[300022,300024,300026,300028,300033,300044,300047,300056,300064,300074,300078,300087,300092,300100,300105,300108,300109,300118,300125,300127,300129,300133,300136,300145],[],[.c 6 (some 6)]⟩
theorem Hq:Good DD:=⟨Tryz.func43,by kernel_rfl⟩
theorem Ww:DD.rs=[.c 6 (some 6)]:=rfl
theorem YK (hl:args.length≤146) (h:Run DD K [.code YA] (BK args) E σ):AK Tryz.prog 43 args σ K:=
 AX (cx:=DD) (code:=Tryz.f43.body.getD .skip) Hq (by kernel_rfl) Tryz.ntmps43 hl (AY DD _ Yp _ [] (by kernel_rfl)) h
attribute [go_sem] Yg So Yf Vm Wv Tx Yh Sn Tw Sp Yi Sq Ww
end Go.Ab
