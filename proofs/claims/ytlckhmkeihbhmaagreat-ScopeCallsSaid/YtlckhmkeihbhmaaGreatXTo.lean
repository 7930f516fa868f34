/- One token. Texts split into tokens. Valid programs, in plain data. Names and arities, in plain data. The compact codes of the functions of this seat, computed out of the translation. Conditions: none. -/
import Derived.Test.YtlckhmkeihbhmaaGreatProg
import Derived.KernelRfl
import Derived.Test.YtlckhmkeihbhmaaGreatXLfP
set_option linter.unusedSimpArgs false
set_option linter.unusedVariables false
set_option maxRecDepth 4000
set_option maxHeartbeats 8000000
open Bool renaming true_or→J0,or_false→KS,false_or→DP,and_true→Am,true_and→BA,and_false→B3,false_and→B1,false_eq_true→AZ
open Nat renaming le_refl→A0,lt_or_ge→Br
open List renaming getElem?_drop→BM,drop_drop→Du,drop_length→Nj,length_append→AS,range→Ae
namespace Go.Ab
open Go.Proofs
def Hy:Str→Except Int (Int×Str)
 |[]=>.error 2
 |b::r=>
  if WO b.toNat||Tu b.toNat then
   if decide (((b::r).takeWhile (EG Hb)).length>24) then .error 9
                                  else if Tu b.toNat then .ok (2,(b::r).takeWhile (EG Hb))
                                  else if eA ((b::r).takeWhile (EG Hb)) then .ok (4,(b::r).takeWhile (EG Hb))
                                  else .ok (1,(b::r).takeWhile (EG Hb))
                                  else if Hi b.toNat then
   if b==48&&decide (((b::r).takeWhile (EG Hi)).length>1) then .error 2
                                         else if (L8 ((b::r).takeWhile (EG Hi)) 0).isSome then .ok (3,(b::r).takeWhile (EG Hi))
                                         else .error 9
                                         else if (b::r).take (Gx (b::r))==[] then .error 2
                                         else .ok (5,(b::r).take (Gx (b::r)))
def fN (k:Int) (t:Str) (p:Int):AV:= .agg [.d (.int .i64 k),.d (.str t),.d (.int .i64 p)]
def Ys (p:Int):Except Int (Int×Str)→AV
 | .error e=>.tup [fN 0 [] 0,.d (.int .i64 e)]
 | .ok (k,t)=>.tup [fN k t p,.d (.int .i64 0)]
theorem Em {α:Type} (p:α→Bool) (l:List α):(l.takeWhile p).length≤l.length:=(List.takeWhile_prefix p).length_le
theorem jN (b:UInt8):((b.toNat:Int)==48)=(b==48):=lP b 48
theorem pE (n:Nat):decide ((24:Int) < (n:Int))=decide (n>24):=decide_eq_decide.2 (by omega)
theorem gt1 (n:Nat):decide ((1:Int) < (n:Int))=decide (n>1):=decide_eq_decide.2 (by omega)
theorem dJ:C0 Tryz.prog 169=true:=by kernel_rfl
theorem g7:C0 Tryz.prog 171=true:=by kernel_rfl
theorem QP (src:Str) (i:Nat) (σ:AF) (hl:src.length≤1000000000) (hi:i < src.length):
 AM Tryz.prog 163 [.d (.str src),.d (.int .i64 i)] σ (fun v σ'=>v=Ys i (Hy (src.drop i))∧σ'=σ):=by
 obtain ⟨b,hb⟩:=BC hi
 have hd:=Bb hb
 rw [hd]
 have hld:(src.drop i).length≤1000000000:=by simp;omega
 rw [hd] at hld
 have hw1:=Em (EG Hb) (b::src.drop (i+1))
 have hw2:=Em (EG Hi) (b::src.drop (i+1))
 have hs1:Ov (.d (.str src)) (some (.d (.int .i64 (i:Int)))) none=some (.d (.str (b::src.drop (i+1)))):=by rw [jK (by omega),hd]
 refine X2 (by simp) ?_
 rw [BY]
 generalize src.drop (i+1)=r at *
 (repeat' (first|refine Run.ct rfl ?_|((first|refine Run.reg mixed ?_|refine Run.AD ?_|refine Run.A1 R8 (AF.le_refl _) ?_|refine AJ.det (Oy _ _) ?_|refine AJ.det (Oz _ _) ?_|refine AJ.det (Ks _ _) ?_|refine AJ.det (Sl _ _) ?_|refine AJ.det (Vb _ _ (by omega)) ?_|refine AJ.det (W4 _ _ (by simp)) ?_|refine AJ.det (Ni (c:=Hb) dJ Tt _ _ hld) ?_|refine AJ.det (Ni (c:=Hi) g7 Ks _ _ hld) ?_|(refine FY rfl (fun h=>?_) (fun h=>?_)<;>try (cases h;done)))<;>try simp -implicitDefEqProofs only [Co hb,hs1,jN,pE,gt1,go_sem])|(refine ⟨fun h=>?_,fun h=>?_⟩<;>first|(cases h;done)|try simp only [h])|fail))
 all_goals (clear hw1 hw2 hs1 hd hld;first|(simp only [Hy,Ys,fN, *,Bool.or_true,J0,KS,DP,Am,BA,B3,B1,AZ,reduceIte];done)|simp_all [Hy,Ys,fN])
end Go.Ab
namespace Go.Ab
open Go.Proofs
structure Tok where
 kind:Int
 text:Str
 pos:Nat
def Tok.enc (t:Tok):List DV:=[.int .i64 t.kind,.str t.text,.int .i64 t.pos]
def cmt (s:Str):Nat:=(s.takeWhile (fun c=>!(c==10))).length
def Mf:Nat→Str→Nat→List Tok→List Tok×Nat×Int
 |0,_,_,_=>([],0,0)
 |n+1,rest,i,acc=>match rest with
  |[]=>(acc++[⟨6,[],i⟩],0,0)
  |b::r=>
   if ZW b.toNat then Mf n r (i+1) acc
                               else if b==35 then Mf n ((b::r).drop (cmt (b::r))) (i+cmt (b::r)) acc
                               else match Hy (b::r) with
    | .error e=>([],i,e)
    | .ok (k,t)=>Mf n ((b::r).drop t.length) (i+t.length) (acc++[⟨k,t,i⟩])
def G2 (s:Str):List Tok×Nat×Int:=if s.length>16384 then ([],0,9) else Mf (s.length+1) s 0 []
def IC (r:List Tok×Nat×Int):AV:= .tup [.d (.sl (r.1.map Tok.enc)),.d (.int .i64 r.2.1),.d (.int .i64 r.2.2)]
theorem N1 (b:UInt8):((b.toNat:Int)==35)=(b==35):=lP b 35
theorem Xr (b:UInt8):((b.toNat:Int)==10)=(b==10):=lP b 10
theorem g0 (n:Nat):decide ((16384:Int) < (n:Int))=decide (n>16384):=decide_eq_decide.2 (by omega)
theorem Yt {s:Str} {k:Int} {t:Str} (h:Hy s= .ok (k,t)):1≤t.length∧t.length≤s.length:=by
 match s with
 |[]=>simp [Hy] at h
 |b::r=>
  have h1:=Em (EG Hb) (b::r)
  have h2:=Em (EG Hi) (b::r)
  simp only [Hy] at h
  split at h
  · rename_i hlu
    have hw:EG Hb b=true:=by
     simp only [EG,Hb];rw [hlu];rfl
    have h3:1≤((b::r).takeWhile (EG Hb)).length:=by simp [hw]
    split at h
    · cases h
    · split at h
      · cases h;exact ⟨h3,h1⟩
      · split at h<;>(cases h;exact ⟨h3,h1⟩)
  · split at h
    · rename_i hdg
      have h3:1≤((b::r).takeWhile (EG Hi)).length:=by simp [EG,hdg]
      split at h
      · cases h
      · split at h<;>cases h
        exact ⟨h3,h2⟩
    · split at h
      · cases h
      · rename_i hne
        cases h
        refine ⟨?_,List.length_take_le' _ _⟩
        cases he:(b::r).take (Gx (b::r)) with
        |nil=>rw [he] at hne;simp at hne
        |cons=>simp
theorem jD {s:Str} {e:Int} (h:Hy s= .error e):e=2∨e=9:=by
 match s with
 |[]=>simp only [Hy,Except.error.injEq] at h;omega
 |b::r=>
  simp only [Hy] at h
  repeat' split at h
  all_goals first|(cases h;simp;done)|cases h
theorem Va (s:Str) (σ:AF):AM Tryz.prog 149 [.d (.str s)] σ (fun v σ'=>v=IC (G2 s)∧σ'=σ):=by
 refine WE (by simp) ?_
 rw [Bg]
 (repeat' (first|refine Run.ct rfl ?_|((first|refine Run.reg mixed ?_|refine Run.AD ?_|refine Run.A1 CJ (AF.le_refl _) ?_)<;>try simp -implicitDefEqProofs only [g0,go_sem])|(refine ⟨fun h=>?_,fun h=>?_⟩<;>first|(cases h;done)|try simp only [h])|fail))
 · have:s.length>16384:=by simpa using h
   simp [IC,G2,this]
 · have hl:¬s.length>16384:=by simpa using h
   refine Run.BD ?_
   refine Run.BG ((fun (a0:AV)=>fun (y:Nat×AV×AF)=>put 0 a0 (put 5 (y.2.1) (put 6 (.d (.int .i64 y.1)) U))) _) (fun _=>E) (fun y=>y.2.2) (fun y=>y.1≤s.length∧∃acc n,Cg σ 216 3 (acc.map Tok.enc) y.2.1 y.2.2∧acc.length≤y.1∧s.length - y.1 < n∧G2 s=Mf n (s.drop y.1) y.1 acc) (fun y=>s.length - y.1) ?_ (0,.AY,σ) ⟨by simp,[],s.length+1,Cg.nil _ _ _,by simp,by simp,by simp [G2,hl]⟩
   rintro ⟨i,v,σ1⟩ ⟨hi,acc,n,ho,hac,hn,hs⟩ ih
   simp only at hi ho hac hn hs
   obtain ⟨n,rfl⟩:∃m,n=m+1:=⟨n - 1,by omega⟩
   by_cases hlt:i < s.length
   · obtain ⟨x,hx⟩:=BC hlt
     rw [Bb hx,Mf] at hs
     have hw1:=A6 (show i+1≤9000000000000000000 by omega)
     have hsl:(x::s.drop (i+1)).length=s.length - i:=by simp;omega
     cases hb:ZW x.toNat with
     |true=>
      rw [hb] at hs
      (repeat' (first|refine Run.ct rfl ?_|((first|refine Run.reg mixed ?_|refine Run.AD ?_|refine Run.A1 CJ (AF.le_refl _) ?_|refine AJ.det (ID _ _) ?_)<;>try simp -implicitDefEqProofs only [A8 hlt,Co hx,hb,hw1,go_sem])|fail))
      exact ih (i+1,v,σ1) ⟨hlt,acc,n,ho,by simp only;omega,by simp only;omega,hs⟩ (by simp only;omega)
     |false=>
      rw [hb,if_neg (by simp)] at hs
      cases hc:(x==35) with
      |true=>
       rw [hc,if_pos rfl] at hs
       (repeat' (first|refine Run.ct rfl ?_|((first|refine Run.reg mixed ?_|refine Run.AD ?_|refine Run.A1 CJ (AF.le_refl _) ?_|refine AJ.det (ID _ _) ?_)<;>try simp -implicitDefEqProofs only [A8 hlt,Co hx,N1,hb,hc,go_sem])|fail))
       refine Run.Jr [0,5,6] ?_;simp -implicitDefEqProofs only [go_sem]
       refine Run.BD ?_
       refine Run.BG ((fun (a0:AV) (a5:AV)=>fun (j:Nat)=>put 0 a0 (put 5 a5 (put 6 (.d (.int .i64 j)) U))) _ _) (fun _=>E) (fun _=>σ1) (fun j=>i≤j∧j≤s.length∧∀q b,q < j - i→(s.drop i)[q]?=some b→(!(b==10))=true) (fun j=>s.length - j) ?_ i ⟨A0 i,hi,by intro q b hq;omega⟩
       rintro j ⟨hij,hj,hall⟩ ih2
       have hw2:=A6 (show j+1≤9000000000000000000 by omega)
       by_cases hjl:j < s.length
       · obtain ⟨z,hz⟩:=BC hjl
         have hz2:(s.drop i)[j - i]?=some z:=by rw [BM,show i+(j - i)=j by omega];exact hz
         cases h10:(z==10) with
         |true=>
          (repeat' (first|refine Run.ct rfl ?_|((first|refine Run.reg mixed ?_|refine Run.AD ?_|refine Run.A1 CJ (AF.le_refl _) ?_)<;>try simp -implicitDefEqProofs only [A8 hjl,Co hz,Xr,h10,go_sem])|fail))
          have hk:cmt (x::s.drop (i+1))=j - i:=by
           rw [← Bb hx,cmt,EW hall (by simp;omega) (fun b hb=>by rw [hz2] at hb;cases hb;simp [h10])]
           simp;omega
          have hji:j≠i:=fun e=>by
           subst e
           rw [hx] at hz;cases hz
           simp only [beq_iff_eq] at hc h10
           rw [hc] at h10;exact absurd h10 (by decide)
          rw [hk,← Bb hx,Du,show i+(j - i)=j by omega] at hs
          refine Run.Jr [0,5,6] ?_;simp -implicitDefEqProofs only [go_sem]
          exact ih (j,v,σ1) ⟨hj,acc,n,ho,by simp only;omega,by simp only;omega,hs⟩ (by simp only;omega)
         |false=>
          (repeat' (first|refine Run.ct rfl ?_|((first|refine Run.reg mixed ?_|refine Run.AD ?_|refine Run.A1 CJ (AF.le_refl _) ?_)<;>try simp -implicitDefEqProofs only [A8 hjl,Co hz,Xr,h10,hw2,go_sem])|fail))
          refine ih2 (j+1) ⟨by omega,hjl,fun q b hq hb=>?_⟩ (by omega)
          rcases Br q (j - i) with h2|h2
          · exact hall q b h2 hb
          · have:q=j - i:=by omega
            subst this
            rw [hz2] at hb;cases hb;simp [h10]
       · have hje:j=s.length:=by omega
         have hk:cmt (x::s.drop (i+1))=j - i:=by
          rw [← Bb hx,cmt,EW hall (by simp;omega) (fun b hb=>by rw [BM,show i+(j - i)=j by omega,hje] at hb;simp at hb)]
          simp;omega
         rw [hk,← Bb hx,Du,show i+(j - i)=j by omega,hje,Nj] at hs
         obtain ⟨n,rfl⟩:∃m,n=m+1:=⟨n - 1,by omega⟩
         rw [Mf] at hs
         (repeat' (first|refine Run.ct rfl ?_|((first|refine Run.reg mixed ?_|refine Run.AD ?_|(refine Dy.own ho rfl (by simp) (by simp;omega) (by decide) (fun v2 σ2 ho2 hbk=>?_))|(refine Run.A1 CJ ho2.le ?_)|refine Run.A1 CJ (AF.le_refl _) ?_)<;>try simp -implicitDefEqProofs only [Bd hjl,go_sem])|fail))
         simp -implicitDefEqProofs only [ho2.BZ,ho2.plain,go_sem]
         rw [hs];simp [IC,Tok.enc]
      |false=>
       rw [hc,if_neg (by simp)] at hs
       rcases hsc:Hy (x::s.drop (i+1)) with e|⟨k,t⟩
       · rw [hsc] at hs
         have he:=jD hsc
         have hne:(e != 0)=true:=by simp;omega
         (repeat' (first|refine Run.ct rfl ?_|((first|refine Run.reg mixed ?_|refine Run.AD ?_|(refine Run.A1 CJ ho.le ?_)|refine Run.A1 CJ (AF.le_refl _) ?_|refine AJ.det (ID _ _) ?_|refine AJ.det (QP _ _ _ (by omega) hlt) ?_)<;>try simp -implicitDefEqProofs only [A8 hlt,Co hx,N1,hb,hc,Bb hx,hsc,Ys,fN,hne,ho.Ar,AZ,go_sem])|fail))
         rw [hs];rfl
       · rw [hsc] at hs
         have hsn:=Yt hsc
         rw [hsl] at hsn
         (repeat' (first|refine Run.ct rfl ?_|((first|refine Run.reg mixed ?_|refine Run.AD ?_|(refine Dy.own ho rfl (by simp) (by simp;omega) (by decide) (fun v2 σ2 ho2 hbk=>?_))|refine Run.A1 CJ (AF.le_refl _) ?_|refine AJ.det (ID _ _) ?_|refine AJ.det (QP _ _ _ (by omega) hlt) ?_)<;>try simp -implicitDefEqProofs only [A8 hlt,Co hx,N1,hb,hc,Bb hx,hsc,Ys,fN,ho.Ar,AZ,wrap_add (show i+t.length≤9000000000000000000 by omega),go_sem])|(refine ⟨fun h=>?_,fun h=>?_⟩<;>first|(cases h;done)|try simp only [h])|fail))
         refine ih (i+t.length,v2,σ2) ⟨?_,acc++[⟨k,t,i⟩],n,?_,?_,?_,?_⟩ ?_
         · simp only;omega
         · simpa [Tok.enc] using ho2
         · simp only [AS,List.length_singleton];omega
         · simp only;omega
         · rw [hs];simp only;rw [← Bb hx,Du]
         · simp only;omega
   · have hge:i=s.length:=by omega
     rw [hge,Nj,Mf] at hs
     (repeat' (first|refine Run.ct rfl ?_|((first|refine Run.reg mixed ?_|refine Run.AD ?_|(refine Dy.own ho rfl (by simp) (by simp;omega) (by decide) (fun v2 σ2 ho2 hbk=>?_))|(refine Run.A1 CJ ho2.le ?_)|refine Run.A1 CJ (AF.le_refl _) ?_)<;>try simp -implicitDefEqProofs only [Bd hlt,go_sem])|fail))
     simp -implicitDefEqProofs only [ho2.BZ,ho2.plain,go_sem]
     rw [hs];simp [IC,Tok.enc]
end Go.Ab
namespace Go.Ab
def HM (k:Int) (s:Str):Bool:=
 (G2 s).2.2==0&&((G2 s).1.length==2&&(match (G2 s).1 with|[]=>false|a::_=>a.kind==k&&a.text==s))
def EO (s:Str):Bool:=HM 1 s
def FH (s:Str):Bool:=HM 2 s
def OH (s:Str):Bool:=s==[]||EO s
def UC (k:Int) (n:Str) (len:Nat):Bool:=
 if k=1∨k=2∨k=3 then n==[]&&decide (len=0)
                                     else if k=4 then EO n&&decide (len=0)
                                     else if k=5 then FH n&&decide (len≤6)
                                     else if k=6 then n==[]&&decide (2≤len)&&decide (len≤6)
                                     else if k=7∨k=8 then n==[]&&decide (len=1)
                                     else if k=9 then n==[]&&decide (1≤len)&&decide (len≤7)
                                     else false
def Dp:Nat→TE→Bool
 |0,_=>false
 |d+1,.mk k n l=>UC k n l.length&&l.all (Dp d)
def Vz (c:CE):Bool:=FH c.name&&decide (c.args.length≤6)&&c.args.all (Dp 40)
def LX (d:DE):Bool:=FH d.name&&decide (d.vars.length≤6)&&d.vars.all EO&&decide (1≤d.cons.length)&&decide (d.cons.length≤8)&&d.cons.all Vz
def QW:Al→Bool
 | .mk c vs _=>FH c&&decide (vs.length≤6)&&vs.all OH
def nmB (o:Int) (n:Str):Bool:=
 if o=4 then EO n else if o=6 then FH n else if o=7∨o=17 then OH n else n==[]
def nuB (o:Int) (u:Int):Bool:=
 if o=2 then decide (0≤u)&&decide (u≤1) else if o=3 then decide (-1000000≤u)&&decide (u≤1000000) else if o=13 then decide (1≤u)&&decide (u≤8)
                                                                                                                                          else if o=14 then decide (1≤u)&&decide (u≤7) else if o=15 then decide (-1000≤u)&&decide (u≤1000) else u==0
def nsB (o:Int) (ns:List Str):Bool:=
 if o=8 then decide (2≤ns.length)&&decide (ns.length≤6)&&ns.all OH else if o=11 then decide (ns.length≤6)&&ns.all EO else decide (ns.length=0)
def asB (o:Int) (al:List Al):Bool:=
 if o=10 then decide (1≤al.length)&&al.all QW else decide (al.length=0)
def VE (u:Int):Nat:=if u=1∨u=2∨u=7 then 2 else if u=3 then 3 else if u=4∨u=5∨u=6 then 1 else 0
def nkB (o u:Int) (nk:Nat):Bool:=
 if o=1∨o=2∨o=3∨o=4∨o=15 then decide (nk=0)
                                       else if o=5 then decide (2≤nk)&&decide (nk≤6)
                                       else if o=6 then decide (nk≤6)
                                       else if o=7∨o=8∨o=13∨o=17 then decide (nk=2)
                                       else if o=9 then decide (nk=3)
                                       else if o=10∨o=11∨o=16 then decide (nk=1)
                                       else if o=12 then decide (1≤nk)&&decide (nk≤7)
                                       else if o=14 then decide (nk=VE u)
                                       else false
def L2 (o:Int) (n:Str) (u:Int) (ns:List Str) (nk:Nat) (al:List Al):Bool:=
 nmB o n&&nuB o u&&nsB o ns&&asB o al&&nkB o u nk
def vEx:Nat→Nat→Ex→Option Nat
 |0,_,_=>none
 |d+1,q,.mk o n u ns ks al=>
  match q with
  |0=>none
  |q+1=>if L2 o n u ns ks.length al then (ks.foldlM (fun q e=>vEx d q e) q).bind fun q=>al.foldlM (fun q a=>match a with| .mk _ _ b=>vEx d q b) q else none
def g8 (f:FE):Bool:=EO f.name&&decide (f.params.length≤6)&&f.params.all EO
def Lx (q:Nat) (f:FE):Option Nat:=if g8 f then vEx 40 q f.body else none
def EJ (p:Pg):Bool:=decide (p.data.length≤12)&&decide (p.MW.length≤24)&&p.data.all LX&&(p.MW.foldlM Lx 600).isSome
end Go.Ab
namespace Go.Ab
def Ct:List Str→Str→Option Nat
 |[],_=>none
 |x::l,s=>if x==s then some 0 else (Ct l s).map (·+1)
def Ee (o:Option Nat):Int:=match o with|some i=>i|none=>-1
def CC:List Str→Bool
 |[]=>false
 |x::l=>(!(x==[])&&l.contains x)||CC l
def Ef:List TE→List Str→Bool
 |[],[]=>true
 | .mk k n _::l,v::vs=>(k==4&&n==v)&&Ef l vs
 |_,_=>false
mutual
def Hu (ds:List (Str×Nat)) (vars:List Str):Bool→TE→Except Int Ty
 |whole,.mk k n l=>
  if k=4 then
   match Ct vars n with
   |none=>.error 3
   |some i=>(Ch ds vars l).map (Ty.mk k i)
                                 else if k=5 then
   match Ct (ds.map (·.1)) n with
   |none=>.error 3
   |some i=>
    if l.length≠(ds.getD i ([],0)).2 then .error 5
                             else if i+1=ds.length∧¬(whole=true∧Ef l vars=true) then .error 7
                             else (Ch ds vars l).map (Ty.mk k i)
                             else (Ch ds vars l).map (Ty.mk k 0)
def Ch (ds:List (Str×Nat)) (vars:List Str):List TE→Except Int (List Ty)
 |[]=>.ok []
 |t::l=>match Hu ds vars false t with
  | .error e=>.error e
  | .ok u=>(Ch ds vars l).map (u::·)
end
def Dm (ds:List (Str×Nat)) (vars:List Str):List TE→Except Int (List Ty)
 |[]=>.ok []
 |t::l=>match Hu ds vars true t with
  | .error e=>.error e
  | .ok u=>(Dm ds vars l).map (u::·)
def Ep (ds:List (Str×Nat)) (vars:List Str):List Str→List CE→Except Int (List Con)
 |_,[]=>.ok []
 |used,c::l=>
  if used.contains c.name then .error 4
   else match Dm ds vars c.args with
  | .error e=>.error e
  | .ok ts=>(Ep ds vars (used++[c.name]) l).map (⟨c.name,ts⟩::·)
def Nd (ds:List (Str×Nat)) (used:List Str) (d:DE):Except Int Dat:=
 if (ds.map (·.1)).contains d.name||CC d.vars then .error 4
               else (Ep (ds++[(d.name,d.vars.length)]) d.vars used d.cons).map (⟨d.name,d.vars.length,·⟩)
def Cq (l:List DE):List (Str×Nat):=l.map fun d=>(d.name,d.vars.length)
def I3 (l:List DE):List Str:=l.flatMap fun d=>d.cons.map (·.name)
def DJ:List DE→List DE→Except (Int×Nat) (List Dat)
 |_,[]=>.ok []
 |done,d::l=>match Nd (Cq done) (I3 done) d with
  | .error e=>.error (e,done.length)
  | .ok x=>(DJ (done++[d]) l).map (x::·)
abbrev Dg:=Int×Int×Int
def MU (p:Pg):Except Dg (List Dat):=
 if EJ p then (match DJ [] p.data with| .error (e,i)=>.error (e,-1,i)| .ok l=>.ok l) else .error (1,-1,0)
def Ex.op:Ex→Int| .mk o _ _ _ _ _=>o
def Ex.num:Ex→Int| .mk _ _ u _ _ _=>u
def Ex.name:Ex→Str| .mk _ n _ _ _ _=>n
def Ex.names:Ex→List Str| .mk _ _ _ ns _ _=>ns
def Ex.kids:Ex→List Ex| .mk _ _ _ _ ks _=>ks
def Ex.alts:Ex→List Al| .mk _ _ _ _ _ al=>al
def Al.con:Al→Str| .mk c _ _=>c
def Al.vars:Al→List Str| .mk _ vs _=>vs
def Al.body:Al→Ex| .mk _ _ b=>b
def GX (o:Int) (n:Str) (ns:List Str) (sc:List Str) (i:Nat):List Str:=
 if (o=7∨o=17)∧i=1 then (if n=[] then sc else sc++[n])
                          else if (o=8∧i=1)∨o=11 then sc++ns else sc
mutual
def B7:Ex→List Str→List (Ex×List Str)
 | .mk o n u ns ks al,sc=>(.mk o n u ns ks al,sc)::(Bi o n ns sc 0 ks++Bx sc al)
def Bi (o:Int) (n:Str) (ns sc:List Str):Nat→List Ex→List (Ex×List Str)
 |_,[]=>[]
 |i,k::l=>B7 k (GX o n ns sc i)++Bi o n ns sc (i+1) l
def S3:Al→List Str→List (Ex×List Str)
 | .mk _ vs b,sc=>B7 b (sc++vs)
def Bx (sc:List Str):List Al→List (Ex×List Str)
 |[]=>[]
 |a::l=>S3 a sc++Bx sc l
end
def HX:List Con→Str→Option Nat
 |[],_=>none
 |c::l,s=>if c.name==s then some 0 else (HX l s).map (·+1)
def I8:List Dat→Str→Option (Nat×Nat)
 |[],_=>none
 |d::l,s=>match HX d.cons s with
  |some k=>some (0,k)
  |none=>(I8 l s).map fun x=>(x.1+1,x.2)
def arity (dt:List Dat) (x:Nat×Nat):Nat:=match dt[x.1]? with|some d=>(match d.cons[x.2]? with|some c=>c.args.length|none=>0)|none=>0
def GD (dt:List Dat) (d:Nat):Nat:=match dt[d]? with|some x=>x.cons.length|none=>0
def Ci (dt:List Dat):List Al→Except Int (List (Nat×Nat))
 |[]=>.ok []
 | .mk c vs _::l=>match I8 dt c with
  |none=>.error 3
  |some x=>if vs.length≠arity dt x then .error 5 else if CC vs then .error 4 else (Ci dt l).map (x::·)
def Ub (dt:List Dat):List (Nat×Nat)→Bool
 |[]=>true
 |x::l=>(x::l).all (fun y=>y.1==x.1)&&decide ((x::l).Nodup)&&decide ((x::l).length=GD dt x.1)
def KV (dt:List Dat) (l:List Al):Int:=match Ci dt l with| .error e=>e| .ok xs=>if Ub dt xs then 0 else 7
def CU (fs:List FE):List Str:=fs.map (·.name)
def EX (fs:List FE) (dt:List Dat) (e:Ex) (sc:List Str):Int:=
 if e.op=4 then (if !sc.contains e.name&&(Ct (CU fs) e.name).isNone then 3 else 0)
                                               else if e.op=6 then
  match I8 dt e.name with
  |none=>3
  |some x=>if e.kids.length≠arity dt x then 5 else 0
            else if e.op=8∨e.op=11 then (if CC e.names then 4 else 0)
            else if e.op=10 then KV dt e.alts
            else if e.op=12 then
  match e.kids.head? with
  |none=>0
  |some h=>if h.op=4&& !sc.contains h.name then
   (match Ct (CU fs) h.name with
   |none=>0
   |some f=>match fs[f]? with
    |some g=>if g.params.length+1≠e.kids.length then 5 else 0
    |none=>0) else 0
            else 0
def EH (vis:Ex→List Str→Int):List (Ex×List Str)→Option (Nat×Int)
 |[]=>none
 |x::l=>if vis x.1 x.2=0 then (EH vis l).map (fun y=>(y.1+1,y.2)) else some (0,vis x.1 x.2)
def RX (fs:List FE) (dt:List Dat) (i:Nat) (f:FE):Option Dg:=
 if Ct (CU fs) f.name≠some i∨CC f.params=true then some (4,i,0)
                                                          else match EH (EX fs dt) (B7 f.body f.params) with
  |some (k,c)=>some (c,i,k)
  |none=>none
def GK (fs:List FE) (dt:List Dat):Nat→List FE→Dg
 |_,[]=>(0,0,0)
 |i,f::l=>match RX fs dt i f with
  |some d=>d
  |none=>GK fs dt (i+1) l
def My (p:Pg):Dg:=match MU p with| .error d=>d| .ok dt=>GK p.MW dt 0 p.MW
def HT (fs:List FE) (g:Nat) (x:Ex×List Str):Bool:=x.1.op==4&&(!x.2.contains x.1.name&&Ct (CU fs) x.1.name==some g)
def JH (fs:List FE) (f:FE):List Nat:=(Ae fs.length).filter fun g=>(B7 f.body f.params).any (HT fs g)
def Ey (p:Pg):List (List Nat):=if (My p).1=0 then p.MW.map (JH p.MW) else []
end Go.Ab
namespace Go.Ab
open Go.Proofs
variable {args:List AV} {σ:AF} {K:AV→AF→Prop}
def UQ:C:=(.seq (.reg [Qo 66 (.bin .lss (.t 65) (.t 64))] [1,3,23,24,25,46,47,48,63,64,65,66])
 (.seq (.cond (.t 66) .skip
 (.exit 4))
 (.seq (.block 5 (.seq (.reg [Qo 67 (.ix (.t 63) (.t 65) 3),
 Qo 68 (.ld (.t 67) (some 3)),
 Qo 9 (.al [(.d (.int .i64 0)),(.d (.str [])),.AY] false),
 ⟨none,.st (.t 9) (.t 68) 3,none⟩] [1,3,9,23,24,25,46,47,48,63,64,65])
 (.seq (.reg [Qo 69 (.ldl (.t 9) (some 3)),
 Qo 70 (.call 27 [(.t 69),(.t 3)]),
 Qo 71 (.un .not (.t 70))] [1,3,23,24,25,46,47,48,63,64,65,71])
 (.cond (.t 71) (.seq (.reg [Qo 2 (.mv (.c (.d (.bool false))))] [2])
 .ret)
 .skip))))
 (.reg [Qo 72 (.bin .add (.t 65) (.c (.d (.int .i64 1)))),
 Qm 65 72] [1,3,23,24,25,46,47,48,63,64,65]))))
def UR:C:=(.seq (.reg [Qo 49 (.bin .lss (.t 48) (.t 47))] [1,3,23,24,25,46,47,48,49])
 (.seq (.cond (.t 49) .skip
 (.exit 2))
 (.seq (.block 3 (.seq (.reg [Qo 50 (.ix (.t 46) (.t 48) 2),
 Qo 51 (.ld (.t 50) (some 2)),
 Qo 7 (.al [(.d (.str [])),.AY] false),
 ⟨none,.st (.t 7) (.t 51) 2,none⟩] [1,3,7,23,24,25,46,47,48])
 (.seq (.seq (.reg [Qo 52 (.fld (.t 7) 0),
 Qo 53 (.ldl (.t 52) none),
 Qo 54 (.Gy (.t 53)),
 Qo 55 (.bin .gtr (.t 54) (.c (.d (.int .i64 40)))),
 Qm 56 55,
 ⟨some 57,.fld (.t 7) 1,some (56,false)⟩,
 ⟨some 58,.ldl (.t 57) none,some (56,false)⟩,
 ⟨some 59,.len (.t 58),some (56,false)⟩,
 ⟨some 60,.bin .gtr (.t 59) (.c (.d (.int .i64 10))),some (56,false)⟩,
 Qo 61 (.pick (.t 56) (.c (.d (.bool true))) (.t 60))] [1,3,7,23,24,25,46,47,48,61])
 (.cond (.t 61) (.seq (.reg [Qo 2 (.mv (.c (.d (.bool false))))] [2])
 .ret)
 .skip))
 (.seq (.reg [Qo 62 (.fld (.t 7) 1),
 Qo 63 (.ldl (.t 62) none),
 Qo 64 (.len (.t 63)),
 Qo 65 (.mv (.c (.d (.int .i64 0))))] [1,3,23,24,25,46,47,48,63,64,65])
 (.block 4 (.loop UQ))))))
 (.reg [Qo 73 (.bin .add (.t 48) (.c (.d (.int .i64 1)))),
 Qm 48 73] [1,3,23,24,25,46,47,48]))))
def US:C:=(.seq (.reg [Qo 26 (.bin .lss (.t 25) (.t 24))] [1,3,23,24,25,26])
 (.seq (.cond (.t 26) .skip
 (.exit 0))
 (.seq (.block 1 (.seq (.reg [Qo 27 (.ix (.t 23) (.t 25) 3),
 Qo 28 (.ld (.t 27) (some 3)),
 Qo 5 (.al [(.d (.str [])),.AY,.AY] false),
 ⟨none,.st (.t 5) (.t 28) 3,none⟩] [1,3,5,23,24,25])
 (.seq (.seq (.reg [Qo 29 (.fld (.t 5) 0),
 Qo 30 (.ldl (.t 29) none),
 Qo 31 (.Gy (.t 30)),
 Qo 32 (.bin .gtr (.t 31) (.c (.d (.int .i64 40)))),
 Qm 33 32,
 ⟨some 34,.fld (.t 5) 1,some (33,false)⟩,
 ⟨some 35,.ldl (.t 34) none,some (33,false)⟩,
 ⟨some 36,.call 26 [(.t 35),(.c (.d (.int .i64 10)))],some (33,false)⟩,
 ⟨some 37,.un .not (.t 36),some (33,false)⟩,
 Qo 38 (.pick (.t 33) (.c (.d (.bool true))) (.t 37)),
 Qm 39 38,
 ⟨some 40,.fld (.t 5) 2,some (39,false)⟩,
 ⟨some 41,.ldl (.t 40) none,some (39,false)⟩,
 ⟨some 42,.len (.t 41),some (39,false)⟩,
 ⟨some 43,.bin .gtr (.t 42) (.c (.d (.int .i64 10))),some (39,false)⟩,
 Qo 44 (.pick (.t 39) (.c (.d (.bool true))) (.t 43))] [1,3,5,23,24,25,44])
 (.cond (.t 44) (.seq (.reg [Qo 2 (.mv (.c (.d (.bool false))))] [2])
 .ret)
 .skip))
 (.seq (.reg [Qo 45 (.fld (.t 5) 2),
 Qo 46 (.ldl (.t 45) none),
 Qo 47 (.len (.t 46)),
 Qo 48 (.mv (.c (.d (.int .i64 0))))] [1,3,23,24,25,46,47,48])
 (.block 2 (.loop UR))))))
 (.reg [Qo 74 (.bin .add (.t 25) (.c (.d (.int .i64 1)))),
 Qm 25 74] [1,3,23,24,25]))))
def UT:C:=(.seq (.reg [Qo 79 (.bin .lss (.t 78) (.t 77))] [3,76,77,78,79])
 (.seq (.cond (.t 79) .skip
 (.exit 6))
 (.seq (.block 7 (.seq (.reg [Qo 80 (.ix (.t 76) (.t 78) 8),
 Qo 81 (.ld (.t 80) (some 8)),
 Qo 11 (.al [(.d (.str [])),.AY,(.d (.int .i64 0)),(.d (.str [])),(.d (.int .i64 0)),.AY,.AY,.AY] false),
 ⟨none,.st (.t 11) (.t 81) 8,none⟩] [3,11,76,77,78])
 (.seq (.reg [Qo 82 (.fld (.t 11) 0),
 Qo 83 (.ldl (.t 82) none),
 Qo 84 (.Gy (.t 83)),
 Qo 85 (.bin .gtr (.t 84) (.c (.d (.int .i64 40)))),
 Qm 86 85,
 ⟨some 87,.fld (.t 11) 1,some (86,false)⟩,
 ⟨some 88,.ldl (.t 87) none,some (86,false)⟩,
 ⟨some 89,.call 26 [(.t 88),(.c (.d (.int .i64 10)))],some (86,false)⟩,
 ⟨some 90,.un .not (.t 89),some (86,false)⟩,
 Qo 91 (.pick (.t 86) (.c (.d (.bool true))) (.t 90)),
 Qm 92 91,
 ⟨some 93,.fld (.t 11) 2,some (92,false)⟩,
 ⟨some 94,.ldl (.t 93) (some 6),some (92,false)⟩,
 ⟨some 95,.call 28 [(.t 94),(.t 3)],some (92,false)⟩,
 ⟨some 96,.un .not (.t 95),some (92,false)⟩,
 Qo 97 (.pick (.t 92) (.c (.d (.bool true))) (.t 96))] [3,76,77,78,97])
 (.cond (.t 97) (.seq (.reg [Qo 2 (.mv (.c (.d (.bool false))))] [2])
 .ret)
 .skip))))
 (.reg [Qo 98 (.bin .add (.t 78) (.c (.d (.int .i64 1)))),
 Qm 78 98] [3,76,77,78]))))
def Sq:C:=(.seq (.reg [Qo 1 (.box (.t 0) false),
 Qo 2 (.mv (.c (.d (.bool false))))] [1])
 (.seq (.seq (.reg [Qo 12 (.fld (.t 1) 0),
 Qo 13 (.ldl (.t 12) none),
 Qo 14 (.len (.t 13)),
 Qo 15 (.bin .gtr (.t 14) (.c (.d (.int .i64 14)))),
 Qm 16 15,
 ⟨some 17,.fld (.t 1) 1,some (16,false)⟩,
 ⟨some 18,.ldl (.t 17) none,some (16,false)⟩,
 ⟨some 19,.len (.t 18),some (16,false)⟩,
 ⟨some 20,.bin .gtr (.t 19) (.c (.d (.int .i64 26))),some (16,false)⟩,
 Qo 21 (.pick (.t 16) (.c (.d (.bool true))) (.t 20))] [1,21])
 (.cond (.t 21) (.seq (.reg [Qo 2 (.mv (.c (.d (.bool false))))] [2])
 .ret)
 .skip))
 (.seq (.reg [Qo 3 (.ex (.alt 3 [(.d (.int .i64 0))]) []),
 ⟨none,.st (.t 3) (.c (.d (.int .i64 200))) 1,none⟩] [1,3])
 (.seq (.seq (.reg [Qo 22 (.fld (.t 1) 0),
 Qo 23 (.ldl (.t 22) none),
 Qo 24 (.len (.t 23)),
 Qo 25 (.mv (.c (.d (.int .i64 0))))] [1,3,23,24,25])
 (.block 0 (.loop US)))
 (.seq (.seq (.reg [Qo 75 (.fld (.t 1) 1),
 Qo 76 (.ldl (.t 75) none),
 Qo 77 (.len (.t 76)),
 Qo 78 (.mv (.c (.d (.int .i64 0))))] [3,76,77,78])
 (.block 6 (.loop UT)))
 (.seq (.reg [Qo 2 (.mv (.c (.d (.bool true))))] [2])
 .ret))))))
noncomputable def JV:Cx:=⟨Tryz.prog,8,Tryz.f8,99,[3,300013,300018,300023,300030,300035,300041,300046,300053,300058,300063,300069,300076,300083,300088,300094],[],[.t 2]⟩
theorem Cl:Good JV:=⟨Tryz.func8,by kernel_rfl⟩
theorem Xk:JV.rs=[.t 2]:=rfl
theorem YS (hl:args.length≤99) (h:Run JV K [.code Sq] (BP args) E σ):AM Tryz.prog 8 args σ K:=
 AW (cx:=JV) (code:=Tryz.f8.body.getD .skip) Cl (by kernel_rfl) Tryz.ntmps8 hl (AX JV _ (B2 Sq) _ [] (by kernel_rfl)) h
def QZ:C:=(.seq (.reg [Qo 14 (.bin .lss (.t 13) (.t 12))] [0,1,12,13,14])
 (.seq (.cond (.t 14) .skip
 (.exit 0))
 (.seq (.block 1 (.seq (.reg [Qm 15 13,
 Qm 5 15] [0,1,5,12,13])
 (.seq (.reg [Qm 16 0,
 Qm 17 5,
 Qo 18 (.ix (.t 16) (.t 17) 1),
 Qo 19 (.ld (.t 18) none),
 Qm 20 1,
 Qm 21 5,
 Qo 22 (.ix (.t 20) (.t 21) 1),
 Qo 23 (.ld (.t 22) none),
 Qo 24 (.call 29 [(.t 19),(.t 23)]),
 Qo 25 (.un .not (.t 24))] [0,1,12,13,25])
 (.cond (.t 25) (.seq (.reg [Qo 4 (.mv (.c (.d (.bool false))))] [4])
 .ret)
 .skip))))
 (.reg [Qo 26 (.bin .add (.t 13) (.c (.d (.int .i64 1)))),
 Qm 13 26] [0,1,12,13]))))
def N5:C:=(.seq (.reg [Qo 4 (.mv (.c (.d (.bool false))))] [0,1])
 (.seq (.seq (.reg [Qm 6 0,
 Qo 7 (.len (.t 6)),
 Qm 8 1,
 Qo 9 (.len (.t 8)),
 Qo 10 (.bin .neq (.t 7) (.t 9))] [0,1,10])
 (.cond (.t 10) (.seq (.reg [Qo 4 (.mv (.c (.d (.bool false))))] [4])
 .ret)
 .skip))
 (.seq (.seq (.reg [Qm 11 0,
 Qo 12 (.len (.t 11)),
 Qo 13 (.mv (.c (.d (.int .i64 0))))] [0,1,12,13])
 (.block 0 (.loop QZ)))
 (.seq (.reg [Qo 4 (.mv (.c (.d (.bool true))))] [4])
 .ret))))
noncomputable def Fe:Cx:=⟨Tryz.prog,9,Tryz.f9,27,[],[],[.t 4]⟩
theorem HK:Good Fe:=⟨Tryz.func9,by kernel_rfl⟩
theorem Sc:Fe.rs=[.t 4]:=rfl
theorem T2 (hl:args.length≤27) (h:Run Fe K [.code N5] (BP args) E σ):AM Tryz.prog 9 args σ K:=
 AW (cx:=Fe) (code:=Tryz.f9.body.getD .skip) HK (by kernel_rfl) Tryz.ntmps9 hl (AX Fe _ (B2 N5) _ [] (by kernel_rfl)) h
def TV:C:=(.seq (.seq (.reg [Qm 6 5,
 Qm 7 0,
 Qo 8 (.len (.t 7)),
 Qo 9 (.bin .lss (.t 6) (.t 8)),
 Qm 10 9,
 ⟨some 11,.mv (.t 5),some (10,true)⟩,
 ⟨some 12,.mv (.t 1),some (10,true)⟩,
 ⟨some 13,.bin .leq (.t 11) (.t 12),some (10,true)⟩,
 Qo 14 (.pick (.t 10) (.t 13) (.c (.d (.bool false))))] [0,1,5,14])
 (.cond (.t 14) .skip
 (.exit 0)))
 (.seq (.block 1 (.seq (.reg [Qm 17 0,
 Qm 18 5,
 Qo 19 (.ix (.t 17) (.t 18) 1),
 Qo 20 (.ld (.t 19) none),
 Qo 21 (.Gy (.t 20)),
 Qo 22 (.bin .gtr (.t 21) (.c (.d (.int .i64 40))))] [0,1,5,22])
 (.cond (.t 22) (.seq (.reg [Qo 4 (.mv (.c (.d (.bool false))))] [4])
 .ret)
 .skip)))
 (.reg [Qm 15 5,
 Qo 16 (.bin .add (.t 15) (.c (.d (.int .i64 1)))),
 Qm 5 16] [0,1,5])))
def RF:C:=(.seq (.reg [Qo 4 (.mv (.c (.d (.bool false))))] [0,1])
 (.seq (.seq (.reg [Qo 5 (.mv (.c (.d (.int .i64 0))))] [0,1,5])
 (.block 0 (.loop TV)))
 (.seq (.reg [Qm 23 0,
 Qo 24 (.len (.t 23)),
 Qm 25 1,
 Qo 26 (.bin .leq (.t 24) (.t 25)),
 Qm 4 26] [4])
 .ret)))
noncomputable def IE:Cx:=⟨Tryz.prog,26,Tryz.f26,27,[],[],[.t 4]⟩
theorem KA:Good IE:=⟨Tryz.func26,by kernel_rfl⟩
theorem WV:IE.rs=[.t 4]:=rfl
theorem XY (hl:args.length≤27) (h:Run IE K [.code RF] (BP args) E σ):AM Tryz.prog 26 args σ K:=
 AW (cx:=IE) (code:=Tryz.f26.body.getD .skip) KA (by kernel_rfl) Tryz.ntmps26 hl (AX IE _ (B2 RF) _ [] (by kernel_rfl)) h
def RG:C:=(.seq (.seq (.reg [Qm 21 5,
 Qo 22 (.fld (.t 2) 2),
 Qo 23 (.ldl (.t 22) none),
 Qo 24 (.len (.t 23)),
 Qo 25 (.bin .lss (.t 21) (.t 24))] [1,2,5,25])
 (.cond (.t 25) .skip
 (.exit 0)))
 (.seq (.block 1 (.seq (.reg [Qo 28 (.fld (.t 2) 2),
 Qo 29 (.ldl (.t 28) none),
 Qm 30 5,
 Qo 31 (.ix (.t 29) (.t 30) 3),
 Qo 32 (.ld (.t 31) (some 3)),
 Qm 33 1,
 Qo 34 (.call 27 [(.t 32),(.t 33)]),
 Qo 35 (.un .not (.t 34))] [1,2,5,35])
 (.cond (.t 35) (.seq (.reg [Qo 4 (.mv (.c (.d (.bool false))))] [4])
 .ret)
 .skip)))
 (.reg [Qm 26 5,
 Qo 27 (.bin .add (.t 26) (.c (.d (.int .i64 1)))),
 Qm 5 27] [1,2,5])))
def OK:C:=(.seq (.reg [Qo 2 (.box (.t 0) false),
 Qo 4 (.mv (.c (.d (.bool false))))] [1,2])
 (.seq (.reg [Qm 6 1,
 Qo 7 (.nck (.t 6)),
 Qo 8 (.ld (.t 7) none),
 Qo 9 (.bin .sub (.t 8) (.c (.d (.int .i64 1)))),
 Qo 10 (.nck (.t 6)),
 ⟨none,.st (.t 10) (.t 9) 1,none⟩] [1,2])
 (.seq (.seq (.reg [Qm 11 1,
 Qo 12 (.nck (.t 11)),
 Qo 13 (.ld (.t 12) none),
 Qo 14 (.bin .lss (.t 13) (.c (.d (.int .i64 0)))),
 Qm 15 14,
 ⟨some 16,.fld (.t 2) 1,some (15,false)⟩,
 ⟨some 17,.ldl (.t 16) none,some (15,false)⟩,
 ⟨some 18,.Gy (.t 17),some (15,false)⟩,
 ⟨some 19,.bin .gtr (.t 18) (.c (.d (.int .i64 40))),some (15,false)⟩,
 Qo 20 (.pick (.t 15) (.c (.d (.bool true))) (.t 19))] [1,2,20])
 (.cond (.t 20) (.seq (.reg [Qo 4 (.mv (.c (.d (.bool false))))] [4])
 .ret)
 .skip))
 (.seq (.seq (.reg [Qo 5 (.mv (.c (.d (.int .i64 0))))] [1,2,5])
 (.block 0 (.loop RG)))
 (.seq (.reg [Qo 4 (.mv (.c (.d (.bool true))))] [4])
 .ret)))))
noncomputable def G3:Cx:=⟨Tryz.prog,27,Tryz.f27,36,[300017,300023,300029],[],[.t 4]⟩
theorem GN:Good G3:=⟨Tryz.func27,by kernel_rfl⟩
theorem Te:G3.rs=[.t 4]:=rfl
theorem Uj (hl:args.length≤36) (h:Run G3 K [.code OK] (BP args) E σ):AM Tryz.prog 27 args σ K:=
 AW (cx:=G3) (code:=Tryz.f27.body.getD .skip) GN (by kernel_rfl) Tryz.ntmps27 hl (AX G3 _ (B2 OK) _ [] (by kernel_rfl)) h
def UU:C:=(.seq (.seq (.reg [Qm 40 5,
 Qo 41 (.fld (.t 2) 4),
 Qo 42 (.ldl (.t 41) none),
 Qo 43 (.len (.t 42)),
 Qo 44 (.bin .lss (.t 40) (.t 43))] [1,2,5,44])
 (.cond (.t 44) .skip
 (.exit 0)))
 (.seq (.block 1 (.seq (.reg [Qo 47 (.fld (.t 2) 4),
 Qo 48 (.ldl (.t 47) none),
 Qm 49 5,
 Qo 50 (.ix (.t 48) (.t 49) 6),
 Qo 51 (.ld (.t 50) (some 6)),
 Qm 52 1,
 Qo 53 (.call 28 [(.t 51),(.t 52)]),
 Qo 54 (.un .not (.t 53))] [1,2,5,54])
 (.cond (.t 54) (.seq (.reg [Qo 4 (.mv (.c (.d (.bool false))))] [4])
 .ret)
 .skip)))
 (.reg [Qm 45 5,
 Qo 46 (.bin .add (.t 45) (.c (.d (.int .i64 1)))),
 Qm 5 46] [1,2,5])))
def UW:C:=(.seq (.seq (.reg [Qm 55 6,
 Qo 56 (.fld (.t 2) 5),
 Qo 57 (.ldl (.t 56) none),
 Qo 58 (.len (.t 57)),
 Qo 59 (.bin .lss (.t 55) (.t 58))] [1,2,6,59])
 (.cond (.t 59) .skip
 (.exit 2)))
 (.seq (.block 3 (.seq (.reg [Qo 62 (.fld (.t 2) 5),
 Qo 63 (.ldl (.t 62) none),
 Qm 64 6,
 Qo 65 (.ix (.t 63) (.t 64) 8),
 Qo 66 (.fld (.t 65) 0),
 Qo 67 (.ld (.t 66) none),
 Qo 68 (.Gy (.t 67)),
 Qo 69 (.bin .gtr (.t 68) (.c (.d (.int .i64 40)))),
 Qm 70 69,
 ⟨some 71,.fld (.t 2) 5,some (70,false)⟩,
 ⟨some 72,.ldl (.t 71) none,some (70,false)⟩,
 ⟨some 73,.mv (.t 6),some (70,false)⟩,
 ⟨some 74,.ix (.t 72) (.t 73) 8,some (70,false)⟩,
 ⟨some 75,.fld (.t 74) 1,some (70,false)⟩,
 ⟨some 76,.ld (.t 75) none,some (70,false)⟩,
 ⟨some 77,.call 26 [(.t 76),(.c (.d (.int .i64 10)))],some (70,false)⟩,
 ⟨some 78,.un .not (.t 77),some (70,false)⟩,
 Qo 79 (.pick (.t 70) (.c (.d (.bool true))) (.t 78)),
 Qm 80 79,
 ⟨some 81,.fld (.t 2) 5,some (80,false)⟩,
 ⟨some 82,.ldl (.t 81) none,some (80,false)⟩,
 ⟨some 83,.mv (.t 6),some (80,false)⟩,
 ⟨some 84,.ix (.t 82) (.t 83) 8,some (80,false)⟩,
 ⟨some 85,.fld (.t 84) 2,some (80,false)⟩,
 ⟨some 86,.ld (.t 85) (some 6),some (80,false)⟩,
 ⟨some 87,.mv (.t 1),some (80,false)⟩,
 ⟨some 88,.call 28 [(.t 86),(.t 87)],some (80,false)⟩,
 ⟨some 89,.un .not (.t 88),some (80,false)⟩,
 Qo 90 (.pick (.t 80) (.c (.d (.bool true))) (.t 89))] [1,2,6,90])
 (.cond (.t 90) (.seq (.reg [Qo 4 (.mv (.c (.d (.bool false))))] [4])
 .ret)
 .skip)))
 (.reg [Qm 60 6,
 Qo 61 (.bin .add (.t 60) (.c (.d (.int .i64 1)))),
 Qm 6 61] [1,2,6])))
def Sr:C:=(.seq (.reg [Qo 2 (.box (.t 0) false),
 Qo 4 (.mv (.c (.d (.bool false))))] [1,2])
 (.seq (.reg [Qm 7 1,
 Qo 8 (.nck (.t 7)),
 Qo 9 (.ld (.t 8) none),
 Qo 10 (.bin .sub (.t 9) (.c (.d (.int .i64 1)))),
 Qo 11 (.nck (.t 7)),
 ⟨none,.st (.t 11) (.t 10) 1,none⟩] [1,2])
 (.seq (.seq (.reg [Qm 12 1,
 Qo 13 (.nck (.t 12)),
 Qo 14 (.ld (.t 13) none),
 Qo 15 (.bin .lss (.t 14) (.c (.d (.int .i64 0)))),
 Qm 16 15,
 ⟨some 17,.fld (.t 2) 1,some (16,false)⟩,
 ⟨some 18,.ldl (.t 17) none,some (16,false)⟩,
 ⟨some 19,.Gy (.t 18),some (16,false)⟩,
 ⟨some 20,.bin .gtr (.t 19) (.c (.d (.int .i64 40))),some (16,false)⟩,
 Qo 21 (.pick (.t 16) (.c (.d (.bool true))) (.t 20)),
 Qm 22 21,
 ⟨some 23,.fld (.t 2) 3,some (22,false)⟩,
 ⟨some 24,.ldl (.t 23) none,some (22,false)⟩,
 ⟨some 25,.call 26 [(.t 24),(.c (.d (.int .i64 10)))],some (22,false)⟩,
 ⟨some 26,.un .not (.t 25),some (22,false)⟩,
 Qo 27 (.pick (.t 22) (.c (.d (.bool true))) (.t 26)),
 Qm 28 27,
 ⟨some 29,.fld (.t 2) 4,some (28,false)⟩,
 ⟨some 30,.ldl (.t 29) none,some (28,false)⟩,
 ⟨some 31,.len (.t 30),some (28,false)⟩,
 ⟨some 32,.bin .gtr (.t 31) (.c (.d (.int .i64 10))),some (28,false)⟩,
 Qo 33 (.pick (.t 28) (.c (.d (.bool true))) (.t 32)),
 Qm 34 33,
 ⟨some 35,.fld (.t 2) 5,some (34,false)⟩,
 ⟨some 36,.ldl (.t 35) none,some (34,false)⟩,
 ⟨some 37,.len (.t 36),some (34,false)⟩,
 ⟨some 38,.bin .gtr (.t 37) (.c (.d (.int .i64 10))),some (34,false)⟩,
 Qo 39 (.pick (.t 34) (.c (.d (.bool true))) (.t 38))] [1,2,39])
 (.cond (.t 39) (.seq (.reg [Qo 4 (.mv (.c (.d (.bool false))))] [4])
 .ret)
 .skip))
 (.seq (.seq (.reg [Qo 5 (.mv (.c (.d (.int .i64 0))))] [1,2,5])
 (.block 0 (.loop UU)))
 (.seq (.seq (.reg [Qo 6 (.mv (.c (.d (.int .i64 0))))] [1,2,6])
 (.block 2 (.loop UW)))
 (.seq (.reg [Qo 4 (.mv (.c (.d (.bool true))))] [4])
 .ret))))))
noncomputable def JW:Cx:=⟨Tryz.prog,28,Tryz.f28,91,[300018,300024,300030,300036,300042,300048,300057,300063,300072,300082],[],[.t 4]⟩
theorem Db:Good JW:=⟨Tryz.func28,by kernel_rfl⟩
theorem Xl:JW.rs=[.t 4]:=rfl
theorem YT (hl:args.length≤91) (h:Run JW K [.code Sr] (BP args) E σ):AM Tryz.prog 28 args σ K:=
 AW (cx:=JW) (code:=Tryz.f28.body.getD .skip) Db (by kernel_rfl) Tryz.ntmps28 hl (AX JW _ (B2 Sr) _ [] (by kernel_rfl)) h
def QY:C:=(.seq (.reg [Qo 14 (.bin .lss (.t 13) (.t 12))] [0,1,12,13,14])
 (.seq (.cond (.t 14) .skip
 (.exit 0))
 (.seq (.block 1 (.seq (.reg [Qm 15 13,
 Qm 5 15] [0,1,5,12,13])
 (.seq (.reg [Qm 16 0,
 Qm 17 5,
 Qo 18 (.ix (.t 16) (.t 17) 1),
 Qo 19 (.ld (.t 18) none),
 Qm 20 1,
 Qm 21 5,
 Qo 22 (.ix (.t 20) (.t 21) 1),
 Qo 23 (.ld (.t 22) none),
 Qo 24 (.bin .neq (.t 19) (.t 23))] [0,1,12,13,24])
 (.cond (.t 24) (.seq (.reg [Qo 4 (.mv (.c (.d (.bool false))))] [4])
 .ret)
 .skip))))
 (.reg [Qo 25 (.bin .add (.t 13) (.c (.d (.int .i64 1)))),
 Qm 13 25] [0,1,12,13]))))
def N4:C:=(.seq (.reg [Qo 4 (.mv (.c (.d (.bool false))))] [0,1])
 (.seq (.seq (.reg [Qm 6 0,
 Qo 7 (.len (.t 6)),
 Qm 8 1,
 Qo 9 (.len (.t 8)),
 Qo 10 (.bin .neq (.t 7) (.t 9))] [0,1,10])
 (.cond (.t 10) (.seq (.reg [Qo 4 (.mv (.c (.d (.bool false))))] [4])
 .ret)
 .skip))
 (.seq (.seq (.reg [Qm 11 0,
 Qo 12 (.len (.t 11)),
 Qo 13 (.mv (.c (.d (.int .i64 0))))] [0,1,12,13])
 (.block 0 (.loop QY)))
 (.seq (.reg [Qo 4 (.mv (.c (.d (.bool true))))] [4])
 .ret))))
noncomputable def Fc:Cx:=⟨Tryz.prog,29,Tryz.f29,26,[],[],[.t 4]⟩
theorem HJ:Good Fc:=⟨Tryz.func29,by kernel_rfl⟩
theorem Sb:Fc.rs=[.t 4]:=rfl
theorem T1 (hl:args.length≤26) (h:Run Fc K [.code N4] (BP args) E σ):AM Tryz.prog 29 args σ K:=
 AW (cx:=Fc) (code:=Tryz.f29.body.getD .skip) HJ (by kernel_rfl) Tryz.ntmps29 hl (AX Fc _ (B2 N4) _ [] (by kernel_rfl)) h
attribute [go_sem] Xk Sc WV Te Xl Sb
end Go.Ab
