/- Valid programs, in plain data. Names and arities, in plain data. The compact codes of the functions of this seat, computed out of the translation. The guards on programs: Names, written, expr. Conditions: none. -/
import Derived.Test.YtlckhmkeihbhmaaGreatProg
import Derived.KernelRfl
import Derived.Test.YtlckhmkeihbhmaaGreatXTk
set_option linter.unusedSimpArgs false
set_option linter.unusedVariables false
set_option maxRecDepth 4000
set_option maxHeartbeats 8000000
open List renaming range→An,length_map→AA,all_eq_true→Ah,mem_of_getElem?→AT,take_of_length_le→AK,mem_append→A7,mem_singleton→Bd,map_cons→AG,map_nil→AQ,take→DJ,drop→Cq,append_nil→Ao,nil_append→Ay,length_take→Ai
open Bool renaming eq_false_iff→CU,false_and→B5,and_true→As,and_eq_true→AP
open Nat renaming eq_zero_or_pos→D5,min_eq_left→CO
namespace Go.Ab
def HA (k:Int) (s:Str):Bool:=
 (GP s).2.2==0&&((GP s).1.length==2&&(match (GP s).1 with|[]=>false|a::_=>a.kind==k&&a.text==s))
def EJ (s:Str):Bool:=HA 1 s
def Ev (s:Str):Bool:=HA 2 s
def Nd (s:Str):Bool:=s==[]||EJ s
def TP (k:Int) (n:Str) (len:Nat):Bool:=
 if k=1∨k=2∨k=3 then n==[]&&decide (len=0)
                                     else if k=4 then EJ n&&decide (len=0)
                                     else if k=5 then Ev n&&decide (len≤6)
                                     else if k=6 then n==[]&&decide (2≤len)&&decide (len≤6)
                                     else if k=7∨k=8 then n==[]&&decide (len=1)
                                     else if k=9 then n==[]&&decide (1≤len)&&decide (len≤7)
                                     else false
def Dj:Nat→TE→Bool
 |0,_=>false
 |d+1,.mk k n l=>TP k n l.length&&l.all (Dj d)
def VN (c:CE):Bool:=Ev c.name&&decide (c.args.length≤6)&&c.args.all (Dj 40)
def Kz (d:DE):Bool:=Ev d.name&&decide (d.vars.length≤6)&&d.vars.all EJ&&decide (1≤d.cons.length)&&decide (d.cons.length≤8)&&d.cons.all VN
def Po:Al→Bool
 | .mk c vs _=>Ev c&&decide (vs.length≤6)&&vs.all Nd
def nmB (o:Int) (n:Str):Bool:=
 if o=4 then EJ n else if o=6 then Ev n else if o=7∨o=17 then Nd n else n==[]
def nuB (o:Int) (u:Int):Bool:=
 if o=2 then decide (0≤u)&&decide (u≤1) else if o=3 then decide (-1000000≤u)&&decide (u≤1000000) else if o=13 then decide (1≤u)&&decide (u≤8)
                                                                                                                                          else if o=14 then decide (1≤u)&&decide (u≤7) else if o=15 then decide (-1000≤u)&&decide (u≤1000) else u==0
def nsB (o:Int) (ns:List Str):Bool:=
 if o=8 then decide (2≤ns.length)&&decide (ns.length≤6)&&ns.all Nd else if o=11 then decide (ns.length≤6)&&ns.all EJ else decide (ns.length=0)
def asB (o:Int) (al:List Al):Bool:=
 if o=10 then decide (1≤al.length)&&al.all Po else decide (al.length=0)
def UU (u:Int):Nat:=if u=1∨u=2∨u=7 then 2 else if u=3 then 3 else if u=4∨u=5∨u=6 then 1 else 0
def nkB (o u:Int) (nk:Nat):Bool:=
 if o=1∨o=2∨o=3∨o=4∨o=15 then decide (nk=0)
                                       else if o=5 then decide (2≤nk)&&decide (nk≤6)
                                       else if o=6 then decide (nk≤6)
                                       else if o=7∨o=8∨o=13∨o=17 then decide (nk=2)
                                       else if o=9 then decide (nk=3)
                                       else if o=10∨o=11∨o=16 then decide (nk=1)
                                       else if o=12 then decide (1≤nk)&&decide (nk≤7)
                                       else if o=14 then decide (nk=UU u)
                                       else false
def LC (o:Int) (n:Str) (u:Int) (ns:List Str) (nk:Nat) (al:List Al):Bool:=
 nmB o n&&nuB o u&&nsB o ns&&asB o al&&nkB o u nk
def vEx:Nat→Nat→Ex→Option Nat
 |0,_,_=>none
 |d+1,q,.mk o n u ns ks al=>
  match q with
  |0=>none
  |q+1=>if LC o n u ns ks.length al then (ks.foldlM (fun q e=>vEx d q e) q).bind fun q=>al.foldlM (fun q a=>match a with| .mk _ _ b=>vEx d q b) q else none
def fD (f:FE):Bool:=EJ f.name&&decide (f.params.length≤6)&&f.params.all EJ
def L9 (q:Nat) (f:FE):Option Nat:=if fD f then vEx 40 q f.body else none
def EF (p:Pg):Bool:=decide (p.data.length≤12)&&decide (p.NP.length≤24)&&p.data.all Kz&&(p.NP.foldlM L9 600).isSome
end Go.Ab
namespace Go.Ab
def Ct:List Str→Str→Option Nat
 |[],_=>none
 |x::l,s=>if x==s then some 0 else (Ct l s).map (·+1)
def E9 (o:Option Nat):Int:=match o with|some i=>i|none=>-1
def CA:List Str→Bool
 |[]=>false
 |x::l=>(!(x==[])&&l.contains x)||CA l
def Ea:List TE→List Str→Bool
 |[],[]=>true
 | .mk k n _::l,v::vs=>(k==4&&n==v)&&Ea l vs
 |_,_=>false
mutual
def Hi (ds:List (Str×Nat)) (vars:List Str):Bool→TE→Except Int Ty
 |whole,.mk k n l=>
  if k=4 then
   match Ct vars n with
   |none=>.error 3
   |some i=>(Cf ds vars l).map (Ty.mk k i)
                                 else if k=5 then
   match Ct (ds.map (·.1)) n with
   |none=>.error 3
   |some i=>
    if l.length≠(ds.getD i ([],0)).2 then .error 5
                             else if i+1=ds.length∧¬(whole=true∧Ea l vars=true) then .error 7
                             else (Cf ds vars l).map (Ty.mk k i)
                             else (Cf ds vars l).map (Ty.mk k 0)
def Cf (ds:List (Str×Nat)) (vars:List Str):List TE→Except Int (List Ty)
 |[]=>.ok []
 |t::l=>match Hi ds vars false t with
  | .error e=>.error e
  | .ok u=>(Cf ds vars l).map (u::·)
end
def Di (ds:List (Str×Nat)) (vars:List Str):List TE→Except Int (List Ty)
 |[]=>.ok []
 |t::l=>match Hi ds vars true t with
  | .error e=>.error e
  | .ok u=>(Di ds vars l).map (u::·)
def Ej (ds:List (Str×Nat)) (vars:List Str):List Str→List CE→Except Int (List Con)
 |_,[]=>.ok []
 |used,c::l=>
  if used.contains c.name then .error 4
   else match Di ds vars c.args with
  | .error e=>.error e
  | .ok ts=>(Ej ds vars (used++[c.name]) l).map (⟨c.name,ts⟩::·)
def NF (ds:List (Str×Nat)) (used:List Str) (d:DE):Except Int Dat:=
 if (ds.map (·.1)).contains d.name||CA d.vars then .error 4
               else (Ej (ds++[(d.name,d.vars.length)]) d.vars used d.cons).map (⟨d.name,d.vars.length,·⟩)
def Co (l:List DE):List (Str×Nat):=l.map fun d=>(d.name,d.vars.length)
def IU (l:List DE):List Str:=l.flatMap fun d=>d.cons.map (·.name)
def DD:List DE→List DE→Except (Int×Nat) (List Dat)
 |_,[]=>.ok []
 |done,d::l=>match NF (Co done) (IU done) d with
  | .error e=>.error (e,done.length)
  | .ok x=>(DD (done++[d]) l).map (x::·)
abbrev Dg:=Int×Int×Int
def ND (p:Pg):Except Dg (List Dat):=
 if EF p then (match DD [] p.data with| .error (e,i)=>.error (e,-1,i)| .ok l=>.ok l) else .error (1,-1,0)
def Ex.op:Ex→Int| .mk o _ _ _ _ _=>o
def Ex.num:Ex→Int| .mk _ _ u _ _ _=>u
def Ex.name:Ex→Str| .mk _ n _ _ _ _=>n
def Ex.names:Ex→List Str| .mk _ _ _ ns _ _=>ns
def Ex.kids:Ex→List Ex| .mk _ _ _ _ ks _=>ks
def Ex.alts:Ex→List Al| .mk _ _ _ _ _ al=>al
def Al.con:Al→Str| .mk c _ _=>c
def Al.vars:Al→List Str| .mk _ vs _=>vs
def Al.body:Al→Ex| .mk _ _ b=>b
def GJ (o:Int) (n:Str) (ns:List Str) (sc:List Str) (i:Nat):List Str:=
 if (o=7∨o=17)∧i=1 then (if n=[] then sc else sc++[n])
                          else if (o=8∧i=1)∨o=11 then sc++ns else sc
mutual
def Ba:Ex→List Str→List (Ex×List Str)
 | .mk o n u ns ks al,sc=>(.mk o n u ns ks al,sc)::(Bf o n ns sc 0 ks++Bw sc al)
def Bf (o:Int) (n:Str) (ns sc:List Str):Nat→List Ex→List (Ex×List Str)
 |_,[]=>[]
 |i,k::l=>Ba k (GJ o n ns sc i)++Bf o n ns sc (i+1) l
def Rp:Al→List Str→List (Ex×List Str)
 | .mk _ vs b,sc=>Ba b (sc++vs)
def Bw (sc:List Str):List Al→List (Ex×List Str)
 |[]=>[]
 |a::l=>Rp a sc++Bw sc l
end
def HK:List Con→Str→Option Nat
 |[],_=>none
 |c::l,s=>if c.name==s then some 0 else (HK l s).map (·+1)
def IX:List Dat→Str→Option (Nat×Nat)
 |[],_=>none
 |d::l,s=>match HK d.cons s with
  |some k=>some (0,k)
  |none=>(IX l s).map fun x=>(x.1+1,x.2)
def arity (dt:List Dat) (x:Nat×Nat):Nat:=match dt[x.1]? with|some d=>(match d.cons[x.2]? with|some c=>c.args.length|none=>0)|none=>0
def Fl (dt:List Dat) (d:Nat):Nat:=match dt[d]? with|some x=>x.cons.length|none=>0
def Cg (dt:List Dat):List Al→Except Int (List (Nat×Nat))
 |[]=>.ok []
 | .mk c vs _::l=>match IX dt c with
  |none=>.error 3
  |some x=>if vs.length≠arity dt x then .error 5 else if CA vs then .error 4 else (Cg dt l).map (x::·)
def Tp (dt:List Dat):List (Nat×Nat)→Bool
 |[]=>true
 |x::l=>(x::l).all (fun y=>y.1==x.1)&&decide ((x::l).Nodup)&&decide ((x::l).length=Fl dt x.1)
def KE (dt:List Dat) (l:List Al):Int:=match Cg dt l with| .error e=>e| .ok xs=>if Tp dt xs then 0 else 7
def CX (fs:List FE):List Str:=fs.map (·.name)
def E0 (fs:List FE) (dt:List Dat) (e:Ex) (sc:List Str):Int:=
 if e.op=4 then (if !sc.contains e.name&&(Ct (CX fs) e.name).isNone then 3 else 0)
                                               else if e.op=6 then
  match IX dt e.name with
  |none=>3
  |some x=>if e.kids.length≠arity dt x then 5 else 0
            else if e.op=8∨e.op=11 then (if CA e.names then 4 else 0)
            else if e.op=10 then KE dt e.alts
            else if e.op=12 then
  match e.kids.head? with
  |none=>0
  |some h=>if h.op=4&& !sc.contains h.name then
   (match Ct (CX fs) h.name with
   |none=>0
   |some f=>match fs[f]? with
    |some g=>if g.params.length+1≠e.kids.length then 5 else 0
    |none=>0) else 0
            else 0
def EL (vis:Ex→List Str→Int):List (Ex×List Str)→Option (Nat×Int)
 |[]=>none
 |x::l=>if vis x.1 x.2=0 then (EL vis l).map (fun y=>(y.1+1,y.2)) else some (0,vis x.1 x.2)
def Qe (fs:List FE) (dt:List Dat) (i:Nat) (f:FE):Option Dg:=
 if Ct (CX fs) f.name≠some i∨CA f.params=true then some (4,i,0)
                                                          else match EL (E0 fs dt) (Ba f.body f.params) with
  |some (k,c)=>some (c,i,k)
  |none=>none
def Fx (fs:List FE) (dt:List Dat):Nat→List FE→Dg
 |_,[]=>(0,0,0)
 |i,f::l=>match Qe fs dt i f with
  |some d=>d
  |none=>Fx fs dt (i+1) l
def NN (p:Pg):Dg:=match ND p with| .error d=>d| .ok dt=>Fx p.NP dt 0 p.NP
def I8 (fs:List FE) (g:Nat) (x:Ex×List Str):Bool:=x.1.op==4&&(!x.2.contains x.1.name&&Ct (CX fs) x.1.name==some g)
def P3 (fs:List FE) (f:FE):List Nat:=(An fs.length).filter fun g=>(Ba f.body f.params).any (I8 fs g)
def E5 (p:Pg):List (List Nat):=if (NN p).1=0 then p.NP.map (P3 p.NP) else []
end Go.Ab
namespace Go.Ab
open Go.Proofs
variable {args:List AV} {σ:AF} {K:AV→AF→Prop}
def T4:C:=(.seq (.reg [Qo 66 (.bin .lss (.t 65) (.t 64))] [1,3,23,24,25,46,47,48,63,64,65,66])
 (.seq (.cond (.t 66) .skip
 (.exit 4))
 (.seq (.block 5 (.seq (.reg [Qo 67 (.ix (.t 63) (.t 65) 3),
 Qo 68 (.ld (.t 67) (some 3)),
 Qo 9 (.al [(.d (.int .i64 0)),(.d (.str [])),.AZ] false),
 ⟨none,.st (.t 9) (.t 68) 3,none⟩] [1,3,9,23,24,25,46,47,48,63,64,65])
 (.seq (.reg [Qo 69 (.ldl (.t 9) (some 3)),
 Qo 70 (.call 27 [(.t 69),(.t 3)]),
 Qo 71 (.un .not (.t 70))] [1,3,23,24,25,46,47,48,63,64,65,71])
 (.cond (.t 71) (.seq (.reg [Qo 2 (.mv (.c (.d (.bool false))))] [2])
 .ret)
 .skip))))
 (.reg [Qo 72 (.bin .add (.t 65) (.c (.d (.int .i64 1)))),
 Qm 65 72] [1,3,23,24,25,46,47,48,63,64,65]))))
def T5:C:=(.seq (.reg [Qo 49 (.bin .lss (.t 48) (.t 47))] [1,3,23,24,25,46,47,48,49])
 (.seq (.cond (.t 49) .skip
 (.exit 2))
 (.seq (.block 3 (.seq (.reg [Qo 50 (.ix (.t 46) (.t 48) 2),
 Qo 51 (.ld (.t 50) (some 2)),
 Qo 7 (.al [(.d (.str [])),.AZ] false),
 ⟨none,.st (.t 7) (.t 51) 2,none⟩] [1,3,7,23,24,25,46,47,48])
 (.seq (.seq (.reg [Qo 52 (.fld (.t 7) 0),
 Qo 53 (.ldl (.t 52) none),
 Qo 54 (.Gn (.t 53)),
 Qo 55 (.bin .gtr (.t 54) (.c (.d (.int .i64 40)))),
 Qm 56 55,
 ⟨some 57,.fld (.t 7) 1,some (56,false)⟩,
 ⟨some 58,.ldl (.t 57) none,some (56,false)⟩,
 ⟨some 59,.len (.t 58),some (56,false)⟩,
 ⟨some 60,.bin .gtr (.t 59) (.c (.d (.int .i64 10))),some (56,false)⟩,
 Qo 61 (.pick (.t 56) (.c (.d (.bool true))) (.t 60))] [1,3,7,23,24,25,46,47,48,61])
 (.cond (.t 61) (.seq (.reg [Qo 2 (.mv (.c (.d (.bool false))))] [2])
 .ret)
 .skip))
 (.seq (.reg [Qo 62 (.fld (.t 7) 1),
 Qo 63 (.ldl (.t 62) none),
 Qo 64 (.len (.t 63)),
 Qo 65 (.mv (.c (.d (.int .i64 0))))] [1,3,23,24,25,46,47,48,63,64,65])
 (.block 4 (.loop T4))))))
 (.reg [Qo 73 (.bin .add (.t 48) (.c (.d (.int .i64 1)))),
 Qm 48 73] [1,3,23,24,25,46,47,48]))))
def T6:C:=(.seq (.reg [Qo 26 (.bin .lss (.t 25) (.t 24))] [1,3,23,24,25,26])
 (.seq (.cond (.t 26) .skip
 (.exit 0))
 (.seq (.block 1 (.seq (.reg [Qo 27 (.ix (.t 23) (.t 25) 3),
 Qo 28 (.ld (.t 27) (some 3)),
 Qo 5 (.al [(.d (.str [])),.AZ,.AZ] false),
 ⟨none,.st (.t 5) (.t 28) 3,none⟩] [1,3,5,23,24,25])
 (.seq (.seq (.reg [Qo 29 (.fld (.t 5) 0),
 Qo 30 (.ldl (.t 29) none),
 Qo 31 (.Gn (.t 30)),
 Qo 32 (.bin .gtr (.t 31) (.c (.d (.int .i64 40)))),
 Qm 33 32,
 ⟨some 34,.fld (.t 5) 1,some (33,false)⟩,
 ⟨some 35,.ldl (.t 34) none,some (33,false)⟩,
 ⟨some 36,.call 26 [(.t 35),(.c (.d (.int .i64 10)))],some (33,false)⟩,
 ⟨some 37,.un .not (.t 36),some (33,false)⟩,
 Qo 38 (.pick (.t 33) (.c (.d (.bool true))) (.t 37)),
 Qm 39 38,
 ⟨some 40,.fld (.t 5) 2,some (39,false)⟩,
 ⟨some 41,.ldl (.t 40) none,some (39,false)⟩,
 ⟨some 42,.len (.t 41),some (39,false)⟩,
 ⟨some 43,.bin .gtr (.t 42) (.c (.d (.int .i64 10))),some (39,false)⟩,
 Qo 44 (.pick (.t 39) (.c (.d (.bool true))) (.t 43))] [1,3,5,23,24,25,44])
 (.cond (.t 44) (.seq (.reg [Qo 2 (.mv (.c (.d (.bool false))))] [2])
 .ret)
 .skip))
 (.seq (.reg [Qo 45 (.fld (.t 5) 2),
 Qo 46 (.ldl (.t 45) none),
 Qo 47 (.len (.t 46)),
 Qo 48 (.mv (.c (.d (.int .i64 0))))] [1,3,23,24,25,46,47,48])
 (.block 2 (.loop T5))))))
 (.reg [Qo 74 (.bin .add (.t 25) (.c (.d (.int .i64 1)))),
 Qm 25 74] [1,3,23,24,25]))))
def T7:C:=(.seq (.reg [Qo 79 (.bin .lss (.t 78) (.t 77))] [3,76,77,78,79])
 (.seq (.cond (.t 79) .skip
 (.exit 6))
 (.seq (.block 7 (.seq (.reg [Qo 80 (.ix (.t 76) (.t 78) 8),
 Qo 81 (.ld (.t 80) (some 8)),
 Qo 11 (.al [(.d (.str [])),.AZ,(.d (.int .i64 0)),(.d (.str [])),(.d (.int .i64 0)),.AZ,.AZ,.AZ] false),
 ⟨none,.st (.t 11) (.t 81) 8,none⟩] [3,11,76,77,78])
 (.seq (.reg [Qo 82 (.fld (.t 11) 0),
 Qo 83 (.ldl (.t 82) none),
 Qo 84 (.Gn (.t 83)),
 Qo 85 (.bin .gtr (.t 84) (.c (.d (.int .i64 40)))),
 Qm 86 85,
 ⟨some 87,.fld (.t 11) 1,some (86,false)⟩,
 ⟨some 88,.ldl (.t 87) none,some (86,false)⟩,
 ⟨some 89,.call 26 [(.t 88),(.c (.d (.int .i64 10)))],some (86,false)⟩,
 ⟨some 90,.un .not (.t 89),some (86,false)⟩,
 Qo 91 (.pick (.t 86) (.c (.d (.bool true))) (.t 90)),
 Qm 92 91,
 ⟨some 93,.fld (.t 11) 2,some (92,false)⟩,
 ⟨some 94,.ldl (.t 93) (some 6),some (92,false)⟩,
 ⟨some 95,.call 28 [(.t 94),(.t 3)],some (92,false)⟩,
 ⟨some 96,.un .not (.t 95),some (92,false)⟩,
 Qo 97 (.pick (.t 92) (.c (.d (.bool true))) (.t 96))] [3,76,77,78,97])
 (.cond (.t 97) (.seq (.reg [Qo 2 (.mv (.c (.d (.bool false))))] [2])
 .ret)
 .skip))))
 (.reg [Qo 98 (.bin .add (.t 78) (.c (.d (.int .i64 1)))),
 Qm 78 98] [3,76,77,78]))))
def SK:C:=(.seq (.reg [Qo 1 (.box (.t 0) false),
 Qo 2 (.mv (.c (.d (.bool false))))] [1])
 (.seq (.seq (.reg [Qo 12 (.fld (.t 1) 0),
 Qo 13 (.ldl (.t 12) none),
 Qo 14 (.len (.t 13)),
 Qo 15 (.bin .gtr (.t 14) (.c (.d (.int .i64 14)))),
 Qm 16 15,
 ⟨some 17,.fld (.t 1) 1,some (16,false)⟩,
 ⟨some 18,.ldl (.t 17) none,some (16,false)⟩,
 ⟨some 19,.len (.t 18),some (16,false)⟩,
 ⟨some 20,.bin .gtr (.t 19) (.c (.d (.int .i64 26))),some (16,false)⟩,
 Qo 21 (.pick (.t 16) (.c (.d (.bool true))) (.t 20))] [1,21])
 (.cond (.t 21) (.seq (.reg [Qo 2 (.mv (.c (.d (.bool false))))] [2])
 .ret)
 .skip))
 (.seq (.reg [Qo 3 (.ex (.alt 3 [(.d (.int .i64 0))]) []),
 ⟨none,.st (.t 3) (.c (.d (.int .i64 200))) 1,none⟩] [1,3])
 (.seq (.seq (.reg [Qo 22 (.fld (.t 1) 0),
 Qo 23 (.ldl (.t 22) none),
 Qo 24 (.len (.t 23)),
 Qo 25 (.mv (.c (.d (.int .i64 0))))] [1,3,23,24,25])
 (.block 0 (.loop T6)))
 (.seq (.seq (.reg [Qo 75 (.fld (.t 1) 1),
 Qo 76 (.ldl (.t 75) none),
 Qo 77 (.len (.t 76)),
 Qo 78 (.mv (.c (.d (.int .i64 0))))] [3,76,77,78])
 (.block 6 (.loop T7)))
 (.seq (.reg [Qo 2 (.mv (.c (.d (.bool true))))] [2])
 .ret))))))
noncomputable def JK:Cx:=⟨Tryz.prog,8,Tryz.f8,99,[3,300013,300018,300023,300030,300035,300041,300046,300053,300058,300063,300069,300076,300083,300088,300094],[],[.t 2]⟩
theorem Cj:Good JK:=⟨Tryz.func8,by kernel_rfl⟩
theorem Wt:JK.rs=[.t 2]:=rfl
theorem X5 (hl:args.length≤99) (h:Run JK K [.code SK] (BN args) E σ):AL Tryz.prog 8 args σ K:=
 AW (cx:=JK) (code:=Tryz.f8.body.getD .skip) Cj (by kernel_rfl) Tryz.ntmps8 hl (AX JK _ (B2 SK) _ [] (by kernel_rfl)) h
def Sc:C:=(.seq (.seq (.reg [Qm 6 5,
 Qm 7 0,
 Qo 8 (.len (.t 7)),
 Qo 9 (.bin .lss (.t 6) (.t 8)),
 Qm 10 9,
 ⟨some 11,.mv (.t 5),some (10,true)⟩,
 ⟨some 12,.mv (.t 1),some (10,true)⟩,
 ⟨some 13,.bin .leq (.t 11) (.t 12),some (10,true)⟩,
 Qo 14 (.pick (.t 10) (.t 13) (.c (.d (.bool false))))] [0,1,5,14])
 (.cond (.t 14) .skip
 (.exit 0)))
 (.seq (.block 1 (.seq (.reg [Qm 17 0,
 Qm 18 5,
 Qo 19 (.ix (.t 17) (.t 18) 1),
 Qo 20 (.ld (.t 19) none),
 Qo 21 (.Gn (.t 20)),
 Qo 22 (.bin .gtr (.t 21) (.c (.d (.int .i64 40))))] [0,1,5,22])
 (.cond (.t 22) (.seq (.reg [Qo 4 (.mv (.c (.d (.bool false))))] [4])
 .ret)
 .skip)))
 (.reg [Qm 15 5,
 Qo 16 (.bin .add (.t 15) (.c (.d (.int .i64 1)))),
 Qm 5 16] [0,1,5])))
def Q0:C:=(.seq (.reg [Qo 4 (.mv (.c (.d (.bool false))))] [0,1])
 (.seq (.seq (.reg [Qo 5 (.mv (.c (.d (.int .i64 0))))] [0,1,5])
 (.block 0 (.loop Sc)))
 (.seq (.reg [Qm 23 0,
 Qo 24 (.len (.t 23)),
 Qm 25 1,
 Qo 26 (.bin .leq (.t 24) (.t 25)),
 Qm 4 26] [4])
 .ret)))
noncomputable def Hs:Cx:=⟨Tryz.prog,26,Tryz.f26,27,[],[],[.t 4]⟩
theorem Jq:Good Hs:=⟨Tryz.func26,by kernel_rfl⟩
theorem V6:Hs.rs=[.t 4]:=rfl
theorem W7 (hl:args.length≤27) (h:Run Hs K [.code Q0] (BN args) E σ):AL Tryz.prog 26 args σ K:=
 AW (cx:=Hs) (code:=Tryz.f26.body.getD .skip) Jq (by kernel_rfl) Tryz.ntmps26 hl (AX Hs _ (B2 Q0) _ [] (by kernel_rfl)) h
def Q1:C:=(.seq (.seq (.reg [Qm 21 5,
 Qo 22 (.fld (.t 2) 2),
 Qo 23 (.ldl (.t 22) none),
 Qo 24 (.len (.t 23)),
 Qo 25 (.bin .lss (.t 21) (.t 24))] [1,2,5,25])
 (.cond (.t 25) .skip
 (.exit 0)))
 (.seq (.block 1 (.seq (.reg [Qo 28 (.fld (.t 2) 2),
 Qo 29 (.ldl (.t 28) none),
 Qm 30 5,
 Qo 31 (.ix (.t 29) (.t 30) 3),
 Qo 32 (.ld (.t 31) (some 3)),
 Qm 33 1,
 Qo 34 (.call 27 [(.t 32),(.t 33)]),
 Qo 35 (.un .not (.t 34))] [1,2,5,35])
 (.cond (.t 35) (.seq (.reg [Qo 4 (.mv (.c (.d (.bool false))))] [4])
 .ret)
 .skip)))
 (.reg [Qm 26 5,
 Qo 27 (.bin .add (.t 26) (.c (.d (.int .i64 1)))),
 Qm 5 27] [1,2,5])))
def Ng:C:=(.seq (.reg [Qo 2 (.box (.t 0) false),
 Qo 4 (.mv (.c (.d (.bool false))))] [1,2])
 (.seq (.reg [Qm 6 1,
 Qo 7 (.nck (.t 6)),
 Qo 8 (.ld (.t 7) none),
 Qo 9 (.bin .sub (.t 8) (.c (.d (.int .i64 1)))),
 Qo 10 (.nck (.t 6)),
 ⟨none,.st (.t 10) (.t 9) 1,none⟩] [1,2])
 (.seq (.seq (.reg [Qm 11 1,
 Qo 12 (.nck (.t 11)),
 Qo 13 (.ld (.t 12) none),
 Qo 14 (.bin .lss (.t 13) (.c (.d (.int .i64 0)))),
 Qm 15 14,
 ⟨some 16,.fld (.t 2) 1,some (15,false)⟩,
 ⟨some 17,.ldl (.t 16) none,some (15,false)⟩,
 ⟨some 18,.Gn (.t 17),some (15,false)⟩,
 ⟨some 19,.bin .gtr (.t 18) (.c (.d (.int .i64 40))),some (15,false)⟩,
 Qo 20 (.pick (.t 15) (.c (.d (.bool true))) (.t 19))] [1,2,20])
 (.cond (.t 20) (.seq (.reg [Qo 4 (.mv (.c (.d (.bool false))))] [4])
 .ret)
 .skip))
 (.seq (.seq (.reg [Qo 5 (.mv (.c (.d (.int .i64 0))))] [1,2,5])
 (.block 0 (.loop Q1)))
 (.seq (.reg [Qo 4 (.mv (.c (.d (.bool true))))] [4])
 .ret)))))
noncomputable def GQ:Cx:=⟨Tryz.prog,27,Tryz.f27,36,[300017,300023,300029],[],[.t 4]⟩
theorem GA:Good GQ:=⟨Tryz.func27,by kernel_rfl⟩
theorem Ss:GQ.rs=[.t 4]:=rfl
theorem Tz (hl:args.length≤36) (h:Run GQ K [.code Ng] (BN args) E σ):AL Tryz.prog 27 args σ K:=
 AW (cx:=GQ) (code:=Tryz.f27.body.getD .skip) GA (by kernel_rfl) Tryz.ntmps27 hl (AX GQ _ (B2 Ng) _ [] (by kernel_rfl)) h
def T8:C:=(.seq (.seq (.reg [Qm 40 5,
 Qo 41 (.fld (.t 2) 4),
 Qo 42 (.ldl (.t 41) none),
 Qo 43 (.len (.t 42)),
 Qo 44 (.bin .lss (.t 40) (.t 43))] [1,2,5,44])
 (.cond (.t 44) .skip
 (.exit 0)))
 (.seq (.block 1 (.seq (.reg [Qo 47 (.fld (.t 2) 4),
 Qo 48 (.ldl (.t 47) none),
 Qm 49 5,
 Qo 50 (.ix (.t 48) (.t 49) 6),
 Qo 51 (.ld (.t 50) (some 6)),
 Qm 52 1,
 Qo 53 (.call 28 [(.t 51),(.t 52)]),
 Qo 54 (.un .not (.t 53))] [1,2,5,54])
 (.cond (.t 54) (.seq (.reg [Qo 4 (.mv (.c (.d (.bool false))))] [4])
 .ret)
 .skip)))
 (.reg [Qm 45 5,
 Qo 46 (.bin .add (.t 45) (.c (.d (.int .i64 1)))),
 Qm 5 46] [1,2,5])))
def T9:C:=(.seq (.seq (.reg [Qm 55 6,
 Qo 56 (.fld (.t 2) 5),
 Qo 57 (.ldl (.t 56) none),
 Qo 58 (.len (.t 57)),
 Qo 59 (.bin .lss (.t 55) (.t 58))] [1,2,6,59])
 (.cond (.t 59) .skip
 (.exit 2)))
 (.seq (.block 3 (.seq (.reg [Qo 62 (.fld (.t 2) 5),
 Qo 63 (.ldl (.t 62) none),
 Qm 64 6,
 Qo 65 (.ix (.t 63) (.t 64) 8),
 Qo 66 (.fld (.t 65) 0),
 Qo 67 (.ld (.t 66) none),
 Qo 68 (.Gn (.t 67)),
 Qo 69 (.bin .gtr (.t 68) (.c (.d (.int .i64 40)))),
 Qm 70 69,
 ⟨some 71,.fld (.t 2) 5,some (70,false)⟩,
 ⟨some 72,.ldl (.t 71) none,some (70,false)⟩,
 ⟨some 73,.mv (.t 6),some (70,false)⟩,
 ⟨some 74,.ix (.t 72) (.t 73) 8,some (70,false)⟩,
 ⟨some 75,.fld (.t 74) 1,some (70,false)⟩,
 ⟨some 76,.ld (.t 75) none,some (70,false)⟩,
 ⟨some 77,.call 26 [(.t 76),(.c (.d (.int .i64 10)))],some (70,false)⟩,
 ⟨some 78,.un .not (.t 77),some (70,false)⟩,
 Qo 79 (.pick (.t 70) (.c (.d (.bool true))) (.t 78)),
 Qm 80 79,
 ⟨some 81,.fld (.t 2) 5,some (80,false)⟩,
 ⟨some 82,.ldl (.t 81) none,some (80,false)⟩,
 ⟨some 83,.mv (.t 6),some (80,false)⟩,
 ⟨some 84,.ix (.t 82) (.t 83) 8,some (80,false)⟩,
 ⟨some 85,.fld (.t 84) 2,some (80,false)⟩,
 ⟨some 86,.ld (.t 85) (some 6),some (80,false)⟩,
 ⟨some 87,.mv (.t 1),some (80,false)⟩,
 ⟨some 88,.call 28 [(.t 86),(.t 87)],some (80,false)⟩,
 ⟨some 89,.un .not (.t 88),some (80,false)⟩,
 Qo 90 (.pick (.t 80) (.c (.d (.bool true))) (.t 89))] [1,2,6,90])
 (.cond (.t 90) (.seq (.reg [Qo 4 (.mv (.c (.d (.bool false))))] [4])
 .ret)
 .skip)))
 (.reg [Qm 60 6,
 Qo 61 (.bin .add (.t 60) (.c (.d (.int .i64 1)))),
 Qm 6 61] [1,2,6])))
def SL:C:=(.seq (.reg [Qo 2 (.box (.t 0) false),
 Qo 4 (.mv (.c (.d (.bool false))))] [1,2])
 (.seq (.reg [Qm 7 1,
 Qo 8 (.nck (.t 7)),
 Qo 9 (.ld (.t 8) none),
 Qo 10 (.bin .sub (.t 9) (.c (.d (.int .i64 1)))),
 Qo 11 (.nck (.t 7)),
 ⟨none,.st (.t 11) (.t 10) 1,none⟩] [1,2])
 (.seq (.seq (.reg [Qm 12 1,
 Qo 13 (.nck (.t 12)),
 Qo 14 (.ld (.t 13) none),
 Qo 15 (.bin .lss (.t 14) (.c (.d (.int .i64 0)))),
 Qm 16 15,
 ⟨some 17,.fld (.t 2) 1,some (16,false)⟩,
 ⟨some 18,.ldl (.t 17) none,some (16,false)⟩,
 ⟨some 19,.Gn (.t 18),some (16,false)⟩,
 ⟨some 20,.bin .gtr (.t 19) (.c (.d (.int .i64 40))),some (16,false)⟩,
 Qo 21 (.pick (.t 16) (.c (.d (.bool true))) (.t 20)),
 Qm 22 21,
 ⟨some 23,.fld (.t 2) 3,some (22,false)⟩,
 ⟨some 24,.ldl (.t 23) none,some (22,false)⟩,
 ⟨some 25,.call 26 [(.t 24),(.c (.d (.int .i64 10)))],some (22,false)⟩,
 ⟨some 26,.un .not (.t 25),some (22,false)⟩,
 Qo 27 (.pick (.t 22) (.c (.d (.bool true))) (.t 26)),
 Qm 28 27,
 ⟨some 29,.fld (.t 2) 4,some (28,false)⟩,
 ⟨some 30,.ldl (.t 29) none,some (28,false)⟩,
 ⟨some 31,.len (.t 30),some (28,false)⟩,
 ⟨some 32,.bin .gtr (.t 31) (.c (.d (.int .i64 10))),some (28,false)⟩,
 Qo 33 (.pick (.t 28) (.c (.d (.bool true))) (.t 32)),
 Qm 34 33,
 ⟨some 35,.fld (.t 2) 5,some (34,false)⟩,
 ⟨some 36,.ldl (.t 35) none,some (34,false)⟩,
 ⟨some 37,.len (.t 36),some (34,false)⟩,
 ⟨some 38,.bin .gtr (.t 37) (.c (.d (.int .i64 10))),some (34,false)⟩,
 Qo 39 (.pick (.t 34) (.c (.d (.bool true))) (.t 38))] [1,2,39])
 (.cond (.t 39) (.seq (.reg [Qo 4 (.mv (.c (.d (.bool false))))] [4])
 .ret)
 .skip))
 (.seq (.seq (.reg [Qo 5 (.mv (.c (.d (.int .i64 0))))] [1,2,5])
 (.block 0 (.loop T8)))
 (.seq (.seq (.reg [Qo 6 (.mv (.c (.d (.int .i64 0))))] [1,2,6])
 (.block 2 (.loop T9)))
 (.seq (.reg [Qo 4 (.mv (.c (.d (.bool true))))] [4])
 .ret))))))
noncomputable def JL:Cx:=⟨Tryz.prog,28,Tryz.f28,91,[300018,300024,300030,300036,300042,300048,300057,300063,300072,300082],[],[.t 4]⟩
theorem D7:Good JL:=⟨Tryz.func28,by kernel_rfl⟩
theorem Wu:JL.rs=[.t 4]:=rfl
theorem X6 (hl:args.length≤91) (h:Run JL K [.code SL] (BN args) E σ):AL Tryz.prog 28 args σ K:=
 AW (cx:=JL) (code:=Tryz.f28.body.getD .skip) D7 (by kernel_rfl) Tryz.ntmps28 hl (AX JL _ (B2 SL) _ [] (by kernel_rfl)) h
attribute [go_sem] Wt V6 Ss Wu
end Go.Ab
namespace Go.Ab
open Go.Proofs
def Rm (l:List Str):Bool:=l.all fun s=>decide (s.length≤40)
theorem Kj (n:Nat):decide ((40:Int) < (n:Int))=decide (40 < n):=decide_eq_decide.2 (by omega)
theorem Yq (n:Nat):decide ((10:Int) < (n:Int))=decide (10 < n):=decide_eq_decide.2 (by omega)
theorem iZ (n:Nat):decide ((n:Int)≤(10:Int))=decide (n≤10):=decide_eq_decide.2 (by omega)
theorem Ig (l:List Str) (σ:AF):AL Tryz.prog 26 [.d (.sl (l.map Aw)),.d (.int .i64 10)] σ (fun v σ'=>v= .d (.bool (decide (l.length≤10)&&Rm l))∧σ'=σ):=by
 refine W7 (by simp) ?_
 rw [BX]
 refine Run.slot 0 (fun hb0=>?_)
 simp only [EX,if_true,AV.FY,AA] at hb0
 (repeat' (first|refine Run.ct rfl ?_|((first|refine Run.reg mixed ?_|refine Run.AE ?_)<;>try simp -implicitDefEqProofs only [AA,go_sem])|fail))
 refine Run.BD ?_
 refine Run.BK ((fun (a0:AV) (a1:AV)=>fun (i:Nat)=>put 0 a0 (put 1 a1 (put 5 (.d (.int .i64 i)) U))) _ _) (fun _=>E) (fun _=>σ) (fun i=>i≤l.length∧i≤11∧Rm (l.take i)=true) (fun i=>l.length - i) ?_ 0 ⟨by simp,by simp,by simp [Rm]⟩
 rintro i ⟨hi,h11,hno⟩ ih
 by_cases hlt:i < l.length
 · obtain ⟨x,hx⟩:=BC hlt
   have he:=BA (enc:=Aw) hx
   simp only [Aw] at he
   have hw1:IntKind.i64.wrap ((i:Int)+1)=((i+1:Nat):Int):=by rw [BL (by omega) (by omega)];omega
   by_cases h10:i≤10
   · by_cases hs:40 < x.length
     · have hf:(decide (l.length≤10)&&Rm l)=false:=by
        rw [Bool.and_eq_false_iff];right
        rw [CU]
        intro h
        rw [Rm,Ah] at h
        have:=h x (AT hx)
        rw [decide_eq_true_eq] at this;omega
       (repeat' (first|refine Run.ct rfl ?_|((first|refine Run.reg mixed ?_|refine Run.AE ?_|refine Run.A1 Jq (AF.le_refl _) ?_)<;>try simp -implicitDefEqProofs only [Ac hlt,he,hw1,iZ,decide_eq_true h10,Kj,decide_eq_true hs,AA,go_sem])|fail))
       rw [hf]
     · (repeat' (first|refine Run.ct rfl ?_|((first|refine Run.reg mixed ?_|refine Run.AE ?_)<;>try simp -implicitDefEqProofs only [Ac hlt,he,hw1,iZ,decide_eq_true h10,Kj,decide_eq_false hs,AA,go_sem])|fail))
       exact ih (i+1) ⟨by omega,by omega,by
        rw [BH hx,Rm,List.all_append]
        rw [Rm] at hno
        rw [hno];simp;omega⟩ (by omega)
   · have hgt:decide (l.length≤10)=false:=decide_eq_false (by omega)
     (repeat' (first|refine Run.ct rfl ?_|((first|refine Run.reg mixed ?_|refine Run.AE ?_|refine Run.A1 Jq (AF.le_refl _) ?_)<;>try simp -implicitDefEqProofs only [Ac hlt,he,hw1,iZ,decide_eq_false h10,AA,hgt,go_sem])|fail))
     try rw [B5]
 · have hile:i=l.length:=by omega
   subst hile
   rw [AK (by omega)] at hno
   (repeat' (first|refine Run.ct rfl ?_|((first|refine Run.reg mixed ?_|refine Run.AE ?_|refine Run.A1 Jq (AF.le_refl _) ?_)<;>try simp -implicitDefEqProofs only [Bi hlt,iZ,AA,go_sem])|fail))
   rw [hno,As]
mutual
def TE.sm:TE→Prop
 | .mk _ n l=>n.length≤40∧TE.sms l
def TE.sms:List TE→Prop
 |[]=>True
 |t::l=>t.sm∧TE.sms l
end
def cU (l:List Str):Prop:=l.length≤10∧∀s∈l,s.length≤40
mutual
def Ex.sm:Ex→Prop
 | .mk _ n _ ns ks al=>n.length≤40∧cU ns∧Ex.sms ks∧Al.sms al
def Ex.sms:List Ex→Prop
 |[]=>True
 |t::l=>t.sm∧Ex.sms l
def Al.sm:Al→Prop
 | .mk c vs b=>c.length≤40∧cU vs∧b.sm
def Al.sms:List Al→Prop
 |[]=>True
 |t::l=>t.sm∧Al.sms l
end
theorem TE.LH:∀ {l:List TE},TE.sms l↔∀t∈l,t.sm
 |[]=>by simp [TE.sms]
 |t::l=>by simp [TE.sms,TE.LH (l:=l)]
theorem Ex.LH:∀ {l:List Ex},Ex.sms l↔∀t∈l,t.sm
 |[]=>by simp [Ex.sms]
 |t::l=>by simp [Ex.sms,Ex.LH (l:=l)]
theorem Al.LH:∀ {l:List Al},Al.sms l↔∀t∈l,t.sm
 |[]=>by simp [Al.sms]
 |t::l=>by simp [Al.sms,Al.LH (l:=l)]
theorem Wl {l:List Str} (h:(decide (l.length≤10)&&Rm l)=true):cU l:=by
 simp only [Rm,AP,decide_eq_true_eq,Ah] at h;exact h
theorem Ee {α:Type} {p:α→Prop} {l:List α} {i:Nat} {x:α} (h:∀t∈l.take i,p t) (hx:l[i]?=some x) (hp:p x):∀t∈l.take (i+1),p t:=by
 intro t ht
 rw [BH hx,A7,Bd] at ht
 rcases ht with ht|rfl
 · exact h t ht
 · exact hp
theorem TE.GO {l:List TE} {i:Nat} {x:TE} (h:l[i]?=some x):TE.A2 (l.take (i+1))=TE.A2 (l.take i)+x.size:=by
 rw [BH h,TE.Bz];simp [TE.A2]
theorem Ex.GO {l:List Ex} {i:Nat} {x:Ex} (h:l[i]?=some x):Ex.A2 (l.take (i+1))=Ex.A2 (l.take i)+x.size:=by
 rw [BH h,Ex.Bz];simp [Ex.A2]
theorem Al.GO {l:List Al} {i:Nat} {x:Al} (h:l[i]?=some x):Al.A2 (l.take (i+1))=Al.A2 (l.take i)+x.size:=by
 rw [BH h,Al.Bz];simp [Al.A2]
def hX (lQ:Prop) (size q:Nat) (b:Bool) (z:Int):Prop:=b=true→lQ∧∃q':Nat,z=q'∧size+q'=q
theorem UO {q:Nat}:decide ((q:Int) < 0)=false:=decide_eq_false (by omega)
set_option maxHeartbeats 4000000 in
theorem Sn (j:Nat):∀(N:Nat) (t:TE) (q:Nat) (σ:AF),t.size≤N→q≤1000→σ.blk j=some [.d (.int .i64 q)]→
 AL Tryz.prog 27 [teA t,.gp j 0] σ (fun v σ'=>∃b z,(v= .d (.bool b)∧σ'=σ.AO j [.d (.int .i64 z)])∧hX t.sm t.size q b z):=by
 intro N
 induction N with
 |zero=>intro t q σ h;have:=TE.size_pos t;omega
 |succ N ihN=>
 rintro ⟨k,n,l⟩ q σ hN hq hj
 simp only [TE.size] at hN
 refine Tz (by simp) ?_
 rw [BX,teA,TE.A4]
 simp only [AG,AQ]
 generalize hQ:(fun (v:AV) (σ':AF)=>∃b z,(v= .d (.bool b)∧σ'=σ.AO j [.d (.int .i64 z)])∧hX (TE.mk k n l).sm (TE.mk k n l).size q b z)=Q
 have hno:∀z,Q (.d (.bool false)) (σ.AO j [.d (.int .i64 z)]):=fun z=>by rw [← hQ];exact ⟨false,z,⟨rfl,rfl⟩,fun h=>by cases h⟩
 have hyes:∀q':Nat,n.length≤40→(∀t∈l,t.sm)→1+TE.A2 l+q'=q→Q (.d (.bool true)) (σ.AO j [.d (.int .i64 q')]):=fun q' h1 h2 h3=>by
  rw [← hQ];exact ⟨true,q',⟨rfl,rfl⟩,fun _=>⟨by rw [TE.sm,TE.LH];exact ⟨h1,h2⟩,q',rfl,by rw [TE.size];exact h3⟩⟩
 clear hQ
 rcases D5 q with rfl|hq0
 · have hm1:IntKind.i64.wrap (((0:Nat):Int) - 1)=-1:=by decide
   have hn1:decide ((-1:Int) < 0)=true:=by decide
   (repeat' (first|refine Run.ct rfl ?_|((first|refine Run.reg mixed ?_|refine Run.AE ?_|(refine Run.A1 GA (AF.le_refl _) ?_))<;>try simp -implicitDefEqProofs only [hj,hm1,hn1,AM,DJ,Cq,Ao,Ay,go_sem])|fail))
   exact hno _
 obtain ⟨q,rfl⟩:∃m,q=m+1:=⟨q - 1,by omega⟩
 have hm1:IntKind.i64.wrap (((q+1:Nat):Int) - 1)=(q:Int):=by rw [BL (by omega) (by omega)];omega
 by_cases h40:40 < n.length
 · (repeat' (first|refine Run.ct rfl ?_|((first|refine Run.reg mixed ?_|refine Run.AE ?_|(refine Run.A1 GA (AF.le_refl _) ?_))<;>try simp -implicitDefEqProofs only [hj,hm1,UO,Kj,decide_eq_true h40,AM,DJ,Cq,Ao,Ay,go_sem])|fail))
   exact hno _
 (repeat' (first|refine Run.ct rfl ?_|((first|refine Run.reg mixed ?_|refine Run.AE ?_)<;>try simp -implicitDefEqProofs only [hj,hm1,UO,Kj,decide_eq_false h40,AM,DJ,Cq,Ao,Ay,go_sem])|fail))
 refine Run.BD ?_
 refine Run.BK ((fun (a1:AV) (a2:AV)=>fun (y:Nat×Nat)=>put 1 a1 (put 2 a2 (put 5 (.d (.int .i64 y.1)) U))) _ _) (fun _=>Az 2 [.d (.int .i64 k),.d (.str n),.d (.sl (l.map TE.enc))] E) (fun y=>σ.AO j [.d (.int .i64 y.2)])
  (fun y=>y.1≤l.length∧(∀t∈l.take y.1,t.sm)∧TE.A2 (l.take y.1)+y.2=q) (fun y=>l.length - y.1) ?_ (0,q) ⟨by simp,by simp,by simp [TE.A2]⟩
 rintro ⟨i,q'⟩ ⟨hi,hsm,hsz⟩ ih
 simp only at hi hsm hsz
 have hil:=TE.C8 (l.take i)
 rw [Ai,CO hi] at hil
 by_cases hlt:i < l.length
 · obtain ⟨x,hx⟩:=BC hlt
   have he:=BA (enc:=TE.enc) hx
   have hw1:=A5 (show i+1≤9000000000000000000 by omega)
   have hxs:=TE.J0 (AT hx)
   have hc:=ihN x q' (σ.AO j [.d (.int .i64 q')]) (by omega) (by omega) (by rw [AM,if_pos rfl])
   have hst:=TE.GO hx
   have hms:=fun hp=>Ee (p:=TE.sm) hsm hx hp
   obtain ⟨xk,xn,xl⟩:=x
   simp only [teA,TE.A4,AG,AQ] at he hc
   (repeat' (first|refine Run.ct rfl ?_|((first|refine Run.reg mixed ?_|refine Run.AE ?_|(refine AI.mk rfl hc ?_;rintro v σ' ⟨b,z,⟨rfl,rfl⟩,hres⟩;cases b<;>rw [FU])|(refine Run.A1 GA (AF.le_refl _) ?_))<;>try simp -implicitDefEqProofs only [Ac hlt,he,hw1,AA,go_sem])|fail))
   · exact hno z
   · obtain ⟨g1,q2,rfl,g2⟩:=hres rfl
     exact ih (i+1,q2) ⟨by simp only;omega,hms g1,by simp only;omega⟩ (by simp only;omega)
 · rw [AK (by omega)] at hsm hsz
   (repeat' (first|refine Run.ct rfl ?_|((first|refine Run.reg mixed ?_|refine Run.AE ?_|(refine Run.A1 GA (AF.le_refl _) ?_))<;>try simp -implicitDefEqProofs only [Bi hlt,AA,go_sem])|fail))
   exact hyes q' (by omega) hsm (by omega)
theorem Wh (j:Nat):∀(N:Nat) (e:Ex) (q:Nat) (σ:AF),e.size≤N→q≤1000→σ.blk j=some [.d (.int .i64 q)]→
 AL Tryz.prog 28 [exA e,.gp j 0] σ (fun v σ'=>∃b z,(v= .d (.bool b)∧σ'=σ.AO j [.d (.int .i64 z)])∧hX e.sm e.size q b z):=by
 intro N
 induction N with
 |zero=>intro t q σ h;have:=Ex.size_pos t;omega
 |succ N ihN=>
 rintro ⟨o,n,u,ns,ks,al⟩ q σ hN hq hj
 simp only [Ex.size] at hN
 refine X6 (by simp) ?_
 rw [BX,exA,Ex.A4]
 simp only [AG,AQ]
 generalize hQ:(fun (v:AV) (σ':AF)=>∃b z,(v= .d (.bool b)∧σ'=σ.AO j [.d (.int .i64 z)])∧hX (Ex.mk o n u ns ks al).sm (Ex.mk o n u ns ks al).size q b z)=Q
 have hno:∀z,Q (.d (.bool false)) (σ.AO j [.d (.int .i64 z)]):=fun z=>by rw [← hQ];exact ⟨false,z,⟨rfl,rfl⟩,fun h=>by cases h⟩
 have hyes:∀q':Nat,n.length≤40→cU ns→(∀t∈ks,t.sm)→(∀t∈al,t.sm)→1+Ex.A2 ks+Al.A2 al+q'=q→Q (.d (.bool true)) (σ.AO j [.d (.int .i64 q')]):=fun q' h1 h2 h3 h4 h5=>by
  rw [← hQ];exact ⟨true,q',⟨rfl,rfl⟩,fun _=>⟨by rw [Ex.sm,Ex.LH,Al.LH];exact ⟨h1,h2,h3,h4⟩,q',rfl,by rw [Ex.size];exact h5⟩⟩
 clear hQ
 have hnm:=fun σ=>Ig ns σ
 rcases D5 q with rfl|hq0
 · have hm1:IntKind.i64.wrap (((0:Nat):Int) - 1)=-1:=by decide
   have hn1:decide ((-1:Int) < 0)=true:=by decide
   (repeat' (first|refine Run.ct rfl ?_|((first|refine Run.reg mixed ?_|refine Run.AE ?_|(refine Run.A1 D7 (AF.le_refl _) ?_))<;>try simp -implicitDefEqProofs only [hj,hm1,hn1,AM,DJ,Cq,Ao,Ay,go_sem])|fail))
   exact hno _
 obtain ⟨q,rfl⟩:∃m,q=m+1:=⟨q - 1,by omega⟩
 have hm1:IntKind.i64.wrap (((q+1:Nat):Int) - 1)=(q:Int):=by rw [BL (by omega) (by omega)];omega
 by_cases h40:40 < n.length
 · (repeat' (first|refine Run.ct rfl ?_|((first|refine Run.reg mixed ?_|refine Run.AE ?_|(refine Run.A1 D7 (AF.le_refl _) ?_))<;>try simp -implicitDefEqProofs only [hj,hm1,UO,Kj,decide_eq_true h40,AM,DJ,Cq,Ao,Ay,go_sem])|fail))
   exact hno _
 cases hnk:(decide (ns.length≤10)&&Rm ns) with
 |false=>
  rw [hnk] at hnm
  (repeat' (first|refine Run.ct rfl ?_|((first|refine Run.reg mixed ?_|refine Run.AE ?_|(refine Run.A1 D7 (AF.le_refl _) ?_)|refine AI.det (hnm _) ?_)<;>try simp -implicitDefEqProofs only [hj,hm1,UO,Kj,decide_eq_false h40,AM,DJ,Cq,Ao,Ay,go_sem])|fail))
  exact hno _
 |true=>
 rw [hnk] at hnm
 by_cases hk10:10 < ks.length
 · (repeat' (first|refine Run.ct rfl ?_|((first|refine Run.reg mixed ?_|refine Run.AE ?_|(refine Run.A1 D7 (AF.le_refl _) ?_)|refine AI.det (hnm _) ?_)<;>try simp -implicitDefEqProofs only [hj,hm1,UO,Kj,decide_eq_false h40,Yq,AA,decide_eq_true hk10,AM,DJ,Cq,Ao,Ay,go_sem])|fail))
   exact hno _
 by_cases ha10:10 < al.length
 · (repeat' (first|refine Run.ct rfl ?_|((first|refine Run.reg mixed ?_|refine Run.AE ?_|(refine Run.A1 D7 (AF.le_refl _) ?_)|refine AI.det (hnm _) ?_)<;>try simp -implicitDefEqProofs only [hj,hm1,UO,Kj,decide_eq_false h40,Yq,AA,decide_eq_false hk10,decide_eq_true ha10,AM,DJ,Cq,Ao,Ay,go_sem])|fail))
   exact hno _
 (repeat' (first|refine Run.ct rfl ?_|((first|refine Run.reg mixed ?_|refine Run.AE ?_|refine AI.det (hnm _) ?_)<;>try simp -implicitDefEqProofs only [hj,hm1,UO,Kj,decide_eq_false h40,Yq,AA,decide_eq_false hk10,decide_eq_false ha10,AM,DJ,Cq,Ao,Ay,go_sem])|fail))
 refine Run.BD ?_
 refine Run.BK ((fun (a1:AV) (a2:AV)=>fun (y:Nat×Nat)=>put 1 a1 (put 2 a2 (put 5 (.d (.int .i64 y.1)) U))) _ _) (fun _=>Az 2 [.d (.int .i64 o),.d (.str n),.d (.int .i64 u),.d (.sl (ns.map Aw)),.d (.sl (ks.map Ex.enc)),.d (.sl (al.map Al.enc))] E) (fun y=>σ.AO j [.d (.int .i64 y.2)])
  (fun y=>y.1≤ks.length∧(∀t∈ks.take y.1,t.sm)∧Ex.A2 (ks.take y.1)+y.2=q) (fun y=>ks.length - y.1) ?_ (0,q) ⟨by simp,by simp,by simp [Ex.A2]⟩
 rintro ⟨i,q'⟩ ⟨hi,hsm,hsz⟩ ih
 simp only at hi hsm hsz
 by_cases hlt:i < ks.length
 · obtain ⟨x,hx⟩:=BC hlt
   have he:=BA (enc:=Ex.enc) hx
   have hw1:=A5 (show i+1≤9000000000000000000 by omega)
   have hxs:=Ex.J0 (AT hx)
   have hc:=ihN x q' (σ.AO j [.d (.int .i64 q')]) (by omega) (by omega) (by rw [AM,if_pos rfl])
   have hst:=Ex.GO hx
   have hms:=fun hp=>Ee (p:=Ex.sm) hsm hx hp
   obtain ⟨xo,xn,xu,xns,xks,xal⟩:=x
   simp only [exA,Ex.A4,AG,AQ] at he hc
   (repeat' (first|refine Run.ct rfl ?_|((first|refine Run.reg mixed ?_|refine Run.AE ?_|(refine AI.mk rfl hc ?_;rintro v σ' ⟨b,z,⟨rfl,rfl⟩,hres⟩;cases b<;>rw [FU])|(refine Run.A1 D7 (AF.le_refl _) ?_))<;>try simp -implicitDefEqProofs only [Ac hlt,he,hw1,AA,go_sem])|fail))
   · exact hno z
   · obtain ⟨g1,q2,rfl,g2⟩:=hres rfl
     exact ih (i+1,q2) ⟨by simp only;omega,hms g1,by simp only;omega⟩ (by simp only;omega)
 · rw [AK (by omega)] at hsm hsz
   clear ih
   (repeat' (first|refine Run.ct rfl ?_|((first|refine Run.reg mixed ?_|refine Run.AE ?_)<;>try simp -implicitDefEqProofs only [Bi hlt,AA,go_sem])|fail))
   refine Run.BD ?_
   refine Run.BK ((fun (a1:AV) (a2:AV)=>fun (y:Nat×Nat)=>put 1 a1 (put 2 a2 (put 6 (.d (.int .i64 y.1)) U))) _ _) (fun _=>Az 2 [.d (.int .i64 o),.d (.str n),.d (.int .i64 u),.d (.sl (ns.map Aw)),.d (.sl (ks.map Ex.enc)),.d (.sl (al.map Al.enc))] E) (fun y=>σ.AO j [.d (.int .i64 y.2)])
    (fun y=>y.1≤al.length∧(∀t∈al.take y.1,t.sm)∧Al.A2 (al.take y.1)+y.2=q') (fun y=>al.length - y.1) ?_ (0,q') ⟨by simp,by simp,by simp [Al.A2]⟩
   rintro ⟨i2,q2⟩ ⟨hi2,hsm2,hsz2⟩ ih
   simp only at hi2 hsm2 hsz2
   by_cases hlt:i2 < al.length
   · obtain ⟨x,hx⟩:=BC hlt
     have he:=BA (enc:=Al.enc) hx
     have hw1:=A5 (show i2+1≤9000000000000000000 by omega)
     have hxs:=Al.J0 (AT hx)
     have hst:=Al.GO hx
     have hms:=fun hp=>Ee (p:=Al.sm) hsm2 hx hp
     obtain ⟨xc,xvs,xb⟩:=x
     rw [Al.size] at hxs hst
     have hc:=ihN xb q2 (σ.AO j [.d (.int .i64 q2)]) (by omega) (by omega) (by rw [AM,if_pos rfl])
     have hnv:=fun σ=>Ig xvs σ
     obtain ⟨xo,xn,xu,xns,xks,xal⟩:=xb
     simp only [exA,Al.A4,Ex.A4,AG,AQ] at he hc
     by_cases hc40:40 < xc.length
     · (repeat' (first|refine Run.ct rfl ?_|((first|refine Run.reg mixed ?_|refine Run.AE ?_|(refine Run.A1 D7 (AF.le_refl _) ?_))<;>try simp -implicitDefEqProofs only [Ac hlt,he,Kj,decide_eq_true hc40,AA,go_sem])|fail))
       exact hno _
     cases hvk:(decide (xvs.length≤10)&&Rm xvs) with
     |false=>
      rw [hvk] at hnv
      (repeat' (first|refine Run.ct rfl ?_|((first|refine Run.reg mixed ?_|refine Run.AE ?_|(refine Run.A1 D7 (AF.le_refl _) ?_)|refine AI.det (hnv _) ?_)<;>try simp -implicitDefEqProofs only [Ac hlt,he,Kj,decide_eq_false hc40,AA,go_sem])|fail))
      exact hno _
     |true=>
     rw [hvk] at hnv
     (repeat' (first|refine Run.ct rfl ?_|((first|refine Run.reg mixed ?_|refine Run.AE ?_|(refine AI.mk rfl hc ?_;rintro v σ' ⟨b,z,⟨rfl,rfl⟩,hres⟩;cases b<;>rw [FU])|(refine Run.A1 D7 (AF.le_refl _) ?_)|refine AI.det (hnv _) ?_)<;>try simp -implicitDefEqProofs only [Ac hlt,he,hw1,Kj,decide_eq_false hc40,AA,go_sem])|fail))
     · exact hno z
     · obtain ⟨g1,q3,rfl,g2⟩:=hres rfl
       exact ih (i2+1,q3) ⟨by simp only;omega,hms (by rw [Al.sm];exact ⟨by omega,Wl hvk,g1⟩),by simp only;omega⟩ (by simp only;omega)
   · rw [AK (by omega)] at hsm2 hsz2
     (repeat' (first|refine Run.ct rfl ?_|((first|refine Run.reg mixed ?_|refine Run.AE ?_|(refine Run.A1 D7 (AF.le_refl _) ?_))<;>try simp -implicitDefEqProofs only [Bi hlt,AA,go_sem])|fail))
     exact hyes q2 (by omega) (Wl hnk) hsm hsm2 (by omega)
end Go.Ab
