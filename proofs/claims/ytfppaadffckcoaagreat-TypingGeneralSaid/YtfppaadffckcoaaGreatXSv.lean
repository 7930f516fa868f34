/- Part Sv. Conditions: none. -/
import Derived.Test.YtfppaadffckcoaaGreatXAb12
set_option linter.unusedSimpArgs false
set_option linter.unusedVariables false
set_option maxRecDepth 100000
set_option maxHeartbeats 40000000
open Go.Proofs.Tryz renaming prog→Tzp
open List renaming getElem?_map→Ao,length_cons→A0,take_append_drop→Ac,range→Au,findIdx?_eq_some_iff_getElem→AFF,getElem?_eq_some_iff→AF,mem_append→AY,mem_singleton→A3,length_map→AA,mem_of_getElem?→AD,take_of_length_le→AO,any_eq_not_all_not→QD,map_cons→AG,map_nil→AN,length_nil→By,mem_cons_of_mem→AU,mem_cons_self→AW,replicate→AE,filter_append→P1,append_nil→BX,append_assoc→B4,nil_append→Aj,cons_append→AX,contains_iff_mem→Ai,length_append→A1,length_take→Bi,mem_cons→As,set_eq_take_append_cons_drop→AFG,replicate_succ→BV,flatten_cons→BK,nodup_cons→XE,ext_getElem?→Ev,getElem?_eq_none→BY,map_congr_left→FF,getElem?_set→BZ,all_eq_true→Aq,nodup_append→Gc,mem_map→Ck,mem_range→Bz
open Bool renaming eq_iff_iff→Ax,false_or→ED,and_eq_true→AQ,not_eq_true'→Bl,or_eq_false_iff→IH,and_false→CG,not_false→JI,and_true→Be,true_and→BW,not_not→NJ,and_self→L1,or_eq_true→DY,eq_false_iff→C9
open Int renaming reduceBEq→Aa,reduceToNat→PZ
open Option renaming bind_eq_bind→AP,bind_eq_some_iff→AB,bind_some→HT,map_eq_some_iff→AL,map_some→Ad
open Nat renaming le_refl→AR,zero_add→BU,reduceEqDiff→HS,min_eq_left→Gg,mul_one→A2
open Prod.mk renaming injEq→B9
open Option.some renaming injEq→AK
open Except.ok renaming injEq→EH
open Except renaming map→CW
namespace Go.Ab
def Jj (k:Int) (s:Str):Bool:=
 (I5 s).2.2==0&&((I5 s).1.length==2&&(match (I5 s).1 with|[]=>false|a::_=>a.kind==k&&a.text==s))
def FV (s:Str):Bool:=Jj 1 s
def HC (s:Str):Bool:=Jj 2 s
def VN (s:Str):Bool:=s==[]||FV s
def aC (k:Int) (n:Str) (len:Nat):Bool:=
 if k=1\/k=2\/k=3 then n==[]&&decide (len=0)
                                     else if k=4 then FV n&&decide (len=0)
                                     else if k=5 then HC n&&decide (len<=6)
                                     else if k=6 then n==[]&&decide (2<=len)&&decide (len<=6)
                                     else if k=7\/k=8 then n==[]&&decide (len=1)
                                     else if k=9 then n==[]&&decide (1<=len)&&decide (len<=7)
                                     else false
def DL:Nat->TE->Bool
 |0,_=>false
 |d+1,.mk k n l=>aC k n l.length&&l.all (DL d)
def eK (c:CE):Bool:=HC c.name&&decide (c.args.length<=6)&&c.args.all (DL 40)
def Na (d:DE):Bool:=HC d.name&&decide (d.vars.length<=6)&&d.vars.all FV&&decide (1<=d.cons.length)&&decide (d.cons.length<=8)&&d.cons.all eK
def ZI:Al->Bool
 | .mk c vs _=>HC c&&decide (vs.length<=6)&&vs.all VN
def nmB (o:Int) (n:Str):Bool:=
 if o=4 then FV n else if o=6 then HC n else if o=7\/o=17 then VN n else n==[]
def nuB (o:Int) (u:Int):Bool:=
 if o=2 then decide (0<=u)&&decide (u<=1) else if o=3 then decide (-1000000<=u)&&decide (u<=1000000) else if o=13 then decide (1<=u)&&decide (u<=8)
                                                                                                                                          else if o=14 then decide (1<=u)&&decide (u<=7) else if o=15 then decide (-1000<=u)&&decide (u<=1000) else u==0
def nsB (o:Int) (ns:List Str):Bool:=
 if o=8 then decide (2<=ns.length)&&decide (ns.length<=6)&&ns.all VN else if o=11 then decide (ns.length<=6)&&ns.all FV else decide (ns.length=0)
def asB (o:Int) (al:List Al):Bool:=
 if o=10 then decide (1<=al.length)&&al.all ZI else decide (al.length=0)
def Xz (u:Int):Nat:=if u=1\/u=2\/u=7 then 2 else if u=3 then 3 else if u=4\/u=5\/u=6 then 1 else 0
def nkB (o u:Int) (nk:Nat):Bool:=
 if o=1\/o=2\/o=3\/o=4\/o=15 then decide (nk=0)
                                       else if o=5 then decide (2<=nk)&&decide (nk<=6)
                                       else if o=6 then decide (nk<=6)
                                       else if o=7\/o=8\/o=13\/o=17 then decide (nk=2)
                                       else if o=9 then decide (nk=3)
                                       else if o=10\/o=11\/o=16 then decide (nk=1)
                                       else if o=12 then decide (1<=nk)&&decide (nk<=7)
                                       else if o=14 then decide (nk=Xz u)
                                       else false
def QX (o:Int) (n:Str) (u:Int) (ns:List Str) (nk:Nat) (al:List Al):Bool:=
 nmB o n&&nuB o u&&nsB o ns&&asB o al&&nkB o u nk
def vEx:Nat->Nat->Ex->Option Nat
 |0,_,_=>none
 |d+1,q,.mk o n u ns ks al=>
  match q with
  |0=>none
  |q+1=>if QX o n u ns ks.length al then (ks.foldlM (fun q e=>vEx d q e) q).bind fun q=>al.foldlM (fun q a=>match a with| .mk _ _ b=>vEx d q b) q else none
def AGW (f:FE):Bool:=FV f.name&&decide (f.params.length<=6)&&f.params.all FV
def Tz (q:Nat) (f:FE):Option Nat:=if AGW f then vEx 40 q f.body else none
def Es (p:Pg):Bool:=decide (p.data.length<=12)&&decide (p.G7.length<=24)&&p.data.all Na&&(p.G7.foldlM Tz 600).isSome
end Go.Ab
namespace Go.Ab
structure Con where
 name:List UInt8
 args:List Ty
structure Dat where
 name:List UInt8
 vars:Int
 cons:List Con
def Con.enc (c:Con):List DV:=[.str c.name,.sl (Ty.IM c.args)]
def Dat.enc (d:Dat):List DV:=[.str d.name,.int .i64 d.vars,.sl (d.cons.map Con.enc)]
def dsA (l:List Dat):AV:= .d (.sl (l.map Dat.enc))
theorem Wf {l:List Con} {i:Nat} {x:Con} (h:l[i]?=some x):(l.map Con.enc)[i]?=some [.str x.name,.sl (Ty.IM x.args)]:=by
 rw [Ao,h];rfl
theorem Wj {l:List Dat} {i:Nat} {x:Dat} (h:l[i]?=some x):(l.map Dat.enc)[i]?=some [.str x.name,.int .i64 x.vars,.sl (x.cons.map Con.enc)]:=by
 rw [Ao,h];rfl
theorem rU:∀t:Ty,1<=t.size
 | .mk _ _ _=>by simp [Ty.size]
theorem AAA:∀l:List Ty,l.length<=Ty.AT l
 |[]=>by simp [Ty.AT]
 |t::l=>by have:=AAA l;have:=rU t;simp only [A0,Ty.AT];omega
theorem H2 (l:List Ty) (i:Nat):Ty.AT (l.take i)<=Ty.AT l:=by
 have:=CT (l.take i) (l.drop i);rw [Ac] at this;omega
theorem PW {a:Nat} (h:a<=9000000000000000000):IntKind.i64.wrap (((a+1:Nat):Int) - 1)=(a:Int):=by
 rw [BP (by omega) (by omega)];omega
theorem Run.AKH {cx:Cx} {KK:AV->AH->Prop} {k:List CI} {F:Fm} {L:Lm} {σ σ':AH} (e:σ'=σ) (h:Run cx KK k F L σ'):Run cx KK k F L σ:=e ▸ h
theorem Run.yV {cx:Cx} {KK:AV->AH->Prop} {k:List CI} {c:C} {F:Fm} {L:Lm} {σ:AH} {α:Type} (ks:List Nat) (Fs:α->Fm) (Ls:Lm) (σs:AH) (I:α->Prop) (h2:∀a,I a->Run cx KK k (Fs a) Ls σs)
 (h1:(∀(F':Fm) (L':Lm) (a:α),Ia ks F'=Fs a->He ks L'=Ls->I a->Run cx KK k F' L' σs)->Run cx KK (.code c::k) F L σ):Run cx KK (.code c::k) F L σ:=
 h1 fun F' L' a hF hL hI=>Run.NC ks (by rw [hF,hL];exact h2 a hI)
theorem wG {σ:AH} {i:Nat} {z:List AV} {x:Nat×TypeId} (h:σ.blk i=none/\σ.bt i=none):σ.le ((σ.AM i z).Br i x)/\((σ.AM i z).Br i x).blk i=some z:=
 ⟨⟨fun j cs hj=>by
    have hne:j≠i:=fun e=>by rw [e,h.1] at hj;cases hj
    simp [AH.Br,AH.AM,hne,hj],fun _ h=>h,rfl,fun j y hj=>by
    have hne:j≠i:=fun e=>by rw [e,h.2] at hj;cases hj
    simp [AH.Br,AH.AM,hne,hj]⟩,by simp [AH.Br,AH.AM]⟩
theorem Db {σ σ1:AH} {i:Nat} {cs:List AV} (h:σ.le σ1) (hn:σ.blk i=none):σ.le (σ1.AM i cs):=
 ⟨fun j ds hj=>by
   have hne:j≠i:=fun e=>by rw [e,hn] at hj;cases hj
   rw [AI,if_neg hne];exact h.blk j ds hj,h.tok,h.gt,h.bt⟩
theorem Bh (a b:List UInt8):z7 .eql a b=some (.d (.bool (a==b))):=rfl
theorem Ec (a b:List UInt8):z7 .neq a b=some (.d (.bool (!(a==b)))):=rfl
theorem gtN (n k:Nat):decide ((k:Int) < (n:Int))=!decide (n<=k):=by
 rw [Ax];simp
theorem leN (n k:Nat):decide ((n:Int)<=(k:Int))=decide (n<=k):=decide_eq_decide.2 (by omega)
theorem ltN (n k:Nat):decide ((n:Int) < (k:Int))=decide (n < k):=decide_eq_decide.2 (by omega)
theorem AFQ (a b:Nat):((a:Int) != (b:Int))=(a != b):=by
 rw [Ax];simp;omega
theorem Cr {a b:Int} (h:a≠b):(a==b)=false:=by simpa using h
theorem AB1 {a b:Int} (h:a=b):(a==b)=true:=by simpa using h
end Go.Ab
namespace Go.Ab
def DK:List Str->Str->Option Nat
 |[],_=>none
 |x::l,s=>if x==s then some 0 else (DK l s).map (·+1)
def Hm (o:Option Nat):Int:=match o with|some i=>i|none=>-1
def Cy:List Str->Bool
 |[]=>false
 |x::l=>(!(x==[])&&l.contains x)||Cy l
def GL:List TE->List Str->Bool
 |[],[]=>true
 | .mk k n _::l,v::vs=>(k==4&&n==v)&&GL l vs
 |_,_=>false
mutual
def JF (ds:List (Str×Nat)) (vars:List Str):Bool->TE->Except Int Ty
 |whole,.mk k n l=>
  if k=4 then
   match DK vars n with
   |none=>.error 3
   |some i=>(Cv ds vars l).map (Ty.mk k i)
                                 else if k=5 then
   match DK (ds.map (·.1)) n with
   |none=>.error 3
   |some i=>
    if l.length≠(ds.getD i ([],0)).2 then .error 5
                             else if i+1=ds.length/\¬(whole=true/\GL l vars=true) then .error 7
                             else (Cv ds vars l).map (Ty.mk k i)
                             else (Cv ds vars l).map (Ty.mk k 0)
def Cv (ds:List (Str×Nat)) (vars:List Str):List TE->Except Int (List Ty)
 |[]=>.ok []
 |t::l=>match JF ds vars false t with
  | .error e=>.error e
  | .ok u=>(Cv ds vars l).map (u::·)
end
def Dp (ds:List (Str×Nat)) (vars:List Str):List TE->Except Int (List Ty)
 |[]=>.ok []
 |t::l=>match JF ds vars true t with
  | .error e=>.error e
  | .ok u=>(Dp ds vars l).map (u::·)
def FX (ds:List (Str×Nat)) (vars:List Str):List Str->List CE->Except Int (List Con)
 |_,[]=>.ok []
 |used,c::l=>
  if used.contains c.name then .error 4
   else match Dp ds vars c.args with
  | .error e=>.error e
  | .ok ts=>(FX ds vars (used++[c.name]) l).map (⟨c.name,ts⟩::·)
def Nb (ds:List (Str×Nat)) (used:List Str) (d:DE):Except Int Dat:=
 if (ds.map (·.1)).contains d.name||Cy d.vars then .error 4
               else (FX (ds++[(d.name,d.vars.length)]) d.vars used d.cons).map (⟨d.name,d.vars.length,·⟩)
def CR (l:List DE):List (Str×Nat):=l.map fun d=>(d.name,d.vars.length)
def K1 (l:List DE):List Str:=l.flatMap fun d=>d.cons.map (·.name)
def DR:List DE->List DE->Except (Int×Nat) (List Dat)
 |_,[]=>.ok []
 |done,d::l=>match Nb (CR done) (K1 done) d with
  | .error e=>.error (e,done.length)
  | .ok x=>(DR (done++[d]) l).map (x::·)
abbrev Dg:=Int×Int×Int
def IL (p:Pg):Except Dg (List Dat):=
 if Es p then (match DR [] p.data with| .error (e,i)=>.error (e,-1,i)| .ok l=>.ok l) else .error (1,-1,0)
def Ex.op:Ex->Int| .mk o _ _ _ _ _=>o
def Ex.num:Ex->Int| .mk _ _ u _ _ _=>u
def Ex.name:Ex->Str| .mk _ n _ _ _ _=>n
def Ex.names:Ex->List Str| .mk _ _ _ ns _ _=>ns
def Ex.kids:Ex->List Ex| .mk _ _ _ _ ks _=>ks
def Ex.alts:Ex->List Al| .mk _ _ _ _ _ al=>al
def Al.con:Al->Str| .mk c _ _=>c
def Al.vars:Al->List Str| .mk _ vs _=>vs
def Al.body:Al->Ex| .mk _ _ b=>b
def T1 (o:Int) (n:Str) (ns:List Str) (sc:List Str) (i:Nat):List Str:=
 if (o=7\/o=17)/\i=1 then (if n=[] then sc else sc++[n])
                          else if (o=8/\i=1)\/o=11 then sc++ns else sc
mutual
def Cu:Ex->List Str->List (Ex×List Str)
 | .mk o n u ns ks al,sc=>(.mk o n u ns ks al,sc)::(Ez o n ns sc 0 ks++HO sc al)
def Ez (o:Int) (n:Str) (ns sc:List Str):Nat->List Ex->List (Ex×List Str)
 |_,[]=>[]
 |i,k::l=>Cu k (T1 o n ns sc i)++Ez o n ns sc (i+1) l
def mX:Al->List Str->List (Ex×List Str)
 | .mk _ vs b,sc=>Cu b (sc++vs)
def HO (sc:List Str):List Al->List (Ex×List Str)
 |[]=>[]
 |a::l=>mX a sc++HO sc l
end
def JR:List Con->Str->Option Nat
 |[],_=>none
 |c::l,s=>if c.name==s then some 0 else (JR l s).map (·+1)
def Em:List Dat->Str->Option (Nat×Nat)
 |[],_=>none
 |d::l,s=>match JR d.cons s with
  |some k=>some (0,k)
  |none=>(Em l s).map fun x=>(x.1+1,x.2)
def arity (dt:List Dat) (x:Nat×Nat):Nat:=match dt[x.1]? with|some d=>(match d.cons[x.2]? with|some c=>c.args.length|none=>0)|none=>0
def Mz (dt:List Dat) (d:Nat):Nat:=match dt[d]? with|some x=>x.cons.length|none=>0
def D5 (dt:List Dat):List Al->Except Int (List (Nat×Nat))
 |[]=>.ok []
 | .mk c vs _::l=>match Em dt c with
  |none=>.error 3
  |some x=>if vs.length≠arity dt x then .error 5 else if Cy vs then .error 4 else (D5 dt l).map (x::·)
def iH (dt:List Dat):List (Nat×Nat)->Bool
 |[]=>true
 |x::l=>(x::l).all (fun y=>y.1==x.1)&&decide ((x::l).Nodup)&&decide ((x::l).length=Mz dt x.1)
def VK (dt:List Dat) (l:List Al):Int:=match D5 dt l with| .error e=>e| .ok xs=>if iH dt xs then 0 else 7
def DN (fs:List FE):List Str:=fs.map (·.name)
def PV (fs:List FE) (dt:List Dat) (e:Ex) (sc:List Str):Int:=
 if e.op=4 then (if !sc.contains e.name&&(DK (DN fs) e.name).isNone then 3 else 0)
                                               else if e.op=6 then
  match Em dt e.name with
  |none=>3
  |some x=>if e.kids.length≠arity dt x then 5 else 0
            else if e.op=8\/e.op=11 then (if Cy e.names then 4 else 0)
            else if e.op=10 then VK dt e.alts
            else if e.op=12 then
  match e.kids.head? with
  |none=>0
  |some h=>if h.op=4&& !sc.contains h.name then
   (match DK (DN fs) h.name with
   |none=>0
   |some f=>match fs[f]? with
    |some g=>if g.params.length+1≠e.kids.length then 5 else 0
    |none=>0) else 0
            else 0
def bD (vis:Ex->List Str->Int):List (Ex×List Str)->Option (Nat×Int)
 |[]=>none
 |x::l=>if vis x.1 x.2=0 then (bD vis l).map (fun y=>(y.1+1,y.2)) else some (0,vis x.1 x.2)
def p4 (fs:List FE) (dt:List Dat) (i:Nat) (f:FE):Option Dg:=
 if DK (DN fs) f.name≠some i\/Cy f.params=true then some (4,i,0)
                                                          else match bD (PV fs dt) (Cu f.body f.params) with
  |some (k,c)=>some (c,i,k)
  |none=>none
def QJ (fs:List FE) (dt:List Dat):Nat->List FE->Dg
 |_,[]=>(0,0,0)
 |i,f::l=>match p4 fs dt i f with
  |some d=>d
  |none=>QJ fs dt (i+1) l
def Oh (p:Pg):Dg:=match IL p with| .error d=>d| .ok dt=>QJ p.G7 dt 0 p.G7
def MG (fs:List FE) (g:Nat) (x:Ex×List Str):Bool:=x.1.op==4&&(!x.2.contains x.1.name&&DK (DN fs) x.1.name==some g)
def Xo (fs:List FE) (f:FE):List Nat:=(Au fs.length).filter fun g=>(Cu f.body f.params).any (MG fs g)
def Jt (p:Pg):List (List Nat):=if (Oh p).1=0 then p.G7.map (Xo p.G7) else []
end Go.Ab
namespace Go.Ab
open Go.Proofs
theorem EJ {α:Type} {p:α->Bool} {l:List α} {i:Nat} {x:α} (h:∀y∈l.take i,p y=false) (hx:l[i]?=some x) (hp:p x=true):l.findIdx? p=some i:=by
 rw [AFF];obtain ⟨hl,he⟩:=AF.1 hx;refine ⟨hl,by rw [he];exact hp,fun j hj=>?_⟩;rw [h (l[j]'(by omega)) (List.mem_take_iff_getElem.2 ⟨j,by omega,rfl⟩)];simp
theorem EL {α:Type} {p:α->Bool} {l:List α} (h:∀y∈l,p y=false):l.findIdx? p=none:=by
 rw [List.findIdx?_eq_none_iff];exact h
theorem GO {α:Type} {p:α->Bool} {l:List α} {i:Nat} {x:α} (h:∀y∈l.take i,p y=false) (hx:l[i]?=some x) (hp:p x=false):∀y∈l.take (i+1),p y=false:=by
 intro y hy;rw [Ae hx] at hy;rcases AY.1 hy with hy|hy
 . exact h y hy
 . simp only [A3] at hy;subst hy;exact hp
theorem QQ (o:Option Nat):decide (0<=Hm o)=o.isSome:=by
 cases o<;>simp [Hm]
theorem IK {α:Type} (p:α->Bool) (l:List α):(l.findIdx? p).isSome=l.any p:=by
 rw [List.findIdx?_isSome]
theorem XB {fid:FuncId} {caps:List AV} (hb:CQ Tzp fid=true) (hcp:caps.all AV.BF=true) (p:Str->Bool) (l:List Str) (σ:AH) (hf:∀x∈l,AS Tzp fid ((.d (.str x))::caps) σ (fun v σ'=>v= .d (.bool (p x))/\σ'=σ)):
 AS Tzp 139 [.d (.sl (l.map Bb)),.fn fid [] caps] σ (fun v σ'=>v= .d (.int .i64 (Hm (l.findIdx? p)))/\σ'=σ):=by
 refine Ph (by simp) ?_;rw [BS];refine Run.slot 0 (fun hb0=>?_);simp only [D0,if_true,AV.FU,AA] at hb0;(repeat' (refine wQ mxQ rfl ?_<;>try simp only [AA,go_sem]));refine Run.BB ?_;refine Run.BG ((fun (a0:AV) (a1:AV) (a7:AV)=>fun (i:Nat)=>put 0 a0 (put 1 a1 (put 7 a7 (put 8 (.d (.int .i64 i)) U)))) _ _ _) (fun _=>E) (fun _=>σ) (fun i=>i<=l.length/\∀x∈l.take i,p x=false) (fun i=>l.length - i) ?_ 0 ⟨by simp,by simp⟩;rintro i ⟨hi,hno⟩ ih;by_cases hlt:i < l.length
 . obtain ⟨x,hx⟩:=Ak hlt;have he:=BR (enc:=Bb) hx;have hw1:IntKind.i64.wrap ((i:Int)+1)=((i+1:Nat):Int):=by rw [BP (by omega) (by omega)];omega
   have hc:=hf x (AD hx);simp only [Bb] at he;cases hp:p x with
   |true=>
    rw [hp] at hc;(repeat' ((first|refine wQ mxQ rfl ?_|refine Run.qP Ft ?_|(refine ⟨fid,[],caps,rfl,hb,AJ.det hc ?_ (by simp [hcp,Ep,DX])⟩)|fail)<;>try simp only [Ag hlt,he,hw1,go_sem]));rw [EJ hno hx hp];rfl
   |false=>
    rw [hp] at hc;(repeat' ((first|refine wQ mxQ rfl ?_|(refine ⟨fid,[],caps,rfl,hb,AJ.det hc ?_ (by simp [hcp,Ep,DX])⟩)|fail)<;>try simp only [Ag hlt,he,hw1,go_sem]));exact ih (i+1) ⟨by omega,GO hno hx hp⟩ (by omega)
 . (repeat' ((first|refine wQ mxQ rfl ?_|refine Run.qP Ft ?_|fail)<;>try simp only [Bk hlt,go_sem]));rw [AO (by omega)] at hno;rw [EL hno];rfl
theorem Ss {fid:FuncId} {caps:List AV} (hb:CQ Tzp fid=true) (hcp:caps.all AV.BF=true) (p:Str->Bool) (l:List Str) (σ:AH) (hf:∀x∈l,AS Tzp fid ((.d (.str x))::caps) σ (fun v σ'=>v= .d (.bool (p x))/\σ'=σ)):
 AS Tzp 115 [.d (.sl (l.map Bb)),.fn fid [] caps] σ (fun v σ'=>v= .d (.bool (l.any p))/\σ'=σ):=by
 refine NX (by simp) ?_;rw [BS];(repeat' ((first|refine wQ mxQ rfl ?_|refine Run.qP Hd ?_|refine AJ.det (XB hb hcp p l σ hf) ?_|fail)<;>try simp only [QQ,IK,go_sem]))
theorem dX {fid:FuncId} {caps:List AV} (hb:CQ Tzp fid=true) (hcp:caps.all AV.BF=true) (x:Str) (b:Bool) (j:Nat) (σ:AH) (hj:σ.blk j=some [.fn fid [] caps]) (hf:AS Tzp fid ((.d (.str x))::caps) σ (fun v σ'=>v= .d (.bool b)/\σ'=σ)):
 AS Tzp 116 [(.d (.str x)),.gp j 0] σ (fun v σ'=>v= .d (.bool (!b))/\σ'=σ):=by
 refine Uh (by simp) ?_;rw [BS];(repeat' ((first|refine wQ mxQ rfl ?_|refine Run.qP Lc ?_|(refine ⟨fid,[],caps,rfl,hb,AJ.det hf ?_ (by simp [hcp,Ep,DX])⟩)|fail)<;>try simp only [hj,go_sem]))
theorem JK {fid:FuncId} {caps:List AV} (hb:CQ Tzp fid=true) (hcp:caps.all AV.BF=true) (p:Str->Bool) (l:List Str) (σ:AH) (hf:∀x∈l,∀σ1,σ.le σ1->AS Tzp fid ((.d (.str x))::caps) σ1 (fun v σ'=>v= .d (.bool (p x))/\σ'=σ1)):
 AS Tzp 83 [.d (.sl (l.map Bb)),.fn fid [] caps] σ (fun v σ'=>v= .d (.bool (l.all p))/\σ'=σ):=by
 refine XW (by simp) ?_;rw [BS];(repeat' (refine wQ mxQ rfl ?_<;>try simp only [go_sem]));intro j hj;have hle:=CF (cs:=[.fn fid [] caps]) hj;(repeat' ((first|refine wQ mxQ rfl ?_|(refine Run.CK Nf (σ2:=σ) hle ?_)|refine AJ.det (Ss (by kernel_rfl) rfl (fun x=>!p x) l _ (fun x hx=>dX hb hcp x (p x) j _ (by simp only [AI,if_true]) (hf x hx _ hle))) ?_|fail)<;>try simp only [go_sem]));simp [QD]
theorem P0 {fid:FuncId} {caps:List AV} (hb:CQ Tzp fid=true) (hcp:caps.all AV.BF=true) (p:TE->Bool) (l:List TE) (σ:AH) (hf:∀x∈l,AS Tzp fid ((teA x)::caps) σ (fun v σ'=>v= .d (.bool (p x))/\σ'=σ)):
 AS Tzp 150 [.d (.sl (l.map TE.enc)),.fn fid [] caps] σ (fun v σ'=>v= .d (.int .i64 (Hm (l.findIdx? p)))/\σ'=σ):=by
 refine L6 (by simp) ?_;rw [BS];refine Run.slot 0 (fun hb0=>?_);simp only [D0,if_true,AV.FU,AA] at hb0;(repeat' (refine wQ mxQ rfl ?_<;>try simp only [AA,go_sem]));refine Run.BB ?_;refine Run.BG ((fun (a0:AV) (a1:AV) (a7:AV)=>fun (i:Nat)=>put 0 a0 (put 1 a1 (put 7 a7 (put 8 (.d (.int .i64 i)) U)))) _ _ _) (fun _=>E) (fun _=>σ) (fun i=>i<=l.length/\∀x∈l.take i,p x=false) (fun i=>l.length - i) ?_ 0 ⟨by simp,by simp⟩;rintro i ⟨hi,hno⟩ ih;by_cases hlt:i < l.length
 . obtain ⟨x,hx⟩:=Ak hlt;have he:=BR (enc:=TE.enc) hx;have hw1:IntKind.i64.wrap ((i:Int)+1)=((i+1:Nat):Int):=by rw [BP (by omega) (by omega)];omega
   have hc:=hf x (AD hx);obtain ⟨k,n,al⟩:=x;simp only [TE.A4,teA,AG,AN] at he hc;cases hp:p (.mk k n al) with
   |true=>
    rw [hp] at hc;(repeat' ((first|refine wQ mxQ rfl ?_|refine Run.qP Dq ?_|(refine ⟨fid,[],caps,rfl,hb,AJ.det hc ?_ (by simp [hcp,Ep,DX])⟩)|fail)<;>try simp only [Ag hlt,he,hw1,go_sem]));rw [EJ hno hx hp];rfl
   |false=>
    rw [hp] at hc;(repeat' ((first|refine wQ mxQ rfl ?_|(refine ⟨fid,[],caps,rfl,hb,AJ.det hc ?_ (by simp [hcp,Ep,DX])⟩)|fail)<;>try simp only [Ag hlt,he,hw1,go_sem]));exact ih (i+1) ⟨by omega,GO hno hx hp⟩ (by omega)
 . (repeat' ((first|refine wQ mxQ rfl ?_|refine Run.qP Dq ?_|fail)<;>try simp only [Bk hlt,go_sem]));rw [AO (by omega)] at hno;rw [EL hno];rfl
theorem NL {fid:FuncId} {caps:List AV} (hb:CQ Tzp fid=true) (hcp:caps.all AV.BF=true) (p:TE->Bool) (l:List TE) (σ:AH) (hf:∀x∈l,AS Tzp fid ((teA x)::caps) σ (fun v σ'=>v= .d (.bool (p x))/\σ'=σ)):
 AS Tzp 135 [.d (.sl (l.map TE.enc)),.fn fid [] caps] σ (fun v σ'=>v= .d (.bool (l.any p))/\σ'=σ):=by
 refine Jw (by simp) ?_;rw [BS];(repeat' ((first|refine wQ mxQ rfl ?_|refine Run.qP FY ?_|refine AJ.det (P0 hb hcp p l σ hf) ?_|fail)<;>try simp only [QQ,IK,go_sem]))
theorem U0 {fid:FuncId} {caps:List AV} (hb:CQ Tzp fid=true) (hcp:caps.all AV.BF=true) (x:TE) (b:Bool) (j:Nat) (σ:AH) (hj:σ.blk j=some [.fn fid [] caps]) (hf:AS Tzp fid ((teA x)::caps) σ (fun v σ'=>v= .d (.bool b)/\σ'=σ)):
 AS Tzp 136 [(teA x),.gp j 0] σ (fun v σ'=>v= .d (.bool (!b))/\σ'=σ):=by
 refine OM (by simp) ?_;rw [BS];obtain ⟨k,n,al⟩:=x;simp only [TE.A4,teA,AG,AN] at hf ⊢;(repeat' ((first|refine wQ mxQ rfl ?_|refine Run.qP Hy ?_|(refine ⟨fid,[],caps,rfl,hb,AJ.det hf ?_ (by simp [hcp,Ep,DX])⟩)|fail)<;>try simp only [hj,go_sem]))
theorem N7 {fid:FuncId} {caps:List AV} (hb:CQ Tzp fid=true) (hcp:caps.all AV.BF=true) (p:TE->Bool) (l:List TE) (σ:AH) (hf:∀x∈l,∀σ1,σ.le σ1->AS Tzp fid ((teA x)::caps) σ1 (fun v σ'=>v= .d (.bool (p x))/\σ'=σ1)):
 AS Tzp 111 [.d (.sl (l.map TE.enc)),.fn fid [] caps] σ (fun v σ'=>v= .d (.bool (l.all p))/\σ'=σ):=by
 refine Pj (by simp) ?_;rw [BS];(repeat' (refine wQ mxQ rfl ?_<;>try simp only [go_sem]));intro j hj;have hle:=CF (cs:=[.fn fid [] caps]) hj;(repeat' ((first|refine wQ mxQ rfl ?_|(refine Run.CK Il (σ2:=σ) hle ?_)|refine AJ.det (NL (by kernel_rfl) rfl (fun x=>!p x) l _ (fun x hx=>U0 hb hcp x (p x) j _ (by simp only [AI,if_true]) (hf x hx _ hle))) ?_|fail)<;>try simp only [go_sem]));simp [QD]
theorem Q9 {fid:FuncId} {caps:List AV} (hb:CQ Tzp fid=true) (hcp:caps.all AV.BF=true) (p:CE->Bool) (l:List CE) (σ:AH) (hf:∀x∈l,AS Tzp fid ((ceA x)::caps) σ (fun v σ'=>v= .d (.bool (p x))/\σ'=σ)):
 AS Tzp 149 [.d (.sl (l.map CE.enc)),.fn fid [] caps] σ (fun v σ'=>v= .d (.int .i64 (Hm (l.findIdx? p)))/\σ'=σ):=by
 refine MA (by simp) ?_;rw [BS];refine Run.slot 0 (fun hb0=>?_);simp only [D0,if_true,AV.FU,AA] at hb0;(repeat' (refine wQ mxQ rfl ?_<;>try simp only [AA,go_sem]));refine Run.BB ?_;refine Run.BG ((fun (a0:AV) (a1:AV) (a7:AV)=>fun (i:Nat)=>put 0 a0 (put 1 a1 (put 7 a7 (put 8 (.d (.int .i64 i)) U)))) _ _ _) (fun _=>E) (fun _=>σ) (fun i=>i<=l.length/\∀x∈l.take i,p x=false) (fun i=>l.length - i) ?_ 0 ⟨by simp,by simp⟩;rintro i ⟨hi,hno⟩ ih;by_cases hlt:i < l.length
 . obtain ⟨x,hx⟩:=Ak hlt;have he:=BR (enc:=CE.enc) hx;have hw1:IntKind.i64.wrap ((i:Int)+1)=((i+1:Nat):Int):=by rw [BP (by omega) (by omega)];omega
   have hc:=hf x (AD hx);obtain ⟨nm,ar⟩:=x;simp only [CE.enc,ceA,AG,AN] at he hc;cases hp:p (⟨nm,ar⟩) with
   |true=>
    rw [hp] at hc;(repeat' ((first|refine wQ mxQ rfl ?_|refine Run.qP EM ?_|(refine ⟨fid,[],caps,rfl,hb,AJ.det hc ?_ (by simp [hcp,Ep,DX])⟩)|fail)<;>try simp only [Ag hlt,he,hw1,go_sem]));rw [EJ hno hx hp];rfl
   |false=>
    rw [hp] at hc;(repeat' ((first|refine wQ mxQ rfl ?_|(refine ⟨fid,[],caps,rfl,hb,AJ.det hc ?_ (by simp [hcp,Ep,DX])⟩)|fail)<;>try simp only [Ag hlt,he,hw1,go_sem]));exact ih (i+1) ⟨by omega,GO hno hx hp⟩ (by omega)
 . (repeat' ((first|refine wQ mxQ rfl ?_|refine Run.qP EM ?_|fail)<;>try simp only [Bk hlt,go_sem]));rw [AO (by omega)] at hno;rw [EL hno];rfl
theorem Nw {fid:FuncId} {caps:List AV} (hb:CQ Tzp fid=true) (hcp:caps.all AV.BF=true) (p:CE->Bool) (l:List CE) (σ:AH) (hf:∀x∈l,AS Tzp fid ((ceA x)::caps) σ (fun v σ'=>v= .d (.bool (p x))/\σ'=σ)):
 AS Tzp 133 [.d (.sl (l.map CE.enc)),.fn fid [] caps] σ (fun v σ'=>v= .d (.bool (l.any p))/\σ'=σ):=by
 refine Ka (by simp) ?_;rw [BS];(repeat' ((first|refine wQ mxQ rfl ?_|refine Run.qP Fp ?_|refine AJ.det (Q9 hb hcp p l σ hf) ?_|fail)<;>try simp only [QQ,IK,go_sem]))
theorem VJ {fid:FuncId} {caps:List AV} (hb:CQ Tzp fid=true) (hcp:caps.all AV.BF=true) (x:CE) (b:Bool) (j:Nat) (σ:AH) (hj:σ.blk j=some [.fn fid [] caps]) (hf:AS Tzp fid ((ceA x)::caps) σ (fun v σ'=>v= .d (.bool b)/\σ'=σ)):
 AS Tzp 134 [(ceA x),.gp j 0] σ (fun v σ'=>v= .d (.bool (!b))/\σ'=σ):=by
 refine Ou (by simp) ?_;rw [BS];obtain ⟨nm,ar⟩:=x;simp only [CE.enc,ceA,AG,AN] at hf ⊢;(repeat' ((first|refine wQ mxQ rfl ?_|refine Run.qP IV ?_|(refine ⟨fid,[],caps,rfl,hb,AJ.det hf ?_ (by simp [hcp,Ep,DX])⟩)|fail)<;>try simp only [hj,go_sem]))
theorem YK {fid:FuncId} {caps:List AV} (hb:CQ Tzp fid=true) (hcp:caps.all AV.BF=true) (p:CE->Bool) (l:List CE) (σ:AH) (hf:∀x∈l,∀σ1,σ.le σ1->AS Tzp fid ((ceA x)::caps) σ1 (fun v σ'=>v= .d (.bool (p x))/\σ'=σ1)):
 AS Tzp 109 [.d (.sl (l.map CE.enc)),.fn fid [] caps] σ (fun v σ'=>v= .d (.bool (l.all p))/\σ'=σ):=by
 refine Qz (by simp) ?_;rw [BS];(repeat' (refine wQ mxQ rfl ?_<;>try simp only [go_sem]));intro j hj;have hle:=CF (cs:=[.fn fid [] caps]) hj;(repeat' ((first|refine wQ mxQ rfl ?_|(refine Run.CK JU (σ2:=σ) hle ?_)|refine AJ.det (Nw (by kernel_rfl) rfl (fun x=>!p x) l _ (fun x hx=>VJ hb hcp x (p x) j _ (by simp only [AI,if_true]) (hf x hx _ hle))) ?_|fail)<;>try simp only [go_sem]));simp [QD]
theorem VF {fid:FuncId} {caps:List AV} (hb:CQ Tzp fid=true) (hcp:caps.all AV.BF=true) (p:Al->Bool) (l:List Al) (σ:AH) (hf:∀x∈l,AS Tzp fid ((alA x)::caps) σ (fun v σ'=>v= .d (.bool (p x))/\σ'=σ)):
 AS Tzp 163 [.d (.sl (l.map Al.enc)),.fn fid [] caps] σ (fun v σ'=>v= .d (.int .i64 (Hm (l.findIdx? p)))/\σ'=σ):=by
 refine Ot (by simp) ?_;rw [BS];refine Run.slot 0 (fun hb0=>?_);simp only [D0,if_true,AV.FU,AA] at hb0;(repeat' (refine wQ mxQ rfl ?_<;>try simp only [AA,go_sem]));refine Run.BB ?_;refine Run.BG ((fun (a0:AV) (a1:AV) (a7:AV)=>fun (i:Nat)=>put 0 a0 (put 1 a1 (put 7 a7 (put 8 (.d (.int .i64 i)) U)))) _ _ _) (fun _=>E) (fun _=>σ) (fun i=>i<=l.length/\∀x∈l.take i,p x=false) (fun i=>l.length - i) ?_ 0 ⟨by simp,by simp⟩;rintro i ⟨hi,hno⟩ ih;by_cases hlt:i < l.length
 . obtain ⟨x,hx⟩:=Ak hlt;have he:=BR (enc:=Al.enc) hx;have hw1:IntKind.i64.wrap ((i:Int)+1)=((i+1:Nat):Int):=by rw [BP (by omega) (by omega)];omega
   have hc:=hf x (AD hx);obtain ⟨c,vs,o,n,u,ns,ks,al⟩:=x;simp only [Al.A4,alA,AG,AN] at he hc;cases hp:p (.mk c vs (.mk o n u ns ks al)) with
   |true=>
    rw [hp] at hc;(repeat' ((first|refine wQ mxQ rfl ?_|refine Run.qP F1 ?_|(refine ⟨fid,[],caps,rfl,hb,AJ.det hc ?_ (by simp [hcp,Ep,DX])⟩)|fail)<;>try simp only [Ag hlt,he,hw1,go_sem]));rw [EJ hno hx hp];rfl
   |false=>
    rw [hp] at hc;(repeat' ((first|refine wQ mxQ rfl ?_|(refine ⟨fid,[],caps,rfl,hb,AJ.det hc ?_ (by simp [hcp,Ep,DX])⟩)|fail)<;>try simp only [Ag hlt,he,hw1,go_sem]));exact ih (i+1) ⟨by omega,GO hno hx hp⟩ (by omega)
 . (repeat' ((first|refine wQ mxQ rfl ?_|refine Run.qP F1 ?_|fail)<;>try simp only [Bk hlt,go_sem]));rw [AO (by omega)] at hno;rw [EL hno];rfl
theorem Rd {fid:FuncId} {caps:List AV} (hb:CQ Tzp fid=true) (hcp:caps.all AV.BF=true) (p:Al->Bool) (l:List Al) (σ:AH) (hf:∀x∈l,AS Tzp fid ((alA x)::caps) σ (fun v σ'=>v= .d (.bool (p x))/\σ'=σ)):
 AS Tzp 153 [.d (.sl (l.map Al.enc)),.fn fid [] caps] σ (fun v σ'=>v= .d (.bool (l.any p))/\σ'=σ):=by
 refine Mm (by simp) ?_;rw [BS];(repeat' ((first|refine wQ mxQ rfl ?_|refine Run.qP HN ?_|refine AJ.det (VF hb hcp p l σ hf) ?_|fail)<;>try simp only [QQ,IK,go_sem]))
theorem aM {fid:FuncId} {caps:List AV} (hb:CQ Tzp fid=true) (hcp:caps.all AV.BF=true) (x:Al) (b:Bool) (j:Nat) (σ:AH) (hj:σ.blk j=some [.fn fid [] caps]) (hf:AS Tzp fid ((alA x)::caps) σ (fun v σ'=>v= .d (.bool b)/\σ'=σ)):
 AS Tzp 154 [(alA x),.gp j 0] σ (fun v σ'=>v= .d (.bool (!b))/\σ'=σ):=by
 refine TV (by simp) ?_;rw [BS];obtain ⟨c,vs,o,n,u,ns,ks,al⟩:=x;simp only [Al.A4,alA,AG,AN] at hf ⊢;(repeat' ((first|refine wQ mxQ rfl ?_|refine Run.qP Ku ?_|(refine ⟨fid,[],caps,rfl,hb,AJ.det hf ?_ (by simp [hcp,Ep,DX])⟩)|fail)<;>try simp only [hj,go_sem]))
theorem gN {fid:FuncId} {caps:List AV} (hb:CQ Tzp fid=true) (hcp:caps.all AV.BF=true) (p:Al->Bool) (l:List Al) (σ:AH) (hf:∀x∈l,∀σ1,σ.le σ1->AS Tzp fid ((alA x)::caps) σ1 (fun v σ'=>v= .d (.bool (p x))/\σ'=σ1)):
 AS Tzp 143 [.d (.sl (l.map Al.enc)),.fn fid [] caps] σ (fun v σ'=>v= .d (.bool (l.all p))/\σ'=σ):=by
 refine Vn (by simp) ?_;rw [BS];(repeat' (refine wQ mxQ rfl ?_<;>try simp only [go_sem]));intro j hj;have hle:=CF (cs:=[.fn fid [] caps]) hj;(repeat' ((first|refine wQ mxQ rfl ?_|(refine Run.CK Me (σ2:=σ) hle ?_)|refine AJ.det (Rd (by kernel_rfl) rfl (fun x=>!p x) l _ (fun x hx=>aM hb hcp x (p x) j _ (by simp only [AI,if_true]) (hf x hx _ hle))) ?_|fail)<;>try simp only [go_sem]));simp [QD]
end Go.Ab
namespace Go.Ab
open Go.Proofs
def singleR (r:List Tok×Nat×Int) (k:Int) (s:Str):Bool:=
 r.2.2==0&&(r.1.length==2&&(match r.1 with|[]=>false|a::_=>a.kind==k&&a.text==s))
theorem kW (k:Int) (s:Str):Jj k s=singleR (I5 s) k s:=rfl
theorem AA5 {α:Type} {l:List α} (h:l.length=2):∃a b,l=[a,b]:=by
 match l,h with
 |[a,b],_=>exact ⟨a,b,rfl⟩
theorem Dh (s:Str) (k:Int) (σ:AH):AS Tzp 69 [.d (.str s),.d (.int .i64 k)] σ (fun v σ'=>v= .d (.bool (Jj k s))/\σ'=σ):=by
 refine tO (by simp) ?_;rw [BS,kW];have hsp:=uT s σ;generalize I5 s=r at hsp ⊢;obtain ⟨l,q,e⟩:=r;simp only [LM] at hsp;cases he:(e==0) with
 |false=>
  (repeat' ((first|refine wQ mxQ rfl ?_|refine Run.qP Mc ?_|refine AJ.det (hsp) ?_|fail)<;>try simp only [he,go_sem]));simp [singleR,he]
 |true=>
 by_cases hl:l.length=2
 . obtain ⟨⟨ak,at',ap⟩,b,rfl⟩:=AA5 hl;simp only [Tok.enc,AG,AN] at hsp;cases hk:(ak==k) with
   |false=>
    (repeat' ((first|refine wQ mxQ rfl ?_|refine Run.qP Mc ?_|refine AJ.det (hsp) ?_|(refine A9 rfl (fun h=>?_) (fun h=>?_)<;>try (cases h;done))|fail)<;>try simp only [he,hk,go_sem]));simp [singleR,hk]
   |true=>
    (repeat' ((first|refine wQ mxQ rfl ?_|refine Run.qP Mc ?_|refine AJ.det (hsp) ?_|(refine A9 rfl (fun h=>?_) (fun h=>?_)<;>try (cases h;done))|fail)<;>try simp only [he,hk,Bh,go_sem]));simp [singleR,hk,he]
 . have h2:((l.length:Int)==2)=false:=by simp only [beq_eq_false_iff_ne,ne_eq];omega
   (repeat' ((first|refine wQ mxQ rfl ?_|refine Run.qP Mc ?_|refine AJ.det (hsp) ?_|fail)<;>try simp only [he,AA,h2,go_sem]));simp [singleR,hl]
theorem Q2 (s:Str) (k:Int) (σ:AH):AS Tzp 114 [.d (.str s),.d (.int .i64 k)] σ (fun v σ'=>v= .d (.bool (Jj k s))/\σ'=σ):=by
 refine bO (by simp) ?_;rw [BS,kW];have hsp:=lC s σ;generalize I5 s=r at hsp ⊢;obtain ⟨l,q,e⟩:=r;simp only [LM] at hsp;cases he:(e==0) with
 |false=>
  (repeat' ((first|refine wQ mxQ rfl ?_|refine Run.qP Gu ?_|refine AJ.det (hsp) ?_|fail)<;>try simp only [he,go_sem]));simp [singleR,he]
 |true=>
 by_cases hl:l.length=2
 . obtain ⟨⟨ak,at',ap⟩,b,rfl⟩:=AA5 hl;simp only [Tok.enc,AG,AN] at hsp;cases hk:(ak==k) with
   |false=>
    (repeat' ((first|refine wQ mxQ rfl ?_|refine Run.qP Gu ?_|refine AJ.det (hsp) ?_|(refine A9 rfl (fun h=>?_) (fun h=>?_)<;>try (cases h;done))|fail)<;>try simp only [he,hk,go_sem]));simp [singleR,hk]
   |true=>
    (repeat' ((first|refine wQ mxQ rfl ?_|refine Run.qP Gu ?_|refine AJ.det (hsp) ?_|(refine A9 rfl (fun h=>?_) (fun h=>?_)<;>try (cases h;done))|fail)<;>try simp only [he,hk,Bh,go_sem]));simp [singleR,hk,he]
 . have h2:((l.length:Int)==2)=false:=by simp only [beq_eq_false_iff_ne,ne_eq];omega
   (repeat' ((first|refine wQ mxQ rfl ?_|refine Run.qP Gu ?_|refine AJ.det (hsp) ?_|fail)<;>try simp only [he,AA,h2,go_sem]));simp [singleR,hl]
theorem EP (s:Str) (σ:AH):AS Tzp 82 [.d (.str s)] σ (fun v σ'=>v= .d (.bool (FV s))/\σ'=σ):=by
 refine eQ (by simp) ?_;rw [Bs];(repeat' ((first|refine wQ mxQ rfl ?_|refine Run.qP UR ?_|refine AJ.det (Q2 s 1 _) ?_|fail)<;>try simp only [go_sem]));rfl
theorem CD (s:Str) (σ:AH):AS Tzp 108 [.d (.str s)] σ (fun v σ'=>v= .d (.bool (HC s))/\σ'=σ):=by
 refine bP (by simp) ?_;rw [Bs];(repeat' ((first|refine wQ mxQ rfl ?_|refine Run.qP SH ?_|refine AJ.det (Q2 s 2 _) ?_|fail)<;>try simp only [go_sem]));rfl
theorem ML (s:Str) (σ:AH):AS Tzp 142 [.d (.str s)] σ (fun v σ'=>v= .d (.bool (VN s))/\σ'=σ):=by
 refine eP (by simp) ?_;rw [Bs];cases h0:(s==[]) with
 |true=>
  (repeat' ((first|refine wQ mxQ rfl ?_|refine Run.qP NW ?_|fail)<;>try simp only [Bh,h0,go_sem]));simp [VN,h0]
 |false=>
  (repeat' ((first|refine wQ mxQ rfl ?_|refine Run.qP NW ?_|refine AJ.det (EP s _) ?_|fail)<;>try simp only [Bh,h0,go_sem]));simp [VN,h0]
def O8 (l:List Str) (strict:Bool):Bool:=decide (l.length<=6)&&l.all (fun s=>FV s||(s==[]&& !strict))
theorem gt6 (n:Nat):decide ((6:Int) < (n:Int))=!decide (n<=6):=gtN n 6
theorem gO {α:Type} {p:α->Bool} {l:List α} {i:Nat} {x:α} (hx:l[i]?=some x) (hp:p x=false):l.all p=false:=by
 rw [List.all_eq_false];exact ⟨x,AD hx,by rw [hp];simp⟩
theorem M5 {α:Type} {p:α->Bool} {l:List α} {i:Nat} {x:α} (h:(l.take i).all p=true) (hx:l[i]?=some x) (hp:p x=true):(l.take (i+1)).all p=true:=by
 rw [Ae hx,List.all_append,h];simp [hp]
theorem KV (l:List Str) (strict:Bool) (σ:AH):AS Tzp 70 [.d (.sl (l.map Bb)),.d (.bool strict)] σ (fun v σ'=>v= .d (.bool (O8 l strict))/\σ'=σ):=by
 refine yC (by simp) ?_;rw [BS];by_cases h6:l.length<=6
 case neg=>
  (repeat' ((first|refine wQ mxQ rfl ?_|refine Run.qP Ok ?_|fail)<;>try simp only [gt6,AA,decide_eq_false h6,go_sem]));simp [O8,h6]
 (repeat' (refine wQ mxQ rfl ?_<;>try simp only [gt6,AA,decide_eq_true h6,go_sem]));refine Run.BB ?_;refine Run.BG ((fun (a0:AV) (a1:AV)=>fun (i:Nat)=>put 0 a0 (put 1 a1 (put 5 (.d (.int .i64 i)) U))) _ _) (fun _=>E) (fun _=>σ) (fun i=>i<=l.length/\(l.take i).all (fun s=>FV s||(s==[]&& !strict))=true) (fun i=>l.length - i) ?_ 0 ⟨by simp,by simp⟩;rintro i ⟨hi,hok⟩ ih;by_cases hlt:i < l.length
 . obtain ⟨x,hx⟩:=Ak hlt;have he:=BR (enc:=Bb) hx;simp only [Bb] at he;have hw1:=A7 (show i+1<=9000000000000000000 by omega);have hn:=Dh x 1 σ;rw [show Jj 1 x=FV x from rfl] at hn;cases hp:(FV x||(x==[]&& !strict)) with
   |true=>
    cases hnm:FV x with
    |true=>
     rw [hnm] at hn;(repeat' ((first|refine wQ mxQ rfl ?_|refine AJ.det (hn) ?_|fail)<;>try simp only [Ag hlt,AA,he,hw1,Bh,go_sem]));exact ih (i+1) ⟨by omega,M5 hok hx hp⟩ (by omega)
    |false=>
     rw [hnm] at hn;simp only [hnm,ED,AQ,Bl] at hp;obtain ⟨hp1,rfl⟩:=hp;(repeat' ((first|refine wQ mxQ rfl ?_|refine AJ.det (hn) ?_|fail)<;>try simp only [Ag hlt,AA,he,hw1,Bh,hp1,go_sem]));exact ih (i+1) ⟨by omega,M5 hok hx (by simp [hnm,hp1])⟩ (by omega)
   |false=>
    have hnm:FV x=false:=(IH.1 hp).1;rw [hnm] at hn;have hres:O8 l strict=false:=by rw [O8,gO hx hp,CG]
    cases h0:(x==[]) with
    |false=>
     (repeat' ((first|refine wQ mxQ rfl ?_|refine Run.qP Ok ?_|refine AJ.det (hn) ?_|fail)<;>try simp only [Ag hlt,AA,he,hw1,Bh,h0,go_sem]));rw [hres]
    |true=>
     have hst:strict=true:=by simpa [hnm,h0] using hp
     (repeat' ((first|refine wQ mxQ rfl ?_|refine Run.qP Ok ?_|refine AJ.det (hn) ?_|fail)<;>try simp only [Ag hlt,AA,he,hw1,Bh,h0,hst,go_sem]));rw [<- hst,hres]
 . (repeat' ((first|refine wQ mxQ rfl ?_|refine Run.qP Ok ?_|fail)<;>try simp only [Bk hlt,AA,go_sem]));rw [AO (by omega)] at hok;rw [O8,hok];simp [h6]
end Go.Ab
namespace Go.Ab
open Go.Proofs
theorem fF:∀(d:Nat) (t:TE) (σ:AH),d<=40->t.size<=1000000->AS Tzp 71 [teA t,.d (.int .i64 d)] σ (fun v σ'=>v= .d (.bool (DL d t))/\σ'=σ):=by
 intro d
 induction d with
 |zero=>
  rintro ⟨k,n,l⟩ σ _ _;refine Vi (by simp) ?_;rw [BS,teA,TE.A4];have h0:(((0:Nat):Int)==0)=true:=by decide
  (repeat' ((first|refine wQ mxQ rfl ?_|refine Run.qP IS ?_|fail)<;>try simp only [h0,go_sem]));rfl
 |succ d ihd=>
  rintro ⟨k,n,l⟩ σ hd hsz;have hlen:=TE.Bt l;have hsz1:TE.AT l+1<=1000000:=by simpa [TE.size,Nat.add_comm] using hsz
  refine Vi (by simp) ?_;rw [BS,teA,TE.A4];have h0:(((d+1:Nat):Int)==0)=false:=by simp only [beq_eq_false_iff_ne,ne_eq];omega
  have hws:IntKind.i64.wrap (((d+1:Nat):Int) - 1)=(d:Int):=PW (by omega)
  have hloop:aC k n l.length=true->Run I8 (fun v σ'=>v= .d (.bool (DL (d+1) (.mk k n l)))/\σ'=σ) [.code (.loop QH),.blk 1,.code (.seq (.reg [⟨some 4,.mv (.c (.d (.bool true))),none⟩] [4]) .ret)]
   (put 1 (.d (.int .i64 ((d+1:Nat):Int))) (put 2 (.lp 2 0) (put 5 (.d (.int .i64 l.length)) (put 6 (.d (.int .i64 0)) U)))) (Ar 2 [.d (.int .i64 k),.d (.str n),.d (.sl (l.map TE.enc))] E) σ:=by
   intro hsh;refine Run.BB ?_;refine Run.BG ((fun (a1:AV) (a2:AV) (a5:AV)=>fun (i:Nat)=>put 1 a1 (put 2 a2 (put 5 a5 (put 6 (.d (.int .i64 i)) U)))) _ _ _) (fun _=>Ar 2 [.d (.int .i64 k),.d (.str n),.d (.sl (l.map TE.enc))] E) (fun _=>σ) (fun i=>i<=l.length/\(l.take i).all (DL d)=true) (fun i=>l.length - i) ?_ 0 ⟨by simp,by simp⟩;rintro i ⟨hi,hok⟩ ih;by_cases hlt:i < l.length
   . obtain ⟨x,hx⟩:=Ak hlt;have he:=BR (enc:=TE.enc) hx;have hms:=TE.JD (AD hx);have hc:=ihd x σ (by omega) (by omega);have hw1:=A7 (show i+1<=9000000000000000000 by omega);cases hp:DL d x with
     |true=>
      rw [hp] at hc;obtain ⟨xk,xn,xl⟩:=x;simp only [TE.A4,teA,AG,AN] at he hc;(repeat' ((first|refine wQ mxQ rfl ?_|refine AJ.det (hc) ?_|fail)<;>try simp only [Ag hlt,he,hw1,hws,go_sem]));exact ih (i+1) ⟨by omega,M5 hok hx hp⟩ (by omega)
     |false=>
      rw [hp] at hc;have hres:DL (d+1) (.mk k n l)=false:=by rw [DL,gO hx hp,CG]
      obtain ⟨xk,xn,xl⟩:=x;simp only [TE.A4,teA,AG,AN] at he hc;(repeat' ((first|refine wQ mxQ rfl ?_|refine Run.qP IS ?_|refine AJ.det (hc) ?_|fail)<;>try simp only [Ag hlt,he,hw1,hws,go_sem]));rw [hres]
   . (repeat' ((first|refine wQ mxQ rfl ?_|refine Run.qP IS ?_|fail)<;>try simp only [Bk hlt,go_sem]));rw [AO (by omega)] at hok;rw [DL,hsh,hok];rfl
  clear ihd;(repeat' (first|((first|refine wQ mxQ rfl ?_|refine Run.qP IS ?_|((refine hloop ?_))|refine AJ.det (Dh _ _ _) ?_|(refine A9 rfl (fun h=>?_) (fun h=>?_)<;>try (cases h;done))|fail)<;>try simp only [h0,Bh,Ec,AA,go_sem])|(refine ⟨fun h=>?_,fun h=>?_⟩<;>first|(cases h;done)|try simp only [h])|fail))
  all_goals clear hloop hws h0
  all_goals (simp only [beq_iff_eq,beq_eq_false_iff_ne,ne_eq,Bl,Bool.not_eq_false',decide_eq_true_eq,decide_eq_false_iff_not] at *;simp_all [DL,aC,FV,HC];first|done|omega|(intros;omega)|(intros;exfalso;omega)|(rcases l with _|⟨a,l⟩<;>simp<;>omega))
end Go.Ab
namespace Go.Ab
open Go.Proofs
theorem VD (d:Nat) (hd:∀(t:TE) (σ:AH),t.size<=1000000->AS Tzp 113 [teA t,.d (.int .i64 ((41 - d:Nat):Int))] σ (fun v σ'=>v= .d (.bool (DL d t))/\σ'=σ)) (hd40:d < 40)
 (t:TE) (j:Nat) (σ:AH) (hsz:t.size<=1000000) (hj:σ.blk j=some [.d (.int .i64 ((40 - d:Nat):Int))]):
 AS Tzp 137 [teA t,.gp j 0] σ (fun v σ'=>v= .d (.bool (DL d t))/\σ'=σ):=by
 refine Vp (by simp) ?_;rw [BS];have hc:=hd t σ hsz;obtain ⟨k,n,l⟩:=t;simp only [TE.A4,teA,AG,AN] at hc ⊢;have hw:IntKind.i64.wrap (((40 - d:Nat):Int)+1)=((41 - d:Nat):Int):=by rw [BP (by omega) (by omega)];omega
 (repeat' ((first|refine wQ mxQ rfl ?_|refine Run.qP Mg ?_|refine AJ.det (hc) ?_|fail)<;>try simp only [hj,hw,go_sem]))
theorem Xh:∀(d:Nat),d<=40->∀(t:TE) (σ:AH),t.size<=1000000->AS Tzp 113 [teA t,.d (.int .i64 ((41 - d:Nat):Int))] σ (fun v σ'=>v= .d (.bool (DL d t))/\σ'=σ):=by
 intro d
 induction d with
 |zero=>
  rintro _ ⟨k,n,l⟩ σ _;refine Ov (by simp) ?_;rw [BS,teA,TE.A4];(repeat' (refine wQ mxQ rfl ?_<;>try simp only [go_sem]));intro j hj;have hle:=CF (cs:=[.d (.int .i64 ((41 - 0:Nat):Int))]) hj;have h0:decide ((40:Int) < ((41 - 0:Nat):Int))=true:=by decide
  (repeat' (first|((first|refine wQ mxQ rfl ?_|(refine Run.CK Jv (σ2:=σ) hle ?_)|(refine A9 rfl (fun h=>?_) (fun h=>?_)<;>try (cases h;done))|fail)<;>try simp only [h0,go_sem])|(refine ⟨fun h=>?_,fun h=>?_⟩<;>first|(cases h;done)|try simp only [h])|fail));rfl
 |succ d ihd=>
  rintro hd ⟨k,n,l⟩ σ hsz;have hlen:=TE.Bt l;have hsz1:TE.AT l+1<=1000000:=by simpa [TE.size,Nat.add_comm] using hsz
  have hd1:=ihd (by omega);refine Ov (by simp) ?_;rw [BS,teA,TE.A4];have h0:decide ((40:Int) < ((41 - (d+1):Nat):Int))=false:=by simp only [decide_eq_false_iff_not];omega
  (repeat' (refine wQ mxQ rfl ?_<;>try simp only [go_sem]));intro j hj;have hle:=CF (cs:=[.d (.int .i64 ((41 - (d+1):Nat):Int))]) hj
  have hall:=N7 (fid:=137) (caps:=[.gp j 0]) (by kernel_rfl) rfl (DL d) l (σ.AM j [.d (.int .i64 ((41 - (d+1):Nat):Int))]) (fun x hx σ1 hle1=>by
   have hms:=TE.JD hx;refine VD d hd1 (by omega) x j σ1 (by omega) ?_;rw [hle1.blk j _ (by simp only [AI,if_true];rfl)];rw [show 41 - (d+1)=40 - d by omega])
  clear hd1 ihd;(repeat' (first|((first|refine wQ mxQ rfl ?_|(refine Run.CK Jv (σ2:=σ) hle ?_)|refine AJ.det (EP _ _) ?_|refine AJ.det (CD _ _) ?_|refine AJ.det (hall) ?_|(refine A9 rfl (fun h=>?_) (fun h=>?_)<;>try (cases h;done))|fail)<;>try simp only [h0,Ec,AA,go_sem])|(refine ⟨fun h=>?_,fun h=>?_⟩<;>first|(cases h;done)|try simp only [h])|fail))
  all_goals clear hall h0
  all_goals (simp only [bne,beq_iff_eq,beq_eq_false_iff_ne,ne_eq,Bl,Bool.not_eq_false',decide_eq_true_eq,decide_eq_false_iff_not] at *;simp_all [DL,aC];first|done|omega|(intros;omega)|(intros;exfalso;omega)|(rcases l with _|⟨a,l⟩<;>simp<;>omega))
end Go.Ab
namespace Go.Ab
open Go.Proofs
theorem AQY (n:Nat):((n:Int)==0)=decide (n=0):=by rw [Ax];simp only [beq_iff_eq,decide_eq_true_eq];omega
def R0 (n:Str) (u:Int) (a b:Nat):Bool:=n==[]&&(u==0&&(decide (a=0)&&decide (b=0)))
theorem NA (o:Int) (n:Str) (u:Int) (ns ks al:List (List DV)) (σ:AH):
 AS Tzp 141 [.agg [.d (.int .i64 o),.d (.str n),.d (.int .i64 u),.d (.sl ns),.d (.sl ks),.d (.sl al)]] σ (fun v σ'=>v= .d (.bool (R0 n u ns.length al.length))/\σ'=σ):=by
 refine iU (by simp) ?_;rw [Bs];cases h1:(n==[])<;>cases h2:(u==0)<;>cases h3:decide (ns.length=0)
 all_goals (repeat' ((first|refine wQ mxQ rfl ?_|refine Run.qP Vf ?_|fail)<;>try simp only [Bh,h1,h2,h3,AQY,go_sem]))
 all_goals (unfold R0;rw [h1,h2,h3];rfl)
theorem AED (o:Int) (n:Str) (u:Int) (ks al:List (List DV)) (σ:AH):
 AS Tzp 141 [.agg [.d (.int .i64 o),.d (.str n),.d (.int .i64 u),.Af,.d (.sl ks),.d (.sl al)]] σ (fun v σ'=>v= .d (.bool (R0 n u 0 al.length))/\σ'=σ):=
 AS.plain (by simpa only [AV.CX,S7,Jh,KC,By] using NA o n u [] ks al σ)
theorem AEE (o:Int) (n:Str) (u:Int) (ns ks:List (List DV)) (σ:AH):
 AS Tzp 141 [.agg [.d (.int .i64 o),.d (.str n),.d (.int .i64 u),.d (.sl ns),.d (.sl ks),.Af]] σ (fun v σ'=>v= .d (.bool (R0 n u ns.length 0))/\σ'=σ):=
 AS.plain (by simpa only [AV.CX,S7,Jh,KC,By] using NA o n u ns ks [] σ)
theorem Sw (n lo hi:Int) (σ:AH):AS Tzp 145 [.d (.int .i64 n),.d (.int .i64 lo),.d (.int .i64 hi)] σ (fun v σ'=>v= .d (.bool (decide (lo<=n)&&decide (n<=hi)))/\σ'=σ):=by
 refine bN (by simp) ?_;rw [D6];cases h1:decide (lo<=n)
 all_goals (repeat' ((first|refine wQ mxQ rfl ?_|refine Run.qP SG ?_|fail)<;>try simp only [h1,go_sem]))
def AMP (u:Int):Str:=if u=1 then [110,101,119] else if u=2 then [103,101,116] else if u=3 then [115,101,116] else if u=4 then [108,101,110] else if u=5 then [114,101,102] else if u=6 then [114,101,97,100] else if u=7 then [119,114,105,116,101] else []
theorem qX (u:Int) (σ:AH):AS Tzp 146 [.d (.int .i64 u)] σ (fun v σ'=>v= .tup [.d (.str (AMP u)),.d (.int .i64 (Xz u))]/\σ'=σ):=by
 refine Y8 (by simp) ?_;rw [Bs];(repeat' (first|((first|refine wQ mxQ rfl ?_|refine Run.qP On ?_|fail)<;>try simp only [go_sem])|(refine ⟨fun h=>?_,fun h=>?_⟩<;>first|(cases h;done)|try simp only [h])|fail))
 all_goals (simp only [beq_iff_eq,beq_eq_false_iff_ne,ne_eq] at *;simp_all [AMP,Xz])
theorem vT (a:Al) (σ:AH):AS Tzp 144 [alA a] σ (fun v σ'=>v= .d (.bool (ZI a))/\σ'=σ):=by
 refine Z8 (by simp) ?_;rw [Bs];obtain ⟨c,vs,o,n,u,ns,ks,al⟩:=a;simp only [Al.A4,alA,AG,AN];have hl6:decide ((vs.length:Int)<=6)=decide (vs.length<=6):=leN vs.length 6;cases h1:HC c with
 |false=>
  (repeat' ((first|refine wQ mxQ rfl ?_|refine Run.qP Hz ?_|refine AJ.det (CD c _) ?_|fail)<;>try simp only [h1,go_sem]));simp [ZI,h1]
 |true=>
  by_cases h6:vs.length<=6
  . (repeat' ((first|refine wQ mxQ rfl ?_|refine Run.qP Hz ?_|refine AJ.det (CD c _) ?_|refine AJ.det (JK (caps:=[]) (by kernel_rfl) rfl VN vs σ (fun x _ σ1 _=>ML x σ1)) ?_|fail)<;>try simp only [h1,AA,hl6,decide_eq_true h6,go_sem]));simp [ZI,h1,h6]
  . (repeat' ((first|refine wQ mxQ rfl ?_|refine Run.qP Hz ?_|refine AJ.det (CD c _) ?_|fail)<;>try simp only [h1,AA,hl6,decide_eq_false h6,go_sem]));simp [ZI,h6]
theorem rY (o:Int) (n:Str) (u:Int) (ns:List Str) (ks:List Ex) (al:List Al) (σ:AH) (ho:o=1\/o=2\/o=3\/o=4\/o=15):
 AS Tzp 140 [exA (.mk o n u ns ks al)] σ (fun v σ'=>v= .d (.bool (nmB o n&&nuB o u&&nsB o ns&&asB o al))/\σ'=σ):=by
 refine Ya (by simp) ?_;rw [Bs,exA,Ex.A4];have fin:∀b c:Bool,(b=true↔c=true)->AV.d (.bool b)=AV.d (.bool c):=fun b c h=>by rw [Ax.2 h]
 rcases ho with rfl|rfl|rfl|rfl|rfl
 . (repeat' ((first|refine wQ mxQ rfl ?_|refine Run.qP EO ?_|refine AJ.det (NA _ _ _ _ _ _ _) ?_|fail)<;>try simp only [AA,Aa,go_sem]))
   all_goals (refine fin _ _ ?_;simp [R0,nmB,nuB,nsB,asB, *];try grind)
 . (repeat' ((first|refine wQ mxQ rfl ?_|refine Run.qP EO ?_|refine AJ.det (NA _ _ _ _ _ _ _) ?_|refine AJ.det (Sw _ _ _ _) ?_|(refine A9 rfl (fun h=>?_) (fun h=>?_)<;>try (cases h;done))|fail)<;>try simp only [AA,Aa,go_sem]))
   all_goals (refine fin _ _ ?_;simp [R0,nmB,nuB,nsB,asB, *] at *;try grind)
 . (repeat' ((first|refine wQ mxQ rfl ?_|refine Run.qP EO ?_|refine AJ.det (NA _ _ _ _ _ _ _) ?_|refine AJ.det (Sw _ _ _ _) ?_|(refine A9 rfl (fun h=>?_) (fun h=>?_)<;>try (cases h;done))|fail)<;>try simp only [AA,Aa,go_sem]))
   all_goals (refine fin _ _ ?_;simp [R0,nmB,nuB,nsB,asB, *] at *;try grind)
 . (repeat' ((first|refine wQ mxQ rfl ?_|refine Run.qP EO ?_|refine AJ.det (NA _ _ _ _ _ _ _) ?_|refine AJ.det (EP _ _) ?_|(refine A9 rfl (fun h=>?_) (fun h=>?_)<;>try (cases h;done))|fail)<;>try simp only [AA,Aa,go_sem]))
   all_goals (refine fin _ _ ?_;simp [R0,nmB,nuB,nsB,asB, *] at *;try grind)
 . (repeat' ((first|refine wQ mxQ rfl ?_|refine Run.qP EO ?_|refine AJ.det (NA _ _ _ _ _ _ _) ?_|refine AJ.det (Sw _ _ _ _) ?_|(refine A9 rfl (fun h=>?_) (fun h=>?_)<;>try (cases h;done))|fail)<;>try simp only [AA,Aa,go_sem]))
   all_goals (refine fin _ _ ?_;simp [R0,nmB,nuB,nsB,asB, *] at *;try grind)
theorem oZ (u:Int):0 < Xz u↔1<=u/\u<=7:=by
 unfold Xz;repeat' split
 all_goals omega
theorem rZ (o:Int) (n:Str) (u:Int) (ns:List Str) (ks:List Ex) (al:List Al) (σ:AH):
 AS Tzp 117 [exA (.mk o n u ns ks al)] σ (fun v σ'=>v= .d (.bool (QX o n u ns ks.length al))/\σ'=σ):=by
 refine Yb (by simp) ?_;rw [Bs,exA,Ex.A4];have fin:∀b c:Bool,(b=true↔c=true)->AV.d (.bool b)=AV.d (.bool c):=fun b c h=>by rw [Ax.2 h]
 have hleaf:=fun h=>rY o n u ns ks al σ h;simp only [exA,Ex.A4,AG,AN] at hleaf ⊢;have hbi:=JK (fid:=142) (caps:=[]) (by kernel_rfl) rfl VN ns σ (fun x _ σ1 _=>ML x σ1);have hnm:=JK (fid:=82) (caps:=[]) (by kernel_rfl) rfl FV ns σ (fun x _ σ1 _=>EP x σ1);have hal:=gN (fid:=144) (caps:=[]) (by kernel_rfl) rfl ZI al σ (fun x _ σ1 _=>vT x σ1);by_cases ho:o=1\/o=2\/o=3\/o=4\/o=5\/o=6\/o=7\/o=8\/o=9\/o=10\/o=11\/o=12\/o=13\/o=14\/o=15\/o=16\/o=17
 . rcases ho with rfl|rfl|rfl|rfl|rfl|rfl|rfl|rfl|rfl|rfl|rfl|rfl|rfl|rfl|rfl|rfl|rfl
   all_goals (repeat' ((first|refine wQ mxQ rfl ?_|refine Run.qP Ju ?_|refine AJ.det (hleaf (by simp)) ?_|refine AJ.det (NA _ _ _ _ _ _ _) ?_|refine AJ.det (AED _ _ _ _ _ _) ?_|refine AJ.det (AEE _ _ _ _ _ _) ?_|refine AJ.det (CD _ _) ?_|refine AJ.det (ML _ _) ?_|refine AJ.det (Sw _ _ _ _) ?_|refine AJ.det (qX _ _) ?_|refine AJ.det (hbi) ?_|refine AJ.det (hnm) ?_|refine AJ.det (hal) ?_|(refine A9 rfl (fun h=>?_) (fun h=>?_)<;>try (cases h;done))|fail)<;>try simp only [AA,Aa,go_sem]))
   all_goals clear hleaf hbi hnm hal
   all_goals (refine fin _ _ ?_;simp [QX,R0,nmB,nuB,nsB,asB,nkB, *] at *;try (have hpr:=oZ u;grind))
 . have hno:QX o n u ns ks.length al=false:=by
    simp only [not_or] at ho;simp [QX,nkB,ho]
   simp only [not_or] at ho;obtain ⟨h1,h2,h3,h4,h5,h6,h7,h8,h9,h10,h11,h12,h13,h14,h15,h16,h17⟩:=ho;(repeat' ((first|refine wQ mxQ rfl ?_|refine Run.qP Ju ?_|fail)<;>try simp only [Cr h1,Cr h2,Cr h3,Cr h4,Cr h5,Cr h6,Cr h7,Cr h8,Cr h9,Cr h10,Cr h11,Cr h12,Cr h13,Cr h14,Cr h15,Cr h16,Cr h17,go_sem]));rw [hno]
end Go.Ab
namespace Go.Ab
open Go.Proofs
section
variable {α β:Type}
theorem Lw {f:β->α->Option β} {l:List α} {i:Nat} {x:α} {a b:β} (h:(l.take i).foldlM f a=some b) (hx:l[i]?=some x):(l.take (i+1)).foldlM f a=f b x:=by
 rw [Ae hx,List.foldlM_append,h];simp [List.foldlM]
theorem Lv {f:β->α->Option β} {l:List α} {i:Nat} {x:α} {a b:β} (h:(l.take i).foldlM f a=some b) (hx:l[i]?=some x) (hn:f b x=none):l.foldlM f a=none:=by
 conv=>lhs;rw [<- Ac i l]
 rw [List.foldlM_append,h,Bv hx];simp [List.foldlM,hn]
theorem iK {f:Nat->α->Option Nat}:∀(l:List α) (a b:Nat),(∀x∈l,∀a b,f a x=some b->b<=a)->l.foldlM f a=some b->b<=a
 |[],a,b,_,h=>by simp [List.foldlM] at h;omega
 |x::l,a,b,hf,h=>by
  simp only [List.foldlM,AP,AB] at h;obtain ⟨c,hc,h⟩:=h;have:=iK l c b (fun y hy=>hf y (AU _ hy)) h;have:=hf x (AW ..) a c hc;omega
end
theorem Wa:∀(d q:Nat) (e:Ex) (r:Nat),vEx d q e=some r->r<=q
 |0,q,e,r,h=>by cases h
 |d+1,0,.mk ..,r,h=>by cases h
 |d+1,q+1,.mk o n u ns ks al,r,h=>by
  simp only [vEx] at h;split at h
  . simp only [AB] at h;obtain ⟨c,hc,h⟩:=h;have h1:=iK ks q c (fun x _ a b hab=>Wa d a x b hab) hc;have h2:=iK al c r (fun x _ a b hab=>by cases x;exact Wa d a _ b hab) h;omega
  . cases h
def VXQ (enc:Nat->Int) (j d q:Nat) (e:Ex) (σ:AH) (v:AV) (σ':AH):Prop:=
 ∃b z,v= .d (.bool b)/\σ'=σ.AM j [.d (.int .i64 z)]/\b=(vEx d q e).isSome/\∀r,vEx d q e=some r->z=enc r
theorem VXQ.yes {enc:Nat->Int} {j d q:Nat} {e:Ex} {σ:AH} {P:Program} {f:FuncId} {args:List AV} {r:Nat} (h:AS P f args σ (VXQ enc j d q e σ)) (hr:vEx d q e=some r):AS P f args σ (fun v σ'=>v= .d (.bool true)/\σ'=σ.AM j [.d (.int .i64 (enc r))]):=
 h.mono (by
  rintro v σ' ⟨b,z,rfl,rfl,rfl,h⟩;rw [h r hr,hr];exact ⟨rfl,rfl⟩)
theorem VXQ.no {enc:Nat->Int} {j d q:Nat} {e:Ex} {σ:AH} {P:Program} {f:FuncId} {args:List AV} (h:AS P f args σ (VXQ enc j d q e σ)) (hr:vEx d q e=none):AS P f args σ (fun v σ'=>v= .d (.bool false)/\∃z,σ'=σ.AM j [.d (.int .i64 z)]):=
 h.mono (by
  rintro v σ' ⟨b,z,rfl,rfl,rfl,h⟩;rw [hr];exact ⟨rfl,z,rfl⟩)
def fK (d:Nat):Nat->Ex->Option Nat:=fun q e=>vEx d q e
def fA (d:Nat):Nat->Al->Option Nat:=fun q a=>match a with| .mk _ _ b=>vEx d q b
theorem Wb (d q:Nat) (o:Int) (n:Str) (u:Int) (ns:List Str) (ks:List Ex) (al:List Al):vEx (d+1) (q+1) (.mk o n u ns ks al)=if QX o n u ns ks.length al then (ks.foldlM (fK d) q).bind fun q=>al.foldlM (fA d) q else none:=rfl
def OH (r:Nat):Int:=((600 - r:Nat):Int)
theorem eL (j:Nat):∀(d q:Nat),d<=40->q<=600->∀(e:Ex) (σ:AH),σ.blk j=some [.d (.int .i64 (OH q))]->
 AS Tzp 84 [.gp j 0,exA e,.d (.int .i64 ((41 - d:Nat):Int))] σ (VXQ OH j d q e σ):=by
 intro d
 induction d with
 |zero=>
  intro q _ hq e σ hj;obtain ⟨o,n,u,ns,ks,al⟩:=e;refine Lf (by simp) ?_;rw [D6,exA,Ex.A4];have hw:IntKind.i64.wrap (OH q+1)=((601 - q:Nat):Int):=by rw [OH,BP (by omega) (by omega)];omega
  have h4:decide ((40:Int) < ((41 - 0:Nat):Int))=true:=by decide
  (repeat' ((first|refine wQ mxQ rfl ?_|refine Run.qR C6 ?_|(refine A9 rfl (fun h=>?_) (fun h=>?_)<;>try (cases h;done))|fail)<;>try simp only [hj,hw,h4,go_sem]))
  all_goals exact ⟨false,_,rfl,rfl,rfl,fun r h=>by cases h⟩
 |succ d ihd=>
  intro q hd hq e σ hj;obtain ⟨o,n,u,ns,ks,al⟩:=e;refine Lf (by simp) ?_;rw [D6,exA,Ex.A4];cases q with
  |zero=>
   have hw:IntKind.i64.wrap (OH 0+1)=601:=by decide
   have h6:decide ((600:Int) < 601)=true:=by decide
   (repeat' ((first|refine wQ mxQ rfl ?_|refine Run.qR C6 ?_|fail)<;>try simp only [hj,hw,h6,go_sem]));exact ⟨false,_,rfl,rfl,rfl,fun r h=>by cases h⟩
  |succ q=>
  have hw:IntKind.i64.wrap (OH (q+1)+1)=OH q:=by
   have e:OH (q+1)+1=OH q:=by simp only [OH];omega
   rw [e];exact BP (by simp only [OH];omega) (by simp only [OH];omega)
  have h6:decide ((600:Int) < OH q)=false:=decide_eq_false (Int.not_lt.2 (by unfold OH;omega));have h4:decide ((40:Int) < ((41 - (d+1):Nat):Int))=false:=by simp only [decide_eq_false_iff_not];omega
  have hnode:=rZ o n u ns ks al;simp only [exA,Ex.A4,AG,AN] at hnode
  have hw2:IntKind.i64.wrap (((41 - (d+1):Nat):Int)+1)=((41 - d:Nat):Int):=by
   have e:((41 - (d+1):Nat):Int)+1=((41 - d:Nat):Int):=by omega
   rw [e];exact BP (by omega) (by omega)
  cases hn:QX o n u ns ks.length al with
  |false=>
   rw [hn] at hnode;(repeat' ((first|refine wQ mxQ rfl ?_|refine Run.qR C6 ?_|refine AJ.det (hnode _) ?_|fail)<;>try simp only [hj,hw,h6,h4,go_sem]));exact ⟨false,_,rfl,rfl,by rw [Wb,if_neg (by simp [hn])];rfl,fun r h=>by rw [Wb,if_neg (by simp [hn])] at h;cases h⟩
  |true=>
  rw [hn] at hnode;have hres:vEx (d+1) (q+1) (.mk o n u ns ks al)=(ks.foldlM (fK d) q).bind fun q=>al.foldlM (fA d) q:=by rw [Wb,if_pos hn]
  generalize hV:VXQ OH j (d+1) (q+1) (.mk o n u ns ks al) σ=V
  have hno:∀z,vEx (d+1) (q+1) (.mk o n u ns ks al)=none->V (.d (.bool false)) (σ.AM j [.d (.int .i64 z)]):=fun z h=>by
   rw [<- hV];exact ⟨false,z,rfl,rfl,by rw [h];rfl,fun r hr=>by rw [h] at hr;cases hr⟩
  have hyes:∀r,vEx (d+1) (q+1) (.mk o n u ns ks al)=some r->V (.d (.bool true)) (σ.AM j [.d (.int .i64 (OH r))]):=fun z h=>by
   rw [<- hV];exact ⟨true,_,rfl,rfl,by rw [h];rfl,fun r hr=>by rw [h] at hr;cases hr;rfl⟩
  clear hV;(repeat' ((first|refine wQ mxQ rfl ?_|refine AJ.det (hnode _) ?_|fail)<;>try simp only [hj,hw,h6,h4,AA,go_sem]));refine Run.cell 4 4 rfl rfl (fun hb4=>?_);refine Run.cell 4 5 rfl rfl (fun hb5=>?_);simp only [AV.FU,AA] at hb4 hb5;refine Run.BB ?_
  refine Run.BG ((fun (a0:AV) (a2:AV) (a4:AV) (a33:AV) (a34:AV)=>fun (y:Nat×Nat)=>put 0 a0 (put 2 a2 (put 4 a4 (put 33 a33 (put 34 a34 (put 35 (.d (.int .i64 y.1)) U)))))) _ _ _ _ _) (fun _=>Ar 4 [.d (.int .i64 o),.d (.str n),.d (.int .i64 u),.d (.sl (ns.map Bb)),.d (.sl (ks.map Ex.enc)),.d (.sl (al.map Al.enc))] E) (fun y=>σ.AM j [.d (.int .i64 (OH y.2))])
   (fun y=>y.1<=ks.length/\y.2<=q/\(ks.take y.1).foldlM (fK d) q=some y.2) (fun y=>ks.length - y.1) ?_ (0,q) ⟨by simp,AR _,rfl⟩
  rintro ⟨i,p⟩ ⟨hi,hp,hok⟩ ih;simp only at hi hp hok;by_cases hlt:i < ks.length
  . obtain ⟨x,hx⟩:=Ak hlt;have he:=BR (enc:=Ex.enc) hx;have hw1:IntKind.i64.wrap ((i:Int)+1)=((i+1:Nat):Int):=by rw [BP (by omega) (by omega)];omega
    have hc:=ihd p (by omega) (by omega) x (σ.AM j [.d (.int .i64 (OH p))]) (by simp only [AI,if_true]);cases hv:vEx d p x with
    |some r=>
     have hr:=Wa _ _ _ _ hv;have hc:=VXQ.yes hc hv;have hs:=Lw hok hx;obtain ⟨xo,xn,xu,xs,xk,xa⟩:=x;simp only [Ex.A4,exA,AG,AN] at he hc;(repeat' ((first|refine wQ mxQ rfl ?_|(refine AJ.mk rfl hc ?_;rintro _ _ ⟨rfl,rfl⟩)|fail)<;>try simp only [Ag hlt,he,hw1,hw2,go_sem]));exact ih (i+1,r) ⟨by simp only;omega,by simp only;omega,by simp only;rw [hs];exact hv⟩ (by simp only;omega)
    |none=>
     have hc:=VXQ.no hc hv;have hs:=Lv hok hx hv;obtain ⟨xo,xn,xu,xs,xk,xa⟩:=x;simp only [Ex.A4,exA,AG,AN] at he hc;(repeat' ((first|refine wQ mxQ rfl ?_|refine Run.qR C6 ?_|(refine AJ.mk rfl hc ?_;rintro _ _ ⟨rfl,z,rfl⟩)|fail)<;>try simp only [Ag hlt,he,hw1,hw2,go_sem]));exact hno z (by rw [hres,hs];rfl)
  . rw [AO (by omega)] at hok;rw [hok,HT] at hres;clear ih;(repeat' (refine wQ mxQ rfl ?_<;>try simp only [Bk hlt,AA,go_sem]));refine Run.BB ?_
    refine Run.BG ((fun (a0:AV) (a2:AV) (a47:AV) (a48:AV)=>fun (y:Nat×Nat)=>put 0 a0 (put 2 a2 (put 47 a47 (put 48 a48 (put 49 (.d (.int .i64 y.1)) U))))) _ _ _ _) (fun _=>E) (fun y=>σ.AM j [.d (.int .i64 (OH y.2))])
     (fun y=>y.1<=al.length/\y.2<=q/\(al.take y.1).foldlM (fA d) p=some y.2) (fun y=>al.length - y.1) ?_ (0,p) ⟨by simp,hp,rfl⟩
    rintro ⟨i,p⟩ ⟨hi,hp,hok⟩ ih;simp only at hi hp hok;by_cases hlt:i < al.length
    . obtain ⟨x,hx⟩:=Ak hlt;have he:=BR (enc:=Al.enc) hx;have hw1:IntKind.i64.wrap ((i:Int)+1)=((i+1:Nat):Int):=by rw [BP (by omega) (by omega)];omega
      obtain ⟨xc,xv,x⟩:=x;have hc:=ihd p (by omega) (by omega) x (σ.AM j [.d (.int .i64 (OH p))]) (by simp only [AI,if_true]);cases hv:vEx d p x with
      |some r=>
       have hr:=Wa _ _ _ _ hv;have hc:=VXQ.yes hc hv;have hs:=Lw hok hx;obtain ⟨xo,xn,xu,xs,xk,xa⟩:=x;simp only [Al.A4,Ex.A4,exA,AG,AN] at he hc;(repeat' ((first|refine wQ mxQ rfl ?_|(refine AJ.mk rfl hc ?_;rintro _ _ ⟨rfl,rfl⟩)|fail)<;>try simp only [Ag hlt,he,hw1,hw2,go_sem]));exact ih (i+1,r) ⟨by simp only;omega,by simp only;omega,by simp only;rw [hs];exact hv⟩ (by simp only;omega)
      |none=>
       have hc:=VXQ.no hc hv;have hs:=Lv hok hx hv;obtain ⟨xo,xn,xu,xs,xk,xa⟩:=x;simp only [Al.A4,Ex.A4,exA,AG,AN] at he hc;(repeat' ((first|refine wQ mxQ rfl ?_|refine Run.qR C6 ?_|(refine AJ.mk rfl hc ?_;rintro _ _ ⟨rfl,z,rfl⟩)|fail)<;>try simp only [Ag hlt,he,hw1,hw2,go_sem]));exact hno z (by rw [hres,hs])
    . rw [AO (by omega)] at hok;(repeat' ((first|refine wQ mxQ rfl ?_|refine Run.qR C6 ?_|fail)<;>try simp only [Bk hlt,go_sem]));exact hyes p (by rw [hres,hok])
theorem Tg (u:Int) (σ:AH):AS Tzp 105 [.d (.int .i64 u)] σ (fun v σ'=>v= .d (.int .i64 (Xz u))/\σ'=σ):=by
 refine iR (by simp) ?_;rw [Bs];by_cases h:1<=u/\u<=7
 . obtain ⟨h1,h2⟩:=h;obtain rfl|rfl|rfl|rfl|rfl|rfl|rfl:u=1\/u=2\/u=3\/u=4\/u=5\/u=6\/u=7:=by omega
   all_goals (repeat' (first|((first|refine wQ mxQ rfl ?_|refine Run.qP Ks ?_|fail)<;>try simp only [AE,Int.reduceLT,Int.reduceLE,PZ,go_sem])|(refine ⟨fun h=>?_,fun h=>?_⟩<;>first|(cases h;done)|try simp only [h])|fail))
   all_goals rfl
 . have hp:Xz u=0:=by
    have:=oZ u;omega
   rw [hp];by_cases h1:u < 1
   . (repeat' ((first|refine wQ mxQ rfl ?_|refine Run.qP Ks ?_|fail)<;>try simp only [decide_eq_true h1,go_sem]));rfl
   . have h8:decide (((8:Nat):Int)<=u)=true:=by simp;omega
     (repeat' ((first|refine wQ mxQ rfl ?_|refine Run.qP Ks ?_|fail)<;>try simp only [decide_eq_false h1,h8,go_sem]));rfl
end Go.Ab
namespace Go.Ab
open Go.Proofs
def dH (o:Int) (n:Str) (u:Int) (ns:List Str) (nk na:Nat):Bool:=
 nmB o n&&nuB o u&&nsB o ns&&(if o=10 then decide (1<=na) else decide (na=0))&&nkB o u nk
theorem dG (o:Int) (n:Str) (u:Int) (ns:List Str) (nk:Nat) (al:List Al):QX o n u ns nk al=(dH o n u ns nk al.length&&al.all ZI):=by
 unfold QX dH asB;split
 . cases nmB o n<;>cases nuB o u<;>cases nsB o ns<;>cases nkB o u nk<;>simp
 . cases al with
   |nil=>simp
   |cons a l=>simp
theorem Sx (l:List Str):O8 l false=(decide (l.length<=6)&&l.all VN):=by
 unfold O8;congr 2;funext s;simp only [VN,JI,Be];exact Bool.or_comm _ _
theorem VO (l:List Str):O8 l true=(decide (l.length<=6)&&l.all FV):=by
 unfold O8;congr 2;funext s;simp
def Hj (r:Nat):Int:=(r:Int)
theorem AH6 (j d q:Nat) (ihd:∀(q:Nat),q<=600->∀(e:Ex) (σ:AH),σ.blk j=some [.d (.int .i64 (Hj q))]->AS Tzp 72 [exA e,.d (.int .i64 (d:Int)),.gp j 0] σ (VXQ Hj j d q e σ)) (hd:d < 40) (hq:q<=600)
 (o:Int) (n:Str) (u:Int) (ns:List Str) (ks:List Ex) (al:List Al) (σ:AH) (hnode:dH o n u ns ks.length al.length=true):
 Run I7 (VXQ Hj j (d+1) (q+1) (.mk o n u ns ks al) σ) [.code (.loop Kj),.blk 1,.code (.seq (.seq (.reg [⟨some 14,.mv (.c (.d (.int .i64 0))),none⟩] [1,2,3,14]) (.block 3 (.loop QG))) (.seq (.reg [⟨some 6,.mv (.c (.d (.bool true))),none⟩] [6]) .ret))]
  (put 1 (.d (.int .i64 ((d+1:Nat):Int))) (put 2 (.gp j 0) (put 3 (.lp 3 0) (put 13 (.d (.int .i64 0)) U)))) (Ar 3 [.d (.int .i64 o),.d (.str n),.d (.int .i64 u),.d (.sl (ns.map Bb)),.d (.sl (ks.map Ex.enc)),.d (.sl (al.map Al.enc))] E) (σ.AM j [.d (.int .i64 (Hj q))]):=by
 have hws:IntKind.i64.wrap (((d+1:Nat):Int) - 1)=(d:Int):=PW (by omega);have hres:vEx (d+1) (q+1) (.mk o n u ns ks al)=if al.all ZI then (ks.foldlM (fK d) q).bind fun q=>al.foldlM (fA d) q else none:=by rw [Wb,dG,hnode,BW]
 generalize hV:VXQ Hj j (d+1) (q+1) (.mk o n u ns ks al) σ=V
 have hno:∀z,vEx (d+1) (q+1) (.mk o n u ns ks al)=none->V (.d (.bool false)) (σ.AM j [.d (.int .i64 z)]):=fun z h=>by
  rw [<- hV];exact ⟨false,z,rfl,rfl,by rw [h];rfl,fun r hr=>by rw [h] at hr;cases hr⟩
 have hyes:∀r,vEx (d+1) (q+1) (.mk o n u ns ks al)=some r->V (.d (.bool true)) (σ.AM j [.d (.int .i64 (Hj r))]):=fun z h=>by
  rw [<- hV];exact ⟨true,_,rfl,rfl,by rw [h];rfl,fun r hr=>by rw [h] at hr;cases hr;rfl⟩
 clear hV;refine Run.cell 3 4 rfl rfl (fun hb4=>?_);refine Run.cell 3 5 rfl rfl (fun hb5=>?_);simp only [AV.FU,AA] at hb4 hb5;refine Run.BB ?_
 refine Run.BG ((fun (a1:AV) (a2:AV) (a3:AV)=>fun (y:Nat×Nat)=>put 1 a1 (put 2 a2 (put 3 a3 (put 13 (.d (.int .i64 y.1)) U)))) _ _ _) (fun _=>Ar 3 [.d (.int .i64 o),.d (.str n),.d (.int .i64 u),.d (.sl (ns.map Bb)),.d (.sl (ks.map Ex.enc)),.d (.sl (al.map Al.enc))] E) (fun y=>σ.AM j [.d (.int .i64 (Hj y.2))])
  (fun y=>y.1<=ks.length/\y.2<=q/\(ks.take y.1).foldlM (fK d) q=some y.2) (fun y=>ks.length - y.1) ?_ (0,q) ⟨by simp,AR _,rfl⟩
 rintro ⟨i,p⟩ ⟨hi,hp,hok⟩ ih;simp only at hi hp hok;by_cases hlt:i < ks.length
 . obtain ⟨x,hx⟩:=Ak hlt;have he:=BR (enc:=Ex.enc) hx;have hw1:IntKind.i64.wrap ((i:Int)+1)=((i+1:Nat):Int):=by rw [BP (by omega) (by omega)];omega
   have hc:=ihd p (by omega) x (σ.AM j [.d (.int .i64 (Hj p))]) (by simp only [AI,if_true]);cases hv:vEx d p x with
   |some r=>
    have hr:=Wa _ _ _ _ hv;have hc:=VXQ.yes hc hv;have hs:=Lw hok hx;obtain ⟨xo,xn,xu,xs,xk,xa⟩:=x;simp only [Ex.A4,exA,AG,AN] at he hc;(repeat' ((first|refine wQ mxQ rfl ?_|(refine AJ.mk rfl hc ?_;rintro _ _ ⟨rfl,rfl⟩)|fail)<;>try simp only [Ag hlt,he,hw1,hws,AA,go_sem]));exact ih (i+1,r) ⟨by simp only;omega,by simp only;omega,by simp only;rw [hs];exact hv⟩ (by simp only;omega)
   |none=>
    have hc:=VXQ.no hc hv;have hs:=Lv hok hx hv;obtain ⟨xo,xn,xu,xs,xk,xa⟩:=x;simp only [Ex.A4,exA,AG,AN] at he hc;(repeat' ((first|refine wQ mxQ rfl ?_|refine Run.qR Ch ?_|(refine AJ.mk rfl hc ?_;rintro _ _ ⟨rfl,z,rfl⟩)|fail)<;>try simp only [Ag hlt,he,hw1,hws,AA,go_sem]));refine hno z ?_;rw [hres,hs];split<;>rfl
 . rw [AO (by omega)] at hok;rw [hok,HT] at hres;clear ih;(repeat' (refine wQ mxQ rfl ?_<;>try simp only [Bk hlt,AA,go_sem]));refine Run.BB ?_
   refine Run.BG ((fun (a1:AV) (a2:AV) (a3:AV)=>fun (y:Nat×Nat)=>put 1 a1 (put 2 a2 (put 3 a3 (put 14 (.d (.int .i64 y.1)) U)))) _ _ _) (fun _=>Ar 3 [.d (.int .i64 o),.d (.str n),.d (.int .i64 u),.d (.sl (ns.map Bb)),.d (.sl (ks.map Ex.enc)),.d (.sl (al.map Al.enc))] E) (fun y=>σ.AM j [.d (.int .i64 (Hj y.2))])
    (fun y=>y.1<=al.length/\y.2<=q/\(al.take y.1).all ZI=true/\(al.take y.1).foldlM (fA d) p=some y.2) (fun y=>al.length - y.1) ?_ (0,p) ⟨by simp,hp,by simp,rfl⟩
   rintro ⟨i,p⟩ ⟨hi,hp,hab,hok⟩ ih;simp only at hi hp hab hok;by_cases hlt:i < al.length
   . obtain ⟨x,hx⟩:=Ak hlt;have he:=BR (enc:=Al.enc) hx;have hw1:IntKind.i64.wrap ((i:Int)+1)=((i+1:Nat):Int):=by rw [BP (by omega) (by omega)];omega
     cases halt:ZI x with
     |false=>
      have hna:al.all ZI=false:=gO hx halt;rw [hna] at hres;have hnz:=hno (Hj p) (by rw [hres];rfl);obtain ⟨xc,xv,xo,xn,xu,xs,xk,xa⟩:=x;simp only [Al.A4] at he;cases hup:HC xc with
      |false=>
       have h1:=Dh xc 2 (σ.AM j [.d (.int .i64 (Hj p))]);rw [show Jj 2 xc=HC xc from rfl,hup] at h1;(repeat' ((first|refine wQ mxQ rfl ?_|refine Run.qR Ch ?_|refine AJ.det (h1) ?_|fail)<;>try simp only [Ag hlt,he,hw1,hws,AA,go_sem]));exact hnz
      |true=>
       have h1:=Dh xc 2 (σ.AM j [.d (.int .i64 (Hj p))]);rw [show Jj 2 xc=HC xc from rfl,hup] at h1;have h2:=KV xv false (σ.AM j [.d (.int .i64 (Hj p))])
       have hb:O8 xv false=false:=by
        rw [Sx];simp only [ZI,hup,BW] at halt;exact halt
       rw [hb] at h2;(repeat' ((first|refine wQ mxQ rfl ?_|refine Run.qR Ch ?_|refine AJ.det (h1) ?_|refine AJ.det (h2) ?_|fail)<;>try simp only [Ag hlt,he,hw1,hws,AA,go_sem]));exact hnz
     |true=>
      have hab2:=M5 hab hx halt;obtain ⟨xc,xv,x⟩:=x;have hup:HC xc=true:=by simp only [ZI,AQ] at halt;exact halt.1.1
      have hbn:O8 xv false=true:=by rw [Sx];simp only [ZI,AQ] at halt ⊢;exact ⟨halt.1.2,halt.2⟩
      have h1:=Dh xc 2 (σ.AM j [.d (.int .i64 (Hj p))]);rw [show Jj 2 xc=HC xc from rfl,hup] at h1;have h2:=KV xv false (σ.AM j [.d (.int .i64 (Hj p))]);rw [hbn] at h2;have hc:=ihd p (by omega) x (σ.AM j [.d (.int .i64 (Hj p))]) (by simp only [AI,if_true]);cases hv:vEx d p x with
      |some r=>
       have hr:=Wa _ _ _ _ hv;have hc:=VXQ.yes hc hv;have hs:=Lw hok hx;obtain ⟨xo,xn,xu,xs,xk,xa⟩:=x;simp only [Al.A4,Ex.A4,exA,AG,AN] at he hc;(repeat' ((first|refine wQ mxQ rfl ?_|(refine AJ.mk rfl hc ?_;rintro _ _ ⟨rfl,rfl⟩)|refine AJ.det (h1) ?_|refine AJ.det (h2) ?_|fail)<;>try simp only [Ag hlt,he,hw1,hws,AA,go_sem]));exact ih (i+1,r) ⟨by simp only;omega,by simp only;omega,hab2,by simp only;rw [hs];exact hv⟩ (by simp only;omega)
      |none=>
       have hc:=VXQ.no hc hv;have hs:=Lv hok hx hv;obtain ⟨xo,xn,xu,xs,xk,xa⟩:=x;simp only [Al.A4,Ex.A4,exA,AG,AN] at he hc;(repeat' ((first|refine wQ mxQ rfl ?_|refine Run.qR Ch ?_|(refine AJ.mk rfl hc ?_;rintro _ _ ⟨rfl,z,rfl⟩)|refine AJ.det (h1) ?_|refine AJ.det (h2) ?_|fail)<;>try simp only [Ag hlt,he,hw1,hws,AA,go_sem]));refine hno z ?_;rw [hres,hs];split<;>rfl
   . rw [AO (by omega)] at hok hab;(repeat' ((first|refine wQ mxQ rfl ?_|refine Run.qR Ch ?_|fail)<;>try simp only [Bk hlt,AA,go_sem]));exact hyes p (by rw [hres,hab,if_pos rfl,hok])
end Go.Ab
namespace Go.Ab
open Go.RowKit
variable {P:Program} {K:CO} {F:Fm} {L:Lm} {σ:AH}
def sel (c:Bool) (v:AV):AV:=if c then v else .tup []
theorem YD (v:AV):sel true v=v:=rfl
def GV (want:Bool) (x:AV) (c:Bool):Prop:=gdV want x=some c
theorem GV.t {b:Bool}:GV true (.d (.bool b)) b:=by cases b<;>rfl
theorem GV.f {b:Bool}:GV false (.d (.bool b)) (!b):=by cases b<;>rfl
theorem GV.st {b c:Bool}:GV true (sel c (.d (.bool b))) (c&&b):=by cases b<;>cases c<;>rfl
theorem GV.sf {b c:Bool}:GV false (sel c (.d (.bool b))) (c&& !b):=by cases b<;>cases c<;>rfl
def Is (d:Nat) (v:AV) (F:Fm) (L:Lm) (σ:AH):CO:=fun F' L' σ'=>F'=put d v F/\L'=L/\σ'=σ
theorem Is.mk {d:Nat} {v:AV}:Is d v F L σ (put d v F) L σ:=⟨rfl,rfl,rfl⟩
theorem AQO {d s:Nat} {o:O} {want c:Bool} {v:AV} {r:List Q} (hg:GV want (F s) c)
 (hy:c=true->B8 P (Is d v F L σ) [⟨some d,o,none⟩] F L σ)
 (hk:B8 P K r (put d (sel c v) F) L σ):B8 P K (⟨some d,o,some (s,want)⟩::r) F L σ:=by
 show XG (gd F (some (s,want))) (XO P (some d) (B8 P K r) F L σ o) (B8 P K r (BI (some d) (.tup []) F) L σ);have hgd:gd F (some (s,want))=some c:=hg;rw [hgd];cases c with
 |true=>exact wF (fun F' L' σ' ⟨h1,h2,h3⟩=>by rw [h1,h2,h3];exact hk) (hy rfl)
 |false=>exact hk
theorem Dd (c x:Bool):(if c=true then sel c (.d (.bool x)) else (.d (.bool false)))=AV.d (.bool (c&&x)):=by cases c<;>rfl
theorem GM (c x:Bool):(if c=true then (.d (.bool true)) else sel (!c) (.d (.bool x)))=AV.d (.bool (c||x)):=by cases c<;>rfl
end Go.Ab
namespace Go.Ab
theorem ZC {P:Program} {K:CO} {F:Fm} {L:Lm} {σ:AH} {d s:Nat} {o:O} {want c:Bool} {r:List Q} (hg:GV want (F s) c)
 (h:∃v,(c=true->B8 P (Is d v F L σ) [⟨some d,o,none⟩] F L σ)/\B8 P K r (put d (sel c v) F) L σ):B8 P K (⟨some d,o,some (s,want)⟩::r) F L σ:=by
 obtain ⟨v,h1,h2⟩:=h;exact AQO hg h1 h2
end Go.Ab
namespace Go.Ab
theorem Is.pv {d:Nat} {v:AV} {F:Fm} {L:Lm} {σ:AH} {x:Option AV} (h:x=some v):XPv x (some d) (Is d v F L σ) F L σ:=by
 subst h;exact Is.mk
theorem AJ.xQ {P:Program} {f:FuncId} {args args':List AV} {d:Option Nat} {K:CO} {F:Fm} {L:Lm} {σ:AH} (e:args=args') (h:AJ P f args' d K F L σ):AJ P f args d K F L σ:=e ▸ h
end Go.Ab
namespace Go.Ab
theorem Ds (c:Bool) (v:AV):sel c (sel c v)=sel c v:=by cases c<;>rfl
theorem Fu (c x:Bool) (v:AV):sel (c&&x) (sel c v)=sel (c&&x) v:=by cases c<;>cases x<;>rfl
theorem Fv (c x:Bool) (v:AV):sel (c&&x) (sel x v)=sel (c&&x) v:=by cases c<;>cases x<;>rfl
end Go.Ab
namespace Go.Ab
theorem De (c x:Bool):(if (!c)=true then (.d (.bool true)) else sel c (.d (.bool x)))=AV.d (.bool (!c||x)):=by cases c<;>rfl
end Go.Ab
namespace Go.Ab
open Go.Proofs
def ACE (nm nu nn na:Bool) (lo hi:Nat) (n:Str) (u:Int) (a k b:Nat):Bool:=
 (nm||n==[])&&(nu||u==0)&&(nn||decide (a=0))&&(na||decide (b=0))&&decide (lo<=k)&&decide (k<=hi)
theorem AH5 (o:Int) (n:Str) (u:Int) (ns:List Str) (ks:List Ex) (al:List Al) (d j:Nat) (σ:AH) (nm nu nn na:Bool) (lo hi:Nat):
 B8 Tzp (Cut [1,2,3,201] (put 1 (.d (.int .i64 ((d+1:Nat):Int))) (put 2 (.gp j 0) (put 3 (.lp 3 0) (put 201 (.d (.bool (!ACE nm nu nn na lo hi n u ns.length ks.length al.length))) U)))) (Ar 3 [.d (.int .i64 o),.d (.str n),.d (.int .i64 u),.d (.sl (ns.map Bb)),.d (.sl (ks.map Ex.enc)),.d (.sl (al.map Al.enc))] E) σ)
  [⟨some 152,.mv (.t 7),none⟩,⟨some 153,.un .not (.t 152),none⟩,⟨some 154,.mv (.t 153),none⟩,⟨some 155,.fld (.t 3) 1,some (154,true)⟩,⟨some 156,.ldl (.t 155) none,some (154,true)⟩,⟨some 157,.bin .neq (.t 156) (.c (.d (.str []))),some (154,true)⟩,⟨some 158,.pick (.t 154) (.t 157) (.c (.d (.bool false))),none⟩,⟨some 159,.mv (.t 158),none⟩,⟨some 160,.mv (.t 8),some (159,false)⟩,⟨some 161,.un .not (.t 160),some (159,false)⟩,⟨some 162,.mv (.t 161),some (159,false)⟩,⟨some 163,.fld (.t 3) 2,some (162,true)⟩,⟨some 164,.ldl (.t 163) none,some (162,true)⟩,⟨some 165,.bin .neq (.t 164) (.c (.d (.int .i64 0))),some (162,true)⟩,⟨some 166,.pick (.t 162) (.t 165) (.c (.d (.bool false))),some (159,false)⟩,⟨some 167,.pick (.t 159) (.c (.d (.bool true))) (.t 166),none⟩,⟨some 168,.mv (.t 167),none⟩,⟨some 169,.mv (.t 9),some (168,false)⟩,⟨some 170,.un .not (.t 169),some (168,false)⟩,⟨some 171,.mv (.t 170),some (168,false)⟩,⟨some 172,.fld (.t 3) 3,some (171,true)⟩,⟨some 173,.ldl (.t 172) none,some (171,true)⟩,⟨some 174,.len (.t 173),some (171,true)⟩,⟨some 175,.bin .gtr (.t 174) (.c (.d (.int .i64 0))),some (171,true)⟩,⟨some 176,.pick (.t 171) (.t 175) (.c (.d (.bool false))),some (168,false)⟩,⟨some 177,.pick (.t 168) (.c (.d (.bool true))) (.t 176),none⟩,⟨some 178,.mv (.t 177),none⟩,⟨some 179,.mv (.t 10),some (178,false)⟩,⟨some 180,.un .not (.t 179),some (178,false)⟩,⟨some 181,.mv (.t 180),some (178,false)⟩,⟨some 182,.fld (.t 3) 5,some (181,true)⟩,⟨some 183,.ldl (.t 182) none,some (181,true)⟩,⟨some 184,.len (.t 183),some (181,true)⟩,⟨some 185,.bin .gtr (.t 184) (.c (.d (.int .i64 0))),some (181,true)⟩,⟨some 186,.pick (.t 181) (.t 185) (.c (.d (.bool false))),some (178,false)⟩,⟨some 187,.pick (.t 178) (.c (.d (.bool true))) (.t 186),none⟩,⟨some 188,.mv (.t 187),none⟩,⟨some 189,.fld (.t 3) 4,some (188,false)⟩,⟨some 190,.ldl (.t 189) none,some (188,false)⟩,⟨some 191,.len (.t 190),some (188,false)⟩,⟨some 192,.mv (.t 11),some (188,false)⟩,⟨some 193,.bin .lss (.t 191) (.t 192),some (188,false)⟩,⟨some 194,.pick (.t 188) (.c (.d (.bool true))) (.t 193),none⟩,⟨some 195,.mv (.t 194),none⟩,⟨some 196,.fld (.t 3) 4,some (195,false)⟩,⟨some 197,.ldl (.t 196) none,some (195,false)⟩,⟨some 198,.len (.t 197),some (195,false)⟩,⟨some 199,.mv (.t 12),some (195,false)⟩,⟨some 200,.bin .gtr (.t 198) (.t 199),some (195,false)⟩,⟨some 201,.pick (.t 195) (.c (.d (.bool true))) (.t 200),none⟩]
  (put 1 (.d (.int .i64 ((d+1:Nat):Int))) (put 2 (.gp j 0) (put 3 (.lp 3 0) (put 7 (.d (.bool nm)) (put 8 (.d (.bool nu)) (put 9 (.d (.bool nn)) (put 10 (.d (.bool na)) (put 11 (.d (.int .i64 (lo:Nat))) (put 12 (.d (.int .i64 (hi:Nat))) U))))))))) (Ar 3 [.d (.int .i64 o),.d (.str n),.d (.int .i64 u),.d (.sl (ns.map Bb)),.d (.sl (ks.map Ex.enc)),.d (.sl (al.map Al.enc))] E) σ:=by
 have fin:∀(b c:Bool),(b=true↔c=true)->∀(a1 a2 a3:AV),(put 1 a1 (put 2 a2 (put 3 a3 (put 201 (.d (.bool b)) U))))=put 1 a1 (put 2 a2 (put 3 a3 (put 201 (.d (.bool c)) U))):=fun b c h a1 a2 a3=>by rw [Ax.2 h]
 simp only [Ec,go_sem];(repeat' (first|refine ctQ rfl ?_|(refine ZC (by first|exact GV.t|exact GV.f|exact GV.st|exact GV.sf) ⟨?_,fun h=>?_,?_⟩;rotate_left;(focus ((try simp only [AQ,NJ] at h);simp only [AA,Ec,gtN,ltN,go_sem];first|exact Is.mk|exact Is.pv (by simp only [h,YD,↓Dd,↓GM,↓De,AA,Ec,gtN,ltN,go_sem];rfl)));(try simp only [Ds,Fu,Fv,↓Dd,↓GM,↓De,AA,Ec,gtN,ltN,N0,go_sem]))|((first|refine rgQ mxQ ?_|refine cdQ ?_)<;>try simp only [Ds,Fu,Fv,↓Dd,↓GM,↓De,AA,Ec,gtN,ltN,go_sem])|fail));refine fin _ _ ?_ _ _ _;simp only [ACE];simp [bne]
 grind
theorem fE (j:Nat):∀(d q:Nat),d<=40->q<=600->∀(e:Ex) (σ:AH),σ.blk j=some [.d (.int .i64 (Hj q))]->
 AS Tzp 72 [exA e,.d (.int .i64 (d:Int)),.gp j 0] σ (VXQ Hj j d q e σ):=by
 intro d
 induction d with
 |zero=>
  intro q _ hq e σ hj;obtain ⟨o,n,u,ns,ks,al⟩:=e;refine Vh (by simp) ?_;rw [D6,exA,Ex.A4];have h0:(((0:Nat):Int)==0)=true:=by decide
  (repeat' ((first|refine wQ mxQ rfl ?_|refine Run.qR Ch ?_|fail)<;>try simp only [h0,go_sem]));exact ⟨false,Hj q,rfl,(GN hj).symm,rfl,fun r h=>by cases h⟩
 |succ d ihd=>
  intro q hd hq e σ hj;obtain ⟨o,n,u,ns,ks,al⟩:=e;refine Vh (by simp) ?_;rw [D6,exA,Ex.A4];have h0:(((d+1:Nat):Int)==0)=false:=by simp only [beq_eq_false_iff_ne,ne_eq];omega
  cases q with
  |zero=>
   have hz:(Hj 0==0)=true:=by decide
   (repeat' ((first|refine wQ mxQ rfl ?_|refine Run.qR Ch ?_|fail)<;>try simp only [h0,hj,hz,go_sem]));exact ⟨false,Hj 0,rfl,(GN hj).symm,rfl,fun r h=>by cases h⟩
  |succ q=>
  have hz:(Hj (q+1)==0)=false:=by simp only [Hj,beq_eq_false_iff_ne,ne_eq];omega
  have hwq:IntKind.i64.wrap (Hj (q+1) - 1)=Hj q:=PW (by omega);have hL:=fun h=>AH6 j d q (fun q hq e σ h=>ihd q (by omega) hq e σ h) (by omega) (by omega) o n u ns ks al σ h;have hbt:=KV ns true (σ.AM j [.d (.int .i64 (Hj q))]);have hbf:=KV ns false (σ.AM j [.d (.int .i64 (Hj q))])
  have hfail:dH o n u ns ks.length al.length=false->VXQ Hj j (d+1) (q+1) (.mk o n u ns ks al) σ (.d (.bool false)) (σ.AM j [.d (.int .i64 (Hj q))]):=fun h=>
   have hr:vEx (d+1) (q+1) (.mk o n u ns ks al)=none:=by rw [Wb,dG,h];rfl
   ⟨false,_,rfl,rfl,by rw [hr];rfl,fun r h=>by rw [hr] at h;cases h⟩
  generalize hV:VXQ Hj j (d+1) (q+1) (.mk o n u ns ks al) σ=V at hL hfail;clear ihd hV;(repeat' (first|refine Run.cb rfl ?_|((first|refine rgQ mxQ ?_|refine cdQ ?_)<;>try simp only [h0,hj,hz,hwq,go_sem])|fail));refine Run.yV (α:=Bool×Bool×Bool×Bool×Nat×Nat) [1,2,3,7,8,9,10,11,12] (fun a=>put 1 (.d (.int .i64 ((d+1:Nat):Int))) (put 2 (.gp j 0) (put 3 (.lp 3 0) (put 7 (.d (.bool a.1)) (put 8 (.d (.bool a.2.1)) (put 9 (.d (.bool a.2.2.1)) (put 10 (.d (.bool a.2.2.2.1)) (put 11 (.d (.int .i64 (a.2.2.2.2.1:Nat))) (put 12 (.d (.int .i64 (a.2.2.2.2.2:Nat))) U))))))))) (Ar 3 [.d (.int .i64 o),.d (.str n),.d (.int .i64 u),.d (.sl (ns.map Bb)),.d (.sl (ks.map Ex.enc)),.d (.sl (al.map Al.enc))] E) (σ.AM j [.d (.int .i64 (Hj q))]) (fun a=>dH o n u ns ks.length al.length=ACE a.1 a.2.1 a.2.2.1 a.2.2.2.1 a.2.2.2.2.1 a.2.2.2.2.2 n u ns.length ks.length al.length) ?_ ?_
  . rintro ⟨nm,nu,nn,na,lo,hi⟩ hI;simp only at hI ⊢;(repeat (first
    |refine Run.seq ?_
    |refine Run.skip ?_
    |refine Run.block ?_
    |refine Run.blk ?_
    |refine Run.scope ?_
    |refine Run.scp ?_
    |(refine Run.exit rfl ?_)))
    refine Run.AOB mixed (put 1 (.d (.int .i64 ((d+1:Nat):Int))) (put 2 (.gp j 0) (put 3 (.lp 3 0) (put 201 (.d (.bool (!ACE nm nu nn na lo hi n u ns.length ks.length al.length))) U)))) (Ar 3 [.d (.int .i64 o),.d (.str n),.d (.int .i64 u),.d (.sl (ns.map Bb)),.d (.sl (ks.map Ex.enc)),.d (.sl (al.map Al.enc))] E) (σ.AM j [.d (.int .i64 (Hj q))]) ?_ ?_
    . exact AH5 o n u ns ks al d j _ nm nu nn na lo hi
    . cases hc:ACE nm nu nn na lo hi n u ns.length ks.length al.length with
      |true=>
       (repeat' (first|((first|refine wQ mxQ rfl ?_|(refine A9 rfl (fun h=>?_) (fun h=>?_)<;>try (cases h;done))|fail)<;>try simp only [hc,go_sem])|(refine ⟨fun h=>?_,fun h=>?_⟩<;>first|(cases h;done)|try simp only [h])|fail));exact hL (hI.trans hc)
      |false=>
       (repeat' (first|((first|refine wQ mxQ rfl ?_|refine Run.qR Ch ?_|(refine A9 rfl (fun h=>?_) (fun h=>?_)<;>try (cases h;done))|fail)<;>try simp only [go_sem])|(refine ⟨fun h=>?_,fun h=>?_⟩<;>first|(cases h;done)|try simp only [h])|fail));exact hfail (hI.trans hc)
  . intro hrest;clear hL;have key:=fun (F':Fm) (L':Lm) (nm nu nn na:Bool) (lo hi:Nat) h1 h2 h3=>hrest F' L' (nm,nu,nn,na,lo,hi) h1 h2 h3;simp only at key;clear hrest;have fin:∀b c:Bool,(b=true↔c=true)->b=c:=fun b c h=>Ax.2 h;by_cases ho:o=1\/o=2\/o=3\/o=4\/o=5\/o=6\/o=7\/o=8\/o=9\/o=10\/o=11\/o=12\/o=13\/o=14\/o=15\/o=16\/o=17
    . rcases ho with rfl|rfl|rfl|rfl|rfl|rfl|rfl|rfl|rfl|rfl|rfl|rfl|rfl|rfl|rfl|rfl|rfl
      all_goals (repeat' (first|(refine key _ _ ?_ ?_ ?_ ?_ ?_ ?_ ?_ ?_ ?_;rotate_left 6;(focus (simp only [Ds,Fu,Fv,↓Dd,↓GM,↓De,go_sem];rfl));(focus (simp only [Ds,Fu,Fv,↓Dd,↓GM,↓De,go_sem])))|refine ctQ rfl ?_|(refine ZC (by first|exact GV.t|exact GV.f|exact GV.st|exact GV.sf) ⟨?_,fun h=>?_,?_⟩;rotate_left;(focus ((try simp only [AQ,NJ] at h);simp only [Aa,AA,Bh,go_sem];first|exact Is.mk|exact Is.pv (by simp only [h,YD,↓Dd,↓GM,↓De,Aa,AA,Bh,go_sem];rfl)|(refine AJ.det (Dh _ _ _) ?_;exact Is.mk)|(refine AJ.det (Tg _ _) ?_;exact Is.mk)|(refine AJ.det (hbt) ?_;exact Is.mk)|(refine AJ.det (hbf) ?_;exact Is.mk)|(refine AJ.xQ (by simp only [h,YD];rfl) ?_;first|(refine AJ.det (Dh _ _ _) ?_;exact Is.mk)|(refine AJ.det (Tg _ _) ?_;exact Is.mk)|(refine AJ.det (hbt) ?_;exact Is.mk)|(refine AJ.det (hbf) ?_;exact Is.mk))));(try simp only [Ds,Fu,Fv,↓Dd,↓GM,↓De,Aa,AA,Bh,N0,go_sem]))|((first|refine rgQ mxQ ?_|refine cdQ ?_|refine Run.qR Ch ?_|refine AJ.det (Dh _ _ _) ?_|refine AJ.det (Tg _ _) ?_|refine AJ.det (hbt) ?_|refine AJ.det (hbf) ?_)<;>try simp only [Ds,Fu,Fv,↓Dd,↓GM,↓De,Aa,AA,Bh,go_sem])|(refine ⟨fun h=>?_,fun h=>?_⟩<;>first|(cases h;done)|try simp only [Ds,Fu,Fv,↓Dd,↓GM,↓De,h])|fail))
      all_goals clear key
      all_goals (try refine hfail ?_)
      all_goals clear hfail hbt hbf hj hz hwq h0
      all_goals (refine fin _ _ ?_;simp [dH,ACE,nmB,nuB,nsB,nkB,FV,HC,VN,VO,Sx, *] at *;try grind)
    . have hn:dH o n u ns ks.length al.length=false:=by
       simp only [not_or] at ho;simp [dH,nkB,ho]
      simp only [not_or] at ho;obtain ⟨h1,h2,h3,h4,h5,h6,h7,h8,h9,h10,h11,h12,h13,h14,h15,h16,h17⟩:=ho;(repeat' ((first|refine wQ mxQ rfl ?_|refine Run.qR Ch ?_|fail)<;>try simp only [Cr h1,Cr h2,Cr h3,Cr h4,Cr h5,Cr h6,Cr h7,Cr h8,Cr h9,Cr h10,Cr h11,Cr h12,Cr h13,Cr h14,Cr h15,Cr h16,Cr h17,go_sem]));exact hfail hn
end Go.Ab
namespace Go.Ab
open Go.Proofs
def Wx (c:CE):Prop:=∀t∈c.args,t.size<=1000000
def LL (d:DE):Prop:=∀c∈d.cons,Wx c
theorem AM6 {b c:Bool} (h:b=true↔c=true):AV.d (.bool b)=AV.d (.bool c):=by rw [Ax.2 h]
theorem cW (t:TE) (σ:AH) (h:t.size<=1000000):AS Tzp 112 [teA t] σ (fun v σ'=>v= .d (.bool (DL 40 t))/\σ'=σ):=by
 refine TW (by simp) ?_;rw [Bs];have hc:=Xh 40 (AR _) t σ h;rw [show ((41 - 40:Nat):Int)=1 from rfl] at hc;obtain ⟨k,n,l⟩:=t;simp only [TE.A4,teA,AG,AN] at hc ⊢;(repeat' ((first|refine wQ mxQ rfl ?_|refine Run.qP Kv ?_|refine AJ.det (hc) ?_|fail)<;>try simp only [go_sem]))
theorem lH (c:CE) (σ:AH) (h:Wx c):AS Tzp 110 [ceA c] σ (fun v σ'=>v= .d (.bool (eK c))/\σ'=σ):=by
 refine Vo (by simp) ?_;rw [Bs];have ha:=N7 (fid:=112) (caps:=[]) (by kernel_rfl) rfl (DL 40) c.args σ (fun t ht σ1 _=>cW t σ1 (h t ht));obtain ⟨nm,ar⟩:=c;simp only [CE.enc,ceA,AG,AN] at ha ⊢;have h6:decide ((ar.length:Int)<=6)=decide (ar.length<=6):=leN _ 6;(repeat' (first|refine ctQ rfl ?_|(refine ZC (by first|exact GV.t|exact GV.f|exact GV.st|exact GV.sf) ⟨?_,fun h=>?_,?_⟩;rotate_left;(focus ((try simp only [AQ,NJ] at h);simp only [AA,h6,go_sem];first|exact Is.mk|exact Is.pv (by simp only [h,YD,↓Dd,↓GM,↓De,AA,h6,go_sem];rfl)|(refine AJ.det (CD nm _) ?_;exact Is.mk)|(refine AJ.det (ha) ?_;exact Is.mk)|(refine AJ.xQ (by simp only [h,YD];rfl) ?_;first|(refine AJ.det (CD nm _) ?_;exact Is.mk)|(refine AJ.det (ha) ?_;exact Is.mk))));(try simp only [Ds,Fu,Fv,↓Dd,↓GM,↓De,AA,h6,Li,go_sem]))|((first|refine rgQ mxQ ?_|refine cdQ ?_|refine Run.qP Mf ?_|refine AJ.det (CD nm _) ?_|refine AJ.det (ha) ?_)<;>try simp only [Ds,Fu,Fv,↓Dd,↓GM,↓De,AA,h6,go_sem])|fail));simp only [eK]
theorem rX (d:DE) (σ:AH) (h:LL d):AS Tzp 81 [deA d] σ (fun v σ'=>v= .d (.bool (Na d))/\σ'=σ):=by
 refine Y9 (by simp) ?_;rw [Bs];have ha:=JK (fid:=82) (caps:=[]) (by kernel_rfl) rfl FV d.vars σ (fun x _ σ1 _=>EP x σ1);have hc:=YK (fid:=110) (caps:=[]) (by kernel_rfl) rfl eK d.cons σ (fun c hc σ1 _=>lH c σ1 (h c hc));obtain ⟨nm,vs,cs⟩:=d;simp only [DE.enc,deA,AG,AN] at ha hc ⊢;have h6:decide ((6:Int) < (vs.length:Int))=!decide (vs.length<=6):=gtN _ 6;have h8:decide ((8:Int) < (cs.length:Int))=!decide (cs.length<=8):=gtN _ 8;have h1:decide ((cs.length:Int) < 1)=decide (cs.length < 1):=ltN _ 1
 (repeat' (first|refine ctQ rfl ?_|(refine ZC (by first|exact GV.t|exact GV.f|exact GV.st|exact GV.sf) ⟨?_,fun h=>?_,?_⟩;rotate_left;(focus ((try simp only [AQ,NJ] at h);simp only [AA,h6,h8,h1,go_sem];first|exact Is.mk|exact Is.pv (by simp only [h,YD,↓Dd,↓GM,↓De,AA,h6,h8,h1,go_sem];rfl)|(refine AJ.det (CD nm _) ?_;exact Is.mk)|(refine AJ.det (ha) ?_;exact Is.mk)|(refine AJ.det (hc) ?_;exact Is.mk)|(refine AJ.xQ (by simp only [h,YD];rfl) ?_;first|(refine AJ.det (CD nm _) ?_;exact Is.mk)|(refine AJ.det (ha) ?_;exact Is.mk)|(refine AJ.det (hc) ?_;exact Is.mk))));(try simp only [Ds,Fu,Fv,↓Dd,↓GM,↓De,AA,h6,h8,h1,Nr,go_sem]))|((first|refine rgQ mxQ ?_|refine cdQ ?_|refine Run.qP Oo ?_|refine AJ.det (CD nm _) ?_|refine AJ.det (ha) ?_|refine AJ.det (hc) ?_)<;>try simp only [Ds,Fu,Fv,↓Dd,↓GM,↓De,AA,h6,h8,h1,go_sem])|(refine ⟨fun h=>?_,fun h=>?_⟩<;>first|(cases h;done)|try simp only [Ds,Fu,Fv,↓Dd,↓GM,↓De,h])|fail))
 all_goals (refine AM6 ?_;simp [Na] at *;try grind)
theorem fU (p:Pg) (σ:AH) (h:∀d∈p.data,LL d):AS Tzp 50 [pgA p] σ (fun v σ'=>v= .d (.bool (Es p))/\σ'=σ):=by
 obtain ⟨ds,fs⟩:=p;refine iT (by simp) ?_;rw [Bs,pgA];simp only [Pg.enc,AG,AN] at h ⊢;have h12:decide ((12:Int) < (ds.length:Int))=!decide (ds.length<=12):=gtN _ 12;have h24:decide ((24:Int) < (fs.length:Int))=!decide (fs.length<=24):=gtN _ 24;by_cases hd:ds.length<=12
 case neg=>
  (repeat' ((first|refine wQ mxQ rfl ?_|refine Run.qP Da ?_|fail)<;>try simp only [AA,h12,decide_eq_false hd,go_sem]));simp [Es,hd]
 by_cases hf:fs.length<=24
 case neg=>
  (repeat' ((first|refine wQ mxQ rfl ?_|refine Run.qP Da ?_|fail)<;>try simp only [AA,h12,decide_eq_true hd,h24,decide_eq_false hf,go_sem]));simp [Es,hf]
 have hres:Es ⟨ds,fs⟩=(ds.all Na&&(fs.foldlM Tz 600).isSome):=by simp [Es,hd,hf]
 (repeat' (refine wQ mxQ rfl ?_<;>try simp only [AA,h12,decide_eq_true hd,h24,decide_eq_true hf,go_sem]));refine Run.BB ?_;refine Run.BG ((fun (a1:AV) (a19:AV) (a20:AV)=>fun (i:Nat)=>put 1 a1 (put 19 a19 (put 20 a20 (put 21 (.d (.int .i64 i)) U)))) _ _ _) (fun _=>Ar 1 [.d (.sl (ds.map DE.enc)),.d (.sl (fs.map FE.enc))] E) (fun _=>σ) (fun i=>i<=ds.length/\(ds.take i).all Na=true) (fun i=>ds.length - i) ?_ 0 ⟨by simp,by simp⟩;rintro i ⟨hi,hok⟩ ih;by_cases hlt:i < ds.length
 . obtain ⟨x,hx⟩:=Ak hlt;have he:=BR (enc:=DE.enc) hx;have hw1:=A7 (show i+1<=9000000000000000000 by omega);have hc:=rX x σ (h x (AD hx));cases hp:Na x with
   |true=>
    have hs:=M5 hok hx hp;rw [hp] at hc;obtain ⟨nm,vs,cs⟩:=x;simp only [DE.enc,deA,AG,AN] at he hc;(repeat' ((first|refine wQ mxQ rfl ?_|refine AJ.det (hc) ?_|fail)<;>try simp only [Ag hlt,he,hw1,go_sem]));exact ih (i+1) ⟨by omega,hs⟩ (by omega)
   |false=>
    have hs:=gO (p:=Na) hx hp;rw [hp] at hc;obtain ⟨nm,vs,cs⟩:=x;simp only [DE.enc,deA,AG,AN] at he hc;(repeat' ((first|refine wQ mxQ rfl ?_|refine Run.qP Da ?_|refine AJ.det (hc) ?_|fail)<;>try simp only [Ag hlt,he,hw1,go_sem]));rw [hres,hs];rfl
 . rw [AO (by omega)] at hok;rw [hok,BW] at hres;clear ih;(repeat' (first|refine ctQ rfl ?_|((first|refine rgQ mxQ ?_|refine cdQ ?_)<;>try simp only [Bk hlt,go_sem])|fail));intro j hj;have hle:=CF (cs:=[AV.d (.int .i64 0)]) hj;(repeat' (first|refine ctQ rfl ?_|((first|refine rgQ mxQ ?_|refine cdQ ?_)<;>try simp only [AA,go_sem])|fail));refine Run.BB ?_
   refine Run.BG ((fun (a5:AV) (a32:AV) (a33:AV)=>fun (y:Nat×Nat)=>put 5 a5 (put 32 a32 (put 33 a33 (put 34 (.d (.int .i64 y.1)) U)))) _ _ _) (fun _=>E) (fun y=>σ.AM j [.d (.int .i64 (OH y.2))])
    (fun y=>y.1<=fs.length/\y.2<=600/\(fs.take y.1).foldlM Tz 600=some y.2) (fun y=>fs.length - y.1) ?_ (0,600) ⟨by simp,by simp,rfl⟩
   rintro ⟨i,q⟩ ⟨hi,hq,hok⟩ ih;simp only at hi hq hok;by_cases hlt:i < fs.length
   . obtain ⟨x,hx⟩:=Ak hlt;have he:=BR (enc:=FE.enc) hx;have hw1:=A7 (show i+1<=9000000000000000000 by omega);have hnm:=EP x.name (σ.AM j [.d (.int .i64 (OH q))]);have hps:=JK (fid:=82) (caps:=[]) (by kernel_rfl) rfl FV x.params (σ.AM j [.d (.int .i64 (OH q))]) (fun x _ σ1 _=>EP x σ1);have h6:decide ((6:Int) < (x.params.length:Int))=!decide (x.params.length<=6):=gtN _ 6;have hc:=eL j 40 q (AR _) hq x.body (σ.AM j [.d (.int .i64 (OH q))]) (by simp only [AI,if_true]);rw [show ((41 - 40:Nat):Int)=1 from rfl] at hc;have hno:Tz q x=none->fs.foldlM Tz 600=none:=fun h=>Lv hok hx h;have hyes:∀r,Tz q x=some r->(fs.take (i+1)).foldlM Tz 600=some r:=fun r h=>by rw [Lw hok hx,h]
     have hvf:Tz q x=if FV x.name&&decide (x.params.length<=6)&&x.params.all FV then vEx 40 q x.body else none:=rfl
     cases h1:FV x.name with
     |false=>
      rw [h1] at hnm hvf;obtain ⟨nm,ps,o,n,u,ns,ks,al⟩:=x;simp only [FE.enc,Ex.A4] at he hnm;(repeat' (first|refine ctQ rfl ?_|((first|refine rgQ mxQ ?_|refine cdQ ?_|(refine Run.CK Da (σ2:=σ) (CF hj) ?_)|refine AJ.det (hnm) ?_)<;>try simp only [Ag hlt,he,go_sem])|fail));rw [hres,hno hvf];rfl
     |true=>
     by_cases h2:x.params.length<=6
     case neg=>
      rw [decide_eq_false h2] at h6;rw [h1,decide_eq_false h2] at hvf;rw [h1] at hnm;obtain ⟨nm,ps,o,n,u,ns,ks,al⟩:=x;simp only [FE.enc,Ex.A4] at he hnm h6;(repeat' (first|refine ctQ rfl ?_|((first|refine rgQ mxQ ?_|refine cdQ ?_|(refine Run.CK Da (σ2:=σ) (CF hj) ?_)|refine AJ.det (hnm) ?_)<;>try simp only [Ag hlt,he,AA,h6,go_sem])|fail));rw [hres,hno hvf];rfl
     rw [decide_eq_true h2] at h6;cases h3:x.params.all FV with
     |false=>
      rw [h1,h3] at hvf;rw [CG] at hvf;rw [h1] at hnm;rw [h3] at hps;obtain ⟨nm,ps,o,n,u,ns,ks,al⟩:=x;simp only [FE.enc,Ex.A4] at he hnm h6 hps;(repeat' (first|refine ctQ rfl ?_|((first|refine rgQ mxQ ?_|refine cdQ ?_|(refine Run.CK Da (σ2:=σ) (CF hj) ?_)|refine AJ.det (hnm) ?_|refine AJ.det (hps) ?_)<;>try simp only [Ag hlt,he,AA,h6,go_sem])|fail));rw [hres,hno hvf];rfl
     |true=>
     rw [h1,h3,decide_eq_true h2] at hvf;rw [h1] at hnm;rw [h3] at hps;cases hv:vEx 40 q x.body with
     |some r=>
      have hr:=Wa _ _ _ _ hv;rw [hv] at hvf;have hc:=VXQ.yes hc hv;have hs:=hyes r hvf;obtain ⟨nm,ps,o,n,u,ns,ks,al⟩:=x;simp only [FE.enc,Ex.A4,exA,AG,AN] at he hnm h6 hps hc;(repeat' (first|refine ctQ rfl ?_|((first|refine rgQ mxQ ?_|refine cdQ ?_|(refine AJ.mk rfl hc ?_;rintro _ _ ⟨rfl,rfl⟩)|refine AJ.det (hnm) ?_|refine AJ.det (hps) ?_)<;>try simp only [Ag hlt,he,hw1,AA,h6,go_sem])|fail));exact ih (i+1,r) ⟨by simp only;omega,by simp only;omega,hs⟩ (by simp only;omega)
     |none=>
      rw [hv] at hvf;have hc:=VXQ.no hc hv;obtain ⟨nm,ps,o,n,u,ns,ks,al⟩:=x;simp only [FE.enc,Ex.A4,exA,AG,AN] at he hnm h6 hps hc;(repeat' (first|refine ctQ rfl ?_|((first|refine rgQ mxQ ?_|refine cdQ ?_|(refine AJ.mk rfl hc ?_;rintro _ _ ⟨rfl,z,rfl⟩)|(refine Run.CK Da (σ2:=σ) (CF hj) ?_)|refine AJ.det (hnm) ?_|refine AJ.det (hps) ?_)<;>try simp only [Ag hlt,he,hw1,AA,h6,go_sem])|fail));rw [hres,hno hvf];rfl
   . rw [AO (by omega)] at hok;(repeat' (first|refine ctQ rfl ?_|((first|refine rgQ mxQ ?_|refine cdQ ?_|(refine Run.CK Da (σ2:=σ) (CF hj) ?_))<;>try simp only [Bk hlt,go_sem])|fail));rw [hres,hok];rfl
end Go.Ab
namespace Go.Ab
open Go.Proofs
theorem kC (ds:List DE) (fs:List FE) (σ σ3:AH) (j:Nat) (hle:σ.le σ3) (hb:σ3.blk j=some [.d (.int .i64 600)]) (hsj:σ.blk j=none) (hres:Es ⟨ds,fs⟩=(fs.foldlM Tz 600).isSome) (hf24:fs.length<=24):
 Run PX (fun v σ'=>v= .d (.bool (Es ⟨ds,fs⟩))/\σ'=σ) [.code (.loop Xl),.blk 6,.code (.seq (.reg [⟨some 2,.mv (.c (.d (.bool true))),none⟩] [2]) .ret)] (put 1 (.lp 1 0) (put 7 (.gp j 0) (put 8 (.d (.int .i64 0)) U))) (Ar 1 [.d (.sl (ds.map DE.enc)),.d (.sl (fs.map FE.enc))] E) σ3:=by
 refine Run.BB ?_;refine Run.AKH (σ':=σ3.AM j [.d (.int .i64 (Hj 600))]) (GN hb) ?_
 refine Run.BG ((fun (a1:AV) (a7:AV)=>fun (y:Nat×Nat)=>put 1 a1 (put 7 a7 (put 8 (.d (.int .i64 y.1)) U))) _ _) (fun _=>Ar 1 [.d (.sl (ds.map DE.enc)),.d (.sl (fs.map FE.enc))] E) (fun y=>σ3.AM j [.d (.int .i64 (Hj y.2))])
  (fun y=>y.1<=fs.length/\y.2<=600/\(fs.take y.1).foldlM Tz 600=some y.2) (fun y=>fs.length - y.1) ?_ (0,600) ⟨by simp,by simp,rfl⟩
 rintro ⟨i,q⟩ ⟨hi,hq,hok⟩ ih;simp only at hi hq hok;have hσ:∀z:Int,σ.le (σ3.AM j [.d (.int .i64 z)]):=fun z=>Db hle hsj;by_cases hlt:i < fs.length
 . obtain ⟨x,hx⟩:=Ak hlt;have he:=BR (enc:=FE.enc) hx;have hw1:=A7 (show i+1<=9000000000000000000 by omega);have hnm:=Dh x.name 1 (σ3.AM j [.d (.int .i64 (Hj q))]);rw [show Jj 1 x.name=FV x.name from rfl] at hnm;have hps:=KV x.params true (σ3.AM j [.d (.int .i64 (Hj q))]);rw [VO] at hps;have hc:=fE j 40 q (AR _) hq x.body (σ3.AM j [.d (.int .i64 (Hj q))]) (by simp only [AI,if_true]);rw [show ((40:Nat):Int)=40 from rfl] at hc;have hno:Tz q x=none->fs.foldlM Tz 600=none:=fun h=>Lv hok hx h;have hyes:∀r,Tz q x=some r->(fs.take (i+1)).foldlM Tz 600=some r:=fun r h=>by rw [Lw hok hx,h]
   have hvf:Tz q x=if FV x.name&&(decide (x.params.length<=6)&&x.params.all FV) then vEx 40 q x.body else none:=by
    unfold Tz AGW;rw [Bool.and_assoc]
   generalize (decide (x.params.length<=6)&&x.params.all FV)=bp at hps hvf;cases h1:FV x.name with
   |false=>
    rw [h1] at hnm hvf;obtain ⟨nm,ps,o,n,u,ns,ks,al⟩:=x;simp only [FE.enc,Ex.A4] at he hnm;(repeat' ((first|refine wQ mxQ rfl ?_|(refine Run.CK D9 (σ2:=σ) (hσ _) ?_)|refine AJ.det (hnm) ?_|fail)<;>try simp only [Ag hlt,he,AA,go_sem]));rw [hres,hno hvf];rfl
   |true=>
   rw [h1] at hnm;cases bp with
   |false=>
    rw [h1] at hvf;obtain ⟨nm,ps,o,n,u,ns,ks,al⟩:=x;simp only [FE.enc,Ex.A4] at he hnm hps;(repeat' ((first|refine wQ mxQ rfl ?_|(refine Run.CK D9 (σ2:=σ) (hσ _) ?_)|refine AJ.det (hnm) ?_|refine AJ.det (hps) ?_|fail)<;>try simp only [Ag hlt,he,AA,go_sem]));rw [hres,hno hvf];rfl
   |true=>
   rw [h1] at hvf;cases hv:vEx 40 q x.body with
   |some r=>
    have hr:=Wa _ _ _ _ hv;rw [hv] at hvf;have hc:=VXQ.yes hc hv;have hs:=hyes r hvf;obtain ⟨nm,ps,o,n,u,ns,ks,al⟩:=x;simp only [FE.enc,Ex.A4,exA,AG,AN] at he hnm hps hc;(repeat' ((first|refine wQ mxQ rfl ?_|(refine AJ.mk rfl hc ?_;rintro _ _ ⟨rfl,rfl⟩)|refine AJ.det (hnm) ?_|refine AJ.det (hps) ?_|fail)<;>try simp only [Ag hlt,he,hw1,AA,go_sem]));exact ih (i+1,r) ⟨by simp only;omega,by simp only;omega,hs⟩ (by simp only;omega)
   |none=>
    rw [hv] at hvf;have hc:=VXQ.no hc hv;obtain ⟨nm,ps,o,n,u,ns,ks,al⟩:=x;simp only [FE.enc,Ex.A4,exA,AG,AN] at he hnm hps hc;(repeat' ((first|refine wQ mxQ rfl ?_|(refine AJ.mk rfl hc ?_;rintro _ _ ⟨rfl,z,rfl⟩)|(refine Run.CK D9 (σ2:=σ) (hσ _) ?_)|refine AJ.det (hnm) ?_|refine AJ.det (hps) ?_|fail)<;>try simp only [Ag hlt,he,hw1,AA,go_sem]));rw [hres,hno hvf];rfl
 . rw [AO (by omega)] at hok;(repeat' ((first|refine wQ mxQ rfl ?_|(refine Run.CK D9 (σ2:=σ) (hσ _) ?_)|fail)<;>try simp only [Bk hlt,AA,go_sem]));rw [hres,hok];rfl
theorem uV (p:Pg) (σ:AH) (h:∀d∈p.data,LL d):AS Tzp 39 [pgA p] σ (fun v σ'=>v= .d (.bool (Es p))/\σ'=σ):=by
 obtain ⟨ds,fs⟩:=p;refine yB (by simp) ?_;rw [Bs,pgA];simp only [Pg.enc,AG,AN] at h ⊢;have h12:decide ((12:Int) < (ds.length:Int))=!decide (ds.length<=12):=gtN _ 12;have h24:decide ((24:Int) < (fs.length:Int))=!decide (fs.length<=24):=gtN _ 24;by_cases hd:ds.length<=12
 case neg=>
  (repeat' ((first|refine wQ mxQ rfl ?_|refine Run.qP D9 ?_|fail)<;>try simp only [AA,h12,decide_eq_false hd,go_sem]));simp [Es,hd]
 by_cases hf:fs.length<=24
 case neg=>
  (repeat' ((first|refine wQ mxQ rfl ?_|refine Run.qP D9 ?_|fail)<;>try simp only [AA,h12,decide_eq_true hd,h24,decide_eq_false hf,go_sem]));simp [Es,hf]
 have hres:Es ⟨ds,fs⟩=(ds.all Na&&(fs.foldlM Tz 600).isSome):=by simp [Es,hd,hf]
 have hbad:∀d∈ds,Na d=false->Es ⟨ds,fs⟩=false:=fun d hm hb=>by
  rw [hres,List.all_eq_false.2 ⟨d,hm,by simp [hb]⟩];rfl
 (repeat' (refine wQ mxQ rfl ?_<;>try simp only [AA,h12,decide_eq_true hd,h24,decide_eq_true hf,go_sem]));refine Run.BB ?_;refine Run.BG ((fun (a1:AV)=>fun (i:Nat)=>put 1 a1 (put 3 (.d (.int .i64 i)) U)) _) (fun _=>Ar 1 [.d (.sl (ds.map DE.enc)),.d (.sl (fs.map FE.enc))] E) (fun _=>σ) (fun i=>i<=ds.length/\(ds.take i).all Na=true) (fun i=>ds.length - i) ?_ 0 ⟨by simp,by simp⟩;rintro i ⟨hi,hok⟩ ih;by_cases hlt:i < ds.length
 . obtain ⟨x,hx⟩:=Ak hlt;have hxm:=AD hx;have he:=BR (enc:=DE.enc) hx;have hw1:=A7 (show i+1<=9000000000000000000 by omega);have hxs:=h x hxm;have hbx:=hbad x hxm;have hs:=fun hp=>M5 (p:=Na) hok hx hp;have hnm:=Dh x.name 2 σ;rw [show Jj 2 x.name=HC x.name from rfl] at hnm;have hbs:=KV x.vars true σ;rw [VO] at hbs;have h8:decide ((8:Int) < (x.cons.length:Int))=!decide (x.cons.length<=8):=gtN _ 8
   have hl1:decide ((x.cons.length:Int) < 1)=!decide (1<=x.cons.length):=by
    rw [Ax];simp only [decide_eq_true_eq,Bl,decide_eq_false_iff_not];omega
   have hdx:Na x=(((HC x.name&&(decide (x.vars.length<=6)&&x.vars.all FV))&&(decide (1<=x.cons.length)&&decide (x.cons.length<=8)))&&x.cons.all eK):=by
    simp [Na,Bool.and_assoc]
   obtain ⟨nm,vs,cs⟩:=x;simp only [DE.enc] at he hnm hbs h8 hl1 hdx hxs;cases hA:HC nm with
   |false=>
    rw [hA] at hnm hdx;(repeat' ((first|refine wQ mxQ rfl ?_|refine Run.qP D9 ?_|refine AJ.det (hnm) ?_|fail)<;>try simp only [Ag hlt,he,AA,go_sem]));rw [hbx hdx]
   |true=>
   rw [hA] at hnm;cases hB:(decide (vs.length<=6)&&vs.all FV) with
   |false=>
    rw [hB] at hbs;rw [hA,hB] at hdx;(repeat' ((first|refine wQ mxQ rfl ?_|refine Run.qP D9 ?_|refine AJ.det (hnm) ?_|refine AJ.det (hbs) ?_|fail)<;>try simp only [Ag hlt,he,AA,go_sem]));rw [hbx hdx]
   |true=>
   rw [hB] at hbs;by_cases hC:1<=cs.length
   case neg=>
    rw [decide_eq_false hC] at hl1 hdx;(repeat' ((first|refine wQ mxQ rfl ?_|refine Run.qP D9 ?_|refine AJ.det (hnm) ?_|refine AJ.det (hbs) ?_|fail)<;>try simp only [Ag hlt,he,AA,hl1,go_sem]));rw [hbx (by rw [hdx];simp)]
   rw [decide_eq_true hC] at hl1;by_cases hD:cs.length<=8
   case neg=>
    rw [decide_eq_false hD] at h8 hdx;(repeat' ((first|refine wQ mxQ rfl ?_|refine Run.qP D9 ?_|refine AJ.det (hnm) ?_|refine AJ.det (hbs) ?_|fail)<;>try simp only [Ag hlt,he,AA,hl1,h8,go_sem]));rw [hbx (by rw [hdx];simp)]
   rw [decide_eq_true hD] at h8;rw [hA,hB,decide_eq_true hC,decide_eq_true hD] at hdx;simp only [L1,BW] at hdx;rw [hdx] at hbx hs;(repeat' ((first|refine wQ mxQ rfl ?_|refine AJ.det (hnm) ?_|refine AJ.det (hbs) ?_|fail)<;>try simp only [Ag hlt,he,AA,hl1,h8,go_sem]));refine Run.BB ?_;refine Run.BG ((fun (a1:AV) (a3:AV) (a4:AV)=>fun (k:Nat)=>put 1 a1 (put 3 a3 (put 4 a4 (put 5 (.d (.int .i64 k)) U)))) _ _ _) (fun _=>Ar 1 [.d (.sl (ds.map DE.enc)),.d (.sl (fs.map FE.enc))] (Ar 4 [.d (.str nm),.d (.sl (vs.map Bb)),.d (.sl (cs.map CE.enc))] E)) (fun _=>σ) (fun k=>k<=cs.length/\(cs.take k).all eK=true) (fun k=>cs.length - k) ?_ 0 ⟨by simp,by simp⟩;rintro k ⟨hk,hokc⟩ ih2;by_cases hkl:k < cs.length
   . obtain ⟨c,hc⟩:=Ak hkl;have hcm:=AD hc;have hec:=BR (enc:=CE.enc) hc;have hwk:=A7 (show k+1<=9000000000000000000 by omega);have hcs:=hxs c hcm;have hbc:eK c=false->Es ⟨ds,fs⟩=false:=fun hb=>hbx (List.all_eq_false.2 ⟨c,hcm,by simp [hb]⟩);have hsc:=fun hp=>M5 (p:=eK) hokc hc hp;have hcn:=Dh c.name 2 σ;rw [show Jj 2 c.name=HC c.name from rfl] at hcn;have h6:decide ((6:Int) < (c.args.length:Int))=!decide (c.args.length<=6):=gtN _ 6;have hcx:eK c=(HC c.name&&decide (c.args.length<=6)&&c.args.all (DL 40)):=rfl;obtain ⟨cn,ar⟩:=c;simp only [CE.enc] at hec hcn h6 hcx hcs;cases hE:HC cn with
     |false=>
      rw [hE] at hcn hcx;(repeat' ((first|refine wQ mxQ rfl ?_|refine Run.qP D9 ?_|refine AJ.det (hcn) ?_|fail)<;>try simp only [Ag hkl,hec,AA,go_sem]));rw [hbc hcx]
     |true=>
     rw [hE] at hcn;by_cases hF:ar.length<=6
     case neg=>
      rw [decide_eq_false hF] at h6 hcx;(repeat' ((first|refine wQ mxQ rfl ?_|refine Run.qP D9 ?_|refine AJ.det (hcn) ?_|fail)<;>try simp only [Ag hkl,hec,AA,h6,go_sem]));rw [hbc (by rw [hcx];simp)]
     rw [decide_eq_true hF] at h6;rw [hE,decide_eq_true hF] at hcx;simp only [L1,BW] at hcx;rw [hcx] at hbc hsc;(repeat' ((first|refine wQ mxQ rfl ?_|refine AJ.det (hcn) ?_|fail)<;>try simp only [Ag hkl,hec,AA,h6,go_sem]));refine Run.BB ?_;refine Run.BG ((fun (a1:AV) (a3:AV) (a4:AV) (a5:AV)=>fun (a:Nat)=>put 1 a1 (put 3 a3 (put 4 a4 (put 5 a5 (put 6 (.d (.int .i64 a)) U))))) _ _ _ _) (fun _=>Ar 1 [.d (.sl (ds.map DE.enc)),.d (.sl (fs.map FE.enc))] (Ar 4 [.d (.str nm),.d (.sl (vs.map Bb)),.d (.sl (cs.map CE.enc))] E)) (fun _=>σ) (fun a=>a<=ar.length/\(ar.take a).all (DL 40)=true) (fun a=>ar.length - a) ?_ 0 ⟨by simp,by simp⟩;rintro a ⟨ha,hoka⟩ ih3;by_cases hal:a < ar.length
     . obtain ⟨t,ht⟩:=Ak hal;have htm:=AD ht;have het:=BR (enc:=TE.enc) ht;have hwa:=A7 (show a+1<=9000000000000000000 by omega);have hv:=fF 40 t σ (AR _) (hcs t htm);rw [show ((40:Nat):Int)=40 from rfl] at hv;cases hp:DL 40 t with
       |true=>
        rw [hp] at hv;obtain ⟨tk,tn,tl⟩:=t;simp only [TE.A4,teA,AG,AN] at het hv;(repeat' ((first|refine wQ mxQ rfl ?_|refine AJ.det (hv) ?_|fail)<;>try simp only [Ag hal,hec,het,hwa,AA,go_sem]));exact ih3 (a+1) ⟨by omega,M5 hoka ht hp⟩ (by omega)
       |false=>
        rw [hp] at hv;obtain ⟨tk,tn,tl⟩:=t;simp only [TE.A4,teA,AG,AN] at het hv;(repeat' ((first|refine wQ mxQ rfl ?_|refine Run.qP D9 ?_|refine AJ.det (hv) ?_|fail)<;>try simp only [Ag hal,hec,het,hwa,AA,go_sem]));rw [hbc (gO ht hp)]
     . rw [AO (by omega)] at hoka;(repeat' (refine wQ mxQ rfl ?_<;>try simp only [Bk hal,hec,hwk,AA,go_sem]));exact ih2 (k+1) ⟨by omega,hsc hoka⟩ (by omega)
   . rw [AO (by omega)] at hokc;(repeat' (refine wQ mxQ rfl ?_<;>try simp only [Bk hkl,hw1,AA,go_sem]));exact ih (i+1) ⟨by omega,hs hokc⟩ (by omega)
 . rw [AO (by omega)] at hok;rw [hok,BW] at hres;clear ih;(repeat' (refine wQ mxQ rfl ?_<;>try simp only [Bk hlt,AA,go_sem]));intro j hj;obtain ⟨hle3,hb⟩:=wG (z:=[.d (.int .i64 0)]) (x:=([AV.d (.int .i64 0)].length,3)) hj;simp only [A0,By,BU] at hle3 hb;generalize (σ.AM j [.d (.int .i64 0)]).Br j (1,3)=σ3 at hle3 hb ⊢;simp only [hb,go_sem];(repeat' (refine wQ mxQ rfl ?_<;>try simp only [hb,AA,go_sem]));exact kC ds fs σ (σ3.AM j [.d (.int .i64 600)]) j (Db hle3 hj.1) (by simp only [AI,if_true]) hj.1 hres hf
end Go.Ab
namespace Go.Ab
open Go.Proofs
set_option maxRecDepth 100000
set_option maxHeartbeats 40000000
noncomputable section
noncomputable def MX:Cx:=⟨Tzp,24,Tryz.f24,58,[300011,300016,300018,300019,300023,300030,300032,300038,300044,300045],[],[.c 2 (some 3)]⟩
theorem Hg:Good MX:=⟨Tryz.func24,by kernel_rfl⟩
theorem kH:MX.rs=[.c 2 (some 3)]:=rfl
noncomputable def Xx:=BO MX [] fun c a=>G c [a]
def aR:C:=lpC 0 (Xx .skip)
def lX:C:=(Xx aR).1
theorem mE:Inn MX lX 58:=inn [] Hg Tryz.ntmps24
noncomputable def OZ:Cx:=⟨Tzp,25,Tryz.f25,36,[13,300008,300015,300023],[],[.t 2,.c 3 (some 3)]⟩
theorem Kt:Good OZ:=⟨Tryz.func25,by kernel_rfl⟩
theorem YB:OZ.rs=[.t 2,.c 3 (some 3)]:=rfl
noncomputable def Ze:=BO OZ [] fun c a=>G c [a]
def eF:C:=lpC 0 (Ze .skip)
def pX:C:=(Ze eF).1
theorem qE:Inn OZ pX 36:=inn [] Kt Tryz.ntmps25
noncomputable def LV:Cx:=⟨Tzp,26,Tryz.f26,6,[300003],[],[.t 2]⟩
theorem Ve:Good LV:=⟨Tryz.func26,by kernel_rfl⟩
theorem fL:LV.rs=[.t 2]:=rfl
noncomputable def jF:=BO LV [] (G · [])
def g6:C:=(jF).1
theorem iS:Inn LV g6 6:=inn [] Ve Tryz.ntmps26
noncomputable def If:Cx:=⟨Tzp,46,Tryz.f46,9,[3,300006],[],[.t 4]⟩
theorem SF:Good If:=⟨Tryz.func46,by kernel_rfl⟩
theorem Zw:If.rs=[.t 4]:=rfl
noncomputable def bQ:=BO If [] (G · [])
def aS:C:=(bQ).1
theorem bL:Inn If aS 9:=inn [] SF Tryz.ntmps46
noncomputable def Ig:Cx:=⟨Tzp,47,Tryz.f47,22,[],[],[.t 2]⟩
theorem Ly:Good Ig:=⟨Tryz.func47,by kernel_rfl⟩
theorem Zx:Ig.rs=[.t 2]:=rfl
noncomputable def SY:=BO Ig [] fun c a=>G c [a]
def XJ:C:=lpC 0 (SY .skip)
def aT:C:=(SY XJ).1
theorem bM:Inn Ig aT 22:=inn [] Ly Tryz.ntmps47
noncomputable def Jl:Cx:=⟨Tzp,48,Tryz.f48,25,[11,300014,300017],[],[.t 4,.t 5]⟩
theorem NU:Good Jl:=⟨Tryz.func48,by kernel_rfl⟩
theorem cJ:Jl.rs=[.t 4,.t 5]:=rfl
noncomputable def eT:=BO Jl [] (G · [])
def eG:C:=(eT).1
theorem eO:Inn Jl eG 25:=inn [] NU Tryz.ntmps48
noncomputable def Fa:Cx:=⟨Tzp,49,Tryz.f49,107,[300013,300018,300023,300025,300033,300035,300043,300046,300061,300065,300067,300072,300076,300081,300086,300088,300094,300099],[],[.t 6]⟩
theorem BD:Good Fa:=⟨Tryz.func49,by kernel_rfl⟩
theorem Ti:Fa.rs=[.t 6]:=rfl
noncomputable def Um:=BO Fa [] (G · [])
def U2:C:=(Um).1
theorem Ue:Inn Fa U2 107:=inn [] BD Tryz.ntmps49
def Ja:List (Nat×PT):=[(3,(pO [0,1,2,3,5,6,7,8,9,10] (.alt 4 (pO [11,12,13,14,15] .done) (.alt 11 (pO [4,12,13,14,15] .done) .done)))),(21,(pO [0,1,2,4,5,6,7,8,9,10,11,12,13,14] (.alt 3 (pO [15,16,17,18] .done) (.alt 15 (pO [3,16,17,18] .done) .done))))]
noncomputable def DH:Cx:=⟨Tzp,51,Tryz.f51,115,[37,100038,300018,300023,300032,300034,300042,300052,300064,300071,300074,300082,300090,300091,300109],[],[.t 4]⟩
theorem CZ:Good DH:=⟨Tryz.func51,by kernel_rfl⟩
theorem Pq:DH.rs=[.t 4]:=rfl
noncomputable def G9:=BO DH Ja fun c a b=>G c [a,b]
def Hp:C:=lpC 0 (G9 .skip .skip)
def Hq:C:=lpC 1 (G9 Hp .skip)
def Qe:C:=(G9 Hp Hq).1
theorem Qw:Inn DH Qe 115:=inn Ja CZ Tryz.ntmps51
def PS:List (Nat×PT):=[(6,(pO [2] (.alt 0 (.alt 1 (pO [3,4,5] .done) (.alt 3 (pO [1,4,5] .done) .done)) (.alt 1 (.alt 0 (pO [3,4,5] .done) (.alt 3 (pO [0,4,5] .done) .done)) (.alt 3 (pO [0,1,4,5] .done) .done)))))]
noncomputable def Bx:Cx:=⟨Tzp,52,Tryz.f52,83,[1,3,4,5,6,7],[],[.t 2]⟩
theorem Ol:Good Bx:=⟨Tryz.func52,by kernel_rfl⟩
theorem X9:Bx.rs=[.t 2]:=rfl
noncomputable def HZ:=BO Bx PS fun c a b d=>G c [a,b,d]
def F6:C:=lpC 0 (HZ .skip .skip .skip)
def Hi:C:=lpC 1 (HZ F6 .skip .skip)
def La:C:=lpC 2 (HZ F6 Hi .skip)
def YN:C:=(HZ F6 Hi La).1
theorem Y5:Inn Bx YN 83:=inn PS Ol Tryz.ntmps52
noncomputable def MW:Cx:=⟨Tzp,53,Tryz.f53,53,[1,6,300029],[],[.t 2]⟩
theorem Qu:Good MW:=⟨Tryz.func53,by kernel_rfl⟩
theorem WR:MW.rs=[.t 2]:=rfl
noncomputable def RN:=BO MW [] fun c a b=>G c [a,b]
def Rh:C:=lpC 0 (RN .skip .skip)
def aQ:C:=lpC 1 (RN Rh .skip)
def lW:C:=(RN Rh aQ).1
theorem mD:Inn MW lW 53:=inn [] Qu Tryz.ntmps53
noncomputable def Cq:Cx:=⟨Tzp,73,Tryz.f73,19,[],[],[.t 4]⟩
theorem EN:Good Cq:=⟨Tryz.func73,by kernel_rfl⟩
theorem L9:Cq.rs=[.t 4]:=rfl
noncomputable def Gy:=BO Cq [] fun c a=>G c [a]
def K9:C:=lpC 0 (Gy .skip)
def Lq:C:=(Gy K9).1
theorem MB:Inn Cq Lq 19:=inn [] EN Tryz.ntmps73
noncomputable def H4:Cx:=⟨Tzp,74,Tryz.f74,8,[300005],[],[.t 3]⟩
theorem Om:Good H4:=⟨Tryz.func74,by kernel_rfl⟩
theorem Xa:H4.rs=[.t 3]:=rfl
noncomputable def Yd:=BO H4 [] (G · [])
def YO:C:=(Yd).1
theorem Y6:Inn H4 YO 8:=inn [] Om Tryz.ntmps74
noncomputable def EW:Cx:=⟨Tzp,75,Tryz.f75,9,[],[],[.t 4]⟩
theorem JT:Good EW:=⟨Tryz.func75,by kernel_rfl⟩
theorem Pt:EW.rs=[.t 4]:=rfl
noncomputable def RO:=BO EW [] (G · [])
def Qg:C:=(RO).1
theorem Qy:Inn EW Qg 9:=inn [] JT Tryz.ntmps75
noncomputable def Gk:Cx:=⟨Tzp,76,Tryz.f76,108,[300019,300026,300036,300039,300047,300051,300055,300064,300075,300083,300098,300101],[],[.t 6]⟩
theorem Ew:Good Gk:=⟨Tryz.func76,by kernel_rfl⟩
theorem I3:Gk.rs=[.t 6]:=rfl
noncomputable def JC:=BO Gk [] fun c a b=>G c [a,b]
def Km:C:=lpC 0 (JC .skip .skip)
def TA:C:=lpC 1 (JC Km .skip)
def XK:C:=(JC Km TA).1
theorem XV:Inn Gk XK 108:=inn [] Ew Tryz.ntmps76
noncomputable def GP:Cx:=⟨Tzp,77,Tryz.f77,21,[100018],[],[.t 4]⟩
theorem Md:Good GP:=⟨Tryz.func77,by kernel_rfl⟩
theorem Us:GP.rs=[.t 4]:=rfl
noncomputable def Mq:=BO GP [] fun c a=>G c [a]
def Ri:C:=lpC 0 (Mq .skip)
def VS:C:=(Mq Ri).1
theorem Vj:Inn GP VS 21:=inn [] Md Tryz.ntmps77
noncomputable def FB:Cx:=⟨Tzp,78,Tryz.f78,17,[],[],[.t 4]⟩
theorem Iy:Good FB:=⟨Tryz.func78,by kernel_rfl⟩
theorem WU:FB.rs=[.t 4]:=rfl
noncomputable def Nl:=BO FB [] fun c a=>G c [a]
def Kl:C:=lpC 0 (Nl .skip)
def XI:C:=(Nl Kl).1
theorem XU:Inn FB XI 17:=inn [] Iy Tryz.ntmps78
noncomputable def Gj:Cx:=⟨Tzp,79,Tryz.f79,38,[],[],[.t 4,.t 5,.t 6]⟩
theorem Dk:Good Gj:=⟨Tryz.func79,by kernel_rfl⟩
theorem WT:Gj.rs=[.t 4,.t 5,.t 6]:=rfl
noncomputable def JB:=BO Gj [] fun c a b=>G c [a,b]
def Kk:C:=lpC 0 (JB .skip .skip)
def Sz:C:=lpC 1 (JB Kk .skip)
def XH:C:=(JB Kk Sz).1
theorem Nj:Inn Gj XH 38:=inn [] Dk Tryz.ntmps79
def NH:List (Nat×PT):=[(15,(pO [0,1,2,3,4,5,6,7,9,8,10] .done))]
noncomputable def GQ:Cx:=⟨Tzp,80,Tryz.f80,79,[300022,300024,300032,300035,300047,300053],[],[.t 4]⟩
theorem CP:Good GQ:=⟨Tryz.func80,by kernel_rfl⟩
theorem Ut:GQ.rs=[.t 4]:=rfl
noncomputable def Mr:=BO GQ NH fun c a=>G c [a]
def Rj:C:=lpC 0 (Mr .skip)
def VT:C:=(Mr Rj).1
theorem Vk:Inn GQ VT 79:=inn NH CP Tryz.ntmps80
noncomputable def Fb:Cx:=⟨Tzp,85,Tryz.f85,11,[3],[],[.t 4]⟩
theorem Lb:Good Fb:=⟨Tryz.func85,by kernel_rfl⟩
theorem Tj:Fb.rs=[.t 4]:=rfl
noncomputable def Un:=BO Fb [] (G · [])
def U3:C:=(Un).1
theorem Uf:Inn Fb U3 11:=inn [] Lb Tryz.ntmps85
noncomputable def DI:Cx:=⟨Tzp,86,Tryz.f86,103,[300014,300017,300026,300030,300037,300041,300045,300052,300059,300072,300079,300087,300096,300097,300102],[],[.c 6 (some 3),.t 7]⟩
theorem Bq:Good DI:=⟨Tryz.func86,by kernel_rfl⟩
theorem Ps:DI.rs=[.c 6 (some 3),.t 7]:=rfl
noncomputable def JY:=BO DI [] fun c a=>G c [a]
def Hr:C:=lpC 0 (JY .skip)
def Qf:C:=(JY Hr).1
theorem Qx:Inn DI Qf 103:=inn [] Bq Tryz.ntmps86
noncomputable def GR:Cx:=⟨Tzp,87,Tryz.f87,34,[],[],[]⟩
theorem IT:Good GR:=⟨Tryz.func87,by kernel_rfl⟩
theorem Uu:GR.rs=[]:=rfl
noncomputable def Ms:=BO GR [] fun c a=>G c [a]
def Rk:C:=lpC 0 (Ms .skip)
def VU:C:=(Ms Rk).1
theorem Vl:Inn GR VU 34:=inn [] IT Tryz.ntmps87
noncomputable def GU:Cx:=⟨Tzp,88,Tryz.f88,36,[],[],[.t 5]⟩
theorem IU:Good GU:=⟨Tryz.func88,by kernel_rfl⟩
theorem Uv:GU.rs=[.t 5]:=rfl
noncomputable def Mt:=BO GU [] fun c a=>G c [a]
def Rl:C:=lpC 0 (Mt .skip)
def VV:C:=(Mt Rl).1
theorem Vm:Inn GU VV 36:=inn [] IU Tryz.ntmps88
def UU:List (Nat×PT):=[(2,(pO [1,2,3] (.alt 0 (pO [4,5,6] .done) (.alt 4 (pO [0,5,6] .done) .done))))]
noncomputable def Jk:Cx:=⟨Tzp,89,Tryz.f89,23,[300008,300013,300020],[],[.t 6]⟩
theorem Jg:Good Jk:=⟨Tryz.func89,by kernel_rfl⟩
theorem cI:Jk.rs=[.t 6]:=rfl
noncomputable def eS:=BO Jk UU (G · [])
def eE:C:=(eS).1
theorem eN:Inn Jk eE 23:=inn UU Jg Tryz.ntmps89
noncomputable def Fc:Cx:=⟨Tzp,106,Tryz.f106,19,[],[],[.t 4]⟩
theorem Hk:Good Fc:=⟨Tryz.func106,by kernel_rfl⟩
theorem Tl:Fc.rs=[.t 4]:=rfl
noncomputable def Lg:=BO Fc [] fun c a=>G c [a]
def Qh:C:=lpC 0 (Lg .skip)
def U4:C:=(Lg Qh).1
theorem Ug:Inn Fc U4 19:=inn [] Hk Tryz.ntmps106
noncomputable def FK:Cx:=⟨Tzp,107,Tryz.f107,9,[],[],[.t 4]⟩
theorem HX:Good FK:=⟨Tryz.func107,by kernel_rfl⟩
theorem Sb:FK.rs=[.t 4]:=rfl
noncomputable def T5:=BO FK [] (G · [])
def TB:C:=(T5).1
theorem Ky:Inn FK TB 9:=inn [] HX Tryz.ntmps107
noncomputable def D3:Cx:=⟨Tzp,118,Tryz.f118,19,[],[],[.t 4]⟩
theorem DZ:Good D3:=⟨Tryz.func118,by kernel_rfl⟩
theorem N2:D3.rs=[.t 4]:=rfl
noncomputable def IA:=BO D3 [] fun c a=>G c [a]
def Lp:C:=lpC 0 (IA .skip)
def OC:C:=(IA Lp).1
theorem OL:Inn D3 OC 19:=inn [] DZ Tryz.ntmps118
noncomputable def Ef:Cx:=⟨Tzp,119,Tryz.f119,8,[300005],[],[.t 3]⟩
theorem KI:Good Ef:=⟨Tryz.func119,by kernel_rfl⟩
theorem R4:Ef.rs=[.t 3]:=rfl
noncomputable def SZ:=BO Ef [] (G · [])
def Rm:C:=(SZ).1
theorem SJ:Inn Ef Rm 8:=inn [] KI Tryz.ntmps119
noncomputable def D2:Cx:=⟨Tzp,120,Tryz.f120,12,[],[],[.t 4]⟩
theorem Hw:Good D2:=⟨Tryz.func120,by kernel_rfl⟩
theorem N1:D2.rs=[.t 4]:=rfl
noncomputable def ON:=BO D2 [] (G · [])
def OB:C:=(ON).1
theorem OK:Inn D2 OB 12:=inn [] Hw Tryz.ntmps120
noncomputable def Gl:Cx:=⟨Tzp,132,Tryz.f132,19,[],[],[.t 4]⟩
theorem Gi:Good Gl:=⟨Tryz.func132,by kernel_rfl⟩
theorem WV:Gl.rs=[.t 4]:=rfl
noncomputable def Nm:=BO Gl [] fun c a=>G c [a]
def TD:C:=lpC 0 (Nm .skip)
def XL:C:=(Nm TD).1
theorem Nk:Inn Gl XL 19:=inn [] Gi Tryz.ntmps132
noncomputable def Dw:Cx:=⟨Tzp,147,Tryz.f147,32,[300027],[],[.t 6]⟩
theorem Dr:Good Dw:=⟨Tryz.func147,by kernel_rfl⟩
theorem PK:Dw.rs=[.t 6]:=rfl
noncomputable def Iq:=BO Dw [] fun c a=>G c [a]
def NQ:C:=lpC 0 (Iq .skip)
def P4:C:=(Iq NQ).1
theorem Pf:Inn Dw P4 32:=inn [] Dr Tryz.ntmps147
noncomputable def Cz:Cx:=⟨Tzp,148,Tryz.f148,14,[300006,300010],[],[.t 4]⟩
theorem HM:Good Cz:=⟨Tryz.func148,by kernel_rfl⟩
theorem Gz:Cz.rs=[.t 4]:=rfl
noncomputable def Mu:=BO Cz [] (G · [])
def M6:C:=(Mu).1
theorem Ml:Inn Cz M6 14:=inn [] HM Tryz.ntmps148
attribute [go_sem] kH YB fL Zw Zx cJ Ti Pq X9 WR L9 Xa Pt I3 Us WU WT Ut Tj Ps Uu Uv cI Tl Sb N2 R4 N1 WV PK Gz
end
end Go.Ab
namespace Go.Ab
open Go.Proofs
def bdD:List Str->DV
 |[]=>.GK
 |s::l=>.ptr [.str s,bdD l]
def bdL (sc:List Str):DV:=bdD ((sc.filter (fun s=>!(s==[]))).reverse)
theorem AFO (sc:List Str) (s:Str) (h:(s==[])=false):bdL (sc++[s])= .ptr [.str s,bdL sc]:=by
 have h1:List.filter (fun s=>!(s==[])) [s]=[s]:=by rw [List.filter_cons,h];rfl
 rw [bdL,P1,h1,List.reverse_append];rfl
theorem sJ (sc:List Str) (s:Str) (h:(s==[])=true):bdL (sc++[s])=bdL sc:=by
 have h1:List.filter (fun s=>!(s==[])) [s]=[]:=by rw [List.filter_cons,h];rfl
 rw [bdL,P1,h1,BX];rfl
theorem ANP:∀(l:List Str) (s:Str) (σ:AH),AS Tzp 78 [.d (bdD l),.d (.str s)] σ (fun v σ'=>v= .d (.bool (l.contains s))/\σ'=σ):=by
 intro l s σ;refine XU (by simp) ?_;rw [BS];(repeat' (refine wQ mxQ rfl ?_<;>try simp only [go_sem]));refine Run.BB ?_
 have hx:∀l0:List Str,l0.contains s=l.contains s->Run FB (fun v σ'=>v= .d (.bool (l.contains s))/\σ'=σ) [.again Kl,.blk 0,.code (.seq (.reg [⟨some 4,.mv (.c (.d (.bool false))),none⟩] [4]) .ret)] (put 0 (.d (bdD l0)) (put 1 (.d (.str s)) U)) E σ:=by
  intro l0
  induction l0 with
  |nil=>
   intro h;refine Run.again ?_;simp only [bdD];(repeat' ((first|refine wQ mxQ rfl ?_|refine Run.qP Iy ?_|fail)<;>try simp only [go_sem]));rw [<- h];rfl
  |cons x l0 ih=>
   intro h;refine Run.again ?_;simp only [bdD];rw [List.contains_cons] at h;cases hs:(x==s) with
   |true=>
    (repeat' ((first|refine wQ mxQ rfl ?_|refine Run.qP Iy ?_|fail)<;>try simp only [Bh,hs,go_sem]));rw [<- h,BEq.comm,hs];rfl
   |false=>
    rw [show (s==x)=(x==s) from BEq.comm,hs,ED] at h;(repeat' (refine wQ mxQ rfl ?_<;>try simp only [Bh,hs,go_sem]));exact ih h
 exact hx l rfl
theorem qA (sc:List Str) (s:Str) (hs:s≠[]) (σ:AH):AS Tzp 78 [.d (bdL sc),.d (.str s)] σ (fun v σ'=>v= .d (.bool (sc.contains s))/\σ'=σ):=
 (ANP _ s σ).mono (by
   rintro v σ' ⟨rfl,rfl⟩;refine ⟨?_,rfl⟩;congr 2;rw [Ax];simp [hs])
theorem Wy (sc ns:List Str) (σ:AH):AS Tzp 77 [.d (bdL sc),.d (.sl (ns.map Bb))] σ (fun v σ'=>v= .d (bdL (sc++ns))/\σ'=σ):=by
 refine Vj (by simp) ?_;rw [BS];refine Run.slot 1 (fun hb0=>?_);simp only [D0,HS,if_false,if_true,AV.FU,AA] at hb0;(repeat' (refine wQ mxQ rfl ?_<;>try simp only [AA,go_sem]));refine Run.BB ?_;refine Run.BG ((fun (a7:AV) (a8:AV)=>fun (i:Nat)=>put 0 (.d (bdL (sc++ns.take i))) (put 7 a7 (put 8 a8 (put 9 (.d (.int .i64 i)) U)))) _ _) (fun _=>E) (fun _=>σ) (fun i=>i<=ns.length) (fun i=>ns.length - i) ?_ 0 (by simp)|>(fun h=>by simpa using h)
 rintro i hi ih;by_cases hlt:i < ns.length
 . obtain ⟨x,hx⟩:=Ak hlt;have he:=BR (enc:=Bb) hx;simp only [Bb] at he;have hw1:IntKind.i64.wrap ((i:Int)+1)=((i+1:Nat):Int):=by rw [BP (by omega) (by omega)];omega
   have hi1:=ih (i+1) (by omega) (by omega);simp only at hi1;rw [Ae hx,<- B4] at hi1;cases hs:(x==[]) with
   |true=>
    rw [sJ _ _ hs] at hi1;(repeat' (refine wQ mxQ rfl ?_<;>try simp only [Ag hlt,he,hw1,Ec,hs,go_sem]));exact hi1
   |false=>
    rw [AFO _ _ hs] at hi1;(repeat' (refine wQ mxQ rfl ?_<;>try simp only [Ag hlt,he,hw1,Ec,hs,go_sem]));exact hi1
 . (repeat' ((first|refine wQ mxQ rfl ?_|refine Run.qP Md ?_|fail)<;>try simp only [Bk hlt,go_sem]));rw [AO (by omega)]
theorem JJ {fid:FuncId} {caps:List AV} (hb:CQ Tzp fid=true) (hcp:caps.all AV.BF=true) (p:FE->Bool) (l:List FE) (σ:AH) (hf:∀x∈l,AS Tzp fid ((feA x)::caps) σ (fun v σ'=>v= .d (.bool (p x))/\σ'=σ)):
 AS Tzp 73 [.d (.sl (l.map FE.enc)),.fn fid [] caps] σ (fun v σ'=>v= .d (.int .i64 (Hm (l.findIdx? p)))/\σ'=σ):=by
 refine MB (by simp) ?_;rw [BS];refine Run.slot 0 (fun hb0=>?_);simp only [D0,if_true,AV.FU,AA] at hb0;(repeat' (refine wQ mxQ rfl ?_<;>try simp only [AA,go_sem]));refine Run.BB ?_;refine Run.BG ((fun (a0:AV) (a1:AV) (a7:AV)=>fun (i:Nat)=>put 0 a0 (put 1 a1 (put 7 a7 (put 8 (.d (.int .i64 i)) U)))) _ _ _) (fun _=>E) (fun _=>σ) (fun i=>i<=l.length/\∀x∈l.take i,p x=false) (fun i=>l.length - i) ?_ 0 ⟨by simp,by simp⟩;rintro i ⟨hi,hno⟩ ih;by_cases hlt:i < l.length
 . obtain ⟨x,hx⟩:=Ak hlt;have he:=BR (enc:=FE.enc) hx;have hw1:IntKind.i64.wrap ((i:Int)+1)=((i+1:Nat):Int):=by rw [BP (by omega) (by omega)];omega
   have hc:=hf x (AD hx);obtain ⟨nm,ps,o,n,u,ns,ks,al⟩:=x;simp only [FE.enc,Ex.A4,feA,AG,AN] at he hc;cases hp:p (⟨nm,ps,.mk o n u ns ks al⟩) with
   |true=>
    rw [hp] at hc;(repeat' ((first|refine wQ mxQ rfl ?_|refine Run.qP EN ?_|(refine ⟨fid,[],caps,rfl,hb,AJ.det hc ?_ (by simp [hcp,Ep,DX])⟩)|fail)<;>try simp only [Ag hlt,he,hw1,go_sem]));rw [EJ hno hx hp];rfl
   |false=>
    rw [hp] at hc;(repeat' ((first|refine wQ mxQ rfl ?_|(refine ⟨fid,[],caps,rfl,hb,AJ.det hc ?_ (by simp [hcp,Ep,DX])⟩)|fail)<;>try simp only [Ag hlt,he,hw1,go_sem]));exact ih (i+1) ⟨by omega,GO hno hx hp⟩ (by omega)
 . (repeat' ((first|refine wQ mxQ rfl ?_|refine Run.qP EN ?_|fail)<;>try simp only [Bk hlt,go_sem]));rw [AO (by omega)] at hno;rw [EL hno];rfl
theorem SR (l:List Str) (s:Str):l.findIdx? (fun x=>x==s)=DK l s:=by
 induction l with
 |nil=>rfl
 |cons x l ih=>
  rw [List.findIdx?_cons,DK];split
  . rfl
  . rw [ih]
theorem dE (fs:List FE) (s:Str):fs.findIdx? (fun x=>x.name==s)=DK (DN fs) s:=by
 rw [<- SR,DN,List.findIdx?_map];rfl
theorem mB (f:FE) (s:Str) (j:Nat) (σ:AH) (hj:σ.blk j=some [.d (.str s)]):AS Tzp 74 [feA f,.gp j 0] σ (fun v σ'=>v= .d (.bool (f.name==s))/\σ'=σ):=by
 refine Y6 (by simp) ?_;rw [BS];obtain ⟨nm,ps,o,n,u,ns,ks,al⟩:=f;simp only [FE.enc,Ex.A4,feA,AG,AN];(repeat' ((first|refine wQ mxQ rfl ?_|refine Run.qP Om ?_|fail)<;>try simp only [hj,Bh,go_sem]))
theorem Vd (p:Pg) (s:Str) (σ:AH):AS Tzp 46 [pgA p,.d (.str s)] σ (fun v σ'=>v= .d (.int .i64 (Hm (DK (DN p.G7) s)))/\σ'=σ):=by
 refine bL (by simp) ?_;rw [BS];obtain ⟨ds,fs⟩:=p;simp only [Pg.enc,pgA,AG,AN];(repeat' (refine wQ mxQ rfl ?_<;>try simp only [go_sem]));intro j hj;have hle:=CF (cs:=[AV.d (.str s)]) hj;have hc:=JJ (fid:=74) (caps:=[.gp j 0]) (by kernel_rfl) rfl (fun x=>x.name==s) fs (σ.AM j [.d (.str s)]) (fun x _=>mB x s j _ (by simp only [AI,if_true]));rw [dE] at hc;(repeat' ((first|refine wQ mxQ rfl ?_|(refine Run.CK SF (σ2:=σ) hle ?_)|refine AJ.det (hc) ?_|fail)<;>try simp only [go_sem]))
theorem UK (l:List Str) (s:Str) (σ:AH):AS Tzp 106 [.d (.sl (l.map Bb)),.d (.str s)] σ (fun v σ'=>v= .d (.int .i64 (Hm (DK l s)))/\σ'=σ):=by
 refine Ug (by simp) ?_;rw [BS,<- SR];refine Run.slot 0 (fun hb0=>?_);simp only [D0,if_true,AV.FU,AA] at hb0;(repeat' (refine wQ mxQ rfl ?_<;>try simp only [AA,go_sem]));refine Run.BB ?_;refine Run.BG ((fun (a0:AV) (a1:AV) (a7:AV)=>fun (i:Nat)=>put 0 a0 (put 1 a1 (put 7 a7 (put 8 (.d (.int .i64 i)) U)))) _ _ _) (fun _=>E) (fun _=>σ) (fun i=>i<=l.length/\∀x∈l.take i,(x==s)=false) (fun i=>l.length - i) ?_ 0 ⟨by simp,by simp⟩;rintro i ⟨hi,hno⟩ ih;by_cases hlt:i < l.length
 . obtain ⟨x,hx⟩:=Ak hlt;have he:=BR (enc:=Bb) hx;simp only [Bb] at he;have hw1:IntKind.i64.wrap ((i:Int)+1)=((i+1:Nat):Int):=by rw [BP (by omega) (by omega)];omega
   cases hp:(x==s) with
   |true=>
    have hp':(s==x)=true:=by rw [BEq.comm];exact hp
    (repeat' ((first|refine wQ mxQ rfl ?_|refine Run.qP Hk ?_|fail)<;>try simp only [Ag hlt,he,hw1,Bh,hp',go_sem]));rw [EJ (p:=fun x=>x==s) hno hx hp];rfl
   |false=>
    have hp':(s==x)=false:=by rw [BEq.comm];exact hp
    (repeat' (refine wQ mxQ rfl ?_<;>try simp only [Ag hlt,he,hw1,Bh,hp',go_sem]));exact ih (i+1) ⟨by omega,GO (p:=fun x=>x==s) hno hx hp⟩ (by omega)
 . (repeat' ((first|refine wQ mxQ rfl ?_|refine Run.qP Hk ?_|fail)<;>try simp only [Bk hlt,go_sem]));rw [AO (by omega)] at hno;rw [EL (p:=fun x=>x==s) hno];rfl
theorem Mn (l:List Str) (s:Str):(DK l s).isSome=l.contains s:=by
 induction l with
 |nil=>rfl
 |cons x l ih=>
  rw [DK,List.contains_cons];cases h:(x==s) with
  |true=>rw [BEq.comm,h];rfl
  |false=>rw [show (s==x)=(x==s) from BEq.comm,h];simp [ih]
theorem YI (l:List Str) (s:Str) (σ:AH):AS Tzp 75 [.d (.sl (l.map Bb)),.d (.str s)] σ (fun v σ'=>v= .d (.bool (l.contains s))/\σ'=σ):=by
 refine Qy (by simp) ?_;rw [BS];(repeat' ((first|refine wQ mxQ rfl ?_|refine Run.qP JT ?_|refine AJ.det (UK l s σ) ?_|fail)<;>try simp only [QQ,Mn,go_sem]))
theorem W8 (l:List Str) (x:Str):Cy (l++[x])=(Cy l||(!(x==[])&&l.contains x)):=by
 induction l with
 |nil=>
  have:Cy [x]=false:=by rw [Cy,Cy];simp
  rw [Aj,this];simp [Cy]
 |cons y l ih=>
  rw [AX,Cy,ih,Cy,List.contains_cons]
  have h1:(l++[x]).contains y=(l.contains y||(x==y)):=by
   rw [Ax];simp only [Ai,AY,A3,DY,beq_iff_eq];constructor
   . rintro (h|h)
     . exact .inl h
     . exact .inr h.symm
   . rintro (h|h)
     . exact .inl h
     . exact .inr h.symm
  rw [h1];by_cases hxy:x=y
  . subst hxy;have h2:(x==x)=true:=by simp
    rw [h2];generalize (x==([]:Str))=b1;generalize Cy l=b2;generalize l.contains x=b3;cases b1<;>cases b2<;>cases b3<;>rfl
  . have h2:(x==y)=false:=by simpa using hxy
    rw [h2];generalize (x==([]:Str))=b1;generalize (y==([]:Str))=b4;generalize Cy l=b2;generalize l.contains x=b3;generalize l.contains y=b5;cases b1<;>cases b2<;>cases b3<;>cases b4<;>cases b5<;>rfl
theorem dQ {l:List Str} {i:Nat} (h:Cy (l.take i)=true):Cy l=true:=by
 rw [<- Ac i l];generalize l.drop i=m;generalize l.take i=k at h
 induction m generalizing k with
 |nil=>simpa using h
 |cons x m ih=>
  rw [show k++x::m=(k++[x])++m by simp];exact ih (k++[x]) (by rw [W8,h];rfl)
theorem AIN {l:List Str} {i:Nat} (h:i<=l.length):zW (l.map Bb) none (some (.d (.int .i64 (i:Int)))) none 1=some (.d (.sl ((l.take i).map Bb))):=by
 simp [zW,dY,X6,h,List.map_take]
theorem Q0 (l:List Str) (σ:AH):AS Tzp 47 [.d (.sl (l.map Bb))] σ (fun v σ'=>v= .d (.bool (Cy l))/\σ'=σ):=by
 refine bM (by simp) ?_;rw [Bs];refine Run.slot 0 (fun hb0=>?_);simp only [D0,if_true,AV.FU,AA] at hb0;(repeat' (refine wQ mxQ rfl ?_<;>try simp only [AA,go_sem]));refine Run.BB ?_;refine Run.BG ((fun (a0:AV) (a5:AV) (a6:AV)=>fun (i:Nat)=>put 0 a0 (put 5 a5 (put 6 a6 (put 7 (.d (.int .i64 i)) U)))) _ _ _) (fun _=>E) (fun _=>σ) (fun i=>i<=l.length/\Cy (l.take i)=false) (fun i=>l.length - i) ?_ 0 ⟨by simp,by simp [Cy]⟩;rintro i ⟨hi,hno⟩ ih;by_cases hlt:i < l.length
 . obtain ⟨x,hx⟩:=Ak hlt;have he:=BR (enc:=Bb) hx;simp only [Bb] at he;have hw1:IntKind.i64.wrap ((i:Int)+1)=((i+1:Nat):Int):=by rw [BP (by omega) (by omega)];omega
   have hs:=AIN hi;have hsn:=W8 (l.take i) x;rw [<- Ae hx,hno,ED] at hsn;cases h0:(x==[]) with
   |true=>
    rw [h0] at hsn;(repeat' (refine wQ mxQ rfl ?_<;>try simp only [Ag hlt,he,hw1,Ec,h0,go_sem]));exact ih (i+1) ⟨by omega,by simpa using hsn⟩ (by omega)
   |false=>
    rw [h0] at hsn;have hc:=YI (l.take i) x σ;cases hct:(l.take i).contains x with
    |true=>
     rw [hct] at hc hsn;(repeat' ((first|refine wQ mxQ rfl ?_|refine Run.qP Ly ?_|refine AJ.det (hc) ?_|fail)<;>try simp only [Ag hlt,he,hw1,Ec,h0,hs,go_sem]));rw [dQ (i:=i+1) (by simpa using hsn)]
    |false=>
     rw [hct] at hc hsn;(repeat' ((first|refine wQ mxQ rfl ?_|refine AJ.det (hc) ?_|fail)<;>try simp only [Ag hlt,he,hw1,Ec,h0,hs,go_sem]));exact ih (i+1) ⟨by omega,by simpa using hsn⟩ (by omega)
 . (repeat' ((first|refine wQ mxQ rfl ?_|refine Run.qP Ly ?_|fail)<;>try simp only [Bk hlt,go_sem]));rw [AO (by omega)] at hno;rw [hno]
end Go.Ab
namespace Go.Ab
open Go.Proofs
def JG {S X:Type} (vis:S->X->Int×S):List X->S->Option (Nat×Int)×S
 |[],s=>(none,s)
 |x::l,s=>if (vis s x).1=0 then (((JG vis l (vis s x).2).1.map fun y=>(y.1+1,y.2)),(JG vis l (vis s x).2).2) else (some (0,(vis s x).1),(vis s x).2)
theorem kO {S X:Type} {vis:S->X->Int×S}:∀(l m:List X) (s s':S),JG vis l s=(none,s')->JG vis (l++m) s=(((JG vis m s').1.map fun y=>(y.1+l.length,y.2)),(JG vis m s').2)
 |[],m,s,s',h=>by
  simp only [JG,B9,true_and] at h;subst h;simp
 |x::l,m,s,s',h=>by
  simp only [JG] at h;split at h
  . rename_i h0;simp only [B9,Option.map_eq_none_iff] at h;have:=kO l m (vis s x).2 s' (Prod.ext h.1 h.2);rw [AX,JG,if_pos h0,this];simp only [Option.map_map,A0,B9,and_true];congr 1
  . simp at h
theorem o4 {S X:Type} {vis:S->X->Int×S}:∀(l m:List X) (s s':S) (r:Nat×Int),JG vis l s=(some r,s')->JG vis (l++m) s=(some r,s')
 |[],m,s,s',r,h=>by simp [JG] at h
 |x::l,m,s,s',r,h=>by
  simp only [JG] at h;split at h
  . rename_i h0;simp only [B9,AL] at h;obtain ⟨⟨y,hy,rfl⟩,h2⟩:=h;have:=o4 l m (vis s x).2 s' y (Prod.ext hy h2);rw [AX,JG,if_pos h0,this];rfl
  . rename_i h0;rw [AX,JG,if_neg h0];exact h
theorem gD {S X:Type} {vis:S->X->Int×S}:∀(l:List X) (s s':S) (r:Nat×Int),JG vis l s=(some r,s')->r.2≠0
 |[],s,s',r,h=>by simp [JG] at h
 |x::l,s,s',r,h=>by
  simp only [JG] at h;split at h
  . simp only [B9,AL] at h;obtain ⟨⟨y,hy,rfl⟩,h2⟩:=h;exact gD l (vis s x).2 s' y (Prod.ext hy h2)
  . rename_i h0;simp only [B9,AK] at h;rw [<- h.1];exact h0
theorem jW (o:Int) (n:Str) (ns sc:List Str) (k:Ex):∀(l:List Ex) (i:Nat),Ez o n ns sc i (l++[k])=Ez o n ns sc i l++Cu k (T1 o n ns sc (i+l.length))
 |[],i=>by simp [Ez]
 |x::l,i=>by
  rw [AX,Ez,Ez,jW o n ns sc k l (i+1),B4,A0,show i+1+l.length=i+(l.length+1) by omega]
theorem oY (o:Int) (n:Str) (ns sc:List Str) (m:List Ex):∀(l:List Ex) (i:Nat),Ez o n ns sc i (l++m)=Ez o n ns sc i l++Ez o n ns sc (i+l.length) m
 |[],i=>by simp [Ez]
 |x::l,i=>by
  rw [AX,Ez,Ez,oY o n ns sc m l (i+1),B4,A0,show i+1+l.length=i+(l.length+1) by omega]
theorem cE (sc:List Str) (m:List Al):∀l:List Al,HO sc (l++m)=HO sc l++HO sc m
 |[]=>by simp [HO]
 |x::l=>by rw [AX,HO,HO,cE sc m l,B4]
mutual
theorem WJ:∀(e:Ex) (sc:List Str),(Cu e sc).length=e.size
 | .mk o n u ns ks al,sc=>by rw [Cu,A0,A1,S8 o n ns sc 0 ks,Wt sc al,Ex.size];omega
theorem S8 (o:Int) (n:Str) (ns sc:List Str):∀(i:Nat) (l:List Ex),(Ez o n ns sc i l).length=Ex.AT l
 |_,[]=>by simp [Ez,Ex.AT]
 |i,k::l=>by rw [Ez,A1,WJ k _,S8 o n ns sc (i+1) l,Ex.AT]
theorem AH1:∀(a:Al) (sc:List Str),(mX a sc).length=a.size
 | .mk c vs b,sc=>by rw [mX,WJ b _,Al.size]
theorem Wt (sc:List Str):∀l:List Al,(HO sc l).length=Al.AT l
 |[]=>by simp [HO,Al.AT]
 |a::l=>by rw [HO,A1,AH1 a sc,Wt sc l,Al.AT]
end
section
variable {S:Type} (vis:S->Ex×List Str->Int×S) (hS:S->AH) (j:Nat) (fv:AV)
def WH (n:Nat) (s:S):AH:=(hS s).AM j [.d (.int .i64 n),fv]
def WQ (l:List (Ex×List Str)) (n:Nat) (s:S) (v:AV) (σ':AH):Prop:=
 match JG vis l s with
 |(none,s')=>v= .d (.int .i64 0)/\σ'=WH hS j fv (n+l.length - 1) s'
 |(some (k,c),s')=>c≠0/\v= .d (.int .i64 c)/\σ'=WH hS j fv (n+k) s'
def AAJ (fid:FuncId) (first caps:List AV) (l:List (Ex×List Str)):Prop:=
 ∀x∈l,∀(s:S) (n:Nat),AS Tzp fid (first++[exA x.1,.d (bdL x.2)]++caps) (WH hS j fv n s) (fun v σ'=>v= .d (.int .i64 (vis s x).1)/\σ'=WH hS j fv n (vis s x).2)
end
theorem ANS (o:Int) (n:Str) (ns sc:List Str) (i:Nat):bdL (T1 o n ns sc i)=bdL (if (o=7\/o=17)/\i=1 then sc++[n] else if (o=8/\i=1)\/o=11 then sc++ns else sc):=by
 unfold T1;split
 . split
   . rename_i h;rw [sJ _ _ (by simp [h])]
   . rfl
 . rfl
theorem ALV {S:Type} (vis:S->Ex×List Str->Int×S) (hS:S->AH) (j:Nat) (fid:FuncId) (first caps:List AV) (hb:CQ Tzp fid=true) (hfi:first.all AV.BF=true) (hca:caps.all AV.BF=true):
 ∀(N:Nat) (e:Ex) (sc:List Str) (n:Nat) (s:S),e.size<=N->n+e.size<=1000000000->AAJ vis hS j (.fn fid first caps) fid first caps (Cu e sc)->
 AS Tzp 76 [.gp j 0,exA e,.d (bdL sc)] (WH hS j (.fn fid first caps) n s) (WQ vis hS j (.fn fid first caps) (Cu e sc) n s):=by
 intro N
 induction N with
 |zero=>intro e sc n s h;have:=Ex.size_pos e;omega
 |succ N ihN=>
 intro e sc n s hN hsz hvis;have hcall:=hvis (e,sc) (by cases e;rw [Cu];exact AW ..) s n;obtain ⟨o,nm,u,ns,ks,al⟩:=e;simp only [Ex.size] at hN hsz;have hkl:=Ex.Bt ks;have hal:=Al.Bt al;refine XV (by simp) ?_;rw [D6,exA,Ex.A4];simp only [exA,Ex.A4,AG,AN] at hcall;generalize hV:WQ vis hS j (.fn fid first caps) (Cu (.mk o nm u ns ks al) sc) n s=V
 have hnl:(first++[AV.agg [.d (.int .i64 o),.d (.str nm),.d (.int .i64 u),.d (.sl (ns.map Bb)),.d (.sl (ks.map Ex.enc)),.d (.sl (al.map Al.enc))],.d (bdL sc)]++caps).all AV.BF=true:=by
  simp [hfi,hca,Ep,DX]
 have hblk:∀n s,(WH hS j (.fn fid first caps) n s).blk j=some [.d (.int .i64 n),.fn fid first caps]:=fun n s=>by simp only [WH,AI,if_true]
 cases hv:decide ((vis s (.mk o nm u ns ks al,sc)).1=0) with
 |false=>
  have hv':(vis s (.mk o nm u ns ks al,sc)).1≠0:=by simpa using hv
  have hne:((vis s (.mk o nm u ns ks al,sc)).1 != 0)=true:=by simpa using hv'
  (repeat' ((first|refine wQ mxQ rfl ?_|refine Run.qR Ew ?_|(refine ⟨fid,first,caps,rfl,hb,AJ.mk hnl hcall ?_⟩;rintro _ _ ⟨rfl,rfl⟩)|fail)<;>try simp only [hblk,hne,go_sem]));rw [<- hV,WQ,Cu,JG,if_neg hv'];exact ⟨hv',rfl,rfl⟩
 |true=>
 have hv':(vis s (.mk o nm u ns ks al,sc)).1=0:=by simpa using hv
 have hne:((vis s (.mk o nm u ns ks al,sc)).1 != 0)=false:=by simp [hv']
 (repeat' ((first|refine wQ mxQ rfl ?_|(refine ⟨fid,first,caps,rfl,hb,AJ.mk hnl hcall ?_⟩;rintro _ _ ⟨rfl,rfl⟩)|fail)<;>try simp only [hblk,hne,AA,go_sem]));have hr0:JG vis [((.mk o nm u ns ks al:Ex),sc)] s=(none,(vis s (.mk o nm u ns ks al,sc)).2):=by simp [JG,hv']
 generalize (vis s (.mk o nm u ns ks al,sc)).2=s0 at hr0 ⊢;clear hcall hnl hv hv' hne
 have hfail:∀(l m:List (Ex×List Str)) (k:Nat) (c:Int) (s':S),Cu (.mk o nm u ns ks al) sc=l++m->c≠0->JG vis l s=(some (k,c),s')->V (.d (.int .i64 c)) (WH hS j (.fn fid first caps) (n+k) s'):=fun l m k c s' he hc hr=>by
  rw [<- hV,WQ,he,o4 l m s s' (k,c) hr];exact ⟨hc,rfl,rfl⟩
 have hpre:Cu (.mk o nm u ns ks al) sc=((.mk o nm u ns ks al:Ex),sc)::(Ez o nm ns sc 0 ks++HO sc al):=by rw [Cu]
 refine Run.BB ?_
 refine Run.BG ((fun (a0:AV) (a2:AV) (a4:AV) (a26:AV) (a27:AV)=>fun (y:Nat×S)=>put 0 a0 (put 2 a2 (put 4 a4 (put 26 a26 (put 27 a27 (put 28 (.d (.int .i64 y.1)) U)))))) _ _ _ _ _) (fun _=>Ar 4 [.d (.int .i64 o),.d (.str nm),.d (.int .i64 u),.d (.sl (ns.map Bb)),.d (.sl (ks.map Ex.enc)),.d (.sl (al.map Al.enc))] E) (fun y=>WH hS j (.fn fid first caps) (n+Ex.AT (ks.take y.1)) y.2)
  (fun y=>y.1<=ks.length/\JG vis (((.mk o nm u ns ks al:Ex),sc)::Ez o nm ns sc 0 (ks.take y.1)) s=(none,y.2)) (fun y=>ks.length - y.1) ?_ (0,s0) ⟨by simp,by simpa [Ez] using hr0⟩
 rintro ⟨i,t⟩ ⟨hi,hok⟩ ih;simp only at hi hok;by_cases hlt:i < ks.length
 . obtain ⟨x,hx⟩:=Ak hlt;have he:=BR (enc:=Ex.enc) hx;have hw1:IntKind.i64.wrap ((i:Int)+1)=((i+1:Nat):Int):=by rw [BP (by omega) (by omega)];omega
   have hxs:=Ex.JD (AD hx)
   have hsum:Ex.AT (ks.take i)+x.size+Ex.AT (ks.drop (i+1))=Ex.AT ks:=by
    conv=>rhs;rw [<- Ac i ks,Ex.CT,Bv hx,Ex.AT]
    omega
   have hst:Ex.AT (ks.take (i+1))=Ex.AT (ks.take i)+x.size:=by rw [Ae hx,Ex.CT];simp [Ex.AT]
   have hwn:IntKind.i64.wrap (((n+Ex.AT (ks.take i):Nat):Int)+1)=((n+Ex.AT (ks.take i)+1:Nat):Int):=A7 (by omega)
   have hks:Ez o nm ns sc 0 (ks.take (i+1))=Ez o nm ns sc 0 (ks.take i)++Cu x (T1 o nm ns sc i):=by
    rw [Ae hx,jW,Bi,Gg (by omega),BU]
   have hall:Cu (.mk o nm u ns ks al) sc=(((.mk o nm u ns ks al:Ex),sc)::Ez o nm ns sc 0 (ks.take (i+1)))++(Ez o nm ns sc (i+1) (ks.drop (i+1))++HO sc al):=by
    rw [hpre,AX,<- B4];congr 2
    conv=>lhs;rw [<- Ac (i+1) ks,oY,Bi,Gg (by omega),BU]
   have hlen:(((.mk o nm u ns ks al:Ex),sc)::Ez o nm ns sc 0 (ks.take i)).length=1+Ex.AT (ks.take i):=by
    rw [A0,S8];omega
   have happ:=kO (vis:=vis) _ (Cu x (T1 o nm ns sc i)) s t hok;rw [AX,<- hks,hlen] at happ
   have hvx:AAJ vis hS j (.fn fid first caps) fid first caps (Cu x (T1 o nm ns sc i)):=fun y hy=>hvis y (by
    rw [hall,AY,As,hks,AY];exact .inl (.inr (.inr hy)))
   have hc:=ihN x (T1 o nm ns sc i) (n+Ex.AT (ks.take i)+1) t (by omega) (by omega) hvx;have hbd:=ANS o nm ns sc i;generalize hsi:T1 o nm ns sc i=sci at hc happ hbd hvx hks;have hset:∀m:Nat,(WH hS j (.fn fid first caps) (n+Ex.AT (ks.take i)) t).AM j [.d (.int .i64 (m:Int)),.fn fid first caps]=WH hS j (.fn fid first caps) m t:=fun m=>by simp only [WH,F4]
   rcases hrx:JG vis (Cu x sci) t with ⟨_|⟨k,c⟩,t'⟩
   . have hc:AS Tzp 76 [.gp j 0,exA x,.d (bdL sci)] (WH hS j (.fn fid first caps) (n+Ex.AT (ks.take i)+1) t) (fun v σ'=>v= .d (.int .i64 0)/\σ'=WH hS j (.fn fid first caps) (n+Ex.AT (ks.take (i+1))) t'):=hc.mono (by
      intro v σ' h;simp only [WQ,hrx] at h;rw [WJ] at h;obtain ⟨rfl,rfl⟩:=h;have:=Ex.size_pos x;refine ⟨rfl,?_⟩;congr 1;omega)
     rw [hrx] at happ;simp only [Option.map_none] at happ;obtain ⟨xo,xn,xu,xs,xk,xa⟩:=x;simp only [Ex.A4,exA,AG,AN] at he hc;(repeat' (first|refine Run.cb rfl ?_|((first|refine rgQ mxQ ?_|refine cdQ ?_)<;>try simp only [Ag hlt,he,go_sem])|fail));refine Run.block ?_;(repeat' (first|refine Run.cb rfl ?_|((first|refine rgQ mxQ ?_|refine cdQ ?_)<;>try simp only [Ag hlt,he,go_sem])|fail));refine Run.yV (α:=Unit) [0,2,4,9,10,26,27,28] (fun _=>put 0 (.gp j 0) (put 2 (.d (bdL sc)) (put 4 (.lp 4 0) (put 9 (.lp 9 0) (put 10 (.d (bdL sci)) (put 26 (.d (.sl (ks.map Ex.enc))) (put 27 (.d (.int .i64 ks.length)) (put 28 (.d (.int .i64 i)) U)))))))) (Ar 4 [.d (.int .i64 o),.d (.str nm),.d (.int .i64 u),.d (.sl (ns.map Bb)),.d (.sl (ks.map Ex.enc)),.d (.sl (al.map Al.enc))] (Ar 9 [.d (.int .i64 xo),.d (.str xn),.d (.int .i64 xu),.d (.sl (xs.map Bb)),.d (.sl (xk.map Ex.enc)),.d (.sl (xa.map Al.enc))] E)) (WH hS j (.fn fid first caps) (n+Ex.AT (ks.take i)) t) (fun _=>True) ?_ ?_
     . rintro ⟨⟩ _;(repeat' (first|((first|refine wQ mxQ rfl ?_|(refine AJ.mk rfl hc ?_;rintro _ _ ⟨rfl,rfl⟩)|fail)<;>try simp only [hblk,hwn,hset,hw1,go_sem])|(refine ⟨fun h=>?_,fun h=>?_⟩<;>first|(cases h;done)|try simp only [h])|fail));exact ih (i+1,t') ⟨by simp only;omega,happ⟩ (by simp only;omega)
     . intro hrest;clear hc;have hwi:((i:Int)==1)=decide (i=1):=by rw [Ax];simp only [beq_iff_eq,decide_eq_true_eq];omega
       have hws1:=Wy sc ns (WH hS j (.fn fid first caps) (n+Ex.AT (ks.take i)) t);have hws2:=Wy sc [nm] (WH hS j (.fn fid first caps) (n+Ex.AT (ks.take i)) t);simp only [AG,AN,Bb] at hws2;have key:=fun (F':Fm) (L':Lm) h1 h2=>hrest F' L' () h1 h2 trivial;clear hrest;by_cases h11:o=11
       . subst h11;rw [if_neg (by omega),if_pos (.inr rfl)] at hbd;rw [<- hbd] at hws1;(repeat' (first|(refine key _ _ (by simp only [go_sem]) (by simp only [go_sem]))|refine ctQ rfl ?_|((first|refine rgQ mxQ ?_|refine cdQ ?_|refine AJ.det (hws1) ?_)<;>try simp only [Aa,go_sem])|fail))
       by_cases h8:o=8/\i=1
       . obtain ⟨rfl,rfl⟩:=h8;rw [if_neg (by omega),if_pos (.inl ⟨rfl,rfl⟩)] at hbd;rw [<- hbd] at hws1;(repeat' (first|(refine key _ _ (by simp only [go_sem]) (by simp only [go_sem]))|refine ctQ rfl ?_|((first|refine rgQ mxQ ?_|refine cdQ ?_|refine AJ.det (hws1) ?_)<;>try simp only [Aa,hwi,go_sem])|fail))
       by_cases h7:(o=7\/o=17)/\i=1
       . rw [if_pos h7] at hbd;rw [<- hbd] at hws2;obtain ⟨h7,rfl⟩:=h7;rcases h7 with rfl|rfl
         all_goals (repeat' (first|(refine key _ _ (by simp only [go_sem]) (by simp only [go_sem]))|refine ctQ rfl ?_|((first|refine rgQ mxQ ?_|refine cdQ ?_|refine AJ.det (hws2) ?_)<;>try simp only [Aa,hwi,go_sem])|fail))
       . rw [if_neg h7,if_neg (by omega)] at hbd
         have hA:(o==8&&decide (i=1))=false:=by
          rw [C9];intro h;exact h8 (by simpa using h)
         have hB:((o==7||o==17)&&decide (i=1))=false:=by
          rw [C9];intro h;exact h7 (by simpa using h)
         (repeat' (first|(refine key _ _ (by simp only [Ds,Fu,Fv,↓Dd,↓GM,↓De,go_sem,hbd]) (by simp only [Ds,Fu,Fv,↓Dd,↓GM,↓De,go_sem]))|refine ctQ rfl ?_|(refine ZC (by first|exact GV.t|exact GV.f|exact GV.st|exact GV.sf) ⟨?_,fun h=>?_,?_⟩;rotate_left;(focus ((try simp only [AQ,NJ] at h);simp only [Cr h11,hwi,hA,hB,go_sem];first|exact Is.mk|exact Is.pv (by simp only [h,YD,↓Dd,↓GM,↓De,Cr h11,hwi,hA,hB,go_sem];rfl)));(try simp only [Ds,Fu,Fv,↓Dd,↓GM,↓De,Cr h11,hwi,hA,hB,I3,go_sem]))|((first|refine rgQ mxQ ?_|refine cdQ ?_)<;>try simp only [Ds,Fu,Fv,↓Dd,↓GM,↓De,Cr h11,hwi,hA,hB,go_sem])|fail))
   . have hc:AS Tzp 76 [.gp j 0,exA x,.d (bdL sci)] (WH hS j (.fn fid first caps) (n+Ex.AT (ks.take i)+1) t) (fun v σ'=>v= .d (.int .i64 c)/\σ'=WH hS j (.fn fid first caps) (n+(k+(1+Ex.AT (ks.take i)))) t'/\c≠0):=hc.mono (by
      intro v σ' h;simp only [WQ,hrx] at h;obtain ⟨hc0,rfl,rfl⟩:=h;refine ⟨rfl,?_,hc0⟩;congr 1;omega)
     rw [hrx] at happ;simp only [Ad] at happ;have hc0:c≠0:=gD _ _ _ _ hrx;have hne:(c != 0)=true:=by simpa using hc0
     obtain ⟨xo,xn,xu,xs,xk,xa⟩:=x;simp only [Ex.A4,exA,AG,AN] at he hc;(repeat' (first|refine Run.cb rfl ?_|((first|refine rgQ mxQ ?_|refine cdQ ?_)<;>try simp only [Ag hlt,he,go_sem])|fail));refine Run.block ?_;(repeat' (first|refine Run.cb rfl ?_|((first|refine rgQ mxQ ?_|refine cdQ ?_)<;>try simp only [Ag hlt,he,go_sem])|fail));refine Run.yV (α:=Unit) [0,2,4,9,10,26,27,28] (fun _=>put 0 (.gp j 0) (put 2 (.d (bdL sc)) (put 4 (.lp 4 0) (put 9 (.lp 9 0) (put 10 (.d (bdL sci)) (put 26 (.d (.sl (ks.map Ex.enc))) (put 27 (.d (.int .i64 ks.length)) (put 28 (.d (.int .i64 i)) U)))))))) (Ar 4 [.d (.int .i64 o),.d (.str nm),.d (.int .i64 u),.d (.sl (ns.map Bb)),.d (.sl (ks.map Ex.enc)),.d (.sl (al.map Al.enc))] (Ar 9 [.d (.int .i64 xo),.d (.str xn),.d (.int .i64 xu),.d (.sl (xs.map Bb)),.d (.sl (xk.map Ex.enc)),.d (.sl (xa.map Al.enc))] E)) (WH hS j (.fn fid first caps) (n+Ex.AT (ks.take i)) t) (fun _=>True) ?_ ?_
     . rintro ⟨⟩ _;(repeat' ((first|refine wQ mxQ rfl ?_|refine Run.qR Ew ?_|(refine AJ.mk rfl hc ?_;rintro _ _ ⟨rfl,rfl,_⟩)|fail)<;>try simp only [hblk,hwn,hset,hw1,hne,go_sem]));exact hfail _ _ _ _ _ hall hc0 happ
     . intro hrest;clear hc;have hwi:((i:Int)==1)=decide (i=1):=by rw [Ax];simp only [beq_iff_eq,decide_eq_true_eq];omega
       have hws1:=Wy sc ns (WH hS j (.fn fid first caps) (n+Ex.AT (ks.take i)) t);have hws2:=Wy sc [nm] (WH hS j (.fn fid first caps) (n+Ex.AT (ks.take i)) t);simp only [AG,AN,Bb] at hws2;have key:=fun (F':Fm) (L':Lm) h1 h2=>hrest F' L' () h1 h2 trivial;clear hrest;by_cases h11:o=11
       . subst h11;rw [if_neg (by omega),if_pos (.inr rfl)] at hbd;rw [<- hbd] at hws1;(repeat' (first|(refine key _ _ (by simp only [go_sem]) (by simp only [go_sem]))|refine ctQ rfl ?_|((first|refine rgQ mxQ ?_|refine cdQ ?_|refine AJ.det (hws1) ?_)<;>try simp only [Aa,go_sem])|fail))
       by_cases h8:o=8/\i=1
       . obtain ⟨rfl,rfl⟩:=h8;rw [if_neg (by omega),if_pos (.inl ⟨rfl,rfl⟩)] at hbd;rw [<- hbd] at hws1;(repeat' (first|(refine key _ _ (by simp only [go_sem]) (by simp only [go_sem]))|refine ctQ rfl ?_|((first|refine rgQ mxQ ?_|refine cdQ ?_|refine AJ.det (hws1) ?_)<;>try simp only [Aa,hwi,go_sem])|fail))
       by_cases h7:(o=7\/o=17)/\i=1
       . rw [if_pos h7] at hbd;rw [<- hbd] at hws2;obtain ⟨h7,rfl⟩:=h7;rcases h7 with rfl|rfl
         all_goals (repeat' (first|(refine key _ _ (by simp only [go_sem]) (by simp only [go_sem]))|refine ctQ rfl ?_|((first|refine rgQ mxQ ?_|refine cdQ ?_|refine AJ.det (hws2) ?_)<;>try simp only [Aa,hwi,go_sem])|fail))
       . rw [if_neg h7,if_neg (by omega)] at hbd
         have hA:(o==8&&decide (i=1))=false:=by
          rw [C9];intro h;exact h8 (by simpa using h)
         have hB:((o==7||o==17)&&decide (i=1))=false:=by
          rw [C9];intro h;exact h7 (by simpa using h)
         (repeat' (first|(refine key _ _ (by simp only [Ds,Fu,Fv,↓Dd,↓GM,↓De,go_sem,hbd]) (by simp only [Ds,Fu,Fv,↓Dd,↓GM,↓De,go_sem]))|refine ctQ rfl ?_|(refine ZC (by first|exact GV.t|exact GV.f|exact GV.st|exact GV.sf) ⟨?_,fun h=>?_,?_⟩;rotate_left;(focus ((try simp only [AQ,NJ] at h);simp only [Cr h11,hwi,hA,hB,go_sem];first|exact Is.mk|exact Is.pv (by simp only [h,YD,↓Dd,↓GM,↓De,Cr h11,hwi,hA,hB,go_sem];rfl)));(try simp only [Ds,Fu,Fv,↓Dd,↓GM,↓De,Cr h11,hwi,hA,hB,I3,go_sem]))|((first|refine rgQ mxQ ?_|refine cdQ ?_)<;>try simp only [Ds,Fu,Fv,↓Dd,↓GM,↓De,Cr h11,hwi,hA,hB,go_sem])|fail))
 . have hik:ks.take i=ks:=AO (by omega);rw [hik] at hok;clear ih;(repeat' (refine wQ mxQ rfl ?_<;>try simp only [Bk hlt,AA,hik,go_sem]));refine Run.BB ?_
   refine Run.BG ((fun (a0:AV) (a2:AV) (a83:AV) (a84:AV)=>fun (y:Nat×S)=>put 0 a0 (put 2 a2 (put 83 a83 (put 84 a84 (put 85 (.d (.int .i64 y.1)) U))))) _ _ _ _) (fun _=>E) (fun y=>WH hS j (.fn fid first caps) (n+Ex.AT ks+Al.AT (al.take y.1)) y.2)
    (fun y=>y.1<=al.length/\JG vis (((.mk o nm u ns ks al:Ex),sc)::(Ez o nm ns sc 0 ks++HO sc (al.take y.1))) s=(none,y.2)) (fun y=>al.length - y.1) ?_ (0,t) ⟨by simp,by simpa [HO] using hok⟩
   clear hok hi hlt hik;rintro ⟨i,t⟩ ⟨hi,hok⟩ ih;simp only at hi hok;by_cases hlt:i < al.length
   . obtain ⟨a,hx⟩:=Ak hlt;have he:=BR (enc:=Al.enc) hx;have hw1:IntKind.i64.wrap ((i:Int)+1)=((i+1:Nat):Int):=by rw [BP (by omega) (by omega)];omega
     have hxs:=Al.JD (AD hx)
     have hsum:Al.AT (al.take i)+a.size+Al.AT (al.drop (i+1))=Al.AT al:=by
      conv=>rhs;rw [<- Ac i al,Al.CT,Bv hx,Al.AT]
      omega
     have hst:Al.AT (al.take (i+1))=Al.AT (al.take i)+a.size:=by rw [Ae hx,Al.CT];simp [Al.AT]
     have hwn:IntKind.i64.wrap (((n+Ex.AT ks+Al.AT (al.take i):Nat):Int)+1)=((n+Ex.AT ks+Al.AT (al.take i)+1:Nat):Int):=A7 (by omega)
     have hks:HO sc (al.take (i+1))=HO sc (al.take i)++mX a sc:=by
      rw [Ae hx,cE];simp [HO]
     have hall:Cu (.mk o nm u ns ks al) sc=(((.mk o nm u ns ks al:Ex),sc)::(Ez o nm ns sc 0 ks++HO sc (al.take (i+1))))++HO sc (al.drop (i+1)):=by
      rw [hpre,AX,B4,<- cE,Ac]
     have hlen:(((.mk o nm u ns ks al:Ex),sc)::(Ez o nm ns sc 0 ks++HO sc (al.take i))).length=1+Ex.AT ks+Al.AT (al.take i):=by
      rw [A0,A1,S8,Wt];omega
     have happ:=kO (vis:=vis) _ (mX a sc) s t hok;rw [AX,B4,<- hks,hlen] at happ;obtain ⟨ac,av,x⟩:=a;rw [mX] at happ hks;simp only [Al.size] at hxs hst hsum
     have hvx:AAJ vis hS j (.fn fid first caps) fid first caps (Cu x (sc++av)):=fun y hy=>hvis y (by
      rw [hall,AY,As,AY,hks,AY];exact .inl (.inr (.inr (.inr hy))))
     have hc:=ihN x (sc++av) (n+Ex.AT ks+Al.AT (al.take i)+1) t (by omega) (by omega) hvx;have hws:=Wy sc av;generalize sc++av=sci at hc happ hvx hks hws;have hset:∀m:Nat,(WH hS j (.fn fid first caps) (n+Ex.AT ks+Al.AT (al.take i)) t).AM j [.d (.int .i64 (m:Int)),.fn fid first caps]=WH hS j (.fn fid first caps) m t:=fun m=>by simp only [WH,F4]
     rcases hrx:JG vis (Cu x sci) t with ⟨_|⟨k,c⟩,t'⟩
     . have hc:AS Tzp 76 [.gp j 0,exA x,.d (bdL sci)] (WH hS j (.fn fid first caps) (n+Ex.AT ks+Al.AT (al.take i)+1) t) (fun v σ'=>v= .d (.int .i64 0)/\σ'=WH hS j (.fn fid first caps) (n+Ex.AT ks+Al.AT (al.take (i+1))) t'):=hc.mono (by
        intro v σ' h;simp only [WQ,hrx] at h;rw [WJ] at h;obtain ⟨rfl,rfl⟩:=h;have:=Ex.size_pos x;refine ⟨rfl,?_⟩;congr 1;omega)
       rw [hrx] at happ;simp only [Option.map_none] at happ;obtain ⟨xo,xn,xu,xs,xk,xa⟩:=x;simp only [Al.A4,Ex.A4,exA,AG,AN] at he hc;(repeat' (first|((first|refine wQ mxQ rfl ?_|(refine AJ.mk rfl hc ?_;rintro _ _ ⟨rfl,rfl⟩)|refine AJ.det (hws _) ?_|fail)<;>try simp only [Ag hlt,he,hblk,hwn,hset,hw1,go_sem])|(refine ⟨fun h=>?_,fun h=>?_⟩<;>first|(cases h;done)|try simp only [h])|fail));exact ih (i+1,t') ⟨by simp only;omega,happ⟩ (by simp only;omega)
     . have hc:AS Tzp 76 [.gp j 0,exA x,.d (bdL sci)] (WH hS j (.fn fid first caps) (n+Ex.AT ks+Al.AT (al.take i)+1) t) (fun v σ'=>v= .d (.int .i64 c)/\σ'=WH hS j (.fn fid first caps) (n+(k+(1+Ex.AT ks+Al.AT (al.take i)))) t'/\c≠0):=hc.mono (by
        intro v σ' h;simp only [WQ,hrx] at h;obtain ⟨hc0,rfl,rfl⟩:=h;refine ⟨rfl,?_,hc0⟩;congr 1;omega)
       rw [hrx] at happ;simp only [Ad] at happ;have hc0:c≠0:=gD _ _ _ _ hrx;have hne:(c != 0)=true:=by simpa using hc0
       obtain ⟨xo,xn,xu,xs,xk,xa⟩:=x;simp only [Al.A4,Ex.A4,exA,AG,AN] at he hc;(repeat' ((first|refine wQ mxQ rfl ?_|refine Run.qR Ew ?_|(refine AJ.mk rfl hc ?_;rintro _ _ ⟨rfl,rfl,_⟩)|refine AJ.det (hws _) ?_|fail)<;>try simp only [Ag hlt,he,hblk,hwn,hset,hw1,hne,go_sem]));exact hfail _ _ _ _ _ hall hc0 happ
   . rw [AO (by omega)] at hok;have hia:al.take i=al:=AO (by omega);(repeat' ((first|refine wQ mxQ rfl ?_|refine Run.qR Ew ?_|fail)<;>try simp only [Bk hlt,go_sem]));rw [<- hV,WQ,hpre,hok,hia];refine ⟨rfl,?_⟩;congr 1;rw [A0,A1,S8,Wt];omega
end Go.Ab
namespace Go.Ab
open Go.Proofs
theorem Lt (l:List Con) (s:Str):l.findIdx? (fun c=>c.name==s)=JR l s:=by
 induction l with
 |nil=>rfl
 |cons x l ih=>
  rw [List.findIdx?_cons,JR];split
  . rfl
  . rw [ih]
theorem bB (s:Str):∀(l m:List Dat),(∀d∈l,JR d.cons s=none)->Em (l++m) s=(Em m s).map fun x=>(x.1+l.length,x.2)
 |[],m,_=>by simp
 |d::l,m,h=>by
  rw [AX,Em,h d (AW ..),bB s l m (fun x hx=>h x (AU _ hx))];simp only [Option.map_map,A0];congr 1
theorem AAN {s:Str} {dt:List Dat} {i k:Nat} {d:Dat} (h:∀d∈dt.take i,JR d.cons s=none) (hd:dt[i]?=some d) (hk:JR d.cons s=some k):Em dt s=some (i,k):=by
 have hi:=(AF.1 hd).1;rw [<- Ac i dt,bB s _ _ h,Bv hd,Em,hk];simp;omega
theorem AAO {s:Str} {dt:List Dat} (h:∀d∈dt,JR d.cons s=none):Em dt s=none:=by
 have:=bB s dt [] h;simpa [Em] using this
theorem xH {l:List Con} {s:Str} {k:Nat} (h:JR l s=some k):∃c,l[k]?=some c/\c.name=s:=by
 rw [<- Lt,AFF] at h;obtain ⟨h1,h2,_⟩:=h;exact ⟨l[k],by simp [h1],by simpa using h2⟩
theorem Wi {s:Str}:∀ {dt:List Dat} {x:Nat×Nat},Em dt s=some x->∃d c,dt[x.1]?=some d/\d.cons[x.2]?=some c/\c.name=s
 |[],x,h=>by simp [Em] at h
 |d::l,x,h=>by
  rw [Em] at h;split at h
  . rename_i k hk;cases h;obtain ⟨c,hc,hn⟩:=xH hk;exact ⟨d,c,rfl,hc,hn⟩
  . simp only [AL] at h;obtain ⟨y,hy,rfl⟩:=h;obtain ⟨d',c,h1,h2,h3⟩:=Wi hy;exact ⟨d',c,by simpa using h1,h2,h3⟩
theorem iC {s:Str} {dt:List Dat} {x:Nat×Nat} {d:Dat} {c:Con} (h1:dt[x.1]?=some d) (h2:d.cons[x.2]?=some c):arity dt x=c.args.length:=by
 simp [arity,h1,h2]
def iB (o:Option (Nat×Nat)):AV:=match o with
 |some x=>.tup [.d (.int .i64 x.1),.d (.int .i64 x.2),.d (.bool true)]
 |none=>.tup [.d (.int .i64 0),.d (.int .i64 0),.d (.bool false)]
def lN (dt:List Dat):Prop:=∀d∈dt,d.cons.length<=1000000
theorem Ke (dt:List Dat) (hdt:lN dt) (s:Str) (σ:AH):AS Tzp 79 [dsA dt,.d (.str s)] σ (fun v σ'=>v=iB (Em dt s)/\σ'=σ):=by
 refine Nj (by simp) ?_;rw [BS,dsA];refine Run.slot 0 (fun hb0=>?_);simp only [D0,if_true,AV.FU,AA] at hb0;(repeat' (refine wQ mxQ rfl ?_<;>try simp only [AA,go_sem]));refine Run.BB ?_;refine Run.BG ((fun (a0:AV) (a1:AV) (a10:AV)=>fun (i:Nat)=>put 0 a0 (put 1 a1 (put 10 a10 (put 11 (.d (.int .i64 i)) U)))) _ _ _) (fun _=>E) (fun _=>σ) (fun i=>i<=dt.length/\∀d∈dt.take i,JR d.cons s=none) (fun i=>dt.length - i) ?_ 0 ⟨by simp,by simp⟩;rintro i ⟨hi,hno⟩ ih;by_cases hlt:i < dt.length
 . obtain ⟨d,hd⟩:=Ak hlt;have he:=Wj hd;have hw1:IntKind.i64.wrap ((i:Int)+1)=((i+1:Nat):Int):=by rw [BP (by omega) (by omega)];omega
   (repeat' (refine wQ mxQ rfl ?_<;>try simp only [Ag hlt,he,go_sem]));have hdl:=hdt d (AD hd);have hat:=fun k=>AAN (k:=k) hno hd;rw [<- Lt] at hat;have hnext:=fun (h:JR d.cons s=none)=>GO (p:=fun d:Dat=>(JR d.cons s).isSome) (i:=i) (fun y hy=>by simp [hno y hy]) hd (by rw [h];rfl);obtain ⟨dn,dv,cs⟩:=d;simp only [AA] at *;(repeat' (refine wQ mxQ rfl ?_<;>try simp only [AA,go_sem]));refine Run.BB ?_;refine Run.BG ((fun (a0:AV) (a1:AV) (a7:AV) (a10:AV) (a11:AV) (a19:AV)=>fun (k:Nat)=>put 0 a0 (put 1 a1 (put 7 a7 (put 10 a10 (put 11 a11 (put 19 a19 (put 20 (.d (.int .i64 k)) U))))))) _ _ _ _ _ _) (fun _=>E) (fun _=>σ) (fun k=>k<=cs.length/\∀c∈cs.take k,(c.name==s)=false) (fun k=>cs.length - k) ?_ 0 ⟨by simp,by simp⟩;rintro k ⟨hk,hnk⟩ ih2;by_cases hkl:k < cs.length
   . obtain ⟨c,hc⟩:=Ak hkl;have hec:=Wf hc;have hwk:=A7 (show k+1<=9000000000000000000 by omega);cases hs:(c.name==s) with
     |true=>
      (repeat' ((first|refine wQ mxQ rfl ?_|refine Run.qP Dk ?_|fail)<;>try simp only [Ag hkl,he,hec,Bh,hs,go_sem]));rw [hat k (EJ (p:=fun c:Con=>c.name==s) hnk hc hs)];rfl
     |false=>
      (repeat' (refine wQ mxQ rfl ?_<;>try simp only [Ag hkl,he,hec,hwk,Bh,hs,go_sem]));exact ih2 (k+1) ⟨by omega,GO (p:=fun c:Con=>c.name==s) hnk hc hs⟩ (by omega)
   . rw [AO (by omega)] at hnk;(repeat' (refine wQ mxQ rfl ?_<;>try simp only [Bk hkl,hw1,go_sem]));refine ih (i+1) ⟨by omega,fun y hy=>?_⟩ (by omega);have:=hnext (by rw [<- Lt,EL (p:=fun c:Con=>c.name==s) hnk]) y hy;simpa using this
 . (repeat' ((first|refine wQ mxQ rfl ?_|refine Run.qP Dk ?_|fail)<;>try simp only [Bk hlt,go_sem]));rw [AO (by omega)] at hno;rw [AAO hno];rfl
def BL (l:List Bool):List AV:=l.map fun b=>.d (.bool b)
theorem O2 (l:List Bool):(BL l).length=l.length:=by simp [BL]
theorem Gs {l:List Bool} {k:Nat} {x:Bool} (h:l[k]?=some x):(BL l)[k]?=some (.d (.bool x)):=by simp [BL,h]
theorem ZM {l:List Bool} {k:Nat} (x:Bool) (h:k < l.length):wr (BL l) k [.d (.bool x)]=BL (l.set k x):=by
 unfold wr BL;rw [List.map_set,AFG,if_pos (by simpa using h)];simp
theorem Wd (n:Nat):(AE n [AV.d (.bool false)]).flatten=BL (AE n false):=by
 induction n with
 |zero=>rfl
 |succ n ih=>rw [BV,BK,ih,BV];rfl
theorem lO (l:List Bool) (b:Bool) (j e:Nat) (σ:AH) (hj:σ.blk j=some (BL l)) (hl:l.length<=1000000000):AS Tzp 132 [.ms j l.length 1 e,.d (.bool b)] σ (fun v σ'=>v= .d (.int .i64 (Hm (l.findIdx? (fun x=>b==x))))/\σ'=σ):=by
 refine Nk (by simp) ?_;rw [BS];(repeat' (refine wQ mxQ rfl ?_<;>try simp only [go_sem]));refine Run.BB ?_;refine Run.BG ((fun (a0:AV) (a1:AV) (a7:AV)=>fun (i:Nat)=>put 0 a0 (put 1 a1 (put 7 a7 (put 8 (.d (.int .i64 i)) U)))) _ _ _) (fun _=>E) (fun _=>σ) (fun i=>i<=l.length/\∀x∈l.take i,(b==x)=false) (fun i=>l.length - i) ?_ 0 ⟨by simp,by simp⟩;rintro i ⟨hi,hno⟩ ih;by_cases hlt:i < l.length
 . obtain ⟨x,hx⟩:=Ak hlt;have he:=Gs hx;have hix:((i:Int) < (l.length:Int))=True:=by simp;omega
   have hw1:=A7 (show i+1<=9000000000000000000 by omega);cases hp:(b==x) with
   |true=>
    (repeat' ((first|refine wQ mxQ rfl ?_|refine Run.qP Gi ?_|fail)<;>try simp only [Ag hlt,hix,hj,he,hp,A2,go_sem]));rw [EJ (p:=fun x=>b==x) hno hx hp];rfl
   |false=>
    (repeat' (refine wQ mxQ rfl ?_<;>try simp only [Ag hlt,hix,hj,he,hw1,hp,A2,go_sem]));exact ih (i+1) ⟨by omega,GO (p:=fun x=>b==x) hno hx hp⟩ (by omega)
 . (repeat' ((first|refine wQ mxQ rfl ?_|refine Run.qP Gi ?_|fail)<;>try simp only [Bk hlt,go_sem]));rw [AO (by omega)] at hno;rw [EL (p:=fun x=>b==x) hno];rfl
theorem aG (l:List Bool) (b:Bool) (j e:Nat) (σ:AH) (hj:σ.blk j=some (BL l)) (hl:l.length<=1000000000):AS Tzp 107 [.ms j l.length 1 e,.d (.bool b)] σ (fun v σ'=>v= .d (.bool (l.any (fun x=>b==x)))/\σ'=σ):=by
 refine Ky (by simp) ?_;rw [BS];(repeat' ((first|refine wQ mxQ rfl ?_|refine Run.qP HX ?_|refine AJ.det (lO l b j e σ hj hl) ?_|fail)<;>try simp only [QQ,IK,go_sem]))
theorem dT (b:Bool) (σ:AH):AS Tzp 107 [.Af,.d (.bool b)] σ (fun v σ'=>v= .d (.bool false)/\σ'=σ):=by
 have hi:AS Tzp 132 [.Af,.d (.bool b)] σ (fun v σ'=>v= .d (.int .i64 (-1))/\σ'=σ):=by
  refine Nk (by simp) ?_;rw [BS];have h0:decide ((0:Int) < 0)=false:=by decide
  (repeat' ((first|refine wQ mxQ rfl ?_|refine Run.qP Gi ?_|(refine Run.loop ?_)|fail)<;>try simp only [h0,go_sem]))
 refine Ky (by simp) ?_;rw [BS];have h1:decide ((0:Int)<=-1)=false:=by decide
 (repeat' ((first|refine wQ mxQ rfl ?_|refine Run.qP HX ?_|refine AJ.det (hi) ?_|fail)<;>try simp only [h1,go_sem]))
theorem lI {S:Type} (vis:S->Ex×List Str->Int×S) (hS:S->AH) (fid:FuncId) (first caps:List AV) (hb:CQ Tzp fid=true) (hfi:first.all AV.BF=true) (hca:caps.all AV.BF=true)
 (f:FE) (s:S) (hsz:f.body.size<=1000000) (hfr:∀t j,(hS s).blk j=none->(hS t).blk j=none) (hvis:∀j,(hS s).blk j=none->AAJ vis hS j (.fn fid first caps) fid first caps (Cu f.body f.params)):
 AS Tzp 48 [feA f,.fn fid first caps] (hS s) (fun v σ'=>match JG vis (Cu f.body f.params) s with
  |(none,s')=>v= .tup [.d (.int .i64 ((f.body.size - 1:Nat):Int)),.d (.int .i64 0)]/\σ'=hS s'
  |(some (k,c),s')=>v= .tup [.d (.int .i64 (k:Nat)),.d (.int .i64 c)]/\σ'=hS s'):=by
 refine eO (by simp) ?_;rw [BS];have hw:=fun σ=>Wy [] f.params σ;rw [show bdL []= .GK from rfl] at hw;have hw':∀σ,AS Tzp 77 [.GK,.d (.sl (f.params.map Bb))] σ (fun v σ'=>v= .d (bdL f.params)/\σ'=σ):=fun σ=>AS.plain (by simpa only [AV.CX,Yo,Jh,Aj] using hw σ);clear hw;have hwalk:=fun j hj=>ALV vis hS j fid first caps hb hfi hca _ f.body f.params 0 s (AR _) (by omega) (hvis j hj)
 have hnn:=WJ f.body f.params;have hblk:∀j n s,(WH hS j (.fn fid first caps) n s).blk j=some [.d (.int .i64 n),.fn fid first caps]:=fun j n s=>by simp only [WH,AI,if_true]
 rcases hr:JG vis (Cu f.body f.params) s with ⟨_|⟨k,c⟩,s'⟩
 . have hwalk:∀j,(hS s).blk j=none->AS Tzp 76 [.gp j 0,exA f.body,.d (bdL f.params)] (WH hS j (.fn fid first caps) 0 s) (fun v σ'=>v= .d (.int .i64 0)/\σ'=WH hS j (.fn fid first caps) (f.body.size - 1) s'):=fun j hj=>(hwalk j hj).mono (by
    intro v σ' h;simp only [WQ,hr] at h;rw [hnn,BU] at h;exact h)
   obtain ⟨nm,ps,o,n,u,ns,ks,al⟩:=f;simp only [FE.enc,Ex.A4,feA,exA,AG,AN] at hw' hwalk ⊢;(repeat' (refine wQ mxQ rfl ?_<;>try simp only [go_sem]));intro j hj;have h0:(hS s).AM j [.d (.int .i64 0),.fn fid first caps]=WH hS j (.fn fid first caps) 0 s:=rfl;rw [h0];have hle:(hS s').le (WH hS j (.fn fid first caps) ((Ex.mk o n u ns ks al).size - 1) s'):=CF (hfr s' j hj);(repeat' ((first|refine wQ mxQ rfl ?_|(refine AJ.mk rfl (hwalk j hj) ?_;rintro _ _ ⟨rfl,rfl⟩)|(refine Run.CK NU hle ?_)|refine AJ.det (hw' _) ?_|fail)<;>try simp only [hblk,go_sem]))
 . have hwalk:∀j,(hS s).blk j=none->AS Tzp 76 [.gp j 0,exA f.body,.d (bdL f.params)] (WH hS j (.fn fid first caps) 0 s) (fun v σ'=>v= .d (.int .i64 c)/\σ'=WH hS j (.fn fid first caps) k s'):=fun j hj=>(hwalk j hj).mono (by
    intro v σ' h;simp only [WQ,hr] at h;rw [BU] at h;exact h.2)
   obtain ⟨nm,ps,o,n,u,ns,ks,al⟩:=f;simp only [FE.enc,Ex.A4,feA,exA,AG,AN] at hw' hwalk ⊢;(repeat' (refine wQ mxQ rfl ?_<;>try simp only [go_sem]));intro j hj;have h0:(hS s).AM j [.d (.int .i64 0),.fn fid first caps]=WH hS j (.fn fid first caps) 0 s:=rfl;rw [h0];have hle:(hS s').le (WH hS j (.fn fid first caps) k s'):=CF (hfr s' j hj);(repeat' ((first|refine wQ mxQ rfl ?_|(refine AJ.mk rfl (hwalk j hj) ?_;rintro _ _ ⟨rfl,rfl⟩)|(refine Run.CK NU hle ?_)|refine AJ.det (hw' _) ?_|fail)<;>try simp only [hblk,go_sem]))
end Go.Ab
namespace Go.Ab
open Go.Proofs
theorem Ws {α:Type} [DecidableEq α]:∀ {l m:List α},l.Nodup->(∀x∈l,x∈m)->l.length<=m.length
 |[],m,_,_=>by simp
 |x::l,m,hn,hs=>by
  have hx:=hs x (AW ..);have h1:(m.erase x).length=m.length - 1:=List.length_erase_of_mem hx;have h2:=List.length_pos_of_mem hx
  have h3:l.length<=(m.erase x).length:=Ws (XE.1 hn).2 (fun y hy=>(List.mem_erase_of_ne (by
   rintro rfl;exact (XE.1 hn).1 hy)).2 (hs y (AU _ hy)))
  simp only [A0];omega
def HV:List (Nat×Nat)->Nat
 |[]=>0
 |x::_=>x.1
def flg (xs:List (Nat×Nat)) (f n:Nat):List Bool:=(Au n).map fun q=>xs.contains (f,q)
def exB:List (Nat×Nat)->Bool
 |[]=>true
 |x::l=>(x::l).all (fun y=>y.1==x.1)&&decide (x::l).Nodup
theorem QO (xs:List (Nat×Nat)) (f n:Nat):(flg xs f n).length=n:=by simp [flg]
theorem fY (xs:List (Nat×Nat)) {f n q:Nat} (h:q < n):(flg xs f n)[q]?=some (xs.contains (f,q)):=by simp [flg,h]
theorem AKG (f n:Nat):flg [] f n=AE n false:=by
 apply Ev;intro q;by_cases h:q < n
 . rw [fY _ h];simp [h]
 . rw [BY (by simp [QO];omega),BY (by simp;omega)]
theorem AGP {xs:List (Nat×Nat)} {f n d k:Nat} (h:d≠f\/(f,k)∈xs):flg (xs++[(d,k)]) f n=flg xs f n:=by
 unfold flg;apply FF;intro q _;rw [Ax];simp only [Ai,AY,A3,B9];constructor
 . rintro (h1|⟨rfl,rfl⟩)
   . exact h1
   . rcases h with h|h
     . exact absurd rfl h
     . exact h
 . exact .inl
theorem AAY {xs:List (Nat×Nat)} {f n k:Nat} (hk:k < n):(flg xs f n).set k true=flg (xs++[(f,k)]) f n:=by
 apply Ev;intro q;by_cases h:q < n
 . rw [fY _ h,BZ];by_cases hq:k=q
   . subst hq;rw [if_pos rfl,if_pos (by rw [QO];exact hk)];congr 1;simp
   . rw [if_neg hq,fY _ h];congr 1;rw [Ax];simp only [Ai,AY,A3,B9,true_and];constructor
     . exact .inl
     . rintro (h1|h1)
       . exact h1
       . exact absurd h1.symm hq
 . rw [BY (by simp [QO];omega),BY (by simp [QO];omega)]
theorem AGB {xs:List (Nat×Nat)} (hne:xs≠[]) (d k:Nat):exB (xs++[(d,k)])=(exB xs&& !(d != HV xs||xs.contains (HV xs,k))):=by
 cases xs with
 |nil=>exact absurd rfl hne
 |cons x l=>
  simp only [AX,exB,HV];rw [Ax];simp only [AQ,Aq,beq_iff_eq,decide_eq_true_eq,Bl,IH,bne_eq_false_iff_eq];rw [show x::(l++[(d,k)])=(x::l)++[(d,k)] from rfl,Gc];constructor
  . rintro ⟨h1,h2,_,h3⟩;have hd:d=x.1:=h1 (d,k) (by simp);refine ⟨⟨fun y hy=>h1 y (by simp only [AY];exact .inl hy),h2⟩,hd,?_⟩;rw [C9];intro hc;have:=h3 _ (Ai.1 hc) (d,k) (by simp);exact this (by rw [hd])
  . rintro ⟨⟨h1,h2⟩,rfl,h3⟩;refine ⟨fun y hy=>?_,h2,by simp,fun a ha b hb=>?_⟩
    . rcases AY.1 hy with hy|hy
      . exact h1 y hy
      . simp only [A3] at hy;subst hy;rfl
    . simp only [A3] at hb;subst hb;rintro rfl;rw [Ai.2 ha] at h3;cases h3
theorem ACJ {dt:List Dat} {xs:List (Nat×Nat)} (hne:xs≠[]) (hk:∀x∈xs,x.1=HV xs->x.2 < Mz dt (HV xs)):
 iH dt xs=(exB xs&& !(flg xs (HV xs) (Mz dt (HV xs))).any (fun x=>false==x)):=by
 cases xs with
 |nil=>exact absurd rfl hne
 |cons x l=>
  simp only [iH,exB,HV] at hk ⊢;generalize hxs:x::l=xs at hk ⊢;generalize Mz dt x.1=n at hk ⊢;rw [Ax];simp only [AQ,Aq,beq_iff_eq,decide_eq_true_eq,Bl,List.any_eq_false];constructor
  . rintro ⟨⟨h1,h2⟩,h3⟩;refine ⟨⟨h1,h2⟩,fun b hb=>?_⟩;simp only [flg,Ck,Bz] at hb;obtain ⟨q,hq,rfl⟩:=hb;intro hc;have hc':¬(x.1,q)∈xs:=fun hm=>by rw [Ai.2 hm] at hc;cases hc
    have:=Ws (m:=((Au n).map fun q=>(x.1,q)).erase (x.1,q)) h2 (fun y hy=>by
     have hy1:=h1 y hy;rw [List.mem_erase_of_ne (by rintro rfl;exact hc' hy)];rw [Ck];exact ⟨y.2,by rw [Bz];exact hk y hy hy1,by rw [<- hy1]⟩)
    rw [List.length_erase_of_mem (by rw [Ck];exact ⟨q,by simpa using hq,rfl⟩),AA,List.length_range] at this;omega
  . rintro ⟨⟨h1,h2⟩,h3⟩;refine ⟨⟨h1,h2⟩,?_⟩
    have hle:=Ws (m:=(Au n).map fun q=>(x.1,q)) h2 (fun y hy=>by
     rw [Ck];exact ⟨y.2,by rw [Bz];exact hk y hy (h1 y hy),by rw [<- h1 y hy]⟩)
    have hge:=Ws (l:=(Au n).map fun q=>(x.1,q)) (m:=xs) (by
     rw [List.nodup_iff_pairwise_ne,List.pairwise_map];exact List.Pairwise.imp (fun h he=>h (Prod.mk.inj he).2) List.nodup_range) (fun y hy=>by
     rw [Ck] at hy;obtain ⟨q,hq,rfl⟩:=hy;have:=h3 (xs.contains (x.1,q)) (by simp only [flg,Ck];exact ⟨q,hq,rfl⟩);cases hc:xs.contains (x.1,q) with
     |true=>exact Ai.1 hc
     |false=>rw [hc] at this;simp at this)
    rw [AA,List.length_range] at hle hge;omega
theorem YL (dt:List Dat) (m:List Al):∀ {l:List Al} {xs:List (Nat×Nat)},D5 dt l= .ok xs->D5 dt (l++m)=(D5 dt m).map (xs++·)
 |[],xs,h=>by
  simp only [D5,EH] at h;subst h;simp only [Aj];cases D5 dt m<;>rfl
 | .mk c vs b::l,xs,h=>by
  rw [AX,D5];rw [D5] at h;cases hc:Em dt c with
  |none=>rw [hc] at h;cases h
  |some x=>
   rw [hc] at h;simp only at h ⊢;split at h
   . cases h
   . split at h
     . cases h
     . rename_i h1 h2;rw [if_neg h1,if_neg h2];cases hl:D5 dt l with
       |error e=>rw [hl] at h;cases h
       |ok ys=>
        rw [hl] at h;simp only [CW,EH] at h;subst h;rw [YL dt m hl];cases D5 dt m<;>rfl
end Go.Ab
