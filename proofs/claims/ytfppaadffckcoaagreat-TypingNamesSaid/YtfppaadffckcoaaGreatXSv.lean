/- Part Sv. Conditions: none. -/
import Derived.Test.YtfppaadffckcoaaGreatXAb12
set_option linter.unusedSimpArgs false
set_option linter.unusedVariables false
set_option maxRecDepth 100000
set_option maxHeartbeats 40000000
open Go.Proofs.Tryz renaming prog→Tzp
open List renaming getElem?_map→Aj,take_append_drop→Ad,range→BA,findIdx?_eq_some_iff_getElem→AK8,getElem?_eq_some_iff→AG,mem_append→A0,mem_singleton→A6,length_map→AA,mem_of_getElem?→AE,take_of_length_le→AM,any_eq_not_all_not→RZ,map_cons→AD,map_nil→AJ,length_nil→CG,mem_cons_of_mem→AR,mem_cons_self→AS,replicate→AF,length_cons→A1,filter_append→Qh,append_nil→BW,contains_cons→Qg,append_assoc→Az,nil_append→As,cons_append→AZ,contains_iff_mem→Ak,length_append→AX,length_take→B4,mem_cons→Ar,set_eq_take_append_cons_drop→AK9,replicate_succ→B1,flatten_cons→BU,ext_getElem?→FO,getElem?_eq_none→B9,map_congr_left→DL,getElem?_set→B3,all_eq_true→A8,nodup_append→Gs,mem_map→Be,mem_range→CJ
open Bool renaming eq_iff_iff→An,false_or→EU,and_eq_true→AO,not_eq_true'→Br,or_eq_false_iff→GU,and_false→CT,not_false→FL,and_true→B7,true_and→BY,not_not→OM,and_self→Wa,or_eq_true→DI,eq_false_iff→C5
open Int renaming reduceBEq→AY,reduceToNat→E0
open Option renaming bind_eq_bind→AQ,bind_eq_some_iff→AB,bind_some→El,map_eq_some_iff→AN,map_some→Ah
open Nat renaming le_refl→AW,zero_add→BJ,reduceEqDiff→C4,min_eq_left→Dd,mul_one→A5
open Prod.mk renaming injEq→Bb
open Option.some renaming injEq→AL
open Except.ok renaming injEq→Db
open Except renaming map→C3
namespace Go.Ab
def I3 (k:Int) (s:Str):Bool:=
 (HT s).2.2==0&&((HT s).1.length==2&&(match (HT s).1 with|[]=>false|a::_=>a.kind==k&&a.text==s))
def Dl (s:Str):Bool:=I3 1 s
def HU (s:Str):Bool:=I3 2 s
def R4 (s:Str):Bool:=s==[]||Dl s
def P4 (k:Int) (n:Str) (len:Nat):Bool:=
 if k=1\/k=2\/k=3 then n==[]&&decide (len=0)
                                     else if k=4 then Dl n&&decide (len=0)
                                     else if k=5 then HU n&&decide (len<=6)
                                     else if k=6 then n==[]&&decide (2<=len)&&decide (len<=6)
                                     else if k=7\/k=8 then n==[]&&decide (len=1)
                                     else if k=9 then n==[]&&decide (1<=len)&&decide (len<=7)
                                     else false
def Cc:Nat->TE->Bool
 |0,_=>false
 |d+1,.mk k n l=>P4 k n l.length&&l.all (Cc d)
def ZJ (c:CE):Bool:=HU c.name&&decide (c.args.length<=6)&&c.args.all (Cc 40)
def Km (d:DE):Bool:=HU d.name&&decide (d.vars.length<=6)&&d.vars.all Dl&&decide (1<=d.cons.length)&&decide (d.cons.length<=8)&&d.cons.all ZJ
def Vq:Al->Bool
 | .mk c vs _=>HU c&&decide (vs.length<=6)&&vs.all R4
def nmB (o:Int) (n:Str):Bool:=
 if o=4 then Dl n else if o=6 then HU n else if o=7\/o=17 then R4 n else n==[]
def nuB (o:Int) (u:Int):Bool:=
 if o=2 then decide (0<=u)&&decide (u<=1) else if o=3 then decide (-1000000<=u)&&decide (u<=1000000) else if o=13 then decide (1<=u)&&decide (u<=8)
                                                                                                                                          else if o=14 then decide (1<=u)&&decide (u<=7) else if o=15 then decide (-1000<=u)&&decide (u<=1000) else u==0
def nsB (o:Int) (ns:List Str):Bool:=
 if o=8 then decide (2<=ns.length)&&decide (ns.length<=6)&&ns.all R4 else if o=11 then decide (ns.length<=6)&&ns.all Dl else decide (ns.length=0)
def asB (o:Int) (al:List Al):Bool:=
 if o=10 then decide (1<=al.length)&&al.all Vq else decide (al.length=0)
def Zr (u:Int):Nat:=if u=1\/u=2\/u=7 then 2 else if u=3 then 3 else if u=4\/u=5\/u=6 then 1 else 0
def nkB (o u:Int) (nk:Nat):Bool:=
 if o=1\/o=2\/o=3\/o=4\/o=15 then decide (nk=0)
                                       else if o=5 then decide (2<=nk)&&decide (nk<=6)
                                       else if o=6 then decide (nk<=6)
                                       else if o=7\/o=8\/o=13\/o=17 then decide (nk=2)
                                       else if o=9 then decide (nk=3)
                                       else if o=10\/o=11\/o=16 then decide (nk=1)
                                       else if o=12 then decide (1<=nk)&&decide (nk<=7)
                                       else if o=14 then decide (nk=Zr u)
                                       else false
def Lu (o:Int) (n:Str) (u:Int) (ns:List Str) (nk:Nat) (al:List Al):Bool:=
 nmB o n&&nuB o u&&nsB o ns&&asB o al&&nkB o u nk
def vEx:Nat->Nat->Ex->Option Nat
 |0,_,_=>none
 |d+1,q,.mk o n u ns ks al=>
  match q with
  |0=>none
  |q+1=>if Lu o n u ns ks.length al then (ks.foldlM (fun q e=>vEx d q e) q).bind fun q=>al.foldlM (fun q a=>match a with| .mk _ _ b=>vEx d q b) q else none
def uK (f:FE):Bool:=Dl f.name&&decide (f.params.length<=6)&&f.params.all Dl
def Qc (q:Nat) (f:FE):Option Nat:=if uK f then vEx 40 q f.body else none
def Cl (p:Pg):Bool:=decide (p.data.length<=12)&&decide (p.Ev.length<=24)&&p.data.all Km&&(p.Ev.foldlM Qc 600).isSome
end Go.Ab
namespace Go.Ab
structure Con where
 name:List UInt8
 args:List Ty
structure Dat where
 name:List UInt8
 vars:Int
 cons:List Con
def Con.enc (c:Con):List DV:=[.str c.name,.sl (Ty.Na c.args)]
def Dat.enc (d:Dat):List DV:=[.str d.name,.int .i64 d.vars,.sl (d.cons.map Con.enc)]
def dsA (l:List Dat):AV:= .d (.sl (l.map Dat.enc))
theorem PM {l:List Con} {i:Nat} {x:Con} (h:l[i]?=some x):(l.map Con.enc)[i]?=some [.str x.name,.sl (Ty.Na x.args)]:=by
 rw [Aj,h];rfl
theorem PN {l:List Dat} {i:Nat} {x:Dat} (h:l[i]?=some x):(l.map Dat.enc)[i]?=some [.str x.name,.int .i64 x.vars,.sl (x.cons.map Con.enc)]:=by
 rw [Aj,h];rfl
theorem AF0:∀t:Ty,1<=t.size
 | .mk _ _ _=>by simp [Ty.size]
theorem Iy (l:List Ty) (i:Nat):Ty.AU (l.take i)<=Ty.AU l:=by
 have:=Cb (l.take i) (l.drop i);rw [Ad] at this;omega
theorem NI {a:Nat} (h:a<=9000000000000000000):IntKind.i64.wrap (((a+1:Nat):Int) - 1)=(a:Int):=by
 rw [Ax (by omega) (by omega)];omega
theorem Run.AQR {cx:Cx} {KK:AV->AI->Prop} {k:List CI} {F:Fm} {L:Lm} {σ σ':AI} (e:σ'=σ) (h:Run cx KK k F L σ'):Run cx KK k F L σ:=e ▸ h
theorem Run.AET {cx:Cx} {KK:AV->AI->Prop} {k:List CI} {c:C} {F:Fm} {L:Lm} {σ:AI} {α:Type} (ks:List Nat) (Fs:α->Fm) (Ls:Lm) (σs:AI) (I:α->Prop) (h2:∀a,I a->Run cx KK k (Fs a) Ls σs)
 (h1:(∀(F':Fm) (L':Lm) (a:α),JK ks F'=Fs a->Hs ks L'=Ls->I a->Run cx KK k F' L' σs)->Run cx KK (.code c::k) F L σ):Run cx KK (.code c::k) F L σ:=
 h1 fun F' L' a hF hL hI=>Run.OF ks (by rw [hF,hL];exact h2 a hI)
theorem ALG {σ:AI} {i:Nat} {z:List AV} {x:Nat×TypeId} (h:σ.blk i=none/\σ.bt i=none):σ.le ((σ.AP i z).CH i x)/\((σ.AP i z).CH i x).blk i=some z:=
 ⟨⟨fun j cs hj=>by
    have hne:j≠i:=fun e=>by rw [e,h.1] at hj;cases hj
    simp [AI.CH,AI.AP,hne,hj],fun _ h=>h,rfl,fun j y hj=>by
    have hne:j≠i:=fun e=>by rw [e,h.2] at hj;cases hj
    simp [AI.CH,AI.AP,hne,hj]⟩,by simp [AI.CH,AI.AP]⟩
theorem E6 {σ σ1:AI} {i:Nat} {cs:List AV} (h:σ.le σ1) (hn:σ.blk i=none):σ.le (σ1.AP i cs):=
 ⟨fun j ds hj=>by
   have hne:j≠i:=fun e=>by rw [e,hn] at hj;cases hj
   rw [AK,if_neg hne];exact h.blk j ds hj,h.tok,h.gt,h.bt⟩
theorem Bd (a b:List UInt8):AB8 .eql a b=some (.d (.bool (a==b))):=rfl
theorem DA (a b:List UInt8):AB8 .neq a b=some (.d (.bool (!(a==b)))):=rfl
theorem gtN (n k:Nat):decide ((k:Int) < (n:Int))=!decide (n<=k):=by
 rw [An];simp
theorem leN (n k:Nat):decide ((n:Int)<=(k:Int))=decide (n<=k):=decide_eq_decide.2 (by omega)
theorem ltN (n k:Nat):decide ((n:Int) < (k:Int))=decide (n < k):=decide_eq_decide.2 (by omega)
theorem AVT (n k:Nat):((n:Int)==(k:Int))=(n==k):=by
 rw [An];simp only [beq_iff_eq];omega
theorem rN (a b:Nat):((a:Int) != (b:Int))=(a != b):=by
 rw [An];simp;omega
theorem Cp {a b:Int} (h:a≠b):(a==b)=false:=by simpa using h
end Go.Ab
namespace Go.Ab
def C9:List Str->Str->Option Nat
 |[],_=>none
 |x::l,s=>if x==s then some 0 else (C9 l s).map (·+1)
def Fi (o:Option Nat):Int:=match o with|some i=>i|none=>-1
def CP:List Str->Bool
 |[]=>false
 |x::l=>(!(x==[])&&l.contains x)||CP l
def Eb:List TE->List Str->Bool
 |[],[]=>true
 | .mk k n _::l,v::vs=>(k==4&&n==v)&&Eb l vs
 |_,_=>false
mutual
def II (ds:List (Str×Nat)) (vars:List Str):Bool->TE->Except Int Ty
 |whole,.mk k n l=>
  if k=4 then
   match C9 vars n with
   |none=>.error 3
   |some i=>(Co ds vars l).map (Ty.mk k i)
                                 else if k=5 then
   match C9 (ds.map (·.1)) n with
   |none=>.error 3
   |some i=>
    if l.length≠(ds.getD i ([],0)).2 then .error 5
                             else if i+1=ds.length/\¬(whole=true/\Eb l vars=true) then .error 7
                             else (Co ds vars l).map (Ty.mk k i)
                             else (Co ds vars l).map (Ty.mk k 0)
def Co (ds:List (Str×Nat)) (vars:List Str):List TE->Except Int (List Ty)
 |[]=>.ok []
 |t::l=>match II ds vars false t with
  | .error e=>.error e
  | .ok u=>(Co ds vars l).map (u::·)
end
def D2 (ds:List (Str×Nat)) (vars:List Str):List TE->Except Int (List Ty)
 |[]=>.ok []
 |t::l=>match II ds vars true t with
  | .error e=>.error e
  | .ok u=>(D2 ds vars l).map (u::·)
def Em (ds:List (Str×Nat)) (vars:List Str):List Str->List CE->Except Int (List Con)
 |_,[]=>.ok []
 |used,c::l=>
  if used.contains c.name then .error 4
   else match D2 ds vars c.args with
  | .error e=>.error e
  | .ok ts=>(Em ds vars (used++[c.name]) l).map (⟨c.name,ts⟩::·)
def Lc (ds:List (Str×Nat)) (used:List Str) (d:DE):Except Int Dat:=
 if (ds.map (·.1)).contains d.name||CP d.vars then .error 4
               else (Em (ds++[(d.name,d.vars.length)]) d.vars used d.cons).map (⟨d.name,d.vars.length,·⟩)
def CZ (l:List DE):List (Str×Nat):=l.map fun d=>(d.name,d.vars.length)
def JA (l:List DE):List Str:=l.flatMap fun d=>d.cons.map (·.name)
def DJ:List DE->List DE->Except (Int×Nat) (List Dat)
 |_,[]=>.ok []
 |done,d::l=>match Lc (CZ done) (JA done) d with
  | .error e=>.error (e,done.length)
  | .ok x=>(DJ (done++[d]) l).map (x::·)
abbrev Dg:=Int×Int×Int
def H4 (p:Pg):Except Dg (List Dat):=
 if Cl p then (match DJ [] p.data with| .error (e,i)=>.error (e,-1,i)| .ok l=>.ok l) else .error (1,-1,0)
def Ex.op:Ex->Int| .mk o _ _ _ _ _=>o
def Ex.num:Ex->Int| .mk _ _ u _ _ _=>u
def Ex.name:Ex->Str| .mk _ n _ _ _ _=>n
def Ex.names:Ex->List Str| .mk _ _ _ ns _ _=>ns
def Ex.kids:Ex->List Ex| .mk _ _ _ _ ks _=>ks
def Ex.alts:Ex->List Al| .mk _ _ _ _ _ al=>al
def Al.con:Al->Str| .mk c _ _=>c
def Al.vars:Al->List Str| .mk _ vs _=>vs
def Al.body:Al->Ex| .mk _ _ b=>b
def Fa (o:Int) (n:Str) (ns:List Str) (sc:List Str) (i:Nat):List Str:=
 if (o=7\/o=17)/\i=1 then (if n=[] then sc else sc++[n])
                          else if (o=8/\i=1)\/o=11 then sc++ns else sc
mutual
def Bj:Ex->List Str->List (Ex×List Str)
 | .mk o n u ns ks al,sc=>(.mk o n u ns ks al,sc)::(Bn o n ns sc 0 ks++CD sc al)
def Bn (o:Int) (n:Str) (ns sc:List Str):Nat->List Ex->List (Ex×List Str)
 |_,[]=>[]
 |i,k::l=>Bj k (Fa o n ns sc i)++Bn o n ns sc (i+1) l
def VI:Al->List Str->List (Ex×List Str)
 | .mk _ vs b,sc=>Bj b (sc++vs)
def CD (sc:List Str):List Al->List (Ex×List Str)
 |[]=>[]
 |a::l=>VI a sc++CD sc l
end
def IT:List Con->Str->Option Nat
 |[],_=>none
 |c::l,s=>if c.name==s then some 0 else (IT l s).map (·+1)
def EV:List Dat->Str->Option (Nat×Nat)
 |[],_=>none
 |d::l,s=>match IT d.cons s with
  |some k=>some (0,k)
  |none=>(EV l s).map fun x=>(x.1+1,x.2)
def arity (dt:List Dat) (x:Nat×Nat):Nat:=match dt[x.1]? with|some d=>(match d.cons[x.2]? with|some c=>c.args.length|none=>0)|none=>0
def IY (dt:List Dat) (d:Nat):Nat:=match dt[d]? with|some x=>x.cons.length|none=>0
def CY (dt:List Dat):List Al->Except Int (List (Nat×Nat))
 |[]=>.ok []
 | .mk c vs _::l=>match EV dt c with
  |none=>.error 3
  |some x=>if vs.length≠arity dt x then .error 5 else if CP vs then .error 4 else (CY dt l).map (x::·)
def gL (dt:List Dat):List (Nat×Nat)->Bool
 |[]=>true
 |x::l=>(x::l).all (fun y=>y.1==x.1)&&decide ((x::l).Nodup)&&decide ((x::l).length=IY dt x.1)
def Jm (dt:List Dat) (l:List Al):Int:=match CY dt l with| .error e=>e| .ok xs=>if gL dt xs then 0 else 7
def Bo (fs:List FE):List Str:=fs.map (·.name)
def EY (fs:List FE) (dt:List Dat) (e:Ex) (sc:List Str):Int:=
 if e.op=4 then (if !sc.contains e.name&&(C9 (Bo fs) e.name).isNone then 3 else 0)
                                               else if e.op=6 then
  match EV dt e.name with
  |none=>3
  |some x=>if e.kids.length≠arity dt x then 5 else 0
            else if e.op=8\/e.op=11 then (if CP e.names then 4 else 0)
            else if e.op=10 then Jm dt e.alts
            else if e.op=12 then
  match e.kids.head? with
  |none=>0
  |some h=>if h.op=4&& !sc.contains h.name then
   (match C9 (Bo fs) h.name with
   |none=>0
   |some f=>match fs[f]? with
    |some g=>if g.params.length+1≠e.kids.length then 5 else 0
    |none=>0) else 0
            else 0
def Eu (vis:Ex->List Str->Int):List (Ex×List Str)->Option (Nat×Int)
 |[]=>none
 |x::l=>if vis x.1 x.2=0 then (Eu vis l).map (fun y=>(y.1+1,y.2)) else some (0,vis x.1 x.2)
def XF (fs:List FE) (dt:List Dat) (i:Nat) (f:FE):Option Dg:=
 if C9 (Bo fs) f.name≠some i\/CP f.params=true then some (4,i,0)
                                                          else match Eu (EY fs dt) (Bj f.body f.params) with
  |some (k,c)=>some (c,i,k)
  |none=>none
def Gt (fs:List FE) (dt:List Dat):Nat->List FE->Dg
 |_,[]=>(0,0,0)
 |i,f::l=>match XF fs dt i f with
  |some d=>d
  |none=>Gt fs dt (i+1) l
def K9 (p:Pg):Dg:=match H4 p with| .error d=>d| .ok dt=>Gt p.Ev dt 0 p.Ev
def IH (fs:List FE) (g:Nat) (x:Ex×List Str):Bool:=x.1.op==4&&(!x.2.contains x.1.name&&C9 (Bo fs) x.1.name==some g)
def TZ (fs:List FE) (f:FE):List Nat:=(BA fs.length).filter fun g=>(Bj f.body f.params).any (IH fs g)
def Hz (p:Pg):List (List Nat):=if (K9 p).1=0 then p.Ev.map (TZ p.Ev) else []
end Go.Ab
namespace Go.Ab
open Go.Proofs
theorem D3 {α:Type} {p:α->Bool} {l:List α} {i:Nat} {x:α} (h:∀y∈l.take i,p y=false) (hx:l[i]?=some x) (hp:p x=true):l.findIdx? p=some i:=by
 rw [AK8];obtain ⟨hl,he⟩:=AG.1 hx;refine ⟨hl,by rw [he];exact hp,fun j hj=>?_⟩;rw [h (l[j]'(by omega)) (List.mem_take_iff_getElem.2 ⟨j,by omega,rfl⟩)];simp
theorem D4 {α:Type} {p:α->Bool} {l:List α} (h:∀y∈l,p y=false):l.findIdx? p=none:=by
 rw [List.findIdx?_eq_none_iff];exact h
theorem F2 {α:Type} {p:α->Bool} {l:List α} {i:Nat} {x:α} (h:∀y∈l.take i,p y=false) (hx:l[i]?=some x) (hp:p x=false):∀y∈l.take (i+1),p y=false:=by
 intro y hy;rw [Aa hx] at hy;rcases A0.1 hy with hy|hy
 . exact h y hy
 . simp only [A6] at hy;subst hy;exact hp
theorem Rf (o:Option Nat):decide (0<=Fi o)=o.isSome:=by
 cases o<;>simp [Fi]
theorem I9 {α:Type} (p:α->Bool) (l:List α):(l.findIdx? p).isSome=l.any p:=by
 rw [List.findIdx?_isSome]
theorem Yp {fid:FuncId} {caps:List AV} (hb:Ca Tzp fid=true) (hcp:caps.all AV.BE=true) (p:Str->Bool) (l:List Str) (σ:AI) (hf:∀x∈l,AT Tzp fid ((.d (.str x))::caps) σ (fun v σ'=>v= .d (.bool (p x))/\σ'=σ)):
 AT Tzp 139 [.d (.sl (l.map BF)),.fn fid [] caps] σ (fun v σ'=>v= .d (.int .i64 (Fi (l.findIdx? p)))/\σ'=σ):=by
 refine Qx (by simp) ?_;rw [BK];refine Run.slot 0 (fun hb0=>?_);simp only [CR,if_true,AV.DW,AA] at hb0;(repeat' (refine wQ mxQ rfl ?_<;>try simp only [AA,go_sem]));refine Run.At ?_;refine Run.Au ((fun (a0:AV) (a1:AV) (a7:AV)=>fun (i:Nat)=>put 0 a0 (put 1 a1 (put 7 a7 (put 8 (.d (.int .i64 i)) U)))) _ _ _) (fun _=>E) (fun _=>σ) (fun i=>i<=l.length/\∀x∈l.take i,p x=false) (fun i=>l.length - i) ?_ 0 ⟨by simp,by simp⟩;rintro i ⟨hi,hno⟩ ih;by_cases hlt:i < l.length
 . obtain ⟨x,hx⟩:=Ai hlt;have he:=Av (enc:=BF) hx;have hw1:IntKind.i64.wrap ((i:Int)+1)=((i+1:Nat):Int):=by rw [Ax (by omega) (by omega)];omega
   have hc:=hf x (AE hx);simp only [BF] at he;cases hp:p x with
   |true=>
    rw [hp] at hc;(repeat' ((first|refine wQ mxQ rfl ?_|refine Run.qP GN ?_|(refine ⟨fid,[],caps,rfl,hb,AH.det hc ?_ (by simp [hcp,FI,D9])⟩)|fail)<;>try simp only [Ag hlt,he,hw1,go_sem]));rw [D3 hno hx hp];rfl
   |false=>
    rw [hp] at hc;(repeat' ((first|refine wQ mxQ rfl ?_|(refine ⟨fid,[],caps,rfl,hb,AH.det hc ?_ (by simp [hcp,FI,D9])⟩)|fail)<;>try simp only [Ag hlt,he,hw1,go_sem]));exact ih (i+1) ⟨by omega,F2 hno hx hp⟩ (by omega)
 . (repeat' ((first|refine wQ mxQ rfl ?_|refine Run.qP GN ?_|fail)<;>try simp only [B5 hlt,go_sem]));rw [AM (by omega)] at hno;rw [D4 hno];rfl
theorem UY {fid:FuncId} {caps:List AV} (hb:Ca Tzp fid=true) (hcp:caps.all AV.BE=true) (p:Str->Bool) (l:List Str) (σ:AI) (hf:∀x∈l,AT Tzp fid ((.d (.str x))::caps) σ (fun v σ'=>v= .d (.bool (p x))/\σ'=σ)):
 AT Tzp 115 [.d (.sl (l.map BF)),.fn fid [] caps] σ (fun v σ'=>v= .d (.bool (l.any p))/\σ'=σ):=by
 refine O0 (by simp) ?_;rw [BK];(repeat' ((first|refine wQ mxQ rfl ?_|refine Run.qP Hr ?_|refine AH.det (Yp hb hcp p l σ hf) ?_|fail)<;>try simp only [Rf,I9,go_sem]))
theorem kI {fid:FuncId} {caps:List AV} (hb:Ca Tzp fid=true) (hcp:caps.all AV.BE=true) (x:Str) (b:Bool) (j:Nat) (σ:AI) (hj:σ.blk j=some [.fn fid [] caps]) (hf:AT Tzp fid ((.d (.str x))::caps) σ (fun v σ'=>v= .d (.bool b)/\σ'=σ)):
 AT Tzp 116 [(.d (.str x)),.gp j 0] σ (fun v σ'=>v= .d (.bool (!b))/\σ'=σ):=by
 refine WE (by simp) ?_;rw [BK];(repeat' ((first|refine wQ mxQ rfl ?_|refine Run.qP M7 ?_|(refine ⟨fid,[],caps,rfl,hb,AH.det hf ?_ (by simp [hcp,FI,D9])⟩)|fail)<;>try simp only [hj,go_sem]))
theorem Jl {fid:FuncId} {caps:List AV} (hb:Ca Tzp fid=true) (hcp:caps.all AV.BE=true) (p:Str->Bool) (l:List Str) (σ:AI) (hf:∀x∈l,∀σ1,σ.le σ1->AT Tzp fid ((.d (.str x))::caps) σ1 (fun v σ'=>v= .d (.bool (p x))/\σ'=σ1)):
 AT Tzp 83 [.d (.sl (l.map BF)),.fn fid [] caps] σ (fun v σ'=>v= .d (.bool (l.all p))/\σ'=σ):=by
 refine ZO (by simp) ?_;rw [BK];(repeat' (refine wQ mxQ rfl ?_<;>try simp only [go_sem]));intro j hj;have hle:=CQ (cs:=[.fn fid [] caps]) hj;(repeat' ((first|refine wQ mxQ rfl ?_|(refine Run.Bf Of (σ2:=σ) hle ?_)|refine AH.det (UY (by kernel_rfl) rfl (fun x=>!p x) l _ (fun x hx=>kI hb hcp x (p x) j _ (by simp only [AK,if_true]) (hf x hx _ hle))) ?_|fail)<;>try simp only [go_sem]));simp [RZ]
theorem Qf {fid:FuncId} {caps:List AV} (hb:Ca Tzp fid=true) (hcp:caps.all AV.BE=true) (p:TE->Bool) (l:List TE) (σ:AI) (hf:∀x∈l,AT Tzp fid ((teA x)::caps) σ (fun v σ'=>v= .d (.bool (p x))/\σ'=σ)):
 AT Tzp 150 [.d (.sl (l.map TE.enc)),.fn fid [] caps] σ (fun v σ'=>v= .d (.int .i64 (Fi (l.findIdx? p)))/\σ'=σ):=by
 refine MZ (by simp) ?_;rw [BK];refine Run.slot 0 (fun hb0=>?_);simp only [CR,if_true,AV.DW,AA] at hb0;(repeat' (refine wQ mxQ rfl ?_<;>try simp only [AA,go_sem]));refine Run.At ?_;refine Run.Au ((fun (a0:AV) (a1:AV) (a7:AV)=>fun (i:Nat)=>put 0 a0 (put 1 a1 (put 7 a7 (put 8 (.d (.int .i64 i)) U)))) _ _ _) (fun _=>E) (fun _=>σ) (fun i=>i<=l.length/\∀x∈l.take i,p x=false) (fun i=>l.length - i) ?_ 0 ⟨by simp,by simp⟩;rintro i ⟨hi,hno⟩ ih;by_cases hlt:i < l.length
 . obtain ⟨x,hx⟩:=Ai hlt;have he:=Av (enc:=TE.enc) hx;have hw1:IntKind.i64.wrap ((i:Int)+1)=((i+1:Nat):Int):=by rw [Ax (by omega) (by omega)];omega
   have hc:=hf x (AE hx);obtain ⟨k,n,al⟩:=x;simp only [TE.A2,teA,AD,AJ] at he hc;cases hp:p (.mk k n al) with
   |true=>
    rw [hp] at hc;(repeat' ((first|refine wQ mxQ rfl ?_|refine Run.qP EF ?_|(refine ⟨fid,[],caps,rfl,hb,AH.det hc ?_ (by simp [hcp,FI,D9])⟩)|fail)<;>try simp only [Ag hlt,he,hw1,go_sem]));rw [D3 hno hx hp];rfl
   |false=>
    rw [hp] at hc;(repeat' ((first|refine wQ mxQ rfl ?_|(refine ⟨fid,[],caps,rfl,hb,AH.det hc ?_ (by simp [hcp,FI,D9])⟩)|fail)<;>try simp only [Ag hlt,he,hw1,go_sem]));exact ih (i+1) ⟨by omega,F2 hno hx hp⟩ (by omega)
 . (repeat' ((first|refine wQ mxQ rfl ?_|refine Run.qP EF ?_|fail)<;>try simp only [B5 hlt,go_sem]));rw [AM (by omega)] at hno;rw [D4 hno];rfl
theorem OO {fid:FuncId} {caps:List AV} (hb:Ca Tzp fid=true) (hcp:caps.all AV.BE=true) (p:TE->Bool) (l:List TE) (σ:AI) (hf:∀x∈l,AT Tzp fid ((teA x)::caps) σ (fun v σ'=>v= .d (.bool (p x))/\σ'=σ)):
 AT Tzp 135 [.d (.sl (l.map TE.enc)),.fn fid [] caps] σ (fun v σ'=>v= .d (.bool (l.any p))/\σ'=σ):=by
 refine Kc (by simp) ?_;rw [BK];(repeat' ((first|refine wQ mxQ rfl ?_|refine Run.qP Fe ?_|refine AH.det (Qf hb hcp p l σ hf) ?_|fail)<;>try simp only [Rf,I9,go_sem]))
theorem Vp {fid:FuncId} {caps:List AV} (hb:Ca Tzp fid=true) (hcp:caps.all AV.BE=true) (x:TE) (b:Bool) (j:Nat) (σ:AI) (hj:σ.blk j=some [.fn fid [] caps]) (hf:AT Tzp fid ((teA x)::caps) σ (fun v σ'=>v= .d (.bool b)/\σ'=σ)):
 AT Tzp 136 [(teA x),.gp j 0] σ (fun v σ'=>v= .d (.bool (!b))/\σ'=σ):=by
 refine PV (by simp) ?_;rw [BK];obtain ⟨k,n,al⟩:=x;simp only [TE.A2,teA,AD,AJ] at hf ⊢;(repeat' ((first|refine wQ mxQ rfl ?_|refine Run.qP IV ?_|(refine ⟨fid,[],caps,rfl,hb,AH.det hf ?_ (by simp [hcp,FI,D9])⟩)|fail)<;>try simp only [hj,go_sem]))
theorem Ob {fid:FuncId} {caps:List AV} (hb:Ca Tzp fid=true) (hcp:caps.all AV.BE=true) (p:TE->Bool) (l:List TE) (σ:AI) (hf:∀x∈l,∀σ1,σ.le σ1->AT Tzp fid ((teA x)::caps) σ1 (fun v σ'=>v= .d (.bool (p x))/\σ'=σ1)):
 AT Tzp 111 [.d (.sl (l.map TE.enc)),.fn fid [] caps] σ (fun v σ'=>v= .d (.bool (l.all p))/\σ'=σ):=by
 refine Qy (by simp) ?_;rw [BK];(repeat' (refine wQ mxQ rfl ?_<;>try simp only [go_sem]));intro j hj;have hle:=CQ (cs:=[.fn fid [] caps]) hj;(repeat' ((first|refine wQ mxQ rfl ?_|(refine Run.Bf JY (σ2:=σ) hle ?_)|refine AH.det (OO (by kernel_rfl) rfl (fun x=>!p x) l _ (fun x hx=>Vp hb hcp x (p x) j _ (by simp only [AK,if_true]) (hf x hx _ hle))) ?_|fail)<;>try simp only [go_sem]));simp [RZ]
theorem SA {fid:FuncId} {caps:List AV} (hb:Ca Tzp fid=true) (hcp:caps.all AV.BE=true) (p:CE->Bool) (l:List CE) (σ:AI) (hf:∀x∈l,AT Tzp fid ((ceA x)::caps) σ (fun v σ'=>v= .d (.bool (p x))/\σ'=σ)):
 AT Tzp 149 [.d (.sl (l.map CE.enc)),.fn fid [] caps] σ (fun v σ'=>v= .d (.int .i64 (Fi (l.findIdx? p)))/\σ'=σ):=by
 refine Mt (by simp) ?_;rw [BK];refine Run.slot 0 (fun hb0=>?_);simp only [CR,if_true,AV.DW,AA] at hb0;(repeat' (refine wQ mxQ rfl ?_<;>try simp only [AA,go_sem]));refine Run.At ?_;refine Run.Au ((fun (a0:AV) (a1:AV) (a7:AV)=>fun (i:Nat)=>put 0 a0 (put 1 a1 (put 7 a7 (put 8 (.d (.int .i64 i)) U)))) _ _ _) (fun _=>E) (fun _=>σ) (fun i=>i<=l.length/\∀x∈l.take i,p x=false) (fun i=>l.length - i) ?_ 0 ⟨by simp,by simp⟩;rintro i ⟨hi,hno⟩ ih;by_cases hlt:i < l.length
 . obtain ⟨x,hx⟩:=Ai hlt;have he:=Av (enc:=CE.enc) hx;have hw1:IntKind.i64.wrap ((i:Int)+1)=((i+1:Nat):Int):=by rw [Ax (by omega) (by omega)];omega
   have hc:=hf x (AE hx);obtain ⟨nm,ar⟩:=x;simp only [CE.enc,ceA,AD,AJ] at he hc;cases hp:p (⟨nm,ar⟩) with
   |true=>
    rw [hp] at hc;(repeat' ((first|refine wQ mxQ rfl ?_|refine Run.qP E3 ?_|(refine ⟨fid,[],caps,rfl,hb,AH.det hc ?_ (by simp [hcp,FI,D9])⟩)|fail)<;>try simp only [Ag hlt,he,hw1,go_sem]));rw [D3 hno hx hp];rfl
   |false=>
    rw [hp] at hc;(repeat' ((first|refine wQ mxQ rfl ?_|(refine ⟨fid,[],caps,rfl,hb,AH.det hc ?_ (by simp [hcp,FI,D9])⟩)|fail)<;>try simp only [Ag hlt,he,hw1,go_sem]));exact ih (i+1) ⟨by omega,F2 hno hx hp⟩ (by omega)
 . (repeat' ((first|refine wQ mxQ rfl ?_|refine Run.qP E3 ?_|fail)<;>try simp only [B5 hlt,go_sem]));rw [AM (by omega)] at hno;rw [D4 hno];rfl
theorem Oz {fid:FuncId} {caps:List AV} (hb:Ca Tzp fid=true) (hcp:caps.all AV.BE=true) (p:CE->Bool) (l:List CE) (σ:AI) (hf:∀x∈l,AT Tzp fid ((ceA x)::caps) σ (fun v σ'=>v= .d (.bool (p x))/\σ'=σ)):
 AT Tzp 133 [.d (.sl (l.map CE.enc)),.fn fid [] caps] σ (fun v σ'=>v= .d (.bool (l.any p))/\σ'=σ):=by
 refine LQ (by simp) ?_;rw [BK];(repeat' ((first|refine wQ mxQ rfl ?_|refine Run.qP GL ?_|refine AH.det (SA hb hcp p l σ hf) ?_|fail)<;>try simp only [Rf,I9,go_sem]))
theorem Wf {fid:FuncId} {caps:List AV} (hb:Ca Tzp fid=true) (hcp:caps.all AV.BE=true) (x:CE) (b:Bool) (j:Nat) (σ:AI) (hj:σ.blk j=some [.fn fid [] caps]) (hf:AT Tzp fid ((ceA x)::caps) σ (fun v σ'=>v= .d (.bool b)/\σ'=σ)):
 AT Tzp 134 [(ceA x),.gp j 0] σ (fun v σ'=>v= .d (.bool (!b))/\σ'=σ):=by
 refine QJ (by simp) ?_;rw [BK];obtain ⟨nm,ar⟩:=x;simp only [CE.enc,ceA,AD,AJ] at hf ⊢;(repeat' ((first|refine wQ mxQ rfl ?_|refine Run.qP Il ?_|(refine ⟨fid,[],caps,rfl,hb,AH.det hf ?_ (by simp [hcp,FI,D9])⟩)|fail)<;>try simp only [hj,go_sem]))
theorem aD {fid:FuncId} {caps:List AV} (hb:Ca Tzp fid=true) (hcp:caps.all AV.BE=true) (p:CE->Bool) (l:List CE) (σ:AI) (hf:∀x∈l,∀σ1,σ.le σ1->AT Tzp fid ((ceA x)::caps) σ1 (fun v σ'=>v= .d (.bool (p x))/\σ'=σ1)):
 AT Tzp 109 [.d (.sl (l.map CE.enc)),.fn fid [] caps] σ (fun v σ'=>v= .d (.bool (l.all p))/\σ'=σ):=by
 refine S5 (by simp) ?_;rw [BK];(repeat' (refine wQ mxQ rfl ?_<;>try simp only [go_sem]));intro j hj;have hle:=CQ (cs:=[.fn fid [] caps]) hj;(repeat' ((first|refine wQ mxQ rfl ?_|(refine Run.Bf Jt (σ2:=σ) hle ?_)|refine AH.det (Oz (by kernel_rfl) rfl (fun x=>!p x) l _ (fun x hx=>Wf hb hcp x (p x) j _ (by simp only [AK,if_true]) (hf x hx _ hle))) ?_|fail)<;>try simp only [go_sem]));simp [RZ]
theorem Wd {fid:FuncId} {caps:List AV} (hb:Ca Tzp fid=true) (hcp:caps.all AV.BE=true) (p:Al->Bool) (l:List Al) (σ:AI) (hf:∀x∈l,AT Tzp fid ((alA x)::caps) σ (fun v σ'=>v= .d (.bool (p x))/\σ'=σ)):
 AT Tzp 163 [.d (.sl (l.map Al.enc)),.fn fid [] caps] σ (fun v σ'=>v= .d (.int .i64 (Fi (l.findIdx? p)))/\σ'=σ):=by
 refine QI (by simp) ?_;rw [BK];refine Run.slot 0 (fun hb0=>?_);simp only [CR,if_true,AV.DW,AA] at hb0;(repeat' (refine wQ mxQ rfl ?_<;>try simp only [AA,go_sem]));refine Run.At ?_;refine Run.Au ((fun (a0:AV) (a1:AV) (a7:AV)=>fun (i:Nat)=>put 0 a0 (put 1 a1 (put 7 a7 (put 8 (.d (.int .i64 i)) U)))) _ _ _) (fun _=>E) (fun _=>σ) (fun i=>i<=l.length/\∀x∈l.take i,p x=false) (fun i=>l.length - i) ?_ 0 ⟨by simp,by simp⟩;rintro i ⟨hi,hno⟩ ih;by_cases hlt:i < l.length
 . obtain ⟨x,hx⟩:=Ai hlt;have he:=Av (enc:=Al.enc) hx;have hw1:IntKind.i64.wrap ((i:Int)+1)=((i+1:Nat):Int):=by rw [Ax (by omega) (by omega)];omega
   have hc:=hf x (AE hx);obtain ⟨c,vs,o,n,u,ns,ks,al⟩:=x;simp only [Al.A2,alA,AD,AJ] at he hc;cases hp:p (.mk c vs (.mk o n u ns ks al)) with
   |true=>
    rw [hp] at hc;(repeat' ((first|refine wQ mxQ rfl ?_|refine Run.qP Fg ?_|(refine ⟨fid,[],caps,rfl,hb,AH.det hc ?_ (by simp [hcp,FI,D9])⟩)|fail)<;>try simp only [Ag hlt,he,hw1,go_sem]));rw [D3 hno hx hp];rfl
   |false=>
    rw [hp] at hc;(repeat' ((first|refine wQ mxQ rfl ?_|(refine ⟨fid,[],caps,rfl,hb,AH.det hc ?_ (by simp [hcp,FI,D9])⟩)|fail)<;>try simp only [Ag hlt,he,hw1,go_sem]));exact ih (i+1) ⟨by omega,F2 hno hx hp⟩ (by omega)
 . (repeat' ((first|refine wQ mxQ rfl ?_|refine Run.qP Fg ?_|fail)<;>try simp only [B5 hlt,go_sem]));rw [AM (by omega)] at hno;rw [D4 hno];rfl
theorem TA {fid:FuncId} {caps:List AV} (hb:Ca Tzp fid=true) (hcp:caps.all AV.BE=true) (p:Al->Bool) (l:List Al) (σ:AI) (hf:∀x∈l,AT Tzp fid ((alA x)::caps) σ (fun v σ'=>v= .d (.bool (p x))/\σ'=σ)):
 AT Tzp 153 [.d (.sl (l.map Al.enc)),.fn fid [] caps] σ (fun v σ'=>v= .d (.bool (l.any p))/\σ'=σ):=by
 refine Np (by simp) ?_;rw [BK];(repeat' ((first|refine wQ mxQ rfl ?_|refine Run.qP H6 ?_|refine AH.det (Wd hb hcp p l σ hf) ?_|fail)<;>try simp only [Rf,I9,go_sem]))
theorem fP {fid:FuncId} {caps:List AV} (hb:Ca Tzp fid=true) (hcp:caps.all AV.BE=true) (x:Al) (b:Bool) (j:Nat) (σ:AI) (hj:σ.blk j=some [.fn fid [] caps]) (hf:AT Tzp fid ((alA x)::caps) σ (fun v σ'=>v= .d (.bool b)/\σ'=σ)):
 AT Tzp 154 [(alA x),.gp j 0] σ (fun v σ'=>v= .d (.bool (!b))/\σ'=σ):=by
 refine Uq (by simp) ?_;rw [BK];obtain ⟨c,vs,o,n,u,ns,ks,al⟩:=x;simp only [Al.A2,alA,AD,AJ] at hf ⊢;(repeat' ((first|refine wQ mxQ rfl ?_|refine Run.qP Lg ?_|(refine ⟨fid,[],caps,rfl,hb,AH.det hf ?_ (by simp [hcp,FI,D9])⟩)|fail)<;>try simp only [hj,go_sem]))
theorem mT {fid:FuncId} {caps:List AV} (hb:Ca Tzp fid=true) (hcp:caps.all AV.BE=true) (p:Al->Bool) (l:List Al) (σ:AI) (hf:∀x∈l,∀σ1,σ.le σ1->AT Tzp fid ((alA x)::caps) σ1 (fun v σ'=>v= .d (.bool (p x))/\σ'=σ1)):
 AT Tzp 143 [.d (.sl (l.map Al.enc)),.fn fid [] caps] σ (fun v σ'=>v= .d (.bool (l.all p))/\σ'=σ):=by
 refine X7 (by simp) ?_;rw [BK];(repeat' (refine wQ mxQ rfl ?_<;>try simp only [go_sem]));intro j hj;have hle:=CQ (cs:=[.fn fid [] caps]) hj;(repeat' ((first|refine wQ mxQ rfl ?_|(refine Run.Bf Nh (σ2:=σ) hle ?_)|refine AH.det (TA (by kernel_rfl) rfl (fun x=>!p x) l _ (fun x hx=>fP hb hcp x (p x) j _ (by simp only [AK,if_true]) (hf x hx _ hle))) ?_|fail)<;>try simp only [go_sem]));simp [RZ]
end Go.Ab
namespace Go.Ab
open Go.Proofs
def singleR (r:List Tok×Nat×Int) (k:Int) (s:Str):Bool:=
 r.2.2==0&&(r.1.length==2&&(match r.1 with|[]=>false|a::_=>a.kind==k&&a.text==s))
theorem qO (k:Int) (s:Str):I3 k s=singleR (HT s) k s:=rfl
theorem AGS {α:Type} {l:List α} (h:l.length=2):∃a b,l=[a,b]:=by
 match l,h with
 |[a,b],_=>exact ⟨a,b,rfl⟩
theorem Dw (s:Str) (k:Int) (σ:AI):AT Tzp 69 [.d (.str s),.d (.int .i64 k)] σ (fun v σ'=>v= .d (.bool (I3 k s))/\σ'=σ):=by
 refine AAO (by simp) ?_;rw [BK,qO];have hsp:=ABI s σ;generalize HT s=r at hsp ⊢;obtain ⟨l,q,e⟩:=r;simp only [MD] at hsp;cases he:(e==0) with
 |false=>
  (repeat' ((first|refine wQ mxQ rfl ?_|refine Run.qP Nf ?_|refine AH.det (hsp) ?_|fail)<;>try simp only [he,go_sem]));simp [singleR,he]
 |true=>
 by_cases hl:l.length=2
 . obtain ⟨⟨ak,at',ap⟩,b,rfl⟩:=AGS hl;simp only [Tok.enc,AD,AJ] at hsp;cases hk:(ak==k) with
   |false=>
    (repeat' ((first|refine wQ mxQ rfl ?_|refine Run.qP Nf ?_|refine AH.det (hsp) ?_|(refine A7 rfl (fun h=>?_) (fun h=>?_)<;>try (cases h;done))|fail)<;>try simp only [he,hk,go_sem]));simp [singleR,hk]
   |true=>
    (repeat' ((first|refine wQ mxQ rfl ?_|refine Run.qP Nf ?_|refine AH.det (hsp) ?_|(refine A7 rfl (fun h=>?_) (fun h=>?_)<;>try (cases h;done))|fail)<;>try simp only [he,hk,Bd,go_sem]));simp [singleR,hk,he]
 . have h2:((l.length:Int)==2)=false:=by simp only [beq_eq_false_iff_ne,ne_eq];omega
   (repeat' ((first|refine wQ mxQ rfl ?_|refine Run.qP Nf ?_|refine AH.det (hsp) ?_|fail)<;>try simp only [he,AA,h2,go_sem]));simp [singleR,hl]
theorem Rr (s:Str) (k:Int) (σ:AI):AT Tzp 114 [.d (.str s),.d (.int .i64 k)] σ (fun v σ'=>v= .d (.bool (I3 k s))/\σ'=σ):=by
 refine gY (by simp) ?_;rw [BK,qO];have hsp:=qX s σ;generalize HT s=r at hsp ⊢;obtain ⟨l,q,e⟩:=r;simp only [MD] at hsp;cases he:(e==0) with
 |false=>
  (repeat' ((first|refine wQ mxQ rfl ?_|refine Run.qP HK ?_|refine AH.det (hsp) ?_|fail)<;>try simp only [he,go_sem]));simp [singleR,he]
 |true=>
 by_cases hl:l.length=2
 . obtain ⟨⟨ak,at',ap⟩,b,rfl⟩:=AGS hl;simp only [Tok.enc,AD,AJ] at hsp;cases hk:(ak==k) with
   |false=>
    (repeat' ((first|refine wQ mxQ rfl ?_|refine Run.qP HK ?_|refine AH.det (hsp) ?_|(refine A7 rfl (fun h=>?_) (fun h=>?_)<;>try (cases h;done))|fail)<;>try simp only [he,hk,go_sem]));simp [singleR,hk]
   |true=>
    (repeat' ((first|refine wQ mxQ rfl ?_|refine Run.qP HK ?_|refine AH.det (hsp) ?_|(refine A7 rfl (fun h=>?_) (fun h=>?_)<;>try (cases h;done))|fail)<;>try simp only [he,hk,Bd,go_sem]));simp [singleR,hk,he]
 . have h2:((l.length:Int)==2)=false:=by simp only [beq_eq_false_iff_ne,ne_eq];omega
   (repeat' ((first|refine wQ mxQ rfl ?_|refine Run.qP HK ?_|refine AH.det (hsp) ?_|fail)<;>try simp only [he,AA,h2,go_sem]));simp [singleR,hl]
theorem E7 (s:Str) (σ:AI):AT Tzp 82 [.d (.str s)] σ (fun v σ'=>v= .d (.bool (Dl s))/\σ'=σ):=by
 refine k8 (by simp) ?_;rw [Bq];(repeat' ((first|refine wQ mxQ rfl ?_|refine Run.qP Vf ?_|refine AH.det (Rr s 1 _) ?_|fail)<;>try simp only [go_sem]));rfl
theorem CM (s:Str) (σ:AI):AT Tzp 108 [.d (.str s)] σ (fun v σ'=>v= .d (.bool (HU s))/\σ'=σ):=by
 refine gZ (by simp) ?_;rw [Bq];(repeat' ((first|refine wQ mxQ rfl ?_|refine Run.qP Td ?_|refine AH.det (Rr s 2 _) ?_|fail)<;>try simp only [go_sem]));rfl
theorem NH (s:Str) (σ:AI):AT Tzp 142 [.d (.str s)] σ (fun v σ'=>v= .d (.bool (R4 s))/\σ'=σ):=by
 refine k7 (by simp) ?_;rw [Bq];cases h0:(s==[]) with
 |true=>
  (repeat' ((first|refine wQ mxQ rfl ?_|refine Run.qP OZ ?_|fail)<;>try simp only [Bd,h0,go_sem]));simp [R4,h0]
 |false=>
  (repeat' ((first|refine wQ mxQ rfl ?_|refine Run.qP OZ ?_|refine AH.det (E7 s _) ?_|fail)<;>try simp only [Bd,h0,go_sem]));simp [R4,h0]
def Po (l:List Str) (strict:Bool):Bool:=decide (l.length<=6)&&l.all (fun s=>Dl s||(s==[]&& !strict))
theorem gt6 (n:Nat):decide ((6:Int) < (n:Int))=!decide (n<=6):=gtN n 6
theorem mU {α:Type} {p:α->Bool} {l:List α} {i:Nat} {x:α} (hx:l[i]?=some x) (hp:p x=false):l.all p=false:=by
 rw [List.all_eq_false];exact ⟨x,AE hx,by rw [hp];simp⟩
theorem N2 {α:Type} {p:α->Bool} {l:List α} {i:Nat} {x:α} (h:(l.take i).all p=true) (hx:l[i]?=some x) (hp:p x=true):(l.take (i+1)).all p=true:=by
 rw [Aa hx,List.all_append,h];simp [hp]
theorem LA (l:List Str) (strict:Bool) (σ:AI):AT Tzp 70 [.d (.sl (l.map BF)),.d (.bool strict)] σ (fun v σ'=>v= .d (.bool (Po l strict))/\σ'=σ):=by
 refine AEB (by simp) ?_;rw [BK];by_cases h6:l.length<=6
 case neg=>
  (repeat' ((first|refine wQ mxQ rfl ?_|refine Run.qP QC ?_|fail)<;>try simp only [gt6,AA,decide_eq_false h6,go_sem]));simp [Po,h6]
 (repeat' (refine wQ mxQ rfl ?_<;>try simp only [gt6,AA,decide_eq_true h6,go_sem]));refine Run.At ?_;refine Run.Au ((fun (a0:AV) (a1:AV)=>fun (i:Nat)=>put 0 a0 (put 1 a1 (put 5 (.d (.int .i64 i)) U))) _ _) (fun _=>E) (fun _=>σ) (fun i=>i<=l.length/\(l.take i).all (fun s=>Dl s||(s==[]&& !strict))=true) (fun i=>l.length - i) ?_ 0 ⟨by simp,by simp⟩;rintro i ⟨hi,hok⟩ ih;by_cases hlt:i < l.length
 . obtain ⟨x,hx⟩:=Ai hlt;have he:=Av (enc:=BF) hx;simp only [BF] at he;have hw1:=A4 (show i+1<=9000000000000000000 by omega);have hn:=Dw x 1 σ;rw [show I3 1 x=Dl x from rfl] at hn;cases hp:(Dl x||(x==[]&& !strict)) with
   |true=>
    cases hnm:Dl x with
    |true=>
     rw [hnm] at hn;(repeat' ((first|refine wQ mxQ rfl ?_|refine AH.det (hn) ?_|fail)<;>try simp only [Ag hlt,AA,he,hw1,Bd,go_sem]));exact ih (i+1) ⟨by omega,N2 hok hx hp⟩ (by omega)
    |false=>
     rw [hnm] at hn;simp only [hnm,EU,AO,Br] at hp;obtain ⟨hp1,rfl⟩:=hp;(repeat' ((first|refine wQ mxQ rfl ?_|refine AH.det (hn) ?_|fail)<;>try simp only [Ag hlt,AA,he,hw1,Bd,hp1,go_sem]));exact ih (i+1) ⟨by omega,N2 hok hx (by simp [hnm,hp1])⟩ (by omega)
   |false=>
    have hnm:Dl x=false:=(GU.1 hp).1;rw [hnm] at hn;have hres:Po l strict=false:=by rw [Po,mU hx hp,CT]
    cases h0:(x==[]) with
    |false=>
     (repeat' ((first|refine wQ mxQ rfl ?_|refine Run.qP QC ?_|refine AH.det (hn) ?_|fail)<;>try simp only [Ag hlt,AA,he,hw1,Bd,h0,go_sem]));rw [hres]
    |true=>
     have hst:strict=true:=by simpa [hnm,h0] using hp
     (repeat' ((first|refine wQ mxQ rfl ?_|refine Run.qP QC ?_|refine AH.det (hn) ?_|fail)<;>try simp only [Ag hlt,AA,he,hw1,Bd,h0,hst,go_sem]));rw [<- hst,hres]
 . (repeat' ((first|refine wQ mxQ rfl ?_|refine Run.qP QC ?_|fail)<;>try simp only [B5 hlt,AA,go_sem]));rw [AM (by omega)] at hok;rw [Po,hok];simp [h6]
end Go.Ab
namespace Go.Ab
open Go.Proofs
theorem lN:∀(d:Nat) (t:TE) (σ:AI),d<=40->t.size<=1000000->AT Tzp 71 [teA t,.d (.int .i64 d)] σ (fun v σ'=>v= .d (.bool (Cc d t))/\σ'=σ):=by
 intro d
 induction d with
 |zero=>
  rintro ⟨k,n,l⟩ σ _ _;refine X1 (by simp) ?_;rw [BK,teA,TE.A2];have h0:(((0:Nat):Int)==0)=true:=by decide
  (repeat' ((first|refine wQ mxQ rfl ?_|refine Run.qP Ih ?_|fail)<;>try simp only [h0,go_sem]));rfl
 |succ d ihd=>
  rintro ⟨k,n,l⟩ σ hd hsz;have hlen:=TE.Bl l;have hsz1:TE.AU l+1<=1000000:=by simpa [TE.size,Nat.add_comm] using hsz
  refine X1 (by simp) ?_;rw [BK,teA,TE.A2];have h0:(((d+1:Nat):Int)==0)=false:=by simp only [beq_eq_false_iff_ne,ne_eq];omega
  have hws:IntKind.i64.wrap (((d+1:Nat):Int) - 1)=(d:Int):=NI (by omega)
  have hloop:P4 k n l.length=true->Run JG (fun v σ'=>v= .d (.bool (Cc (d+1) (.mk k n l)))/\σ'=σ) [.code (.loop R8),.blk 1,.code (.seq (.reg [⟨some 4,.mv (.c (.d (.bool true))),none⟩] [4]) .ret)]
   (put 1 (.d (.int .i64 ((d+1:Nat):Int))) (put 2 (.lp 2 0) (put 5 (.d (.int .i64 l.length)) (put 6 (.d (.int .i64 0)) U)))) (Am 2 [.d (.int .i64 k),.d (.str n),.d (.sl (l.map TE.enc))] E) σ:=by
   intro hsh;refine Run.At ?_;refine Run.Au ((fun (a1:AV) (a2:AV) (a5:AV)=>fun (i:Nat)=>put 1 a1 (put 2 a2 (put 5 a5 (put 6 (.d (.int .i64 i)) U)))) _ _ _) (fun _=>Am 2 [.d (.int .i64 k),.d (.str n),.d (.sl (l.map TE.enc))] E) (fun _=>σ) (fun i=>i<=l.length/\(l.take i).all (Cc d)=true) (fun i=>l.length - i) ?_ 0 ⟨by simp,by simp⟩;rintro i ⟨hi,hok⟩ ih;by_cases hlt:i < l.length
   . obtain ⟨x,hx⟩:=Ai hlt;have he:=Av (enc:=TE.enc) hx;have hms:=TE.Fj (AE hx);have hc:=ihd x σ (by omega) (by omega);have hw1:=A4 (show i+1<=9000000000000000000 by omega);cases hp:Cc d x with
     |true=>
      rw [hp] at hc;obtain ⟨xk,xn,xl⟩:=x;simp only [TE.A2,teA,AD,AJ] at he hc;(repeat' ((first|refine wQ mxQ rfl ?_|refine AH.det (hc) ?_|fail)<;>try simp only [Ag hlt,he,hw1,hws,go_sem]));exact ih (i+1) ⟨by omega,N2 hok hx hp⟩ (by omega)
     |false=>
      rw [hp] at hc;have hres:Cc (d+1) (.mk k n l)=false:=by rw [Cc,mU hx hp,CT]
      obtain ⟨xk,xn,xl⟩:=x;simp only [TE.A2,teA,AD,AJ] at he hc;(repeat' ((first|refine wQ mxQ rfl ?_|refine Run.qP Ih ?_|refine AH.det (hc) ?_|fail)<;>try simp only [Ag hlt,he,hw1,hws,go_sem]));rw [hres]
   . (repeat' ((first|refine wQ mxQ rfl ?_|refine Run.qP Ih ?_|fail)<;>try simp only [B5 hlt,go_sem]));rw [AM (by omega)] at hok;rw [Cc,hsh,hok];rfl
  clear ihd;(repeat' (first|((first|refine wQ mxQ rfl ?_|refine Run.qP Ih ?_|((refine hloop ?_))|refine AH.det (Dw _ _ _) ?_|(refine A7 rfl (fun h=>?_) (fun h=>?_)<;>try (cases h;done))|fail)<;>try simp only [h0,Bd,DA,AA,go_sem])|(refine ⟨fun h=>?_,fun h=>?_⟩<;>first|(cases h;done)|try simp only [h])|fail))
  all_goals clear hloop hws h0
  all_goals (simp only [beq_iff_eq,beq_eq_false_iff_ne,ne_eq,Br,Bool.not_eq_false',decide_eq_true_eq,decide_eq_false_iff_not] at *;simp_all [Cc,P4,Dl,HU];first|done|omega|(intros;omega)|(intros;exfalso;omega)|(rcases l with _|⟨a,l⟩<;>simp<;>omega))
end Go.Ab
namespace Go.Ab
open Go.Proofs
theorem W7 (d:Nat) (hd:∀(t:TE) (σ:AI),t.size<=1000000->AT Tzp 113 [teA t,.d (.int .i64 ((41 - d:Nat):Int))] σ (fun v σ'=>v= .d (.bool (Cc d t))/\σ'=σ)) (hd40:d < 40)
 (t:TE) (j:Nat) (σ:AI) (hsz:t.size<=1000000) (hj:σ.blk j=some [.d (.int .i64 ((40 - d:Nat):Int))]):
 AT Tzp 137 [teA t,.gp j 0] σ (fun v σ'=>v= .d (.bool (Cc d t))/\σ'=σ):=by
 refine X9 (by simp) ?_;rw [BK];have hc:=hd t σ hsz;obtain ⟨k,n,l⟩:=t;simp only [TE.A2,teA,AD,AJ] at hc ⊢;have hw:IntKind.i64.wrap (((40 - d:Nat):Int)+1)=((41 - d:Nat):Int):=by rw [Ax (by omega) (by omega)];omega
 (repeat' ((first|refine wQ mxQ rfl ?_|refine Run.qP Nj ?_|refine AH.det (hc) ?_|fail)<;>try simp only [hj,hw,go_sem]))
theorem Zc:∀(d:Nat),d<=40->∀(t:TE) (σ:AI),t.size<=1000000->AT Tzp 113 [teA t,.d (.int .i64 ((41 - d:Nat):Int))] σ (fun v σ'=>v= .d (.bool (Cc d t))/\σ'=σ):=by
 intro d
 induction d with
 |zero=>
  rintro _ ⟨k,n,l⟩ σ _;refine QK (by simp) ?_;rw [BK,teA,TE.A2];(repeat' (refine wQ mxQ rfl ?_<;>try simp only [go_sem]));intro j hj;have hle:=CQ (cs:=[.d (.int .i64 ((41 - 0:Nat):Int))]) hj;have h0:decide ((40:Int) < ((41 - 0:Nat):Int))=true:=by decide
  (repeat' (first|((first|refine wQ mxQ rfl ?_|(refine Run.Bf Kb (σ2:=σ) hle ?_)|(refine A7 rfl (fun h=>?_) (fun h=>?_)<;>try (cases h;done))|fail)<;>try simp only [h0,go_sem])|(refine ⟨fun h=>?_,fun h=>?_⟩<;>first|(cases h;done)|try simp only [h])|fail));rfl
 |succ d ihd=>
  rintro hd ⟨k,n,l⟩ σ hsz;have hlen:=TE.Bl l;have hsz1:TE.AU l+1<=1000000:=by simpa [TE.size,Nat.add_comm] using hsz
  have hd1:=ihd (by omega);refine QK (by simp) ?_;rw [BK,teA,TE.A2];have h0:decide ((40:Int) < ((41 - (d+1):Nat):Int))=false:=by simp only [decide_eq_false_iff_not];omega
  (repeat' (refine wQ mxQ rfl ?_<;>try simp only [go_sem]));intro j hj;have hle:=CQ (cs:=[.d (.int .i64 ((41 - (d+1):Nat):Int))]) hj
  have hall:=Ob (fid:=137) (caps:=[.gp j 0]) (by kernel_rfl) rfl (Cc d) l (σ.AP j [.d (.int .i64 ((41 - (d+1):Nat):Int))]) (fun x hx σ1 hle1=>by
   have hms:=TE.Fj hx;refine W7 d hd1 (by omega) x j σ1 (by omega) ?_;rw [hle1.blk j _ (by simp only [AK,if_true];rfl)];rw [show 41 - (d+1)=40 - d by omega])
  clear hd1 ihd;(repeat' (first|((first|refine wQ mxQ rfl ?_|(refine Run.Bf Kb (σ2:=σ) hle ?_)|refine AH.det (E7 _ _) ?_|refine AH.det (CM _ _) ?_|refine AH.det (hall) ?_|(refine A7 rfl (fun h=>?_) (fun h=>?_)<;>try (cases h;done))|fail)<;>try simp only [h0,DA,AA,go_sem])|(refine ⟨fun h=>?_,fun h=>?_⟩<;>first|(cases h;done)|try simp only [h])|fail))
  all_goals clear hall h0
  all_goals (simp only [bne,beq_iff_eq,beq_eq_false_iff_ne,ne_eq,Br,Bool.not_eq_false',decide_eq_true_eq,decide_eq_false_iff_not] at *;simp_all [Cc,P4];first|done|omega|(intros;omega)|(intros;exfalso;omega)|(rcases l with _|⟨a,l⟩<;>simp<;>omega))
end Go.Ab
namespace Go.Ab
open Go.Proofs
theorem AXB (n:Nat):((n:Int)==0)=decide (n=0):=by rw [An];simp only [beq_iff_eq,decide_eq_true_eq];omega
def Sn (n:Str) (u:Int) (a b:Nat):Bool:=n==[]&&(u==0&&(decide (a=0)&&decide (b=0)))
theorem OE (o:Int) (n:Str) (u:Int) (ns ks al:List (List DV)) (σ:AI):
 AT Tzp 141 [.agg [.d (.int .i64 o),.d (.str n),.d (.int .i64 u),.d (.sl ns),.d (.sl ks),.d (.sl al)]] σ (fun v σ'=>v= .d (.bool (Sn n u ns.length al.length))/\σ'=σ):=by
 refine oP (by simp) ?_;rw [Bq];cases h1:(n==[])<;>cases h2:(u==0)<;>cases h3:decide (ns.length=0)
 all_goals (repeat' ((first|refine wQ mxQ rfl ?_|refine Run.qP XY ?_|fail)<;>try simp only [Bd,h1,h2,h3,AXB,go_sem]))
 all_goals (unfold Sn;rw [h1,h2,h3];rfl)
theorem AJ4 (o:Int) (n:Str) (u:Int) (ks al:List (List DV)) (σ:AI):
 AT Tzp 141 [.agg [.d (.int .i64 o),.d (.str n),.d (.int .i64 u),.Ae,.d (.sl ks),.d (.sl al)]] σ (fun v σ'=>v= .d (.bool (Sn n u 0 al.length))/\σ'=σ):=
 AT.plain (by simpa only [AV.CL,ND,G6,Kh,CG] using OE o n u [] ks al σ)
theorem AJ5 (o:Int) (n:Str) (u:Int) (ns ks:List (List DV)) (σ:AI):
 AT Tzp 141 [.agg [.d (.int .i64 o),.d (.str n),.d (.int .i64 u),.d (.sl ns),.d (.sl ks),.Ae]] σ (fun v σ'=>v= .d (.bool (Sn n u ns.length 0))/\σ'=σ):=
 AT.plain (by simpa only [AV.CL,ND,G6,Kh,CG] using OE o n u ns ks [] σ)
theorem U1 (n lo hi:Int) (σ:AI):AT Tzp 145 [.d (.int .i64 n),.d (.int .i64 lo),.d (.int .i64 hi)] σ (fun v σ'=>v= .d (.bool (decide (lo<=n)&&decide (n<=hi)))/\σ'=σ):=by
 refine gX (by simp) ?_;rw [Dm];cases h1:decide (lo<=n)
 all_goals (repeat' ((first|refine wQ mxQ rfl ?_|refine Run.qP Tc ?_|fail)<;>try simp only [h1,go_sem]))
def AS0 (u:Int):Str:=if u=1 then [110,101,119] else if u=2 then [103,101,116] else if u=3 then [115,101,116] else if u=4 then [108,101,110] else if u=5 then [114,101,102] else if u=6 then [114,101,97,100] else if u=7 then [119,114,105,116,101] else []
theorem xM (u:Int) (σ:AI):AT Tzp 146 [.d (.int .i64 u)] σ (fun v σ'=>v= .tup [.d (.str (AS0 u)),.d (.int .i64 (Zr u))]/\σ'=σ):=by
 refine bE (by simp) ?_;rw [Bq];(repeat' (first|((first|refine wQ mxQ rfl ?_|refine Run.qP QF ?_|fail)<;>try simp only [go_sem])|(refine ⟨fun h=>?_,fun h=>?_⟩<;>first|(cases h;done)|try simp only [h])|fail))
 all_goals (simp only [beq_iff_eq,beq_eq_false_iff_ne,ne_eq] at *;simp_all [AS0,Zr])
theorem ACH (a:Al) (σ:AI):AT Tzp 144 [alA a] σ (fun v σ'=>v= .d (.bool (Vq a))/\σ'=σ):=by
 refine dU (by simp) ?_;rw [Bq];obtain ⟨c,vs,o,n,u,ns,ks,al⟩:=a;simp only [Al.A2,alA,AD,AJ];have hl6:decide ((vs.length:Int)<=6)=decide (vs.length<=6):=leN vs.length 6;cases h1:HU c with
 |false=>
  (repeat' ((first|refine wQ mxQ rfl ?_|refine Run.qP IW ?_|refine AH.det (CM c _) ?_|fail)<;>try simp only [h1,go_sem]));simp [Vq,h1]
 |true=>
  by_cases h6:vs.length<=6
  . (repeat' ((first|refine wQ mxQ rfl ?_|refine Run.qP IW ?_|refine AH.det (CM c _) ?_|refine AH.det (Jl (caps:=[]) (by kernel_rfl) rfl R4 vs σ (fun x _ σ1 _=>NH x σ1)) ?_|fail)<;>try simp only [h1,AA,hl6,decide_eq_true h6,go_sem]));simp [Vq,h1,h6]
  . (repeat' ((first|refine wQ mxQ rfl ?_|refine Run.qP IW ?_|refine AH.det (CM c _) ?_|fail)<;>try simp only [h1,AA,hl6,decide_eq_false h6,go_sem]));simp [Vq,h6]
theorem yO (o:Int) (n:Str) (u:Int) (ns:List Str) (ks:List Ex) (al:List Al) (σ:AI) (ho:o=1\/o=2\/o=3\/o=4\/o=15):
 AT Tzp 140 [exA (.mk o n u ns ks al)] σ (fun v σ'=>v= .d (.bool (nmB o n&&nuB o u&&nsB o ns&&asB o al))/\σ'=σ):=by
 refine bG (by simp) ?_;rw [Bq,exA,Ex.A2];have fin:∀b c:Bool,(b=true↔c=true)->AV.d (.bool b)=AV.d (.bool c):=fun b c h=>by rw [An.2 h]
 rcases ho with rfl|rfl|rfl|rfl|rfl
 . (repeat' ((first|refine wQ mxQ rfl ?_|refine Run.qP E5 ?_|refine AH.det (OE _ _ _ _ _ _ _) ?_|fail)<;>try simp only [AA,AY,go_sem]))
   all_goals (refine fin _ _ ?_;simp [Sn,nmB,nuB,nsB,asB, *];try grind)
 . (repeat' ((first|refine wQ mxQ rfl ?_|refine Run.qP E5 ?_|refine AH.det (OE _ _ _ _ _ _ _) ?_|refine AH.det (U1 _ _ _ _) ?_|(refine A7 rfl (fun h=>?_) (fun h=>?_)<;>try (cases h;done))|fail)<;>try simp only [AA,AY,go_sem]))
   all_goals (refine fin _ _ ?_;simp [Sn,nmB,nuB,nsB,asB, *] at *;try grind)
 . (repeat' ((first|refine wQ mxQ rfl ?_|refine Run.qP E5 ?_|refine AH.det (OE _ _ _ _ _ _ _) ?_|refine AH.det (U1 _ _ _ _) ?_|(refine A7 rfl (fun h=>?_) (fun h=>?_)<;>try (cases h;done))|fail)<;>try simp only [AA,AY,go_sem]))
   all_goals (refine fin _ _ ?_;simp [Sn,nmB,nuB,nsB,asB, *] at *;try grind)
 . (repeat' ((first|refine wQ mxQ rfl ?_|refine Run.qP E5 ?_|refine AH.det (OE _ _ _ _ _ _ _) ?_|refine AH.det (E7 _ _) ?_|(refine A7 rfl (fun h=>?_) (fun h=>?_)<;>try (cases h;done))|fail)<;>try simp only [AA,AY,go_sem]))
   all_goals (refine fin _ _ ?_;simp [Sn,nmB,nuB,nsB,asB, *] at *;try grind)
 . (repeat' ((first|refine wQ mxQ rfl ?_|refine Run.qP E5 ?_|refine AH.det (OE _ _ _ _ _ _ _) ?_|refine AH.det (U1 _ _ _ _) ?_|(refine A7 rfl (fun h=>?_) (fun h=>?_)<;>try (cases h;done))|fail)<;>try simp only [AA,AY,go_sem]))
   all_goals (refine fin _ _ ?_;simp [Sn,nmB,nuB,nsB,asB, *] at *;try grind)
theorem vB (u:Int):0 < Zr u↔1<=u/\u<=7:=by
 unfold Zr;repeat' split
 all_goals omega
theorem yP (o:Int) (n:Str) (u:Int) (ns:List Str) (ks:List Ex) (al:List Al) (σ:AI):
 AT Tzp 117 [exA (.mk o n u ns ks al)] σ (fun v σ'=>v= .d (.bool (Lu o n u ns ks.length al))/\σ'=σ):=by
 refine bH (by simp) ?_;rw [Bq,exA,Ex.A2];have fin:∀b c:Bool,(b=true↔c=true)->AV.d (.bool b)=AV.d (.bool c):=fun b c h=>by rw [An.2 h]
 have hleaf:=fun h=>yO o n u ns ks al σ h;simp only [exA,Ex.A2,AD,AJ] at hleaf ⊢;have hbi:=Jl (fid:=142) (caps:=[]) (by kernel_rfl) rfl R4 ns σ (fun x _ σ1 _=>NH x σ1);have hnm:=Jl (fid:=82) (caps:=[]) (by kernel_rfl) rfl Dl ns σ (fun x _ σ1 _=>E7 x σ1);have hal:=mT (fid:=144) (caps:=[]) (by kernel_rfl) rfl Vq al σ (fun x _ σ1 _=>ACH x σ1);by_cases ho:o=1\/o=2\/o=3\/o=4\/o=5\/o=6\/o=7\/o=8\/o=9\/o=10\/o=11\/o=12\/o=13\/o=14\/o=15\/o=16\/o=17
 . rcases ho with rfl|rfl|rfl|rfl|rfl|rfl|rfl|rfl|rfl|rfl|rfl|rfl|rfl|rfl|rfl|rfl|rfl
   all_goals (repeat' ((first|refine wQ mxQ rfl ?_|refine Run.qP Ka ?_|refine AH.det (hleaf (by simp)) ?_|refine AH.det (OE _ _ _ _ _ _ _) ?_|refine AH.det (AJ4 _ _ _ _ _ _) ?_|refine AH.det (AJ5 _ _ _ _ _ _) ?_|refine AH.det (CM _ _) ?_|refine AH.det (NH _ _) ?_|refine AH.det (U1 _ _ _ _) ?_|refine AH.det (xM _ _) ?_|refine AH.det (hbi) ?_|refine AH.det (hnm) ?_|refine AH.det (hal) ?_|(refine A7 rfl (fun h=>?_) (fun h=>?_)<;>try (cases h;done))|fail)<;>try simp only [AA,AY,go_sem]))
   all_goals clear hleaf hbi hnm hal
   all_goals (refine fin _ _ ?_;simp [Lu,Sn,nmB,nuB,nsB,asB,nkB, *] at *;try (have hpr:=vB u;grind))
 . have hno:Lu o n u ns ks.length al=false:=by
    simp only [not_or] at ho;simp [Lu,nkB,ho]
   simp only [not_or] at ho;obtain ⟨h1,h2,h3,h4,h5,h6,h7,h8,h9,h10,h11,h12,h13,h14,h15,h16,h17⟩:=ho;(repeat' ((first|refine wQ mxQ rfl ?_|refine Run.qP Ka ?_|fail)<;>try simp only [Cp h1,Cp h2,Cp h3,Cp h4,Cp h5,Cp h6,Cp h7,Cp h8,Cp h9,Cp h10,Cp h11,Cp h12,Cp h13,Cp h14,Cp h15,Cp h16,Cp h17,go_sem]));rw [hno]
end Go.Ab
namespace Go.Ab
open Go.Proofs
section
variable {α β:Type}
theorem Mn {f:β->α->Option β} {l:List α} {i:Nat} {x:α} {a b:β} (h:(l.take i).foldlM f a=some b) (hx:l[i]?=some x):(l.take (i+1)).foldlM f a=f b x:=by
 rw [Aa hx,List.foldlM_append,h];simp [List.foldlM]
theorem Mm {f:β->α->Option β} {l:List α} {i:Nat} {x:α} {a b:β} (h:(l.take i).foldlM f a=some b) (hx:l[i]?=some x) (hn:f b x=none):l.foldlM f a=none:=by
 conv=>lhs;rw [<- Ad i l]
 rw [List.foldlM_append,h,Bu hx];simp [List.foldlM,hn]
theorem oD {f:Nat->α->Option Nat}:∀(l:List α) (a b:Nat),(∀x∈l,∀a b,f a x=some b->b<=a)->l.foldlM f a=some b->b<=a
 |[],a,b,_,h=>by simp [List.foldlM] at h;omega
 |x::l,a,b,hf,h=>by
  simp only [List.foldlM,AQ,AB] at h;obtain ⟨c,hc,h⟩:=h;have:=oD l c b (fun y hy=>hf y (AR _ hy)) h;have:=hf x (AS ..) a c hc;omega
end
theorem YZ:∀(d q:Nat) (e:Ex) (r:Nat),vEx d q e=some r->r<=q
 |0,q,e,r,h=>by cases h
 |d+1,0,.mk ..,r,h=>by cases h
 |d+1,q+1,.mk o n u ns ks al,r,h=>by
  simp only [vEx] at h;split at h
  . simp only [AB] at h;obtain ⟨c,hc,h⟩:=h;have h1:=oD ks q c (fun x _ a b hab=>YZ d a x b hab) hc;have h2:=oD al c r (fun x _ a b hab=>by cases x;exact YZ d a _ b hab) h;omega
  . cases h
def VXQ (enc:Nat->Int) (j d q:Nat) (e:Ex) (σ:AI) (v:AV) (σ':AI):Prop:=
 ∃b z,v= .d (.bool b)/\σ'=σ.AP j [.d (.int .i64 z)]/\b=(vEx d q e).isSome/\∀r,vEx d q e=some r->z=enc r
theorem VXQ.yes {enc:Nat->Int} {j d q:Nat} {e:Ex} {σ:AI} {P:Program} {f:FuncId} {args:List AV} {r:Nat} (h:AT P f args σ (VXQ enc j d q e σ)) (hr:vEx d q e=some r):AT P f args σ (fun v σ'=>v= .d (.bool true)/\σ'=σ.AP j [.d (.int .i64 (enc r))]):=
 h.mono (by
  rintro v σ' ⟨b,z,rfl,rfl,rfl,h⟩;rw [h r hr,hr];exact ⟨rfl,rfl⟩)
theorem VXQ.no {enc:Nat->Int} {j d q:Nat} {e:Ex} {σ:AI} {P:Program} {f:FuncId} {args:List AV} (h:AT P f args σ (VXQ enc j d q e σ)) (hr:vEx d q e=none):AT P f args σ (fun v σ'=>v= .d (.bool false)/\∃z,σ'=σ.AP j [.d (.int .i64 z)]):=
 h.mono (by
  rintro v σ' ⟨b,z,rfl,rfl,rfl,h⟩;rw [hr];exact ⟨rfl,z,rfl⟩)
def fK (d:Nat):Nat->Ex->Option Nat:=fun q e=>vEx d q e
def fA (d:Nat):Nat->Al->Option Nat:=fun q a=>match a with| .mk _ _ b=>vEx d q b
theorem Y0 (d q:Nat) (o:Int) (n:Str) (u:Int) (ns:List Str) (ks:List Ex) (al:List Al):vEx (d+1) (q+1) (.mk o n u ns ks al)=if Lu o n u ns ks.length al then (ks.foldlM (fK d) q).bind fun q=>al.foldlM (fA d) q else none:=rfl
def PO (r:Nat):Int:=((600 - r:Nat):Int)
theorem kV (j:Nat):∀(d q:Nat),d<=40->q<=600->∀(e:Ex) (σ:AI),σ.blk j=some [.d (.int .i64 (PO q))]->
 AT Tzp 84 [.gp j 0,exA e,.d (.int .i64 ((41 - d:Nat):Int))] σ (VXQ PO j d q e σ):=by
 intro d
 induction d with
 |zero=>
  intro q _ hq e σ hj;obtain ⟨o,n,u,ns,ks,al⟩:=e;refine Ma (by simp) ?_;rw [Dm,exA,Ex.A2];have hw:IntKind.i64.wrap (PO q+1)=((601 - q:Nat):Int):=by rw [PO,Ax (by omega) (by omega)];omega
  have h4:decide ((40:Int) < ((41 - 0:Nat):Int))=true:=by decide
  (repeat' ((first|refine wQ mxQ rfl ?_|refine Run.qR Ck ?_|(refine A7 rfl (fun h=>?_) (fun h=>?_)<;>try (cases h;done))|fail)<;>try simp only [hj,hw,h4,go_sem]))
  all_goals exact ⟨false,_,rfl,rfl,rfl,fun r h=>by cases h⟩
 |succ d ihd=>
  intro q hd hq e σ hj;obtain ⟨o,n,u,ns,ks,al⟩:=e;refine Ma (by simp) ?_;rw [Dm,exA,Ex.A2];cases q with
  |zero=>
   have hw:IntKind.i64.wrap (PO 0+1)=601:=by decide
   have h6:decide ((600:Int) < 601)=true:=by decide
   (repeat' ((first|refine wQ mxQ rfl ?_|refine Run.qR Ck ?_|fail)<;>try simp only [hj,hw,h6,go_sem]));exact ⟨false,_,rfl,rfl,rfl,fun r h=>by cases h⟩
  |succ q=>
  have hw:IntKind.i64.wrap (PO (q+1)+1)=PO q:=by
   have e:PO (q+1)+1=PO q:=by simp only [PO];omega
   rw [e];exact Ax (by simp only [PO];omega) (by simp only [PO];omega)
  have h6:decide ((600:Int) < PO q)=false:=decide_eq_false (Int.not_lt.2 (by unfold PO;omega));have h4:decide ((40:Int) < ((41 - (d+1):Nat):Int))=false:=by simp only [decide_eq_false_iff_not];omega
  have hnode:=yP o n u ns ks al;simp only [exA,Ex.A2,AD,AJ] at hnode
  have hw2:IntKind.i64.wrap (((41 - (d+1):Nat):Int)+1)=((41 - d:Nat):Int):=by
   have e:((41 - (d+1):Nat):Int)+1=((41 - d:Nat):Int):=by omega
   rw [e];exact Ax (by omega) (by omega)
  cases hn:Lu o n u ns ks.length al with
  |false=>
   rw [hn] at hnode;(repeat' ((first|refine wQ mxQ rfl ?_|refine Run.qR Ck ?_|refine AH.det (hnode _) ?_|fail)<;>try simp only [hj,hw,h6,h4,go_sem]));exact ⟨false,_,rfl,rfl,by rw [Y0,if_neg (by simp [hn])];rfl,fun r h=>by rw [Y0,if_neg (by simp [hn])] at h;cases h⟩
  |true=>
  rw [hn] at hnode;have hres:vEx (d+1) (q+1) (.mk o n u ns ks al)=(ks.foldlM (fK d) q).bind fun q=>al.foldlM (fA d) q:=by rw [Y0,if_pos hn]
  generalize hV:VXQ PO j (d+1) (q+1) (.mk o n u ns ks al) σ=V
  have hno:∀z,vEx (d+1) (q+1) (.mk o n u ns ks al)=none->V (.d (.bool false)) (σ.AP j [.d (.int .i64 z)]):=fun z h=>by
   rw [<- hV];exact ⟨false,z,rfl,rfl,by rw [h];rfl,fun r hr=>by rw [h] at hr;cases hr⟩
  have hyes:∀r,vEx (d+1) (q+1) (.mk o n u ns ks al)=some r->V (.d (.bool true)) (σ.AP j [.d (.int .i64 (PO r))]):=fun z h=>by
   rw [<- hV];exact ⟨true,_,rfl,rfl,by rw [h];rfl,fun r hr=>by rw [h] at hr;cases hr;rfl⟩
  clear hV;(repeat' ((first|refine wQ mxQ rfl ?_|refine AH.det (hnode _) ?_|fail)<;>try simp only [hj,hw,h6,h4,AA,go_sem]));refine Run.cell 4 4 rfl rfl (fun hb4=>?_);refine Run.cell 4 5 rfl rfl (fun hb5=>?_);simp only [AV.DW,AA] at hb4 hb5;refine Run.At ?_
  refine Run.Au ((fun (a0:AV) (a2:AV) (a4:AV) (a33:AV) (a34:AV)=>fun (y:Nat×Nat)=>put 0 a0 (put 2 a2 (put 4 a4 (put 33 a33 (put 34 a34 (put 35 (.d (.int .i64 y.1)) U)))))) _ _ _ _ _) (fun _=>Am 4 [.d (.int .i64 o),.d (.str n),.d (.int .i64 u),.d (.sl (ns.map BF)),.d (.sl (ks.map Ex.enc)),.d (.sl (al.map Al.enc))] E) (fun y=>σ.AP j [.d (.int .i64 (PO y.2))])
   (fun y=>y.1<=ks.length/\y.2<=q/\(ks.take y.1).foldlM (fK d) q=some y.2) (fun y=>ks.length - y.1) ?_ (0,q) ⟨by simp,AW _,rfl⟩
  rintro ⟨i,p⟩ ⟨hi,hp,hok⟩ ih;simp only at hi hp hok;by_cases hlt:i < ks.length
  . obtain ⟨x,hx⟩:=Ai hlt;have he:=Av (enc:=Ex.enc) hx;have hw1:IntKind.i64.wrap ((i:Int)+1)=((i+1:Nat):Int):=by rw [Ax (by omega) (by omega)];omega
    have hc:=ihd p (by omega) (by omega) x (σ.AP j [.d (.int .i64 (PO p))]) (by simp only [AK,if_true]);cases hv:vEx d p x with
    |some r=>
     have hr:=YZ _ _ _ _ hv;have hc:=VXQ.yes hc hv;have hs:=Mn hok hx;obtain ⟨xo,xn,xu,xs,xk,xa⟩:=x;simp only [Ex.A2,exA,AD,AJ] at he hc;(repeat' ((first|refine wQ mxQ rfl ?_|(refine AH.mk rfl hc ?_;rintro _ _ ⟨rfl,rfl⟩)|fail)<;>try simp only [Ag hlt,he,hw1,hw2,go_sem]));exact ih (i+1,r) ⟨by simp only;omega,by simp only;omega,by simp only;rw [hs];exact hv⟩ (by simp only;omega)
    |none=>
     have hc:=VXQ.no hc hv;have hs:=Mm hok hx hv;obtain ⟨xo,xn,xu,xs,xk,xa⟩:=x;simp only [Ex.A2,exA,AD,AJ] at he hc;(repeat' ((first|refine wQ mxQ rfl ?_|refine Run.qR Ck ?_|(refine AH.mk rfl hc ?_;rintro _ _ ⟨rfl,z,rfl⟩)|fail)<;>try simp only [Ag hlt,he,hw1,hw2,go_sem]));exact hno z (by rw [hres,hs];rfl)
  . rw [AM (by omega)] at hok;rw [hok,El] at hres;clear ih;(repeat' (refine wQ mxQ rfl ?_<;>try simp only [B5 hlt,AA,go_sem]));refine Run.At ?_
    refine Run.Au ((fun (a0:AV) (a2:AV) (a47:AV) (a48:AV)=>fun (y:Nat×Nat)=>put 0 a0 (put 2 a2 (put 47 a47 (put 48 a48 (put 49 (.d (.int .i64 y.1)) U))))) _ _ _ _) (fun _=>E) (fun y=>σ.AP j [.d (.int .i64 (PO y.2))])
     (fun y=>y.1<=al.length/\y.2<=q/\(al.take y.1).foldlM (fA d) p=some y.2) (fun y=>al.length - y.1) ?_ (0,p) ⟨by simp,hp,rfl⟩
    rintro ⟨i,p⟩ ⟨hi,hp,hok⟩ ih;simp only at hi hp hok;by_cases hlt:i < al.length
    . obtain ⟨x,hx⟩:=Ai hlt;have he:=Av (enc:=Al.enc) hx;have hw1:IntKind.i64.wrap ((i:Int)+1)=((i+1:Nat):Int):=by rw [Ax (by omega) (by omega)];omega
      obtain ⟨xc,xv,x⟩:=x;have hc:=ihd p (by omega) (by omega) x (σ.AP j [.d (.int .i64 (PO p))]) (by simp only [AK,if_true]);cases hv:vEx d p x with
      |some r=>
       have hr:=YZ _ _ _ _ hv;have hc:=VXQ.yes hc hv;have hs:=Mn hok hx;obtain ⟨xo,xn,xu,xs,xk,xa⟩:=x;simp only [Al.A2,Ex.A2,exA,AD,AJ] at he hc;(repeat' ((first|refine wQ mxQ rfl ?_|(refine AH.mk rfl hc ?_;rintro _ _ ⟨rfl,rfl⟩)|fail)<;>try simp only [Ag hlt,he,hw1,hw2,go_sem]));exact ih (i+1,r) ⟨by simp only;omega,by simp only;omega,by simp only;rw [hs];exact hv⟩ (by simp only;omega)
      |none=>
       have hc:=VXQ.no hc hv;have hs:=Mm hok hx hv;obtain ⟨xo,xn,xu,xs,xk,xa⟩:=x;simp only [Al.A2,Ex.A2,exA,AD,AJ] at he hc;(repeat' ((first|refine wQ mxQ rfl ?_|refine Run.qR Ck ?_|(refine AH.mk rfl hc ?_;rintro _ _ ⟨rfl,z,rfl⟩)|fail)<;>try simp only [Ag hlt,he,hw1,hw2,go_sem]));exact hno z (by rw [hres,hs])
    . rw [AM (by omega)] at hok;(repeat' ((first|refine wQ mxQ rfl ?_|refine Run.qR Ck ?_|fail)<;>try simp only [B5 hlt,go_sem]));exact hyes p (by rw [hres,hok])
theorem VJ (u:Int) (σ:AI):AT Tzp 105 [.d (.int .i64 u)] σ (fun v σ'=>v= .d (.int .i64 (Zr u))/\σ'=σ):=by
 refine oM (by simp) ?_;rw [Bq];by_cases h:1<=u/\u<=7
 . obtain ⟨h1,h2⟩:=h;obtain rfl|rfl|rfl|rfl|rfl|rfl|rfl:u=1\/u=2\/u=3\/u=4\/u=5\/u=6\/u=7:=by omega
   all_goals (repeat' (first|((first|refine wQ mxQ rfl ?_|refine Run.qP Le ?_|fail)<;>try simp only [AF,Int.reduceLT,Int.reduceLE,E0,go_sem])|(refine ⟨fun h=>?_,fun h=>?_⟩<;>first|(cases h;done)|try simp only [h])|fail))
   all_goals rfl
 . have hp:Zr u=0:=by
    have:=vB u;omega
   rw [hp];by_cases h1:u < 1
   . (repeat' ((first|refine wQ mxQ rfl ?_|refine Run.qP Le ?_|fail)<;>try simp only [decide_eq_true h1,go_sem]));rfl
   . have h8:decide (((8:Nat):Int)<=u)=true:=by simp;omega
     (repeat' ((first|refine wQ mxQ rfl ?_|refine Run.qP Le ?_|fail)<;>try simp only [decide_eq_false h1,h8,go_sem]));rfl
end Go.Ab
namespace Go.Ab
open Go.Proofs
def jU (o:Int) (n:Str) (u:Int) (ns:List Str) (nk na:Nat):Bool:=
 nmB o n&&nuB o u&&nsB o ns&&(if o=10 then decide (1<=na) else decide (na=0))&&nkB o u nk
theorem jT (o:Int) (n:Str) (u:Int) (ns:List Str) (nk:Nat) (al:List Al):Lu o n u ns nk al=(jU o n u ns nk al.length&&al.all Vq):=by
 unfold Lu jU asB;split
 . cases nmB o n<;>cases nuB o u<;>cases nsB o ns<;>cases nkB o u nk<;>simp
 . cases al with
   |nil=>simp
   |cons a l=>simp
theorem U2 (l:List Str):Po l false=(decide (l.length<=6)&&l.all R4):=by
 unfold Po;congr 2;funext s;simp only [R4,FL,B7];exact Bool.or_comm _ _
theorem Wj (l:List Str):Po l true=(decide (l.length<=6)&&l.all Dl):=by
 unfold Po;congr 2;funext s;simp
def IA (r:Nat):Int:=(r:Int)
theorem AN7 (j d q:Nat) (ihd:∀(q:Nat),q<=600->∀(e:Ex) (σ:AI),σ.blk j=some [.d (.int .i64 (IA q))]->AT Tzp 72 [exA e,.d (.int .i64 (d:Int)),.gp j 0] σ (VXQ IA j d q e σ)) (hd:d < 40) (hq:q<=600)
 (o:Int) (n:Str) (u:Int) (ns:List Str) (ks:List Ex) (al:List Al) (σ:AI) (hnode:jU o n u ns ks.length al.length=true):
 Run JF (VXQ IA j (d+1) (q+1) (.mk o n u ns ks al) σ) [.code (.loop L4),.blk 1,.code (.seq (.seq (.reg [⟨some 14,.mv (.c (.d (.int .i64 0))),none⟩] [1,2,3,14]) (.block 3 (.loop R7))) (.seq (.reg [⟨some 6,.mv (.c (.d (.bool true))),none⟩] [6]) .ret))]
  (put 1 (.d (.int .i64 ((d+1:Nat):Int))) (put 2 (.gp j 0) (put 3 (.lp 3 0) (put 13 (.d (.int .i64 0)) U)))) (Am 3 [.d (.int .i64 o),.d (.str n),.d (.int .i64 u),.d (.sl (ns.map BF)),.d (.sl (ks.map Ex.enc)),.d (.sl (al.map Al.enc))] E) (σ.AP j [.d (.int .i64 (IA q))]):=by
 have hws:IntKind.i64.wrap (((d+1:Nat):Int) - 1)=(d:Int):=NI (by omega);have hres:vEx (d+1) (q+1) (.mk o n u ns ks al)=if al.all Vq then (ks.foldlM (fK d) q).bind fun q=>al.foldlM (fA d) q else none:=by rw [Y0,jT,hnode,BY]
 generalize hV:VXQ IA j (d+1) (q+1) (.mk o n u ns ks al) σ=V
 have hno:∀z,vEx (d+1) (q+1) (.mk o n u ns ks al)=none->V (.d (.bool false)) (σ.AP j [.d (.int .i64 z)]):=fun z h=>by
  rw [<- hV];exact ⟨false,z,rfl,rfl,by rw [h];rfl,fun r hr=>by rw [h] at hr;cases hr⟩
 have hyes:∀r,vEx (d+1) (q+1) (.mk o n u ns ks al)=some r->V (.d (.bool true)) (σ.AP j [.d (.int .i64 (IA r))]):=fun z h=>by
  rw [<- hV];exact ⟨true,_,rfl,rfl,by rw [h];rfl,fun r hr=>by rw [h] at hr;cases hr;rfl⟩
 clear hV;refine Run.cell 3 4 rfl rfl (fun hb4=>?_);refine Run.cell 3 5 rfl rfl (fun hb5=>?_);simp only [AV.DW,AA] at hb4 hb5;refine Run.At ?_
 refine Run.Au ((fun (a1:AV) (a2:AV) (a3:AV)=>fun (y:Nat×Nat)=>put 1 a1 (put 2 a2 (put 3 a3 (put 13 (.d (.int .i64 y.1)) U)))) _ _ _) (fun _=>Am 3 [.d (.int .i64 o),.d (.str n),.d (.int .i64 u),.d (.sl (ns.map BF)),.d (.sl (ks.map Ex.enc)),.d (.sl (al.map Al.enc))] E) (fun y=>σ.AP j [.d (.int .i64 (IA y.2))])
  (fun y=>y.1<=ks.length/\y.2<=q/\(ks.take y.1).foldlM (fK d) q=some y.2) (fun y=>ks.length - y.1) ?_ (0,q) ⟨by simp,AW _,rfl⟩
 rintro ⟨i,p⟩ ⟨hi,hp,hok⟩ ih;simp only at hi hp hok;by_cases hlt:i < ks.length
 . obtain ⟨x,hx⟩:=Ai hlt;have he:=Av (enc:=Ex.enc) hx;have hw1:IntKind.i64.wrap ((i:Int)+1)=((i+1:Nat):Int):=by rw [Ax (by omega) (by omega)];omega
   have hc:=ihd p (by omega) x (σ.AP j [.d (.int .i64 (IA p))]) (by simp only [AK,if_true]);cases hv:vEx d p x with
   |some r=>
    have hr:=YZ _ _ _ _ hv;have hc:=VXQ.yes hc hv;have hs:=Mn hok hx;obtain ⟨xo,xn,xu,xs,xk,xa⟩:=x;simp only [Ex.A2,exA,AD,AJ] at he hc;(repeat' ((first|refine wQ mxQ rfl ?_|(refine AH.mk rfl hc ?_;rintro _ _ ⟨rfl,rfl⟩)|fail)<;>try simp only [Ag hlt,he,hw1,hws,AA,go_sem]));exact ih (i+1,r) ⟨by simp only;omega,by simp only;omega,by simp only;rw [hs];exact hv⟩ (by simp only;omega)
   |none=>
    have hc:=VXQ.no hc hv;have hs:=Mm hok hx hv;obtain ⟨xo,xn,xu,xs,xk,xa⟩:=x;simp only [Ex.A2,exA,AD,AJ] at he hc;(repeat' ((first|refine wQ mxQ rfl ?_|refine Run.qR Cy ?_|(refine AH.mk rfl hc ?_;rintro _ _ ⟨rfl,z,rfl⟩)|fail)<;>try simp only [Ag hlt,he,hw1,hws,AA,go_sem]));refine hno z ?_;rw [hres,hs];split<;>rfl
 . rw [AM (by omega)] at hok;rw [hok,El] at hres;clear ih;(repeat' (refine wQ mxQ rfl ?_<;>try simp only [B5 hlt,AA,go_sem]));refine Run.At ?_
   refine Run.Au ((fun (a1:AV) (a2:AV) (a3:AV)=>fun (y:Nat×Nat)=>put 1 a1 (put 2 a2 (put 3 a3 (put 14 (.d (.int .i64 y.1)) U)))) _ _ _) (fun _=>Am 3 [.d (.int .i64 o),.d (.str n),.d (.int .i64 u),.d (.sl (ns.map BF)),.d (.sl (ks.map Ex.enc)),.d (.sl (al.map Al.enc))] E) (fun y=>σ.AP j [.d (.int .i64 (IA y.2))])
    (fun y=>y.1<=al.length/\y.2<=q/\(al.take y.1).all Vq=true/\(al.take y.1).foldlM (fA d) p=some y.2) (fun y=>al.length - y.1) ?_ (0,p) ⟨by simp,hp,by simp,rfl⟩
   rintro ⟨i,p⟩ ⟨hi,hp,hab,hok⟩ ih;simp only at hi hp hab hok;by_cases hlt:i < al.length
   . obtain ⟨x,hx⟩:=Ai hlt;have he:=Av (enc:=Al.enc) hx;have hw1:IntKind.i64.wrap ((i:Int)+1)=((i+1:Nat):Int):=by rw [Ax (by omega) (by omega)];omega
     cases halt:Vq x with
     |false=>
      have hna:al.all Vq=false:=mU hx halt;rw [hna] at hres;have hnz:=hno (IA p) (by rw [hres];rfl);obtain ⟨xc,xv,xo,xn,xu,xs,xk,xa⟩:=x;simp only [Al.A2] at he;cases hup:HU xc with
      |false=>
       have h1:=Dw xc 2 (σ.AP j [.d (.int .i64 (IA p))]);rw [show I3 2 xc=HU xc from rfl,hup] at h1;(repeat' ((first|refine wQ mxQ rfl ?_|refine Run.qR Cy ?_|refine AH.det (h1) ?_|fail)<;>try simp only [Ag hlt,he,hw1,hws,AA,go_sem]));exact hnz
      |true=>
       have h1:=Dw xc 2 (σ.AP j [.d (.int .i64 (IA p))]);rw [show I3 2 xc=HU xc from rfl,hup] at h1;have h2:=LA xv false (σ.AP j [.d (.int .i64 (IA p))])
       have hb:Po xv false=false:=by
        rw [U2];simp only [Vq,hup,BY] at halt;exact halt
       rw [hb] at h2;(repeat' ((first|refine wQ mxQ rfl ?_|refine Run.qR Cy ?_|refine AH.det (h1) ?_|refine AH.det (h2) ?_|fail)<;>try simp only [Ag hlt,he,hw1,hws,AA,go_sem]));exact hnz
     |true=>
      have hab2:=N2 hab hx halt;obtain ⟨xc,xv,x⟩:=x;have hup:HU xc=true:=by simp only [Vq,AO] at halt;exact halt.1.1
      have hbn:Po xv false=true:=by rw [U2];simp only [Vq,AO] at halt ⊢;exact ⟨halt.1.2,halt.2⟩
      have h1:=Dw xc 2 (σ.AP j [.d (.int .i64 (IA p))]);rw [show I3 2 xc=HU xc from rfl,hup] at h1;have h2:=LA xv false (σ.AP j [.d (.int .i64 (IA p))]);rw [hbn] at h2;have hc:=ihd p (by omega) x (σ.AP j [.d (.int .i64 (IA p))]) (by simp only [AK,if_true]);cases hv:vEx d p x with
      |some r=>
       have hr:=YZ _ _ _ _ hv;have hc:=VXQ.yes hc hv;have hs:=Mn hok hx;obtain ⟨xo,xn,xu,xs,xk,xa⟩:=x;simp only [Al.A2,Ex.A2,exA,AD,AJ] at he hc;(repeat' ((first|refine wQ mxQ rfl ?_|(refine AH.mk rfl hc ?_;rintro _ _ ⟨rfl,rfl⟩)|refine AH.det (h1) ?_|refine AH.det (h2) ?_|fail)<;>try simp only [Ag hlt,he,hw1,hws,AA,go_sem]));exact ih (i+1,r) ⟨by simp only;omega,by simp only;omega,hab2,by simp only;rw [hs];exact hv⟩ (by simp only;omega)
      |none=>
       have hc:=VXQ.no hc hv;have hs:=Mm hok hx hv;obtain ⟨xo,xn,xu,xs,xk,xa⟩:=x;simp only [Al.A2,Ex.A2,exA,AD,AJ] at he hc;(repeat' ((first|refine wQ mxQ rfl ?_|refine Run.qR Cy ?_|(refine AH.mk rfl hc ?_;rintro _ _ ⟨rfl,z,rfl⟩)|refine AH.det (h1) ?_|refine AH.det (h2) ?_|fail)<;>try simp only [Ag hlt,he,hw1,hws,AA,go_sem]));refine hno z ?_;rw [hres,hs];split<;>rfl
   . rw [AM (by omega)] at hok hab;(repeat' ((first|refine wQ mxQ rfl ?_|refine Run.qR Cy ?_|fail)<;>try simp only [B5 hlt,AA,go_sem]));exact hyes p (by rw [hres,hab,if_pos rfl,hok])
end Go.Ab
namespace Go.Ab
open Go.RowKit
variable {P:Program} {K:C6} {F:Fm} {L:Lm} {σ:AI}
def sel (c:Bool) (v:AV):AV:=if c then v else .tup []
theorem Zv (v:AV):sel true v=v:=rfl
def GV (want:Bool) (x:AV) (c:Bool):Prop:=gdV want x=some c
theorem GV.t {b:Bool}:GV true (.d (.bool b)) b:=by cases b<;>rfl
theorem GV.f {b:Bool}:GV false (.d (.bool b)) (!b):=by cases b<;>rfl
theorem GV.st {b c:Bool}:GV true (sel c (.d (.bool b))) (c&&b):=by cases b<;>cases c<;>rfl
theorem GV.sf {b c:Bool}:GV false (sel c (.d (.bool b))) (c&& !b):=by cases b<;>cases c<;>rfl
def Is (d:Nat) (v:AV) (F:Fm) (L:Lm) (σ:AI):C6:=fun F' L' σ'=>F'=put d v F/\L'=L/\σ'=σ
theorem Is.mk {d:Nat} {v:AV}:Is d v F L σ (put d v F) L σ:=⟨rfl,rfl,rfl⟩
theorem AW1 {d s:Nat} {o:O} {want c:Bool} {v:AV} {r:List Q} (hg:GV want (F s) c)
 (hy:c=true->Bc P (Is d v F L σ) [⟨some d,o,none⟩] F L σ)
 (hk:Bc P K r (put d (sel c v) F) L σ):Bc P K (⟨some d,o,some (s,want)⟩::r) F L σ:=by
 show XG (gd F (some (s,want))) (XO P (some d) (Bc P K r) F L σ o) (Bc P K r (BS (some d) (.tup []) F) L σ);have hgd:gd F (some (s,want))=some c:=hg;rw [hgd];cases c with
 |true=>exact ACU (fun F' L' σ' ⟨h1,h2,h3⟩=>by rw [h1,h2,h3];exact hk) (hy rfl)
 |false=>exact hk
theorem Ds (c x:Bool):(if c=true then sel c (.d (.bool x)) else (.d (.bool false)))=AV.d (.bool (c&&x)):=by cases c<;>rfl
theorem G5 (c x:Bool):(if c=true then (.d (.bool true)) else sel (!c) (.d (.bool x)))=AV.d (.bool (c||x)):=by cases c<;>rfl
end Go.Ab
namespace Go.Ab
theorem cH {P:Program} {K:C6} {F:Fm} {L:Lm} {σ:AI} {d s:Nat} {o:O} {want c:Bool} {r:List Q} (hg:GV want (F s) c)
 (h:∃v,(c=true->Bc P (Is d v F L σ) [⟨some d,o,none⟩] F L σ)/\Bc P K r (put d (sel c v) F) L σ):Bc P K (⟨some d,o,some (s,want)⟩::r) F L σ:=by
 obtain ⟨v,h1,h2⟩:=h;exact AW1 hg h1 h2
end Go.Ab
namespace Go.Ab
theorem Is.pv {d:Nat} {v:AV} {F:Fm} {L:Lm} {σ:AI} {x:Option AV} (h:x=some v):XPv x (some d) (Is d v F L σ) F L σ:=by
 subst h;exact Is.mk
theorem AH.ADV {P:Program} {f:FuncId} {args args':List AV} {d:Option Nat} {K:C6} {F:Fm} {L:Lm} {σ:AI} (e:args=args') (h:AH P f args' d K F L σ):AH P f args d K F L σ:=e ▸ h
end Go.Ab
namespace Go.Ab
theorem EJ (c:Bool) (v:AV):sel c (sel c v)=sel c v:=by cases c<;>rfl
theorem GP (c x:Bool) (v:AV):sel (c&&x) (sel c v)=sel (c&&x) v:=by cases c<;>cases x<;>rfl
theorem GQ (c x:Bool) (v:AV):sel (c&&x) (sel x v)=sel (c&&x) v:=by cases c<;>cases x<;>rfl
end Go.Ab
namespace Go.Ab
theorem Dt (c x:Bool):(if (!c)=true then (.d (.bool true)) else sel c (.d (.bool x)))=AV.d (.bool (!c||x)):=by cases c<;>rfl
end Go.Ab
namespace Go.Ab
open Go.Proofs
def AH3 (nm nu nn na:Bool) (lo hi:Nat) (n:Str) (u:Int) (a k b:Nat):Bool:=
 (nm||n==[])&&(nu||u==0)&&(nn||decide (a=0))&&(na||decide (b=0))&&decide (lo<=k)&&decide (k<=hi)
theorem AN6 (o:Int) (n:Str) (u:Int) (ns:List Str) (ks:List Ex) (al:List Al) (d j:Nat) (σ:AI) (nm nu nn na:Bool) (lo hi:Nat):
 Bc Tzp (Cut [1,2,3,201] (put 1 (.d (.int .i64 ((d+1:Nat):Int))) (put 2 (.gp j 0) (put 3 (.lp 3 0) (put 201 (.d (.bool (!AH3 nm nu nn na lo hi n u ns.length ks.length al.length))) U)))) (Am 3 [.d (.int .i64 o),.d (.str n),.d (.int .i64 u),.d (.sl (ns.map BF)),.d (.sl (ks.map Ex.enc)),.d (.sl (al.map Al.enc))] E) σ)
  [⟨some 152,.mv (.t 7),none⟩,⟨some 153,.un .not (.t 152),none⟩,⟨some 154,.mv (.t 153),none⟩,⟨some 155,.fld (.t 3) 1,some (154,true)⟩,⟨some 156,.ldl (.t 155) none,some (154,true)⟩,⟨some 157,.bin .neq (.t 156) (.c (.d (.str []))),some (154,true)⟩,⟨some 158,.pick (.t 154) (.t 157) (.c (.d (.bool false))),none⟩,⟨some 159,.mv (.t 158),none⟩,⟨some 160,.mv (.t 8),some (159,false)⟩,⟨some 161,.un .not (.t 160),some (159,false)⟩,⟨some 162,.mv (.t 161),some (159,false)⟩,⟨some 163,.fld (.t 3) 2,some (162,true)⟩,⟨some 164,.ldl (.t 163) none,some (162,true)⟩,⟨some 165,.bin .neq (.t 164) (.c (.d (.int .i64 0))),some (162,true)⟩,⟨some 166,.pick (.t 162) (.t 165) (.c (.d (.bool false))),some (159,false)⟩,⟨some 167,.pick (.t 159) (.c (.d (.bool true))) (.t 166),none⟩,⟨some 168,.mv (.t 167),none⟩,⟨some 169,.mv (.t 9),some (168,false)⟩,⟨some 170,.un .not (.t 169),some (168,false)⟩,⟨some 171,.mv (.t 170),some (168,false)⟩,⟨some 172,.fld (.t 3) 3,some (171,true)⟩,⟨some 173,.ldl (.t 172) none,some (171,true)⟩,⟨some 174,.len (.t 173),some (171,true)⟩,⟨some 175,.bin .gtr (.t 174) (.c (.d (.int .i64 0))),some (171,true)⟩,⟨some 176,.pick (.t 171) (.t 175) (.c (.d (.bool false))),some (168,false)⟩,⟨some 177,.pick (.t 168) (.c (.d (.bool true))) (.t 176),none⟩,⟨some 178,.mv (.t 177),none⟩,⟨some 179,.mv (.t 10),some (178,false)⟩,⟨some 180,.un .not (.t 179),some (178,false)⟩,⟨some 181,.mv (.t 180),some (178,false)⟩,⟨some 182,.fld (.t 3) 5,some (181,true)⟩,⟨some 183,.ldl (.t 182) none,some (181,true)⟩,⟨some 184,.len (.t 183),some (181,true)⟩,⟨some 185,.bin .gtr (.t 184) (.c (.d (.int .i64 0))),some (181,true)⟩,⟨some 186,.pick (.t 181) (.t 185) (.c (.d (.bool false))),some (178,false)⟩,⟨some 187,.pick (.t 178) (.c (.d (.bool true))) (.t 186),none⟩,⟨some 188,.mv (.t 187),none⟩,⟨some 189,.fld (.t 3) 4,some (188,false)⟩,⟨some 190,.ldl (.t 189) none,some (188,false)⟩,⟨some 191,.len (.t 190),some (188,false)⟩,⟨some 192,.mv (.t 11),some (188,false)⟩,⟨some 193,.bin .lss (.t 191) (.t 192),some (188,false)⟩,⟨some 194,.pick (.t 188) (.c (.d (.bool true))) (.t 193),none⟩,⟨some 195,.mv (.t 194),none⟩,⟨some 196,.fld (.t 3) 4,some (195,false)⟩,⟨some 197,.ldl (.t 196) none,some (195,false)⟩,⟨some 198,.len (.t 197),some (195,false)⟩,⟨some 199,.mv (.t 12),some (195,false)⟩,⟨some 200,.bin .gtr (.t 198) (.t 199),some (195,false)⟩,⟨some 201,.pick (.t 195) (.c (.d (.bool true))) (.t 200),none⟩]
  (put 1 (.d (.int .i64 ((d+1:Nat):Int))) (put 2 (.gp j 0) (put 3 (.lp 3 0) (put 7 (.d (.bool nm)) (put 8 (.d (.bool nu)) (put 9 (.d (.bool nn)) (put 10 (.d (.bool na)) (put 11 (.d (.int .i64 (lo:Nat))) (put 12 (.d (.int .i64 (hi:Nat))) U))))))))) (Am 3 [.d (.int .i64 o),.d (.str n),.d (.int .i64 u),.d (.sl (ns.map BF)),.d (.sl (ks.map Ex.enc)),.d (.sl (al.map Al.enc))] E) σ:=by
 have fin:∀(b c:Bool),(b=true↔c=true)->∀(a1 a2 a3:AV),(put 1 a1 (put 2 a2 (put 3 a3 (put 201 (.d (.bool b)) U))))=put 1 a1 (put 2 a2 (put 3 a3 (put 201 (.d (.bool c)) U))):=fun b c h a1 a2 a3=>by rw [An.2 h]
 simp only [DA,go_sem];(repeat' (first|refine ctQ rfl ?_|(refine cH (by first|exact GV.t|exact GV.f|exact GV.st|exact GV.sf) ⟨?_,fun h=>?_,?_⟩;rotate_left;(focus ((try simp only [AO,OM] at h);simp only [AA,DA,gtN,ltN,go_sem];first|exact Is.mk|exact Is.pv (by simp only [h,Zv,↓Ds,↓G5,↓Dt,AA,DA,gtN,ltN,go_sem];rfl)));(try simp only [EJ,GP,GQ,↓Ds,↓G5,↓Dt,AA,DA,gtN,ltN,O3,go_sem]))|((first|refine rgQ mxQ ?_|refine cdQ ?_)<;>try simp only [EJ,GP,GQ,↓Ds,↓G5,↓Dt,AA,DA,gtN,ltN,go_sem])|fail));refine fin _ _ ?_ _ _ _;simp only [AH3];simp [bne]
 grind
theorem lM (j:Nat):∀(d q:Nat),d<=40->q<=600->∀(e:Ex) (σ:AI),σ.blk j=some [.d (.int .i64 (IA q))]->
 AT Tzp 72 [exA e,.d (.int .i64 (d:Int)),.gp j 0] σ (VXQ IA j d q e σ):=by
 intro d
 induction d with
 |zero=>
  intro q _ hq e σ hj;obtain ⟨o,n,u,ns,ks,al⟩:=e;refine X0 (by simp) ?_;rw [Dm,exA,Ex.A2];have h0:(((0:Nat):Int)==0)=true:=by decide
  (repeat' ((first|refine wQ mxQ rfl ?_|refine Run.qR Cy ?_|fail)<;>try simp only [h0,go_sem]));exact ⟨false,IA q,rfl,(Ix hj).symm,rfl,fun r h=>by cases h⟩
 |succ d ihd=>
  intro q hd hq e σ hj;obtain ⟨o,n,u,ns,ks,al⟩:=e;refine X0 (by simp) ?_;rw [Dm,exA,Ex.A2];have h0:(((d+1:Nat):Int)==0)=false:=by simp only [beq_eq_false_iff_ne,ne_eq];omega
  cases q with
  |zero=>
   have hz:(IA 0==0)=true:=by decide
   (repeat' ((first|refine wQ mxQ rfl ?_|refine Run.qR Cy ?_|fail)<;>try simp only [h0,hj,hz,go_sem]));exact ⟨false,IA 0,rfl,(Ix hj).symm,rfl,fun r h=>by cases h⟩
  |succ q=>
  have hz:(IA (q+1)==0)=false:=by simp only [IA,beq_eq_false_iff_ne,ne_eq];omega
  have hwq:IntKind.i64.wrap (IA (q+1) - 1)=IA q:=NI (by omega);have hL:=fun h=>AN7 j d q (fun q hq e σ h=>ihd q (by omega) hq e σ h) (by omega) (by omega) o n u ns ks al σ h;have hbt:=LA ns true (σ.AP j [.d (.int .i64 (IA q))]);have hbf:=LA ns false (σ.AP j [.d (.int .i64 (IA q))])
  have hfail:jU o n u ns ks.length al.length=false->VXQ IA j (d+1) (q+1) (.mk o n u ns ks al) σ (.d (.bool false)) (σ.AP j [.d (.int .i64 (IA q))]):=fun h=>
   have hr:vEx (d+1) (q+1) (.mk o n u ns ks al)=none:=by rw [Y0,jT,h];rfl
   ⟨false,_,rfl,rfl,by rw [hr];rfl,fun r h=>by rw [hr] at h;cases h⟩
  generalize hV:VXQ IA j (d+1) (q+1) (.mk o n u ns ks al) σ=V at hL hfail;clear ihd hV;(repeat' (first|refine Run.cb rfl ?_|((first|refine rgQ mxQ ?_|refine cdQ ?_)<;>try simp only [h0,hj,hz,hwq,go_sem])|fail));refine Run.AET (α:=Bool×Bool×Bool×Bool×Nat×Nat) [1,2,3,7,8,9,10,11,12] (fun a=>put 1 (.d (.int .i64 ((d+1:Nat):Int))) (put 2 (.gp j 0) (put 3 (.lp 3 0) (put 7 (.d (.bool a.1)) (put 8 (.d (.bool a.2.1)) (put 9 (.d (.bool a.2.2.1)) (put 10 (.d (.bool a.2.2.2.1)) (put 11 (.d (.int .i64 (a.2.2.2.2.1:Nat))) (put 12 (.d (.int .i64 (a.2.2.2.2.2:Nat))) U))))))))) (Am 3 [.d (.int .i64 o),.d (.str n),.d (.int .i64 u),.d (.sl (ns.map BF)),.d (.sl (ks.map Ex.enc)),.d (.sl (al.map Al.enc))] E) (σ.AP j [.d (.int .i64 (IA q))]) (fun a=>jU o n u ns ks.length al.length=AH3 a.1 a.2.1 a.2.2.1 a.2.2.2.1 a.2.2.2.2.1 a.2.2.2.2.2 n u ns.length ks.length al.length) ?_ ?_
  . rintro ⟨nm,nu,nn,na,lo,hi⟩ hI;simp only at hI ⊢;(repeat (first
    |refine Run.seq ?_
    |refine Run.skip ?_
    |refine Run.block ?_
    |refine Run.blk ?_
    |refine Run.scope ?_
    |refine Run.scp ?_
    |(refine Run.exit rfl ?_)))
    refine Run.AUO mixed (put 1 (.d (.int .i64 ((d+1:Nat):Int))) (put 2 (.gp j 0) (put 3 (.lp 3 0) (put 201 (.d (.bool (!AH3 nm nu nn na lo hi n u ns.length ks.length al.length))) U)))) (Am 3 [.d (.int .i64 o),.d (.str n),.d (.int .i64 u),.d (.sl (ns.map BF)),.d (.sl (ks.map Ex.enc)),.d (.sl (al.map Al.enc))] E) (σ.AP j [.d (.int .i64 (IA q))]) ?_ ?_
    . exact AN6 o n u ns ks al d j _ nm nu nn na lo hi
    . cases hc:AH3 nm nu nn na lo hi n u ns.length ks.length al.length with
      |true=>
       (repeat' (first|((first|refine wQ mxQ rfl ?_|(refine A7 rfl (fun h=>?_) (fun h=>?_)<;>try (cases h;done))|fail)<;>try simp only [hc,go_sem])|(refine ⟨fun h=>?_,fun h=>?_⟩<;>first|(cases h;done)|try simp only [h])|fail));exact hL (hI.trans hc)
      |false=>
       (repeat' (first|((first|refine wQ mxQ rfl ?_|refine Run.qR Cy ?_|(refine A7 rfl (fun h=>?_) (fun h=>?_)<;>try (cases h;done))|fail)<;>try simp only [go_sem])|(refine ⟨fun h=>?_,fun h=>?_⟩<;>first|(cases h;done)|try simp only [h])|fail));exact hfail (hI.trans hc)
  . intro hrest;clear hL;have key:=fun (F':Fm) (L':Lm) (nm nu nn na:Bool) (lo hi:Nat) h1 h2 h3=>hrest F' L' (nm,nu,nn,na,lo,hi) h1 h2 h3;simp only at key;clear hrest;have fin:∀b c:Bool,(b=true↔c=true)->b=c:=fun b c h=>An.2 h;by_cases ho:o=1\/o=2\/o=3\/o=4\/o=5\/o=6\/o=7\/o=8\/o=9\/o=10\/o=11\/o=12\/o=13\/o=14\/o=15\/o=16\/o=17
    . rcases ho with rfl|rfl|rfl|rfl|rfl|rfl|rfl|rfl|rfl|rfl|rfl|rfl|rfl|rfl|rfl|rfl|rfl
      all_goals (repeat' (first|(refine key _ _ ?_ ?_ ?_ ?_ ?_ ?_ ?_ ?_ ?_;rotate_left 6;(focus (simp only [EJ,GP,GQ,↓Ds,↓G5,↓Dt,go_sem];rfl));(focus (simp only [EJ,GP,GQ,↓Ds,↓G5,↓Dt,go_sem])))|refine ctQ rfl ?_|(refine cH (by first|exact GV.t|exact GV.f|exact GV.st|exact GV.sf) ⟨?_,fun h=>?_,?_⟩;rotate_left;(focus ((try simp only [AO,OM] at h);simp only [AY,AA,Bd,go_sem];first|exact Is.mk|exact Is.pv (by simp only [h,Zv,↓Ds,↓G5,↓Dt,AY,AA,Bd,go_sem];rfl)|(refine AH.det (Dw _ _ _) ?_;exact Is.mk)|(refine AH.det (VJ _ _) ?_;exact Is.mk)|(refine AH.det (hbt) ?_;exact Is.mk)|(refine AH.det (hbf) ?_;exact Is.mk)|(refine AH.ADV (by simp only [h,Zv];rfl) ?_;first|(refine AH.det (Dw _ _ _) ?_;exact Is.mk)|(refine AH.det (VJ _ _) ?_;exact Is.mk)|(refine AH.det (hbt) ?_;exact Is.mk)|(refine AH.det (hbf) ?_;exact Is.mk))));(try simp only [EJ,GP,GQ,↓Ds,↓G5,↓Dt,AY,AA,Bd,O3,go_sem]))|((first|refine rgQ mxQ ?_|refine cdQ ?_|refine Run.qR Cy ?_|refine AH.det (Dw _ _ _) ?_|refine AH.det (VJ _ _) ?_|refine AH.det (hbt) ?_|refine AH.det (hbf) ?_)<;>try simp only [EJ,GP,GQ,↓Ds,↓G5,↓Dt,AY,AA,Bd,go_sem])|(refine ⟨fun h=>?_,fun h=>?_⟩<;>first|(cases h;done)|try simp only [EJ,GP,GQ,↓Ds,↓G5,↓Dt,h])|fail))
      all_goals clear key
      all_goals (try refine hfail ?_)
      all_goals clear hfail hbt hbf hj hz hwq h0
      all_goals (refine fin _ _ ?_;simp [jU,AH3,nmB,nuB,nsB,nkB,Dl,HU,R4,Wj,U2, *] at *;try grind)
    . have hn:jU o n u ns ks.length al.length=false:=by
       simp only [not_or] at ho;simp [jU,nkB,ho]
      simp only [not_or] at ho;obtain ⟨h1,h2,h3,h4,h5,h6,h7,h8,h9,h10,h11,h12,h13,h14,h15,h16,h17⟩:=ho;(repeat' ((first|refine wQ mxQ rfl ?_|refine Run.qR Cy ?_|fail)<;>try simp only [Cp h1,Cp h2,Cp h3,Cp h4,Cp h5,Cp h6,Cp h7,Cp h8,Cp h9,Cp h10,Cp h11,Cp h12,Cp h13,Cp h14,Cp h15,Cp h16,Cp h17,go_sem]));exact hfail hn
end Go.Ab
namespace Go.Ab
open Go.Proofs
def Yl (c:CE):Prop:=∀t∈c.args,t.size<=1000000
def KV (d:DE):Prop:=∀c∈d.cons,Yl c
theorem ATI {b c:Bool} (h:b=true↔c=true):AV.d (.bool b)=AV.d (.bool c):=by rw [An.2 h]
theorem jF (t:TE) (σ:AI) (h:t.size<=1000000):AT Tzp 112 [teA t] σ (fun v σ'=>v= .d (.bool (Cc 40 t))/\σ'=σ):=by
 refine Ur (by simp) ?_;rw [Bq];have hc:=Zc 40 (AW _) t σ h;rw [show ((41 - 40:Nat):Int)=1 from rfl] at hc;obtain ⟨k,n,l⟩:=t;simp only [TE.A2,teA,AD,AJ] at hc ⊢;(repeat' ((first|refine wQ mxQ rfl ?_|refine Run.qP Lh ?_|refine AH.det (hc) ?_|fail)<;>try simp only [go_sem]))
theorem rA (c:CE) (σ:AI) (h:Yl c):AT Tzp 110 [ceA c] σ (fun v σ'=>v= .d (.bool (ZJ c))/\σ'=σ):=by
 refine X8 (by simp) ?_;rw [Bq];have ha:=Ob (fid:=112) (caps:=[]) (by kernel_rfl) rfl (Cc 40) c.args σ (fun t ht σ1 _=>jF t σ1 (h t ht));obtain ⟨nm,ar⟩:=c;simp only [CE.enc,ceA,AD,AJ] at ha ⊢;have h6:decide ((ar.length:Int)<=6)=decide (ar.length<=6):=leN _ 6;(repeat' (first|refine ctQ rfl ?_|(refine cH (by first|exact GV.t|exact GV.f|exact GV.st|exact GV.sf) ⟨?_,fun h=>?_,?_⟩;rotate_left;(focus ((try simp only [AO,OM] at h);simp only [AA,h6,go_sem];first|exact Is.mk|exact Is.pv (by simp only [h,Zv,↓Ds,↓G5,↓Dt,AA,h6,go_sem];rfl)|(refine AH.det (CM nm _) ?_;exact Is.mk)|(refine AH.det (ha) ?_;exact Is.mk)|(refine AH.ADV (by simp only [h,Zv];rfl) ?_;first|(refine AH.det (CM nm _) ?_;exact Is.mk)|(refine AH.det (ha) ?_;exact Is.mk))));(try simp only [EJ,GP,GQ,↓Ds,↓G5,↓Dt,AA,h6,Md,go_sem]))|((first|refine rgQ mxQ ?_|refine cdQ ?_|refine Run.qP Ni ?_|refine AH.det (CM nm _) ?_|refine AH.det (ha) ?_)<;>try simp only [EJ,GP,GQ,↓Ds,↓G5,↓Dt,AA,h6,go_sem])|fail));simp only [ZJ]
theorem yN (d:DE) (σ:AI) (h:KV d):AT Tzp 81 [deA d] σ (fun v σ'=>v= .d (.bool (Km d))/\σ'=σ):=by
 refine bF (by simp) ?_;rw [Bq];have ha:=Jl (fid:=82) (caps:=[]) (by kernel_rfl) rfl Dl d.vars σ (fun x _ σ1 _=>E7 x σ1);have hc:=aD (fid:=110) (caps:=[]) (by kernel_rfl) rfl ZJ d.cons σ (fun c hc σ1 _=>rA c σ1 (h c hc));obtain ⟨nm,vs,cs⟩:=d;simp only [DE.enc,deA,AD,AJ] at ha hc ⊢;have h6:decide ((6:Int) < (vs.length:Int))=!decide (vs.length<=6):=gtN _ 6;have h8:decide ((8:Int) < (cs.length:Int))=!decide (cs.length<=8):=gtN _ 8;have h1:decide ((cs.length:Int) < 1)=decide (cs.length < 1):=ltN _ 1
 (repeat' (first|refine ctQ rfl ?_|(refine cH (by first|exact GV.t|exact GV.f|exact GV.st|exact GV.sf) ⟨?_,fun h=>?_,?_⟩;rotate_left;(focus ((try simp only [AO,OM] at h);simp only [AA,h6,h8,h1,go_sem];first|exact Is.mk|exact Is.pv (by simp only [h,Zv,↓Ds,↓G5,↓Dt,AA,h6,h8,h1,go_sem];rfl)|(refine AH.det (CM nm _) ?_;exact Is.mk)|(refine AH.det (ha) ?_;exact Is.mk)|(refine AH.det (hc) ?_;exact Is.mk)|(refine AH.ADV (by simp only [h,Zv];rfl) ?_;first|(refine AH.det (CM nm _) ?_;exact Is.mk)|(refine AH.det (ha) ?_;exact Is.mk)|(refine AH.det (hc) ?_;exact Is.mk))));(try simp only [EJ,GP,GQ,↓Ds,↓G5,↓Dt,AA,h6,h8,h1,Ou,go_sem]))|((first|refine rgQ mxQ ?_|refine cdQ ?_|refine Run.qP QG ?_|refine AH.det (CM nm _) ?_|refine AH.det (ha) ?_|refine AH.det (hc) ?_)<;>try simp only [EJ,GP,GQ,↓Ds,↓G5,↓Dt,AA,h6,h8,h1,go_sem])|(refine ⟨fun h=>?_,fun h=>?_⟩<;>first|(cases h;done)|try simp only [EJ,GP,GQ,↓Ds,↓G5,↓Dt,h])|fail))
 all_goals (refine ATI ?_;simp [Km] at *;try grind)
theorem l9 (p:Pg) (σ:AI) (h:∀d∈p.data,KV d):AT Tzp 50 [pgA p] σ (fun v σ'=>v= .d (.bool (Cl p))/\σ'=σ):=by
 obtain ⟨ds,fs⟩:=p;refine oO (by simp) ?_;rw [Bq,pgA];simp only [Pg.enc,AD,AJ] at h ⊢;have h12:decide ((12:Int) < (ds.length:Int))=!decide (ds.length<=12):=gtN _ 12;have h24:decide ((24:Int) < (fs.length:Int))=!decide (fs.length<=24):=gtN _ 24;by_cases hd:ds.length<=12
 case neg=>
  (repeat' ((first|refine wQ mxQ rfl ?_|refine Run.qP Dr ?_|fail)<;>try simp only [AA,h12,decide_eq_false hd,go_sem]));simp [Cl,hd]
 by_cases hf:fs.length<=24
 case neg=>
  (repeat' ((first|refine wQ mxQ rfl ?_|refine Run.qP Dr ?_|fail)<;>try simp only [AA,h12,decide_eq_true hd,h24,decide_eq_false hf,go_sem]));simp [Cl,hf]
 have hres:Cl ⟨ds,fs⟩=(ds.all Km&&(fs.foldlM Qc 600).isSome):=by simp [Cl,hd,hf]
 (repeat' (refine wQ mxQ rfl ?_<;>try simp only [AA,h12,decide_eq_true hd,h24,decide_eq_true hf,go_sem]));refine Run.At ?_;refine Run.Au ((fun (a1:AV) (a19:AV) (a20:AV)=>fun (i:Nat)=>put 1 a1 (put 19 a19 (put 20 a20 (put 21 (.d (.int .i64 i)) U)))) _ _ _) (fun _=>Am 1 [.d (.sl (ds.map DE.enc)),.d (.sl (fs.map FE.enc))] E) (fun _=>σ) (fun i=>i<=ds.length/\(ds.take i).all Km=true) (fun i=>ds.length - i) ?_ 0 ⟨by simp,by simp⟩;rintro i ⟨hi,hok⟩ ih;by_cases hlt:i < ds.length
 . obtain ⟨x,hx⟩:=Ai hlt;have he:=Av (enc:=DE.enc) hx;have hw1:=A4 (show i+1<=9000000000000000000 by omega);have hc:=yN x σ (h x (AE hx));cases hp:Km x with
   |true=>
    have hs:=N2 hok hx hp;rw [hp] at hc;obtain ⟨nm,vs,cs⟩:=x;simp only [DE.enc,deA,AD,AJ] at he hc;(repeat' ((first|refine wQ mxQ rfl ?_|refine AH.det (hc) ?_|fail)<;>try simp only [Ag hlt,he,hw1,go_sem]));exact ih (i+1) ⟨by omega,hs⟩ (by omega)
   |false=>
    have hs:=mU (p:=Km) hx hp;rw [hp] at hc;obtain ⟨nm,vs,cs⟩:=x;simp only [DE.enc,deA,AD,AJ] at he hc;(repeat' ((first|refine wQ mxQ rfl ?_|refine Run.qP Dr ?_|refine AH.det (hc) ?_|fail)<;>try simp only [Ag hlt,he,hw1,go_sem]));rw [hres,hs];rfl
 . rw [AM (by omega)] at hok;rw [hok,BY] at hres;clear ih;(repeat' (first|refine ctQ rfl ?_|((first|refine rgQ mxQ ?_|refine cdQ ?_)<;>try simp only [B5 hlt,go_sem])|fail));intro j hj;have hle:=CQ (cs:=[AV.d (.int .i64 0)]) hj;(repeat' (first|refine ctQ rfl ?_|((first|refine rgQ mxQ ?_|refine cdQ ?_)<;>try simp only [AA,go_sem])|fail));refine Run.At ?_
   refine Run.Au ((fun (a5:AV) (a32:AV) (a33:AV)=>fun (y:Nat×Nat)=>put 5 a5 (put 32 a32 (put 33 a33 (put 34 (.d (.int .i64 y.1)) U)))) _ _ _) (fun _=>E) (fun y=>σ.AP j [.d (.int .i64 (PO y.2))])
    (fun y=>y.1<=fs.length/\y.2<=600/\(fs.take y.1).foldlM Qc 600=some y.2) (fun y=>fs.length - y.1) ?_ (0,600) ⟨by simp,by simp,rfl⟩
   rintro ⟨i,q⟩ ⟨hi,hq,hok⟩ ih;simp only at hi hq hok;by_cases hlt:i < fs.length
   . obtain ⟨x,hx⟩:=Ai hlt;have he:=Av (enc:=FE.enc) hx;have hw1:=A4 (show i+1<=9000000000000000000 by omega);have hnm:=E7 x.name (σ.AP j [.d (.int .i64 (PO q))]);have hps:=Jl (fid:=82) (caps:=[]) (by kernel_rfl) rfl Dl x.params (σ.AP j [.d (.int .i64 (PO q))]) (fun x _ σ1 _=>E7 x σ1);have h6:decide ((6:Int) < (x.params.length:Int))=!decide (x.params.length<=6):=gtN _ 6;have hc:=kV j 40 q (AW _) hq x.body (σ.AP j [.d (.int .i64 (PO q))]) (by simp only [AK,if_true]);rw [show ((41 - 40:Nat):Int)=1 from rfl] at hc;have hno:Qc q x=none->fs.foldlM Qc 600=none:=fun h=>Mm hok hx h;have hyes:∀r,Qc q x=some r->(fs.take (i+1)).foldlM Qc 600=some r:=fun r h=>by rw [Mn hok hx,h]
     have hvf:Qc q x=if Dl x.name&&decide (x.params.length<=6)&&x.params.all Dl then vEx 40 q x.body else none:=rfl
     cases h1:Dl x.name with
     |false=>
      rw [h1] at hnm hvf;obtain ⟨nm,ps,o,n,u,ns,ks,al⟩:=x;simp only [FE.enc,Ex.A2] at he hnm;(repeat' (first|refine ctQ rfl ?_|((first|refine rgQ mxQ ?_|refine cdQ ?_|(refine Run.Bf Dr (σ2:=σ) (CQ hj) ?_)|refine AH.det (hnm) ?_)<;>try simp only [Ag hlt,he,go_sem])|fail));rw [hres,hno hvf];rfl
     |true=>
     by_cases h2:x.params.length<=6
     case neg=>
      rw [decide_eq_false h2] at h6;rw [h1,decide_eq_false h2] at hvf;rw [h1] at hnm;obtain ⟨nm,ps,o,n,u,ns,ks,al⟩:=x;simp only [FE.enc,Ex.A2] at he hnm h6;(repeat' (first|refine ctQ rfl ?_|((first|refine rgQ mxQ ?_|refine cdQ ?_|(refine Run.Bf Dr (σ2:=σ) (CQ hj) ?_)|refine AH.det (hnm) ?_)<;>try simp only [Ag hlt,he,AA,h6,go_sem])|fail));rw [hres,hno hvf];rfl
     rw [decide_eq_true h2] at h6;cases h3:x.params.all Dl with
     |false=>
      rw [h1,h3] at hvf;rw [CT] at hvf;rw [h1] at hnm;rw [h3] at hps;obtain ⟨nm,ps,o,n,u,ns,ks,al⟩:=x;simp only [FE.enc,Ex.A2] at he hnm h6 hps;(repeat' (first|refine ctQ rfl ?_|((first|refine rgQ mxQ ?_|refine cdQ ?_|(refine Run.Bf Dr (σ2:=σ) (CQ hj) ?_)|refine AH.det (hnm) ?_|refine AH.det (hps) ?_)<;>try simp only [Ag hlt,he,AA,h6,go_sem])|fail));rw [hres,hno hvf];rfl
     |true=>
     rw [h1,h3,decide_eq_true h2] at hvf;rw [h1] at hnm;rw [h3] at hps;cases hv:vEx 40 q x.body with
     |some r=>
      have hr:=YZ _ _ _ _ hv;rw [hv] at hvf;have hc:=VXQ.yes hc hv;have hs:=hyes r hvf;obtain ⟨nm,ps,o,n,u,ns,ks,al⟩:=x;simp only [FE.enc,Ex.A2,exA,AD,AJ] at he hnm h6 hps hc;(repeat' (first|refine ctQ rfl ?_|((first|refine rgQ mxQ ?_|refine cdQ ?_|(refine AH.mk rfl hc ?_;rintro _ _ ⟨rfl,rfl⟩)|refine AH.det (hnm) ?_|refine AH.det (hps) ?_)<;>try simp only [Ag hlt,he,hw1,AA,h6,go_sem])|fail));exact ih (i+1,r) ⟨by simp only;omega,by simp only;omega,hs⟩ (by simp only;omega)
     |none=>
      rw [hv] at hvf;have hc:=VXQ.no hc hv;obtain ⟨nm,ps,o,n,u,ns,ks,al⟩:=x;simp only [FE.enc,Ex.A2,exA,AD,AJ] at he hnm h6 hps hc;(repeat' (first|refine ctQ rfl ?_|((first|refine rgQ mxQ ?_|refine cdQ ?_|(refine AH.mk rfl hc ?_;rintro _ _ ⟨rfl,z,rfl⟩)|(refine Run.Bf Dr (σ2:=σ) (CQ hj) ?_)|refine AH.det (hnm) ?_|refine AH.det (hps) ?_)<;>try simp only [Ag hlt,he,hw1,AA,h6,go_sem])|fail));rw [hres,hno hvf];rfl
   . rw [AM (by omega)] at hok;(repeat' (first|refine ctQ rfl ?_|((first|refine rgQ mxQ ?_|refine cdQ ?_|(refine Run.Bf Dr (σ2:=σ) (CQ hj) ?_))<;>try simp only [B5 hlt,go_sem])|fail));rw [hres,hok];rfl
end Go.Ab
namespace Go.Ab
open Go.Proofs
theorem pZ (ds:List DE) (fs:List FE) (σ σ3:AI) (j:Nat) (hle:σ.le σ3) (hb:σ3.blk j=some [.d (.int .i64 600)]) (hsj:σ.blk j=none) (hres:Cl ⟨ds,fs⟩=(fs.foldlM Qc 600).isSome) (hf24:fs.length<=24):
 Run Qd (fun v σ'=>v= .d (.bool (Cl ⟨ds,fs⟩))/\σ'=σ) [.code (.loop Zf),.blk 6,.code (.seq (.reg [⟨some 2,.mv (.c (.d (.bool true))),none⟩] [2]) .ret)] (put 1 (.lp 1 0) (put 7 (.gp j 0) (put 8 (.d (.int .i64 0)) U))) (Am 1 [.d (.sl (ds.map DE.enc)),.d (.sl (fs.map FE.enc))] E) σ3:=by
 refine Run.At ?_;refine Run.AQR (σ':=σ3.AP j [.d (.int .i64 (IA 600))]) (Ix hb) ?_
 refine Run.Au ((fun (a1:AV) (a7:AV)=>fun (y:Nat×Nat)=>put 1 a1 (put 7 a7 (put 8 (.d (.int .i64 y.1)) U))) _ _) (fun _=>Am 1 [.d (.sl (ds.map DE.enc)),.d (.sl (fs.map FE.enc))] E) (fun y=>σ3.AP j [.d (.int .i64 (IA y.2))])
  (fun y=>y.1<=fs.length/\y.2<=600/\(fs.take y.1).foldlM Qc 600=some y.2) (fun y=>fs.length - y.1) ?_ (0,600) ⟨by simp,by simp,rfl⟩
 rintro ⟨i,q⟩ ⟨hi,hq,hok⟩ ih;simp only at hi hq hok;have hσ:∀z:Int,σ.le (σ3.AP j [.d (.int .i64 z)]):=fun z=>E6 hle hsj;by_cases hlt:i < fs.length
 . obtain ⟨x,hx⟩:=Ai hlt;have he:=Av (enc:=FE.enc) hx;have hw1:=A4 (show i+1<=9000000000000000000 by omega);have hnm:=Dw x.name 1 (σ3.AP j [.d (.int .i64 (IA q))]);rw [show I3 1 x.name=Dl x.name from rfl] at hnm;have hps:=LA x.params true (σ3.AP j [.d (.int .i64 (IA q))]);rw [Wj] at hps;have hc:=lM j 40 q (AW _) hq x.body (σ3.AP j [.d (.int .i64 (IA q))]) (by simp only [AK,if_true]);rw [show ((40:Nat):Int)=40 from rfl] at hc;have hno:Qc q x=none->fs.foldlM Qc 600=none:=fun h=>Mm hok hx h;have hyes:∀r,Qc q x=some r->(fs.take (i+1)).foldlM Qc 600=some r:=fun r h=>by rw [Mn hok hx,h]
   have hvf:Qc q x=if Dl x.name&&(decide (x.params.length<=6)&&x.params.all Dl) then vEx 40 q x.body else none:=by
    unfold Qc uK;rw [Bool.and_assoc]
   generalize (decide (x.params.length<=6)&&x.params.all Dl)=bp at hps hvf;cases h1:Dl x.name with
   |false=>
    rw [h1] at hnm hvf;obtain ⟨nm,ps,o,n,u,ns,ks,al⟩:=x;simp only [FE.enc,Ex.A2] at he hnm;(repeat' ((first|refine wQ mxQ rfl ?_|(refine Run.Bf Dq (σ2:=σ) (hσ _) ?_)|refine AH.det (hnm) ?_|fail)<;>try simp only [Ag hlt,he,AA,go_sem]));rw [hres,hno hvf];rfl
   |true=>
   rw [h1] at hnm;cases bp with
   |false=>
    rw [h1] at hvf;obtain ⟨nm,ps,o,n,u,ns,ks,al⟩:=x;simp only [FE.enc,Ex.A2] at he hnm hps;(repeat' ((first|refine wQ mxQ rfl ?_|(refine Run.Bf Dq (σ2:=σ) (hσ _) ?_)|refine AH.det (hnm) ?_|refine AH.det (hps) ?_|fail)<;>try simp only [Ag hlt,he,AA,go_sem]));rw [hres,hno hvf];rfl
   |true=>
   rw [h1] at hvf;cases hv:vEx 40 q x.body with
   |some r=>
    have hr:=YZ _ _ _ _ hv;rw [hv] at hvf;have hc:=VXQ.yes hc hv;have hs:=hyes r hvf;obtain ⟨nm,ps,o,n,u,ns,ks,al⟩:=x;simp only [FE.enc,Ex.A2,exA,AD,AJ] at he hnm hps hc;(repeat' ((first|refine wQ mxQ rfl ?_|(refine AH.mk rfl hc ?_;rintro _ _ ⟨rfl,rfl⟩)|refine AH.det (hnm) ?_|refine AH.det (hps) ?_|fail)<;>try simp only [Ag hlt,he,hw1,AA,go_sem]));exact ih (i+1,r) ⟨by simp only;omega,by simp only;omega,hs⟩ (by simp only;omega)
   |none=>
    rw [hv] at hvf;have hc:=VXQ.no hc hv;obtain ⟨nm,ps,o,n,u,ns,ks,al⟩:=x;simp only [FE.enc,Ex.A2,exA,AD,AJ] at he hnm hps hc;(repeat' ((first|refine wQ mxQ rfl ?_|(refine AH.mk rfl hc ?_;rintro _ _ ⟨rfl,z,rfl⟩)|(refine Run.Bf Dq (σ2:=σ) (hσ _) ?_)|refine AH.det (hnm) ?_|refine AH.det (hps) ?_|fail)<;>try simp only [Ag hlt,he,hw1,AA,go_sem]));rw [hres,hno hvf];rfl
 . rw [AM (by omega)] at hok;(repeat' ((first|refine wQ mxQ rfl ?_|(refine Run.Bf Dq (σ2:=σ) (hσ _) ?_)|fail)<;>try simp only [B5 hlt,AA,go_sem]));rw [hres,hok];rfl
theorem ABK (p:Pg) (σ:AI) (h:∀d∈p.data,KV d):AT Tzp 39 [pgA p] σ (fun v σ'=>v= .d (.bool (Cl p))/\σ'=σ):=by
 obtain ⟨ds,fs⟩:=p;refine AEA (by simp) ?_;rw [Bq,pgA];simp only [Pg.enc,AD,AJ] at h ⊢;have h12:decide ((12:Int) < (ds.length:Int))=!decide (ds.length<=12):=gtN _ 12;have h24:decide ((24:Int) < (fs.length:Int))=!decide (fs.length<=24):=gtN _ 24;by_cases hd:ds.length<=12
 case neg=>
  (repeat' ((first|refine wQ mxQ rfl ?_|refine Run.qP Dq ?_|fail)<;>try simp only [AA,h12,decide_eq_false hd,go_sem]));simp [Cl,hd]
 by_cases hf:fs.length<=24
 case neg=>
  (repeat' ((first|refine wQ mxQ rfl ?_|refine Run.qP Dq ?_|fail)<;>try simp only [AA,h12,decide_eq_true hd,h24,decide_eq_false hf,go_sem]));simp [Cl,hf]
 have hres:Cl ⟨ds,fs⟩=(ds.all Km&&(fs.foldlM Qc 600).isSome):=by simp [Cl,hd,hf]
 have hbad:∀d∈ds,Km d=false->Cl ⟨ds,fs⟩=false:=fun d hm hb=>by
  rw [hres,List.all_eq_false.2 ⟨d,hm,by simp [hb]⟩];rfl
 (repeat' (refine wQ mxQ rfl ?_<;>try simp only [AA,h12,decide_eq_true hd,h24,decide_eq_true hf,go_sem]));refine Run.At ?_;refine Run.Au ((fun (a1:AV)=>fun (i:Nat)=>put 1 a1 (put 3 (.d (.int .i64 i)) U)) _) (fun _=>Am 1 [.d (.sl (ds.map DE.enc)),.d (.sl (fs.map FE.enc))] E) (fun _=>σ) (fun i=>i<=ds.length/\(ds.take i).all Km=true) (fun i=>ds.length - i) ?_ 0 ⟨by simp,by simp⟩;rintro i ⟨hi,hok⟩ ih;by_cases hlt:i < ds.length
 . obtain ⟨x,hx⟩:=Ai hlt;have hxm:=AE hx;have he:=Av (enc:=DE.enc) hx;have hw1:=A4 (show i+1<=9000000000000000000 by omega);have hxs:=h x hxm;have hbx:=hbad x hxm;have hs:=fun hp=>N2 (p:=Km) hok hx hp;have hnm:=Dw x.name 2 σ;rw [show I3 2 x.name=HU x.name from rfl] at hnm;have hbs:=LA x.vars true σ;rw [Wj] at hbs;have h8:decide ((8:Int) < (x.cons.length:Int))=!decide (x.cons.length<=8):=gtN _ 8
   have hl1:decide ((x.cons.length:Int) < 1)=!decide (1<=x.cons.length):=by
    rw [An];simp only [decide_eq_true_eq,Br,decide_eq_false_iff_not];omega
   have hdx:Km x=(((HU x.name&&(decide (x.vars.length<=6)&&x.vars.all Dl))&&(decide (1<=x.cons.length)&&decide (x.cons.length<=8)))&&x.cons.all ZJ):=by
    simp [Km,Bool.and_assoc]
   obtain ⟨nm,vs,cs⟩:=x;simp only [DE.enc] at he hnm hbs h8 hl1 hdx hxs;cases hA:HU nm with
   |false=>
    rw [hA] at hnm hdx;(repeat' ((first|refine wQ mxQ rfl ?_|refine Run.qP Dq ?_|refine AH.det (hnm) ?_|fail)<;>try simp only [Ag hlt,he,AA,go_sem]));rw [hbx hdx]
   |true=>
   rw [hA] at hnm;cases hB:(decide (vs.length<=6)&&vs.all Dl) with
   |false=>
    rw [hB] at hbs;rw [hA,hB] at hdx;(repeat' ((first|refine wQ mxQ rfl ?_|refine Run.qP Dq ?_|refine AH.det (hnm) ?_|refine AH.det (hbs) ?_|fail)<;>try simp only [Ag hlt,he,AA,go_sem]));rw [hbx hdx]
   |true=>
   rw [hB] at hbs;by_cases hC:1<=cs.length
   case neg=>
    rw [decide_eq_false hC] at hl1 hdx;(repeat' ((first|refine wQ mxQ rfl ?_|refine Run.qP Dq ?_|refine AH.det (hnm) ?_|refine AH.det (hbs) ?_|fail)<;>try simp only [Ag hlt,he,AA,hl1,go_sem]));rw [hbx (by rw [hdx];simp)]
   rw [decide_eq_true hC] at hl1;by_cases hD:cs.length<=8
   case neg=>
    rw [decide_eq_false hD] at h8 hdx;(repeat' ((first|refine wQ mxQ rfl ?_|refine Run.qP Dq ?_|refine AH.det (hnm) ?_|refine AH.det (hbs) ?_|fail)<;>try simp only [Ag hlt,he,AA,hl1,h8,go_sem]));rw [hbx (by rw [hdx];simp)]
   rw [decide_eq_true hD] at h8;rw [hA,hB,decide_eq_true hC,decide_eq_true hD] at hdx;simp only [Wa,BY] at hdx;rw [hdx] at hbx hs;(repeat' ((first|refine wQ mxQ rfl ?_|refine AH.det (hnm) ?_|refine AH.det (hbs) ?_|fail)<;>try simp only [Ag hlt,he,AA,hl1,h8,go_sem]));refine Run.At ?_;refine Run.Au ((fun (a1:AV) (a3:AV) (a4:AV)=>fun (k:Nat)=>put 1 a1 (put 3 a3 (put 4 a4 (put 5 (.d (.int .i64 k)) U)))) _ _ _) (fun _=>Am 1 [.d (.sl (ds.map DE.enc)),.d (.sl (fs.map FE.enc))] (Am 4 [.d (.str nm),.d (.sl (vs.map BF)),.d (.sl (cs.map CE.enc))] E)) (fun _=>σ) (fun k=>k<=cs.length/\(cs.take k).all ZJ=true) (fun k=>cs.length - k) ?_ 0 ⟨by simp,by simp⟩;rintro k ⟨hk,hokc⟩ ih2;by_cases hkl:k < cs.length
   . obtain ⟨c,hc⟩:=Ai hkl;have hcm:=AE hc;have hec:=Av (enc:=CE.enc) hc;have hwk:=A4 (show k+1<=9000000000000000000 by omega);have hcs:=hxs c hcm;have hbc:ZJ c=false->Cl ⟨ds,fs⟩=false:=fun hb=>hbx (List.all_eq_false.2 ⟨c,hcm,by simp [hb]⟩);have hsc:=fun hp=>N2 (p:=ZJ) hokc hc hp;have hcn:=Dw c.name 2 σ;rw [show I3 2 c.name=HU c.name from rfl] at hcn;have h6:decide ((6:Int) < (c.args.length:Int))=!decide (c.args.length<=6):=gtN _ 6;have hcx:ZJ c=(HU c.name&&decide (c.args.length<=6)&&c.args.all (Cc 40)):=rfl;obtain ⟨cn,ar⟩:=c;simp only [CE.enc] at hec hcn h6 hcx hcs;cases hE:HU cn with
     |false=>
      rw [hE] at hcn hcx;(repeat' ((first|refine wQ mxQ rfl ?_|refine Run.qP Dq ?_|refine AH.det (hcn) ?_|fail)<;>try simp only [Ag hkl,hec,AA,go_sem]));rw [hbc hcx]
     |true=>
     rw [hE] at hcn;by_cases hF:ar.length<=6
     case neg=>
      rw [decide_eq_false hF] at h6 hcx;(repeat' ((first|refine wQ mxQ rfl ?_|refine Run.qP Dq ?_|refine AH.det (hcn) ?_|fail)<;>try simp only [Ag hkl,hec,AA,h6,go_sem]));rw [hbc (by rw [hcx];simp)]
     rw [decide_eq_true hF] at h6;rw [hE,decide_eq_true hF] at hcx;simp only [Wa,BY] at hcx;rw [hcx] at hbc hsc;(repeat' ((first|refine wQ mxQ rfl ?_|refine AH.det (hcn) ?_|fail)<;>try simp only [Ag hkl,hec,AA,h6,go_sem]));refine Run.At ?_;refine Run.Au ((fun (a1:AV) (a3:AV) (a4:AV) (a5:AV)=>fun (a:Nat)=>put 1 a1 (put 3 a3 (put 4 a4 (put 5 a5 (put 6 (.d (.int .i64 a)) U))))) _ _ _ _) (fun _=>Am 1 [.d (.sl (ds.map DE.enc)),.d (.sl (fs.map FE.enc))] (Am 4 [.d (.str nm),.d (.sl (vs.map BF)),.d (.sl (cs.map CE.enc))] E)) (fun _=>σ) (fun a=>a<=ar.length/\(ar.take a).all (Cc 40)=true) (fun a=>ar.length - a) ?_ 0 ⟨by simp,by simp⟩;rintro a ⟨ha,hoka⟩ ih3;by_cases hal:a < ar.length
     . obtain ⟨t,ht⟩:=Ai hal;have htm:=AE ht;have het:=Av (enc:=TE.enc) ht;have hwa:=A4 (show a+1<=9000000000000000000 by omega);have hv:=lN 40 t σ (AW _) (hcs t htm);rw [show ((40:Nat):Int)=40 from rfl] at hv;cases hp:Cc 40 t with
       |true=>
        rw [hp] at hv;obtain ⟨tk,tn,tl⟩:=t;simp only [TE.A2,teA,AD,AJ] at het hv;(repeat' ((first|refine wQ mxQ rfl ?_|refine AH.det (hv) ?_|fail)<;>try simp only [Ag hal,hec,het,hwa,AA,go_sem]));exact ih3 (a+1) ⟨by omega,N2 hoka ht hp⟩ (by omega)
       |false=>
        rw [hp] at hv;obtain ⟨tk,tn,tl⟩:=t;simp only [TE.A2,teA,AD,AJ] at het hv;(repeat' ((first|refine wQ mxQ rfl ?_|refine Run.qP Dq ?_|refine AH.det (hv) ?_|fail)<;>try simp only [Ag hal,hec,het,hwa,AA,go_sem]));rw [hbc (mU ht hp)]
     . rw [AM (by omega)] at hoka;(repeat' (refine wQ mxQ rfl ?_<;>try simp only [B5 hal,hec,hwk,AA,go_sem]));exact ih2 (k+1) ⟨by omega,hsc hoka⟩ (by omega)
   . rw [AM (by omega)] at hokc;(repeat' (refine wQ mxQ rfl ?_<;>try simp only [B5 hkl,hw1,AA,go_sem]));exact ih (i+1) ⟨by omega,hs hokc⟩ (by omega)
 . rw [AM (by omega)] at hok;rw [hok,BY] at hres;clear ih;(repeat' (refine wQ mxQ rfl ?_<;>try simp only [B5 hlt,AA,go_sem]));intro j hj;obtain ⟨hle3,hb⟩:=ALG (z:=[.d (.int .i64 0)]) (x:=([AV.d (.int .i64 0)].length,3)) hj;simp only [A1,CG,BJ] at hle3 hb;generalize (σ.AP j [.d (.int .i64 0)]).CH j (1,3)=σ3 at hle3 hb ⊢;simp only [hb,go_sem];(repeat' (refine wQ mxQ rfl ?_<;>try simp only [hb,AA,go_sem]));exact pZ ds fs σ (σ3.AP j [.d (.int .i64 600)]) j (E6 hle3 hj.1) (by simp only [AK,if_true]) hj.1 hres hf
end Go.Ab
namespace Go.Ab
open Go.Proofs
set_option maxRecDepth 100000
set_option maxHeartbeats 40000000
noncomputable section
noncomputable def NS:Cx:=⟨Tzp,24,Tryz.f24,58,[300011,300016,300018,300019,300023,300030,300032,300038,300044,300045],[],[.c 2 (some 3)]⟩
theorem Hv:Good NS:=⟨Tryz.func24,by kernel_rfl⟩
theorem p7:NS.rs=[.c 2 (some 3)]:=rfl
noncomputable def Zp:=BO NS [] fun c a=>G c [a]
def fY:C:=lpC 0 (Zp .skip)
def rW:C:=(Zp fY).1
theorem sC:Inn NS rW 58:=inn [] Hv Tryz.ntmps24
noncomputable def P9:Cx:=⟨Tzp,25,Tryz.f25,36,[13,300008,300015,300023],[],[.t 2,.c 3 (some 3)]⟩
theorem Lf:Good P9:=⟨Tryz.func25,by kernel_rfl⟩
theorem Zt:P9.rs=[.t 2,.c 3 (some 3)]:=rfl
noncomputable def eE:=BO P9 [] fun c a=>G c [a]
def kQ:C:=lpC 0 (eE .skip)
def wF:C:=(eE kQ).1
theorem wV:Inn P9 wF 36:=inn [] Lf Tryz.ntmps25
noncomputable def MP:Cx:=⟨Tzp,26,Tryz.f26,6,[300003],[],[.t 2]⟩
theorem XX:Good MP:=⟨Tryz.func26,by kernel_rfl⟩
theorem lV:MP.rs=[.t 2]:=rfl
noncomputable def o0:=BO MP [] (G · [])
def nL:C:=(o0).1
theorem oN:Inn MP nL 6:=inn [] XX Tryz.ntmps26
noncomputable def JS:Cx:=⟨Tzp,46,Tryz.f46,9,[3,300006],[],[.t 4]⟩
theorem Tb:Good JS:=⟨Tryz.func46,by kernel_rfl⟩
theorem e8:JS.rs=[.t 4]:=rfl
noncomputable def g6:=BO JS [] (G · [])
def fZ:C:=(g6).1
theorem gV:Inn JS fZ 9:=inn [] Tb Tryz.ntmps46
noncomputable def JT:Cx:=⟨Tzp,47,Tryz.f47,22,[],[],[.t 2]⟩
theorem Ms:Good JT:=⟨Tryz.func47,by kernel_rfl⟩
theorem e9:JT.rs=[.t 2]:=rfl
noncomputable def Tr:=BO JT [] fun c a=>G c [a]
def ZB:C:=lpC 0 (Tr .skip)
def gA:C:=(Tr ZB).1
theorem gW:Inn JT gA 22:=inn [] Ms Tryz.ntmps47
noncomputable def K0:Cx:=⟨Tzp,48,Tryz.f48,25,[11,300014,300017],[],[.t 4,.t 5]⟩
theorem OY:Good K0:=⟨Tryz.func48,by kernel_rfl⟩
theorem iR:K0.rs=[.t 4,.t 5]:=rfl
noncomputable def lC:=BO K0 [] (G · [])
def kR:C:=(lC).1
theorem k6:Inn K0 kR 25:=inn [] OY Tryz.ntmps48
noncomputable def Fu:Cx:=⟨Tzp,49,Tryz.f49,107,[300013,300018,300023,300025,300033,300035,300043,300046,300061,300065,300067,300072,300076,300081,300086,300088,300094,300099],[],[.t 6]⟩
theorem BH:Good Fu:=⟨Tryz.func49,by kernel_rfl⟩
theorem VK:Fu.rs=[.t 6]:=rfl
noncomputable def WL:=BO Fu [] (G · [])
def Vr:C:=(WL).1
theorem WB:Inn Fu Vr 107:=inn [] BH Tryz.ntmps49
def KJ:List (Nat×PT):=[(3,(pO [0,1,2,3,5,6,7,8,9,10] (.alt 4 (pO [11,12,13,14,15] .done) (.alt 11 (pO [4,12,13,14,15] .done) .done)))),(21,(pO [0,1,2,4,5,6,7,8,9,10,11,12,13,14] (.alt 3 (pO [15,16,17,18] .done) (.alt 15 (pO [3,16,17,18] .done) .done))))]
noncomputable def DY:Cx:=⟨Tzp,51,Tryz.f51,115,[37,100038,300018,300023,300032,300034,300042,300052,300064,300071,300074,300082,300090,300091,300109],[],[.t 4]⟩
theorem Cg:Good DY:=⟨Tryz.func51,by kernel_rfl⟩
theorem RL:DY.rs=[.t 4]:=rfl
noncomputable def Gp:=BO DY KJ fun c a b=>G c [a,b]
def IK:C:=lpC 0 (Gp .skip .skip)
def IL:C:=lpC 1 (Gp IK .skip)
def SF:C:=(Gp IK IL).1
theorem S2:Inn DY SF 115:=inn KJ Cg Tryz.ntmps51
def Q9:List (Nat×PT):=[(6,(pO [2] (.alt 0 (.alt 1 (pO [3,4,5] .done) (.alt 3 (pO [1,4,5] .done) .done)) (.alt 1 (.alt 0 (pO [3,4,5] .done) (.alt 3 (pO [0,4,5] .done) .done)) (.alt 3 (pO [0,1,4,5] .done) .done)))))]
noncomputable def CF:Cx:=⟨Tzp,52,Tryz.f52,83,[1,3,4,5,6,7],[],[.t 2]⟩
theorem QD:Good CF:=⟨Tryz.func52,by kernel_rfl⟩
theorem Z4:CF.rs=[.t 2]:=rfl
noncomputable def He:=BO CF Q9 fun c a b d=>G c [a,b,d]
def Fq:C:=lpC 0 (He .skip .skip .skip)
def Hy:C:=lpC 1 (He Fq .skip .skip)
def M5:C:=lpC 2 (He Fq Hy .skip)
def aK:C:=(He Fq Hy M5).1
theorem bB:Inn CF aK 83:=inn Q9 QD Tryz.ntmps52
noncomputable def NR:Cx:=⟨Tzp,53,Tryz.f53,53,[1,6,300029],[],[.t 2]⟩
theorem S0:Good NR:=⟨Tryz.func53,by kernel_rfl⟩
theorem YD:NR.rs=[.t 2]:=rfl
noncomputable def Sd:=BO NR [] fun c a b=>G c [a,b]
def TI:C:=lpC 0 (Sd .skip .skip)
def fX:C:=lpC 1 (Sd TI .skip)
def rV:C:=(Sd TI fX).1
theorem sB:Inn NR rV 53:=inn [] S0 Tryz.ntmps53
noncomputable def DH:Cx:=⟨Tzp,73,Tryz.f73,19,[],[],[.t 4]⟩
theorem E4:Good DH:=⟨Tryz.func73,by kernel_rfl⟩
theorem M2:DH.rs=[.t 4]:=rfl
noncomputable def HO:=BO DH [] fun c a=>G c [a]
def LP:C:=lpC 0 (HO .skip)
def Mj:C:=(HO LP).1
theorem Mu:Inn DH Mj 19:=inn [] E4 Tryz.ntmps73
noncomputable def Hi:Cx:=⟨Tzp,74,Tryz.f74,8,[300005],[],[.t 3]⟩
theorem QE:Good Hi:=⟨Tryz.func74,by kernel_rfl⟩
theorem Z5:Hi.rs=[.t 3]:=rfl
noncomputable def bJ:=BO Hi [] (G · [])
def aL:C:=(bJ).1
theorem bC:Inn Hi aL 8:=inn [] QE Tryz.ntmps74
noncomputable def Ec:Cx:=⟨Tzp,75,Tryz.f75,9,[],[],[.t 4]⟩
theorem Js:Good Ec:=⟨Tryz.func75,by kernel_rfl⟩
theorem RN:Ec.rs=[.t 4]:=rfl
noncomputable def Se:=BO Ec [] (G · [])
def SH:C:=(Se).1
theorem S4:Inn Ec SH 9:=inn [] Js Tryz.ntmps75
noncomputable def HA:Cx:=⟨Tzp,76,Tryz.f76,108,[300019,300026,300036,300039,300047,300051,300055,300064,300075,300083,300098,300101],[],[.t 6]⟩
theorem FT:Good HA:=⟨Tryz.func76,by kernel_rfl⟩
theorem Iw:HA.rs=[.t 6]:=rfl
noncomputable def Je:=BO HA [] fun c a b=>G c [a,b]
def L7:C:=lpC 0 (Je .skip .skip)
def U5:C:=lpC 1 (Je L7 .skip)
def ZC:C:=(Je L7 U5).1
theorem ZN:Inn HA ZC 108:=inn [] FT Tryz.ntmps76
noncomputable def G9:Cx:=⟨Tzp,77,Tryz.f77,21,[100018],[],[.t 4]⟩
theorem Ng:Good G9:=⟨Tryz.func77,by kernel_rfl⟩
theorem WV:G9.rs=[.t 4]:=rfl
noncomputable def Nu:=BO G9 [] fun c a=>G c [a]
def TJ:C:=lpC 0 (Nu .skip)
def Wr:C:=(Nu TJ).1
theorem X3:Inn G9 Wr 21:=inn [] Ng Tryz.ntmps77
noncomputable def FW:Cx:=⟨Tzp,78,Tryz.f78,17,[],[],[.t 4]⟩
theorem Ja:Good FW:=⟨Tryz.func78,by kernel_rfl⟩
theorem YF:FW.rs=[.t 4]:=rfl
noncomputable def Om:=BO FW [] fun c a=>G c [a]
def L6:C:=lpC 0 (Om .skip)
def ZA:C:=(Om L6).1
theorem ZM:Inn FW ZA 17:=inn [] Ja Tryz.ntmps78
noncomputable def Gz:Cx:=⟨Tzp,79,Tryz.f79,38,[],[],[.t 4,.t 5,.t 6]⟩
theorem EB:Good Gz:=⟨Tryz.func79,by kernel_rfl⟩
theorem YE:Gz.rs=[.t 4,.t 5,.t 6]:=rfl
noncomputable def Jd:=BO Gz [] fun c a b=>G c [a,b]
def L5:C:=lpC 0 (Jd .skip .skip)
def U4:C:=lpC 1 (Jd L5 .skip)
def Yz:C:=(Jd L5 U4).1
theorem Ok:Inn Gz Yz 38:=inn [] EB Tryz.ntmps79
def OK:List (Nat×PT):=[(15,(pO [0,1,2,3,4,5,6,7,9,8,10] .done))]
noncomputable def Ga:Cx:=⟨Tzp,80,Tryz.f80,79,[300022,300024,300032,300035,300047,300053],[],[.t 4]⟩
theorem C8:Good Ga:=⟨Tryz.func80,by kernel_rfl⟩
theorem WW:Ga.rs=[.t 4]:=rfl
noncomputable def Nv:=BO Ga OK fun c a=>G c [a]
def TK:C:=lpC 0 (Nv .skip)
def Ws:C:=(Nv TK).1
theorem X4:Inn Ga Ws 79:=inn OK C8 Tryz.ntmps80
noncomputable def Fv:Cx:=⟨Tzp,85,Tryz.f85,11,[3],[],[.t 4]⟩
theorem M6:Good Fv:=⟨Tryz.func85,by kernel_rfl⟩
theorem VL:Fv.rs=[.t 4]:=rfl
noncomputable def WM:=BO Fv [] (G · [])
def Vs:C:=(WM).1
theorem WC:Inn Fv Vs 11:=inn [] M6 Tryz.ntmps85
noncomputable def DZ:Cx:=⟨Tzp,86,Tryz.f86,103,[300014,300017,300026,300030,300037,300041,300045,300052,300059,300072,300079,300087,300096,300097,300102],[],[.c 6 (some 3),.t 7]⟩
theorem Bx:Good DZ:=⟨Tryz.func86,by kernel_rfl⟩
theorem RM:DZ.rs=[.c 6 (some 3),.t 7]:=rfl
noncomputable def Jx:=BO DZ [] fun c a=>G c [a]
def IM:C:=lpC 0 (Jx .skip)
def SG:C:=(Jx IM).1
theorem S3:Inn DZ SG 103:=inn [] Bx Tryz.ntmps86
noncomputable def Gb:Cx:=⟨Tzp,87,Tryz.f87,34,[],[],[]⟩
theorem Ij:Good Gb:=⟨Tryz.func87,by kernel_rfl⟩
theorem WX:Gb.rs=[]:=rfl
noncomputable def Nw:=BO Gb [] fun c a=>G c [a]
def TL:C:=lpC 0 (Nw .skip)
def Wt:C:=(Nw TL).1
theorem X5:Inn Gb Wt 34:=inn [] Ij Tryz.ntmps87
noncomputable def Gc:Cx:=⟨Tzp,88,Tryz.f88,36,[],[],[.t 5]⟩
theorem Ik:Good Gc:=⟨Tryz.func88,by kernel_rfl⟩
theorem WY:Gc.rs=[.t 5]:=rfl
noncomputable def Nx:=BO Gc [] fun c a=>G c [a]
def TM:C:=lpC 0 (Nx .skip)
def Wu:C:=(Nx TM).1
theorem X6:Inn Gc Wu 36:=inn [] Ik Tryz.ntmps88
def Vl:List (Nat×PT):=[(2,(pO [1,2,3] (.alt 0 (pO [4,5,6] .done) (.alt 4 (pO [0,5,6] .done) .done))))]
noncomputable def KZ:Cx:=⟨Tzp,89,Tryz.f89,23,[300008,300013,300020],[],[.t 6]⟩
theorem KT:Good KZ:=⟨Tryz.func89,by kernel_rfl⟩
theorem iQ:KZ.rs=[.t 6]:=rfl
noncomputable def lB:=BO KZ Vl (G · [])
def kP:C:=(lB).1
theorem kZ:Inn KZ kP 23:=inn Vl KT Tryz.ntmps89
noncomputable def Fw:Cx:=⟨Tzp,106,Tryz.f106,19,[],[],[.t 4]⟩
theorem IB:Good Fw:=⟨Tryz.func106,by kernel_rfl⟩
theorem VM:Fw.rs=[.t 4]:=rfl
noncomputable def Mb:=BO Fw [] fun c a=>G c [a]
def SI:C:=lpC 0 (Mb .skip)
def Vt:C:=(Mb SI).1
theorem WD:Inn Fw Vt 19:=inn [] IB Tryz.ntmps106
noncomputable def F3:Cx:=⟨Tzp,107,Tryz.f107,9,[],[],[.t 4]⟩
theorem Hb:Good F3:=⟨Tryz.func107,by kernel_rfl⟩
theorem UC:F3.rs=[.t 4]:=rfl
noncomputable def Ux:=BO F3 [] (G · [])
def U6:C:=(Ux).1
theorem Lk:Inn F3 U6 9:=inn [] Hb Tryz.ntmps107
noncomputable def Di:Cx:=⟨Tzp,118,Tryz.f118,19,[],[],[.t 4]⟩
theorem De:Good Di:=⟨Tryz.func118,by kernel_rfl⟩
theorem O5:Di.rs=[.t 4]:=rfl
noncomputable def IX:=BO Di [] fun c a=>G c [a]
def Mi:C:=lpC 0 (IX .skip)
def PH:C:=(IX Mi).1
theorem PU:Inn Di PH 19:=inn [] De Tryz.ntmps118
noncomputable def Ez:Cx:=⟨Tzp,119,Tryz.f119,8,[300005],[],[.t 3]⟩
theorem Kr:Good Ez:=⟨Tryz.func119,by kernel_rfl⟩
theorem Sp:Ez.rs=[.t 3]:=rfl
noncomputable def Ts:=BO Ez [] (G · [])
def TN:C:=(Ts).1
theorem Tf:Inn Ez TN 8:=inn [] Kr Tryz.ntmps119
noncomputable def Dh:Cx:=⟨Tzp,120,Tryz.f120,12,[],[],[.t 4]⟩
theorem IU:Good Dh:=⟨Tryz.func120,by kernel_rfl⟩
theorem O4:Dh.rs=[.t 4]:=rfl
noncomputable def PW:=BO Dh [] (G · [])
def PE:C:=(PW).1
theorem PS:Inn Dh PE 12:=inn [] IU Tryz.ntmps120
noncomputable def HB:Cx:=⟨Tzp,132,Tryz.f132,19,[],[],[.t 4]⟩
theorem Gx:Good HB:=⟨Tryz.func132,by kernel_rfl⟩
theorem YG:HB.rs=[.t 4]:=rfl
noncomputable def On:=BO HB [] fun c a=>G c [a]
def U8:C:=lpC 0 (On .skip)
def ZD:C:=(On U8).1
theorem Ol:Inn HB ZD 19:=inn [] Gx Tryz.ntmps132
noncomputable def EM:Cx:=⟨Tzp,147,Tryz.f147,32,[300027],[],[.t 6]⟩
theorem EI:Good EM:=⟨Tryz.func147,by kernel_rfl⟩
theorem Q2:EM.rs=[.t 6]:=rfl
noncomputable def J3:=BO EM [] fun c a=>G c [a]
def OT:C:=lpC 0 (J3 .skip)
def Qk:C:=(J3 OT).1
theorem Qw:Inn EM Qk 32:=inn [] EI Tryz.ntmps147
noncomputable def DM:Cx:=⟨Tzp,148,Tryz.f148,14,[300006,300010],[],[.t 4]⟩
theorem H5:Good DM:=⟨Tryz.func148,by kernel_rfl⟩
theorem HQ:DM.rs=[.t 4]:=rfl
noncomputable def Ny:=BO DM [] (G · [])
def N5:C:=(Ny).1
theorem No:Inn DM N5 14:=inn [] H5 Tryz.ntmps148
attribute [go_sem] p7 Zt lV e8 e9 iR VK RL Z4 YD M2 Z5 RN Iw WV YF YE WW VL RM WX WY iQ VM UC O5 Sp O4 YG Q2 HQ
end
end Go.Ab
namespace Go.Ab
open Go.Proofs
def bdD:List Str->DV
 |[]=>.G4
 |s::l=>.ptr [.str s,bdD l]
def bdL (sc:List Str):DV:=bdD ((sc.filter (fun s=>!(s==[]))).reverse)
theorem ALI (sc:List Str) (s:Str) (h:(s==[])=false):bdL (sc++[s])= .ptr [.str s,bdL sc]:=by
 have h1:List.filter (fun s=>!(s==[])) [s]=[s]:=by rw [List.filter_cons,h];rfl
 rw [bdL,Qh,h1,List.reverse_append];rfl
theorem zB (sc:List Str) (s:Str) (h:(s==[])=true):bdL (sc++[s])=bdL sc:=by
 have h1:List.filter (fun s=>!(s==[])) [s]=[]:=by rw [List.filter_cons,h];rfl
 rw [bdL,Qh,h1,BW];rfl
theorem AT1:∀(l:List Str) (s:Str) (σ:AI),AT Tzp 78 [.d (bdD l),.d (.str s)] σ (fun v σ'=>v= .d (.bool (l.contains s))/\σ'=σ):=by
 intro l s σ;refine ZM (by simp) ?_;rw [BK];(repeat' (refine wQ mxQ rfl ?_<;>try simp only [go_sem]));refine Run.At ?_
 have hx:∀l0:List Str,l0.contains s=l.contains s->Run FW (fun v σ'=>v= .d (.bool (l.contains s))/\σ'=σ) [.again L6,.blk 0,.code (.seq (.reg [⟨some 4,.mv (.c (.d (.bool false))),none⟩] [4]) .ret)] (put 0 (.d (bdD l0)) (put 1 (.d (.str s)) U)) E σ:=by
  intro l0
  induction l0 with
  |nil=>
   intro h;refine Run.again ?_;simp only [bdD];(repeat' ((first|refine wQ mxQ rfl ?_|refine Run.qP Ja ?_|fail)<;>try simp only [go_sem]));rw [<- h];rfl
  |cons x l0 ih=>
   intro h;refine Run.again ?_;simp only [bdD];rw [Qg] at h;cases hs:(x==s) with
   |true=>
    (repeat' ((first|refine wQ mxQ rfl ?_|refine Run.qP Ja ?_|fail)<;>try simp only [Bd,hs,go_sem]));rw [<- h,BEq.comm,hs];rfl
   |false=>
    rw [show (s==x)=(x==s) from BEq.comm,hs,EU] at h;(repeat' (refine wQ mxQ rfl ?_<;>try simp only [Bd,hs,go_sem]));exact ih h
 exact hx l rfl
theorem wR (sc:List Str) (s:Str) (hs:s≠[]) (σ:AI):AT Tzp 78 [.d (bdL sc),.d (.str s)] σ (fun v σ'=>v= .d (.bool (sc.contains s))/\σ'=σ):=
 (AT1 _ s σ).mono (by
   rintro v σ' ⟨rfl,rfl⟩;refine ⟨?_,rfl⟩;congr 2;rw [An];simp [hs])
theorem Yn (sc ns:List Str) (σ:AI):AT Tzp 77 [.d (bdL sc),.d (.sl (ns.map BF))] σ (fun v σ'=>v= .d (bdL (sc++ns))/\σ'=σ):=by
 refine X3 (by simp) ?_;rw [BK];refine Run.slot 1 (fun hb0=>?_);simp only [CR,C4,if_false,if_true,AV.DW,AA] at hb0;(repeat' (refine wQ mxQ rfl ?_<;>try simp only [AA,go_sem]));refine Run.At ?_;refine Run.Au ((fun (a7:AV) (a8:AV)=>fun (i:Nat)=>put 0 (.d (bdL (sc++ns.take i))) (put 7 a7 (put 8 a8 (put 9 (.d (.int .i64 i)) U)))) _ _) (fun _=>E) (fun _=>σ) (fun i=>i<=ns.length) (fun i=>ns.length - i) ?_ 0 (by simp)|>(fun h=>by simpa using h)
 rintro i hi ih;by_cases hlt:i < ns.length
 . obtain ⟨x,hx⟩:=Ai hlt;have he:=Av (enc:=BF) hx;simp only [BF] at he;have hw1:IntKind.i64.wrap ((i:Int)+1)=((i+1:Nat):Int):=by rw [Ax (by omega) (by omega)];omega
   have hi1:=ih (i+1) (by omega) (by omega);simp only at hi1;rw [Aa hx,<- Az] at hi1;cases hs:(x==[]) with
   |true=>
    rw [zB _ _ hs] at hi1;(repeat' (refine wQ mxQ rfl ?_<;>try simp only [Ag hlt,he,hw1,DA,hs,go_sem]));exact hi1
   |false=>
    rw [ALI _ _ hs] at hi1;(repeat' (refine wQ mxQ rfl ?_<;>try simp only [Ag hlt,he,hw1,DA,hs,go_sem]));exact hi1
 . (repeat' ((first|refine wQ mxQ rfl ?_|refine Run.qP Ng ?_|fail)<;>try simp only [B5 hlt,go_sem]));rw [AM (by omega)]
theorem Jj {fid:FuncId} {caps:List AV} (hb:Ca Tzp fid=true) (hcp:caps.all AV.BE=true) (p:FE->Bool) (l:List FE) (σ:AI) (hf:∀x∈l,AT Tzp fid ((feA x)::caps) σ (fun v σ'=>v= .d (.bool (p x))/\σ'=σ)):
 AT Tzp 73 [.d (.sl (l.map FE.enc)),.fn fid [] caps] σ (fun v σ'=>v= .d (.int .i64 (Fi (l.findIdx? p)))/\σ'=σ):=by
 refine Mu (by simp) ?_;rw [BK];refine Run.slot 0 (fun hb0=>?_);simp only [CR,if_true,AV.DW,AA] at hb0;(repeat' (refine wQ mxQ rfl ?_<;>try simp only [AA,go_sem]));refine Run.At ?_;refine Run.Au ((fun (a0:AV) (a1:AV) (a7:AV)=>fun (i:Nat)=>put 0 a0 (put 1 a1 (put 7 a7 (put 8 (.d (.int .i64 i)) U)))) _ _ _) (fun _=>E) (fun _=>σ) (fun i=>i<=l.length/\∀x∈l.take i,p x=false) (fun i=>l.length - i) ?_ 0 ⟨by simp,by simp⟩;rintro i ⟨hi,hno⟩ ih;by_cases hlt:i < l.length
 . obtain ⟨x,hx⟩:=Ai hlt;have he:=Av (enc:=FE.enc) hx;have hw1:IntKind.i64.wrap ((i:Int)+1)=((i+1:Nat):Int):=by rw [Ax (by omega) (by omega)];omega
   have hc:=hf x (AE hx);obtain ⟨nm,ps,o,n,u,ns,ks,al⟩:=x;simp only [FE.enc,Ex.A2,feA,AD,AJ] at he hc;cases hp:p (⟨nm,ps,.mk o n u ns ks al⟩) with
   |true=>
    rw [hp] at hc;(repeat' ((first|refine wQ mxQ rfl ?_|refine Run.qP E4 ?_|(refine ⟨fid,[],caps,rfl,hb,AH.det hc ?_ (by simp [hcp,FI,D9])⟩)|fail)<;>try simp only [Ag hlt,he,hw1,go_sem]));rw [D3 hno hx hp];rfl
   |false=>
    rw [hp] at hc;(repeat' ((first|refine wQ mxQ rfl ?_|(refine ⟨fid,[],caps,rfl,hb,AH.det hc ?_ (by simp [hcp,FI,D9])⟩)|fail)<;>try simp only [Ag hlt,he,hw1,go_sem]));exact ih (i+1) ⟨by omega,F2 hno hx hp⟩ (by omega)
 . (repeat' ((first|refine wQ mxQ rfl ?_|refine Run.qP E4 ?_|fail)<;>try simp only [B5 hlt,go_sem]));rw [AM (by omega)] at hno;rw [D4 hno];rfl
theorem Ph (l:List Str) (s:Str):l.findIdx? (fun x=>x==s)=C9 l s:=by
 induction l with
 |nil=>rfl
 |cons x l ih=>
  rw [List.findIdx?_cons,C9];split
  . rfl
  . rw [ih]
theorem jQ (fs:List FE) (s:Str):fs.findIdx? (fun x=>x.name==s)=C9 (Bo fs) s:=by
 rw [<- Ph,Bo,List.findIdx?_map];rfl
theorem r9 (f:FE) (s:Str) (j:Nat) (σ:AI) (hj:σ.blk j=some [.d (.str s)]):AT Tzp 74 [feA f,.gp j 0] σ (fun v σ'=>v= .d (.bool (f.name==s))/\σ'=σ):=by
 refine bC (by simp) ?_;rw [BK];obtain ⟨nm,ps,o,n,u,ns,ks,al⟩:=f;simp only [FE.enc,Ex.A2,feA,AD,AJ];(repeat' ((first|refine wQ mxQ rfl ?_|refine Run.qP QE ?_|fail)<;>try simp only [hj,Bd,go_sem]))
theorem XS (p:Pg) (s:Str) (σ:AI):AT Tzp 46 [pgA p,.d (.str s)] σ (fun v σ'=>v= .d (.int .i64 (Fi (C9 (Bo p.Ev) s)))/\σ'=σ):=by
 refine gV (by simp) ?_;rw [BK];obtain ⟨ds,fs⟩:=p;simp only [Pg.enc,pgA,AD,AJ];(repeat' (refine wQ mxQ rfl ?_<;>try simp only [go_sem]));intro j hj;have hle:=CQ (cs:=[AV.d (.str s)]) hj;have hc:=Jj (fid:=74) (caps:=[.gp j 0]) (by kernel_rfl) rfl (fun x=>x.name==s) fs (σ.AP j [.d (.str s)]) (fun x _=>r9 x s j _ (by simp only [AK,if_true]));rw [jQ] at hc;(repeat' ((first|refine wQ mxQ rfl ?_|(refine Run.Bf Tb (σ2:=σ) hle ?_)|refine AH.det (hc) ?_|fail)<;>try simp only [go_sem]))
theorem V6 (l:List Str) (s:Str) (σ:AI):AT Tzp 106 [.d (.sl (l.map BF)),.d (.str s)] σ (fun v σ'=>v= .d (.int .i64 (Fi (C9 l s)))/\σ'=σ):=by
 refine WD (by simp) ?_;rw [BK,<- Ph];refine Run.slot 0 (fun hb0=>?_);simp only [CR,if_true,AV.DW,AA] at hb0;(repeat' (refine wQ mxQ rfl ?_<;>try simp only [AA,go_sem]));refine Run.At ?_;refine Run.Au ((fun (a0:AV) (a1:AV) (a7:AV)=>fun (i:Nat)=>put 0 a0 (put 1 a1 (put 7 a7 (put 8 (.d (.int .i64 i)) U)))) _ _ _) (fun _=>E) (fun _=>σ) (fun i=>i<=l.length/\∀x∈l.take i,(x==s)=false) (fun i=>l.length - i) ?_ 0 ⟨by simp,by simp⟩;rintro i ⟨hi,hno⟩ ih;by_cases hlt:i < l.length
 . obtain ⟨x,hx⟩:=Ai hlt;have he:=Av (enc:=BF) hx;simp only [BF] at he;have hw1:IntKind.i64.wrap ((i:Int)+1)=((i+1:Nat):Int):=by rw [Ax (by omega) (by omega)];omega
   cases hp:(x==s) with
   |true=>
    have hp':(s==x)=true:=by rw [BEq.comm];exact hp
    (repeat' ((first|refine wQ mxQ rfl ?_|refine Run.qP IB ?_|fail)<;>try simp only [Ag hlt,he,hw1,Bd,hp',go_sem]));rw [D3 (p:=fun x=>x==s) hno hx hp];rfl
   |false=>
    have hp':(s==x)=false:=by rw [BEq.comm];exact hp
    (repeat' (refine wQ mxQ rfl ?_<;>try simp only [Ag hlt,he,hw1,Bd,hp',go_sem]));exact ih (i+1) ⟨by omega,F2 (p:=fun x=>x==s) hno hx hp⟩ (by omega)
 . (repeat' ((first|refine wQ mxQ rfl ?_|refine Run.qP IB ?_|fail)<;>try simp only [B5 hlt,go_sem]));rw [AM (by omega)] at hno;rw [D4 (p:=fun x=>x==s) hno];rfl
theorem Io (l:List Str) (s:Str):(C9 l s).isSome=l.contains s:=by
 induction l with
 |nil=>rfl
 |cons x l ih=>
  rw [C9,Qg];cases h:(x==s) with
  |true=>rw [BEq.comm,h];rfl
  |false=>rw [show (s==x)=(x==s) from BEq.comm,h];simp [ih]
theorem aB (l:List Str) (s:Str) (σ:AI):AT Tzp 75 [.d (.sl (l.map BF)),.d (.str s)] σ (fun v σ'=>v= .d (.bool (l.contains s))/\σ'=σ):=by
 refine S4 (by simp) ?_;rw [BK];(repeat' ((first|refine wQ mxQ rfl ?_|refine Run.qP Js ?_|refine AH.det (V6 l s σ) ?_|fail)<;>try simp only [Rf,Io,go_sem]))
theorem YX (l:List Str) (x:Str):CP (l++[x])=(CP l||(!(x==[])&&l.contains x)):=by
 induction l with
 |nil=>
  have:CP [x]=false:=by rw [CP,CP];simp
  rw [As,this];simp [CP]
 |cons y l ih=>
  rw [AZ,CP,ih,CP,Qg]
  have h1:(l++[x]).contains y=(l.contains y||(x==y)):=by
   rw [An];simp only [Ak,A0,A6,DI,beq_iff_eq];constructor
   . rintro (h|h)
     . exact .inl h
     . exact .inr h.symm
   . rintro (h|h)
     . exact .inl h
     . exact .inr h.symm
  rw [h1];by_cases hxy:x=y
  . subst hxy;have h2:(x==x)=true:=by simp
    rw [h2];generalize (x==([]:Str))=b1;generalize CP l=b2;generalize l.contains x=b3;cases b1<;>cases b2<;>cases b3<;>rfl
  . have h2:(x==y)=false:=by simpa using hxy
    rw [h2];generalize (x==([]:Str))=b1;generalize (y==([]:Str))=b4;generalize CP l=b2;generalize l.contains x=b3;generalize l.contains y=b5;cases b1<;>cases b2<;>cases b3<;>cases b4<;>cases b5<;>rfl
theorem kD {l:List Str} {i:Nat} (h:CP (l.take i)=true):CP l=true:=by
 rw [<- Ad i l];generalize l.drop i=m;generalize l.take i=k at h
 induction m generalizing k with
 |nil=>simpa using h
 |cons x m ih=>
  rw [show k++x::m=(k++[x])++m by simp];exact ih (k++[x]) (by rw [YX,h];rfl)
theorem AON {l:List Str} {i:Nat} (h:i<=l.length):yF (l.map BF) none (some (.d (.int .i64 (i:Int)))) none 1=some (.d (.sl ((l.take i).map BF))):=by
 simp [yF,fS,Xs,h,List.map_take]
theorem Rp (l:List Str) (σ:AI):AT Tzp 47 [.d (.sl (l.map BF))] σ (fun v σ'=>v= .d (.bool (CP l))/\σ'=σ):=by
 refine gW (by simp) ?_;rw [Bq];refine Run.slot 0 (fun hb0=>?_);simp only [CR,if_true,AV.DW,AA] at hb0;(repeat' (refine wQ mxQ rfl ?_<;>try simp only [AA,go_sem]));refine Run.At ?_;refine Run.Au ((fun (a0:AV) (a5:AV) (a6:AV)=>fun (i:Nat)=>put 0 a0 (put 5 a5 (put 6 a6 (put 7 (.d (.int .i64 i)) U)))) _ _ _) (fun _=>E) (fun _=>σ) (fun i=>i<=l.length/\CP (l.take i)=false) (fun i=>l.length - i) ?_ 0 ⟨by simp,by simp [CP]⟩;rintro i ⟨hi,hno⟩ ih;by_cases hlt:i < l.length
 . obtain ⟨x,hx⟩:=Ai hlt;have he:=Av (enc:=BF) hx;simp only [BF] at he;have hw1:IntKind.i64.wrap ((i:Int)+1)=((i+1:Nat):Int):=by rw [Ax (by omega) (by omega)];omega
   have hs:=AON hi;have hsn:=YX (l.take i) x;rw [<- Aa hx,hno,EU] at hsn;cases h0:(x==[]) with
   |true=>
    rw [h0] at hsn;(repeat' (refine wQ mxQ rfl ?_<;>try simp only [Ag hlt,he,hw1,DA,h0,go_sem]));exact ih (i+1) ⟨by omega,by simpa using hsn⟩ (by omega)
   |false=>
    rw [h0] at hsn;have hc:=aB (l.take i) x σ;cases hct:(l.take i).contains x with
    |true=>
     rw [hct] at hc hsn;(repeat' ((first|refine wQ mxQ rfl ?_|refine Run.qP Ms ?_|refine AH.det (hc) ?_|fail)<;>try simp only [Ag hlt,he,hw1,DA,h0,hs,go_sem]));rw [kD (i:=i+1) (by simpa using hsn)]
    |false=>
     rw [hct] at hc hsn;(repeat' ((first|refine wQ mxQ rfl ?_|refine AH.det (hc) ?_|fail)<;>try simp only [Ag hlt,he,hw1,DA,h0,hs,go_sem]));exact ih (i+1) ⟨by omega,by simpa using hsn⟩ (by omega)
 . (repeat' ((first|refine wQ mxQ rfl ?_|refine Run.qP Ms ?_|fail)<;>try simp only [B5 hlt,go_sem]));rw [AM (by omega)] at hno;rw [hno]
end Go.Ab
namespace Go.Ab
open Go.Proofs
def Jg {S X:Type} (vis:S->X->Int×S):List X->S->Option (Nat×Int)×S
 |[],s=>(none,s)
 |x::l,s=>if (vis s x).1=0 then (((Jg vis l (vis s x).2).1.map fun y=>(y.1+1,y.2)),(Jg vis l (vis s x).2).2) else (some (0,(vis s x).1),(vis s x).2)
theorem qE {S X:Type} {vis:S->X->Int×S}:∀(l m:List X) (s s':S),Jg vis l s=(none,s')->Jg vis (l++m) s=(((Jg vis m s').1.map fun y=>(y.1+l.length,y.2)),(Jg vis m s').2)
 |[],m,s,s',h=>by
  simp only [Jg,Bb,true_and] at h;subst h;simp
 |x::l,m,s,s',h=>by
  simp only [Jg] at h;split at h
  . rename_i h0;simp only [Bb,Option.map_eq_none_iff] at h;have:=qE l m (vis s x).2 s' (Prod.ext h.1 h.2);rw [AZ,Jg,if_pos h0,this];simp only [Option.map_map,A1,Bb,and_true];congr 1
  . simp at h
theorem vE {S X:Type} {vis:S->X->Int×S}:∀(l m:List X) (s s':S) (r:Nat×Int),Jg vis l s=(some r,s')->Jg vis (l++m) s=(some r,s')
 |[],m,s,s',r,h=>by simp [Jg] at h
 |x::l,m,s,s',r,h=>by
  simp only [Jg] at h;split at h
  . rename_i h0;simp only [Bb,AN] at h;obtain ⟨⟨y,hy,rfl⟩,h2⟩:=h;have:=vE l m (vis s x).2 s' y (Prod.ext hy h2);rw [AZ,Jg,if_pos h0,this];rfl
  . rename_i h0;rw [AZ,Jg,if_neg h0];exact h
theorem mH {S X:Type} {vis:S->X->Int×S}:∀(l:List X) (s s':S) (r:Nat×Int),Jg vis l s=(some r,s')->r.2≠0
 |[],s,s',r,h=>by simp [Jg] at h
 |x::l,s,s',r,h=>by
  simp only [Jg] at h;split at h
  . simp only [Bb,AN] at h;obtain ⟨⟨y,hy,rfl⟩,h2⟩:=h;exact mH l (vis s x).2 s' y (Prod.ext hy h2)
  . rename_i h0;simp only [Bb,AL] at h;rw [<- h.1];exact h0
theorem bX (o:Int) (n:Str) (ns sc:List Str) (k:Ex):∀(l:List Ex) (i:Nat),Bn o n ns sc i (l++[k])=Bn o n ns sc i l++Bj k (Fa o n ns sc (i+l.length))
 |[],i=>by simp [Bn]
 |x::l,i=>by
  rw [AZ,Bn,Bn,bX o n ns sc k l (i+1),Az,A1,show i+1+l.length=i+(l.length+1) by omega]
theorem iK (o:Int) (n:Str) (ns sc:List Str) (m:List Ex):∀(l:List Ex) (i:Nat),Bn o n ns sc i (l++m)=Bn o n ns sc i l++Bn o n ns sc (i+l.length) m
 |[],i=>by simp [Bn]
 |x::l,i=>by
  rw [AZ,Bn,Bn,iK o n ns sc m l (i+1),Az,A1,show i+1+l.length=i+(l.length+1) by omega]
theorem iJ (sc:List Str) (m:List Al):∀l:List Al,CD sc (l++m)=CD sc l++CD sc m
 |[]=>by simp [CD]
 |x::l=>by rw [AZ,CD,CD,iJ sc m l,Az]
mutual
theorem QZ:∀(e:Ex) (sc:List Str),(Bj e sc).length=e.size
 | .mk o n u ns ks al,sc=>by rw [Bj,A1,AX,HP o n ns sc 0 ks,Kx sc al,Ex.size];omega
theorem HP (o:Int) (n:Str) (ns sc:List Str):∀(i:Nat) (l:List Ex),(Bn o n ns sc i l).length=Ex.AU l
 |_,[]=>by simp [Bn,Ex.AU]
 |i,k::l=>by rw [Bn,AX,QZ k _,HP o n ns sc (i+1) l,Ex.AU]
theorem AN1:∀(a:Al) (sc:List Str),(VI a sc).length=a.size
 | .mk c vs b,sc=>by rw [VI,QZ b _,Al.size]
theorem Kx (sc:List Str):∀l:List Al,(CD sc l).length=Al.AU l
 |[]=>by simp [CD,Al.AU]
 |a::l=>by rw [CD,AX,AN1 a sc,Kx sc l,Al.AU]
end
section
variable {S:Type} (vis:S->Ex×List Str->Int×S) (hS:S->AI) (j:Nat) (fv:AV)
def WH (n:Nat) (s:S):AI:=(hS s).AP j [.d (.int .i64 n),fv]
def WQ (l:List (Ex×List Str)) (n:Nat) (s:S) (v:AV) (σ':AI):Prop:=
 match Jg vis l s with
 |(none,s')=>v= .d (.int .i64 0)/\σ'=WH hS j fv (n+l.length - 1) s'
 |(some (k,c),s')=>c≠0/\v= .d (.int .i64 c)/\σ'=WH hS j fv (n+k) s'
def AGD (fid:FuncId) (first caps:List AV) (l:List (Ex×List Str)):Prop:=
 ∀x∈l,∀(s:S) (n:Nat),AT Tzp fid (first++[exA x.1,.d (bdL x.2)]++caps) (WH hS j fv n s) (fun v σ'=>v= .d (.int .i64 (vis s x).1)/\σ'=WH hS j fv n (vis s x).2)
end
theorem AT4 (o:Int) (n:Str) (ns sc:List Str) (i:Nat):bdL (Fa o n ns sc i)=bdL (if (o=7\/o=17)/\i=1 then sc++[n] else if (o=8/\i=1)\/o=11 then sc++ns else sc):=by
 unfold Fa;split
 . split
   . rename_i h;rw [zB _ _ (by simp [h])]
   . rfl
 . rfl
theorem AR8 {S:Type} (vis:S->Ex×List Str->Int×S) (hS:S->AI) (j:Nat) (fid:FuncId) (first caps:List AV) (hb:Ca Tzp fid=true) (hfi:first.all AV.BE=true) (hca:caps.all AV.BE=true):
 ∀(N:Nat) (e:Ex) (sc:List Str) (n:Nat) (s:S),e.size<=N->n+e.size<=1000000000->AGD vis hS j (.fn fid first caps) fid first caps (Bj e sc)->
 AT Tzp 76 [.gp j 0,exA e,.d (bdL sc)] (WH hS j (.fn fid first caps) n s) (WQ vis hS j (.fn fid first caps) (Bj e sc) n s):=by
 intro N
 induction N with
 |zero=>intro e sc n s h;have:=Ex.size_pos e;omega
 |succ N ihN=>
 intro e sc n s hN hsz hvis;have hcall:=hvis (e,sc) (by cases e;rw [Bj];exact AS ..) s n;obtain ⟨o,nm,u,ns,ks,al⟩:=e;simp only [Ex.size] at hN hsz;have hkl:=Ex.Bl ks;have hal:=Al.Bl al;refine ZN (by simp) ?_;rw [Dm,exA,Ex.A2];simp only [exA,Ex.A2,AD,AJ] at hcall;generalize hV:WQ vis hS j (.fn fid first caps) (Bj (.mk o nm u ns ks al) sc) n s=V
 have hnl:(first++[AV.agg [.d (.int .i64 o),.d (.str nm),.d (.int .i64 u),.d (.sl (ns.map BF)),.d (.sl (ks.map Ex.enc)),.d (.sl (al.map Al.enc))],.d (bdL sc)]++caps).all AV.BE=true:=by
  simp [hfi,hca,FI,D9]
 have hblk:∀n s,(WH hS j (.fn fid first caps) n s).blk j=some [.d (.int .i64 n),.fn fid first caps]:=fun n s=>by simp only [WH,AK,if_true]
 cases hv:decide ((vis s (.mk o nm u ns ks al,sc)).1=0) with
 |false=>
  have hv':(vis s (.mk o nm u ns ks al,sc)).1≠0:=by simpa using hv
  have hne:((vis s (.mk o nm u ns ks al,sc)).1 != 0)=true:=by simpa using hv'
  (repeat' ((first|refine wQ mxQ rfl ?_|refine Run.qR FT ?_|(refine ⟨fid,first,caps,rfl,hb,AH.mk hnl hcall ?_⟩;rintro _ _ ⟨rfl,rfl⟩)|fail)<;>try simp only [hblk,hne,go_sem]));rw [<- hV,WQ,Bj,Jg,if_neg hv'];exact ⟨hv',rfl,rfl⟩
 |true=>
 have hv':(vis s (.mk o nm u ns ks al,sc)).1=0:=by simpa using hv
 have hne:((vis s (.mk o nm u ns ks al,sc)).1 != 0)=false:=by simp [hv']
 (repeat' ((first|refine wQ mxQ rfl ?_|(refine ⟨fid,first,caps,rfl,hb,AH.mk hnl hcall ?_⟩;rintro _ _ ⟨rfl,rfl⟩)|fail)<;>try simp only [hblk,hne,AA,go_sem]));have hr0:Jg vis [((.mk o nm u ns ks al:Ex),sc)] s=(none,(vis s (.mk o nm u ns ks al,sc)).2):=by simp [Jg,hv']
 generalize (vis s (.mk o nm u ns ks al,sc)).2=s0 at hr0 ⊢;clear hcall hnl hv hv' hne
 have hfail:∀(l m:List (Ex×List Str)) (k:Nat) (c:Int) (s':S),Bj (.mk o nm u ns ks al) sc=l++m->c≠0->Jg vis l s=(some (k,c),s')->V (.d (.int .i64 c)) (WH hS j (.fn fid first caps) (n+k) s'):=fun l m k c s' he hc hr=>by
  rw [<- hV,WQ,he,vE l m s s' (k,c) hr];exact ⟨hc,rfl,rfl⟩
 have hpre:Bj (.mk o nm u ns ks al) sc=((.mk o nm u ns ks al:Ex),sc)::(Bn o nm ns sc 0 ks++CD sc al):=by rw [Bj]
 refine Run.At ?_
 refine Run.Au ((fun (a0:AV) (a2:AV) (a4:AV) (a26:AV) (a27:AV)=>fun (y:Nat×S)=>put 0 a0 (put 2 a2 (put 4 a4 (put 26 a26 (put 27 a27 (put 28 (.d (.int .i64 y.1)) U)))))) _ _ _ _ _) (fun _=>Am 4 [.d (.int .i64 o),.d (.str nm),.d (.int .i64 u),.d (.sl (ns.map BF)),.d (.sl (ks.map Ex.enc)),.d (.sl (al.map Al.enc))] E) (fun y=>WH hS j (.fn fid first caps) (n+Ex.AU (ks.take y.1)) y.2)
  (fun y=>y.1<=ks.length/\Jg vis (((.mk o nm u ns ks al:Ex),sc)::Bn o nm ns sc 0 (ks.take y.1)) s=(none,y.2)) (fun y=>ks.length - y.1) ?_ (0,s0) ⟨by simp,by simpa [Bn] using hr0⟩
 rintro ⟨i,t⟩ ⟨hi,hok⟩ ih;simp only at hi hok;by_cases hlt:i < ks.length
 . obtain ⟨x,hx⟩:=Ai hlt;have he:=Av (enc:=Ex.enc) hx;have hw1:IntKind.i64.wrap ((i:Int)+1)=((i+1:Nat):Int):=by rw [Ax (by omega) (by omega)];omega
   have hxs:=Ex.Fj (AE hx)
   have hsum:Ex.AU (ks.take i)+x.size+Ex.AU (ks.drop (i+1))=Ex.AU ks:=by
    conv=>rhs;rw [<- Ad i ks,Ex.Cb,Bu hx,Ex.AU]
    omega
   have hst:Ex.AU (ks.take (i+1))=Ex.AU (ks.take i)+x.size:=by rw [Aa hx,Ex.Cb];simp [Ex.AU]
   have hwn:IntKind.i64.wrap (((n+Ex.AU (ks.take i):Nat):Int)+1)=((n+Ex.AU (ks.take i)+1:Nat):Int):=A4 (by omega)
   have hks:Bn o nm ns sc 0 (ks.take (i+1))=Bn o nm ns sc 0 (ks.take i)++Bj x (Fa o nm ns sc i):=by
    rw [Aa hx,bX,B4,Dd (by omega),BJ]
   have hall:Bj (.mk o nm u ns ks al) sc=(((.mk o nm u ns ks al:Ex),sc)::Bn o nm ns sc 0 (ks.take (i+1)))++(Bn o nm ns sc (i+1) (ks.drop (i+1))++CD sc al):=by
    rw [hpre,AZ,<- Az];congr 2
    conv=>lhs;rw [<- Ad (i+1) ks,iK,B4,Dd (by omega),BJ]
   have hlen:(((.mk o nm u ns ks al:Ex),sc)::Bn o nm ns sc 0 (ks.take i)).length=1+Ex.AU (ks.take i):=by
    rw [A1,HP];omega
   have happ:=qE (vis:=vis) _ (Bj x (Fa o nm ns sc i)) s t hok;rw [AZ,<- hks,hlen] at happ
   have hvx:AGD vis hS j (.fn fid first caps) fid first caps (Bj x (Fa o nm ns sc i)):=fun y hy=>hvis y (by
    rw [hall,A0,Ar,hks,A0];exact .inl (.inr (.inr hy)))
   have hc:=ihN x (Fa o nm ns sc i) (n+Ex.AU (ks.take i)+1) t (by omega) (by omega) hvx;have hbd:=AT4 o nm ns sc i;generalize hsi:Fa o nm ns sc i=sci at hc happ hbd hvx hks;have hset:∀m:Nat,(WH hS j (.fn fid first caps) (n+Ex.AU (ks.take i)) t).AP j [.d (.int .i64 (m:Int)),.fn fid first caps]=WH hS j (.fn fid first caps) m t:=fun m=>by simp only [WH,Hg]
   rcases hrx:Jg vis (Bj x sci) t with ⟨_|⟨k,c⟩,t'⟩
   . have hc:AT Tzp 76 [.gp j 0,exA x,.d (bdL sci)] (WH hS j (.fn fid first caps) (n+Ex.AU (ks.take i)+1) t) (fun v σ'=>v= .d (.int .i64 0)/\σ'=WH hS j (.fn fid first caps) (n+Ex.AU (ks.take (i+1))) t'):=hc.mono (by
      intro v σ' h;simp only [WQ,hrx] at h;rw [QZ] at h;obtain ⟨rfl,rfl⟩:=h;have:=Ex.size_pos x;refine ⟨rfl,?_⟩;congr 1;omega)
     rw [hrx] at happ;simp only [Option.map_none] at happ;obtain ⟨xo,xn,xu,xs,xk,xa⟩:=x;simp only [Ex.A2,exA,AD,AJ] at he hc;(repeat' (first|refine Run.cb rfl ?_|((first|refine rgQ mxQ ?_|refine cdQ ?_)<;>try simp only [Ag hlt,he,go_sem])|fail));refine Run.block ?_;(repeat' (first|refine Run.cb rfl ?_|((first|refine rgQ mxQ ?_|refine cdQ ?_)<;>try simp only [Ag hlt,he,go_sem])|fail));refine Run.AET (α:=Unit) [0,2,4,9,10,26,27,28] (fun _=>put 0 (.gp j 0) (put 2 (.d (bdL sc)) (put 4 (.lp 4 0) (put 9 (.lp 9 0) (put 10 (.d (bdL sci)) (put 26 (.d (.sl (ks.map Ex.enc))) (put 27 (.d (.int .i64 ks.length)) (put 28 (.d (.int .i64 i)) U)))))))) (Am 4 [.d (.int .i64 o),.d (.str nm),.d (.int .i64 u),.d (.sl (ns.map BF)),.d (.sl (ks.map Ex.enc)),.d (.sl (al.map Al.enc))] (Am 9 [.d (.int .i64 xo),.d (.str xn),.d (.int .i64 xu),.d (.sl (xs.map BF)),.d (.sl (xk.map Ex.enc)),.d (.sl (xa.map Al.enc))] E)) (WH hS j (.fn fid first caps) (n+Ex.AU (ks.take i)) t) (fun _=>True) ?_ ?_
     . rintro ⟨⟩ _;(repeat' (first|((first|refine wQ mxQ rfl ?_|(refine AH.mk rfl hc ?_;rintro _ _ ⟨rfl,rfl⟩)|fail)<;>try simp only [hblk,hwn,hset,hw1,go_sem])|(refine ⟨fun h=>?_,fun h=>?_⟩<;>first|(cases h;done)|try simp only [h])|fail));exact ih (i+1,t') ⟨by simp only;omega,happ⟩ (by simp only;omega)
     . intro hrest;clear hc;have hwi:((i:Int)==1)=decide (i=1):=by rw [An];simp only [beq_iff_eq,decide_eq_true_eq];omega
       have hws1:=Yn sc ns (WH hS j (.fn fid first caps) (n+Ex.AU (ks.take i)) t);have hws2:=Yn sc [nm] (WH hS j (.fn fid first caps) (n+Ex.AU (ks.take i)) t);simp only [AD,AJ,BF] at hws2;have key:=fun (F':Fm) (L':Lm) h1 h2=>hrest F' L' () h1 h2 trivial;clear hrest;by_cases h11:o=11
       . subst h11;rw [if_neg (by omega),if_pos (.inr rfl)] at hbd;rw [<- hbd] at hws1;(repeat' (first|(refine key _ _ (by simp only [go_sem]) (by simp only [go_sem]))|refine ctQ rfl ?_|((first|refine rgQ mxQ ?_|refine cdQ ?_|refine AH.det (hws1) ?_)<;>try simp only [AY,go_sem])|fail))
       by_cases h8:o=8/\i=1
       . obtain ⟨rfl,rfl⟩:=h8;rw [if_neg (by omega),if_pos (.inl ⟨rfl,rfl⟩)] at hbd;rw [<- hbd] at hws1;(repeat' (first|(refine key _ _ (by simp only [go_sem]) (by simp only [go_sem]))|refine ctQ rfl ?_|((first|refine rgQ mxQ ?_|refine cdQ ?_|refine AH.det (hws1) ?_)<;>try simp only [AY,hwi,go_sem])|fail))
       by_cases h7:(o=7\/o=17)/\i=1
       . rw [if_pos h7] at hbd;rw [<- hbd] at hws2;obtain ⟨h7,rfl⟩:=h7;rcases h7 with rfl|rfl
         all_goals (repeat' (first|(refine key _ _ (by simp only [go_sem]) (by simp only [go_sem]))|refine ctQ rfl ?_|((first|refine rgQ mxQ ?_|refine cdQ ?_|refine AH.det (hws2) ?_)<;>try simp only [AY,hwi,go_sem])|fail))
       . rw [if_neg h7,if_neg (by omega)] at hbd
         have hA:(o==8&&decide (i=1))=false:=by
          rw [C5];intro h;exact h8 (by simpa using h)
         have hB:((o==7||o==17)&&decide (i=1))=false:=by
          rw [C5];intro h;exact h7 (by simpa using h)
         (repeat' (first|(refine key _ _ (by simp only [EJ,GP,GQ,↓Ds,↓G5,↓Dt,go_sem,hbd]) (by simp only [EJ,GP,GQ,↓Ds,↓G5,↓Dt,go_sem]))|refine ctQ rfl ?_|(refine cH (by first|exact GV.t|exact GV.f|exact GV.st|exact GV.sf) ⟨?_,fun h=>?_,?_⟩;rotate_left;(focus ((try simp only [AO,OM] at h);simp only [Cp h11,hwi,hA,hB,go_sem];first|exact Is.mk|exact Is.pv (by simp only [h,Zv,↓Ds,↓G5,↓Dt,Cp h11,hwi,hA,hB,go_sem];rfl)));(try simp only [EJ,GP,GQ,↓Ds,↓G5,↓Dt,Cp h11,hwi,hA,hB,Iw,go_sem]))|((first|refine rgQ mxQ ?_|refine cdQ ?_)<;>try simp only [EJ,GP,GQ,↓Ds,↓G5,↓Dt,Cp h11,hwi,hA,hB,go_sem])|fail))
   . have hc:AT Tzp 76 [.gp j 0,exA x,.d (bdL sci)] (WH hS j (.fn fid first caps) (n+Ex.AU (ks.take i)+1) t) (fun v σ'=>v= .d (.int .i64 c)/\σ'=WH hS j (.fn fid first caps) (n+(k+(1+Ex.AU (ks.take i)))) t'/\c≠0):=hc.mono (by
      intro v σ' h;simp only [WQ,hrx] at h;obtain ⟨hc0,rfl,rfl⟩:=h;refine ⟨rfl,?_,hc0⟩;congr 1;omega)
     rw [hrx] at happ;simp only [Ah] at happ;have hc0:c≠0:=mH _ _ _ _ hrx;have hne:(c != 0)=true:=by simpa using hc0
     obtain ⟨xo,xn,xu,xs,xk,xa⟩:=x;simp only [Ex.A2,exA,AD,AJ] at he hc;(repeat' (first|refine Run.cb rfl ?_|((first|refine rgQ mxQ ?_|refine cdQ ?_)<;>try simp only [Ag hlt,he,go_sem])|fail));refine Run.block ?_;(repeat' (first|refine Run.cb rfl ?_|((first|refine rgQ mxQ ?_|refine cdQ ?_)<;>try simp only [Ag hlt,he,go_sem])|fail));refine Run.AET (α:=Unit) [0,2,4,9,10,26,27,28] (fun _=>put 0 (.gp j 0) (put 2 (.d (bdL sc)) (put 4 (.lp 4 0) (put 9 (.lp 9 0) (put 10 (.d (bdL sci)) (put 26 (.d (.sl (ks.map Ex.enc))) (put 27 (.d (.int .i64 ks.length)) (put 28 (.d (.int .i64 i)) U)))))))) (Am 4 [.d (.int .i64 o),.d (.str nm),.d (.int .i64 u),.d (.sl (ns.map BF)),.d (.sl (ks.map Ex.enc)),.d (.sl (al.map Al.enc))] (Am 9 [.d (.int .i64 xo),.d (.str xn),.d (.int .i64 xu),.d (.sl (xs.map BF)),.d (.sl (xk.map Ex.enc)),.d (.sl (xa.map Al.enc))] E)) (WH hS j (.fn fid first caps) (n+Ex.AU (ks.take i)) t) (fun _=>True) ?_ ?_
     . rintro ⟨⟩ _;(repeat' ((first|refine wQ mxQ rfl ?_|refine Run.qR FT ?_|(refine AH.mk rfl hc ?_;rintro _ _ ⟨rfl,rfl,_⟩)|fail)<;>try simp only [hblk,hwn,hset,hw1,hne,go_sem]));exact hfail _ _ _ _ _ hall hc0 happ
     . intro hrest;clear hc;have hwi:((i:Int)==1)=decide (i=1):=by rw [An];simp only [beq_iff_eq,decide_eq_true_eq];omega
       have hws1:=Yn sc ns (WH hS j (.fn fid first caps) (n+Ex.AU (ks.take i)) t);have hws2:=Yn sc [nm] (WH hS j (.fn fid first caps) (n+Ex.AU (ks.take i)) t);simp only [AD,AJ,BF] at hws2;have key:=fun (F':Fm) (L':Lm) h1 h2=>hrest F' L' () h1 h2 trivial;clear hrest;by_cases h11:o=11
       . subst h11;rw [if_neg (by omega),if_pos (.inr rfl)] at hbd;rw [<- hbd] at hws1;(repeat' (first|(refine key _ _ (by simp only [go_sem]) (by simp only [go_sem]))|refine ctQ rfl ?_|((first|refine rgQ mxQ ?_|refine cdQ ?_|refine AH.det (hws1) ?_)<;>try simp only [AY,go_sem])|fail))
       by_cases h8:o=8/\i=1
       . obtain ⟨rfl,rfl⟩:=h8;rw [if_neg (by omega),if_pos (.inl ⟨rfl,rfl⟩)] at hbd;rw [<- hbd] at hws1;(repeat' (first|(refine key _ _ (by simp only [go_sem]) (by simp only [go_sem]))|refine ctQ rfl ?_|((first|refine rgQ mxQ ?_|refine cdQ ?_|refine AH.det (hws1) ?_)<;>try simp only [AY,hwi,go_sem])|fail))
       by_cases h7:(o=7\/o=17)/\i=1
       . rw [if_pos h7] at hbd;rw [<- hbd] at hws2;obtain ⟨h7,rfl⟩:=h7;rcases h7 with rfl|rfl
         all_goals (repeat' (first|(refine key _ _ (by simp only [go_sem]) (by simp only [go_sem]))|refine ctQ rfl ?_|((first|refine rgQ mxQ ?_|refine cdQ ?_|refine AH.det (hws2) ?_)<;>try simp only [AY,hwi,go_sem])|fail))
       . rw [if_neg h7,if_neg (by omega)] at hbd
         have hA:(o==8&&decide (i=1))=false:=by
          rw [C5];intro h;exact h8 (by simpa using h)
         have hB:((o==7||o==17)&&decide (i=1))=false:=by
          rw [C5];intro h;exact h7 (by simpa using h)
         (repeat' (first|(refine key _ _ (by simp only [EJ,GP,GQ,↓Ds,↓G5,↓Dt,go_sem,hbd]) (by simp only [EJ,GP,GQ,↓Ds,↓G5,↓Dt,go_sem]))|refine ctQ rfl ?_|(refine cH (by first|exact GV.t|exact GV.f|exact GV.st|exact GV.sf) ⟨?_,fun h=>?_,?_⟩;rotate_left;(focus ((try simp only [AO,OM] at h);simp only [Cp h11,hwi,hA,hB,go_sem];first|exact Is.mk|exact Is.pv (by simp only [h,Zv,↓Ds,↓G5,↓Dt,Cp h11,hwi,hA,hB,go_sem];rfl)));(try simp only [EJ,GP,GQ,↓Ds,↓G5,↓Dt,Cp h11,hwi,hA,hB,Iw,go_sem]))|((first|refine rgQ mxQ ?_|refine cdQ ?_)<;>try simp only [EJ,GP,GQ,↓Ds,↓G5,↓Dt,Cp h11,hwi,hA,hB,go_sem])|fail))
 . have hik:ks.take i=ks:=AM (by omega);rw [hik] at hok;clear ih;(repeat' (refine wQ mxQ rfl ?_<;>try simp only [B5 hlt,AA,hik,go_sem]));refine Run.At ?_
   refine Run.Au ((fun (a0:AV) (a2:AV) (a83:AV) (a84:AV)=>fun (y:Nat×S)=>put 0 a0 (put 2 a2 (put 83 a83 (put 84 a84 (put 85 (.d (.int .i64 y.1)) U))))) _ _ _ _) (fun _=>E) (fun y=>WH hS j (.fn fid first caps) (n+Ex.AU ks+Al.AU (al.take y.1)) y.2)
    (fun y=>y.1<=al.length/\Jg vis (((.mk o nm u ns ks al:Ex),sc)::(Bn o nm ns sc 0 ks++CD sc (al.take y.1))) s=(none,y.2)) (fun y=>al.length - y.1) ?_ (0,t) ⟨by simp,by simpa [CD] using hok⟩
   clear hok hi hlt hik;rintro ⟨i,t⟩ ⟨hi,hok⟩ ih;simp only at hi hok;by_cases hlt:i < al.length
   . obtain ⟨a,hx⟩:=Ai hlt;have he:=Av (enc:=Al.enc) hx;have hw1:IntKind.i64.wrap ((i:Int)+1)=((i+1:Nat):Int):=by rw [Ax (by omega) (by omega)];omega
     have hxs:=Al.Fj (AE hx)
     have hsum:Al.AU (al.take i)+a.size+Al.AU (al.drop (i+1))=Al.AU al:=by
      conv=>rhs;rw [<- Ad i al,Al.Cb,Bu hx,Al.AU]
      omega
     have hst:Al.AU (al.take (i+1))=Al.AU (al.take i)+a.size:=by rw [Aa hx,Al.Cb];simp [Al.AU]
     have hwn:IntKind.i64.wrap (((n+Ex.AU ks+Al.AU (al.take i):Nat):Int)+1)=((n+Ex.AU ks+Al.AU (al.take i)+1:Nat):Int):=A4 (by omega)
     have hks:CD sc (al.take (i+1))=CD sc (al.take i)++VI a sc:=by
      rw [Aa hx,iJ];simp [CD]
     have hall:Bj (.mk o nm u ns ks al) sc=(((.mk o nm u ns ks al:Ex),sc)::(Bn o nm ns sc 0 ks++CD sc (al.take (i+1))))++CD sc (al.drop (i+1)):=by
      rw [hpre,AZ,Az,<- iJ,Ad]
     have hlen:(((.mk o nm u ns ks al:Ex),sc)::(Bn o nm ns sc 0 ks++CD sc (al.take i))).length=1+Ex.AU ks+Al.AU (al.take i):=by
      rw [A1,AX,HP,Kx];omega
     have happ:=qE (vis:=vis) _ (VI a sc) s t hok;rw [AZ,Az,<- hks,hlen] at happ;obtain ⟨ac,av,x⟩:=a;rw [VI] at happ hks;simp only [Al.size] at hxs hst hsum
     have hvx:AGD vis hS j (.fn fid first caps) fid first caps (Bj x (sc++av)):=fun y hy=>hvis y (by
      rw [hall,A0,Ar,A0,hks,A0];exact .inl (.inr (.inr (.inr hy))))
     have hc:=ihN x (sc++av) (n+Ex.AU ks+Al.AU (al.take i)+1) t (by omega) (by omega) hvx;have hws:=Yn sc av;generalize sc++av=sci at hc happ hvx hks hws;have hset:∀m:Nat,(WH hS j (.fn fid first caps) (n+Ex.AU ks+Al.AU (al.take i)) t).AP j [.d (.int .i64 (m:Int)),.fn fid first caps]=WH hS j (.fn fid first caps) m t:=fun m=>by simp only [WH,Hg]
     rcases hrx:Jg vis (Bj x sci) t with ⟨_|⟨k,c⟩,t'⟩
     . have hc:AT Tzp 76 [.gp j 0,exA x,.d (bdL sci)] (WH hS j (.fn fid first caps) (n+Ex.AU ks+Al.AU (al.take i)+1) t) (fun v σ'=>v= .d (.int .i64 0)/\σ'=WH hS j (.fn fid first caps) (n+Ex.AU ks+Al.AU (al.take (i+1))) t'):=hc.mono (by
        intro v σ' h;simp only [WQ,hrx] at h;rw [QZ] at h;obtain ⟨rfl,rfl⟩:=h;have:=Ex.size_pos x;refine ⟨rfl,?_⟩;congr 1;omega)
       rw [hrx] at happ;simp only [Option.map_none] at happ;obtain ⟨xo,xn,xu,xs,xk,xa⟩:=x;simp only [Al.A2,Ex.A2,exA,AD,AJ] at he hc;(repeat' (first|((first|refine wQ mxQ rfl ?_|(refine AH.mk rfl hc ?_;rintro _ _ ⟨rfl,rfl⟩)|refine AH.det (hws _) ?_|fail)<;>try simp only [Ag hlt,he,hblk,hwn,hset,hw1,go_sem])|(refine ⟨fun h=>?_,fun h=>?_⟩<;>first|(cases h;done)|try simp only [h])|fail));exact ih (i+1,t') ⟨by simp only;omega,happ⟩ (by simp only;omega)
     . have hc:AT Tzp 76 [.gp j 0,exA x,.d (bdL sci)] (WH hS j (.fn fid first caps) (n+Ex.AU ks+Al.AU (al.take i)+1) t) (fun v σ'=>v= .d (.int .i64 c)/\σ'=WH hS j (.fn fid first caps) (n+(k+(1+Ex.AU ks+Al.AU (al.take i)))) t'/\c≠0):=hc.mono (by
        intro v σ' h;simp only [WQ,hrx] at h;obtain ⟨hc0,rfl,rfl⟩:=h;refine ⟨rfl,?_,hc0⟩;congr 1;omega)
       rw [hrx] at happ;simp only [Ah] at happ;have hc0:c≠0:=mH _ _ _ _ hrx;have hne:(c != 0)=true:=by simpa using hc0
       obtain ⟨xo,xn,xu,xs,xk,xa⟩:=x;simp only [Al.A2,Ex.A2,exA,AD,AJ] at he hc;(repeat' ((first|refine wQ mxQ rfl ?_|refine Run.qR FT ?_|(refine AH.mk rfl hc ?_;rintro _ _ ⟨rfl,rfl,_⟩)|refine AH.det (hws _) ?_|fail)<;>try simp only [Ag hlt,he,hblk,hwn,hset,hw1,hne,go_sem]));exact hfail _ _ _ _ _ hall hc0 happ
   . rw [AM (by omega)] at hok;have hia:al.take i=al:=AM (by omega);(repeat' ((first|refine wQ mxQ rfl ?_|refine Run.qR FT ?_|fail)<;>try simp only [B5 hlt,go_sem]));rw [<- hV,WQ,hpre,hok,hia];refine ⟨rfl,?_⟩;congr 1;rw [A1,AX,HP,Kx];omega
end Go.Ab
namespace Go.Ab
open Go.Proofs
theorem Ib (l:List Con) (s:Str):l.findIdx? (fun c=>c.name==s)=IT l s:=by
 induction l with
 |nil=>rfl
 |cons x l ih=>
  rw [List.findIdx?_cons,IT];split
  . rfl
  . rw [ih]
theorem gI (s:Str):∀(l m:List Dat),(∀d∈l,IT d.cons s=none)->EV (l++m) s=(EV m s).map fun x=>(x.1+l.length,x.2)
 |[],m,_=>by simp
 |d::l,m,h=>by
  rw [AZ,EV,h d (AS ..),gI s l m (fun x hx=>h x (AR _ hx))];simp only [Option.map_map,A1];congr 1
theorem wJ {s:Str} {dt:List Dat} {i k:Nat} {d:Dat} (h:∀d∈dt.take i,IT d.cons s=none) (hd:dt[i]?=some d) (hk:IT d.cons s=some k):EV dt s=some (i,k):=by
 have hi:=(AG.1 hd).1;rw [<- Ad i dt,gI s _ _ h,Bu hd,EV,hk];simp;omega
theorem wK {s:Str} {dt:List Dat} (h:∀d∈dt,IT d.cons s=none):EV dt s=none:=by
 have:=gI s dt [] h;simpa [EV] using this
theorem ADM {l:List Con} {s:Str} {k:Nat} (h:IT l s=some k):∃c,l[k]?=some c/\c.name=s:=by
 rw [<- Ib,AK8] at h;obtain ⟨h1,h2,_⟩:=h;exact ⟨l[k],by simp [h1],by simpa using h2⟩
theorem Pf {s:Str}:∀ {dt:List Dat} {x:Nat×Nat},EV dt s=some x->∃d c,dt[x.1]?=some d/\d.cons[x.2]?=some c/\c.name=s
 |[],x,h=>by simp [EV] at h
 |d::l,x,h=>by
  rw [EV] at h;split at h
  . rename_i k hk;cases h;obtain ⟨c,hc,hn⟩:=ADM hk;exact ⟨d,c,rfl,hc,hn⟩
  . simp only [AN] at h;obtain ⟨y,hy,rfl⟩:=h;obtain ⟨d',c,h1,h2,h3⟩:=Pf hy;exact ⟨d',c,by simpa using h1,h2,h3⟩
theorem Uj {s:Str} {dt:List Dat} {x:Nat×Nat} {d:Dat} {c:Con} (h1:dt[x.1]?=some d) (h2:d.cons[x.2]?=some c):arity dt x=c.args.length:=by
 simp [arity,h1,h2]
def ZK (o:Option (Nat×Nat)):AV:=match o with
 |some x=>.tup [.d (.int .i64 x.1),.d (.int .i64 x.2),.d (.bool true)]
 |none=>.tup [.d (.int .i64 0),.d (.int .i64 0),.d (.bool false)]
def cJ (dt:List Dat):Prop:=∀d∈dt,d.cons.length<=1000000
theorem LV (dt:List Dat) (hdt:cJ dt) (s:Str) (σ:AI):AT Tzp 79 [dsA dt,.d (.str s)] σ (fun v σ'=>v=ZK (EV dt s)/\σ'=σ):=by
 refine Ok (by simp) ?_;rw [BK,dsA];refine Run.slot 0 (fun hb0=>?_);simp only [CR,if_true,AV.DW,AA] at hb0;(repeat' (refine wQ mxQ rfl ?_<;>try simp only [AA,go_sem]));refine Run.At ?_;refine Run.Au ((fun (a0:AV) (a1:AV) (a10:AV)=>fun (i:Nat)=>put 0 a0 (put 1 a1 (put 10 a10 (put 11 (.d (.int .i64 i)) U)))) _ _ _) (fun _=>E) (fun _=>σ) (fun i=>i<=dt.length/\∀d∈dt.take i,IT d.cons s=none) (fun i=>dt.length - i) ?_ 0 ⟨by simp,by simp⟩;rintro i ⟨hi,hno⟩ ih;by_cases hlt:i < dt.length
 . obtain ⟨d,hd⟩:=Ai hlt;have he:=PN hd;have hw1:IntKind.i64.wrap ((i:Int)+1)=((i+1:Nat):Int):=by rw [Ax (by omega) (by omega)];omega
   (repeat' (refine wQ mxQ rfl ?_<;>try simp only [Ag hlt,he,go_sem]));have hdl:=hdt d (AE hd);have hat:=fun k=>wJ (k:=k) hno hd;rw [<- Ib] at hat;have hnext:=fun (h:IT d.cons s=none)=>F2 (p:=fun d:Dat=>(IT d.cons s).isSome) (i:=i) (fun y hy=>by simp [hno y hy]) hd (by rw [h];rfl);obtain ⟨dn,dv,cs⟩:=d;simp only [AA] at *;(repeat' (refine wQ mxQ rfl ?_<;>try simp only [AA,go_sem]));refine Run.At ?_;refine Run.Au ((fun (a0:AV) (a1:AV) (a7:AV) (a10:AV) (a11:AV) (a19:AV)=>fun (k:Nat)=>put 0 a0 (put 1 a1 (put 7 a7 (put 10 a10 (put 11 a11 (put 19 a19 (put 20 (.d (.int .i64 k)) U))))))) _ _ _ _ _ _) (fun _=>E) (fun _=>σ) (fun k=>k<=cs.length/\∀c∈cs.take k,(c.name==s)=false) (fun k=>cs.length - k) ?_ 0 ⟨by simp,by simp⟩;rintro k ⟨hk,hnk⟩ ih2;by_cases hkl:k < cs.length
   . obtain ⟨c,hc⟩:=Ai hkl;have hec:=PM hc;have hwk:=A4 (show k+1<=9000000000000000000 by omega);cases hs:(c.name==s) with
     |true=>
      (repeat' ((first|refine wQ mxQ rfl ?_|refine Run.qP EB ?_|fail)<;>try simp only [Ag hkl,he,hec,Bd,hs,go_sem]));rw [hat k (D3 (p:=fun c:Con=>c.name==s) hnk hc hs)];rfl
     |false=>
      (repeat' (refine wQ mxQ rfl ?_<;>try simp only [Ag hkl,he,hec,hwk,Bd,hs,go_sem]));exact ih2 (k+1) ⟨by omega,F2 (p:=fun c:Con=>c.name==s) hnk hc hs⟩ (by omega)
   . rw [AM (by omega)] at hnk;(repeat' (refine wQ mxQ rfl ?_<;>try simp only [B5 hkl,hw1,go_sem]));refine ih (i+1) ⟨by omega,fun y hy=>?_⟩ (by omega);have:=hnext (by rw [<- Ib,D4 (p:=fun c:Con=>c.name==s) hnk]) y hy;simpa using this
 . (repeat' ((first|refine wQ mxQ rfl ?_|refine Run.qP EB ?_|fail)<;>try simp only [B5 hlt,go_sem]));rw [AM (by omega)] at hno;rw [wK hno];rfl
def BX (l:List Bool):List AV:=l.map fun b=>.d (.bool b)
theorem Pd (l:List Bool):(BX l).length=l.length:=by simp [BX]
theorem HH {l:List Bool} {k:Nat} {x:Bool} (h:l[k]?=some x):(BX l)[k]?=some (.d (.bool x)):=by simp [BX,h]
theorem cS {l:List Bool} {k:Nat} (x:Bool) (h:k < l.length):wr (BX l) k [.d (.bool x)]=BX (l.set k x):=by
 unfold wr BX;rw [List.map_set,AK9,if_pos (by simpa using h)];simp
theorem Y3 (n:Nat):(AF n [AV.d (.bool false)]).flatten=BX (AF n false):=by
 induction n with
 |zero=>rfl
 |succ n ih=>rw [B1,BU,ih,B1];rfl
theorem rJ (l:List Bool) (b:Bool) (j e:Nat) (σ:AI) (hj:σ.blk j=some (BX l)) (hl:l.length<=1000000000):AT Tzp 132 [.ms j l.length 1 e,.d (.bool b)] σ (fun v σ'=>v= .d (.int .i64 (Fi (l.findIdx? (fun x=>b==x))))/\σ'=σ):=by
 refine Ol (by simp) ?_;rw [BK];(repeat' (refine wQ mxQ rfl ?_<;>try simp only [go_sem]));refine Run.At ?_;refine Run.Au ((fun (a0:AV) (a1:AV) (a7:AV)=>fun (i:Nat)=>put 0 a0 (put 1 a1 (put 7 a7 (put 8 (.d (.int .i64 i)) U)))) _ _ _) (fun _=>E) (fun _=>σ) (fun i=>i<=l.length/\∀x∈l.take i,(b==x)=false) (fun i=>l.length - i) ?_ 0 ⟨by simp,by simp⟩;rintro i ⟨hi,hno⟩ ih;by_cases hlt:i < l.length
 . obtain ⟨x,hx⟩:=Ai hlt;have he:=HH hx;have hix:((i:Int) < (l.length:Int))=True:=by simp;omega
   have hw1:=A4 (show i+1<=9000000000000000000 by omega);cases hp:(b==x) with
   |true=>
    (repeat' ((first|refine wQ mxQ rfl ?_|refine Run.qP Gx ?_|fail)<;>try simp only [Ag hlt,hix,hj,he,hp,A5,go_sem]));rw [D3 (p:=fun x=>b==x) hno hx hp];rfl
   |false=>
    (repeat' (refine wQ mxQ rfl ?_<;>try simp only [Ag hlt,hix,hj,he,hw1,hp,A5,go_sem]));exact ih (i+1) ⟨by omega,F2 (p:=fun x=>b==x) hno hx hp⟩ (by omega)
 . (repeat' ((first|refine wQ mxQ rfl ?_|refine Run.qP Gx ?_|fail)<;>try simp only [B5 hlt,go_sem]));rw [AM (by omega)] at hno;rw [D4 (p:=fun x=>b==x) hno];rfl
theorem fJ (l:List Bool) (b:Bool) (j e:Nat) (σ:AI) (hj:σ.blk j=some (BX l)) (hl:l.length<=1000000000):AT Tzp 107 [.ms j l.length 1 e,.d (.bool b)] σ (fun v σ'=>v= .d (.bool (l.any (fun x=>b==x)))/\σ'=σ):=by
 refine Lk (by simp) ?_;rw [BK];(repeat' ((first|refine wQ mxQ rfl ?_|refine Run.qP Hb ?_|refine AH.det (rJ l b j e σ hj hl) ?_|fail)<;>try simp only [Rf,I9,go_sem]))
theorem kG (b:Bool) (σ:AI):AT Tzp 107 [.Ae,.d (.bool b)] σ (fun v σ'=>v= .d (.bool false)/\σ'=σ):=by
 have hi:AT Tzp 132 [.Ae,.d (.bool b)] σ (fun v σ'=>v= .d (.int .i64 (-1))/\σ'=σ):=by
  refine Ol (by simp) ?_;rw [BK];have h0:decide ((0:Int) < 0)=false:=by decide
  (repeat' ((first|refine wQ mxQ rfl ?_|refine Run.qP Gx ?_|(refine Run.loop ?_)|fail)<;>try simp only [h0,go_sem]))
 refine Lk (by simp) ?_;rw [BK];have h1:decide ((0:Int)<=-1)=false:=by decide
 (repeat' ((first|refine wQ mxQ rfl ?_|refine Run.qP Hb ?_|refine AH.det (hi) ?_|fail)<;>try simp only [h1,go_sem]))
theorem rD {S:Type} (vis:S->Ex×List Str->Int×S) (hS:S->AI) (fid:FuncId) (first caps:List AV) (hb:Ca Tzp fid=true) (hfi:first.all AV.BE=true) (hca:caps.all AV.BE=true)
 (f:FE) (s:S) (hsz:f.body.size<=1000000) (hfr:∀t j,(hS s).blk j=none->(hS t).blk j=none) (hvis:∀j,(hS s).blk j=none->AGD vis hS j (.fn fid first caps) fid first caps (Bj f.body f.params)):
 AT Tzp 48 [feA f,.fn fid first caps] (hS s) (fun v σ'=>match Jg vis (Bj f.body f.params) s with
  |(none,s')=>v= .tup [.d (.int .i64 ((f.body.size - 1:Nat):Int)),.d (.int .i64 0)]/\σ'=hS s'
  |(some (k,c),s')=>v= .tup [.d (.int .i64 (k:Nat)),.d (.int .i64 c)]/\σ'=hS s'):=by
 refine k6 (by simp) ?_;rw [BK];have hw:=fun σ=>Yn [] f.params σ;rw [show bdL []= .G4 from rfl] at hw;have hw':∀σ,AT Tzp 77 [.G4,.d (.sl (f.params.map BF))] σ (fun v σ'=>v= .d (bdL f.params)/\σ'=σ):=fun σ=>AT.plain (by simpa only [AV.CL,bU,G6,As] using hw σ);clear hw;have hwalk:=fun j hj=>AR8 vis hS j fid first caps hb hfi hca _ f.body f.params 0 s (AW _) (by omega) (hvis j hj)
 have hnn:=QZ f.body f.params;have hblk:∀j n s,(WH hS j (.fn fid first caps) n s).blk j=some [.d (.int .i64 n),.fn fid first caps]:=fun j n s=>by simp only [WH,AK,if_true]
 rcases hr:Jg vis (Bj f.body f.params) s with ⟨_|⟨k,c⟩,s'⟩
 . have hwalk:∀j,(hS s).blk j=none->AT Tzp 76 [.gp j 0,exA f.body,.d (bdL f.params)] (WH hS j (.fn fid first caps) 0 s) (fun v σ'=>v= .d (.int .i64 0)/\σ'=WH hS j (.fn fid first caps) (f.body.size - 1) s'):=fun j hj=>(hwalk j hj).mono (by
    intro v σ' h;simp only [WQ,hr] at h;rw [hnn,BJ] at h;exact h)
   obtain ⟨nm,ps,o,n,u,ns,ks,al⟩:=f;simp only [FE.enc,Ex.A2,feA,exA,AD,AJ] at hw' hwalk ⊢;(repeat' (refine wQ mxQ rfl ?_<;>try simp only [go_sem]));intro j hj;have h0:(hS s).AP j [.d (.int .i64 0),.fn fid first caps]=WH hS j (.fn fid first caps) 0 s:=rfl;rw [h0];have hle:(hS s').le (WH hS j (.fn fid first caps) ((Ex.mk o n u ns ks al).size - 1) s'):=CQ (hfr s' j hj);(repeat' ((first|refine wQ mxQ rfl ?_|(refine AH.mk rfl (hwalk j hj) ?_;rintro _ _ ⟨rfl,rfl⟩)|(refine Run.Bf OY hle ?_)|refine AH.det (hw' _) ?_|fail)<;>try simp only [hblk,go_sem]))
 . have hwalk:∀j,(hS s).blk j=none->AT Tzp 76 [.gp j 0,exA f.body,.d (bdL f.params)] (WH hS j (.fn fid first caps) 0 s) (fun v σ'=>v= .d (.int .i64 c)/\σ'=WH hS j (.fn fid first caps) k s'):=fun j hj=>(hwalk j hj).mono (by
    intro v σ' h;simp only [WQ,hr] at h;rw [BJ] at h;exact h.2)
   obtain ⟨nm,ps,o,n,u,ns,ks,al⟩:=f;simp only [FE.enc,Ex.A2,feA,exA,AD,AJ] at hw' hwalk ⊢;(repeat' (refine wQ mxQ rfl ?_<;>try simp only [go_sem]));intro j hj;have h0:(hS s).AP j [.d (.int .i64 0),.fn fid first caps]=WH hS j (.fn fid first caps) 0 s:=rfl;rw [h0];have hle:(hS s').le (WH hS j (.fn fid first caps) k s'):=CQ (hfr s' j hj);(repeat' ((first|refine wQ mxQ rfl ?_|(refine AH.mk rfl (hwalk j hj) ?_;rintro _ _ ⟨rfl,rfl⟩)|(refine Run.Bf OY hle ?_)|refine AH.det (hw' _) ?_|fail)<;>try simp only [hblk,go_sem]))
end Go.Ab
namespace Go.Ab
open Go.Proofs
theorem Yg {α:Type} [DecidableEq α]:∀ {l m:List α},l.Nodup->(∀x∈l,x∈m)->l.length<=m.length
 |[],m,_,_=>by simp
 |x::l,m,hn,hs=>by
  have hx:=hs x (AS ..);have h1:(m.erase x).length=m.length - 1:=List.length_erase_of_mem hx;have h2:=List.length_pos_of_mem hx
  have h3:l.length<=(m.erase x).length:=Yg (List.nodup_cons.1 hn).2 (fun y hy=>(List.mem_erase_of_ne (by
   rintro rfl;exact (List.nodup_cons.1 hn).1 hy)).2 (hs y (AR _ hy)))
  simp only [A1];omega
def Dk:List (Nat×Nat)->Nat
 |[]=>0
 |x::_=>x.1
def flg (xs:List (Nat×Nat)) (f n:Nat):List Bool:=(BA n).map fun q=>xs.contains (f,q)
def exB:List (Nat×Nat)->Bool
 |[]=>true
 |x::l=>(x::l).all (fun y=>y.1==x.1)&&decide (x::l).Nodup
theorem Rc (xs:List (Nat×Nat)) (f n:Nat):(flg xs f n).length=n:=by simp [flg]
theorem mC (xs:List (Nat×Nat)) {f n q:Nat} (h:q < n):(flg xs f n)[q]?=some (xs.contains (f,q)):=by simp [flg,h]
theorem AQP (f n:Nat):flg [] f n=AF n false:=by
 apply FO;intro q;by_cases h:q < n
 . rw [mC _ h];simp [h]
 . rw [B9 (by simp [Rc];omega),B9 (by simp;omega)]
theorem AMJ {xs:List (Nat×Nat)} {f n d k:Nat} (h:d≠f\/(f,k)∈xs):flg (xs++[(d,k)]) f n=flg xs f n:=by
 unfold flg;apply DL;intro q _;rw [An];simp only [Ak,A0,A6,Bb];constructor
 . rintro (h1|⟨rfl,rfl⟩)
   . exact h1
   . rcases h with h|h
     . exact absurd rfl h
     . exact h
 . exact .inl
theorem AGN {xs:List (Nat×Nat)} {f n k:Nat} (hk:k < n):(flg xs f n).set k true=flg (xs++[(f,k)]) f n:=by
 apply FO;intro q;by_cases h:q < n
 . rw [mC _ h,B3];by_cases hq:k=q
   . subst hq;rw [if_pos rfl,if_pos (by rw [Rc];exact hk)];congr 1;simp
   . rw [if_neg hq,mC _ h];congr 1;rw [An];simp only [Ak,A0,A6,Bb,true_and];constructor
     . exact .inl
     . rintro (h1|h1)
       . exact h1
       . exact absurd h1.symm hq
 . rw [B9 (by simp [Rc];omega),B9 (by simp [Rc];omega)]
theorem AAA {xs:List (Nat×Nat)} (hne:xs≠[]) (d k:Nat):exB (xs++[(d,k)])=(exB xs&& !(d != Dk xs||xs.contains (Dk xs,k))):=by
 cases xs with
 |nil=>exact absurd rfl hne
 |cons x l=>
  simp only [AZ,exB,Dk];rw [An];simp only [AO,A8,beq_iff_eq,decide_eq_true_eq,Br,GU,bne_eq_false_iff_eq];rw [show x::(l++[(d,k)])=(x::l)++[(d,k)] from rfl,Gs];constructor
  . rintro ⟨h1,h2,_,h3⟩;have hd:d=x.1:=h1 (d,k) (by simp);refine ⟨⟨fun y hy=>h1 y (by simp only [A0];exact .inl hy),h2⟩,hd,?_⟩;rw [C5];intro hc;have:=h3 _ (Ak.1 hc) (d,k) (by simp);exact this (by rw [hd])
  . rintro ⟨⟨h1,h2⟩,rfl,h3⟩;refine ⟨fun y hy=>?_,h2,by simp,fun a ha b hb=>?_⟩
    . rcases A0.1 hy with hy|hy
      . exact h1 y hy
      . simp only [A6] at hy;subst hy;rfl
    . simp only [A6] at hb;subst hb;rintro rfl;rw [Ak.2 ha] at h3;cases h3
theorem AIB {dt:List Dat} {xs:List (Nat×Nat)} (hne:xs≠[]) (hk:∀x∈xs,x.1=Dk xs->x.2 < IY dt (Dk xs)):
 gL dt xs=(exB xs&& !(flg xs (Dk xs) (IY dt (Dk xs))).any (fun x=>false==x)):=by
 cases xs with
 |nil=>exact absurd rfl hne
 |cons x l=>
  simp only [gL,exB,Dk] at hk ⊢;generalize hxs:x::l=xs at hk ⊢;generalize IY dt x.1=n at hk ⊢;rw [An];simp only [AO,A8,beq_iff_eq,decide_eq_true_eq,Br,List.any_eq_false];constructor
  . rintro ⟨⟨h1,h2⟩,h3⟩;refine ⟨⟨h1,h2⟩,fun b hb=>?_⟩;simp only [flg,Be,CJ] at hb;obtain ⟨q,hq,rfl⟩:=hb;intro hc;have hc':¬(x.1,q)∈xs:=fun hm=>by rw [Ak.2 hm] at hc;cases hc
    have:=Yg (m:=((BA n).map fun q=>(x.1,q)).erase (x.1,q)) h2 (fun y hy=>by
     have hy1:=h1 y hy;rw [List.mem_erase_of_ne (by rintro rfl;exact hc' hy)];rw [Be];exact ⟨y.2,by rw [CJ];exact hk y hy hy1,by rw [<- hy1]⟩)
    rw [List.length_erase_of_mem (by rw [Be];exact ⟨q,by simpa using hq,rfl⟩),AA,List.length_range] at this;omega
  . rintro ⟨⟨h1,h2⟩,h3⟩;refine ⟨⟨h1,h2⟩,?_⟩
    have hle:=Yg (m:=(BA n).map fun q=>(x.1,q)) h2 (fun y hy=>by
     rw [Be];exact ⟨y.2,by rw [CJ];exact hk y hy (h1 y hy),by rw [<- h1 y hy]⟩)
    have hge:=Yg (l:=(BA n).map fun q=>(x.1,q)) (m:=xs) (by
     rw [List.nodup_iff_pairwise_ne,List.pairwise_map];exact List.Pairwise.imp (fun h he=>h (Prod.mk.inj he).2) List.nodup_range) (fun y hy=>by
     rw [Be] at hy;obtain ⟨q,hq,rfl⟩:=hy;have:=h3 (xs.contains (x.1,q)) (by simp only [flg,Be];exact ⟨q,hq,rfl⟩);cases hc:xs.contains (x.1,q) with
     |true=>exact Ak.1 hc
     |false=>rw [hc] at this;simp at this)
    rw [AA,List.length_range] at hle hge;omega
theorem Pn (dt:List Dat) (m:List Al):∀ {l:List Al} {xs:List (Nat×Nat)},CY dt l= .ok xs->CY dt (l++m)=(CY dt m).map (xs++·)
 |[],xs,h=>by
  simp only [CY,Db] at h;subst h;simp only [As];cases CY dt m<;>rfl
 | .mk c vs b::l,xs,h=>by
  rw [AZ,CY];rw [CY] at h;cases hc:EV dt c with
  |none=>rw [hc] at h;cases h
  |some x=>
   rw [hc] at h;simp only at h ⊢;split at h
   . cases h
   . split at h
     . cases h
     . rename_i h1 h2;rw [if_neg h1,if_neg h2];cases hl:CY dt l with
       |error e=>rw [hl] at h;cases h
       |ok ys=>
        rw [hl] at h;simp only [C3,Db] at h;subst h;rw [Pn dt m hl];cases CY dt m<;>rfl
end Go.Ab
