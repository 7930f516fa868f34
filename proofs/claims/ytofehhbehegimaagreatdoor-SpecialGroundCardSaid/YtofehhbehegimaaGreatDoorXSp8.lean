/- Part Sp8. Conditions: none. -/
import Derived.Lib.ItoaNum
import Derived.Lib.ItoaLen
import Derived.Test.YtofehhbehegimaaGreatDoorCards
import Derived.Test.YtofehhbehegimaaGreatDoorTie
import Derived.LaidMore
import Derived.OpenShut
import Derived.Stop.Joined
import Derived.Test.YtofehhbehegimaaGreatDoorXOq
set_option linter.unusedSimpArgs false
set_option linter.unusedVariables false
set_option maxRecDepth 100000
set_option maxHeartbeats 40000000
set_option linter.defProp false
open Go.Proofs.Tryz renaming prog→Tzp
open Nat renaming lt_of_lt_of_le→Be,le_trans→Af,le_refl→AS,strongRecOn→Cc,add_mul→Bs,lt_or_ge→C8,succ_mul→Na,mul_le_mul_right→Bi,min_eq_left→FN
open List renaming map_cons→AF,length_cons→A0,cons_append→AX,append_assoc→Aq,range→Av,length_append→AY,length_singleton→Bm,take_of_length_le→AP,getElem?_eq_some_iff→AE,take_append_of_le_length→XH,mem_append→AZ,mem_singleton→A3,mem_cons→Az,mem_cons_self→AW,mem_cons_of_mem→AU,mem_of_mem_take→CZ,mem_of_getElem?→AD,append_nil→Bu,length_map→AA,mem_map→B8,mem_range→Bz,map_nil→AN,map_append→Ao,nil_append→Ag,getD_eq_getElem?_getD→A2,drop_of_length_le→KW,getElem?_eq_none→BM,replicate→AG,contains_iff_mem→Ar,getElem?_take→B2,take_append_drop→A7,getElem?_cons_zero→Aw,getElem?_map→Am,all_cons→BO,all_nil→Cq,mem_append_left→XF,flatMap_cons→DJ,length_take→B5,all_eq_true→Aj
open Bool renaming and_eq_true→AO,eq_iff_iff→Ak,false_or→Ep,false_and→Mk,not_true→XC,and_false→Cy,not_false→Iv,true_and→Bk,eq_false_iff→CX,and_true→BU,false_eq_true→A1,true_or→N7
open Option.some renaming injEq→AM,inj→Kc
open Prod.mk renaming injEq→BZ
open Int renaming toNat_natCast→CO,reduceBEq→Aa
open Except renaming map→C4
open Option renaming map_eq_some_iff→AK,isSome_some→H6,isSome_none→H5,bind_some→E6
namespace Go.Ab
open Go.RowKit Go.Sort Go.Proofs
variable {b:Bd} {dt:List Dat} {fe:FE} {i:Nat} {r:Db} {s:List UInt8} {x:KV} {σ0:AH}
def Rel.below {base:Nat} {g:Gh} {Pr:Nat->Prop} {Y:AH} {w0 w w':World} (h:Rel base g Pr Y w0 w) (hb:Below w.heap.size w w'):Rel base g Pr Y w0 w'/\KP Pr w w':=
 ⟨h.grow hb.size (fun b hlt _=>hb.block b hlt) ⟨hb.os,hb.tape,hb.output,hb.size,fun b hlt=>hb.block b (Be hlt h.bs)⟩ (fun b hp=>⟨Be (h.pr b hp).1 hb.size,.inl hp⟩),hb.size,fun b hp=>hb.block b (h.pr b hp).1⟩
def kT:Array Value:=(Lib.pow10Tab.map fun z=>Value.int .u64 z).toArray
def gG:Nat:=1
def kU:Tzp.globalNamed "internal/strconv.uint64pow10"=some gG:=by kernel_rfl
def WE (n:Int) (Y:AH) (ht:Y.gt gG=some kT):AR Tzp 105 [.d (.int .i64 n)] Y (fun v σ'=>v= .d (.str (Lib.itoa n))/\σ'=Y):=by
 refine AR.AVQ (fun base g Pr w0 w vs hr hv=>?_);obtain ⟨v,rfl,hvv⟩:=hv.one;obtain ⟨rfl,h⟩:=hvv.AU0;have h0: -9223372036854775808<=n:=h.1;have h1:n<=9223372036854775807:=h.2
 exact ⟨_,.str (by have:=Lib.itoa_length_le n h0 h1;have:(21:Nat)<=maxLen:=by decide+kernel
                   omega),Any.strconv_Itoa Tryz.AQ9 n h0 h1 w (hr.tab kU ht)⟩
def eT {Y:AH} {s:AV} (hb:Y.blk i=some [.gp i 0,s]) (ht:Y.bt i=some (2,162)):AR Tzp 168 [.gp i 0] Y (fun v σ'=>v= .tup []/\σ'=Y):=
 AGM (fun b w h=>Any.Builder_copyCheck_used Tryz.AKG Tryz.Vp b w h) hb ht
def cA {Y:AH} {s:AV} (hb:Y.blk i=some [.EO,s]) (ht:Y.bt i=some (2,162)):AR Tzp 168 [.gp i 0] Y (fun v σ'=>v= .tup []/\σ'=Y.AL i [.gp i 0,s]):=
 ACW (fun b w h1 h2 h3=>Any.Builder_copyCheck_fresh Tryz.AKG Tryz.Vp b w h1 h2 h3) hb ht
def w6 {Y:AH} {p:AV} (hb:Y.blk i=some [p,.Ad]) (ht:Y.bt i=some (2,162)):AR Tzp 62 [.gp i 0] Y (fun v σ'=>v= .d (.str [])/\σ'=Y):=by
 intro base g Pr w0 w vs hr hv;obtain ⟨v,rfl,hvv⟩:=hv.one;obtain ⟨b,x,y,hm,hh,Z,hy,hlow,hpr,hok⟩:=hr.AX3 hb ht;cases hvv with|gp h=>
 cases hy with|Ad=>
 rw [hm] at h;cases h;refine (Any.Builder_String_nil Tryz.AU1 Tryz.dU w.heap.size b x w hh).mono ?_;rintro e w' ⟨rfl,hb⟩;obtain ⟨k1,k2⟩:=hr.below hb;exact ⟨_,_,g,Y,rfl,.d (.str (by decide)),k1,Gh.le_refl g,k2,rfl,rfl⟩
structure BuS (σ0:AH) (i:Nat) (s:List UInt8) (Y:AH):Prop where
 fresh:σ0.blk i=none
 AG6:σ0.bt i=none
 le:σ0.le Y
 bt:Y.bt i=some (2,162)
 blk:∃p v,Y.blk i=some [p,v]/\(p= .EO\/p= .gp i 0)/\((v= .Ad/\s=[])\/(∃t,v= .own t 5 1 (Ba s)/\Y.tok t=true/\σ0.tok t=false))
def ALO {Y:AH} (h:Y.blk i=none/\Y.bt i=none):BuS Y i [] ((Y.AL i [.EO,.Ad]).Bl i (2,162)) where
 fresh:=h.1
 AG6:=h.2
 le:=⟨fun j cs hj=>by
  have hne:j≠i:=fun e=>by rw [e,h.1] at hj;cases hj
  simp [AH.Bl,AH.AL,hne,hj],fun _ h=>h,rfl,fun j x hj=>by
  have hne:j≠i:=fun e=>by rw [e,h.2] at hj;cases hj
  simp [AH.Bl,AH.AL,hne,hj]⟩
 bt:=by simp [AH.Bl]
 blk:=⟨.EO,.Ad,by simp [AH.Bl,AH.AL],.inl rfl,.inl ⟨rfl,rfl⟩⟩
def vF {Y:AH} (h:BuS σ0 i s Y):AR Tzp 168 [.gp i 0] Y (fun v σ'=>v= .tup []/\BuS σ0 i s σ'/\∃v,σ'.blk i=some [.gp i 0,v]/\((v= .Ad/\s=[])\/(∃t,v= .own t 5 1 (Ba s)/\σ'.tok t=true/\σ0.tok t=false))):=by
 obtain ⟨p,v,hb,hp|hp,hv⟩:=h.blk
 . subst hp;refine (cA hb h.bt).mono ?_;rintro v' σ' ⟨rfl,rfl⟩;have hn:(Y.AL i [.gp i 0,v]).blk i=some [.gp i 0,v]:=by simp [AJ]
   refine ⟨rfl,⟨h.fresh,h.AG6,⟨fun j cs hj=>?_,h.le.tok,h.le.gt,h.le.bt⟩,h.bt,.gp i 0,v,hn,.inr rfl,hv⟩,v,hn,hv⟩;have hne:j≠i:=fun e=>by rw [e,h.fresh] at hj;cases hj
   simp [AJ,hne,h.le.blk j cs hj]
 . subst hp;refine (eT hb h.bt).mono ?_;rintro v' σ' ⟨rfl,rfl⟩;exact ⟨rfl,h,v,hb,hv⟩
def tY {a b:List UInt8} (h:a.length+b.length<=100000000000000):ABU .add a b=some (.d (.str (a++b))):=by
 have hm:a.length+b.length<=maxLen:=Af h (by decide+kernel);simp [ABU,hm]
def zP (s x:List UInt8):Ba s++Ba x=Ba (s++x):=by simp [Ba]
def xI (s:List UInt8):(Ba s).length=s.length:=by simp [Ba]
def XJ {Y:AH} (x:List UInt8) (h:BuS σ0 i s Y) (hl:s.length+x.length<=100000000000000):
 AR Tzp 104 [.gp i 0,.d (.str x)] Y (fun v σ'=>v= .tup [.d (.int .i64 x.length),.undef]/\BuS σ0 i (s++x) σ'):=by
 refine NH (by simp) ?_;rw [BD];(repeat' ((first|refine wQ ?_|(refine AI.mk rfl (vF h) ?_)|fail)<;>try simp only [go_sem]));rintro _ σ1 ⟨rfl,hbu,v,hblk,hv⟩
 have hcell:v.B1=true/\v.BS=true/\v.cells=[v]:=by
  rcases hv with ⟨rfl,_⟩|⟨t,rfl,_⟩<;>exact ⟨rfl,rfl,rfl⟩
 simp only [hblk,hcell.1,go_sem]
 have happ:∃σ2,O2 σ1 5 1 v=some (Ba s,σ2)/\(∀j,σ2.blk j=σ1.blk j)/\σ0.le σ2/\σ2.bt=σ1.bt/\(∀t,σ2.tok t=true->σ1.tok t=true):=by
  rcases hv with ⟨rfl,rfl⟩|⟨t,rfl,ht,ht0⟩
  . exact ⟨σ1,rfl,fun _=>rfl,hbu.le,rfl,fun _ h=>h⟩
  . refine ⟨σ1.CP t,by simp [O2,ht],fun _=>rfl,⟨hbu.le.blk,fun u hu=>?_,hbu.le.gt,hbu.le.bt⟩,rfl,fun u hu=>?_⟩
    . have hne:u≠t:=fun e=>by rw [e,ht0] at hu;cases hu
      simp [AH.CP,hne,hbu.le.tok u hu]
    . simp only [AH.CP] at hu;split at hu
      . cases hu
      . exact hu
 obtain ⟨σ2,ha,hb2,hle2,hbt2,htk2⟩:=happ;have hblk2:σ2.blk i=some [.gp i 0,v]:=by rw [hb2];exact hblk
 refine XEx.apps hcell.2.1 ha (by rw [xI];omega) (fun t ht=>?_);simp only [hblk2,go_sem];(repeat' ((first|refine wQ ?_|(refine Run.AV3 HL (AH.le_refl _) ?_)|fail)<;>try simp only [go_sem]));refine ⟨hbu.fresh,hbu.AG6,⟨fun j cs hj=>?_,fun u hu=>?_,hle2.gt,hle2.bt⟩,?_,.gp i 0,.own t 5 1 (Ba (s++x)),?_,.inr rfl,.inr ⟨t,rfl,?_,?_⟩⟩
 . have hne:j≠i:=fun e=>by rw [e,hbu.fresh] at hj;cases hj
   simp [AJ,hne,PQ,hle2.blk j cs hj]
 . have:=hle2.tok u hu;simp [AH.AL,AH.Bq,this]
 . show σ2.bt i=_;rw [hbt2];exact hbu.bt
 . simp [AJ,zP]
 . simp [AH.AL,AH.Bq]
 . cases h0:σ0.tok t with
   |false=>rfl
   |true=>rw [hbu.le.tok t h0] at ht;cases ht
def eH:∀s:List UInt8,bytesOf (Ba s)=some s
 |[]=>rfl
 |b::s=>by
  have:=eH s;simp only [Ba] at this;simp only [Ba,AF,bytesOf,this];have hb:(b.toNat:Int) < 256:=by have:=b.toNat_lt;omega
  simp [byteOf,hb]
def ALC {Y:AH} (h:BuS σ0 i s Y) (hs:s=[]->∃p,Y.blk i=some [p,.Ad]):
 AR Tzp 62 [.gp i 0] Y (fun v σ'=>v= .d (.str s)/\σ0.le σ'):=by
 by_cases hs0:s=[]
 . obtain ⟨p,hb⟩:=hs hs0;refine (w6 hb h.bt).mono ?_;rintro v σ' ⟨rfl,rfl⟩;exact ⟨by rw [hs0],h.le⟩
 refine S2 (by simp) ?_;rw [Bj];obtain ⟨p,v,hb,hp,hv⟩:=h.blk;rcases hv with ⟨rfl,rfl⟩|⟨t,rfl,ht,ht0⟩
 . exact absurd rfl hs0
 obtain ⟨b,r,rfl⟩:∃b r,s=b::r:=by cases s with|nil=>exact absurd rfl hs0|cons b r=>exact ⟨b,r,rfl⟩
 have hbr:Ba (b::r)=[.int .u8 b.toNat]::Ba r:=rfl;have hby:bytesOf ([.int .u8 b.toNat]::Ba r)=some (b::r):=eH (b::r);rw [hbr] at hb;(repeat' ((first|refine wQ ?_|(refine XEx.AJG (by simp only [A0]) hs0 ht ?_)|(refine Run.AV3 JF (AH.le_refl _) ?_)|fail)<;>try simp only [hb,hby,xI,go_sem]));refine ⟨h.le.blk,fun u hu=>?_,h.le.gt,h.le.bt⟩;have hne:u≠t:=fun e=>by rw [e,ht0] at hu;cases hu
 simp [AH.CP,hne,h.le.tok u hu]
mutual
def wrT:Ty->Str
 | .mk k n l=>(Lib.itoa k++[58]++Lib.itoa n++[40])++(K8 l++[41])
def K8:List Ty->Str
 |[]=>[]
 |t::l=>wrT t++K8 l
end
def uL:∀l m:List Ty,K8 (l++m)=K8 l++K8 m
 |[],m=>rfl
 |t::l,m=>by rw [AX,K8,K8,uL l m,Aq]
def AAV (x:KV):Int×Str:=(x.1,K8 x.2)
def Vw (nt:List (Ty×List Ty)):List (Nat×Int)->List KV->Except Dg (List KV)
 |[],l=>.ok l
 |y::rs,l=>
  let x:KV:=(y.2,(nt.getD y.1 (.mk 0 0 [],[])).2)
  if (l.map AAV).contains (AAV x) then Vw nt rs l
                            else if 64<=l.length then .error (9,x.1,0) else Vw nt rs (l++[x])
def RR (fs:List FE) (dt:List Dat) (r:Db):Nat->Nat->List KV->Except Dg (List KV)
 |0,_,l=>.ok l
 |n+1,i,l=>match l[i]? with
  |none=>.ok l
  |some x=>match Nu dt r x,fs[x.1.toNat]? with
   |some b,some fe=>match Vw b.notes (tB fs fe) l with
    | .error e=>.error e
    | .ok l'=>RR fs dt r n (i+1) l'
   |_,_=>.error (9,x.1,0)
def lX (r:Db):List KV:=(Av r.1.length).filterMap fun f=>match r.1[f]? with
 |some s=>if s.vars=0 then some ((f:Int),[]) else none
 |none=>none
noncomputable def AAA (p:Pg):Except Dg (List KV):=match Dl p,Fo p with
 | .error d,_=>.error d
 | .ok r,.ok dt=>RR p.Dz dt r 100 0 (lX r)
 | .ok _,.error _=>.ok []
def iY {nt:List (Ty×List Ty)}:∀(rs:List (Nat×Int)) {l l':List KV},Vw nt rs l= .ok l'->(∃m,l'=l++m)/\l'.length<=max l.length 64
 |[],l,l',h=>by cases h;exact ⟨⟨[],by simp⟩,by omega⟩
 |y::rs,l,l',h=>by
  simp only [Vw] at h;split at h
  . exact iY rs h
  . split at h
    . cases h
    . obtain ⟨⟨m,hm⟩,hl⟩:=iY rs h;refine ⟨⟨_::m,by rw [hm,Aq];rfl⟩,?_⟩;simp only [AY,Bm] at hl;omega
def ADA {fs:List FE} {dt:List Dat} {r:Db}:∀(n i:Nat) (l l':List KV),RR fs dt r n i l= .ok l'->100<=n+i->i<=l.length->l.length<=64->(∀x∈l.take i,∃b,Nu dt r x=some b)->(∀x∈l',∃b,Nu dt r x=some b)/\l'.length<=64
 |0,i,l,l',h,hn,hi,hl,Z=>by omega
 |n+1,i,l,l',h,hn,hi,hl,Z=>by
  rw [RR] at h;cases hi2:l[i]? with
  |none=>
   rw [hi2] at h;cases h;have:=List.getElem?_eq_none_iff.1 hi2;rw [AP (by omega)] at Z;exact ⟨Z,hl⟩
  |some x=>
   rw [hi2] at h;simp only at h;split at h
   . rename_i b fe hb hf;split at h
     . cases h
     . rename_i l2 hr;obtain ⟨⟨m,rfl⟩,hlen⟩:=iY _ hr;have hlt:=(AE.1 hi2).1;refine ADA n (i+1) _ l' h (by omega) (by simp;omega) (by omega) fun y hy=>?_;rw [XH (by omega),A5 hi2] at hy;rcases AZ.1 hy with hy|hy
       . exact Z y hy
       . simp only [A3] at hy;subst hy;exact ⟨b,hb⟩
   . cases h
def AL2 (r:Db):(lX r).length<=r.1.length:=by
 have:=List.length_filterMap_le (fun f=>match r.1[f]? with
  |some s=>if s.vars=0 then some (((f:Nat):Int),([]:List Ty)) else none
  |none=>none) (Av r.1.length)
 simpa [lX] using this
mutual
def mT:Ty->Prop
 | .mk k n l=>((Lib.itoa k).length<=21/\(Lib.itoa n).length<=21)/\XI l
def XI:List Ty->Prop
 |[]=>True
 |t::l=>mT t/\XI l
end
def XI.mem:∀ {l:List Ty},XI l->∀ {t:Ty},t∈l->mT t
 |u::l,h,t,ht=>by
  rw [XI] at h;rcases Az.1 ht with rfl|ht
  . exact h.1
  . exact XI.mem h.2 ht
def AZS:∀n:Nat,(∀t:Ty,t.size<=n->mT t->(wrT t).length<=45 * t.size)/\∀l:List Ty,Ty.AQ l<=n->XI l->(K8 l).length<=45 * Ty.AQ l:=by
 intro n
 induction n with
 |zero=>
  refine ⟨fun t h=>?_,fun l h _=>?_⟩
  . obtain ⟨k,m,l⟩:=t;simp only [Ty.size] at h;omega
  . cases l with
    |nil=>simp [K8]
    |cons t l=>obtain ⟨k,m,l'⟩:=t;simp only [Ty.AQ,Ty.size] at h;omega
 |succ n ih=>
  have h1:∀t:Ty,t.size<=n+1->mT t->(wrT t).length<=45 * t.size:=fun t h hw=>by
   obtain ⟨k,m,l⟩:=t;rw [mT] at hw;simp only [Ty.size] at h ⊢;have:=ih.2 l (by omega) hw.2;simp only [wrT,AY,Bm];omega
  refine ⟨h1,fun l=>?_⟩
  induction l with
  |nil=>intro _ _;simp [K8]
  |cons t l ihl=>
   intro h hw;rw [XI] at hw;simp only [Ty.AQ,K8,AY] at h ⊢;have:=h1 t (by omega) hw.1;have:=ihl (by omega) hw.2;omega
def AFI (l:List Ty) (h:∀t∈l,mT t):(K8 l).length<=45 * Ty.AQ l:=by
 refine (AZS _).2 l (AS _) ?_
 induction l with
 |nil=>trivial
 |cons t l ih=>exact ⟨h t (AW),ih fun u hu=>h u (AU _ hu)⟩
def ATF (hd:dt.length<=1000000):∀n:Nat,(∀t:Ty,t.size<=n->CH dt 0 t=true->mT t)/\∀l:List Ty,Ty.AQ l<=n->Bo dt 0 l=true->XI l:=by
 intro n
 induction n with
 |zero=>
  refine ⟨fun t h=>?_,fun l h _=>?_⟩
  . obtain ⟨k,m,l⟩:=t;simp only [Ty.size] at h;omega
  . cases l with
    |nil=>trivial
    |cons t l=>obtain ⟨k,m,l'⟩:=t;simp only [Ty.AQ,Ty.size] at h;omega
 |succ n ih=>
  have h1:∀t:Ty,t.size<=n+1->CH dt 0 t=true->mT t:=fun t h hv=>by
   obtain ⟨k,m,l⟩:=t;simp only [CH,AO] at hv;simp only [Ty.size] at h;refine ⟨?_,ih.2 l (by omega) hv.2⟩;have hs:=hv.1
   have hk:0<=k/\k<=9/\0<=m/\m<=1000000:=by
    unfold Cd at hs;split at hs
    . simp at hs;omega
    . split at hs
      . simp at hs;omega
      . split at hs
        . simp only [AO,decide_eq_true_eq] at hs;cases hm:dt[m.toNat]? with
          |none=>rw [hm] at hs;simp at hs
          |some d=>have:=(AE.1 hm).1;omega
        . split at hs
          . simp at hs;omega
          . split at hs
            . simp at hs;omega
            . split at hs
              . simp at hs;omega
              . cases hs
   exact ⟨Lib.itoa_length_le k (by omega) (by omega),Lib.itoa_length_le m (by omega) (by omega)⟩
  refine ⟨h1,fun l=>?_⟩
  induction l with
  |nil=>intro _ _;trivial
  |cons t l ihl=>
   intro h hv;simp only [Ty.AQ,Bo,AO] at h hv;exact ⟨h1 t (by omega) hv.1,ihl (by omega) hv.2⟩
def BuS.gt {Y:AH} (h:BuS σ0 i s Y):Y.gt=σ0.gt:=h.le.gt.symm
def ATI (σ0:AH) (i:Nat) (hg:σ0.gt gG=some kT) (t:Ty):∀(s:Str) (Y:AH),BuS σ0 i s Y->mT t->s.length+45 * t.size<=10000000000000->
 AR Tzp 61 [.gp i 0,tyA t] Y (fun v σ'=>v= .tup []/\BuS σ0 i (s++wrT t) σ'):=by
 have key:∀(n:Nat) (t:Ty) (s:Str) (Y:AH),t.size<=n->BuS σ0 i s Y->mT t->s.length+45 * t.size<=10000000000000->
  AR Tzp 61 [.gp i 0,tyA t] Y (fun v σ'=>v= .tup []/\BuS σ0 i (s++wrT t) σ'):=by
  intro n
  induction n using Cc with
  |_ n ih=>
   intro t s Y hn hb hw hs;obtain ⟨k,m,l⟩:=t;have hsz:(Ty.mk k m l).size=1+Ty.AQ l:=rfl;have hll:=Ys l;obtain ⟨⟨a1,a2⟩,hwl⟩:=hw;have hi1:=WE k Y (by rw [hb.gt];exact hg);have hi2:=WE m Y (by rw [hb.gt];exact hg);refine nT (by simp) ?_;rw [BD];have c1:=tY (a:=Lib.itoa k) (b:=[58]) (by simp;omega);have c2:=tY (a:=Lib.itoa k++[58]) (b:=Lib.itoa m) (by simp;omega);have c3:=tY (a:=Lib.itoa k++[58]++Lib.itoa m) (b:=[40]) (by simp;omega);(repeat' ((first|refine wQ ?_|(refine AI.mk rfl (XJ (Lib.itoa k++[58]++Lib.itoa m++[40]) hb (by simp;omega)) ?_;rintro _ σ1 ⟨rfl,hb1⟩)|refine AI.det (hi1) ?_|refine AI.det (hi2) ?_|fail)<;>try simp only [c1,c2,c3,D0,go_sem]));refine Run.BB ?_
   refine Run.BE ((fun (a0:AV) (a18:AV) (a19:AV)=>fun (z:Nat×AH)=>put 0 a0 (put 18 a18 (put 19 a19 (put 20 (.d (.int .i64 z.1)) U)))) _ _ _) (fun _=>E) (fun z=>z.2)
    (fun z=>z.1<=l.length/\BuS σ0 i (s++(Lib.itoa k++[58]++Lib.itoa m++[40])++K8 (l.take z.1)) z.2) (fun z=>l.length - z.1) ?_ (0,σ1) ⟨by simp,by simpa [K8] using hb1⟩
   rintro ⟨p,τ⟩ ⟨hp,hbp⟩ ih2;simp only at hp hbp;have hwr:=AFI (l.take p) (fun u hu=>XI.mem hwl (CZ hu));have hs2:=DB l p;by_cases hlt:p < l.length
   . obtain ⟨u,hu⟩:=Ai hlt;have hs1:Ty.AQ (l.take (p+1))=Ty.AQ (l.take p)+u.size:=by rw [A5 hu,Jw]
     have hs3:=DB l (p+1);have hc:=ih u.size (by omega) u _ τ (AS _) hbp (XI.mem hwl (AD hu)) (by simp;omega);have hsn:K8 (l.take (p+1))=K8 (l.take p)++wrT u:=by rw [A5 hu,uL,K8,K8,Bu]
     obtain ⟨k',m',al⟩:=u;have he:=RU hu;have hw1:=wsu p;(repeat' ((first|refine wQ ?_|(refine AI.mk rfl hc ?_;rintro _ τ1 ⟨rfl,hb2⟩)|fail)<;>try simp only [Ap hlt,he,hw1,go_sem]));exact ih2 (p+1,τ1) ⟨hlt,by simp only;rw [hsn,<- Aq];exact hb2⟩ (by simp only;omega)
   . rw [AP (by omega)] at hbp hwr;have hfin:=XJ [41] hbp (by simp;omega);(repeat' ((first|refine wQ ?_|(refine AI.mk rfl hfin ?_;rintro _ τ1 ⟨rfl,hb2⟩)|fail)<;>try simp only [B7 hlt,go_sem]));exact Run.fin Vy rfl (fun _ _ h=>h) (AH.le_refl _) ⟨rfl,by rw [wrT];simpa only [Aq] using hb2⟩
 exact fun s Y=>key t.size t s Y (AS _)
def AbC (x:KV):AV:= .agg [.d (.int .i64 x.1),.d (.str (K8 x.2))]
def ADY (x:KV) (Y:AH) (hg:Y.gt gG=some kT) (hw:∀t∈x.2,mT t) (hs:Ty.AQ x.2<=200000000000):
 AR Tzp 31 [.agg [.d (.int .i64 x.1),N5 x.2]] Y (fun v σ'=>v=AbC x/\σ'=Y):=by
 obtain ⟨f,l⟩:=x;have hll:=Ys l;refine nS (by simp) ?_;rw [Bj,N5];change Ty.AQ l<=200000000000 at hs;change ∀t∈l,mT t at hw;(repeat' (refine wQ ?_<;>try simp only [D0,go_sem]));intro i hi;have h0:=ALO hi;have h1:∃p,((Y.AL i [.EO,.Ad]).Bl i (2,162)).blk i=some [p,.Ad]:=⟨.EO,by simp [AH.Bl,AH.AL]⟩;generalize (Y.AL i [.EO,.Ad]).Bl i (2,162)=τ0 at h0 h1 ⊢;refine Run.BB ?_
 refine Run.BE ((fun (a1:AV) (a2:AV) (a3:AV) (a7:AV) (a8:AV)=>fun (z:Nat×AH)=>put 1 a1 (put 2 a2 (put 3 a3 (put 7 a7 (put 8 a8 (put 9 (.d (.int .i64 z.1)) U)))))) _ _ _ _ _) (fun _=>At 1 [.d (.int .i64 f),.d (.sl (Ty.HE l))] (At 2 [.d (.int .i64 0),.d (.str [])] E)) (fun z=>z.2)
  (fun z=>z.1<=l.length/\BuS Y i (K8 (l.take z.1)) z.2/\(K8 (l.take z.1)=[]->∃p,z.2.blk i=some [p,.Ad])) (fun z=>l.length - z.1) ?_ (0,τ0) ⟨by simp,by simpa [K8] using h0,fun _=>h1⟩
 rintro ⟨p,τ⟩ ⟨hp,hbp,hnp⟩ ih2;simp only at hp hbp hnp;have hwr:=AFI (l.take p) (fun u hu=>hw u (CZ hu));have hs2:=DB l p;by_cases hlt:p < l.length
 . obtain ⟨u,hu⟩:=Ai hlt;have hs1:Ty.AQ (l.take (p+1))=Ty.AQ (l.take p)+u.size:=by rw [A5 hu,Jw]
   have hs3:=DB l (p+1);have hc:=ATI Y i hg u _ τ hbp (hw u (AD hu)) (by omega);have hsn:K8 (l.take (p+1))=K8 (l.take p)++wrT u:=by rw [A5 hu,uL,K8,K8,Bu]
   have hne:K8 (l.take (p+1))≠[]:=by rw [hsn];obtain ⟨a,b,c⟩:=u;simp [wrT]
   rw [<- hsn] at hc;obtain ⟨k',m',al⟩:=u;have he:=RU hu;have hw1:=wsu p;(repeat' ((first|refine wQ ?_|(refine AI.mk rfl hc ?_;rintro _ τ1 ⟨rfl,hb2⟩)|fail)<;>try simp only [Ap hlt,he,hw1,go_sem]));exact ih2 (p+1,τ1) ⟨hlt,hb2,fun h=>absurd h hne⟩ (by simp only;omega)
 . rw [AP (by omega)] at hbp hnp;have hfin:=ALC hbp hnp;(repeat' ((first|refine wQ ?_|(refine AI.mk rfl hfin ?_;rintro _ τ1 ⟨rfl,hle⟩)|(refine Run.Bg Vx hle ?_)|fail)<;>try simp only [B7 hlt,go_sem]));rfl
section
def AHU (x:KV):List DV:=[.int .i64 x.1,.sl (x.2.map Ty.enc)]
abbrev eIn:Nat:=46
structure DmS (Y:AH) (l:List KV) (v:AV) (t:Nat) (τ:AH):Prop where
 ho:CC Y eIn 2 (l.map AHU) v τ
 hm:CC Y 0 1 [] (.own t 0 1 []) τ
 ap:lQ v (.own t 0 1 [])
variable {Y τ:AH} {l:List KV} {v:AV} {t:Nat}
def CC.AcL {t e s:Nat} {rows:List (List DV)} (h:CC Y e s rows (.own t e s rows) τ):τ.tok t=true:=by
 obtain ⟨_,ha,_⟩:=h.app;simp only [O2] at ha;split at ha
 . rename_i hc;exact hc.2.2
 . cases ha
def CC.AXE {e s:Nat} {rows:List (List DV)} (h:CC Y e s rows v τ) (hr:rows≠[]):∃t,v= .own t e s rows:=by
 obtain ⟨_,ha,_⟩:=h.app;unfold O2 at ha;split at ha
 . cases ha;exact absurd rfl hr
 . rename_i t e' s' rows';split at ha
   . rename_i hc;cases ha;exact ⟨t,by rw [hc.1,hc.2.1]⟩
   . cases ha
 . cases ha
def DmS.tok (h:DmS Y l v t τ):τ.tok t=true:=h.hm.AcL
def DmS.reA (h:DmS Y l v t τ) (x:AV):reA t x v=v:=by
 rcases h.ho.slv with rfl|⟨t',e,s,rfl⟩|⟨_,rfl⟩<;>rfl
def DmS.del (h:DmS Y l v t τ):Y.le (τ.CP t):=by
 obtain ⟨σ1,ha,hl⟩:=h.hm.app;simp only [O2] at ha;split at ha
 . cases ha;exact hl
 . cases ha
def DmS.put (h:DmS Y l v t τ) {t':Nat} (ht:τ.tok t'=false):DmS Y l v t' ((τ.CP t).Bq t'):=by
 have hown:=CC.own (e:=0) (s:=1) (rows:=([]:List (List DV))) h.del h.ho.le ht;refine ⟨h.ho.Gw hown.le fun u h1 h2=>?_,hown,fun u h1 h2=>?_⟩
 . have hne:u≠t:=fun e=>h.ap u h1 (by rw [e];rfl);simp [AH.Bq,AH.CP,hne,h2]
 . simp only [tkA,AM] at h2;subst h2
   have:τ.tok t'=true:=by
    obtain ⟨_,ha,_⟩:=h.ho.app;cases v<;>simp only [tkA] at h1<;>try cases h1
    simp only [O2] at ha;split at ha
    . rename_i hc;exact hc.2.2
    . cases ha
   rw [ht] at this;cases this
def DmS.start (t:Nat) (ht:Y.tok t=false):DmS Y [] .Ad t (Y.Bq t):=
 have hown:=CC.own (e:=0) (s:=1) (rows:=([]:List (List DV))) (AH.le_refl Y) (AH.le_refl Y) ht
 ⟨((CC.nil Y eIn 2).Gw hown.le fun u h=>by cases h),hown,pV _⟩
def AKF (h:Nu dt r x=some b) (ho:zM dt r fe x.1.toNat):b.notes.length=fe.body.size:=by
 obtain ⟨s,nt,h1,h2,_,_,hbl,_⟩:=ho;unfold Nu at h;rw [h1,h2] at h;simp only at h;split at h
 . split at h
   . cases h;rw [AA,hbl]
   . cases h
 . cases h
def AQ2 (h:Nu dt r x=some b) (ho:zM dt r fe x.1.toNat):∀n∈b.notes,n.2.length<=900000000:=by
 obtain ⟨s,nt,h1,h2,_,_,_,_,hno⟩:=ho;unfold Nu at h;rw [h1,h2] at h;simp only at h;split at h
 . split at h
   . cases h;intro n hn;obtain ⟨n',hn',rfl⟩:=B8.1 hn;simp only [AJA,dQ];exact (hno n' hn').2.2
   . cases h
 . cases h
def AE5 (M:Nat):∀l:List Ty,(∀t∈l,t.size<=M)->Ty.AQ l<=l.length * M
 |[],_=>by simp [Ty.AQ]
 |t::l,h=>by
  have:=AE5 M l fun u hu=>h u (AU _ hu);have:=h t (AW);rw [Ty.AQ,A0,Bs];omega
def AC9:Except Dg (List KV)->AV
 | .error d=>.tup [.d (.sl []),dgA d]
 | .ok l=>.tup [.d (.sl (l.map AHU)),dgA (0,0,0)]
def g0P (r:Db) (k:Nat):List KV:=(Av k).filterMap fun f=>match r.1[f]? with
 |some s=>if s.vars=0 then some ((f:Int),[]) else none
 |none=>none
def AQR (r:Db) (k:Nat) {s:Sch} (h:r.1[k]?=some s):g0P r (k+1)=if s.vars=0 then g0P r k++[((k:Int),[])] else g0P r k:=by
 unfold g0P;rw [List.range_succ,List.filterMap_append];simp only [List.filterMap_cons,h,List.filterMap_nil];by_cases hs:s.vars=0<;>simp [hs]
def AYL (r:Db) (k:Nat):∀x∈g0P r k,x.1 < (k:Int)/\x.2=[]:=fun x Z=>by
 unfold g0P at Z;rw [List.mem_filterMap] at Z;obtain ⟨f,hf,he⟩:=Z;rw [Bz] at hf;split at he
 . split at he
   . cases he;exact ⟨by simp only;omega,rfl⟩
   . cases he
 . cases he
def AUV (r:Db) (k:Nat):(g0P r k).length<=k:=by
 have:=List.length_filterMap_le (fun f=>match r.1[f]? with
  |some s=>if s.vars=0 then some (((f:Nat):Int),([]:List Ty)) else none
  |none=>none) (Av k)
 simpa [g0P] using this
def xE (p:Pg) (hsm:DSm p.data) (hz:Va p.Dz<=200) (hdl:∀dt,Fo p= .ok dt->dt.length<=1000000) (Y:AH) (hg:Y.gt gG=some kT):
 AR Tzp 9 [pgA p] Y (fun v σ'=>(v=AC9 (AAA p)/\σ'=Y)/\∀r,Dl p= .ok r->∃dt,TyG p dt r):=by
 have hl:=AAZ p hsm hz Y;refine jV (by simp) ?_;rw [Bj];unfold AAA;unfold sF at hl;have herr:=@kA p;cases hres:Dl p with
 |error d=>
  have hd0:=herr hres;rw [hres] at hl;obtain ⟨d1,d2,d3⟩:=d;have hb0:(d1 != 0)=true:=by simpa using hd0
  obtain ⟨ds,fs⟩:=p;simp only [pgA,Pg.enc,AF,AN,dgA] at hl ⊢;(repeat' (first|refine ctQ rfl ?_|((first|refine rgQ mxQ ?_|refine cdQ ?_|(refine AI.mk rfl hl ?_;rintro _ Y ⟨⟨rfl,rfl⟩,_⟩)|(refine Ae rfl (fun h=>?_) (fun h=>?_)<;>try (cases h;done)))<;>try simp only [hb0,go_sem])|(refine ⟨fun h=>?_,fun h=>?_⟩<;>first|(cases h;done)|try simp only [h])|fail));refine Run.Bg Gp (σ2:=Y) (AH.le_refl _) ?_;simp only [R9,go_sem];simp [AC9,dgA]
 |ok r=>
  obtain ⟨dt,hd⟩:=(PM hres).2;have hdt:=hdl dt hd;clear hdl;simp only [hres,hd] at hl ⊢;have h00:((0:Int) != 0)=false:=by decide
  obtain ⟨ds,fs⟩:=p
  have hlf:r.1.length<=24:=by
   have:=(kB hres).1;have h2:=(AKS (PM hres).1 hd hsm hz).lf;omega
  simp only [pgA,Pg.enc,AF,AN,dsA,dgA] at hl ⊢;(repeat' (first|refine ctQ rfl ?_|((first|refine rgQ mxQ ?_|refine cdQ ?_|(refine AI.mk rfl hl ?_;rintro _ Y ⟨⟨rfl,rfl⟩,hG⟩)|(refine Ae rfl (fun h=>?_) (fun h=>?_)<;>try (cases h;done)))<;>try simp only [h00,go_sem])|(refine ⟨fun h=>?_,fun h=>?_⟩<;>first|(cases h;done)|try simp only [h])|fail));refine XEx.mmk (fun t ht=>?_);(repeat' (first|refine ctQ rfl ?_|((first|refine rgQ mxQ ?_|refine cdQ ?_|(refine Ae rfl (fun h=>?_) (fun h=>?_)<;>try (cases h;done)))<;>try simp only [AA,go_sem])|(refine ⟨fun h=>?_,fun h=>?_⟩<;>first|(cases h;done)|try simp only [h])|fail));obtain ⟨dt',hG'⟩:=hG r rfl;have:dt'=dt:=by have:=hG'.dat;rw [hd] at this;cases this;rfl
  subst this;generalize hQ:(fun (v:AV) (σ':AH)=>(v=AC9 (RR fs dt' r 100 0 (lX r))/\σ'=Y)/\∀r_1,(Except.ok r:Except Dg Db)=Except.ok r_1->∃dt,TyG ⟨ds,fs⟩ dt r_1)=Q;have hfin:∀v,v=AC9 (RR fs dt' r 100 0 (lX r))->Q v Y:=fun v hv=>by rw [<- hQ];exact ⟨⟨hv,rfl⟩,hG⟩
  clear hQ hG hl;have hS:=DmS.start t ht;generalize Y.Bq t=τ0 at hS ⊢;refine Run.BB ?_
  refine Run.BE ((fun (a1:AV) (a3:AV) (a4:AV) (a31:AV) (a32:AV)=>fun (z:Nat×List KV×AV×Nat×AH)=>put 1 a1 (put 3 a3 (put 4 a4 (put 6 (z.2.2.1) (put 7 (.om z.2.2.2.1 (mK (z.2.1.map AAV))) (put 31 a31 (put 32 a32 (put 33 (.d (.int .i64 z.1)) U)))))))) _ _ _ _ _) (fun _=>At 1 [.d (.sl (ds.map DE.enc)),.d (.sl (fs.map FE.enc))] (At 3 [.d (.int .i64 0),.d (.int .i64 0),.d (.int .i64 0)] (At 4 [.d (.sl (ds.map DE.enc)),.d (.sl (fs.map FE.enc)),.d (.sl (dt'.map Dat.enc)),.d (.sl (r.1.map JS)),.d (.sl (r.2.map Y2))] E))) (fun z=>z.2.2.2.2)
   (fun z=>z.1<=r.1.length/\z.2.1=g0P r z.1/\DmS Y z.2.1 z.2.2.1 z.2.2.2.1 z.2.2.2.2) (fun z=>r.1.length - z.1) ?_ (0,[],.Ad,t,τ0) ⟨by simp,rfl,hS⟩
  clear hS ht;rintro ⟨p,l,v,t,τ⟩ ⟨hp,hlp,hS⟩ ih;simp only at hp hlp hS;have hgl:=AUV r p;have hgt:=AYL r p;rw [<- hlp] at hgl hgt;by_cases hlt:p < r.1.length
  . obtain ⟨s,hs⟩:=Ai hlt;have he:=BI (enc:=JS) hs;have hw1:=wsu p;have hgs:=AQR r p hs;rw [<- hlp] at hgs;obtain ⟨sv,sp,⟨rk,rn,rus⟩⟩:=s;simp only [JS,Ty.kind,Ty.num,Ty.args] at he;simp only at hgs;by_cases h0:sv=0
    . have hb:(sv==0)=true:=by simpa using h0
      rw [if_pos h0] at hgs;have hkey:=fun τ' (h:τ'.gt gG=some kT)=>ADY ((p:Int),[]) τ' h (by simp) (by simp [Ty.AQ]);have hkey:∀τ',τ'.gt gG=some kT->AR Tzp 31 [.agg [.d (.int .i64 p),.Ad]] τ' (fun v σ'=>v= .agg [.d (.int .i64 p),.d (.str [])]/\σ'=τ'):=fun τ' h=>AR.plain (by simp only [AV.CV,MU,HV,HU];exact hkey τ' h)
      have hno:((p:Int),([]:Str)) ∉ l.map AAV:=fun h=>by
       obtain ⟨x,Z,e⟩:=B8.1 h;have:=(hgt x Z).1;simp only [AAV,BZ] at e;omega
      (repeat' (first|refine ctQ rfl ?_|((first|refine rgQ mxQ ?_|refine cdQ ?_|(refine Ae rfl (fun h=>?_) (fun h=>?_)<;>try (cases h;done)))<;>try simp only [Ap hlt,he,hb,hS.ho.w4,go_sem])|(refine ⟨fun h=>?_,fun h=>?_⟩<;>first|(cases h;done)|try simp only [h])|fail));refine Dh.AY5 (cx:=FW) hS.ho rfl (by simp) (by simp;omega) (by omega) (fun v' τ2 ho' hb' hK=>?_);obtain ⟨q1,q2⟩:=hK _ _ _ _ hS.hm hS.ap;have hS2:DmS Y (l++[((p:Int),[])]) v' t τ2:=⟨by rw [Ao];exact ho',q1,q2⟩;have hg2:τ2.gt gG=some kT:=by rw [<- hS2.ho.le.gt];exact hg
      simp only [go_sem];(repeat' (first|refine ctQ rfl ?_|((first|refine rgQ mxQ ?_|refine cdQ ?_|refine AI.det (hkey _ hg2) ?_|(refine Ae rfl (fun h=>?_) (fun h=>?_)<;>try (cases h;done)))<;>try simp only [go_sem])|(refine ⟨fun h=>?_,fun h=>?_⟩<;>first|(cases h;done)|try simp only [h])|fail));refine aK.pk hS2.tok hno (fun t' ht'=>?_);(repeat' (first|refine ctQ rfl ?_|((first|refine rgQ mxQ ?_|refine cdQ ?_|(refine Ae rfl (fun h=>?_) (fun h=>?_)<;>try (cases h;done)))<;>try simp only [hw1,hS2.reA,go_sem])|(refine ⟨fun h=>?_,fun h=>?_⟩<;>first|(cases h;done)|try simp only [h])|fail));have hgo:=ih (p+1,l++[((p:Int),[])],v',t',(τ2.CP t).Bq t') ⟨hlt,hgs.symm,hS2.put ht'⟩ (by simp only;omega);simp only [Ao] at hgo;exact hgo
    . have hb:(sv==0)=false:=by simpa using h0
      rw [if_neg h0] at hgs;(repeat' (first|refine ctQ rfl ?_|((first|refine rgQ mxQ ?_|refine cdQ ?_|(refine Ae rfl (fun h=>?_) (fun h=>?_)<;>try (cases h;done)))<;>try simp only [Ap hlt,he,hb,hw1,hS.ho.w4,go_sem])|(refine ⟨fun h=>?_,fun h=>?_⟩<;>first|(cases h;done)|try simp only [h])|fail));exact ih (p+1,l,v,t,τ) ⟨hlt,hgs.symm,hS⟩ (by simp only;omega)
  . have hpe:p=r.1.length:=by omega
    subst hpe;have hl0:l=lX r:=hlp;rw [<- hl0] at hfin;clear ih hgt hlp hl0 hlt hp;(repeat' (first|refine ctQ rfl ?_|((first|refine rgQ mxQ ?_|refine cdQ ?_|(refine Ae rfl (fun h=>?_) (fun h=>?_)<;>try (cases h;done)))<;>try simp only [B7 (Nat.lt_irrefl r.1.length),go_sem])|(refine ⟨fun h=>?_,fun h=>?_⟩<;>first|(cases h;done)|try simp only [h])|fail));generalize hD:RR fs dt' r 100 0 l=D at hfin;refine Run.BB ?_
    refine Run.BE ((fun (a1:AV) (a3:AV) (a4:AV)=>fun (z:Nat×List KV×AV×Nat×AH)=>put 1 a1 (put 3 a3 (put 4 a4 (put 6 (z.2.2.1) (put 7 (.om z.2.2.2.1 (mK (z.2.1.map AAV))) (put 11 (.d (.int .i64 z.1)) U)))))) _ _ _) (fun _=>At 1 [.d (.sl (ds.map DE.enc)),.d (.sl (fs.map FE.enc))] (At 3 [.d (.int .i64 0),.d (.int .i64 0),.d (.int .i64 0)] (At 4 [.d (.sl (ds.map DE.enc)),.d (.sl (fs.map FE.enc)),.d (.sl (dt'.map Dat.enc)),.d (.sl (r.1.map JS)),.d (.sl (r.2.map Y2))] E))) (fun z=>z.2.2.2.2)
     (fun z=>z.1<=z.2.1.length/\z.2.1.length<=64/\RR fs dt' r (100 - z.1) z.1 z.2.1=D/\DmS Y z.2.1 z.2.2.1 z.2.2.2.1 z.2.2.2.2) (fun z=>100 - z.1) ?_ (0,l,v,t,τ) ⟨by simp,by simp only;omega,hD,hS⟩
    clear hS hD hgl;rintro ⟨i,l,v,t,τ⟩ ⟨hi,hl64,hgo,hS⟩ ih;simp only at hi hl64 hgo hS;by_cases hlt:i < l.length
    . obtain ⟨⟨f,args⟩,Z⟩:=Ai hlt;have hw1:=wsu i;have hix:=BI (enc:=AHU) Z;simp only [AHU] at hix;obtain ⟨tv,rfl⟩:=hS.ho.AXE (fun e=>by rw [e] at hix;cases hix);have hin:=YL (.sl (ds.map DE.enc)) (.sl (fs.map FE.enc)) dt' r hG'.sp (f,args) τ;rw [show 100 - i=(99 - i)+1 by omega,RR,Z] at hgo;simp only at hgo;simp only [N5,dsA,Ty.Bf] at hin;cases hb:Nu dt' r (f,args) with
      |none=>
       rw [hb] at hgo hin;simp only [AHT] at hin;(repeat' (first|refine ctQ rfl ?_|((first|refine rgQ mxQ ?_|refine cdQ ?_|(refine Run.Bg Gp hS.ho.le ?_)|refine AI.det (hin) ?_|(refine Ae rfl (fun h=>?_) (fun h=>?_)<;>try (cases h;done)))<;>try simp only [AA,Ap hlt,hix,go_sem])|(refine ⟨fun h=>?_,fun h=>?_⟩<;>first|(cases h;done)|try simp only [h])|fail));exact hfin _ (by rw [<- hgo];rfl)
      |some b=>
       have hx1:0<=f/\f < r.1.length:=by
        by_cases h:0<=f/\f < r.1.length
        . exact h
        . unfold Nu at hb;rw [if_neg h] at hb;cases hb
       obtain ⟨m,rfl⟩:∃m:Nat,f=m:=⟨f.toNat,by omega⟩;have hml:m < fs.length:=by have:r.1.length=fs.length:=hG'.len;omega
       obtain ⟨fe,hfe⟩:=Ai hml;have hsp:=hG'.fe m fe hfe;have hfz:=(hG'.pf.ok m fe hfe).2;obtain ⟨_,_,_,_,hgn⟩:=rV hb hsp;have hbl:=AKF hb hsp;have hba:=AQ2 hb hsp;have hrf:=fun τ=>wS (.sl (ds.map DE.enc)) fs m fe hfe (by omega) τ;rw [hb] at hgo hin;simp only [CO,hfe] at hgo;simp only [AHT,bdA] at hin;have hry:=(UB fs (Ca fe.body fe.params) 0).2;have hrl:=(UB fs (Ca fe.body fe.params) 0).1;rw [Pt] at hrl
       have hry:∀y∈tB fs fe,y.1 < b.notes.length:=fun y hy=>by
        have:=(hry y hy).2;rw [Pt] at this;omega
       change (tB fs fe).length<=_ at hrl;generalize tB fs fe=rs at hrf hgo hry hrl;obtain ⟨nts,pps,⟨bk,bn,bus⟩⟩:=b;simp only [Ty.kind,Ty.num,Ty.args] at hin;simp only at hgo hry hgn hbl hba;(repeat' (first|refine ctQ rfl ?_|((first|refine rgQ mxQ ?_|refine cdQ ?_|refine AI.det (hin) ?_|refine AI.det (hrf _) ?_|(refine Ae rfl (fun h=>?_) (fun h=>?_)<;>try (cases h;done)))<;>try simp only [AA,Ap hlt,hix,go_sem])|(refine ⟨fun h=>?_,fun h=>?_⟩<;>first|(cases h;done)|try simp only [h])|fail));refine Run.BB ?_
       refine Run.BE ((fun (a1:AV) (a3:AV) (a4:AV) (a11:AV) (a13:AV) (a77:AV) (a78:AV)=>fun (z:Nat×List KV×AV×Nat×AH)=>put 1 a1 (put 3 a3 (put 4 a4 (put 6 (z.2.2.1) (put 7 (.om z.2.2.2.1 (mK (z.2.1.map AAV))) (put 11 a11 (put 13 a13 (put 77 a77 (put 78 a78 (put 79 (.d (.int .i64 z.1)) U)))))))))) _ _ _ _ _ _ _) (fun _=>At 1 [.d (.sl (ds.map DE.enc)),.d (.sl (fs.map FE.enc))] (At 3 [.d (.int .i64 0),.d (.int .i64 0),.d (.int .i64 0)] (At 4 [.d (.sl (ds.map DE.enc)),.d (.sl (fs.map FE.enc)),.d (.sl (dt'.map Dat.enc)),.d (.sl (r.1.map JS)),.d (.sl (r.2.map Y2))] (At 13 [.d (.sl (nts.map If)),.d (.sl (pps.map Ty.enc)),.d (.int .i64 bk),.d (.int .i64 bn),.d (.sl (bus.map Ty.enc))] E)))) (fun z=>z.2.2.2.2)
        (fun z=>z.1<=rs.length/\l.length<=z.2.1.length/\z.2.1.length<=64/\Vw nts (rs.drop z.1) z.2.1=Vw nts rs l/\DmS Y z.2.1 z.2.2.1 z.2.2.2.1 z.2.2.2.2) (fun z=>rs.length - z.1) ?_ (0,l,_,t,τ) ⟨by simp,AS _,hl64,rfl,hS⟩
       generalize Vw nts rs l=D2 at hgo ⊢;clear hS hin hrf;rintro ⟨q,l2,v2,t2,τ2⟩ ⟨hq,hll,h64,hdr,hS2⟩ ih2;simp only at hq hll h64 hdr hS2;have hle2:=hS2.ho.le;have hg2:τ2.gt gG=some kT:=by rw [<- hle2.gt];exact hg
       by_cases hql:q < rs.length
       . obtain ⟨⟨y1,y2⟩,hy⟩:=Ai hql;have hw2:=wsu q;have hyr:=BI (enc:=AV2) hy;simp only [AV2] at hyr;obtain ⟨⟨n1,n2⟩,hn⟩:=Ai (hry _ (AD hy));have hnm:=AD hn;have hnr:=BI (enc:=If) hn;have hng:=(hgn _ hnm).2;have hnl:=hba _ hnm;simp only at hng hnl
         have hkey:=ADY (y2,n2) τ2 hg2 (fun u hu=>(ATF hdt u.size).1 u (AS _) (by have:=hng u hu;simp only [Q7,AO] at this;exact this.2)) (by
          have:=AE5 200 n2 fun u hu=>by have:=hng u hu;simp only [Q7,AO,decide_eq_true_eq] at this;exact this.1
          simp only;omega)
         obtain ⟨n1a,n1b,n1c⟩:=n1;simp only [If,Ty.enc,AX,Ag] at hnr;simp only [N5,Ty.Bf,AbC] at hkey;have hgd:nts.getD y1 (.mk 0 0 [],[])=(.mk n1a n1b n1c,n2):=by rw [A2,hn];rfl
         rw [By hy,Vw] at hdr;simp only [hgd] at hdr;have hkp:AAV (y2,n2)=(y2,K8 n2):=rfl;rw [hkp] at hdr;(repeat' (first|refine ctQ rfl ?_|((first|refine rgQ mxQ ?_|refine cdQ ?_|refine AI.det (hkey) ?_|(refine Ae rfl (fun h=>?_) (fun h=>?_)<;>try (cases h;done)))<;>try simp only [Ap hql,hyr,hnr,hS2.ho.w4,go_sem])|(refine ⟨fun h=>?_,fun h=>?_⟩<;>first|(cases h;done)|try simp only [h])|fail));refine XEx.AA3 hS2.tok ?_;cases hc:(l2.map AAV).contains (y2,K8 n2) with
         |true=>
          rw [hc,if_pos rfl] at hdr;(repeat' (first|refine ctQ rfl ?_|((first|refine rgQ mxQ ?_|refine cdQ ?_|(refine Ae rfl (fun h=>?_) (fun h=>?_)<;>try (cases h;done)))<;>try simp only [hw2,go_sem])|(refine ⟨fun h=>?_,fun h=>?_⟩<;>first|(cases h;done)|try simp only [h])|fail));exact ih2 (q+1,l2,v2,t2,τ2) ⟨hql,hll,h64,hdr,hS2⟩ (by simp only;omega)
         |false=>
          rw [hc,if_neg (by simp)] at hdr;by_cases hbig:64<=l2.length
          . rw [if_pos hbig] at hdr;have hb64:decide ((64:Int)<=(l2.length:Int))=true:=by simp;omega
            (repeat' (first|refine ctQ rfl ?_|((first|refine rgQ mxQ ?_|refine cdQ ?_|(refine Run.Bg Gp hle2 ?_)|(refine Ae rfl (fun h=>?_) (fun h=>?_)<;>try (cases h;done)))<;>try simp only [hb64,AA,hS2.ho.len,go_sem])|(refine ⟨fun h=>?_,fun h=>?_⟩<;>first|(cases h;done)|try simp only [h])|fail));exact hfin _ (by rw [<- hgo,<- hdr];rfl)
          . rw [if_neg hbig] at hdr;have hb64:decide ((64:Int)<=(l2.length:Int))=false:=by simp;omega
            (repeat' (first|refine ctQ rfl ?_|((first|refine rgQ mxQ ?_|refine cdQ ?_|(refine Ae rfl (fun h=>?_) (fun h=>?_)<;>try (cases h;done)))<;>try simp only [hb64,AA,hS2.ho.len,go_sem])|(refine ⟨fun h=>?_,fun h=>?_⟩<;>first|(cases h;done)|try simp only [h])|fail));refine aK.pk hS2.tok (by simpa using hc) (fun t' ht'=>?_);have hS3:=hS2.put ht';(repeat' (first|refine ctQ rfl ?_|((first|refine rgQ mxQ ?_|refine cdQ ?_|(refine Ae rfl (fun h=>?_) (fun h=>?_)<;>try (cases h;done)))<;>try simp only [hS2.reA,go_sem])|(refine ⟨fun h=>?_,fun h=>?_⟩<;>first|(cases h;done)|try simp only [h])|fail));refine Dh.AY5 (cx:=FW) hS3.ho rfl (by simp) (by simp;omega) (by omega) (fun v' τ3 ho' hb' hK=>?_);obtain ⟨q1,q2⟩:=hK _ _ _ _ hS3.hm hS3.ap;simp only [go_sem];(repeat' (first|refine ctQ rfl ?_|((first|refine rgQ mxQ ?_|refine cdQ ?_|(refine Ae rfl (fun h=>?_) (fun h=>?_)<;>try (cases h;done)))<;>try simp only [hw2,go_sem])|(refine ⟨fun h=>?_,fun h=>?_⟩<;>first|(cases h;done)|try simp only [h])|fail));have hgo2:=ih2 (q+1,l2++[(y2,n2)],v',t',τ3) ⟨hql,by simp;omega,by simp;omega,hdr,by rw [Ao];exact ho',q1,q2⟩ (by simp only;omega);simp only [Ao] at hgo2;exact hgo2
       . rw [KW (by omega),Vw] at hdr;subst hdr;simp only at hgo;(repeat' (first|refine ctQ rfl ?_|((first|refine rgQ mxQ ?_|refine cdQ ?_|(refine Ae rfl (fun h=>?_) (fun h=>?_)<;>try (cases h;done)))<;>try simp only [B7 hql,hw1,go_sem])|(refine ⟨fun h=>?_,fun h=>?_⟩<;>first|(cases h;done)|try simp only [h])|fail));exact ih (i+1,l2,v2,t2,τ2) ⟨by simp only;omega,h64,by simp only;rw [show 100 - (i+1)=99 - i by omega];exact hgo,hS2⟩ (by simp only;omega)
    . have hie:i=l.length:=by omega
      rw [show 100 - i=(99 - i)+1 by omega,RR,BM (by omega)] at hgo;(repeat' (first|refine ctQ rfl ?_|((first|refine rgQ mxQ ?_|refine cdQ ?_|(refine Run.Bg Gp hS.ho.le ?_)|(refine Ae rfl (fun h=>?_) (fun h=>?_)<;>try (cases h;done)))<;>try simp only [AA,B7 hlt,hS.ho.len,hS.ho.w4,hS.ho.plain,go_sem])|(refine ⟨fun h=>?_,fun h=>?_⟩<;>first|(cases h;done)|try simp only [h])|fail));exact hfin _ (by rw [<- hgo];rfl)
end
def awP:Pg:=⟨[],[⟨[105,100],[[120]],.mk 4 [120] 0 [] [] []⟩,⟨[102],[],.mk 3 [] 1 [] [] []⟩]⟩
def AVW (i j:Nat):rB [[],[]] i j=(i==j):=by
 rw [Ak,VW,beq_iff_eq];constructor
 . intro h;cases h with
   |refl=>rfl
   |step h _=>
    match i,h with
    |0,h=>simp at h
    |1,h=>simp at h
    |i+2,h=>simp at h
 . rintro rfl;exact .refl _
def ALY:RP [[],[]]=[[0],[1]]:=by
 simp [RP,Jk,AA6,bX,tA,Y0,fU,cM,Gx,AVW,lsB,Av,List.range.loop]
def awR:Db:=([⟨1,[.mk 4 0 []],.mk 4 0 []⟩,⟨0,[],.mk 1 0 []⟩],[[(.mk 4 0 [],[])],[(.mk 1 0 [],[])]])
def AX0:Q0 awP=(0,0,0):=by decide+kernel
def APL:Fo awP= .ok []:=by kernel_rfl
def APM:Dl awP= .ok awR:=by
 have hc:Ii awP=[[],[]]:=by kernel_rfl
 have hi:Fx awP.Dz [] [[0],[1]] (AG awP.Dz.length lF,AG awP.Dz.length [])= .ok awR:=by kernel_rfl
 unfold Dl Ks;rw [AX0,APL,hc,ALY];simp only [ne_eq,not_true,if_false,hi]
def AX1:AAA awP= .ok [(1,[])]:=by
 have h:RR awP.Dz [] awR 100 0 (lX awR)= .ok [(1,[])]:=by kernel_rfl
 unfold AAA;rw [APM,APL];exact h
set_option maxRecDepth 100000
set_option maxHeartbeats 40000000
noncomputable section
def y9:List (Nat×PT):=[(20,(pL [17] (pO [0,1,2,3,4,5,6,7,8,9,10,11,12,13,14,15,16,18,19] .done)))]
noncomputable def FV:Cx:=⟨Tzp,18,Tryz.f18,139,[300015,300021,300027,300033,300038,300045,300049,300051,300056,300063,300074,300082,300090,300100,300103,300105,300122,300123,300128,300129,300134],[],[.t 2,.c 3 (some 3)]⟩
instance MD:Good FV:=⟨Tryz.func18,by kernel_rfl,mixed⟩
def AIY:FV.rs=[.t 2,.c 3 (some 3)]:=rfl
noncomputable def ZL:=BG FV y9 fun c a b d=>G c [a,b,d]
def O3:C:=lpC 0 (ZL .skip .skip .skip)
def U5:C:=lpC 1 (ZL O3 .skip .skip)
def zU:C:=lpC 2 (ZL O3 U5 .skip)
def ALQ:C:=(ZL O3 U5 zU).1
def AMQ:Inn FV ALQ 139:=inn y9 MD Tryz.ntmps18
noncomputable def AJL:Cx:=⟨Tzp,21,Tryz.f21,64,[34,300011,300016,300018,300021,300027,300031,300037,300043,300051,300053],[],[.c 2 (some 3)]⟩
instance AYN:Good AJL:=⟨Tryz.func21,by kernel_rfl,mixed⟩
noncomputable def AFL:Cx:=⟨Tzp,34,Tryz.f34,6,[300003],[],[.t 2]⟩
instance AXA:Good AFL:=⟨Tryz.func34,by kernel_rfl,mixed⟩
noncomputable def ZS:Cx:=⟨Tzp,42,Tryz.f42,19,[],[],[.t 4]⟩
instance AMK:Good ZS:=⟨Tryz.func42,by kernel_rfl,mixed⟩
def AIZ:ZS.rs=[.t 4]:=rfl
noncomputable def yE:=BG ZS [] fun c a=>G c [a]
def zV:C:=lpC 0 (yE .skip)
def ALR:C:=(yE zV).1
def AMR:Inn ZS ALR 19:=inn [] AMK Tryz.ntmps42
noncomputable def Vl:Cx:=⟨Tzp,43,Tryz.f43,32,[],[],[.t 2]⟩
instance AHE:Good Vl:=⟨Tryz.func43,by kernel_rfl,mixed⟩
def AEW:Vl.rs=[.t 2]:=rfl
noncomputable def cY:=BG Vl [] fun c a b=>G c [a,b]
def aO:C:=lpC 0 (cY .skip .skip)
def u3:C:=lpC 1 (cY aO .skip)
def AGE:C:=(cY aO u3).1
def AHN:Inn Vl AGE 32:=inn [] AHE Tryz.ntmps43
def gX:List (Nat×PT):=[(23,(pL [12] (pO [0,1,2,3,4,5,6,7,8,9,10,11,13,14] .done)))]
noncomputable def LP:Cx:=⟨Tzp,44,Tryz.f44,124,[300018,300021,300026,300030,300037,300041,300045,300048,300050,300058,300065,300071,300079,300096,300102,300106,300118,300119,300123],[],[.c 10 (some 3),.t 11]⟩
instance IV:Good LP:=⟨Tryz.func44,by kernel_rfl,mixed⟩
def wV:LP.rs=[.c 10 (some 3),.t 11]:=rfl
noncomputable def VG:=BG LP gX fun c a b=>G c [a,b]
def Vu:C:=lpC 0 (VG .skip .skip)
def Vv:C:=lpC 1 (VG Vu .skip)
def zW:C:=(VG Vu Vv).1
def AAM:Inn LP zW 124:=inn gX IV Tryz.ntmps44
noncomputable def Yx:Cx:=⟨Tzp,47,Tryz.f47,28,[],[],[.t 4]⟩
instance ADJ:Good Yx:=⟨Tryz.func47,by kernel_rfl,mixed⟩
noncomputable def hX:Cx:=⟨Tzp,48,Tryz.f48,250,[300041,300046,300051,300074,300083,300104,300111,300120,300124,300129,300135,300151,300159,300167,300171,300180,300185,300190,300198,300203,300208,300222,300230,300237],[],[.t 6,.t 7]⟩
instance AJ8:Good hX:=⟨Tryz.func48,by kernel_rfl,mixed⟩
noncomputable def pB:Cx:=⟨Tzp,70,Tryz.f70,162,[34,54,81],[],[.t 2]⟩
instance APD:Good pB:=⟨Tryz.func70,by kernel_rfl,mixed⟩
noncomputable def AJK:Cx:=⟨Tzp,71,Tryz.f71,84,[35,300012,300017,300020,300027,300032,300038,300044,300052],[],[.t 2]⟩
instance AYM:Good AJK:=⟨Tryz.func71,by kernel_rfl,mixed⟩
noncomputable def lO:Cx:=⟨Tzp,86,Tryz.f86,38,[],[],[.t 4,.t 5,.t 6]⟩
instance AMJ:Good lO:=⟨Tryz.func86,by kernel_rfl,mixed⟩
noncomputable def lP:Cx:=⟨Tzp,87,Tryz.f87,111,[],[],[.t 4]⟩
instance AML:Good lP:=⟨Tryz.func87,by kernel_rfl,mixed⟩
attribute [go_sem] AIY AIZ AEW wV
end
def dJ (l:List Str) (s:Str) (Y:AH):AR Tzp 42 [.d (.sl (l.map BX)),.d (.str s)] Y (fun v σ'=>v= .d (.int .i64 (HQ (DP l s)))/\σ'=Y):=by
 refine AMR (by simp) ?_;rw [BD,<- To];refine Run.slot 0 (fun hb0=>?_);simp only [DR,if_true,AV.Ev,AA] at hb0;(repeat' (refine wQ ?_<;>try simp only [go_sem]));refine Run.BB ?_;refine Run.BE ((fun (a0:AV) (a1:AV)=>fun (i:Nat)=>put 0 a0 (put 1 a1 (put 5 (.d (.int .i64 i)) U))) _ _) (fun _=>E) (fun _=>Y) (fun i=>i<=l.length/\∀x∈l.take i,(x==s)=false) (fun i=>l.length - i) ?_ 0 ⟨by simp,by simp⟩;rintro i ⟨hi,hno⟩ ih;by_cases hlt:i < l.length
 . obtain ⟨x,Z⟩:=Ai hlt;have he:=BI (enc:=BX) Z;simp only [BX] at he;have hw1:=wsu i;cases hp:(x==s) with
   |true=>
    (repeat' (refine wP ?_<;>try simp only [Ap hlt,he,CA,hp,AA,go_sem]));rw [Dj (p:=fun x=>x==s) hno Z hp];rfl
   |false=>
    (repeat' (refine wQ ?_<;>try simp only [Ap hlt,he,hw1,CA,hp,AA,go_sem]));exact ih (i+1) ⟨by omega,F7 (p:=fun x=>x==s) hno Z hp⟩ (by omega)
 . (repeat' (refine wP ?_<;>try simp only [B7 hlt,AA,go_sem]));rw [AP (by omega)] at hno;rw [Dk (p:=fun x=>x==s) hno];rfl
def AEK (l:List Str) (Y:AH):AR Tzp 43 [.d (.sl (l.map BX))] Y (fun v σ'=>v= .d (.bool (DC l))/\σ'=Y):=by
 refine AHN (by simp) ?_;rw [Bj];refine Run.slot 0 (fun hb0=>?_);simp only [DR,if_true,AV.Ev,AA] at hb0;(repeat' (refine wQ ?_<;>try simp only [go_sem]));refine Run.BB ?_;refine Run.BE ((fun (a0:AV)=>fun (i:Nat)=>put 0 a0 (put 3 (.d (.int .i64 i)) U)) _) (fun _=>E) (fun _=>Y) (fun i=>i<=l.length/\DC (l.take i)=false) (fun i=>l.length - i) ?_ 0 ⟨by simp,by simp [DC]⟩;rintro i ⟨hi,hno⟩ ih;by_cases hlt:i < l.length
 . obtain ⟨x,Z⟩:=Ai hlt;have he:=BI (enc:=BX) Z;simp only [BX] at he;have hw1:=wsu i;have hsn:=Yr (l.take i) x;rw [<- A5 Z,hno,Ep] at hsn;(repeat' (refine wQ ?_<;>try simp only [Ap hlt,AA,go_sem]));refine Run.BB ?_;refine Run.BE ((fun (a0:AV) (a3:AV)=>fun (j:Nat)=>put 0 a0 (put 3 a3 (put 4 (.d (.int .i64 j)) U))) _ _) (fun _=>E) (fun _=>Y) (fun j=>j<=i/\∀y∈l.take j,((x==y)&& !(x==[]))=false) (fun j=>i - j) ?_ 0 ⟨by simp,by simp⟩;rintro j ⟨hj,hnj⟩ ih2;by_cases hji:j < i
   . obtain ⟨y,hy⟩:=Ai (show j < l.length by omega);have hey:=BI (enc:=BX) hy;simp only [BX] at hey;have hw2:=wsu j;cases h1:(x==y) with
     |false=>
      (repeat' (refine wQ ?_<;>try simp only [Ap hji,he,hey,hw2,CA,h1,go_sem]));exact ih2 (j+1) ⟨by omega,F7 (p:=fun y=>(x==y)&& !(x==[])) hnj hy (by simp only [h1,Mk])⟩ (by omega)
     |true=>
      cases h2:(x==[]) with
      |true=>
       (repeat' (refine wQ ?_<;>try simp only [Ap hji,he,hey,hw2,CA,F1,h1,h2,go_sem]));exact ih2 (j+1) ⟨by omega,F7 (p:=fun y=>(x==y)&& !(x==[])) hnj hy (by simp only [h2,XC,Cy])⟩ (by omega)
      |false=>
       have hct:(l.take i).contains x=true:=by
        have:x=y:=by simpa using h1
        subst this;rw [Ar];exact AD (by rw [B2,if_pos hji];exact hy)
       (repeat' (refine wP ?_<;>try simp only [Ap hji,he,hey,CA,F1,h1,h2,go_sem]));rw [mM (i:=i+1) (by rw [hsn,h2,hct];rfl)]
   . have hje:j=i:=by omega
     subst hje
     have hct:(!(x==[])&&(l.take j).contains x)=false:=by
      cases h2:(x==[]) with
      |true=>rfl
      |false=>
       rw [Iv,Bk,CX];intro hc;rw [Ar] at hc;have:=hnj x hc;simp [h2] at this
     (repeat' (refine wQ ?_<;>try simp only [B7 hji,hw1,go_sem]));exact ih (j+1) ⟨by omega,by rw [hsn,hct]⟩ (by omega)
 . (repeat' (refine wP ?_<;>try simp only [B7 hlt,AA,go_sem]));rw [AP (by omega)] at hno;rw [hno]
def oK (ps:List DE) (fs:List FE) (ds:List (Str×Nat)) (vars:List Str) (k num:Int) (n:Str) (l:List TE) (τ:AH) (hll:l.length<=1000000)
 (ih:∀x∈l,∀τ',AR Tzp 44 [pgA ⟨ps,fs⟩,.d (.sl ((ds.map (·.1)).map BX)),.d (.sl (vars.map BX)),teA x,.d (.bool false)] τ' (fun v σ'=>v=Y6 (Io ds vars false x)/\σ'=τ')):
 Run LP (fun v σ'=>v=Y6 ((DA ds vars l).map (Ty.mk k num))/\σ'=τ) [.code (.loop Vv),.blk 3,.code (.seq (.reg [⟨some 123,.ldl (.t 12) (some 3),none⟩,⟨none,.st (.t 10) (.t 123) 3,none⟩,⟨some 11,.mv (.c (.d (.int .i64 0))),none⟩] [10,11]) .ret)]
  (put 1 (.d (.sl ((ds.map (·.1)).map BX))) (put 2 (.d (.sl (vars.map BX))) (put 5 (.lp 5 0) (put 8 (.lp 8 0) (put 10 (.lp 10 0) (put 12 (.lp 12 0) (put 14 (.d (.int .i64 0)) U)))))))
  (At 5 [.d (.sl (ps.map DE.enc)),.d (.sl (fs.map FE.enc))] (At 8 [.d (.int .i64 k),.d (.str n),.d (.sl (l.map TE.enc))] (At 10 [.d (.int .i64 0),.d (.int .i64 0),.Ad] (At 12 [.d (.int .i64 k),.d (.int .i64 num),.Ad] E)))) τ:=by
 refine Run.BB ?_
 refine Run.BE ((fun (a1:AV) (a2:AV) (a5:AV) (a8:AV) (a10:AV) (a12:AV)=>fun (y:Nat×List Ty×AV×AH)=>put 1 a1 (put 2 a2 (put 5 a5 (put 8 a8 (put 10 a10 (put 12 a12 (put 14 (.d (.int .i64 y.1)) U))))))) _ _ _ _ _ _) (fun y=>At 5 [.d (.sl (ps.map DE.enc)),.d (.sl (fs.map FE.enc))] (At 8 [.d (.int .i64 k),.d (.str n),.d (.sl (l.map TE.enc))] (At 10 [.d (.int .i64 0),.d (.int .i64 0),.Ad] (At 12 [.d (.int .i64 k),.d (.int .i64 num),y.2.2.1] E)))) (fun y=>y.2.2.2)
  (fun y=>y.1<=l.length/\y.2.1.length=y.1/\DA ds vars (l.take y.1)= .ok y.2.1/\CC τ 42 3 (y.2.1.map Ty.enc) y.2.2.1 y.2.2.2) (fun y=>l.length - y.1) ?_ (0,[],.Ad,τ) ⟨by simp,rfl,rfl,CC.nil _ _ _⟩
 rintro ⟨i,us,uv,τ1⟩ ⟨hi,hlu,hok,ho⟩ ih2;simp only at hi hlu hok ho;by_cases hlt:i < l.length
 . obtain ⟨x,Z⟩:=Ai hlt;have he:=BI (enc:=TE.enc) Z;have hw1:=wsu i
   have hall:DA ds vars l=(DA ds vars (x::l.drop (i+1))).map (us++·):=by
    conv=>lhs;rw [<- A7 i l,By Z]
    exact UC _ _ _ hok
   have hsn:DA ds vars (l.take (i+1))=(DA ds vars [x]).map (us++·):=by
    rw [A5 Z];exact UC _ _ _ hok
   rw [DA] at hall;rw [DA,DA] at hsn;have hc:=ih x (AD Z) τ1;simp only [pgA,Pg.enc,AF,AN] at hc;cases hr:Io ds vars false x with
   |error e=>
    rw [hr] at hc hall;have hne:=gJ x false e hr;have hne':(e != 0)=true:=by simpa using hne
    obtain ⟨xk,xn,xl⟩:=x;simp only [TE.A4,teA,AF,AN,Y6] at he hc;(repeat' ((first|refine wQ ?_|(refine Run.Bg IV ho.le ?_)|refine AI.det (hc) ?_|fail)<;>try simp only [Ap hlt,he,hne',AA,go_sem]));rw [hall];rfl
   |ok u=>
    rw [hr] at hc hsn;simp only [C4] at hsn;obtain ⟨uk,un,ul⟩:=u;obtain ⟨xk,xn,xl⟩:=x;simp only [TE.A4,teA,AF,AN,Y6,tyA,Ty.enc] at he hc;have h00:((0:Int) != 0)=false:=by decide
    (repeat' ((first|refine wQ ?_|(refine Dh.own ho rfl (by simp) (by simp;omega) (by decide) (fun v2 σ2 ho2 hbk=>?_))|refine AI.det (hc) ?_|fail)<;>try simp only [Ap hlt,he,h00,ho.w4,AA,go_sem]));simp only [ho2.cells,ho2.cell,go_sem];(repeat' (refine wQ ?_<;>try simp only [hw1,go_sem]));exact ih2 (i+1,us++[.mk uk un ul],v2,σ2) ⟨by simp only;omega,by simp [hlu],hsn,by simpa [Ty.enc] using ho2⟩ (by simp only;omega)
 . rw [AP (by omega)] at hok;(repeat' ((first|refine wQ ?_|(refine Run.Bg IV ho.le ?_)|fail)<;>try simp only [B7 hlt,ho.cell,AA,go_sem]));rw [ho.plain,hok];simp [Y6,tyA,Ty.enc,Ty.Bf,C4]
def mD:∀ {l:List TE} {vs:List Str},l.length=vs.length->(∀(j:Nat) (t:TE) (v:Str),l[j]?=some t->vs[j]?=some v->rY t v=true)->Fy l vs=true
 |[],[],_,_=>rfl
 |[],v::vs,h,_=>by simp at h
 |t::l,[],h,_=>by simp at h
 |t::l,v::vs,h,hp=>by
  rw [Kz,hp 0 t v rfl rfl,mD (by simpa using h) (fun j t' v' h1 h2=>hp (j+1) t' v' h1 h2)];rfl
def dF:∀ {l:List TE} {vs:List Str} {j:Nat} {t:TE} {v:Str},l[j]?=some t->vs[j]?=some v->rY t v=false->Fy l vs=false
 |[],vs,j,t,v,h,_,_=>by simp at h
 |t::l,[],j,t',v,_,h,_=>by simp at h
 |t::l,v::vs,0,t',v',h1,h2,h=>by
  simp only [Aw,AM] at h1 h2;subst h1;subst h2;rw [Kz,h];rfl
 |t::l,v::vs,j+1,t',v',h1,h2,h=>by
  rw [Kz,dF (j:=j) (by simpa using h1) (by simpa using h2) h,Cy]
structure APE (ps:List DE) (ds:List (Str×Nat)) (vars:List Str):Prop where
 at':∀(i:Nat) (x:Str×Nat),ds[i]?=some x->∃d:DE,ps[i]?=some d/\d.vars.length=x.2
 last:∀x:Str×Nat,ds[ds.length - 1]?=some x->x.2=vars.length
 ne:ds.length<=1000000
def wO (ps:List DE) (fs:List FE) (ds:List (Str×Nat)) (vars:List Str) (hh:APE ps ds vars):
 ∀(N:Nat) (t:TE) (whole:Bool) (τ:AH),t.size<=N->t.size<=1000000->AR Tzp 44 [pgA ⟨ps,fs⟩,.d (.sl ((ds.map (·.1)).map BX)),.d (.sl (vars.map BX)),teA t,.d (.bool whole)] τ (fun v σ'=>v=Y6 (Io ds vars whole t)/\σ'=τ):=by
 intro N
 induction N with
 |zero=>intro t whole τ h;have:=TE.size_pos t;omega
 |succ N ihN=>
 rintro ⟨k,n,l⟩ whole τ hN hsz;simp only [TE.size] at hN hsz;have hlen:=TE.Bx l
 have hloop:=fun num=>oK ps fs ds vars k num n l τ (by omega) (fun x Z τ'=>by
  have:=TE.Im Z;exact ihN x false τ' (by omega) (by omega))
 clear ihN;refine AAM (by simp) ?_;rw [AF3,teA,TE.A4];simp only [pgA,Pg.enc,AF,AN];by_cases h4:k=4
 . subst h4
   have hres:Io ds vars whole (.mk 4 n l)=match DP vars n with|none=>.error 3|some i=>(DA ds vars l).map (Ty.mk 4 i):=by
    rw [Io,if_pos rfl];rfl
   have hi:=dJ vars n τ;cases hix:DP vars n with
   |none=>
    rw [hix] at hi hres;simp only [HQ] at hi hres;have hneg:decide ((-1:Int) < 0)=true:=by decide
    (repeat' ((first|refine wP ?_|refine AI.det (hi) ?_|fail)<;>try simp only [hneg,go_sem]));rw [hres];rfl
   |some i=>
    rw [hix] at hi hres;simp only [HQ] at hi hres;have hneg:decide ((i:Int) < 0)=false:=decide_eq_false (by omega);rw [hres];(repeat' ((first|refine wQ ?_|refine AI.det (hi) ?_|fail)<;>try simp only [hneg,go_sem]));exact hloop i
 by_cases h5:k=5
 . subst h5
   have hres:Io ds vars whole (.mk 5 n l)=match DP (ds.map (·.1)) n with|none=>.error 3|some i=>if l.length≠(ds.getD i ([],0)).2 then .error 5 else if i+1=ds.length/\¬(whole=true/\Fy l vars=true) then .error 7 else (DA ds vars l).map (Ty.mk 5 i):=by
    rw [Io,if_neg h4,if_pos rfl];rfl
   have hf:=dJ (ds.map (·.1)) n τ;cases hix:DP (ds.map (·.1)) n with
   |none=>
    rw [hix] at hf hres;simp only [HQ] at hf hres;have hneg:decide ((-1:Int) < 0)=true:=by decide
    (repeat' ((first|refine wP ?_|refine AI.det (hf) ?_|fail)<;>try simp only [Aa,hneg,go_sem]));rw [hres];rfl
   |some i=>
    have hsp:=PL hix;rw [Am,AK] at hsp;obtain ⟨x,Z,hxn⟩:=hsp;obtain ⟨d,hd,hdv⟩:=hh.at' i x Z;have hil:=(AE.1 Z).1;have hgd:ds.getD i ([],0)=x:=by rw [A2,Z];rfl
    rw [hix] at hf hres;simp only [HQ,hgd] at hf hres;have hneg:decide ((i:Int) < 0)=false:=decide_eq_false (by omega);have hed:=BI (enc:=DE.enc) hd;obtain ⟨dn,dvs',dc⟩:=d;simp only [DE.enc] at hed hdv
    have hcmp:((l.length:Int) != (dvs'.length:Int))=decide (l.length≠x.2):=by
     rw [Ak];simp only [bne_iff_ne,ne_eq,decide_eq_true_eq];omega
    by_cases hA:l.length≠x.2
    . rw [decide_eq_true hA] at hcmp;rw [if_pos hA] at hres;(repeat' ((first|refine wP ?_|refine AI.det (hf) ?_|fail)<;>try simp only [Aa,hneg,AA,hed,hcmp,go_sem]));rw [hres];rfl
    . rw [decide_eq_false hA] at hcmp;rw [if_neg hA] at hres;have hdl:=hh.ne;have hw1:IntKind.i64.wrap ((ds.length:Int) - 1)=((ds.length - 1:Nat):Int):=by rw [D4 (by omega) (by omega)];omega
      have hlast:((i:Int)==((ds.length - 1:Nat):Int))=decide (i+1=ds.length):=by
       rw [Ak];simp only [beq_iff_eq,decide_eq_true_eq];omega
      by_cases hB:i+1=ds.length
      . rw [decide_eq_true hB] at hlast
        have hlv:l.length=vars.length:=by
         have:=hh.last x (by rw [show ds.length - 1=i by omega];exact Z);omega
        (repeat' ((first|refine wQ ?_|refine AI.det (hf) ?_|fail)<;>try simp only [Aa,hneg,AA,hed,hcmp,hw1,hlast,go_sem]));refine Run.BB ?_
        refine Run.BE ((fun (a1:AV) (a2:AV) (a4:AV) (a5:AV) (a8:AV) (a10:AV) (a12:AV)=>fun (j:Nat)=>put 1 a1 (put 2 a2 (put 4 a4 (put 5 a5 (put 8 a8 (put 10 a10 (put 12 a12 (put 13 (.d (.int .i64 j)) U)))))))) _ _ _ _ _ _ _) (fun _=>At 5 [.d (.sl (ps.map DE.enc)),.d (.sl (fs.map FE.enc))] (At 8 [.d (.int .i64 5),.d (.str n),.d (.sl (l.map TE.enc))] (At 10 [.d (.int .i64 0),.d (.int .i64 0),.Ad] (At 12 [.d (.int .i64 5),.d (.int .i64 i),.Ad] E)))) (fun _=>τ)
         (fun j=>j<=l.length/\∀(q:Nat) (t:TE) (v:Str),q < j->l[q]?=some t->vars[q]?=some v->rY t v=true) (fun j=>l.length - j) ?_ 0 ⟨by simp,fun q _ _ hq=>by omega⟩
        rintro j ⟨hj,hpj⟩ ih2;by_cases hjl:j < l.length
        . obtain ⟨t,ht⟩:=Ai hjl;obtain ⟨v,hv⟩:=Ai (show j < vars.length by omega);have het:=BI (enc:=TE.enc) ht;have hev:=BI (enc:=BX) hv;have hwj:=wsu j;obtain ⟨tk,tn,tl⟩:=t;simp only [TE.A4,BX] at het hev;have hip:rY (.mk tk tn tl) v=(tk==4&&tn==v):=rfl;by_cases hk4:tk=4
          . subst hk4;have hn4:((4:Int) != 4)=false:=by decide
            cases hv2:(tn==v) with
            |true=>
             have hvn:(tn != v)=false:=by simpa [bne] using hv2
             (repeat' (refine wQ ?_<;>try simp only [Ap hjl,het,hev,hn4,F1,hv2,hwj,AA,go_sem]));refine ih2 (j+1) ⟨by omega,fun q t' v' hq h1 h2=>?_⟩ (by omega);rcases C8 q j with h|h
             . exact hpj q t' v' h h1 h2
             . have:q=j:=by omega
               subst this;rw [ht] at h1;rw [hv] at h2;cases h1;cases h2;rw [hip,hv2];rfl
            |false=>
             have hpb:Fy l vars=false:=dF ht hv (by rw [hip,hv2];rfl);rw [if_pos ⟨hB,by simp [hpb]⟩] at hres;have hvn:(tn != v)=true:=by simp [bne,hv2]
             (repeat' ((first|refine wQ ?_|(refine Run.Bg IV (σ2:=τ) (AH.le_refl _) ?_)|fail)<;>try simp only [Ap hjl,het,hev,hn4,F1,hv2,AA,go_sem]));rw [hres];rfl
          . have hn4:(tk != 4)=true:=by simpa using hk4
            have hpb:Fy l vars=false:=dF ht hv (by rw [hip,Cf hk4];rfl);rw [if_pos ⟨hB,by simp [hpb]⟩] at hres;(repeat' ((first|refine wQ ?_|(refine Run.Bg IV (σ2:=τ) (AH.le_refl _) ?_)|fail)<;>try simp only [Ap hjl,het,hn4,AA,go_sem]));rw [hres];rfl
        . have hpb:Fy l vars=true:=mD hlv (fun q t v h1 h2=>hpj q t v (by have:=(AE.1 h1).1;omega) h1 h2);cases whole with
          |false=>
           rw [if_pos ⟨hB,by simp⟩] at hres;(repeat' ((first|refine wQ ?_|(refine Run.Bg IV (σ2:=τ) (AH.le_refl _) ?_)|fail)<;>try simp only [B7 hjl,AA,go_sem]));rw [hres];rfl
          |true=>
           rw [if_neg (by simp [hpb])] at hres;rw [hres];(repeat' (refine wQ ?_<;>try simp only [B7 hjl,AA,go_sem]));exact hloop i
      . rw [decide_eq_false hB] at hlast;rw [if_neg (fun h=>hB h.1)] at hres;rw [hres];(repeat' ((first|refine wQ ?_|refine AI.det (hf) ?_|fail)<;>try simp only [Aa,hneg,AA,hed,hcmp,hw1,hlast,go_sem]));exact hloop i
 . have hres:Io ds vars whole (.mk k n l)=(DA ds vars l).map (Ty.mk k 0):=by rw [Io,if_neg h4,if_neg h5]
   rw [hres];(repeat' (refine wQ ?_<;>try simp only [Cf h4,Cf h5,go_sem]));exact hloop 0
def s7 (ps:List DE) (fs:List FE) (ds:List (Str×Nat)) (vars:List Str) (hh:APE ps ds vars) (t:TE) (hsz:t.size<=1000000) (nv:AV) (hnv:nv.plain= .d (.sl ((ds.map (·.1)).map BX))) (whole:Bool) (τ:AH):
 AR Tzp 44 [pgA ⟨ps,fs⟩,nv,.d (.sl (vars.map BX)),teA t,.d (.bool whole)] τ (fun v σ'=>v=Y6 (Io ds vars whole t)/\σ'=τ):=by
 refine AR.plain ?_;have:=wO ps fs ds vars hh t.size t whole τ (AS _) hsz
 have hp:∀l:List DV,AV.CV (l.map AV.d)=l.map AV.d:=fun l=>by
  induction l with
  |nil=>rfl
  |cons x l ih=>rw [AF,AV.CV,HU,ih]
 simp only [AV.CV,hnv,HU,pgA,teA,MU,hp];exact this
def AIQ (Q:AV->AH->Prop) (rest:List CI) (ps:List DE) (fs:List FE) (ds:List (Str×Nat)) (dn:Str) (dvs':List Str) (dcs:List CE) (hh:APE ps ds dvs') (cn:Str) (car:List TE) (ci i:Nat) (hc:dcs[ci]?=some ⟨cn,car⟩) (hsm:∀t∈car,t.size<=1000000) (hal:car.length<=1000)
 (σ0 τ:AH) (out nv used a9 b9 consv:AV) (l:List Ow) (hown:Ig σ0 l τ) (hle:σ0.le τ) (hnv:nv.plain= .d (.sl ((ds.map (·.1)).map BX))) (hnl:nv.BS=true) (hlp:∀k,nv.CL k=false/\out.CL k=false/\used.CL k=false)
 (herr:∀e,EB ds dvs' car= .error e->Q (.tup [.d (.sl []),.agg [.d (.int .i64 e),.d (.int .i64 (-1)),.d (.int .i64 i)]]) σ0)
 (hfin:∀us uv τ',EB ds dvs' car= .ok us->Ig σ0 (⟨42,3,us.map Ty.enc,uv⟩::l) τ'->σ0.le τ'->Run FV Q rest
   (put 1 (.lp 1 0) (put 3 (.lp 3 0) (put 4 out (put 5 nv (put 6 used (put 7 (.d (.int .i64 i)) (put 8 (.lp 8 0) (put 9 (.lp 9 0) (put 10 (.d (.int .i64 ci)) (put 11 (.lp 11 0) (put 12 (.d (.int .i64 car.length)) (put 96 (.d (.bool false)) U))))))))))))
   (At 1 [.d (.sl (ps.map DE.enc)),.d (.sl (fs.map FE.enc))] (At 3 [.d (.int .i64 0),.d (.int .i64 0),.d (.int .i64 0)] (At 8 [.d (.str dn),.d (.sl (dvs'.map BX)),.d (.sl (dcs.map CE.enc))] (At 9 [a9,b9,consv] (At 11 [.d (.str cn),uv] E))))) τ'):
 Run FV Q (.code (.loop O3)::.blk 4::rest)
  (put 1 (.lp 1 0) (put 3 (.lp 3 0) (put 4 out (put 5 nv (put 6 used (put 7 (.d (.int .i64 i)) (put 8 (.lp 8 0) (put 9 (.lp 9 0) (put 10 (.d (.int .i64 ci)) (put 11 (.lp 11 0) (put 12 (.d (.int .i64 0)) U)))))))))))
  (At 1 [.d (.sl (ps.map DE.enc)),.d (.sl (fs.map FE.enc))] (At 3 [.d (.int .i64 0),.d (.int .i64 0),.d (.int .i64 0)] (At 8 [.d (.str dn),.d (.sl (dvs'.map BX)),.d (.sl (dcs.map CE.enc))] (At 9 [a9,b9,consv] (At 11 [.d (.str cn),.Ad] E))))) τ:=by
 have hlp1:=fun k=>(hlp k).1;have hlp2:=fun k=>(hlp k).2.1;have hlp3:=fun k=>(hlp k).2.2;have hec:=BI (enc:=CE.enc) hc;simp only [CE.enc] at hec;refine Run.BB ?_
 refine Run.BE ((fun (a1:AV) (a3:AV) (a4:AV) (a5:AV) (a6:AV) (a7:AV) (a8:AV) (a9:AV) (a10:AV) (a11:AV)=>fun (y:Nat×List Ty×AV×AH)=>put 1 a1 (put 3 a3 (put 4 a4 (put 5 a5 (put 6 a6 (put 7 a7 (put 8 a8 (put 9 a9 (put 10 a10 (put 11 a11 (put 12 (.d (.int .i64 y.1)) U))))))))))) _ _ _ _ _ _ _ _ _ _) (fun y=>At 1 [.d (.sl (ps.map DE.enc)),.d (.sl (fs.map FE.enc))] (At 3 [.d (.int .i64 0),.d (.int .i64 0),.d (.int .i64 0)] (At 8 [.d (.str dn),.d (.sl (dvs'.map BX)),.d (.sl (dcs.map CE.enc))] (At 9 [a9,b9,consv] (At 11 [.d (.str cn),y.2.2.1] E))))) (fun y=>y.2.2.2)
  (fun y=>y.1<=car.length/\y.2.1.length=y.1/\EB ds dvs' (car.take y.1)= .ok y.2.1/\Ig σ0 (⟨42,3,y.2.1.map Ty.enc,y.2.2.1⟩::l) y.2.2.2/\σ0.le y.2.2.2) (fun y=>car.length - y.1) ?_ (0,[],.Ad,τ) ⟨by simp,rfl,rfl,hown.nil hle 42 3,hle⟩
 rintro ⟨k,us,uv,τ1⟩ ⟨hk,hlu,hok,ho,hle1⟩ ih2;simp only at hk hlu hok ho hle1;have hoh:=ho.head;simp only at hoh;by_cases hlt:k < car.length
 . obtain ⟨x,Z⟩:=Ai hlt;have he:=BI (enc:=TE.enc) Z;have hw1:=wsu k
   have hall:EB ds dvs' car=(EB ds dvs' (x::car.drop (k+1))).map (us++·):=by
    conv=>lhs;rw [<- A7 k car,By Z]
    exact TJ _ _ _ hok
   have hsn:EB ds dvs' (car.take (k+1))=(EB ds dvs' [x]).map (us++·):=by
    rw [A5 Z];exact TJ _ _ _ hok
   rw [EB] at hall;rw [EB,EB] at hsn;have hcl:=s7 ps fs ds dvs' hh x (hsm x (AD Z)) nv hnv true τ1;simp only [pgA,Pg.enc,AF,AN] at hcl;cases hr:Io ds dvs' true x with
   |error e=>
    rw [hr] at hcl hall;simp only [C4] at hall;have hxe:=herr e hall;have hne:=gJ x true e hr;have hne':(e != 0)=true:=by simpa using hne
    obtain ⟨xk,xn,xl⟩:=x;simp only [TE.A4,teA,AF,AN,Y6] at he hcl;(repeat' ((first|refine wQ ?_|(refine AI.mk (by simp only [BO,Cq,hnl,BU,Bk];rfl) hcl ?_;rintro _ _ ⟨rfl,rfl⟩)|(refine Run.Bg MD (σ2:=σ0) hle1 ?_)|fail)<;>try simp only [Ap hlt,hec,he,hne',AA,hlp1,hlp2,hlp3,go_sem]));exact hxe
   |ok u=>
    rw [hr] at hcl hsn;simp only [C4] at hsn;obtain ⟨uk,un,ul⟩:=u;obtain ⟨xk,xn,xl⟩:=x;simp only [TE.A4,teA,AF,AN,Y6,tyA,Ty.enc] at he hcl;have h00:((0:Int) != 0)=false:=by decide
    (repeat' ((first|refine wQ ?_|(refine AI.mk (by simp only [BO,Cq,hnl,BU,Bk];rfl) hcl ?_;rintro _ τ1 ⟨rfl,rfl⟩)|(refine Dh.AN0 (cx:=FV) ho rfl (by simp) (by simp;omega) (by decide) (fun v2 σ2 ho2 hbk=>?_))|fail)<;>try simp only [Ap hlt,hec,he,h00,hoh.cell,AA,hlp1,hlp2,hlp3,go_sem]));have ho2h:=ho2.head;simp only at ho2h;simp only [ho2h.cells,ho2h.cell,go_sem];(repeat' (refine wQ ?_<;>try simp only [hw1,go_sem]));exact ih2 (k+1,us++[.mk uk un ul],v2,σ2) ⟨by simp only;omega,by simp [hlu],hsn,by simpa [Ty.enc] using ho2,ho2h.le⟩ (by simp only;omega)
 . rw [AP (by omega)] at hok;have:=hfin us uv τ1 hok ho hle1;(repeat' (refine wQ ?_<;>try simp only [B7 hlt,hec,AA,go_sem]));have hke:k=car.length:=by omega
   subst hke;exact this
def mH (l:List Str) (s:Str) (v:AV) (hv:v.plain= .d (.sl (l.map BX))) (Y:AH):AR Tzp 42 [v,.d (.str s)] Y (fun v σ'=>v= .d (.int .i64 (HQ (DP l s)))/\σ'=Y):=by
 refine AR.plain ?_;simp only [AV.CV,hv,HU];exact dJ l s Y
def AIR (Q:AV->AH->Prop) (rest:List CI) (ps:List DE) (fs:List FE) (ds:List (Str×Nat)) (dn:Str) (dvs':List Str) (dcs:List CE) (hh:APE ps ds dvs') (i:Nat) (hcl:dcs.length<=1000) (hsm:∀c∈dcs,ZQ c/\c.args.length<=1000)
 (σ0 τ:AH) (out nv usedv a9 b9:AV) (h9:a9.B1=true/\b9.B1=true) (ul:List Str) (hul:ul.length<=100000) (lo:List Ow) (hown:Ig σ0 (⟨9,1,ul.map BX,usedv⟩::lo) τ) (hle:σ0.le τ) (hnv:nv.plain= .d (.sl ((ds.map (·.1)).map BX))) (hnl:nv.BS=true) (hlp:∀k,nv.CL k=false/\out.CL k=false)
 (herr:∀e,FX ds dvs' ul dcs= .error e->Q (.tup [.d (.sl []),.agg [.d (.int .i64 e),.d (.int .i64 (-1)),.d (.int .i64 i)]]) σ0)
 (hfin:∀us usedv' consv' τ',FX ds dvs' ul dcs= .ok us->Ig σ0 (⟨9,1,(ul++dcs.map (·.name)).map BX,usedv'⟩::⟨131,2,us.map Con.enc,consv'⟩::lo) τ'->σ0.le τ'->Run FV Q rest
   (put 1 (.lp 1 0) (put 3 (.lp 3 0) (put 4 out (put 5 nv (put 6 usedv' (put 7 (.d (.int .i64 i)) (put 8 (.lp 8 0) (put 9 (.lp 9 0) (put 10 (.d (.int .i64 dcs.length)) (put 58 (.d (.bool false)) U))))))))))
   (At 1 [.d (.sl (ps.map DE.enc)),.d (.sl (fs.map FE.enc))] (At 3 [.d (.int .i64 0),.d (.int .i64 0),.d (.int .i64 0)] (At 8 [.d (.str dn),.d (.sl (dvs'.map BX)),.d (.sl (dcs.map CE.enc))] (At 9 [a9,b9,consv'] E)))) τ'):
 Run FV Q (.code (.loop U5)::.blk 2::rest)
  (put 1 (.lp 1 0) (put 3 (.lp 3 0) (put 4 out (put 5 nv (put 6 usedv (put 7 (.d (.int .i64 i)) (put 8 (.lp 8 0) (put 9 (.lp 9 0) (put 10 (.d (.int .i64 0)) U)))))))))
  (At 1 [.d (.sl (ps.map DE.enc)),.d (.sl (fs.map FE.enc))] (At 3 [.d (.int .i64 0),.d (.int .i64 0),.d (.int .i64 0)] (At 8 [.d (.str dn),.d (.sl (dvs'.map BX)),.d (.sl (dcs.map CE.enc))] (At 9 [a9,b9,.Ad] E)))) τ:=by
 have hlp1:=fun k=>(hlp k).1;have hlp2:=fun k=>(hlp k).2;refine Run.BB ?_
 refine Run.BE ((fun (a1:AV) (a3:AV) (a4:AV) (a5:AV) (a7:AV) (a8:AV) (a9:AV)=>fun (y:Nat×List Con×AV×AV×AH)=>put 1 a1 (put 3 a3 (put 4 a4 (put 5 a5 (put 6 (y.2.2.1) (put 7 a7 (put 8 a8 (put 9 a9 (put 10 (.d (.int .i64 y.1)) U))))))))) _ _ _ _ _ _ _) (fun y=>At 1 [.d (.sl (ps.map DE.enc)),.d (.sl (fs.map FE.enc))] (At 3 [.d (.int .i64 0),.d (.int .i64 0),.d (.int .i64 0)] (At 8 [.d (.str dn),.d (.sl (dvs'.map BX)),.d (.sl (dcs.map CE.enc))] (At 9 [a9,b9,y.2.2.2.1] E)))) (fun y=>y.2.2.2.2)
  (fun y=>y.1<=dcs.length/\y.2.1.length=y.1/\FX ds dvs' ul (dcs.take y.1)= .ok y.2.1/\Ig σ0 (⟨9,1,(ul++(dcs.take y.1).map (·.name)).map BX,y.2.2.1⟩::⟨131,2,y.2.1.map Con.enc,y.2.2.2.1⟩::lo) y.2.2.2.2/\σ0.le y.2.2.2.2) (fun y=>dcs.length - y.1) ?_ (0,[],usedv,.Ad,τ) ⟨by simp,rfl,rfl,by simpa using (hown.nil hle 131 2).perm (List.Perm.swap _ _ _),hle⟩
 rintro ⟨k,us,uv,cv,τ1⟩ ⟨hk,hlu,hok,ho,hle1⟩ ih;simp only at hk hlu hok ho hle1;have hou:=ho.head;have hoc:=ho.tail.head;simp only at hou hoc;by_cases hlt:k < dcs.length
 . obtain ⟨c,hc⟩:=Ai hlt;have he:=BI (enc:=CE.enc) hc;have hw1:=wsu k;obtain ⟨hall,hnames⟩:=PK ds dvs' (dcs.drop k) hok;rw [A7,By hc] at hall;obtain ⟨hsn,_⟩:=PK ds dvs' [c] hok;rw [<- A5 hc] at hsn;obtain ⟨hcsm,hcal⟩:=hsm c (AD hc);have hfi:=mH (ul++(dcs.take k).map (·.name)) c.name uv hou.plain τ1;have hin:(DP (ul++(dcs.take k).map (·.name)) c.name).isSome=(ul++(dcs.take k).map (·.name)).contains c.name:=NI _ _;rw [FX] at hall hsn;have hcc:=hc;obtain ⟨cn,ar⟩:=c;simp only [CE.enc] at he hin hall hsn hcal hfi;cases hix:DP (ul++(dcs.take k).map (·.name)) cn with
   |some q=>
    rw [hix] at hfi hin;simp only [H6] at hin;rw [<- hin,if_pos rfl] at hall;have hxe:=herr 4 hall;have hge:decide ((0:Int)<=(q:Int))=true:=by simp
    simp only [HQ] at hfi;(repeat' ((first|refine wQ ?_|(refine AI.mk (by simp only [BO,Cq,hou.BS,BU,Bk];rfl) hfi ?_;rintro _ _ ⟨rfl,rfl⟩)|(refine Run.Bg MD (σ2:=σ0) hle1 ?_)|fail)<;>try simp only [Ap hlt,he,AA,go_sem]));exact hxe
   |none=>
    rw [hix] at hfi hin;simp only [H5] at hin;rw [<- hin,if_neg (by simp)] at hall hsn;have hge:decide ((0:Int)<=-1)=false:=by decide
    simp only [HQ] at hfi;(repeat' ((first|refine wQ ?_|(refine AI.mk (by simp only [BO,Cq,hou.BS,BU,Bk];rfl) hfi ?_;rintro _ τ1 ⟨rfl,rfl⟩)|(refine Dh.AN0 (cx:=FV) ho rfl (by simp) (by simp;omega) (by decide) (fun v2 τ2 ho2 hbk=>?_))|fail)<;>try simp only [Ap hlt,he,hge,AA,hlp1,hlp2,go_sem]));have ho2h:=ho2.head;simp only at ho2h;simp only [ho2h.CL,A1,if_false];refine AIQ Q _ ps fs ds dn dvs' dcs hh cn ar k i hcc hcsm hcal σ0 τ2 out nv v2 a9 b9 cv _ ho2 ho2h.le hnv hnl (fun k=>⟨hlp1 k,hlp2 k,ho2h.CL k⟩) (fun e he'=>?_) (fun ts av τ3 hts ho3 hle3=>?_)
    . rw [he'] at hall;exact herr e hall
    . rw [hts] at hsn;simp only [FX,C4] at hsn;have ho3a:=ho3.head;have ho3c:=(ho3.tail.perm (List.Perm.swap _ _ _));simp only at ho3a;have hoc3:=ho3c.head;simp only at hoc3;(repeat' ((first|refine wQ ?_|(refine Dh.AN0 (cx:=FV) ho3c rfl (by simp) (by simp;omega) (by decide) (fun v4 τ4 ho4 hbk4=>?_))|fail)<;>try simp only [hoc3.cell,ho3a.cell,ho3a.dv,go_sem]));have ho5:=ho4.perm (List.Perm.swap _ _ _);have h4h:=ho4.head;have h5h:=ho5.head;simp only at h4h h5h;simp only [h4h.cells,h4h.cell,go_sem];(repeat' (refine wQ ?_<;>try simp only [hw1,go_sem]))
      exact ih (k+1,us++[(⟨cn,ts⟩:Con)],v2,v4,τ4) ⟨by simp only;omega,by simp [hlu],hsn,by
       simp only [A5 hcc,Ao,AF,AN,<- Aq] at ho5 ⊢;simpa [Con.enc,Ty.Bf,BX] using ho5,h4h.le⟩ (by simp only;omega)
 . rw [AP (by omega)] at hok ho;have:=hfin us uv cv τ1 hok ho hle1;have hke:k=dcs.length:=by omega
   subst hke;(repeat' (refine wQ ?_<;>try simp only [B7 hlt,AA,go_sem]));exact this
def Ig.part {τ:AH} {l m r:List Ow} (h:Ig σ0 l τ) (hp:l.Perm (m++r)):Ig σ0 m τ:=by
 have:=h.perm hp;exact ⟨fun x Z=>this.1 x (XF _ Z),(List.pairwise_append.1 this.2).1⟩
def zD {n:Nat}:∀ {l:List DE},(∀d∈l,d.cons.length<=n)->(KT l).length<=l.length * n
 |[],_=>by simp [KT]
 |d::l,h=>by
  have h1:=zD (l:=l) (fun x Z=>h x (AU _ Z));have h2:=h d (AW ..);simp only [KT,DJ,AY,AA,A0] at h1 ⊢;rw [Na];omega
def AMP (ps:List DE) (d:DE) (i:Nat) (hd:ps[i]?=some d) (hl:ps.length<=1000):APE ps (C1 (ps.take i)++[(d.name,d.vars.length)]) d.vars:=by
 have hi:=(AE.1 hd).1
 have hh:C1 (ps.take i)++[(d.name,d.vars.length)]=C1 (ps.take (i+1)):=by
  rw [A5 hd,C1,C1,Ao];rfl
 rw [hh];have hlen:(C1 (ps.take (i+1))).length=i+1:=by rw [C1,AA,B5];omega
 refine ⟨fun k x Z=>?_,fun x Z=>?_,by omega⟩
 . rw [C1,Am,B2] at Z;split at Z
   . obtain ⟨d',h1,h2⟩:=AK.1 Z;exact ⟨d',h1,by rw [<- h2]⟩
   . cases Z
 . rw [hlen,show i+1 - 1=i by omega,C1,Am,B2,if_pos (by omega),hd] at Z;cases Z;rfl
def AIS (p:Pg) (Y:AH) (h:∀d∈p.data,J5 d):AR Tzp 18 [pgA p] Y (fun v σ'=>v=eU (Fo p)/\σ'=Y):=by
 have hval:=AEJ p Y h;refine AMQ (by simp) ?_;rw [Bj];unfold Fo;cases hvb:Eb p with
 |false=>
  rw [hvb] at hval;obtain ⟨ds,fs⟩:=p;simp only [pgA,Pg.enc,AF,AN] at hval ⊢;(repeat' ((first|refine wQ ?_|(refine Run.Bg MD (σ2:=Y) (AH.le_refl _) ?_)|refine AI.det (hval) ?_|fail)<;>try simp only [go_sem]));rfl
 |true=>
 rw [hvb] at hval;obtain ⟨hpl,hps⟩:=lH hvb h;obtain ⟨ps,fs⟩:=p;simp only [pgA,Pg.enc,AF,AN] at hval hpl hps ⊢;(repeat' ((first|refine wQ ?_|refine AI.det (hval) ?_|fail)<;>try simp only [go_sem]));generalize hQ:(fun (v:AV) (σ':AH)=>v=eU (match DZ [] ps with| .error (e,i)=>.error (e,-1,(i:Int))| .ok l=>.ok l)/\σ'=Y)=Q
 have herr:∀(e:Int) (i:Nat),DZ [] ps= .error (e,i)->Q (.tup [.d (.sl []),.agg [.d (.int .i64 e),.d (.int .i64 (-1)),.d (.int .i64 i)]]) Y:=fun e i hd=>by
  rw [<- hQ,hd];exact ⟨rfl,rfl⟩
 have hok:∀(l:List Dat),DZ [] ps= .ok l->Q (.tup [.d (.sl (l.map Dat.enc)),.agg [.d (.int .i64 0),.d (.int .i64 0),.d (.int .i64 0)]]) Y:=fun l hd=>by
  rw [<- hQ,hd];exact ⟨rfl,rfl⟩
 clear hQ;refine Run.BB ?_
 have hown0:Ig Y [⟨9,1,[],.Ad⟩,⟨129,3,[],.Ad⟩,⟨9,1,[],.Ad⟩] Y:=by
  have h0:Ig Y [] Y:=⟨fun x Z=>(by cases Z),List.Pairwise.nil⟩;exact ((h0.nil (AH.le_refl _) _ _).nil (AH.le_refl _) _ _).nil (AH.le_refl _) _ _
 refine Run.BE ((fun (a1:AV) (a3:AV)=>fun (y:Nat×List Dat×AV×AV×AV×AH)=>put 1 a1 (put 3 a3 (put 4 (y.2.2.1) (put 5 (y.2.2.2.1) (put 6 (y.2.2.2.2.1) (put 7 (.d (.int .i64 y.1)) U)))))) _ _) (fun _=>At 1 [.d (.sl (ps.map DE.enc)),.d (.sl (fs.map FE.enc))] (At 3 [.d (.int .i64 0),.d (.int .i64 0),.d (.int .i64 0)] E)) (fun y=>y.2.2.2.2.2)
  (fun y=>y.1<=ps.length/\DZ [] (ps.take y.1)= .ok y.2.1/\Ig Y [⟨9,1,(((C1 (ps.take y.1)).map (·.1)).map BX),y.2.2.2.1⟩,⟨129,3,y.2.1.map Dat.enc,y.2.2.1⟩,⟨9,1,(KT (ps.take y.1)).map BX,y.2.2.2.2.1⟩] y.2.2.2.2.2)
  (fun y=>ps.length - y.1) ?_ (0,[],.Ad,.Ad,.Ad,Y) ⟨by simp,rfl,hown0⟩
 rintro ⟨i,dl,outv,nv,usedv,τ⟩ ⟨hi,hgo,hown⟩ ih;simp only at hi hgo hown;have hn:=hown.head;have hout:=hown.tail.head;have hus:=hown.tail.tail.head;simp only at hn hout hus;obtain ⟨f1,f2,f3,f4,f5⟩:=Mt hgo;have hlen:dl.length=i:=by rw [f3,B5];omega
 by_cases hlt:i < ps.length
 . obtain ⟨d,hd⟩:=Ai hlt;have he:=BI (enc:=DE.enc) hd;have hw1:=wsu i;obtain ⟨hc1,hc2⟩:=hps d (AD hd);have hhd:=AMP ps d i hd (by omega)
   have hul:(KT (ps.take i)).length<=100000:=by
    have:=zD (n:=1000) (l:=ps.take i) (fun d hd=>(hps d (CZ hd)).1);rw [B5] at this;have:min i ps.length * 1000<=12 * 1000:=Bi _ (by omega);omega
   have hall:DZ [] ps=(DZ (ps.take i) (d::ps.drop (i+1))).map (dl++·):=by
    conv=>lhs;rw [<- A7 i ps,By hd]
    exact T2 _ hgo
   have hsn:DZ [] (ps.take (i+1))=(DZ (ps.take i) [d]).map (dl++·):=by
    rw [A5 hd];exact T2 _ hgo
   rw [DZ,OL] at hall hsn
   have hheads:(C1 (ps.take (i+1))).map (·.1)=(C1 (ps.take i)).map (·.1)++[d.name]:=by
    rw [A5 hd];simp [C1]
   have huse:KT (ps.take (i+1))=KT (ps.take i)++d.cons.map (·.name):=by
    rw [A5 hd];simp [KT]
   have hfi:=mH ((C1 (ps.take i)).map (·.1)) d.name nv hn.plain τ;have hin:(DP ((C1 (ps.take i)).map (·.1)) d.name).isSome=((C1 (ps.take i)).map (·.1)).contains d.name:=NI _ _;have htw:=AEK d.vars τ;have hhl:((C1 (ps.take i)).map (·.1)).length=i:=by simp [C1];omega
   obtain ⟨dn,dvs',dcs⟩:=d;simp only [DE.enc] at he hall hsn hheads huse hfi hin hhd hc1 hc2 htw;rw [<- hin] at hall hsn;simp only [B5,FN hi] at hall;cases hix:DP ((C1 (ps.take i)).map (·.1)) dn with
   |some q=>
    rw [hix] at hfi hall;simp only [H6,N7,if_true,C4] at hall;have hxe:=herr 4 i hall;have hge:decide ((0:Int)<=(q:Int))=true:=by simp
    simp only [HQ] at hfi;(repeat' ((first|refine wQ ?_|(refine AI.mk (by simp only [BO,Cq,hn.BS,BU,Bk];rfl) hfi ?_;rintro _ _ ⟨rfl,rfl⟩)|(refine Run.Bg MD (σ2:=Y) hn.le ?_)|fail)<;>try simp only [Ap hlt,he,AA,hn.CL,hout.CL,hus.CL,go_sem]));exact hxe
   |none=>
   rw [hix] at hfi hall hsn;simp only [HQ] at hfi;simp only [H5,Ep] at hall hsn;have hge:decide ((0:Int)<=-1)=false:=by decide
   cases htb:DC dvs' with
   |true=>
    rw [htb] at htw hall;simp only [if_true,C4] at hall;have hxe:=herr 4 i hall;(repeat' ((first|refine wQ ?_|(refine AI.mk (by simp only [BO,Cq,hn.BS,BU,Bk];rfl) hfi ?_;rintro _ τ ⟨rfl,rfl⟩)|(refine Run.Bg MD (σ2:=Y) hn.le ?_)|refine AI.det (htw) ?_|fail)<;>try simp only [Ap hlt,he,hge,AA,hn.CL,hout.CL,hus.CL,go_sem]));exact hxe
   |false=>
   rw [htb] at htw hall hsn;simp only [A1,if_false] at hall hsn;(repeat' ((first|refine wQ ?_|(refine AI.mk (by simp only [BO,Cq,hn.BS,BU,Bk];rfl) hfi ?_;rintro _ τ ⟨rfl,rfl⟩)|(refine Dh.AN0 (cx:=FV) hown rfl (by simp) (by rw [AA,hhl];simp;omega) (by decide) (fun v2 τ2 ho2 hbk=>?_))|refine AI.det (htw) ?_|fail)<;>try simp only [Ap hlt,he,hge,AA,hn.CL,hout.CL,hus.CL,go_sem]));have hn2:=ho2.head;simp only at hn2;simp only [hn2.CL,A1,if_false]
   have hnp:v2.plain= .d (.sl (((C1 (ps.take i)++[(dn,dvs'.length)]).map (·.1)).map BX)):=by
    rw [hn2.plain];simp [BX]
   have hou2:Ig Y [⟨9,1,(KT (ps.take i)).map BX,usedv⟩,⟨9,1,((C1 (ps.take i)).map (·.1)).map BX++[[.str dn]],v2⟩,⟨129,3,dl.map Dat.enc,outv⟩] τ2:=
    ho2.perm (List.perm_append_comm (l₁:=[_,_]) (l₂:=[_]))
   refine AIR Q _ ps fs (C1 (ps.take i)++[(dn,dvs'.length)]) dn dvs' dcs hhd i hc1 hc2 Y τ2 outv v2 usedv (.d (.str dn)) (.d (.int .i64 dvs'.length)) ⟨rfl,rfl⟩ (KT (ps.take i)) hul _ hou2 hn2.le hnp hn2.BS (fun k=>⟨hn2.CL k,hout.CL k⟩) (fun e he'=>?_) (fun us usedv' consv' τ3 hts ho3 hle3=>?_)
   . rw [he'] at hall;exact herr e i hall
   . rw [hts] at hsn;simp only [DZ,C4] at hsn
     have ho4:Ig Y [⟨129,3,dl.map Dat.enc,outv⟩,⟨9,1,(KT (ps.take i)++dcs.map (·.name)).map BX,usedv'⟩,⟨131,2,us.map Con.enc,consv'⟩,⟨9,1,((C1 (ps.take i)).map (·.1)).map BX++[[.str dn]],v2⟩] τ3:=
      ho3.perm (List.perm_append_comm (l₁:=[_,_,_]) (l₂:=[_]))
     have hu3:=ho3.head;have hc3:=ho3.tail.head;simp only at hu3 hc3;(repeat' ((first|refine wQ ?_|(refine Dh.AN0 (cx:=FV) ho4 rfl (by simp) (by simp [hlen];omega) (by decide) (fun v5 τ5 ho5 hbk5=>?_))|fail)<;>try simp only [hw1,hc3.cell,hc3.dv,go_sem]));have ho6:=ho5.perm (List.perm_append_comm (l₁:=[_,_]) (l₂:=[_,_]));have h5:=ho5.head;simp only at h5
     exact ih (i+1,dl++[(⟨dn,dvs'.length,us⟩:Dat)],v5,v2,usedv',τ5) ⟨by simp only;omega,hsn,by
      have:=ho6.tail;simp only [hheads,huse];simpa [Dat.enc,BX] using this⟩ (by simp only;omega)
 . rw [AP (by omega)] at hgo;have hfin:=hok dl hgo;(repeat' ((first|refine wQ ?_|(refine Run.Bg MD (σ2:=Y) hn.le ?_)|fail)<;>try simp only [B7 hlt,AA,hout.BS,go_sem]));simp only [hout.plain,go_sem];exact hfin
set_option maxRecDepth 100000
set_option maxHeartbeats 40000000
noncomputable section
noncomputable def XA:Cx:=⟨Tzp,3,Tryz.f3,138,[300017,300021,300026,300030,300035,300043,300078,300084,300089,300091,300096,300097,300101,300103],[],[.t 2]⟩
instance AB6:Good XA:=⟨Tryz.func3,by kernel_rfl,mixed⟩
noncomputable def QG:Cx:=⟨Tzp,4,Tryz.f4,120,[300012,300016,300021,300022,300030,300035,300039,300041,300049,300051,300058,300060,300075,300077,300089,300094,300108,300113],[],[.t 4]⟩
instance rA:Good QG:=⟨Tryz.func4,by kernel_rfl,mixed⟩
def Ll:List (Nat×PT):=[(14,(pO [0,2,3,6,1,4,5] .done))]
noncomputable def F8:Cx:=⟨Tzp,5,Tryz.f5,95,[300018,300022,300027,300031,300042,300043,300048,300049,300062,300069,300077,300089],[],[.t 2]⟩
instance F4:Good F8:=⟨Tryz.func5,by kernel_rfl,mixed⟩
def VX:F8.rs=[.t 2]:=rfl
noncomputable def F5:=BG F8 Ll fun c a b d=>G c [a,b,d]
def GY:C:=lpC 0 (F5 .skip .skip .skip)
def Iy:C:=lpC 1 (F5 GY .skip .skip)
def Rl:C:=lpC 2 (F5 GY Iy .skip)
def WM:C:=(F5 GY Iy Rl).1
def W7:Inn F8 WM 95:=inn Ll F4 Tryz.ntmps5
noncomputable def aH:Cx:=⟨Tzp,6,Tryz.f6,67,[300010,300014,300020,300024,300031,300037,300046,300051,300056,300057,300060,300061],[],[.t 2]⟩
instance AFQ:Good aH:=⟨Tryz.func6,by kernel_rfl,mixed⟩
noncomputable def aI:Cx:=⟨Tzp,7,Tryz.f7,107,[300012,300016,300021,300025,300033,300037,300042,300047,300052,300057,300063,300066,300071,300083,300089,300100],[],[.t 2]⟩
instance AFR:Good aI:=⟨Tryz.func7,by kernel_rfl,mixed⟩
noncomputable def M9:Cx:=⟨Tzp,10,Tryz.f10,33,[300007,300014,300019],[],[.t 0]⟩
instance aT:Good M9:=⟨Tryz.func10,by kernel_rfl,mixed⟩
def tD:M9.rs=[.t 0]:=rfl
noncomputable def wB:=BG M9 [] (G · [])
def uX:C:=(wB).1
def vP:Inn M9 uX 33:=inn [] aT Tryz.ntmps10
noncomputable def xC:Cx:=⟨Tzp,15,Tryz.f15,6,[300004],[],[.t 2]⟩
instance ATP:Good xC:=⟨Tryz.func15,by kernel_rfl,mixed⟩
noncomputable def xD:Cx:=⟨Tzp,23,Tryz.f23,52,[300009,300014,300018,300024,300032,300038,300046],[],[.t 0]⟩
instance ATQ:Good xD:=⟨Tryz.func23,by kernel_rfl,mixed⟩
attribute [go_sem] VX tD
end
def AJX {p:Pg} (h:Fo p= .ok dt):dt.length<=1000000:=by
 obtain ⟨h1,h2⟩:=Mu h;simp only [Eb,AO,decide_eq_true_eq] at h1;have:=(Mt h2).2.2.1;omega
def sC (Y:AH) (hg:Y.gt gG=some kT):AR Tzp 10 [] Y (fun v σ'=>v= .d (.bool true)/\σ'=Y):=by
 have hc:=(xE awP (fun d hd=>by cases hd) (by decide) (fun _=>AJX) Y hg).mono (Q':=fun v σ'=>v=AC9 (.ok [(1,[])])/\σ'=Y) fun v σ' h=>by rw [<- AX1];exact h.1
 refine vP (by simp) ?_;rw [show XP []=U from by funext s;simp [XP,U]];simp only [pgA,awP,Pg.enc,FE.enc,Ex.A4,AF,AN,AC9,AHU,dgA,BX] at hc
 have hc':AR Tzp 9 [.agg [.Ad,.d (.sl [[.str [105,100],.sl [[.str [120]]],.int .i64 4,.str [120],.int .i64 0,.sl [],.sl [],.sl []],[.str [102],.sl [],.int .i64 3,.str [],.int .i64 1,.sl [],.sl [],.sl []]])]] Y _:=
  AR.plain (by simp only [AV.CV,MU,HV,HU];exact hc)
 have h11:(((1:Nat):Int)==1)=true:=by decide
 (repeat' (first|refine ctQ rfl ?_|((first|refine rgQ mxQ ?_|refine cdQ ?_|refine Run.qP aT ?_|refine AI.det (hc') ?_|(refine Ae rfl (fun h=>?_) (fun h=>?_)<;>try (cases h;done)))<;>try simp only [h11,Int.le_refl,Int.toNat_zero,go_sem])|(refine ⟨fun h=>?_,fun h=>?_⟩<;>first|(cases h;done)|try simp only [h])|fail))
def AYU (h:Nu dt r x=some b) (ho:zM dt r fe x.1.toNat):b.params.length=fe.params.length/\x.2.length<=100000:=by
 obtain ⟨s,nt,h1,h2,⟨m,hm,hmb⟩,hpl,_⟩:=ho;unfold Nu at h;rw [h1,h2] at h;simp only at h;split at h
 . split at h
   . rename_i hc;cases h;simp only [dQ];exact ⟨hpl,by have:=hc.1;omega⟩
   . cases h
 . cases h
def AP7 {p:Pg} {d:Dg} (h:AAA p= .error d):d.1≠0:=by
 have hrs:∀(nt:List (Ty×List Ty)) (rs:List (Nat×Int)) (l:List KV) (d:Dg),Vw nt rs l= .error d->d.1≠0:=by
  intro nt rs
  induction rs with
  |nil=>intro l d h;cases h
  |cons y rs ih=>
   intro l d h;rw [Vw] at h;simp only at h;split at h
   . exact ih _ _ h
   . split at h
     . cases h;simp
     . exact ih _ _ h
 have hgo:∀(fs:List FE) (dt:List Dat) (r:Db) (n i:Nat) (l:List KV) (d:Dg),RR fs dt r n i l= .error d->d.1≠0:=by
  intro fs dt r n
  induction n with
  |zero=>intro i l d h;cases h
  |succ n ih=>
   intro i l d h;rw [RR] at h;split at h
   . cases h
   . split at h
     . split at h
       . rename_i e he;cases h;exact hrs _ _ _ _ he
       . exact ih _ _ _ h
     . cases h;simp
 unfold AAA at h;cases hi:Dl p with
 |error e=>rw [hi] at h;cases h;exact kA hi
 |ok r=>
  obtain ⟨_,dt,hd⟩:=PM hi;rw [hi,hd] at h;exact hgo _ _ _ _ _ _ _ h
def iB (p:Pg) (Y:AH) (hg:Y.gt gG=some kT):AR Tzp 5 [pgA p] Y (fun v σ'=>v= .d (.bool true)/\σ'=Y):=by
 have hk:=wG p Y;refine W7 (by simp) ?_;rw [Bj];obtain ⟨ds,fs⟩:=p;simp only [pgA,Pg.enc,AF,AN] at hk ⊢;(repeat' (first|refine ctQ rfl ?_|((first|refine rgQ mxQ ?_|refine cdQ ?_|(refine AI.mk rfl hk ?_;rintro _ Y ⟨b,⟨rfl,rfl⟩,hb⟩;cases b)|(refine Run.Bg F4 (AH.le_refl _) ?_)|(refine Ae rfl (fun h=>?_) (fun h=>?_)<;>try (cases h;done)))<;>try simp only [go_sem])|(refine ⟨fun h=>?_,fun h=>?_⟩<;>first|(cases h;done)|try simp only [h])|fail));obtain ⟨hsm,hsz⟩:=hb rfl;have hsd:∀d∈(⟨ds,fs⟩:Pg).data,J5 d:=fun d hd c hc t ht=>by have:=((hsm.1.2 d hd).2.2.2 c hc).2.2 t ht;omega
 have hdat:=fun Y=>AIS ⟨ds,fs⟩ Y hsd;have hdem:=xE ⟨ds,fs⟩ hsm.dq hsz (fun _=>AJX) Y hg;have haw:=fun τ (h:Y.le τ)=>sC τ (by rw [<- h.gt];exact hg);cases hD:AAA ⟨ds,fs⟩ with
 |error d=>
  have hd0:=AP7 hD;obtain ⟨d1,d2,d3⟩:=d;have hb0:(d1 != 0)=true:=by simpa using hd0
  simp only [hD,AC9,pgA,Pg.enc,AF,AN,dgA] at hdem;(repeat' (first|refine ctQ rfl ?_|((first|refine rgQ mxQ ?_|refine cdQ ?_|(refine AI.mk rfl hdem ?_;rintro _ Y ⟨⟨rfl,rfl⟩,_⟩)|(refine Run.Bg F4 (AH.le_refl _) ?_)|refine AI.det (haw _ (AH.le_refl _)) ?_|(refine Ae rfl (fun h=>?_) (fun h=>?_)<;>try (cases h;done)))<;>try simp only [hb0,go_sem])|(refine ⟨fun h=>?_,fun h=>?_⟩<;>first|(cases h;done)|try simp only [h])|fail))
 |ok l=>
  have hir:∃r,Dl ⟨ds,fs⟩= .ok r:=by
   cases h:Dl ⟨ds,fs⟩ with
   |error d=>unfold AAA at hD;rw [h] at hD;cases hD
   |ok r=>exact ⟨r,rfl⟩
  obtain ⟨r,hr⟩:=hir;obtain ⟨hc0,dt,hd⟩:=PM hr;have hl:RR fs dt r 100 0 (lX r)= .ok l:=by unfold AAA at hD;rw [hr,hd] at hD;exact hD
  have hl24:r.1.length<=24:=by
   have h1:r.1.length=fs.length:=(kB hr).1;have h2:=(AKS hc0 hd hsm.dq hsz).lf;simp only at h2;omega
  have hl0:=AL2 r;obtain ⟨hall,hl64⟩:=ADA 100 0 _ _ hl (by omega) (by omega) (by omega) (by simp);have h00:((0:Int) != 0)=false:=by decide
  simp only [hD,AC9,pgA,Pg.enc,AF,AN,dgA] at hdem;simp only [hd,eU,dsA,dgA,pgA,Pg.enc,AF,AN] at hdat;(repeat' (first|refine ctQ rfl ?_|((first|refine rgQ mxQ ?_|refine cdQ ?_|(refine AI.mk rfl hdem ?_;rintro _ Y ⟨⟨rfl,rfl⟩,hG⟩)|refine AI.det (hdat _) ?_|(refine Ae rfl (fun h=>?_) (fun h=>?_)<;>try (cases h;done)))<;>try simp only [h00,AA,go_sem])|(refine ⟨fun h=>?_,fun h=>?_⟩<;>first|(cases h;done)|try simp only [h])|fail));obtain ⟨dt',hG⟩:=hG r hr;have:dt'=dt:=by have:=hG.dat;rw [hd] at this;cases this;rfl
  subst this;clear hdem hdat hk hD hl hl0 hb;refine Run.BB ?_;refine Run.BE ((fun (a1:AV) (a5:AV) (a35:AV) (a36:AV)=>fun (z:Nat×AH)=>put 1 a1 (put 5 a5 (put 35 a35 (put 36 a36 (put 37 (.d (.int .i64 z.1)) U))))) _ _ _ _) (fun _=>At 1 [.d (.sl (ds.map DE.enc)),.d (.sl (fs.map FE.enc))] E) (fun z=>z.2) (fun z=>z.1<=l.length/\Y.le z.2) (fun z=>l.length - z.1) ?_ (0,Y) ⟨by simp,AH.le_refl _⟩;rintro ⟨p,τ⟩ ⟨hp,hle⟩ ih;simp only at hp hle;by_cases hlt:p < l.length
  . obtain ⟨⟨f,args⟩,Z⟩:=Ai hlt;obtain ⟨b,hb⟩:=hall _ (AD Z);have he:=BI (enc:=AHU) Z;simp only [AHU] at he;have hw1:=wsu p
    have hx1:0<=f/\f < r.1.length:=by
     by_cases h:0<=f/\f < r.1.length
     . exact h
     . unfold Nu at hb;rw [if_neg h] at hb;cases hb
    obtain ⟨m,rfl⟩:∃m:Nat,f=m:=⟨f.toNat,by omega⟩;obtain ⟨fe,hsp,hbs,hfp⟩:=hG.sp m (by omega);obtain ⟨_,hga,hgp,hgr,hgn⟩:=rV hb hsp;obtain ⟨hpl,hal⟩:=AYU hb hsp;have hbl:=AKF hb hsp;have hN:=fun τ=>APF ⟨ds,fs⟩ hsm.dq hsz ((m:Int),args) hG τ;have hP:=fun τ=>ALB ⟨ds,fs⟩ hsm.dq hsz ((m:Int),args) hG τ
    have hval:∀t τ,Q7 dt' t=true->AR Tzp 20 [dsA dt',tyA t,.d (.int .i64 0)] τ (fun v σ'=>v= .d (.bool true)/\σ'=τ):=fun t τ h=>by
     have hs:t.size<=1000:=by simp only [Q7,AO,decide_eq_true_eq] at h;omega
     have:=AEL dt' t 0 τ hs;rw [show (decide (t.size<=200)&&CH dt' 0 t)=true from h] at this;exact this
    obtain ⟨nts,pps,⟨bk,bn,bus⟩⟩:=b;have hvr:=fun τ=>hval _ τ hgr;simp only [hb,pgA,Pg.enc,N5,tyA,dsA,Ty.enc,Ty.Bf,AF,AN] at hN hP hvr;simp only at hga hgp hgn hpl hal hbl;(repeat' (first|refine ctQ rfl ?_|((first|refine rgQ mxQ ?_|refine cdQ ?_|refine AI.det (hN _) ?_|refine AI.det (hP _) ?_|refine AI.det (hvr _) ?_|(refine Ae rfl (fun h=>?_) (fun h=>?_)<;>try (cases h;done)))<;>try simp only [Ap hlt,he,go_sem])|(refine ⟨fun h=>?_,fun h=>?_⟩<;>first|(cases h;done)|try simp only [h])|fail));have hrows:∀(us:List Ty),∀x∈us.map Ty.enc,x.length=3:=fun us x Z=>by obtain ⟨⟨a,b,c⟩,_,rfl⟩:=B8.1 Z;rfl
    have hty:∀t∈pps++args,Q7 dt' t=true:=fun t ht=>by
     rcases AZ.1 ht with ht|ht
     . exact hgp t ht
     . exact hga t ht
    have htl:(pps++args).length<=200000:=by rw [AY];omega
    refine Dh.own (CC.nil τ eTy 3) rfl (hrows pps) (by simp;omega) (by omega) (fun v1 τ2 ho1 hb1=>?_);simp only [go_sem];refine Dh.own ho1 rfl (hrows args) (by simp;omega) (by omega) (fun v2 τ3 ho2 hb2=>?_);rw [Ag,<- Ao] at ho2;generalize pps++args=ts at ho2 hty htl;have hle3:=AH.le_trans hle ho2.le;clear ho1 hN hP hvr hga hgp hgr;simp only [ho2.len,AA,go_sem];(repeat' (first|refine ctQ rfl ?_|((first|refine rgQ mxQ ?_|refine cdQ ?_|(refine Ae rfl (fun h=>?_) (fun h=>?_)<;>try (cases h;done)))<;>try simp only [ho2.w4,go_sem])|(refine ⟨fun h=>?_,fun h=>?_⟩<;>first|(cases h;done)|try simp only [h])|fail));refine Run.BB ?_;refine Run.BE ((fun (a1:AV) (a5:AV) (a9:AV) (a35:AV) (a36:AV) (a37:AV) (a70:AV) (a71:AV)=>fun (q:Nat)=>put 1 a1 (put 5 a5 (put 9 a9 (put 35 a35 (put 36 a36 (put 37 a37 (put 70 a70 (put 71 a71 (put 72 (.d (.int .i64 q)) U))))))))) _ _ _ _ _ _ _ _) (fun _=>At 1 [.d (.sl (ds.map DE.enc)),.d (.sl (fs.map FE.enc))] E) (fun _=>τ3) (fun q=>q<=ts.length) (fun q=>ts.length - q) ?_ 0 (by simp);intro q hq ih2;by_cases hql:q < ts.length
    . obtain ⟨u,hu⟩:=Ai hql;have heu:=BI (enc:=Ty.enc) hu;obtain ⟨tv,rfl⟩:=ho2.AXE (fun e=>by rw [e] at heu;cases heu);have hw2:=wsu q;have hvu:=fun τ=>hval u τ (hty u (AD hu));obtain ⟨k',n',us'⟩:=u;simp only [dsA,tyA,Ty.enc,AF,AN] at heu hvu;(repeat' (first|refine ctQ rfl ?_|((first|refine rgQ mxQ ?_|refine cdQ ?_|refine AI.det (hvu _) ?_|(refine Ae rfl (fun h=>?_) (fun h=>?_)<;>try (cases h;done)))<;>try simp only [Ap hql,heu,hw2,go_sem])|(refine ⟨fun h=>?_,fun h=>?_⟩<;>first|(cases h;done)|try simp only [h])|fail));exact ih2 (q+1) hql (by omega)
    . clear ih2;(repeat' (first|refine ctQ rfl ?_|((first|refine rgQ mxQ ?_|refine cdQ ?_|(refine Ae rfl (fun h=>?_) (fun h=>?_)<;>try (cases h;done)))<;>try simp only [B7 hql,AA,go_sem])|(refine ⟨fun h=>?_,fun h=>?_⟩<;>first|(cases h;done)|try simp only [h])|fail));refine Run.BB ?_;refine Run.BE ((fun (a1:AV) (a5:AV) (a35:AV) (a36:AV) (a37:AV) (a81:AV) (a82:AV)=>fun (q:Nat)=>put 1 a1 (put 5 a5 (put 35 a35 (put 36 a36 (put 37 a37 (put 81 a81 (put 82 a82 (put 83 (.d (.int .i64 q)) U)))))))) _ _ _ _ _ _ _) (fun _=>At 1 [.d (.sl (ds.map DE.enc)),.d (.sl (fs.map FE.enc))] E) (fun _=>τ3) (fun q=>q<=nts.length) (fun q=>nts.length - q) ?_ 0 (by simp);intro x Z ih3;by_cases hxl:x < nts.length
      . obtain ⟨⟨y1,y2⟩,hy⟩:=Ai hxl;have hey:=BI (enc:=If) hy;have hw3:=wsu x;have hvu:=fun τ=>hval y1 τ (hgn _ (AD hy)).1;obtain ⟨k',n',us'⟩:=y1;simp only [If,dsA,tyA,Ty.enc,AF,AN,AX,Ag] at hey hvu;(repeat' (first|refine ctQ rfl ?_|((first|refine rgQ mxQ ?_|refine cdQ ?_|refine AI.det (hvu _) ?_|(refine Ae rfl (fun h=>?_) (fun h=>?_)<;>try (cases h;done)))<;>try simp only [Ap hxl,hey,hw3,go_sem])|(refine ⟨fun h=>?_,fun h=>?_⟩<;>first|(cases h;done)|try simp only [h])|fail));exact ih3 (x+1) hxl (by omega)
      . (repeat' (first|refine ctQ rfl ?_|((first|refine rgQ mxQ ?_|refine cdQ ?_|(refine Ae rfl (fun h=>?_) (fun h=>?_)<;>try (cases h;done)))<;>try simp only [B7 hxl,hw1,go_sem])|(refine ⟨fun h=>?_,fun h=>?_⟩<;>first|(cases h;done)|try simp only [h])|fail));exact ih (p+1,τ3) ⟨hlt,hle3⟩ (by simp only;omega)
  . (repeat' (first|refine ctQ rfl ?_|((first|refine rgQ mxQ ?_|refine cdQ ?_|(refine Run.Bg F4 (σ2:=Y) hle ?_)|refine AI.det (haw _ hle) ?_|(refine Ae rfl (fun h=>?_) (fun h=>?_)<;>try (cases h;done)))<;>try simp only [B7 hlt,go_sem])|(refine ⟨fun h=>?_,fun h=>?_⟩<;>first|(cases h;done)|try simp only [h])|fail))
def gtT:Nat->Option (Array Value):=fun b=>if b=gG then some kT else none
def AUX:(TC gtT).gt gG=some kT:=by simp [TC,gtT]
end Go.Ab
namespace Go.Proofs.YtofehhbehegimaaGreatDoor
open Go.ChangeShapes Go.WideShapes Go.ChangeAt Go.RowKit
def Tryz.own:ownKnob Tzp.godebug=none:=by kernel_rfl
def Tryz.laidOut:laidOutB Tzp=true:=by kernel_rfl
def ADZ:List (String×DataW Unit):=[("math/bits.deBruijn32tab",Rows.laid_math_bits_deBruijn32tab),("math/bits.deBruijn64tab",Rows.laid_math_bits_deBruijn64tab),("internal/strconv.uint64pow10",Rows.laid_internal_strconv_uint64pow10)]
def AR8:(Tzp.globals[Go.Ab.gG]?).map (·.type)=some 392:=by kernel_rfl
def AP8 (os:Os) (args:Array Value):laidMetH Tzp ADZ ((World.doorLaid Tzp 400 os).forCall (fun _ _=>0) ⟨#[],args,[]⟩).memory:=
 laidMetH_of_parts3 (fuel:=8) (laidMet_of_run' 8 (by kernel_rfl) (by kernel_rfl)) (by kernel_rfl) (by kernel_rfl)
def AO1 {W:World} {n:String} {g:Nat} {cs:Array Value} (hg:Tzp.globalNamed n=some g) (h:W.var? Tzp n=some cs):∃ty fr,W.heap[g]?=some (.cells cs ty fr):=by
 unfold World.var? at h;rw [hg,E6] at h;cases hh:W.heap[g]? with
 |none=>rw [hh] at h;cases h
 |some o=>
  rw [hh] at h;cases o<;>try (cases h;done)
  rename_i vs ty fr;have:vs=cs:=by simpa using h
  subst this;exact ⟨ty,fr,rfl⟩
def AUY {W:World} (h:laidMetH Tzp ADZ W):∀b vs,Go.Ab.gtT b=some vs->∃ty fr,W.heap[b]?=some (.cells vs ty fr):=by
 rw [MakeChecks.laidMetH_plain _ _ _ (by kernel_rfl)] at h;intro b vs hb;obtain ⟨ps,⟨g0,t0,cs0,f0,p0,q0,hg0,ht0,hv0,hd0,⟨g1,t1,cs1,f1,p1,q1,hg1,ht1,hv1,hd1,⟨g2,t2,cs2,f2,p2,q2,hg2,ht2,hv2,hd2,_,_⟩,_⟩,_⟩,_,_⟩:=h;obtain rfl:=Kc (Go.Ab.kU.symm.trans hg2);obtain rfl:=Kc (AR8.symm.trans ht2);have hc:=Lib.cells_of_tab (k:= .u64) (zs:=Lib.pow10Tab) Tryz.underlying392 Tryz.underlying369 (by kernel_rfl) (by kernel_rfl) (show DataW.trod _ _ _ _ _ _ _ _ _=some (Lib.tabData .u64 Lib.pow10Tab,p2) from hd2)
 have hcs:cs2=Go.Ab.kT:=by
  apply Array.toList_inj.1;rw [hc];rfl
 unfold Go.Ab.gtT at hb;split at hb
 . rename_i e;subst e;cases hb;rw [hcs] at hv2;exact AO1 Go.Ab.kU hv2
 . cases hb
end Go.Proofs.YtofehhbehegimaaGreatDoor
namespace Go.Ab
open Go.Proofs
def dP (av:List AV) (h:pK Tzp [25] av):AR Tzp 5 av (TC gtT) (fun v _=>v= .d (.bool true)):=by
 obtain ⟨x0,rfl⟩:=ATY h;exact (iB x0 (TC gtT) AUX).mono (fun _ _ h=>h.1)
end Go.Ab
namespace Go.Proofs.YtofehhbehegimaaGreatDoor
open Go.ChangeShapes Go.WideShapes Go.ChangeAt Go.RowKit
def Yk (os:Os) (started:os.Started) (H:Type) (enc:TypeId×Value->H):
 ReturnsInHanded {} Tryz.checked os 5 .any (fun w args=>(Rows.specialGroundSpec.pre enc Tzp Tryz.f5 [] false w args/\laidMetH Tzp ADZ w)/\sizedMet enc Tzp Tryz.f5 (OpenSpec.ofChange Rows.specialGroundSpec) false w args)
  (Rows.specialGroundSpec.post enc Tzp Tryz.f5 false true false false):=by
 refine returnsInHanded_of_change_and (C:=Tryz.checked) (X:=fun w _=>laidMetH Tzp ADZ w) (fun _ _ _ hh h=>h.of_heap hh) Tryz.own started (by kernel_rfl) Tryz.func5
  (ChangeSpec.witness_shaped (enc:=enc) (C:=Tryz.checked) (os:=os) (X:=fun w _=>laidMetH Tzp ADZ w) false (World.doorLaid Tzp 400 os) #[.agg #[.slice none 0 0,.slice none 0 0]] 8 rfl (World.shaped_of_RefB (by kernel_rfl) (by kernel_rfl)) (by kernel_rfl) (by kernel_rfl) (by kernel_rfl) (AP8 os _)) ?_
 intro W base args ds gs before hval hW _ _ hL _;have hT:=AUY hL;refine Go.Ab.wH (P:=Tzp) (gt:=Go.Ab.gtT) [25,22,87,9,67,85,91,89,93,3,23,73,71,2,68,69,158] Tryz.laidOut (by kernel_rfl) ?_ ?_ (tb:=4) (by kernel_rfl) Tryz.underlying4 rfl ?_ ?_ W hT base args ds gs before hval hW
 . rw [Tryz.params5];simp
 . rw [Tryz.params5];intro t ht;simp only [Az,List.not_mem_nil,or_false] at ht;subst ht;exact ⟨by kernel_rfl,of_decide_eq_true (by kernel_rfl)⟩
 . rw [Tryz.params5];intro ds hd
   match ds,hd with
   |[d0],_=>rfl
 . rw [Tryz.params5];exact Go.Ab.dP
def jA:mapsRowed Tzp=true:=by kernel_rfl
def jB:(Rows.specialGroundRow.inPlace==Tzp.inPlace 5)=true:=by kernel_rfl
def jC:(Rows.specialGroundRow.unfollowed==Tzp.unfollowed 5)=true:=by kernel_rfl
def jD:(Rows.specialGroundRow.recurses==Tzp.recurses 5)=true:=by kernel_rfl
def jE:(Rows.specialGroundRow.named==Tzp.varsNamed 5)=true:=by kernel_rfl
def jF:Tzp.stopsHeard=true:=by kernel_rfl
def jG:Tzp.mayEnter=true:=by kernel_rfl
def jH:(Rows.specialGroundRow.lifted==Tzp.liftsFinal)=true:=by kernel_rfl
def jI:(Tzp.make==some Rows.specialGroundRow.make)=true:=by kernel_rfl
def jJ:Tzp.funcNamed Rows.specialGroundRow.func=some 5:=by kernel_rfl
def Je {a b:Bool} (h1:a=true) (h2:b=true):(a&&b)=true:=by rw [h1,h2];rfl
def aF:joinedFacts Tzp 5 Tryz.f5 Rows.specialGroundSpec Rows.specialGroundRow=true:=(Je (Je (Je (Je (Je (Je (Je (Je (Je (Je (Je (Je (Je (Je (Je (Je (Je (Je (Je (Je (Je (Je (Je (Je (Je (Je (Je (Je (Je (Je (Je (by kernel_rfl) Tryz.laidOut) jA) (by kernel_rfl)) (by kernel_rfl)) (by kernel_rfl)) (by kernel_rfl)) (by kernel_rfl)) (by kernel_rfl)) jB) jC) jD) jE) (by kernel_rfl)) (by kernel_rfl)) (by kernel_rfl)) (by kernel_rfl)) (by kernel_rfl)) (by kernel_rfl)) (by kernel_rfl)) (by kernel_rfl)) (by kernel_rfl)) (by kernel_rfl)) (by kernel_rfl)) jF) jG) jH) jI) (by kernel_rfl)) (by kernel_rfl)) (by kernel_rfl)) (by kernel_rfl))
def gW:Rows.SpecialGroundSaid:=
 OpenClaim.holds_of_wide 5 Tryz.f5 rfl rfl rfl rfl rfl rfl rfl ⟨rfl,rfl,rfl,rfl,rfl⟩ rfl rfl rfl rfl rfl jJ Tryz.func5 aF
  (of_decide_eq_true (by kernel_rfl)) (by unfold Func.isWrapper;first|(rw [if_pos (by decide+kernel)];kernel_rfl)|(rw [if_neg (by decide+kernel)];exact ⟨rfl,rfl⟩))
  (fun os started H enc _=>Yk os started H enc)
def kW:Rows.specialGroundRow.wfByText (OpenSpec.ofChange Rows.specialGroundSpec)=true:=by kernel_rfl
def kM:Tzp.mainIs=some (true,"3d9c7e5ced9a6be71c9a93b29d22e6907a21ebd9f273b80f5dfea4fe4a7c3ccd".toList):=by kernel_rfl
def kL:false=Tzp.looks []:=by kernel_rfl
def kS:([25].all fun u=>!Tzp.wantsStandIn u)=true:=by kernel_rfl
def kG:false=Rows.specialGroundRow.goesBy Tzp:=by kernel_rfl
theorem specialGround_holds:Rows.SpecialGroundCardSaid:=
 Claim7.holds_tied_plain_at .later [] [.data,.data,.data] true (true,"3d9c7e5ced9a6be71c9a93b29d22e6907a21ebd9f273b80f5dfea4fe4a7c3ccd") false
  gW (fun _ h=>by cases h) kW (fun _ h=>by cases h) specialGround_row_tie rfl ⟨rfl,rfl⟩ kM rfl
  (fun f fn hf hfn=>by
    obtain rfl:f=5:=(Kc (jJ.symm.trans hf)).symm;obtain rfl:fn=Tryz.f5:=(Kc (Tryz.func5.symm.trans hfn)).symm
    exact ⟨kL,fun j t ht=>by
     rw [Tryz.params5] at ht;have hm:t∈[25]:=by simpa using Array.mem_of_getElem? ht
     exact (show Tzp.wantsStandIn t=false by simpa using Aj.1 kS t hm)⟩)
  kG
#print axioms Go.Proofs.YtofehhbehegimaaGreatDoor.specialGround_holds
end Go.Proofs.YtofehhbehegimaaGreatDoor
