/- Contracts of the library functions of this program over abstract states. What the rows of this seat share: forms read off their cells, the table of powers of ten. Sums of terms, in plain words. Orders of forms, in plain words. Sums of 64-bit numbers in 128 bits, in plain words. Digits: comparing, adding, taking away, in plain words; unsigned numbers. The compact codes of the functions of this seat, computed out of the translation. Conditions: none. -/
import Derived.Test.YtdbpmhfepfpldaaDoorCards
import Derived.Test.YtdbpmhfepfpldaaDoorTie
import Derived.LaidMore
import Derived.OpenShut
import Derived.Stop.Joined
import Derived.Test.YtdbpmhfepfpldaaDoorProg
import Derived.KernelRfl
import Derived.Test.YtdbpmhfepfpldaaDoorXTy
set_option linter.unusedSimpArgs false
set_option linter.unusedVariables false
set_option maxRecDepth 4000
set_option maxHeartbeats 8000000
open Option.some renaming inj→FF
open Option renaming bind_some→BU
open List renaming cons_append→C9,mem_cons_of_mem→Am,mem_cons_self→A5,mem_singleton→BR,mem_cons→BD,pairwise_cons→Be,getElem?_cons_succ→FK,getElem?_eq_getElem→AZ,getElem?_eq_some_iff→AL,replicate→AH,nil_append→B8,replicate_succ→CW,length_cons→Ap
open Nat renaming div_lt_self→HT,pos_of_ne_zero→Au,mod_lt→GQ,div_div_eq_div_mul→F7,eq_zero_or_pos→BE,zero_add→Ah,lt_or_ge→C4
open Int renaming natCast_add→Df
namespace Go.Proofs
open Go.Shelf Go.RowKit Go.Lib Go.Sort
set_option maxHeartbeats 1000000 in
theorem Tryd.Q0 (x y:Int×Int) (W:World):Calls Tryd.prog 87 #[.agg #[.int .i64 x.1,.int .i64 x.2],.agg #[.int .i64 y.1,.int .i64 y.2]] W fun e w'=>e= .returned (.int .i64 (Lib.compareInt x.1 y.1))∧∃q os',w'=grow (W.drewN q) os':=by
 have hcon:=fun W'=>AnyG.cmp_Compare_int Tryd.Uv x.1 y.1 W'
 change ∀W',Calls Tryd.prog 64 _ _ _ at hcon
 generalize Lib.compareInt x.1 y.1=r at hcon ⊢
 go_enter Tryd.func87,Tryd.ntmps87
 go_wp2_with (go_at_call 64;refine (hcon _).mono ?_;rintro e w' ⟨rfl,rfl⟩)
 go_ret
 exact ⟨rfl,0,_,by rw [alloc_eq_grow,alloc_eq_grow,grow_grow];rfl⟩
end Go.Proofs
namespace Go.Ab
open Go.RowKit Go.Sort Go.Proofs
theorem UK {σ:AF} {i e:Nat} {l:List (Int×Int)} (hsz:l.length≤1000000) (hb:σ.blk i=some (prs l)):
 AM Tryd.prog 86 [.ms i l.length 2 e,.fn 87 [] []] σ (fun v σ'=>v= .tup []∧∃l',l'.Perm l∧l'.Pairwise (fun a b=>a.1≤b.1)∧σ'=σ.AX i (prs l')):=by
 refine UJ (fun blk cap d w hH hblk hsz=>?_) (by omega) hb
 have eg:∀args w,(callFunc 87 args).run Tryd.prog w= .ok (.enter 87 args) w:=enters_of Tryd.func87 (by kernel_rfl) rfl
 exact AnyQ.slices_SortFunc Tryd.TH 2 Tryd.isAgg49 Tryd.sizeOf49 encI (fun _=>rfl) (fun x v hv=>by simp [encI] at hv;rcases hv with rfl|rfl<;>rfl) Rx Ry 87 #[] blk 0 cap d w eg (fun _ _ _ _ x y=>Tryd.Q0 x y _) hH hblk hsz
def PR:Array Value:=(Lib.pow10Tab.map fun z=>Value.int .u64 z).toArray
def NC:Nat:=0
theorem HJ:Tryd.prog.globalNamed "internal/strconv.uint64pow10"=some NC:=by kernel_rfl
theorem GP (n:Int) (σ:AF) (ht:σ.gt NC=some PR):AM Tryd.prog 54 [.d (.int .i64 n)] σ (fun v σ'=>v= .d (.str (Lib.itoa n))∧σ'=σ):=by
 refine AM.Px (fun base g Pr w0 w vs hr hv=>?_)
 obtain ⟨v,rfl,hvv⟩:=hv.one
 obtain ⟨rfl,h⟩:=hvv.Ij
 have h0: -9223372036854775808≤n:=h.1
 have h1:n≤9223372036854775807:=h.2
 exact ⟨_,.str (by have:=Lib.itoa_length_le n h0 h1;have:(21:Nat)≤maxLen:=by decide+kernel
                   omega),Tryd.strconv_Itoa n h0 h1 w (hr.tab HJ ht)⟩
theorem CJ (n:Int) (σ:AF) (ht:σ.gt NC=some PR):AM Tryd.prog 53 [.d (.int .i64 n),.d (.int .i64 10)] σ (fun v σ'=>v= .d (.str (Lib.itoa n))∧σ'=σ):=by
 refine AM.Px (fun base g Pr w0 w vs hr hv=>?_)
 obtain ⟨v,u,rfl,hvv,hu⟩:=hv.two
 obtain ⟨rfl,h⟩:=hvv.Ij
 obtain ⟨rfl,_⟩:=hu.Ij
 have h0: -9223372036854775808≤n:=h.1
 have h1:n≤9223372036854775807:=h.2
 exact ⟨_,.str (by have:=Lib.itoa_length_le n h0 h1;have:(21:Nat)≤maxLen:=by decide+kernel
                   omega),Tryd.strconv_FormatInt_10 n h0 h1 w (hr.tab HJ ht)⟩
theorem I6 {σ:AF} {i:Nat} {s:AV} (hb:σ.blk i=some [.gp i 0,s]) (ht:σ.bt i=some (2,73)):AM Tryd.prog 82 [.gp i 0] σ (fun v σ'=>v= .tup []∧σ'=σ):=
 Oe (fun b w h=>Any.Builder_copyCheck_used Tryd.Pt Tryd.GJ b w h) hb ht
theorem Hs {σ:AF} {i:Nat} {s:AV} (hb:σ.blk i=some [.CS,s]) (ht:σ.bt i=some (2,73)):AM Tryd.prog 82 [.gp i 0] σ (fun v σ'=>v= .tup []∧σ'=σ.AX i [.gp i 0,s]):=
 Nb (fun b w h1 h2 h3=>Any.Builder_copyCheck_fresh Tryd.Pt Tryd.GJ b w h1 h2 h3) hb ht
end Go.Ab
namespace Go.Ab
open Go.Proofs
theorem SE (ds:List DV) (h:DT Tryd.prog 49 ds):∃x:Int×Int,ds=tmR x:=by
 obtain ⟨a,b,rfl,h1,hb⟩:=(h.GB Tryd.underlying49).EH
 obtain ⟨a2,b2,rfl,h2,hb2⟩:=hb.EH
 cases hb2.KV
 obtain ⟨k,rfl,_⟩:=h1.GA Tryd.underlying3
 obtain ⟨m,rfl,_⟩:=h2.GA Tryd.underlying2
 exact ⟨(k,m),rfl⟩
theorem Po (ds:List DV) (h:DT Tryd.prog 33 ds):∃l:Ln,ds=l.enc:=by
 obtain ⟨a,b,rfl,h1,hb⟩:=(h.GB Tryd.underlying33).EH
 obtain ⟨a2,b2,rfl,h2,hb2⟩:=hb.EH
 cases hb2.KV
 obtain ⟨m,rfl,_⟩:=h1.GA Tryd.underlying2
 obtain ⟨rows,rfl,_,hr⟩:=h2.SO Tryd.underlying31
 obtain ⟨l,hl⟩:=OG (f:=tmR) rows (fun r hm=>SE r (hr r hm))
 exact ⟨⟨m,l⟩,by rw [hl];rfl⟩
def gtT:Nat→Option (Array Value):=fun b=>if b=NC then some PR else none
theorem Tg:(F3 gtT).gt NC=some PR:=by simp [F3,gtT]
end Go.Ab
namespace Go.Proofs.YtdbpmhfepfpldaaDoor
open Go.ChangeShapes Go.WideShapes Go.ChangeAt Go.RowKit
theorem Tryd.own:ownKnob Tryd.prog.godebug=none:=by kernel_rfl
theorem Tryd.laidOut:laidOutB Tryd.prog=true:=by kernel_rfl
def Nw:List (String×DataW Unit):=[("math/bits.deBruijn32tab",Rows.laid_math_bits_deBruijn32tab),("math/bits.deBruijn64tab",Rows.laid_math_bits_deBruijn64tab),("internal/strconv.uint64pow10",Rows.laid_internal_strconv_uint64pow10)]
theorem Sp:(Tryd.prog.globals[0]?).map (·.type)=some 140:=by kernel_rfl
theorem SF (os:Os) (args:Array Value):laidMetH Tryd.prog Nw ((World.doorLaid Tryd.prog 400 os).forCall (fun _ _=>0) ⟨#[],args,[]⟩).memory:=
 laidMetH_of_parts3 (fuel:=8) (laidMet_of_run' 8 (by kernel_rfl) (by kernel_rfl)) (by kernel_rfl) (by kernel_rfl)
theorem Sn {W:World} (h:laidMetH Tryd.prog Nw W):∀b vs,Go.Ab.gtT b=some vs→∃ty fr,W.heap[b]?=some (.cells vs ty fr):=by
 rw [MakeChecks.laidMetH_plain _ _ _ (by kernel_rfl)] at h
 obtain ⟨ps,⟨g0,t0,cs0,f0,p0,q0,hg0,ht0,hv0,hd0,⟨g1,t1,cs1,f1,p1,q1,hg1,ht1,hv1,hd1,⟨g2,t2,cs2,f2,p2,q2,hg2,ht2,hv2,hd2,_,_⟩,_⟩,_⟩,_,_⟩:=h
 obtain rfl:=FF (Go.Ab.HJ.symm.trans hg2)
 obtain rfl:=FF (Sp.symm.trans ht2)
 have hc:=Lib.cells_of_tab (k:= .u64) (zs:=Lib.pow10Tab) Tryd.underlying140 Tryd.underlying94 (by kernel_rfl) (by kernel_rfl) (show DataW.trod _ _ _ _ _ _ _ _ _=some (Lib.tabData .u64 Lib.pow10Tab,p2) from hd2)
 intro b vs hb
 unfold Go.Ab.gtT at hb
 split at hb
 · rename_i e
   subst e
   cases hb
   unfold World.var? at hv2
   rw [Go.Ab.HJ,BU] at hv2
   cases hh:W.heap[Go.Ab.NC]? with
   |none=>rw [hh] at hv2;cases hv2
   |some o=>
    rw [hh] at hv2
    cases o<;>try (cases hv2;done)
    rename_i vs ty fr
    refine ⟨ty,fr,?_⟩
    congr 2
    have:vs=cs2:=by simpa using hv2
    rw [this]
    apply Array.toList_inj.1
    rw [hc];rfl
 · cases hb
end Go.Proofs.YtdbpmhfepfpldaaDoor
namespace Go.Ab
abbrev Tms:=List (Int×Int)
def BK (v:Int):Tms→Int
 |[]=>0
 |x::l=>(if x.1=v then x.2 else 0)+BK v l
theorem Cu (v:Int):∀l m:Tms,BK v (l++m)=BK v l+BK v m
 |[],m=>by simp [BK]
 |x::l,m=>by simp only [C9,BK,Cu v l m];omega
theorem Q5 {v:Int} {l m:Tms} (h:l.Perm m):BK v l=BK v m:=by
 induction h with
 |nil=>rfl
 |cons x _ ih=>simp only [BK,ih]
 |swap x y l=>simp only [BK];omega
 |trans _ _ h1 h2=>exact h1.trans h2
theorem JG {v:Int}:∀ {l:Tms},(∀x∈l,x.1≠v)→BK v l=0
 |[],_=>rfl
 |x::l,h=>by
  have:=JG (l:=l) (fun y hy=>h y (Am _ hy))
  have h1:=h x (A5 ..)
  simp only [BK,this,if_neg h1];rfl
def Hn:Tms→Int→Int→Tms
 |[],v,c=>if c=0 then [] else [(v,c)]
 |x::l,v,c=>if x.1 < v then x::Hn l v c else if x.1=v then (if x.2+c=0 then l else (x.1,x.2+c)::l) else (if c=0 then x::l else (v,c)::x::l)
theorem MU (u v c:Int):∀l:Tms,BK u (Hn l v c)=BK u l+(if v=u then c else 0)
 |[]=>by
  simp only [Hn]
  split
  · rename_i h;simp [BK,h]
  · simp [BK]
 |x::l=>by
  simp only [Hn]
  split
  · simp only [BK,MU u v c l];omega
  · split
    · rename_i hv
      split
      · simp only [BK];rw [← hv];split<;>omega
      · simp only [BK];rw [← hv];split<;>omega
    · split
      · rename_i h0;simp [BK,h0]
      · simp only [BK];omega
theorem QH {l:Tms} {v c:Int}:∀ {y:Int×Int},y∈Hn l v c→y.1=v∨∃z∈l,z.1=y.1:=by
 induction l with
 |nil=>
  intro y hy
  simp only [Hn] at hy
  split at hy
  · cases hy
  · simp only [BR] at hy;subst hy;exact .inl rfl
 |cons x l ih=>
  intro y hy
  simp only [Hn] at hy
  split at hy
  · rcases BD.1 hy with rfl|hy
    · exact .inr ⟨_,A5 ..,rfl⟩
    · rcases ih hy with h|⟨z,hz,e⟩
      · exact .inl h
      · exact .inr ⟨z,Am _ hz,e⟩
  · split at hy
    · split at hy
      · exact .inr ⟨y,Am _ hy,rfl⟩
      · rcases BD.1 hy with rfl|hy
        · exact .inr ⟨x,A5 ..,rfl⟩
        · exact .inr ⟨y,Am _ hy,rfl⟩
    · split at hy
      · exact .inr ⟨y,hy,rfl⟩
      · rcases BD.1 hy with rfl|hy
        · exact .inl rfl
        · exact .inr ⟨y,hy,rfl⟩
def Asc (l:Tms):Prop:=l.Pairwise (fun a b=>a.1 < b.1)
def Nz (l:Tms):Prop:=∀x∈l,x.2≠0
theorem NY {v c:Int}:∀ {l:Tms},Asc l→Asc (Hn l v c)
 |[],_=>by
  simp only [Hn]
  split
  · exact .nil
  · exact .cons (by simp) .nil
 |x::l,h=>by
  have hp:=Be.1 h
  simp only [Hn]
  split
  · rename_i hx
    refine Be.2 ⟨fun y hy=>?_,NY hp.2⟩
    rcases QH hy with e|⟨z,hz,e⟩
    · omega
    · have:=hp.1 z hz;omega
  · split
    · split
      · exact hp.2
      · exact Be.2 ⟨fun y hy=>hp.1 y hy,hp.2⟩
    · split
      · exact h
      · refine Be.2 ⟨fun y hy=>?_,h⟩
        rcases BD.1 hy with rfl|hy
        · simp only;omega
        · have:=hp.1 y hy;simp only;omega
theorem Pe {v c:Int}:∀ {l:Tms},Nz l→Nz (Hn l v c)
 |[],_=>by
  simp only [Hn]
  split
  · intro x hx;cases hx
  · intro x hx;simp only [BR] at hx;subst hx;assumption
 |x::l,h=>by
  have h1:=h x (A5 ..)
  have h2:Nz l:=fun y hy=>h y (Am _ hy)
  simp only [Hn]
  split
  · intro y hy
    rcases BD.1 hy with rfl|hy
    · exact h1
    · exact Pe h2 y hy
  · split
    · split
      · exact h2
      · intro y hy
        rcases BD.1 hy with rfl|hy
        · assumption
        · exact h2 y hy
    · split
      · exact h
      · intro y hy
        rcases BD.1 hy with rfl|hy
        · assumption
        · exact h y hy
structure MJ (ts us:Tms):Prop where
 asc:Asc us
 nz:Nz us
 sum:∀v,BK v us=BK v ts
theorem Eg {x:Int×Int} {l:Tms} (h:Asc (x::l)):BK x.1 (x::l)=x.2:=by
 have:=JG (v:=x.1) (l:=l) (fun y hy=>by have:=(Be.1 h).1 y hy;omega)
 simp only [BK,this,if_pos];omega
theorem Kr {x:Int×Int} {l:Tms} {v:Int} (h:Asc (x::l)) (hv:v < x.1):BK v (x::l)=0:=by
 refine JG (fun y hy=>?_)
 rcases BD.1 hy with rfl|hy
 · omega
 · have:=(Be.1 h).1 y hy;omega
theorem Kk:∀ {us vs:Tms},Asc us→Nz us→Asc vs→Nz vs→(∀v,BK v us=BK v vs)→us=vs
 |[],[],_,_,_,_,_=>rfl
 |[],y::vs,_,_,h3,h4,h=>by
  have:=h y.1
  rw [Eg h3] at this
  exact absurd this.symm (h4 y (A5 ..))
 |x::us,[],h1,h2,_,_,h=>by
  have:=h x.1
  rw [Eg h1] at this
  exact absurd this (h2 x (A5 ..))
 |x::us,y::vs,h1,h2,h3,h4,h=>by
  have hxy:x.1=y.1:=by
   rcases Int.lt_trichotomy x.1 y.1 with hlt|he|hgt
   · have:=h x.1
     rw [Eg h1,Kr h3 hlt] at this
     exact absurd this (h2 x (A5 ..))
   · exact he
   · have:=h y.1
     rw [Eg h3,Kr h1 hgt] at this
     exact absurd this.symm (h4 y (A5 ..))
  have hc:x.2=y.2:=by
   have:=h x.1
   rw [Eg h1,hxy,Eg h3] at this
   exact this
  have hx:x=y:=Prod.ext hxy hc
  subst hx
  rw [Kk (Be.1 h1).2 (fun z hz=>h2 z (Am _ hz)) (Be.1 h3).2 (fun z hz=>h4 z (Am _ hz)) (fun v=>by have:=h v;simp only [BK] at this;omega)]
theorem MJ.unique {ts us vs:Tms} (h:MJ ts us) (k:MJ ts vs):us=vs:=Kk h.asc h.nz k.asc k.nz (fun v=>(h.sum v).trans (k.sum v).symm)
def Hm:Tms→Tms→Tms
 |acc,[]=>acc
 |acc,x::l=>Hm (Hn acc x.1 x.2) l
def I1 (ts:Tms):Tms:=Hm [] ts
theorem K4:∀(ts acc:Tms),Asc acc→Nz acc→MJ (acc++ts) (Hm acc ts)
 |[],acc,h1,h2=>⟨h1,h2,fun v=>by simp [Hm]⟩
 |x::l,acc,h1,h2=>by
  have:=K4 l (Hn acc x.1 x.2) (NY h1) (Pe h2)
  refine ⟨this.asc,this.nz,fun v=>?_⟩
  rw [Hm,this.sum,Cu,Cu,MU]
  simp only [BK];omega
theorem QV (ts:Tms):MJ ts (I1 ts):=by
 have:=K4 ts [] .nil (fun x hx=>by cases hx)
 simpa [I1] using this
theorem Uu {ts us:Tms} (h:MJ ts us):us=I1 ts:=h.unique (QV ts)
def Bd (ts:Tms):Prop:=ts.length≤1000∧∀x∈ts,-2199023255552≤x.2∧x.2≤2199023255552
end Go.Ab
namespace Go.Ab
def B1 (a b:Int):Int:=if a < b then -1 else if b < a then 1 else 0
def orI (a b:Int):Int:=if a=0 then b else a
abbrev bB:Nat:=1000000000
def AR (n:Nat):List Nat:=if h:n=0 then [] else n % bB::AR (n / bB)
termination_by n
decreasing_by exact HT (Au h) (by decide)
theorem CH:AR 0=[]:=by rw [AR];simp
theorem Ck {n:Nat} (h:0 < n):AR n=n % bB::AR (n / bB):=by
 rw [AR,dif_neg (by omega)]
theorem MZ {n:Nat}:AR n=[]↔n=0:=by
 constructor
 · intro h
   by_cases h0:n=0
   · exact h0
   · rw [Ck (Au h0)] at h;cases h
 · rintro rfl;exact CH
theorem HI:AR 1=[1]:=by
 rw [Ck (by decide),show 1 / bB=0 by decide,show 1 % bB=1 by decide,CH]
def CU:List Nat→Nat
 |[]=>0
 |x::l=>x+bB * CU l
theorem J2:∀n,CU (AR n)=n:=fun n=>by
 induction n using Nat.strongRecOn with
 |ind n ih=>
  by_cases h0:n=0
  · subst h0;rw [CH];rfl
  · rw [Ck (Au h0),CU,ih _ (HT (Au h0) (by decide))]
    exact Nat.mod_add_div n bB
theorem LI:∀n,∀x∈AR n,x < bB:=fun n=>by
 induction n using Nat.strongRecOn with
 |ind n ih=>
  by_cases h0:n=0
  · subst h0;rw [CH];simp
  · rw [Ck (Au h0)]
    intro x hx
    rcases BD.1 hx with rfl|hx
    · exact GQ _ (by decide)
    · exact ih _ (HT (Au h0) (by decide)) x hx
theorem LH:∀(i n:Nat),(AR n)[i]?=if 0 < n / bB ^ i then some ((n / bB ^ i) % bB) else none
 |0,n=>by
  rw [Nat.pow_zero,Nat.div_one]
  by_cases h0:n=0
  · subst h0;rw [CH];simp
  · rw [Ck (Au h0),if_pos (Au h0)];rfl
 |i+1,n=>by
  by_cases h0:n=0
  · subst h0;rw [CH];simp
  · rw [Ck (Au h0),FK,LH i (n / bB),F7,← Nat.pow_succ']
theorem Cb {i n:Nat}:i < (AR n).length↔0 < n / bB ^ i:=by
 have h:=LH i n
 constructor
 · intro hi
   rw [AZ hi] at h
   split at h
   · assumption
   · cases h
 · intro hp
   rw [if_pos hp] at h
   exact (AL.1 h).1
theorem Pn:∀(l:List Nat),(∀x∈l,x < bB)→∃k,l=AR (CU l)++AH k 0
 |[],_=>⟨0,by rw [CU,CH];rfl⟩
 |x::l,h=>by
  obtain ⟨k,hk⟩:=Pn l (fun y hy=>h y (Am _ hy))
  have hx:=h x (A5 ..)
  by_cases h0:CU (x::l)=0
  · rw [h0,CH]
    rw [CU] at h0
    have h1:CU l=0:=by
     rcases BE (CU l) with h|h
     · exact h
     · have:bB * 1≤bB * CU l:=Nat.mul_le_mul_left _ h
       omega
    rw [h1,CH,B8] at hk
    refine ⟨k+1,?_⟩
    rw [B8,CW,← hk]
    congr 1;omega
  · refine ⟨k,?_⟩
    rw [Ck (Au h0),C9]
    have h1:CU (x::l) % bB=x:=by rw [CU,Nat.add_mul_mod_self_left];exact Nat.mod_eq_of_lt hx
    have h2:CU (x::l) / bB=CU l:=by rw [CU,Nat.add_mul_div_left _ _ (by decide),Nat.div_eq_of_lt hx,Ah]
    rw [h1,h2,← hk]
theorem PD {n:Nat} (h:0 < n):∃l x,AR n=l++[x]∧x≠0:=by
 induction n using Nat.strongRecOn with
 |ind n ih=>
  rw [Ck h]
  by_cases h0:n / bB=0
  · rw [h0,CH]
    refine ⟨[],n % bB,rfl,?_⟩
    have:=Nat.mod_add_div n bB
    rw [h0] at this;omega
  · obtain ⟨l,x,e,hx⟩:=ih (n / bB) (HT h (by decide)) (Au h0)
    exact ⟨n % bB::l,x,by rw [e];rfl,hx⟩
end Go.Ab
namespace Go.Ab
theorem Lc {c:Int} (h1: -9223372036854775808≤c) (h2:c≤9223372036854775807):IntKind.u64.wrap c=if c < 0 then c+18446744073709551616 else c:=by
 unfold IntKind.wrap
 simp only [IntKind.signed,IntKind.bits]
 simp
 split<;>omega
theorem VA {c:Int} (h1: -9223372036854775808≤c) (h2:c≤9223372036854775807):c.fdiv (2 ^ (min 63 64:Nat))=if c < 0 then -1 else 0:=by
 have e:(2:Int) ^ (min 63 64:Nat)=9223372036854775808:=by decide
 rw [e,Int.fdiv_eq_ediv_of_nonneg _ (by omega)]
 split<;>omega
def Ek (S hi lo:Int):Prop:=0≤hi∧hi < 18446744073709551616∧0≤lo∧lo < 18446744073709551616∧∃q:Int,hi * 18446744073709551616+lo=S+q * 340282366920938463463374607431768211456
theorem Ek.zero:Ek 0 0 0:=⟨by omega,by omega,by omega,by omega,0,by omega⟩
theorem Ek.step {S hi lo c:Int} (h:Ek S hi lo) (h1: -9223372036854775808≤c) (h2:c≤9223372036854775807):
 Ek (S+c) ((hi+IntKind.u64.wrap (if c < 0 then -1 else 0)+(lo+IntKind.u64.wrap c+0) / 18446744073709551616) % 18446744073709551616) ((lo+IntKind.u64.wrap c+0) % 18446744073709551616):=by
 obtain ⟨a1,a2,a3,a4,q,hq⟩:=h
 rw [Lc h1 h2,Lc (by split<;>omega) (by split<;>omega)]
 refine ⟨by omega,by omega,by omega,by omega,?_⟩
 split
 · simp only [show ((-1:Int) < 0)=True from eq_true (by decide),if_true]
   refine ⟨q+1 - (hi+(-1+18446744073709551616)+(lo+(c+18446744073709551616)+0) / 18446744073709551616) / 18446744073709551616,?_⟩
   omega
 · simp only [Int.lt_irrefl,if_false]
   refine ⟨q - (hi+0+(lo+c+0) / 18446744073709551616) / 18446744073709551616,?_⟩
   omega
theorem Ek.nz {S hi lo:Int} (h:Ek S hi lo) (hb: -100000000000000000000000≤S∧S≤100000000000000000000000):(hi=0∧lo=0)↔S=0:=by
 obtain ⟨a1,a2,a3,a4,q,hq⟩:=h
 constructor
 · rintro ⟨rfl,rfl⟩;omega
 · intro h;subst h;omega
theorem Ek.carry {lo c:Int} (h1:0≤lo∧lo < 18446744073709551616) (h2: -9223372036854775808≤c) (h3:c≤9223372036854775807):0≤(lo+IntKind.u64.wrap c+0) / 18446744073709551616∧(lo+IntKind.u64.wrap c+0) / 18446744073709551616≤1:=by
 rw [Lc h2 h3]
 split<;>omega
theorem I7 (v:Int):∀(l:Tms),(∀x∈l,-9223372036854775808≤x.2∧x.2≤9223372036854775807)→-9223372036854775808 * (l.length:Int)≤BK v l∧BK v l≤9223372036854775808 * (l.length:Int)
 |[],_=>by simp [BK]
 |x::l,h=>by
  have h1:=I7 v l (fun y hy=>h y (Am _ hy))
  have h2:=h x (A5 ..)
  simp only [BK,Ap,Df,Int.natCast_one]
  split<;>omega
end Go.Ab
namespace Go.Ab
theorem HE (x i:Nat):x / bB ^ i=bB * (x / bB ^ (i+1))+x / bB ^ i % bB:=by
 rw [Nat.pow_succ,← F7]
 have:=Nat.mod_add_div (x / bB ^ i) bB
 omega
theorem JJ {x y i:Nat} (h:x / bB ^ i < y / bB ^ i):x < y:=by
 rcases C4 x y with h1|h1
 · exact h1
 · have:=Nat.div_le_div_right (c:=bB ^ i) h1;omega
theorem MY {x y:Nat} (h:(AR x).length < (AR y).length):x < y:=by
 have h1:¬(AR x).length < (AR x).length:=Nat.lt_irrefl _
 rw [Cb] at h1 h
 exact JJ (i:=(AR x).length) (by omega)
theorem JR (x:Nat):x / bB ^ (AR x).length=0:=by
 have h1:¬(AR x).length < (AR x).length:=Nat.lt_irrefl _
 rw [Cb] at h1
 exact Nat.le_zero.1 (Nat.not_lt.1 h1)
theorem Eh {x i:Nat} (h:i < (AR x).length):(AR x)[i]?=some (x / bB ^ i % bB):=by
 rw [LH,if_pos (Cb.1 h)]
theorem Mb:∀(D:List Nat) (d:Nat),CU (D++[d])=CU D+bB ^ D.length * d
 |[],d=>by simp [CU]
 |x::D,d=>by
  rw [C9,CU,CU,Mb D d,Ap,Nat.pow_succ',Nat.mul_add,Nat.mul_assoc]
  omega
theorem QE:∀(D:List Nat),(∀x∈D,x < bB)→CU D < bB ^ D.length
 |[],_=>by simp [CU]
 |x::D,h=>by
  have h1:=h x (A5 ..)
  have h2:=QE D (fun y hy=>h y (Am _ hy))
  rw [CU,Ap,Nat.pow_succ']
  have h3:bB * (CU D+1)≤bB * bB ^ D.length:=Nat.mul_le_mul_left _ h2
  rw [Nat.mul_succ] at h3
  omega
theorem OS:∀k,CU (AH k 0)=0
 |0=>rfl
 |k+1=>by rw [CW,CU,OS k];simp
theorem P8 (D:List Nat) (k:Nat):CU (D++AH k 0)=CU D:=by
 induction D with
 |nil=>rw [B8,OS];rfl
 |cons x D ih=>rw [C9,CU,CU,ih]
theorem Gl {x k:Nat} (h:x < bB ^ k):(AR x).length≤k:=by
 rcases C4 k (AR x).length with h1|h1
 · rw [Cb] at h1
   have:=Nat.div_eq_of_lt h
   omega
 · exact h1
theorem Rl {p q c:Nat} (h:0 < p+q+c):AR (p+q+c)=(c+p % bB+q % bB) % bB::AR (p / bB+q / bB+(c+p % bB+q % bB) / bB):=by
 rw [Ck h]
 simp only [bB]
 congr 1
 · omega
 · congr 1;omega
theorem TM {x y:Nat} {D:List Nat} {i bw:Nat} (hl:D.length=i) (hv:(CU D:Int)+(bB ^ i:Nat) * ((x / bB ^ i:Nat) - (y / bB ^ i:Nat) - (bw:Int))=(x:Int) - y):
 ∀d b2:Nat,(d:Int)=((x / bB ^ i % bB:Nat):Int) - ((y / bB ^ i % bB:Nat)+bw)+b2 * (bB:Int)→
  (CU (D++[d]):Int)+(bB ^ (i+1):Nat) * ((x / bB ^ (i+1):Nat) - (y / bB ^ (i+1):Nat) - (b2:Int))=(x:Int) - y:=fun d b2 hd=>by
 have h1:=HE x i
 have h2:=HE y i
 rw [Mb,hl]
 generalize x / bB ^ (i+1)=X at *
 generalize y / bB ^ (i+1)=Y at *
 rw [Nat.pow_succ]
 generalize x / bB ^ i % bB=xd at *
 generalize y / bB ^ i % bB=yd at *
 generalize bB ^ i=Z at *
 rw [h1,h2] at hv
 rw [← hv]
 simp only [Df,Int.natCast_mul,bB]
 rw [hd]
 simp only [bB]
 have e1:(Z:Int) * (((1000000000:Nat):Int) * (X:Int))=1000000000 * ((Z:Int) * (X:Int)):=Int.mul_left_comm ..
 have e2:(Z:Int) * (((1000000000:Nat):Int) * (Y:Int))=1000000000 * ((Z:Int) * (Y:Int)):=Int.mul_left_comm ..
 have e3:(Z:Int) * ((b2:Int) * ((1000000000:Nat):Int))=1000000000 * ((Z:Int) * (b2:Int)):=by rw [← Int.mul_assoc,Int.mul_comm];rfl
 have e5:∀u:Int,(Z:Int) * ((1000000000:Nat):Int) * u=1000000000 * ((Z:Int) * u):=fun u=>by rw [Int.mul_comm (Z:Int),Int.mul_assoc];rfl
 simp only [Int.mul_add,Int.mul_sub,e1,e2,e3,e5]
 omega
theorem FY {n:Nat} (h:n < 4294967296):IntKind.u32.wrap (n:Int)=(n:Int):=by
 unfold IntKind.wrap
 have e:(n:Int) % (2 ^ 32:Int)=n:=Int.emod_eq_of_lt (by omega) (by omega)
 simp only [IntKind.signed,IntKind.bits,e]
 rw [if_neg (by simp)]
theorem Lb {n:Nat} (h:n < 18446744073709551616):IntKind.u64.wrap (n:Int)=(n:Int):=by
 unfold IntKind.wrap
 have e:(n:Int) % (2 ^ 64:Int)=n:=Int.emod_eq_of_lt (by omega) (by omega)
 simp only [IntKind.signed,IntKind.bits,e]
 rw [if_neg (by simp)]
end Go.Ab
namespace Go.Ab
open Go.Proofs
variable {args:List AV} {σ:AF} {K:AV→AF→Prop}
def GZ:C:=(.seq (.reg [Qo 4 (.box (.t 0) false),
 Qo 5 (.box (.t 1) false),
 Qo 6 (.box (.t 2) false),
 Qo 8 (.mv (.c (.d (.bool false))))] [3,4,5,6])
 (.seq (.seq (.reg [Qo 10 (.ldl (.t 4) (some 2)),
 Qo 11 (.ldl (.t 5) (some 2)),
 Qo 12 (.ldl (.t 6) (some 2)),
 Qo 13 (.bsl 2 3 [(.d (.int .i64 0)),.A7,(.d (.int .i64 0)),.A7,(.d (.int .i64 0)),.A7] [(0,2,(.t 10)),(2,2,(.t 11)),(4,2,(.t 12))]),
 Qo 14 (.call 23 [(.t 13)]),
 Qo 15 (.un .not (.t 14))] [3,4,5,6,15])
 (.cond (.t 15) (.seq (.reg [Qo 8 (.mv (.c (.d (.bool true))))] [8])
 .ret)
 .skip))
 (.seq (.reg [Qo 16 (.ldl (.t 4) (some 2)),
 Qo 17 (.ldl (.t 5) (some 2)),
 Qo 18 (.call 37 [(.t 16),(.t 17)]),
 Qm 9 18] [3,4,5,6,9])
 (.seq (.seq (.reg [Qm 19 9,
 Qo 20 (.ldl (.t 4) (some 2)),
 Qo 21 (.ldl (.t 5) (some 2)),
 Qo 22 (.call 38 [(.t 20),(.t 21)]),
 Qo 23 (.bin .neq (.t 19) (.t 22)),
 Qm 24 23,
 ⟨some 25,.mv (.t 9),some (24,false)⟩,
 ⟨some 26,.ldl (.t 5) (some 2),some (24,false)⟩,
 ⟨some 27,.ldl (.t 4) (some 2),some (24,false)⟩,
 ⟨some 28,.call 37 [(.t 26),(.t 27)],some (24,false)⟩,
 ⟨some 29,.un .neg (.t 28),some (24,false)⟩,
 ⟨some 30,.bin .neq (.t 25) (.t 29),some (24,false)⟩,
 Qo 31 (.pick (.t 24) (.c (.d (.bool true))) (.t 30)),
 Qm 32 31,
 ⟨some 33,.mv (.t 9),some (32,false)⟩,
 ⟨some 34,.bin .eql (.t 33) (.c (.d (.int .i64 0))),some (32,false)⟩,
 ⟨some 35,.ldl (.t 4) (some 2),some (32,false)⟩,
 ⟨some 36,.ldl (.t 5) (some 2),some (32,false)⟩,
 ⟨some 37,.call 17 [(.t 35),(.t 36)],some (32,false)⟩,
 ⟨some 38,.N2 .neq (.t 34) (.t 37),some (32,false)⟩,
 Qo 39 (.pick (.t 32) (.c (.d (.bool true))) (.t 38)),
 Qm 40 39,
 ⟨some 41,.ldl (.t 4) (some 2),some (40,false)⟩,
 ⟨some 42,.mv (.t 3),some (40,false)⟩,
 ⟨some 44,.ldl (.t 4) (some 2),some (40,false)⟩,
 ⟨some 45,.mv (.t 3),some (40,false)⟩,
 ⟨some 43,.call 39 [(.t 41),(.t 42)],some (40,false)⟩,
 ⟨some 46,.call 40 [(.t 44),(.t 45)],some (40,false)⟩,
 ⟨some 47,.N2 .neq (.t 43) (.t 46),some (40,false)⟩,
 Qo 48 (.pick (.t 40) (.c (.d (.bool true))) (.t 47))] [4,5,6,9,48])
 (.cond (.t 48) (.seq (.reg [Qo 8 (.mv (.c (.d (.bool false))))] [8])
 .ret)
 .skip))
 (.seq (.seq (.reg [Qm 49 9,
 Qo 50 (.bin .leq (.t 49) (.c (.d (.int .i64 0)))),
 Qm 51 50,
 ⟨some 52,.ldl (.t 5) (some 2),some (51,true)⟩,
 ⟨some 53,.ldl (.t 6) (some 2),some (51,true)⟩,
 ⟨some 54,.call 37 [(.t 52),(.t 53)],some (51,true)⟩,
 ⟨some 55,.bin .leq (.t 54) (.c (.d (.int .i64 0))),some (51,true)⟩,
 Qo 56 (.pick (.t 51) (.t 55) (.c (.d (.bool false)))),
 Qm 57 56,
 ⟨some 58,.ldl (.t 4) (some 2),some (57,true)⟩,
 ⟨some 59,.ldl (.t 6) (some 2),some (57,true)⟩,
 ⟨some 60,.call 37 [(.t 58),(.t 59)],some (57,true)⟩,
 ⟨some 61,.bin .gtr (.t 60) (.c (.d (.int .i64 0))),some (57,true)⟩,
 Qo 62 (.pick (.t 57) (.t 61) (.c (.d (.bool false))))] [62])
 (.cond (.t 62) (.seq (.reg [Qo 8 (.mv (.c (.d (.bool false))))] [8])
 .ret)
 .skip))
 (.seq (.reg [Qo 63 (.call 22 []),
 Qm 8 63] [8])
 .ret))))))
def Gu:List (List Nat×PT):=[([3,4,5,6],.done),([3,4,5,6,15],.done),([8],.done),([3,4,5,6,9],.done),([4,5,6,9,48],(.one 0 (.one 1 (.one 2 (.one 3 (.one 4 (.one 5 (.one 6 (.one 7 (.one 8 (.one 9 (.one 10 (.one 11 (.one 12 (.one 13 (.one 14 (.one 15 (.one 16 (.one 17 (.one 18 (.one 19 (.one 20 (.one 21 (.one 22 (.one 23 (.one 25 (.one 26 (.one 24 (.one 27 (.one 28 (.one 29 .done))))))))))))))))))))))))))))))),([8],.done),([62],.done),([8],.done),([8],.done)]
noncomputable def Bi:Cx:=⟨Tryd.prog,9,Tryd.f9,64,[300010,300011,300012,300016,300017,300020,300021,300026,300027,300035,300036,300041,300044,300052,300053,300058,300059],[],[.t 8]⟩
theorem Bg:Good Bi:=⟨Tryd.func9,by kernel_rfl⟩
theorem GU:Bi.rs=[.t 8]:=rfl
theorem Gi (hl:args.length≤64) (h:Run Bi K [.code GZ] (B0 args) E σ):AM Tryd.prog 9 args σ K:=
 AT (cx:=Bi) (code:=Tryd.f9.body.getD .skip) Bg (by kernel_rfl) Tryd.ntmps9 hl (AU Bi _ Gu _ [] (by kernel_rfl)) h
def Fa:C:=(.seq (.reg [Qo 2 (.box (.t 0) false),
 Qo 3 (.box (.t 1) false),
 Qo 4 (.mv (.c (.d (.int .i64 0))))] [2,3])
 (.seq (.seq (.reg [Qo 7 (.fld (.t 2) 1),
 Qo 8 (.ldl (.t 7) none),
 Qo 9 (.len (.t 8)),
 Qo 10 (.fld (.t 3) 1),
 Qo 11 (.ldl (.t 10) none),
 Qo 12 (.len (.t 11)),
 Qo 13 (.call 64 [(.t 9),(.t 12)]),
 Qm 5 13] [2,3,5])
 (.seq (.reg [Qm 14 5,
 Qo 15 (.bin .neq (.t 14) (.c (.d (.int .i64 0))))] [2,3,5,15])
 (.cond (.t 15) (.seq (.reg [Qm 16 5,
 Qm 4 16] [4])
 .ret)
 .skip)))
 (.seq (.reg [Qo 17 (.fld (.t 2) 1),
 Qo 18 (.ldl (.t 17) none),
 Qo 19 (.fld (.t 3) 1),
 Qo 20 (.ldl (.t 19) none),
 Qo 21 (.call 65 [(.t 18),(.t 20),(.c (.fn 66 [] []))]),
 Qm 6 21] [2,3,6])
 (.seq (.reg [Qm 22 6,
 Qo 23 (.fld (.t 2) 0),
 Qo 24 (.ldl (.t 23) none),
 Qo 25 (.fld (.t 3) 0),
 Qo 26 (.ldl (.t 25) none),
 Qo 27 (.call 68 [(.t 24),(.t 26)]),
 Qo 28 (.bsl 1 2 [(.d (.int .i64 0)),(.d (.int .i64 0))] [(0,1,(.t 22)),(1,1,(.t 27))]),
 Qo 29 (.call 67 [(.t 28)]),
 Qm 4 29] [4])
 .ret))))
noncomputable def C1:Cx:=⟨Tryd.prog,37,Tryd.f37,30,[300008,300011,300018,300020,300024,300026],[],[.t 4]⟩
theorem Dy:Good C1:=⟨Tryd.func37,by kernel_rfl⟩
theorem Is:C1.rs=[.t 4]:=rfl
theorem JN (hl:args.length≤30) (h:Run C1 K [.code Fa] (B0 args) E σ):AM Tryd.prog 37 args σ K:=
 AT (cx:=C1) (code:=Tryd.f37.body.getD .skip) Dy (by kernel_rfl) Tryd.ntmps37 hl (AU C1 _ (Bo Fa) _ [] (by kernel_rfl)) h
def JD:C:=(.seq (.reg [Qo 25 (.bin .lss (.t 24) (.t 23))] [2,3,23,24,25])
 (.seq (.cond (.t 25) .skip
 (.exit 0))
 (.seq (.block 1 (.seq (.reg [Qm 26 24,
 Qm 5 26] [2,3,5,23,24])
 (.seq (.seq (.reg [Qo 27 (.fld (.t 2) 1),
 Qo 28 (.ldl (.t 27) none),
 Qm 29 5,
 Qo 30 (.ix (.t 28) (.t 29) 2),
 Qo 31 (.fld (.t 30) 0),
 Qo 32 (.ld (.t 31) none),
 Qo 33 (.fld (.t 3) 1),
 Qo 34 (.ldl (.t 33) none),
 Qm 35 5,
 Qo 36 (.ix (.t 34) (.t 35) 2),
 Qo 37 (.fld (.t 36) 0),
 Qo 38 (.ld (.t 37) none),
 Qo 39 (.bin .neq (.t 32) (.t 38))] [2,3,5,23,24,39])
 (.cond (.t 39) (.seq (.reg [Qo 40 (.fld (.t 2) 1),
 Qo 41 (.ldl (.t 40) none),
 Qm 42 5,
 Qo 43 (.ix (.t 41) (.t 42) 2),
 Qo 44 (.fld (.t 43) 0),
 Qo 45 (.ld (.t 44) none),
 Qo 46 (.fld (.t 3) 1),
 Qo 47 (.ldl (.t 46) none),
 Qm 48 5,
 Qo 49 (.ix (.t 47) (.t 48) 2),
 Qo 50 (.fld (.t 49) 0),
 Qo 51 (.ld (.t 50) none),
 Qo 52 (.bin .lss (.t 45) (.t 51)),
 Qo 53 (.call 69 [(.t 52)]),
 Qm 4 53] [4])
 .ret)
 .skip))
 (.seq (.reg [Qo 54 (.fld (.t 2) 1),
 Qo 55 (.ldl (.t 54) none),
 Qm 56 5,
 Qo 57 (.ix (.t 55) (.t 56) 2),
 Qo 58 (.fld (.t 57) 1),
 Qo 59 (.ld (.t 58) none),
 Qo 60 (.fld (.t 3) 1),
 Qo 61 (.ldl (.t 60) none),
 Qm 62 5,
 Qo 63 (.ix (.t 61) (.t 62) 2),
 Qo 64 (.fld (.t 63) 1),
 Qo 65 (.ld (.t 64) none),
 Qo 66 (.bin .neq (.t 59) (.t 65))] [2,3,5,23,24,66])
 (.cond (.t 66) (.seq (.reg [Qo 67 (.fld (.t 2) 1),
 Qo 68 (.ldl (.t 67) none),
 Qm 69 5,
 Qo 70 (.ix (.t 68) (.t 69) 2),
 Qo 71 (.fld (.t 70) 1),
 Qo 72 (.ld (.t 71) none),
 Qo 73 (.fld (.t 3) 1),
 Qo 74 (.ldl (.t 73) none),
 Qm 75 5,
 Qo 76 (.ix (.t 74) (.t 75) 2),
 Qo 77 (.fld (.t 76) 1),
 Qo 78 (.ld (.t 77) none),
 Qo 79 (.bin .lss (.t 72) (.t 78)),
 Qo 80 (.call 69 [(.t 79)]),
 Qm 4 80] [4])
 .ret)
 .skip)))))
 (.reg [Qo 81 (.bin .add (.t 24) (.c (.d (.int .i64 1)))),
 Qm 24 81] [2,3,23,24]))))
def H8:C:=(.seq (.reg [Qo 2 (.box (.t 0) false),
 Qo 3 (.box (.t 1) false),
 Qo 4 (.mv (.c (.d (.int .i64 0))))] [2,3])
 (.seq (.seq (.reg [Qo 6 (.fld (.t 2) 1),
 Qo 7 (.ldl (.t 6) none),
 Qo 8 (.len (.t 7)),
 Qo 9 (.fld (.t 3) 1),
 Qo 10 (.ldl (.t 9) none),
 Qo 11 (.len (.t 10)),
 Qo 12 (.bin .neq (.t 8) (.t 11))] [2,3,12])
 (.cond (.t 12) (.seq (.reg [Qo 13 (.fld (.t 2) 1),
 Qo 14 (.ldl (.t 13) none),
 Qo 15 (.len (.t 14)),
 Qo 16 (.fld (.t 3) 1),
 Qo 17 (.ldl (.t 16) none),
 Qo 18 (.len (.t 17)),
 Qo 19 (.bin .lss (.t 15) (.t 18)),
 Qo 20 (.call 69 [(.t 19)]),
 Qm 4 20] [4])
 .ret)
 .skip))
 (.seq (.seq (.reg [Qo 21 (.fld (.t 2) 1),
 Qo 22 (.ldl (.t 21) none),
 Qo 23 (.len (.t 22)),
 Qo 24 (.mv (.c (.d (.int .i64 0))))] [2,3,23,24])
 (.block 0 (.loop JD)))
 (.seq (.seq (.reg [Qo 82 (.fld (.t 2) 0),
 Qo 83 (.ldl (.t 82) none),
 Qo 84 (.fld (.t 3) 0),
 Qo 85 (.ldl (.t 84) none),
 Qo 86 (.bin .neq (.t 83) (.t 85))] [2,3,86])
 (.cond (.t 86) (.seq (.reg [Qo 87 (.fld (.t 2) 0),
 Qo 88 (.ldl (.t 87) none),
 Qo 89 (.fld (.t 3) 0),
 Qo 90 (.ldl (.t 89) none),
 Qo 91 (.bin .lss (.t 88) (.t 90)),
 Qo 92 (.call 69 [(.t 91)]),
 Qm 4 92] [4])
 .ret)
 .skip))
 (.seq (.reg [Qo 4 (.mv (.c (.d (.int .i64 0))))] [4])
 .ret)))))
noncomputable def D0:Cx:=⟨Tryd.prog,38,Tryd.f38,93,[300007,300010,300014,300017,300022,300028,300034,300041,300047,300055,300061,300068,300074,300083,300085,300088,300090],[],[.t 4]⟩
theorem Cj:Good D0:=⟨Tryd.func38,by kernel_rfl⟩
theorem L1:D0.rs=[.t 4]:=rfl
theorem Lt (hl:args.length≤93) (h:Run D0 K [.code H8] (B0 args) E σ):AM Tryd.prog 38 args σ K:=
 AT (cx:=D0) (code:=Tryd.f38.body.getD .skip) Cj (by kernel_rfl) Tryd.ntmps38 hl (AU D0 _ (Bo H8) _ [] (by kernel_rfl)) h
def G1:C:=(.seq (.reg [Qo 14 (.bin .lss (.t 13) (.t 12))] [1,5,6,11,12,13,14])
 (.seq (.cond (.t 14) .skip
 (.exit 0))
 (.seq (.block 1 (.seq (.reg [Qo 15 (.ix (.t 11) (.t 13) 2),
 Qo 16 (.ld (.t 15) (some 2)),
 Qo 8 (.al [(.d (.int .i64 0)),(.d (.int .i64 0))] false),
 ⟨none,.st (.t 8) (.t 16) 2,none⟩] [1,5,6,8,11,12,13])
 (.seq (.reg [Qo 17 (.fld (.t 8) 0),
 Qo 18 (.ldl (.t 17) none),
 Qm 19 1,
 Qo 20 (.bin .eql (.t 18) (.t 19))] [1,5,6,8,11,12,13,20])
 (.cond (.t 20) (.seq (.reg [Qo 9 (.mv (.c (.d (.int .u64 0))))] [1,5,6,8,11,12,13])
 (.seq (.reg [Qm 22 6,
 Qo 23 (.fld (.t 8) 1),
 Qo 24 (.ldl (.t 23) none),
 Qo 25 (.conv .u64 (.t 24)),
 Qo 26 (.ex .IM [(.t 22),(.t 25),(.c (.d (.int .u64 0)))]),
 Qm 21 26,
 Qo 27 (.ext (.t 21) 0),
 Qo 28 (.ext (.t 21) 1),
 Qm 6 27,
 Qm 9 28] [1,5,6,8,9,11,12,13])
 (.reg [Qm 30 5,
 Qo 31 (.fld (.t 8) 1),
 Qo 32 (.ldl (.t 31) none),
 Qo 33 (.ex (.shr 63) [(.t 32)]),
 Qo 34 (.conv .u64 (.t 33)),
 Qm 35 9,
 Qo 36 (.ex .IM [(.t 30),(.t 34),(.t 35)]),
 Qm 29 36,
 Qo 37 (.ext (.t 29) 0),
 Qo 38 (.ext (.t 29) 1),
 Qm 5 37] [1,5,6,11,12,13])))
 .skip))))
 (.reg [Qo 39 (.bin .add (.t 13) (.c (.d (.int .i64 1)))),
 Qm 13 39] [1,5,6,11,12,13]))))
def FP:C:=(.seq (.reg [Qo 2 (.box (.t 0) false),
 Qo 4 (.mv (.c (.d (.bool false))))] [1,2])
 (.seq (.reg [Qo 5 (.mv (.c (.d (.int .u64 0)))),
 Qo 6 (.mv (.c (.d (.int .u64 0))))] [1,2,5,6])
 (.seq (.seq (.reg [Qo 10 (.fld (.t 2) 1),
 Qo 11 (.ldl (.t 10) none),
 Qo 12 (.len (.t 11)),
 Qo 13 (.mv (.c (.d (.int .i64 0))))] [1,5,6,11,12,13])
 (.block 0 (.loop G1)))
 (.seq (.reg [Qm 40 5,
 Qo 41 (.bin .neq (.t 40) (.c (.d (.int .u64 0)))),
 Qm 42 41,
 ⟨some 43,.mv (.t 6),some (42,false)⟩,
 ⟨some 44,.bin .neq (.t 43) (.c (.d (.int .u64 0))),some (42,false)⟩,
 Qo 45 (.pick (.t 42) (.c (.d (.bool true))) (.t 44)),
 Qm 4 45] [4])
 .ret))))
noncomputable def CN:Cx:=⟨Tryd.prog,39,Tryd.f39,46,[300011,300018,300024,300032],[],[.t 4]⟩
theorem Cn:Good CN:=⟨Tryd.func39,by kernel_rfl⟩
theorem IB:CN.rs=[.t 4]:=rfl
theorem Ig (hl:args.length≤46) (h:Run CN K [.code FP] (B0 args) E σ):AM Tryd.prog 39 args σ K:=
 AT (cx:=CN) (code:=Tryd.f39.body.getD .skip) Cn (by kernel_rfl) Tryd.ntmps39 hl (AU CN _ (Bo FP) _ [] (by kernel_rfl)) h
def IZ:C:=(.seq (.reg [Qo 13 (.bin .lss (.t 12) (.t 11))] [1,5,10,11,12,13])
 (.seq (.cond (.t 13) .skip
 (.exit 0))
 (.seq (.block 1 (.seq (.reg [Qo 14 (.ix (.t 10) (.t 12) 2),
 Qo 15 (.ld (.t 14) (some 2)),
 Qo 7 (.al [(.d (.int .i64 0)),(.d (.int .i64 0))] false),
 ⟨none,.st (.t 7) (.t 15) 2,none⟩] [1,5,7,10,11,12])
 (.seq (.reg [Qo 16 (.fld (.t 7) 0),
 Qo 17 (.ldl (.t 16) none),
 Qm 18 1,
 Qo 19 (.bin .eql (.t 17) (.t 18))] [1,5,7,10,11,12,19])
 (.cond (.t 19) (.reg [Qo 20 (.ldl (.t 5) (some 3)),
 Qo 21 (.fld (.t 7) 1),
 Qo 22 (.ldl (.t 21) none),
 Qo 23 (.call 71 [(.t 22)]),
 Qo 24 (.call 72 [(.t 20),(.t 23)]),
 ⟨none,.st (.t 5) (.t 24) 3,none⟩] [1,5,10,11,12])
 .skip))))
 (.reg [Qo 25 (.bin .add (.t 12) (.c (.d (.int .i64 1)))),
 Qm 12 25] [1,5,10,11,12]))))
def G5:C:=(.seq (.reg [Qo 2 (.box (.t 0) false),
 Qo 4 (.mv (.c (.d (.bool false))))] [1,2])
 (.seq (.reg [Qo 8 (.call 71 [(.c (.d (.int .i64 0)))]),
 Qo 5 (.al [(.d (.bool false)),.A7,.A7] false),
 ⟨none,.st (.t 5) (.t 8) 3,none⟩] [1,2,5])
 (.seq (.seq (.reg [Qo 9 (.fld (.t 2) 1),
 Qo 10 (.ldl (.t 9) none),
 Qo 11 (.len (.t 10)),
 Qo 12 (.mv (.c (.d (.int .i64 0))))] [1,5,10,11,12])
 (.block 0 (.loop IZ)))
 (.seq (.reg [Qo 26 (.ldl (.t 5) (some 3)),
 Qo 27 (.call 73 [(.t 26)]),
 Qo 28 (.bin .neq (.t 27) (.c (.d (.int .i64 0)))),
 Qm 4 28] [4])
 .ret))))
noncomputable def DD:Cx:=⟨Tryd.prog,40,Tryd.f40,29,[300010,300017,300020,300022,300026],[],[.t 4]⟩
theorem Ge:Good DD:=⟨Tryd.func40,by kernel_rfl⟩
theorem KM:DD.rs=[.t 4]:=rfl
theorem LD (hl:args.length≤29) (h:Run DD K [.code G5] (B0 args) E σ):AM Tryd.prog 40 args σ K:=
 AT (cx:=DD) (code:=Tryd.f40.body.getD .skip) Ge (by kernel_rfl) Tryd.ntmps40 hl (AU DD _ (Bo G5) _ [] (by kernel_rfl)) h
def DN:C:=(.seq (.reg [Qo 14 (.bin .lss (.t 13) (.t 12))] [0,1,2,11,12,13,14])
 (.seq (.cond (.t 14) .skip
 (.exit 0))
 (.seq (.block 1 (.seq (.reg [Qm 15 13,
 Qo 16 (.ix (.t 11) (.t 13) 2),
 Qo 17 (.ld (.t 16) (some 2)),
 Qo 8 (.al [(.d (.int .i64 0)),(.d (.int .i64 0))] false),
 Qm 7 15,
 ⟨none,.st (.t 8) (.t 17) 2,none⟩] [0,1,2,7,8,11,12,13])
 (.seq (.seq (.reg [Qm 18 7,
 Qm 19 1,
 Qo 20 (.len (.t 19)),
 Qo 21 (.bin .geq (.t 18) (.t 20))] [0,1,2,7,8,11,12,13,21])
 (.cond (.t 21) (.seq (.reg [Qo 6 (.mv (.c (.d (.int .i64 1))))] [6])
 .ret)
 .skip))
 (.seq (.reg [Qm 22 1,
 Qm 23 7,
 Qo 24 (.ix (.t 22) (.t 23) 2),
 Qo 25 (.ld (.t 24) (some 2)),
 Qo 9 (.al [(.d (.int .i64 0)),(.d (.int .i64 0))] false),
 ⟨none,.st (.t 9) (.t 25) 2,none⟩] [0,1,2,8,9,11,12,13])
 (.seq (.reg [Qm 26 2,
 Qo 27 (.ldl (.t 8) (some 2)),
 Qo 28 (.ldl (.t 9) (some 2)),
 Qo 29 (.G7 (.t 26) [(.t 27),(.t 28)]),
 Qm 10 29] [0,1,2,10,11,12,13])
 (.seq (.reg [Qm 30 10,
 Qo 31 (.bin .neq (.t 30) (.c (.d (.int .i64 0))))] [0,1,2,10,11,12,13,31])
 (.cond (.t 31) (.seq (.reg [Qm 32 10,
 Qm 6 32] [6])
 .ret)
 .skip)))))))
 (.reg [Qo 33 (.bin .add (.t 13) (.c (.d (.int .i64 1)))),
 Qm 13 33] [0,1,2,11,12,13]))))
def CF:C:=(.seq (.reg [Qo 6 (.mv (.c (.d (.int .i64 0))))] [0,1,2])
 (.seq (.seq (.reg [Qm 11 0,
 Qo 12 (.len (.t 11)),
 Qo 13 (.mv (.c (.d (.int .i64 0))))] [0,1,2,11,12,13])
 (.block 0 (.loop DN)))
 (.seq (.seq (.reg [Qm 34 0,
 Qo 35 (.len (.t 34)),
 Qm 36 1,
 Qo 37 (.len (.t 36)),
 Qo 38 (.bin .lss (.t 35) (.t 37))] [38])
 (.cond (.t 38) (.seq (.reg [Qo 6 (.mv (.c (.d (.int .i64 (-1)))))] [6])
 .ret)
 .skip))
 (.seq (.reg [Qo 6 (.mv (.c (.d (.int .i64 0))))] [6])
 .ret))))
noncomputable def Aw:Cx:=⟨Tryd.prog,65,Tryd.f65,39,[300027,300028],[],[.t 6]⟩
theorem B3:Good Aw:=⟨Tryd.func65,by kernel_rfl⟩
theorem Dd:Aw.rs=[.t 6]:=rfl
theorem Dj (hl:args.length≤39) (h:Run Aw K [.code CF] (B0 args) E σ):AM Tryd.prog 65 args σ K:=
 AT (cx:=Aw) (code:=Tryd.f65.body.getD .skip) B3 (by kernel_rfl) Tryd.ntmps65 hl (AU Aw _ (Bo CF) _ [] (by kernel_rfl)) h
def Hp:C:=(.seq (.reg [Qo 2 (.box (.t 0) false),
 Qo 3 (.box (.t 1) false),
 Qo 4 (.mv (.c (.d (.int .i64 0))))] [2,3])
 (.seq (.reg [Qo 5 (.fld (.t 2) 0),
 Qo 6 (.ldl (.t 5) none),
 Qo 7 (.fld (.t 3) 0),
 Qo 8 (.ldl (.t 7) none),
 Qo 10 (.fld (.t 2) 1),
 Qo 11 (.ldl (.t 10) none),
 Qo 12 (.fld (.t 3) 1),
 Qo 13 (.ldl (.t 12) none),
 Qo 9 (.call 64 [(.t 6),(.t 8)]),
 Qo 14 (.call 68 [(.t 11),(.t 13)]),
 Qo 15 (.bsl 1 2 [(.d (.int .i64 0)),(.d (.int .i64 0))] [(0,1,(.t 9)),(1,1,(.t 14))]),
 Qo 16 (.call 67 [(.t 15)]),
 Qm 4 16] [4])
 .ret))
def IH:List (List Nat×PT):=[([2,3],.done),([4],(.one 0 (.one 1 (.one 2 (.one 3 (.one 5 (.one 6 (.one 7 (.one 8 (.one 4 (.one 9 (.one 10 (.one 11 (.one 12 .done))))))))))))))]
noncomputable def Bx:Cx:=⟨Tryd.prog,66,Tryd.f66,17,[300006,300008,300011,300013],[],[.t 4]⟩
theorem Er:Good Bx:=⟨Tryd.func66,by kernel_rfl⟩
theorem HZ:Bx.rs=[.t 4]:=rfl
theorem Hu (hl:args.length≤17) (h:Run Bx K [.code Hp] (B0 args) E σ):AM Tryd.prog 66 args σ K:=
 AT (cx:=Bx) (code:=Tryd.f66.body.getD .skip) Er (by kernel_rfl) Tryd.ntmps66 hl (AU Bx _ IH _ [] (by kernel_rfl)) h
def KA:C:=(.seq (.reg [Qo 9 (.bin .lss (.t 8) (.t 7))] [3,6,7,8,9])
 (.seq (.cond (.t 9) .skip
 (.exit 0))
 (.seq (.block 1 (.seq (.reg [Qo 10 (.ix (.t 6) (.t 8) 1),
 Qo 11 (.ld (.t 10) none),
 Qm 5 11] [3,5,6,7,8])
 (.seq (.reg [Qm 12 5,
 Qm 13 3,
 Qo 14 (.bin .neq (.t 12) (.t 13))] [3,5,6,7,8,14])
 (.cond (.t 14) (.seq (.reg [Qm 15 5,
 Qm 2 15] [2])
 .ret)
 .skip))))
 (.reg [Qo 16 (.bin .add (.t 8) (.c (.d (.int .i64 1)))),
 Qm 8 16] [3,6,7,8]))))
def IT:C:=(.seq (.reg [Qo 2 (.mv (.c (.d (.int .i64 0))))] [0])
 (.seq (.reg [Qo 3 (.mv (.c (.d (.int .i64 0))))] [0,3])
 (.seq (.seq (.reg [Qm 6 0,
 Qo 7 (.len (.t 6)),
 Qo 8 (.mv (.c (.d (.int .i64 0))))] [3,6,7,8])
 (.block 0 (.loop KA)))
 (.seq (.reg [Qm 17 3,
 Qm 2 17] [2])
 .ret))))
noncomputable def Dm:Cx:=⟨Tryd.prog,67,Tryd.f67,18,[],[],[.t 2]⟩
theorem E6:Good Dm:=⟨Tryd.func67,by kernel_rfl⟩
theorem MB:Dm.rs=[.t 2]:=rfl
theorem Mm (hl:args.length≤18) (h:Run Dm K [.code IT] (B0 args) E σ):AM Tryd.prog 67 args σ K:=
 AT (cx:=Dm) (code:=Tryd.f67.body.getD .skip) E6 (by kernel_rfl) Tryd.ntmps67 hl (AU Dm _ (Bo IT) _ [] (by kernel_rfl)) h
def EY:C:=(.seq (.reg [Qo 4 (.mv (.c (.d (.int .i64 0))))] [0,1])
 (.seq (.reg [Qm 7 0,
 Qo 8 (.call 90 [(.t 7)]),
 Qm 5 8] [0,1,5])
 (.seq (.reg [Qm 9 1,
 Qo 10 (.call 90 [(.t 9)]),
 Qm 6 10] [0,1,5,6])
 (.seq (.seq (.reg [Qm 11 5] [0,1,6,11])
 (.cond (.t 11) (.seq (.seq (.reg [Qm 12 6] [12])
 (.cond (.t 12) (.seq (.reg [Qo 4 (.mv (.c (.d (.int .i64 0))))] [4])
 .ret)
 .skip))
 (.seq (.reg [Qo 4 (.mv (.c (.d (.int .i64 (-1)))))] [4])
 .ret))
 .skip))
 (.seq (.seq (.reg [Qm 13 6] [0,1,13])
 (.cond (.t 13) (.seq (.reg [Qo 4 (.mv (.c (.d (.int .i64 1))))] [4])
 .ret)
 .skip))
 (.seq (.seq (.reg [Qm 14 0,
 Qm 15 1,
 Qo 16 (.bin .lss (.t 14) (.t 15))] [0,1,16])
 (.cond (.t 16) (.seq (.reg [Qo 4 (.mv (.c (.d (.int .i64 (-1)))))] [4])
 .ret)
 .skip))
 (.seq (.seq (.reg [Qm 17 0,
 Qm 18 1,
 Qo 19 (.bin .gtr (.t 17) (.t 18))] [19])
 (.cond (.t 19) (.seq (.reg [Qo 4 (.mv (.c (.d (.int .i64 1))))] [4])
 .ret)
 .skip))
 (.seq (.reg [Qo 4 (.mv (.c (.d (.int .i64 0))))] [4])
 .ret))))))))
noncomputable def Bn:Cx:=⟨Tryd.prog,68,Tryd.f68,20,[],[],[.t 4]⟩
theorem CV:Good Bn:=⟨Tryd.func68,by kernel_rfl⟩
theorem Gq:Bn.rs=[.t 4]:=rfl
theorem HY (hl:args.length≤20) (h:Run Bn K [.code EY] (B0 args) E σ):AM Tryd.prog 68 args σ K:=
 AT (cx:=Bn) (code:=Tryd.f68.body.getD .skip) CV (by kernel_rfl) Tryd.ntmps68 hl (AU Bn _ (Bo EY) _ [] (by kernel_rfl)) h
def FO:C:=(.seq (.reg [Qo 2 (.mv (.c (.d (.bool false))))] [0])
 (.seq (.reg [Qm 3 0,
 Qm 4 0,
 Qo 5 (.bin .neq (.t 3) (.t 4)),
 Qm 2 5] [2])
 .ret))
noncomputable def CM:Cx:=⟨Tryd.prog,90,Tryd.f90,6,[],[],[.t 2]⟩
theorem FU:Good CM:=⟨Tryd.func90,by kernel_rfl⟩
theorem IA:CM.rs=[.t 2]:=rfl
theorem If (hl:args.length≤6) (h:Run CM K [.code FO] (B0 args) E σ):AM Tryd.prog 90 args σ K:=
 AT (cx:=CM) (code:=Tryd.f90.body.getD .skip) FU (by kernel_rfl) Tryd.ntmps90 hl (AU CM _ (Bo FO) _ [] (by kernel_rfl)) h
def J4:C:=(.seq (.reg [Qo 2 (.mv (.c (.d (.int .i64 0))))] [0])
 (.seq (.seq (.reg [Qm 3 0] [3])
 (.cond (.t 3) (.seq (.reg [Qo 2 (.mv (.c (.d (.int .i64 (-1)))))] [2])
 .ret)
 .skip))
 (.seq (.reg [Qo 2 (.mv (.c (.d (.int .i64 1))))] [2])
 .ret)))
noncomputable def EL:Cx:=⟨Tryd.prog,69,Tryd.f69,4,[],[],[.t 2]⟩
theorem Gf:Good EL:=⟨Tryd.func69,by kernel_rfl⟩
theorem NK:EL.rs=[.t 2]:=rfl
theorem Nj (hl:args.length≤4) (h:Run EL K [.code J4] (B0 args) E σ):AM Tryd.prog 69 args σ K:=
 AT (cx:=EL) (code:=Tryd.f69.body.getD .skip) Gf (by kernel_rfl) Tryd.ntmps69 hl (AU EL _ (Bo J4) _ [] (by kernel_rfl)) h
def I0:C:=(.seq (.reg [Qo 2 (.al [(.d (.bool false)),.A7,.A7] false)] [0,2])
 (.seq (.seq (.reg [Qm 3 0,
 Qo 4 (.bin .lss (.t 3) (.c (.d (.int .i64 0))))] [0,2,4])
 (.cond (.t 4) (.seq (.reg [Qm 5 0,
 Qo 6 (.bin .add (.t 5) (.c (.d (.int .i64 1)))),
 Qo 7 (.un .neg (.t 6)),
 Qo 8 (.conv .u64 (.t 7)),
 Qo 9 (.bin .add (.t 8) (.c (.d (.int .u64 1)))),
 Qo 10 (.call 92 [(.t 9)]),
 Qo 11 (.bsl 1 1 [(.d (.int .u32 0))] [(0,1,(.c (.d (.int .u32 1))))]),
 Qo 12 (.call 91 [(.c (.d (.bool true))),(.t 10),(.t 11)]),
 ⟨none,.st (.t 2) (.t 12) 3,none⟩] [2])
 .ret)
 .skip))
 (.seq (.reg [Qm 13 0,
 Qo 14 (.conv .u64 (.t 13)),
 Qo 15 (.call 92 [(.t 14)]),
 Qo 16 (.bsl 1 1 [(.d (.int .u32 0))] [(0,1,(.c (.d (.int .u32 1))))]),
 Qo 17 (.call 91 [(.c (.d (.bool false))),(.t 15),(.t 16)]),
 ⟨none,.st (.t 2) (.t 17) 3,none⟩] [2])
 .ret)))
noncomputable def Dq:Cx:=⟨Tryd.prog,71,Tryd.f71,18,[],[],[.c 2 (some 3)]⟩
theorem Fz:Good Dq:=⟨Tryd.func71,by kernel_rfl⟩
theorem ME:Dq.rs=[.c 2 (some 3)]:=rfl
theorem Mp (hl:args.length≤18) (h:Run Dq K [.code I0] (B0 args) E σ):AM Tryd.prog 71 args σ K:=
 AT (cx:=Dq) (code:=Tryd.f71.body.getD .skip) Fz (by kernel_rfl) Tryd.ntmps71 hl (AU Dq _ (Bo I0) _ [] (by kernel_rfl)) h
def Rp:C:=(.seq (.reg [Qo 2 (.box (.t 0) false),
 Qo 3 (.box (.t 1) false),
 Qo 4 (.al [(.d (.bool false)),.A7,.A7] false)] [2,3,4])
 (.seq (.reg [Qo 8 (.ldl (.t 2) (some 3)),
 Qo 10 (.ldl (.t 3) (some 3)),
 Qo 9 (.call 93 [(.t 8)]),
 Qo 11 (.call 93 [(.t 10)]),
 ⟨none,.st (.t 2) (.t 9) 3,none⟩,
 ⟨none,.st (.t 3) (.t 11) 3,none⟩] [2,3,4])
 (.seq (.reg [Qo 12 (.fld (.t 2) 1),
 Qo 13 (.ldl (.t 12) none),
 Qo 14 (.fld (.t 3) 2),
 Qo 15 (.ldl (.t 14) none),
 Qo 17 (.fld (.t 3) 1),
 Qo 18 (.ldl (.t 17) none),
 Qo 19 (.fld (.t 2) 2),
 Qo 20 (.ldl (.t 19) none),
 Qo 16 (.call 94 [(.t 13),(.t 15)]),
 Qo 21 (.call 94 [(.t 18),(.t 20)]),
 Qm 5 16,
 Qm 6 21] [2,3,4,5,6])
 (.seq (.reg [Qo 22 (.fld (.t 2) 2),
 Qo 23 (.ldl (.t 22) none),
 Qo 24 (.fld (.t 3) 2),
 Qo 25 (.ldl (.t 24) none),
 Qo 26 (.call 94 [(.t 23),(.t 25)]),
 Qm 7 26] [2,3,4,5,6,7])
 (.seq (.seq (.reg [Qo 27 (.fld (.t 2) 0),
 Qo 28 (.ldl (.t 27) none),
 Qo 29 (.fld (.t 3) 0),
 Qo 30 (.ldl (.t 29) none),
 Qo 31 (.N2 .eql (.t 28) (.t 30))] [2,3,4,5,6,7,31])
 (.cond (.t 31) (.seq (.reg [Qo 32 (.fld (.t 2) 0),
 Qo 33 (.ldl (.t 32) none),
 Qm 34 5,
 Qm 35 6,
 Qm 37 7,
 Qo 36 (.call 95 [(.t 34),(.t 35)]),
 Qo 38 (.call 91 [(.t 33),(.t 36),(.t 37)]),
 ⟨none,.st (.t 4) (.t 38) 3,none⟩] [4])
 .ret)
 .skip))
 (.seq (.seq (.reg [Qm 39 5,
 Qm 40 6,
 Qo 41 (.call 96 [(.t 39),(.t 40)]),
 Qo 42 (.bin .geq (.t 41) (.c (.d (.int .i64 0))))] [2,3,4,5,6,7,42])
 (.cond (.t 42) (.seq (.reg [Qo 43 (.fld (.t 2) 0),
 Qo 44 (.ldl (.t 43) none),
 Qm 45 5,
 Qm 46 6,
 Qm 48 7,
 Qo 47 (.call 97 [(.t 45),(.t 46)]),
 Qo 49 (.call 91 [(.t 44),(.t 47),(.t 48)]),
 ⟨none,.st (.t 4) (.t 49) 3,none⟩] [4])
 .ret)
 .skip))
 (.seq (.reg [Qo 50 (.fld (.t 3) 0),
 Qo 51 (.ldl (.t 50) none),
 Qm 52 6,
 Qm 53 5,
 Qm 55 7,
 Qo 54 (.call 97 [(.t 52),(.t 53)]),
 Qo 56 (.call 91 [(.t 51),(.t 54),(.t 55)]),
 ⟨none,.st (.t 4) (.t 56) 3,none⟩] [4])
 .ret)))))))
def TN:List (List Nat×PT):=[([2,3,4],.done),([2,3,4],(.one 0 (.one 2 (.one 1 (.one 3 (.one 4 (.one 5 .done))))))),([2,3,4,5,6],(.one 0 (.one 1 (.one 2 (.one 3 (.one 5 (.one 6 (.one 7 (.one 8 (.one 4 (.one 9 (.one 10 (.one 11 .done))))))))))))),([2,3,4,5,6,7],.done),([2,3,4,5,6,7,31],.done),([4],(.one 0 (.one 1 (.one 2 (.one 3 (.one 5 (.one 4 (.one 6 (.one 7 .done))))))))),([2,3,4,5,6,7,42],.done),([4],(.one 0 (.one 1 (.one 2 (.one 3 (.one 5 (.one 4 (.one 6 (.one 7 .done))))))))),([4],(.one 0 (.one 1 (.one 2 (.one 3 (.one 5 (.one 4 (.one 6 (.one 7 .done)))))))))]
noncomputable def Gx:Cx:=⟨Tryd.prog,72,Tryd.f72,57,[300008,300010,300013,300015,300018,300020,300023,300025,300028,300030,300033,300044,300051],[],[.c 4 (some 3)]⟩
theorem Ib:Good Gx:=⟨Tryd.func72,by kernel_rfl⟩
theorem RU:Gx.rs=[.c 4 (some 3)]:=rfl
theorem SK (hl:args.length≤57) (h:Run Gx K [.code Rp] (B0 args) E σ):AM Tryd.prog 72 args σ K:=
 AT (cx:=Gx) (code:=Tryd.f72.body.getD .skip) Ib (by kernel_rfl) Tryd.ntmps72 hl (AU Gx _ TN _ [] (by kernel_rfl)) h
def MO:C:=(.seq (.reg [Qo 1 (.box (.t 0) false),
 Qo 2 (.mv (.c (.d (.int .i64 0))))] [1])
 (.seq (.reg [Qo 3 (.ldl (.t 1) (some 3)),
 Qo 4 (.call 93 [(.t 3)]),
 ⟨none,.st (.t 1) (.t 4) 3,none⟩] [1])
 (.seq (.block 0 (.seq (.reg [Qo 6 (.fld (.t 1) 1),
 Qo 7 (.ldl (.t 6) none),
 Qo 8 (.len (.t 7)),
 Qo 9 (.bin .eql (.t 8) (.c (.d (.int .i64 0)))),
 Qm 5 9] [1,5])
 (.cond (.t 5) (.seq (.reg [Qo 2 (.mv (.c (.d (.int .i64 0))))] [2])
 .ret)
 (.seq (.reg [Qo 11 (.fld (.t 1) 0),
 Qo 12 (.ldl (.t 11) none),
 Qm 10 12] [10])
 (.cond (.t 10) (.seq (.reg [Qo 2 (.mv (.c (.d (.int .i64 (-1)))))] [2])
 .ret)
 .skip)))))
 (.seq (.reg [Qo 2 (.mv (.c (.d (.int .i64 1))))] [2])
 .ret))))
noncomputable def Fp:Cx:=⟨Tryd.prog,73,Tryd.f73,13,[300003,300007,300012],[],[.t 2]⟩
theorem HH:Good Fp:=⟨Tryd.func73,by kernel_rfl⟩
theorem PZ:Fp.rs=[.t 2]:=rfl
theorem Qf (hl:args.length≤13) (h:Run Fp K [.code MO] (B0 args) E σ):AM Tryd.prog 73 args σ K:=
 AT (cx:=Fp) (code:=Tryd.f73.body.getD .skip) HH (by kernel_rfl) Tryd.ntmps73 hl (AU Fp _ (Bo MO) _ [] (by kernel_rfl)) h
def K9:C:=(.seq (.reg [Qo 6 (.al [(.d (.bool false)),.A7,.A7] false)] [0,1,2,6])
 (.seq (.reg [Qm 8 1,
 Qo 9 (.call 111 [(.t 8)]),
 Qm 10 2,
 Qo 11 (.call 111 [(.t 10)]),
 Qm 1 9,
 Qm 2 11] [0,1,2,6])
 (.seq (.seq (.reg [Qm 12 1,
 Qo 13 (.len (.t 12)),
 Qo 14 (.bin .eql (.t 13) (.c (.d (.int .i64 0)))),
 Qm 15 14,
 ⟨some 16,.mv (.t 2),some (15,false)⟩,
 ⟨some 17,.len (.t 16),some (15,false)⟩,
 ⟨some 18,.bin .eql (.t 17) (.c (.d (.int .i64 0))),some (15,false)⟩,
 Qo 19 (.pick (.t 15) (.c (.d (.bool true))) (.t 18))] [0,1,2,6,19])
 (.cond (.t 19) (.seq (.reg [Qo 20 (.bsl 1 1 [(.d (.int .u32 0))] [(0,1,(.c (.d (.int .u32 1))))]),
 Qo 21 (.bld [(.d (.bool false)),.A7,.A7] [(2,1,(.t 20))]),
 ⟨none,.st (.t 6) (.t 21) 3,none⟩] [6])
 .ret)
 .skip))
 (.seq (.reg [Qm 22 1,
 Qm 23 2,
 Qo 24 (.call 112 [(.t 22),(.t 23)]),
 Qm 7 24] [0,1,2,6,7])
 (.seq (.seq (.reg [Qm 25 7,
 Qo 26 (.len (.t 25)),
 Qo 27 (.bin .neq (.t 26) (.c (.d (.int .i64 1)))),
 Qm 28 27,
 ⟨some 29,.mv (.t 7),some (28,false)⟩,
 ⟨some 30,.ix (.t 29) (.c (.d (.int .i64 0))) 1,some (28,false)⟩,
 ⟨some 31,.ld (.t 30) none,some (28,false)⟩,
 ⟨some 32,.bin .neq (.t 31) (.c (.d (.int .u32 1))),some (28,false)⟩,
 Qo 33 (.pick (.t 28) (.c (.d (.bool true))) (.t 32))] [0,1,2,6,7,33])
 (.cond (.t 33) (.seq (.reg [Qm 35 1,
 Qm 36 7,
 Qo 37 (.call 113 [(.t 35),(.t 36)]),
 Qm 34 37,
 Qo 38 (.ext (.t 34) 0),
 Qo 39 (.ext (.t 34) 1),
 Qm 1 38] [0,1,2,6,7])
 (.reg [Qm 41 2,
 Qm 42 7,
 Qo 43 (.call 113 [(.t 41),(.t 42)]),
 Qm 40 43,
 Qo 44 (.ext (.t 40) 0),
 Qo 45 (.ext (.t 40) 1),
 Qm 2 44] [0,1,2,6]))
 .skip))
 (.seq (.reg [Qm 46 0,
 Qm 47 1,
 Qm 48 2,
 Qo 49 (.bld [(.d (.bool false)),.A7,.A7] [(0,1,(.t 46)),(1,1,(.t 47)),(2,1,(.t 48))]),
 ⟨none,.st (.t 6) (.t 49) 3,none⟩] [6])
 .ret))))))
noncomputable def FA:Cx:=⟨Tryd.prog,91,Tryd.f91,50,[],[],[.c 6 (some 3)]⟩
theorem Ht:Good FA:=⟨Tryd.func91,by kernel_rfl⟩
theorem OI:FA.rs=[.c 6 (some 3)]:=rfl
theorem Ov (hl:args.length≤50) (h:Run FA K [.code K9] (B0 args) E σ):AM Tryd.prog 91 args σ K:=
 AT (cx:=FA) (code:=Tryd.f91.body.getD .skip) Ht (by kernel_rfl) Tryd.ntmps91 hl (AU FA _ (Bo K9) _ [] (by kernel_rfl)) h
def Lo:C:=(.seq (.seq (.reg [Qm 4 0,
 Qo 5 (.bin .gtr (.t 4) (.c (.d (.int .u64 0))))] [0,3,5])
 (.cond (.t 5) .skip
 (.exit 0)))
 (.block 1 (.seq (.reg [Qm 6 3,
 Qm 7 0,
 Qo 8 (.bin .rem (.t 7) (.c (.d (.int .u64 1000000000)))),
 Qo 9 (.conv .u32 (.t 8)),
 Qo 10 (.bsl 1 1 [(.d (.int .u32 0))] [(0,1,(.t 9))]),
 Qo 11 (.app 117 1 4 (.t 6) (.t 10)),
 Qm 3 11] [0,3])
 (.reg [Qm 12 0,
 Qo 13 (.bin .quo (.t 12) (.c (.d (.int .u64 1000000000)))),
 Qm 0 13] [0,3]))))
def Ka:C:=(.seq (.reg [Qo 2 (.mv (.c .A7))] [0])
 (.seq (.reg [Qo 3 (.mv (.c .A7))] [0,3])
 (.seq (.block 0 (.loop Lo))
 (.seq (.reg [Qm 14 3,
 Qm 2 14] [2])
 .ret))))
noncomputable def FB:Cx:=⟨Tryd.prog,92,Tryd.f92,15,[],[],[.t 2]⟩
theorem Kw:Good FB:=⟨Tryd.func92,by kernel_rfl⟩
theorem OJ:FB.rs=[.t 2]:=rfl
theorem Ow (hl:args.length≤15) (h:Run FB K [.code Ka] (B0 args) E σ):AM Tryd.prog 92 args σ K:=
 AT (cx:=FB) (code:=Tryd.f92.body.getD .skip) Kw (by kernel_rfl) Tryd.ntmps92 hl (AU FB _ (Bo Ka) _ [] (by kernel_rfl)) h
def G6:C:=(.seq (.reg [Qo 1 (.box (.t 0) false),
 Qo 2 (.al [(.d (.bool false)),.A7,.A7] false)] [1,2])
 (.seq (.reg [Qo 3 (.fld (.t 1) 0),
 Qo 4 (.ldl (.t 3) none),
 Qo 5 (.fld (.t 1) 1),
 Qo 6 (.ldl (.t 5) none),
 Qo 7 (.fld (.t 1) 2),
 Qo 8 (.ldl (.t 7) none),
 Qo 9 (.call 91 [(.t 4),(.t 6),(.t 8)]),
 ⟨none,.st (.t 2) (.t 9) 3,none⟩] [2])
 .ret))
noncomputable def DF:Cx:=⟨Tryd.prog,93,Tryd.f93,10,[300004,300006,300008],[],[.c 2 (some 3)]⟩
theorem Gg:Good DF:=⟨Tryd.func93,by kernel_rfl⟩
theorem KN:DF.rs=[.c 2 (some 3)]:=rfl
theorem LF (hl:args.length≤10) (h:Run DF K [.code G6] (B0 args) E σ):AM Tryd.prog 93 args σ K:=
 AT (cx:=DF) (code:=Tryd.f93.body.getD .skip) Gg (by kernel_rfl) Tryd.ntmps93 hl (AU DF _ (Bo G6) _ [] (by kernel_rfl)) h
def Kh:C:=(.seq (.seq (.reg [Qm 22 8,
 Qm 23 1,
 Qo 24 (.len (.t 23)),
 Qo 25 (.bin .lss (.t 22) (.t 24)),
 Qm 26 25,
 ⟨some 27,.mv (.t 7),some (26,false)⟩,
 ⟨some 28,.bin .gtr (.t 27) (.c (.d (.int .u64 0))),some (26,false)⟩,
 Qo 29 (.pick (.t 26) (.c (.d (.bool true))) (.t 28))] [0,1,5,6,7,8,29])
 (.cond (.t 29) .skip
 (.exit 2)))
 (.seq (.block 3 (.seq (.reg [Qm 32 7,
 Qm 33 5,
 Qm 34 6,
 Qm 35 8,
 Qo 36 (.bin .add (.t 34) (.t 35)),
 Qo 37 (.ix (.t 33) (.t 36) 1),
 Qo 38 (.ld (.t 37) none),
 Qo 39 (.conv .u64 (.t 38)),
 Qo 40 (.bin .add (.t 32) (.t 39)),
 Qm 7 40] [0,1,5,6,7,8])
 (.seq (.seq (.reg [Qm 41 8,
 Qm 42 1,
 Qo 43 (.len (.t 42)),
 Qo 44 (.bin .lss (.t 41) (.t 43))] [0,1,5,6,7,8,44])
 (.cond (.t 44) (.reg [Qm 45 7,
 Qm 46 0,
 Qm 47 6,
 Qo 48 (.ix (.t 46) (.t 47) 1),
 Qo 49 (.ld (.t 48) none),
 Qo 50 (.conv .u64 (.t 49)),
 Qm 51 1,
 Qm 52 8,
 Qo 53 (.ix (.t 51) (.t 52) 1),
 Qo 54 (.ld (.t 53) none),
 Qo 55 (.conv .u64 (.t 54)),
 Qo 56 (.bin .mul (.t 50) (.t 55)),
 Qo 57 (.bin .add (.t 45) (.t 56)),
 Qm 7 57] [0,1,5,6,7,8])
 .skip))
 (.seq (.reg [Qm 58 5,
 Qm 59 6,
 Qm 60 8,
 Qo 61 (.bin .add (.t 59) (.t 60)),
 Qm 62 7,
 Qo 63 (.bin .rem (.t 62) (.c (.d (.int .u64 1000000000)))),
 Qo 64 (.conv .u32 (.t 63)),
 Qo 65 (.ix (.t 58) (.t 61) 1),
 ⟨none,.st (.t 65) (.t 64) 1,none⟩] [0,1,5,6,7,8])
 (.reg [Qm 66 7,
 Qo 67 (.bin .quo (.t 66) (.c (.d (.int .u64 1000000000)))),
 Qm 7 67] [0,1,5,6,7,8])))))
 (.reg [Qm 30 8,
 Qo 31 (.bin .add (.t 30) (.c (.d (.int .i64 1)))),
 Qm 8 31] [0,1,5,6,7,8])))
def Ki:C:=(.seq (.seq (.reg [Qm 16 6,
 Qm 17 0,
 Qo 18 (.len (.t 17)),
 Qo 19 (.bin .lss (.t 16) (.t 18))] [0,1,5,6,19])
 (.cond (.t 19) .skip
 (.exit 0)))
 (.seq (.block 1 (.seq (.reg [Qo 7 (.mv (.c (.d (.int .u64 0))))] [0,1,5,6,7])
 (.seq (.reg [Qo 8 (.mv (.c (.d (.int .i64 0))))] [0,1,5,6,7,8])
 (.block 2 (.loop Kh)))))
 (.reg [Qm 20 6,
 Qo 21 (.bin .add (.t 20) (.c (.d (.int .i64 1)))),
 Qm 6 21] [0,1,5,6])))
def J9:C:=(.seq (.reg [Qo 4 (.mv (.c .A7))] [0,1])
 (.seq (.reg [Qm 9 0,
 Qo 10 (.len (.t 9)),
 Qm 11 1,
 Qo 12 (.len (.t 11)),
 Qo 13 (.bin .add (.t 10) (.t 12)),
 Qo 14 (.bin .add (.t 13) (.c (.d (.int .i64 1)))),
 Qo 15 (.msl 117 1 4 [(.d (.int .u32 0))] (.t 14) (.t 14)),
 Qm 5 15] [0,1,5])
 (.seq (.seq (.reg [Qo 6 (.mv (.c (.d (.int .i64 0))))] [0,1,5,6])
 (.block 0 (.loop Ki)))
 (.seq (.reg [Qm 68 5,
 Qo 69 (.call 114 [(.t 68)]),
 Qm 4 69] [4])
 .ret))))
noncomputable def ER:Cx:=⟨Tryd.prog,94,Tryd.f94,70,[],[],[.t 4]⟩
theorem Ji:Good ER:=⟨Tryd.func94,by kernel_rfl⟩
theorem NP:ER.rs=[.t 4]:=rfl
theorem Np (hl:args.length≤70) (h:Run ER K [.code J9] (B0 args) E σ):AM Tryd.prog 94 args σ K:=
 AT (cx:=ER) (code:=Tryd.f94.body.getD .skip) Ji (by kernel_rfl) Tryd.ntmps94 hl (AU ER _ (Bo J9) _ [] (by kernel_rfl)) h
def Kb:C:=(.seq (.seq (.reg [Qm 9 7,
 Qm 10 0,
 Qo 11 (.len (.t 10)),
 Qo 12 (.bin .lss (.t 9) (.t 11)),
 Qm 13 12,
 ⟨some 14,.mv (.t 7),some (13,false)⟩,
 ⟨some 15,.mv (.t 1),some (13,false)⟩,
 ⟨some 16,.len (.t 15),some (13,false)⟩,
 ⟨some 17,.bin .lss (.t 14) (.t 16),some (13,false)⟩,
 Qo 18 (.pick (.t 13) (.c (.d (.bool true))) (.t 17)),
 Qm 19 18,
 ⟨some 20,.mv (.t 6),some (19,false)⟩,
 ⟨some 21,.bin .gtr (.t 20) (.c (.d (.int .u32 0))),some (19,false)⟩,
 Qo 22 (.pick (.t 19) (.c (.d (.bool true))) (.t 21))] [0,1,5,6,7,22])
 (.cond (.t 22) .skip
 (.exit 0)))
 (.seq (.block 1 (.seq (.reg [Qm 25 6,
 Qm 8 25] [0,1,5,7,8])
 (.seq (.seq (.reg [Qm 26 7,
 Qm 27 0,
 Qo 28 (.len (.t 27)),
 Qo 29 (.bin .lss (.t 26) (.t 28))] [0,1,5,7,8,29])
 (.cond (.t 29) (.reg [Qm 30 8,
 Qm 31 0,
 Qm 32 7,
 Qo 33 (.ix (.t 31) (.t 32) 1),
 Qo 34 (.ld (.t 33) none),
 Qo 35 (.bin .add (.t 30) (.t 34)),
 Qm 8 35] [0,1,5,7,8])
 .skip))
 (.seq (.seq (.reg [Qm 36 7,
 Qm 37 1,
 Qo 38 (.len (.t 37)),
 Qo 39 (.bin .lss (.t 36) (.t 38))] [0,1,5,7,8,39])
 (.cond (.t 39) (.reg [Qm 40 8,
 Qm 41 1,
 Qm 42 7,
 Qo 43 (.ix (.t 41) (.t 42) 1),
 Qo 44 (.ld (.t 43) none),
 Qo 45 (.bin .add (.t 40) (.t 44)),
 Qm 8 45] [0,1,5,7,8])
 .skip))
 (.seq (.reg [Qm 46 8,
 Qo 47 (.bin .quo (.t 46) (.c (.d (.int .u32 1000000000)))),
 Qm 6 47] [0,1,5,6,7,8])
 (.reg [Qm 48 5,
 Qm 49 8,
 Qo 50 (.bin .rem (.t 49) (.c (.d (.int .u32 1000000000)))),
 Qo 51 (.bsl 1 1 [(.d (.int .u32 0))] [(0,1,(.t 50))]),
 Qo 52 (.app 117 1 4 (.t 48) (.t 51)),
 Qm 5 52] [0,1,5,6,7]))))))
 (.reg [Qm 23 7,
 Qo 24 (.bin .add (.t 23) (.c (.d (.int .i64 1)))),
 Qm 7 24] [0,1,5,6,7])))
def J5:C:=(.seq (.reg [Qo 4 (.mv (.c .A7))] [0,1])
 (.seq (.reg [Qo 5 (.mv (.c .A7))] [0,1,5])
 (.seq (.reg [Qo 6 (.mv (.c (.d (.int .u32 0))))] [0,1,5,6])
 (.seq (.seq (.reg [Qo 7 (.mv (.c (.d (.int .i64 0))))] [0,1,5,6,7])
 (.block 0 (.loop Kb)))
 (.seq (.reg [Qm 53 5,
 Qm 4 53] [4])
 .ret)))))
noncomputable def EM:Cx:=⟨Tryd.prog,95,Tryd.f95,54,[],[],[.t 4]⟩
theorem Jf:Good EM:=⟨Tryd.func95,by kernel_rfl⟩
theorem NL:EM.rs=[.t 4]:=rfl
theorem Nk (hl:args.length≤54) (h:Run EM K [.code J5] (B0 args) E σ):AM Tryd.prog 95 args σ K:=
 AT (cx:=EM) (code:=Tryd.f95.body.getD .skip) Jf (by kernel_rfl) Tryd.ntmps95 hl (AU EM _ (Bo J5) _ [] (by kernel_rfl)) h
def Kc:C:=(.seq (.seq (.reg [Qm 19 5,
 Qo 20 (.bin .geq (.t 19) (.c (.d (.int .i64 0))))] [0,1,5,20])
 (.cond (.t 20) .skip
 (.exit 0)))
 (.seq (.block 1 (.seq (.seq (.reg [Qm 23 0,
 Qm 24 5,
 Qo 25 (.ix (.t 23) (.t 24) 1),
 Qo 26 (.ld (.t 25) none),
 Qm 27 1,
 Qm 28 5,
 Qo 29 (.ix (.t 27) (.t 28) 1),
 Qo 30 (.ld (.t 29) none),
 Qo 31 (.bin .lss (.t 26) (.t 30))] [0,1,5,31])
 (.cond (.t 31) (.seq (.reg [Qo 4 (.mv (.c (.d (.int .i64 (-1)))))] [4])
 .ret)
 .skip))
 (.seq (.reg [Qm 32 0,
 Qm 33 5,
 Qo 34 (.ix (.t 32) (.t 33) 1),
 Qo 35 (.ld (.t 34) none),
 Qm 36 1,
 Qm 37 5,
 Qo 38 (.ix (.t 36) (.t 37) 1),
 Qo 39 (.ld (.t 38) none),
 Qo 40 (.bin .gtr (.t 35) (.t 39))] [0,1,5,40])
 (.cond (.t 40) (.seq (.reg [Qo 4 (.mv (.c (.d (.int .i64 1))))] [4])
 .ret)
 .skip))))
 (.reg [Qm 21 5,
 Qo 22 (.bin .sub (.t 21) (.c (.d (.int .i64 1)))),
 Qm 5 22] [0,1,5])))
def J6:C:=(.seq (.reg [Qo 4 (.mv (.c (.d (.int .i64 0))))] [0,1])
 (.seq (.seq (.reg [Qm 6 0,
 Qo 7 (.len (.t 6)),
 Qm 8 1,
 Qo 9 (.len (.t 8)),
 Qo 10 (.bin .neq (.t 7) (.t 9))] [0,1,10])
 (.cond (.t 10) (.seq (.seq (.reg [Qm 11 0,
 Qo 12 (.len (.t 11)),
 Qm 13 1,
 Qo 14 (.len (.t 13)),
 Qo 15 (.bin .lss (.t 12) (.t 14))] [15])
 (.cond (.t 15) (.seq (.reg [Qo 4 (.mv (.c (.d (.int .i64 (-1)))))] [4])
 .ret)
 .skip))
 (.seq (.reg [Qo 4 (.mv (.c (.d (.int .i64 1))))] [4])
 .ret))
 .skip))
 (.seq (.seq (.reg [Qm 16 0,
 Qo 17 (.len (.t 16)),
 Qo 18 (.bin .sub (.t 17) (.c (.d (.int .i64 1)))),
 Qm 5 18] [0,1,5])
 (.block 0 (.loop Kc)))
 (.seq (.reg [Qo 4 (.mv (.c (.d (.int .i64 0))))] [4])
 .ret))))
noncomputable def EN:Cx:=⟨Tryd.prog,96,Tryd.f96,41,[],[],[.t 4]⟩
theorem D8:Good EN:=⟨Tryd.func96,by kernel_rfl⟩
theorem NM:EN.rs=[.t 4]:=rfl
theorem Nl (hl:args.length≤41) (h:Run EN K [.code J6] (B0 args) E σ):AM Tryd.prog 96 args σ K:=
 AT (cx:=EN) (code:=Tryd.f96.body.getD .skip) D8 (by kernel_rfl) Tryd.ntmps96 hl (AU EN _ (Bo J6) _ [] (by kernel_rfl)) h
def Kj:C:=(.seq (.seq (.reg [Qm 12 7,
 Qm 13 0,
 Qo 14 (.len (.t 13)),
 Qo 15 (.bin .lss (.t 12) (.t 14))] [0,1,5,6,7,15])
 (.cond (.t 15) .skip
 (.exit 0)))
 (.seq (.block 1 (.seq (.reg [Qm 18 6,
 Qm 8 18] [0,1,5,7,8])
 (.seq (.seq (.reg [Qm 19 7,
 Qm 20 1,
 Qo 21 (.len (.t 20)),
 Qo 22 (.bin .lss (.t 19) (.t 21))] [0,1,5,7,8,22])
 (.cond (.t 22) (.reg [Qm 23 8,
 Qm 24 1,
 Qm 25 7,
 Qo 26 (.ix (.t 24) (.t 25) 1),
 Qo 27 (.ld (.t 26) none),
 Qo 28 (.bin .add (.t 23) (.t 27)),
 Qm 8 28] [0,1,5,7,8])
 .skip))
 (.seq (.reg [Qm 29 0,
 Qm 30 7,
 Qo 31 (.ix (.t 29) (.t 30) 1),
 Qo 32 (.ld (.t 31) none),
 Qm 33 8,
 Qo 34 (.bin .geq (.t 32) (.t 33))] [0,1,5,7,8,34])
 (.cond (.t 34) (.reg [Qm 35 5,
 Qm 36 7,
 Qm 37 0,
 Qm 38 7,
 Qo 39 (.ix (.t 37) (.t 38) 1),
 Qo 40 (.ld (.t 39) none),
 Qm 41 8,
 Qo 42 (.bin .sub (.t 40) (.t 41)),
 Qo 43 (.ix (.t 35) (.t 36) 1),
 ⟨none,.st (.t 43) (.t 42) 1,none⟩,
 Qo 6 (.mv (.c (.d (.int .u32 0))))] [0,1,5,6,7])
 (.reg [Qm 44 5,
 Qm 45 7,
 Qm 46 0,
 Qm 47 7,
 Qo 48 (.ix (.t 46) (.t 47) 1),
 Qo 49 (.ld (.t 48) none),
 Qo 50 (.bin .add (.t 49) (.c (.d (.int .u32 1000000000)))),
 Qm 51 8,
 Qo 52 (.bin .sub (.t 50) (.t 51)),
 Qo 53 (.ix (.t 44) (.t 45) 1),
 ⟨none,.st (.t 53) (.t 52) 1,none⟩,
 Qo 6 (.mv (.c (.d (.int .u32 1))))] [0,1,5,6,7]))))))
 (.reg [Qm 16 7,
 Qo 17 (.bin .add (.t 16) (.c (.d (.int .i64 1)))),
 Qm 7 17] [0,1,5,6,7])))
def Ja:C:=(.seq (.reg [Qo 4 (.mv (.c .A7))] [0,1])
 (.seq (.reg [Qm 9 0,
 Qo 10 (.len (.t 9)),
 Qo 11 (.msl 117 1 4 [(.d (.int .u32 0))] (.t 10) (.t 10)),
 Qm 5 11] [0,1,5])
 (.seq (.reg [Qo 6 (.mv (.c (.d (.int .u32 0))))] [0,1,5,6])
 (.seq (.seq (.reg [Qo 7 (.mv (.c (.d (.int .i64 0))))] [0,1,5,6,7])
 (.block 0 (.loop Kj)))
 (.seq (.reg [Qm 54 5,
 Qo 55 (.call 114 [(.t 54)]),
 Qm 4 55] [4])
 .ret)))))
noncomputable def ES:Cx:=⟨Tryd.prog,97,Tryd.f97,56,[],[],[.t 4]⟩
theorem Jj:Good ES:=⟨Tryd.func97,by kernel_rfl⟩
theorem NQ:ES.rs=[.t 4]:=rfl
theorem Nq (hl:args.length≤56) (h:Run ES K [.code Ja] (B0 args) E σ):AM Tryd.prog 97 args σ K:=
 AT (cx:=ES) (code:=Tryd.f97.body.getD .skip) Jj (by kernel_rfl) Tryd.ntmps97 hl (AU ES _ (Bo Ja) _ [] (by kernel_rfl)) h
def N8:C:=(.seq (.seq (.reg [Qm 6 5,
 Qm 7 0,
 Qo 8 (.len (.t 7)),
 Qo 9 (.bin .lss (.t 6) (.t 8))] [0,3,4,5,9])
 (.cond (.t 9) .skip
 (.exit 0)))
 (.seq (.block 1 (.seq (.reg [Qm 12 4,
 Qm 13 0,
 Qm 14 5,
 Qo 15 (.ix (.t 13) (.t 14) 1),
 Qo 16 (.ld (.t 15) none),
 Qo 17 (.conv .u64 (.t 16)),
 Qo 18 (.bin .add (.t 12) (.t 17)),
 Qm 4 18] [0,3,4,5])
 (.seq (.reg [Qm 19 3,
 Qm 20 4,
 Qo 21 (.bin .rem (.t 20) (.c (.d (.int .u64 1000000000)))),
 Qo 22 (.conv .u32 (.t 21)),
 Qo 23 (.bsl 1 1 [(.d (.int .u32 0))] [(0,1,(.t 22))]),
 Qo 24 (.app 117 1 4 (.t 19) (.t 23)),
 Qm 3 24] [0,3,4,5])
 (.reg [Qm 25 4,
 Qo 26 (.bin .quo (.t 25) (.c (.d (.int .u64 1000000000)))),
 Qm 4 26] [0,3,4,5]))))
 (.reg [Qm 10 5,
 Qo 11 (.bin .add (.t 10) (.c (.d (.int .i64 1)))),
 Qm 5 11] [0,3,4,5])))
def N7:C:=(.seq (.reg [Qo 2 (.mv (.c .A7))] [0])
 (.seq (.reg [Qo 3 (.mv (.c .A7))] [0,3])
 (.seq (.reg [Qo 4 (.mv (.c (.d (.int .u64 0))))] [0,3,4])
 (.seq (.seq (.reg [Qo 5 (.mv (.c (.d (.int .i64 0))))] [0,3,4,5])
 (.block 0 (.loop N8)))
 (.seq (.seq (.reg [Qm 27 4,
 Qo 28 (.bin .gtr (.t 27) (.c (.d (.int .u64 0))))] [3,4,28])
 (.cond (.t 28) (.reg [Qm 29 3,
 Qm 30 4,
 Qo 31 (.conv .u32 (.t 30)),
 Qo 32 (.bsl 1 1 [(.d (.int .u32 0))] [(0,1,(.t 31))]),
 Qo 33 (.app 117 1 4 (.t 29) (.t 32)),
 Qm 3 33] [3])
 .skip))
 (.seq (.reg [Qm 34 3,
 Qo 35 (.call 114 [(.t 34)]),
 Qm 2 35] [2])
 .ret))))))
noncomputable def Gz:Cx:=⟨Tryd.prog,111,Tryd.f111,36,[],[],[.t 2]⟩
theorem Nh:Good Gz:=⟨Tryd.func111,by kernel_rfl⟩
theorem RX:Gz.rs=[.t 2]:=rfl
theorem SM (hl:args.length≤36) (h:Run Gz K [.code N7] (B0 args) E σ):AM Tryd.prog 111 args σ K:=
 AT (cx:=Gz) (code:=Tryd.f111.body.getD .skip) Nh (by kernel_rfl) Tryd.ntmps111 hl (AU Gz _ (Bo N7) _ [] (by kernel_rfl)) h
def Kg:C:=(.seq (.seq (.reg [Qm 7 1,
 Qo 8 (.len (.t 7)),
 Qo 9 (.bin .gtr (.t 8) (.c (.d (.int .i64 0))))] [0,1,9])
 (.cond (.t 9) .skip
 (.exit 0)))
 (.block 1 (.seq (.reg [Qm 11 0,
 Qm 12 1,
 Qo 13 (.call 113 [(.t 11),(.t 12)]),
 Qm 10 13,
 Qo 14 (.ext (.t 10) 0),
 Qo 15 (.ext (.t 10) 1),
 Qm 5 14,
 Qm 6 15] [1,6])
 (.reg [Qm 16 1,
 Qm 17 6,
 Qm 0 16,
 Qm 1 17] [0,1]))))
def J8:C:=(.seq (.reg [Qo 4 (.mv (.c .A7))] [0,1])
 (.seq (.block 0 (.loop Kg))
 (.seq (.reg [Qm 18 0,
 Qm 4 18] [4])
 .ret)))
noncomputable def EP:Cx:=⟨Tryd.prog,112,Tryd.f112,19,[],[],[.t 4]⟩
theorem Jh:Good EP:=⟨Tryd.func112,by kernel_rfl⟩
theorem NO:EP.rs=[.t 4]:=rfl
theorem No (hl:args.length≤19) (h:Run EP K [.code J8] (B0 args) E σ):AM Tryd.prog 112 args σ K:=
 AT (cx:=EP) (code:=Tryd.f112.body.getD .skip) Jh (by kernel_rfl) Tryd.ntmps112 hl (AU EP _ (Bo J8) _ [] (by kernel_rfl)) h
def Kd:C:=(.seq (.seq (.reg [Qm 54 11,
 Qo 55 (.bin .gtr (.t 54) (.c (.d (.int .u64 0)))),
 Qm 56 55,
 ⟨some 57,.mv (.t 1),some (56,true)⟩,
 ⟨some 58,.mv (.t 11),some (56,true)⟩,
 ⟨some 59,.call 92 [(.t 58)],some (56,true)⟩,
 ⟨some 60,.call 94 [(.t 57),(.t 59)],some (56,true)⟩,
 ⟨some 61,.mv (.t 9),some (56,true)⟩,
 ⟨some 62,.call 96 [(.t 60),(.t 61)],some (56,true)⟩,
 ⟨some 63,.bin .gtr (.t 62) (.c (.d (.int .i64 0))),some (56,true)⟩,
 Qo 64 (.pick (.t 56) (.t 63) (.c (.d (.bool false))))] [0,1,8,9,10,11,64])
 (.cond (.t 64) .skip
 (.exit 2)))
 (.block 3 (.reg [Qm 65 11,
 Qo 66 (.bin .sub (.t 65) (.c (.d (.int .u64 1)))),
 Qm 11 66] [0,1,8,9,10,11])))
def Ke:C:=(.seq (.seq (.reg [Qm 73 9,
 Qm 74 1,
 Qo 75 (.call 96 [(.t 73),(.t 74)]),
 Qo 76 (.bin .geq (.t 75) (.c (.d (.int .i64 0))))] [0,1,8,9,10,11,76])
 (.cond (.t 76) .skip
 (.exit 4)))
 (.block 5 (.seq (.reg [Qm 77 9,
 Qm 78 1,
 Qo 79 (.call 97 [(.t 77),(.t 78)]),
 Qm 9 79] [0,1,8,9,10,11])
 (.reg [Qm 80 11,
 Qo 81 (.bin .add (.t 80) (.c (.d (.int .u64 1)))),
 Qm 11 81] [0,1,8,9,10,11]))))
def Kf:C:=(.seq (.seq (.reg [Qm 39 10,
 Qo 40 (.bin .geq (.t 39) (.c (.d (.int .i64 0))))] [0,1,8,9,10,40])
 (.cond (.t 40) .skip
 (.exit 0)))
 (.seq (.block 1 (.seq (.reg [Qm 43 0,
 Qm 44 10,
 Qo 45 (.ix (.t 43) (.t 44) 1),
 Qo 46 (.ld (.t 45) none),
 Qo 47 (.bsl 1 1 [(.d (.int .u32 0))] [(0,1,(.t 46))]),
 Qm 48 9,
 Qo 49 (.app 117 1 4 (.t 47) (.t 48)),
 Qo 50 (.call 114 [(.t 49)]),
 Qm 9 50] [0,1,8,9,10])
 (.seq (.reg [Qm 51 9,
 Qm 52 1,
 Qo 53 (.call 132 [(.t 51),(.t 52)]),
 Qm 11 53] [0,1,8,9,10,11])
 (.seq (.block 2 (.loop Kd))
 (.seq (.reg [Qm 67 9,
 Qm 68 1,
 Qm 69 11,
 Qo 70 (.call 92 [(.t 69)]),
 Qo 71 (.call 94 [(.t 68),(.t 70)]),
 Qo 72 (.call 97 [(.t 67),(.t 71)]),
 Qm 9 72] [0,1,8,9,10,11])
 (.seq (.block 4 (.loop Ke))
 (.reg [Qm 82 8,
 Qm 83 10,
 Qm 84 11,
 Qo 85 (.conv .u32 (.t 84)),
 Qo 86 (.ix (.t 82) (.t 83) 1),
 ⟨none,.st (.t 86) (.t 85) 1,none⟩] [0,1,8,9,10])))))))
 (.reg [Qm 41 10,
 Qo 42 (.bin .sub (.t 41) (.c (.d (.int .i64 1)))),
 Qm 10 42] [0,1,8,9,10])))
def J7:C:=(.seq (.reg [Qo 4 (.mv (.c .A7)),
 Qo 5 (.mv (.c .A7))] [0,1])
 (.seq (.seq (.reg [Qm 12 0,
 Qm 13 1,
 Qo 14 (.call 96 [(.t 12),(.t 13)]),
 Qo 15 (.bin .lss (.t 14) (.c (.d (.int .i64 0))))] [0,1,15])
 (.cond (.t 15) (.seq (.reg [Qm 16 0,
 Qo 17 (.call 114 [(.t 16)]),
 Qo 4 (.mv (.c .A7)),
 Qm 5 17] [4,5])
 .ret)
 .skip))
 (.seq (.seq (.reg [Qm 18 1,
 Qo 19 (.len (.t 18)),
 Qo 20 (.bin .eql (.t 19) (.c (.d (.int .i64 1))))] [0,1,20])
 (.cond (.t 20) (.seq (.reg [Qm 22 0,
 Qm 23 1,
 Qo 24 (.ix (.t 23) (.c (.d (.int .i64 0))) 1),
 Qo 25 (.ld (.t 24) none),
 Qo 26 (.conv .u64 (.t 25)),
 Qo 27 (.call 131 [(.t 22),(.t 26)]),
 Qm 21 27,
 Qo 28 (.ext (.t 21) 0),
 Qo 29 (.ext (.t 21) 1),
 Qm 6 28,
 Qm 7 29] [6,7])
 (.seq (.reg [Qm 30 6,
 Qm 31 7,
 Qo 32 (.call 92 [(.t 31)]),
 Qm 4 30,
 Qm 5 32] [4,5])
 .ret))
 .skip))
 (.seq (.reg [Qm 33 0,
 Qo 34 (.len (.t 33)),
 Qo 35 (.msl 117 1 4 [(.d (.int .u32 0))] (.t 34) (.t 34)),
 Qm 8 35] [0,1,8])
 (.seq (.reg [Qo 9 (.mv (.c .A7))] [0,1,8,9])
 (.seq (.seq (.reg [Qm 36 0,
 Qo 37 (.len (.t 36)),
 Qo 38 (.bin .sub (.t 37) (.c (.d (.int .i64 1)))),
 Qm 10 38] [0,1,8,9,10])
 (.block 0 (.loop Kf)))
 (.seq (.reg [Qm 87 8,
 Qo 88 (.call 114 [(.t 87)]),
 Qm 89 9,
 Qm 4 88,
 Qm 5 89] [4,5])
 .ret)))))))
noncomputable def EO:Cx:=⟨Tryd.prog,113,Tryd.f113,90,[],[],[.t 4,.t 5]⟩
theorem Jg:Good EO:=⟨Tryd.func113,by kernel_rfl⟩
theorem NN:EO.rs=[.t 4,.t 5]:=rfl
theorem Nn (hl:args.length≤90) (h:Run EO K [.code J7] (B0 args) E σ):AM Tryd.prog 113 args σ K:=
 AT (cx:=EO) (code:=Tryd.f113.body.getD .skip) Jg (by kernel_rfl) Tryd.ntmps113 hl (AU EO _ (Bo J7) _ [] (by kernel_rfl)) h
def N6:C:=(.seq (.seq (.reg [Qm 6 3,
 Qo 7 (.bin .gtr (.t 6) (.c (.d (.int .i64 0)))),
 Qm 8 7,
 ⟨some 9,.mv (.t 0),some (8,true)⟩,
 ⟨some 10,.mv (.t 3),some (8,true)⟩,
 ⟨some 11,.bin .sub (.t 10) (.c (.d (.int .i64 1))),some (8,true)⟩,
 ⟨some 12,.ix (.t 9) (.t 11) 1,some (8,true)⟩,
 ⟨some 13,.ld (.t 12) none,some (8,true)⟩,
 ⟨some 14,.bin .eql (.t 13) (.c (.d (.int .u32 0))),some (8,true)⟩,
 Qo 15 (.pick (.t 8) (.t 14) (.c (.d (.bool false))))] [0,3,15])
 (.cond (.t 15) .skip
 (.exit 0)))
 (.block 1 (.reg [Qm 16 3,
 Qo 17 (.bin .sub (.t 16) (.c (.d (.int .i64 1)))),
 Qm 3 17] [0,3])))
def N5:C:=(.seq (.reg [Qo 2 (.mv (.c .A7))] [0])
 (.seq (.reg [Qm 4 0,
 Qo 5 (.len (.t 4)),
 Qm 3 5] [0,3])
 (.seq (.block 0 (.loop N6))
 (.seq (.reg [Qm 18 0,
 Qm 19 3,
 Qo 20 (.sls (.t 18) none (some (.t 19)) none 1),
 Qo 21 (.app 117 1 4 (.c .A7) (.t 20)),
 Qm 2 21] [2])
 .ret))))
noncomputable def Gy:Cx:=⟨Tryd.prog,114,Tryd.f114,22,[],[],[.t 2]⟩
theorem Kv:Good Gy:=⟨Tryd.func114,by kernel_rfl⟩
theorem RW:Gy.rs=[.t 2]:=rfl
theorem SL (hl:args.length≤22) (h:Run Gy K [.code N5] (B0 args) E σ):AM Tryd.prog 114 args σ K:=
 AT (cx:=Gy) (code:=Tryd.f114.body.getD .skip) Kv (by kernel_rfl) Tryd.ntmps114 hl (AU Gy _ (Bo N5) _ [] (by kernel_rfl)) h
def JE:C:=(.seq (.seq (.reg [Qm 15 8,
 Qo 16 (.bin .geq (.t 15) (.c (.d (.int .i64 0))))] [0,1,6,7,8,16])
 (.cond (.t 16) .skip
 (.exit 0)))
 (.seq (.block 1 (.seq (.reg [Qm 19 7,
 Qo 20 (.bin .mul (.t 19) (.c (.d (.int .u64 1000000000)))),
 Qm 21 0,
 Qm 22 8,
 Qo 23 (.ix (.t 21) (.t 22) 1),
 Qo 24 (.ld (.t 23) none),
 Qo 25 (.conv .u64 (.t 24)),
 Qo 26 (.bin .add (.t 20) (.t 25)),
 Qm 7 26] [0,1,6,7,8])
 (.seq (.reg [Qm 27 6,
 Qm 28 8,
 Qm 29 7,
 Qm 30 1,
 Qo 31 (.bin .quo (.t 29) (.t 30)),
 Qo 32 (.conv .u32 (.t 31)),
 Qo 33 (.ix (.t 27) (.t 28) 1),
 ⟨none,.st (.t 33) (.t 32) 1,none⟩] [0,1,6,7,8])
 (.reg [Qm 34 7,
 Qm 35 1,
 Qo 36 (.bin .rem (.t 34) (.t 35)),
 Qm 7 36] [0,1,6,7,8]))))
 (.reg [Qm 17 8,
 Qo 18 (.bin .sub (.t 17) (.c (.d (.int .i64 1)))),
 Qm 8 18] [0,1,6,7,8])))
def H9:C:=(.seq (.reg [Qo 4 (.mv (.c .A7)),
 Qo 5 (.mv (.c (.d (.int .u64 0))))] [0,1])
 (.seq (.reg [Qm 9 0,
 Qo 10 (.len (.t 9)),
 Qo 11 (.msl 117 1 4 [(.d (.int .u32 0))] (.t 10) (.t 10)),
 Qm 6 11] [0,1,6])
 (.seq (.reg [Qo 7 (.mv (.c (.d (.int .u64 0))))] [0,1,6,7])
 (.seq (.seq (.reg [Qm 12 0,
 Qo 13 (.len (.t 12)),
 Qo 14 (.bin .sub (.t 13) (.c (.d (.int .i64 1)))),
 Qm 8 14] [0,1,6,7,8])
 (.block 0 (.loop JE)))
 (.seq (.reg [Qm 37 6,
 Qo 38 (.call 114 [(.t 37)]),
 Qm 39 7,
 Qm 4 38,
 Qm 5 39] [4,5])
 .ret)))))
noncomputable def D1:Cx:=⟨Tryd.prog,131,Tryd.f131,40,[],[],[.t 4,.t 5]⟩
theorem Hd:Good D1:=⟨Tryd.func131,by kernel_rfl⟩
theorem L2:D1.rs=[.t 4,.t 5]:=rfl
theorem Lu (hl:args.length≤40) (h:Run D1 K [.code H9] (B0 args) E σ):AM Tryd.prog 131 args σ K:=
 AT (cx:=D1) (code:=Tryd.f131.body.getD .skip) Hd (by kernel_rfl) Tryd.ntmps131 hl (AU D1 _ (Bo H9) _ [] (by kernel_rfl)) h
attribute [go_sem] GU Is L1 IB KM Dd HZ MB Gq IA NK ME RU PZ OI OJ KN NP NL NM NQ RX NO NN RW L2
end Go.Ab
