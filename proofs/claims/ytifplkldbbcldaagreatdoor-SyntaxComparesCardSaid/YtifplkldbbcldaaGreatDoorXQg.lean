/- The tokens of formatted texts, in plain data: the pieces. The tokens of formatted texts, in plain data: types, expressions, programs. The tokens of formatted programs, in plain data. Conditions: none. -/
import Derived.Test.YtifplkldbbcldaaGreatDoorXQb
set_option linter.unusedSimpArgs false
set_option linter.unusedVariables false
set_option maxRecDepth 4000
set_option maxHeartbeats 8000000
open List renaming append_assoc→AT,cons_append→AX,nil_append→A0,takeWhile_cons→Fa,mem_cons_self→Ad,mem_cons_of_mem→Ah,contains_eq_mem→Dv,all_eq_true→A5,mem_cons→CN,append_nil→AZ,mem_singleton→FB,mem_append→BN,length_drop→Aj,length_cons→AE,map_cons→AD,map_nil→AG,map_append→Bn
open Bool renaming or_eq_true→BM,and_eq_true→AN,or_eq_false_iff→Ko,not_eq_true'→E2,or_true→Od
open Option renaming bind_some→B3,isSome_iff_exists→Wk
open Except.ok renaming injEq→Gt
open Prod.mk renaming injEq→BY
namespace Go.Ab
abbrev KT:=Int×Str
def OI:Str→Bool
 |[]=>true
 |b::_=>[10,32,40,41,44,59].contains b
def Og (s:Str) (ks:List KT) (rest:Str):Prop:=∀n i acc,(s++rest).length < n→∃n' i' acc',strip acc'=strip acc++ks∧rest.length < n'∧E5 n (s++rest) i acc=E5 n' rest i' acc'
def FH (s:Str) (ks:List KT):Prop:=∀rest,OI rest=true→Og s ks rest
def Gb (s:Str) (ks:List KT):Prop:=∀rest,Og s ks rest
theorem Og.trans {s1 s2:Str} {k1 k2:List KT} {rest:Str} (h1:Og s1 k1 (s2++rest)) (h2:Og s2 k2 rest):Og (s1++s2) (k1++k2) rest:=fun n i acc hn=>by
 rw [AT] at hn ⊢
 obtain ⟨n1,i1,a1,e1,l1,g1⟩:=h1 n i acc hn
 obtain ⟨n2,i2,a2,e2,l2,g2⟩:=h2 n1 i1 a1 l1
 exact ⟨n2,i2,a2,by rw [e2,e1,AT],l2,by rw [g1,g2]⟩
theorem Og.nil (rest:Str):Og [] [] rest:=fun n i acc hn=>⟨n,i,acc,by simp,hn,rfl⟩
theorem Gb.s {s:Str} {ks:List KT} (h:Gb s ks):FH s ks:=fun r _=>h r
theorem Gb.nil:Gb [] []:=Og.nil
theorem Gb.a {s1 s2:Str} {k1 k2:List KT} (h1:Gb s1 k1) (h2:Gb s2 k2):Gb (s1++s2) (k1++k2):=fun r=>(h1 _).trans (h2 r)
theorem Gb.ss {s1 s2:Str} {k1 k2:List KT} (h1:Gb s1 k1) (h2:FH s2 k2):FH (s1++s2) (k1++k2):=fun r hr=>(h1 _).trans (h2 r hr)
theorem Yl {s r:Str} (h:OI s=true) (hn:s≠[]):OI (s++r)=true:=by
 cases s with
 |nil=>exact absurd rfl hn
 |cons b l=>exact h
theorem FH.a {s1 s2:Str} {k1 k2:List KT} (h1:FH s1 k1) (hs:OI s2=true) (hn:s2≠[]) (h2:Gb s2 k2):Gb (s1++s2) (k1++k2):=fun r=>(h1 _ (Yl hs hn)).trans (h2 r)
theorem FH.ss {s1 s2:Str} {k1 k2:List KT} (h1:FH s1 k1) (hs:OI s2=true) (h2:FH s2 k2):FH (s1++s2) (k1++k2):=fun r hr=>by
 by_cases hn:s2=[]
 · subst hn;exact (h1 _ hr).trans (h2 r hr)
 · exact (h1 _ (Yl hs hn)).trans (h2 r hr)
theorem bR {s rest:Str} {k:Int} (hs:FO (s++rest)= .ok (k,s)) (hb:∀b l,s=b::l→Wm b.toNat=false∧(b==35)=false):Og s [(k,s)] rest:=fun n i acc hn=>by
 have hl:=(S8 hs).1
 cases s with
 |nil=>simp at hl
 |cons b l=>
  obtain ⟨h1,h2⟩:=hb b l rfl
  cases n with
  |zero=>omega
  |succ n=>
   refine ⟨n,i+(b::l).length,acc++[⟨k,b::l,i⟩],by simp [strip],by simp at hn ⊢;omega,?_⟩
   rw [AX] at hs ⊢
   rw [E5,if_neg (by rw [h1];decide),if_neg (by rw [h2];decide),hs]
   simp only
   rw [← AX,List.drop_left]
theorem Zs {b:UInt8} (hb:Wm b.toNat=true):Gb [b] []:=fun rest n i acc hn=>by
 cases n with
 |zero=>omega
 |succ n=>exact ⟨n,i+1,acc,by simp,by simp at hn;omega,by rw [AX,A0,E5,if_pos hb]⟩
theorem I5:Gb [32] []:=Zs (by decide)
theorem yH:Gb [10] []:=Zs (by decide)
theorem cP {p:UInt8→Bool} {s rest:Str} (h:∀x∈s,p x=true) (hr:∀b l,rest=b::l→p b=false):(s++rest).takeWhile p=s:=by
 induction s with
 |nil=>
  cases rest with
  |nil=>rfl
  |cons b l=>rw [A0,Fa,hr b l rfl];rfl
 |cons x s ih=>rw [AX,Fa,h x (Ad ..),if_pos rfl,ih (fun y hy=>h y (Ah _ hy))]
theorem r3 {rest:Str} (h:OI rest=true):∀b l,rest=b::l→FW Nv b=false:=by
 rintro b l rfl
 have:∀c∈([10,32,40,41,44,59]:Str),FW Nv c=false:=by decide
 exact this b (by simpa [OI,Dv] using h)
theorem r2 {rest:Str} (h:OI rest=true):∀b l,rest=b::l→FW Ix b=false:=by
 rintro b l rfl
 have:∀c∈([10,32,40,41,44,59]:Str),FW Ix c=false:=by decide
 exact this b (by simpa [OI,Dv] using h)
theorem YM {b:UInt8} {r:Str} (hlu:(RO b.toNat||Pd b.toNat)=true) (hw:∀x∈b::r,FW Nv x=true) (hl:(b::r).length≤24):FH (b::r) [(if Pd b.toNat then 2 else if VM (b::r) then 4 else 1,b::r)]:=fun rest hr=>by
 refine bR ?_ (fun c l e=>?_)
 · have ht:=cP hw (r3 hr)
   rw [AX] at ht ⊢
   rw [FO,if_pos hlu,ht,if_neg (by simp only [decide_eq_true_eq];omega)]
   split
   · rfl
   · split<;>rfl
 · cases e
   simp only [RO,Pd,BM,AN,decide_eq_true_eq] at hlu
   refine ⟨?_,?_⟩
   · simp only [Wm,Ko]
     refine ⟨⟨⟨?_,?_⟩,?_⟩,?_⟩<;>(apply oX;omega)
   · cases hb:(b==35) with
     |false=>rfl
     |true=>
      rw [beq_iff_eq] at hb;subst hb
      exfalso
      rcases hlu with h|h
      · have:=h.1;revert this;decide
      · have:=h.1;revert this;decide
theorem NW {s:Str} (h:Hi s=true):FH s [(1,s)]:=by
 obtain ⟨b,r,rfl,h1,h2,h3,h4⟩:=YO h
 have:=YM (b:=b) (r:=r) (by rw [h1];rfl) h2 h3
 have hu:Pd b.toNat=false:=(Vx h1).2.2
 rw [hu,h4] at this
 exact this
theorem uA {s:Str} (h:VM s=true) (b:UInt8) (r:Str) (e:s=b::r) (hl:RO b.toNat=true) (hw:∀x∈b::r,FW Nv x=true) (hn:(b::r).length≤24):FH s [(4,s)]:=by
 subst e
 have:=YM (b:=b) (r:=r) (by rw [hl];rfl) hw hn
 have hu:Pd b.toNat=false:=(Vx hl).2.2
 rw [hu,h] at this
 exact this
theorem US {s:Str} (h:VM s=true):FH s [(4,s)]:=by
 have ha:NV.all (fun w=>match w with|[]=>false|b::r=>RO b.toNat&&(b::r).all (FW Nv)&&decide ((b::r).length≤24))=true:=by decide
 have hm:s∈NV:=by
  simp only [VM,List.any_eq_true,beq_iff_eq] at h
  obtain ⟨x,hx,rfl⟩:=h
  exact hx
 have:=A5.1 ha s hm
 match s,this,h with
 |b::r,this,h=>
  simp only [AN,decide_eq_true_eq,A5] at this
  exact uA h b r rfl this.1.1 this.1.2 this.2
theorem eJ {s rest:Str} (h0:s∈Ts) (h1:∀b l,s=b::l→(RO b.toNat||Pd b.toNat)=false∧Ix b.toNat=false∧Wm b.toNat=false∧(b==35)=false) (h2:(s++rest).take (Sb (s++rest))=s):Og s [(5,s)] rest:=by
 cases s with
 |nil=>exact absurd h0 (by decide)
 |cons b l=>
  obtain ⟨a1,a2,a3,a4⟩:=h1 b l rfl
  refine bR ?_ (fun c l' e=>by cases e;exact ⟨a3,a4⟩)
  rw [AX] at h2 ⊢
  rw [FO,if_neg (by rw [a1];decide),if_neg (by rw [a2];decide),if_neg (by rw [h2];simp),h2]
theorem Jd (s:Str) (h0:s∈Ts) (h:s≠[45]∧s≠[60]∧s≠[61]):Gb s [(5,s)]:=fun rest=>by
 have hall:∀s∈Ts,s≠[45]∧s≠[60]∧s≠[61]→(match s with|[]=>false|b::_=>!(RO b.toNat||Pd b.toNat)&& !Ix b.toNat&& !Wm b.toNat&& !(b==35))=true∧((∃b,s=[b]∧rX b=1∧(b==45)=false∧(b==60)=false∧(b==61)=false)∨∃b c,s=[b,c]∧iS b c=true):=by
  intro s hs hn
  simp only [Ts,CN,List.not_mem_nil,or_false] at hs
  rcases hs with rfl|rfl|rfl|rfl|rfl|rfl|rfl|rfl|rfl|rfl|rfl|rfl|rfl|rfl|rfl|rfl<;>first
   |exact ⟨by decide,.inr ⟨_,_,rfl,by decide⟩⟩
   |exact ⟨by decide,.inl ⟨_,rfl,by decide,by decide,by decide,by decide⟩⟩
   |exact absurd rfl hn.1
   |exact absurd rfl hn.2.1
   |exact absurd rfl hn.2.2
 obtain ⟨f1,f2⟩:=hall s h0 h
 refine eJ h0 (fun b l e=>?_) ?_
 · subst e
   simp only [AN,E2] at f1
   exact ⟨f1.1.1.1,f1.1.1.2,f1.1.2,f1.2⟩
 · rcases f2 with ⟨b,rfl,g1,g2,g3,g4⟩|⟨b,c,rfl,g⟩
   · cases rest with
     |nil=>rw [AZ,Sb,g1];rfl
     |cons c l=>
      have:iS b c=false:=by
       simp only [iS,Ko,List.cons_beq_cons,g2,g3,g4,Bool.false_and,and_self]
      rw [AX,A0,Sb,this,if_neg (by decide),g1];rfl
   · rw [AX,AX,A0,Sb,if_pos g];rfl
theorem cJ (b:UInt8) (hb:b=45∨b=60∨b=61) {rest:Str} (hr:∀c l,rest=c::l→(c==61)=false∧(c==62)=false):Og [b] [(5,[b])] rest:=by
 refine eJ (by rcases hb with rfl|rfl|rfl<;>decide) (fun c l e=>?_) ?_
 · cases e
   rcases hb with rfl|rfl|rfl<;>decide
 · cases rest with
   |nil=>rcases hb with rfl|rfl|rfl<;>rfl
   |cons c l=>
    obtain ⟨g1,g2⟩:=hr c l rfl
    have:iS b c=false:=by
     simp only [iS,Ko,List.cons_beq_cons,g1,g2,Bool.and_false,Bool.false_and,and_self]
    rw [AX,A0,Sb,this,if_neg (by decide)]
    rcases hb with rfl|rfl|rfl<;>rfl
theorem Ym {rest:Str} (h:OI rest=true):∀c l,rest=c::l→(c==61)=false∧(c==62)=false:=by
 rintro b l rfl
 have:∀c∈([10,32,40,41,44,59]:Str),(c==61)=false∧(c==62)=false:=by decide
 exact this b (by simpa [OI,Dv] using h)
end Go.Ab
namespace Go.Ab
theorem u8n {n:Nat} (h:n < 256):(UInt8.ofNat n).toNat=n:=by simp [Nat.mod_eq_of_lt h]
theorem gP:∀(n:Nat),∀x∈Lib.decDigits n,FW Ix x=true:=by
 intro n
 induction n using Nat.strongRecOn with
 |_ n ih=>
 intro x hx
 rw [Lib.decDigits] at hx
 have hd:∀m,m < 10→FW Ix (UInt8.ofNat (48+m))=true:=fun m hm=>by
  simp only [FW,Ix,u8n (show 48+m < 256 by omega),AN,decide_eq_true_eq];omega
 split at hx
 · rename_i h
   rw [FB] at hx;rw [hx];exact hd n h
 · rename_i h
   rcases BN.1 hx with hx|hx
   · exact ih (n / 10) (by omega) x hx
   · rw [FB] at hx;rw [hx];exact hd _ (by omega)
theorem aM:∀(s t:Str) (v:Int),HV (s++t) v=(HV s v).bind (HV t)
 |[],t,v=>rfl
 |b::s,t,v=>by
  rw [AX,HV,HV]
  split
  · rfl
  · exact aM s t _
theorem pI:∀(n:Nat),n≤1000000→HV (Lib.decDigits n) 0=some (n:Int):=by
 intro n
 induction n using Nat.strongRecOn with
 |_ n ih=>
 intro hn
 have hw:∀m,m < 10→IntKind.u8.wrap (((UInt8.ofNat (48+m)).toNat:Int) - 48)=m:=fun m hm=>by
  rw [u8n (by omega)]
  have:IntKind.u8.wrap (((48+m:Nat):Int) - 48)=(((48+m:Nat):Int) - 48) % 256:=rfl
  rw [this];omega
 rw [Lib.decDigits]
 split
 · rename_i h
   rw [HV,hw n h,if_neg (by omega),HV]
   congr 1;omega
 · rename_i h
   rw [aM,ih (n / 10) (by omega) (by omega),B3,HV,hw _ (by omega),if_neg (by omega),HV]
   congr 1;omega
theorem jX:∀(n:Nat),1≤n→∃b l,Lib.decDigits n=b::l∧(b==48)=false:=by
 intro n
 induction n using Nat.strongRecOn with
 |_ n ih=>
 intro hn
 rw [Lib.decDigits]
 split
 · rename_i h
   refine ⟨_,[],rfl,?_⟩
   cases hb:(UInt8.ofNat (48+n)==48) with
   |false=>rfl
   |true=>
    rw [beq_iff_eq] at hb
    have:=congrArg UInt8.toNat hb
    rw [u8n (by omega)] at this
    have h2:(48:UInt8).toNat=48:=rfl
    omega
 · rename_i h
   obtain ⟨b,l,e,hb⟩:=ih (n / 10) (by omega) (by omega)
   exact ⟨b,l++[_],by rw [e];rfl,hb⟩
theorem uU {n:Nat} (h:n≤1000000):RP (Lib.decDigits n)=n:=by rw [RP,pI n h];rfl
theorem kD {n:Nat} (h:n≤1000000):FH (Lib.decDigits n) [(3,Lib.decDigits n)]:=fun rest hr=>by
 have ha:=gP n
 have hv:=pI n h
 have hh:∃b l,Lib.decDigits n=b::l∧(b==48&&decide ((b::l).length>1))=false:=by
  by_cases h0:n=0
  · subst h0;exact ⟨48,[],by rw [Lib.decDigits];rfl,rfl⟩
  · obtain ⟨b,l,e,hb⟩:=jX n (by omega)
    exact ⟨b,l,e,by rw [hb];rfl⟩
 obtain ⟨b,l,e,h48⟩:=hh
 rw [e] at ha hv ⊢
 have hd:=ha b (Ad ..)
 simp only [FW] at hd
 have hdn:=hd
 simp only [Ix,AN,decide_eq_true_eq] at hdn
 have ht:=cP ha (r2 hr)
 refine bR ?_ (fun c l' e'=>?_)
 · rw [AX] at ht ⊢
   have hlu:¬(RO b.toNat||Pd b.toNat)=true:=by
    simp only [RO,Pd,BM,AN,decide_eq_true_eq];omega
   rw [FO,if_neg hlu,if_pos hd,ht,h48,if_neg (by decide),hv];rfl
 · cases e'
   refine ⟨?_,?_⟩
   · simp only [Wm,Ko]
     refine ⟨⟨⟨?_,?_⟩,?_⟩,?_⟩<;>(apply oX;omega)
   · cases hb:(b==35) with
     |false=>rfl
     |true=>
      rw [beq_iff_eq] at hb;subst hb
      exact absurd hdn.1 (by decide)
def Tt (u:Int):List KT:=if u < 0 then [(5,[45]),(3,Lib.decDigits u.natAbs)] else [(3,Lib.decDigits u.toNat)]
theorem eH {u:Int} (h1: -1000000≤u) (h2:u≤1000000):FH (Lib.itoa u) (Tt u):=by
 unfold Lib.itoa Tt
 split
 · rename_i h
   intro rest hr
   refine Og.trans (s1:=[45]) (k1:=[(5,[45])]) (cJ 45 (.inl rfl) ?_) (kD (by omega) rest hr)
   intro c l e
   have hall:∀x:UInt8,FW Ix x=true→(x==61)=false∧(x==62)=false:=fun x hx=>by
    simp only [FW,Ix,AN,decide_eq_true_eq] at hx
    constructor
    · cases hb:(x==61) with
      |false=>rfl
      |true=>rw [beq_iff_eq] at hb;subst hb;exact absurd hx.2 (by decide)
    · cases hb:(x==62) with
      |false=>rfl
      |true=>rw [beq_iff_eq] at hb;subst hb;exact absurd hx.2 (by decide)
   obtain ⟨b,l2,e2⟩:∃b l2,Lib.decDigits u.natAbs=b::l2:=by
    obtain ⟨b,l2,e2,_⟩:=jX u.natAbs (by omega)
    exact ⟨b,l2,e2⟩
   have hb:=hall b (gP u.natAbs b (by rw [e2];exact Ad ..))
   rw [e2] at e
   cases e
   exact hb
 · exact kD (by omega)
theorem WW {s:Str} (h:upperB s=true):∃b r,s=b::r∧Pd b.toNat=true∧(∀x∈b::r,FW Nv x=true)∧(b::r).length≤24:=by
 rw [upperB,Qc] at h
 simp only [AN,beq_iff_eq] at h
 obtain ⟨h0,h1,h2⟩:=h
 rw [BR] at h0 h1 h2
 split at h0
 · cases h0
 · rename_i hle
   rw [if_neg hle] at h1 h2
   match s,h0,h1,h2 with
   |[],_,h1,_=>simp [E5] at h1
   |b::r,h0,h1,h2=>
    rw [show (b::r).length+1=(r.length+1)+1 from rfl] at h0 h1 h2
    rw [E5] at h0 h1 h2
    have hsm:∀(n:Nat) (rest:Str) (i:Nat),rest.length < (b::r).length→(E5 n rest i []).2.2=0→(E5 n rest i []).1.length=2→(match (E5 n rest i []).1 with|[]=>false|a::_=>a.kind==2&&a.text==b::r)=true→False:=by
     intro n rest i hlt g0 g1 g2
     rcases Kj n rest i [] g0 with h|⟨tl,h,hm⟩
     · rw [h] at g1;cases g1
     · rw [h,A0] at g1 g2
       cases tl with
       |nil=>cases g1
       |cons a tl=>
        simp only [AN,beq_iff_eq] at g2
        have:=hm a (Ad ..)
        rw [g2.2] at this
        omega
    split at h0
    · rename_i hb
      rw [if_pos hb] at h1 h2
      exact (hsm _ _ _ (by simp) h0 h1 h2).elim
    · rename_i hb
      rw [if_neg hb] at h1 h2
      split at h0
      · rename_i hc
        rw [if_pos hc] at h1 h2
        refine (hsm _ _ _ ?_ h0 h1 h2).elim
        rw [beq_iff_eq] at hc
        subst hc
        have:1≤cmt (35::r):=by simp [cmt]
        rw [Aj];simp only [AE];omega
      · rename_i hc
        rw [if_neg hc] at h1 h2
        cases hs:FO (b::r) with
        |error e=>
         rw [hs] at h0
         rcases P5 hs with rfl|rfl<;>cases h0
        |ok x=>
         obtain ⟨k,t⟩:=x
         rw [hs] at h0 h1 h2
         rcases Kj _ _ _ _ h0 with h|⟨tl,h,hm⟩
         · rw [h] at h1;cases h1
         · rw [h] at h2
           replace h2:(k==2&&t==b::r)=true:=h2
           rw [AN,beq_iff_eq,beq_iff_eq] at h2
           obtain ⟨rfl,rfl⟩:=h2
           rw [FO] at hs
           split at hs
           · split at hs
             · cases hs
             · rename_i hlen
               split at hs
               · rename_i hup
                 simp only [Gt,BY,true_and] at hs
                 rw [hs] at hlen
                 exact ⟨b,r,rfl,hup,takeWhile_eq hs,by simpa using hlen⟩
               · split at hs<;>cases hs
           · split at hs
             · split at hs
               · cases hs
               · split at hs<;>cases hs
             · split at hs<;>cases hs
theorem PJ {s:Str} (h:upperB s=true):FH s [(2,s)]:=by
 obtain ⟨b,r,rfl,h1,h2,h3⟩:=WW h
 have:=YM (b:=b) (r:=r) (by rw [h1,Od]) h2 h3
 rw [h1,if_pos rfl] at this
 exact this
def shK (s:Str):List KT:=if s=[] then [(5,[95])] else [(1,s)]
theorem Vw {s:Str} (h:Ha s=true):FH (shown s) (shK s):=by
 unfold shown shK
 split
 · exact (Jd [95] (by decide) (by decide)).s
 · rename_i hs
   simp only [Ha,BM,beq_iff_eq] at h
   rcases h with h|h
   · exact absurd h hs
   · exact NW h
def cmK (l:List (List KT)):List KT:=[(5,[44])].intercalate l
def ID (k:List KT):List KT:=(5,[40])::(k++[(5,[41])])
def VW (l:List (List KT)):List KT:=if l=[] then [] else ID (cmK l)
def Lv (l:List (List KT)):List KT:=ID (cmK l)
theorem j4 {α:Type} (sep x:List α):sep.intercalate [x]=x:=by simp [List.intercalate]
theorem bI {α:Type} (sep x y:List α) (l:List (List α)):sep.intercalate (x::y::l)=x++(sep++sep.intercalate (y::l)):=by
 simp [List.intercalate,List.intersperse]
theorem VP {α:Type} {sep:Str} {ks:List KT} (hs:Gb sep ks) (hst:OI sep=true) (hne:sep≠[]) (f:α→Str) (g:α→List KT):∀l:List α,(∀x∈l,FH (f x) (g x))→FH (Lib.join (l.map f) sep) (ks.intercalate (l.map g))
 |[],_=>Gb.nil.s
 |[x],h=>by
  simp only [Lib.join,AD,AG,j4]
  exact h x (Ad ..)
 |x::y::l,h=>by
  have ih:=VP hs hst hne f g (y::l) (fun z hz=>h z (Ah _ hz))
  simp only [Lib.join,AD,bI] at ih ⊢
  exact (h x (Ad ..)).ss (Yl hst hne) (hs.ss ih)
theorem mT:Gb [44,32] [(5,[44])]:=(Jd [44] (by decide) (by decide)).a I5
theorem qJ:Gb [40] [(5,[40])]:=Jd _ (by decide) (by decide)
theorem qN:Gb [41] [(5,[41])]:=Jd _ (by decide) (by decide)
theorem VS {s:Str} {k:List KT} (h:FH s k):Gb (J7 s) (ID k):=qJ.a (h.a rfl (by decide) qN)
theorem kA {α:Type} (f:α→Str) (g:α→List KT) (l:List α) (h:∀x∈l,FH (f x) (g x)):FH (cms (l.map f)) (cmK (l.map g)):=VP mT rfl (by decide) f g l h
theorem Ss {α:Type} (f:α→Str) (g:α→List KT) (l:List α) (h:∀x∈l,FH (f x) (g x)):Gb (JA (l.map f)) (VW (l.map g)):=by
 unfold JA VW
 cases l with
 |nil=>exact Gb.nil
 |cons x l=>exact VS (kA f g (x::l) h)
theorem VQ {α:Type} (f:α→Str) (g:α→List KT) (l:List α) (h:∀x∈l,FH (f x) (g x)):Gb (Iz (l.map f)) (Lv (l.map g)):=VS (kA f g l h)
theorem N6 (l:List Str) {r:Str} (hr:OI r=true):OI (JA l++r)=true:=by
 unfold JA;split
 · exact hr
 · rfl
theorem Sr:Gb [32,45,62,32] [(5,[45,62])]:=I5.a ((Jd [45,62] (by decide) (by decide)).a I5)
theorem bQ:Gb [32,61,32] [(5,[61])]:=I5.a (fun rest=>(cJ 61 (.inr (.inr rfl)) (Ym (rest:=32::rest) rfl)).trans (I5 rest))
theorem Vv {s:Str} (h:VM s=true):Gb (32::(s++[32])) [(4,s)]:=I5.a ((US h).a rfl (by decide) I5)
theorem QQ {s:Str} (h:VM s=true):Gb (s++[32]) [(4,s)]:=(US h).a rfl (by decide) I5
theorem kB {s:Str} (h:VM s=true):FH (32::s) [(4,s)]:=I5.ss (US h)
end Go.Ab
namespace Go.Ab
def N9 (k:Int) (n:Str) (ts:List (List KT)):List KT:=
 if k=1 then [(4,[105,110,116])] else if k=2 then [(4,[98,111,111,108])] else if k=3 then [(4,[117,110,105,116])]
                                                                                             else if k=7 then (4,[97,114,114,97,121])::VW ts else if k=8 then (4,[114,101,102])::VW ts
                                                                                             else if k=9 then (4,[102,110])::(Lv ts.dropLast++((5,[45,62])::ts.getLastD []))
                                                                                             else if k=4 then [(1,n)] else if k=5 then (2,n)::VW ts else VW ts
mutual
def IH:TE→List KT
 | .mk k n l=>N9 k n (kU l)
def kU:List TE→List (List KT)
 |[]=>[]
 |t::l=>IH t::kU l
end
theorem Sx:∀l:List TE,kU l=l.map IH
 |[]=>rfl
 |t::l=>by rw [kU,Sx l];rfl
theorem cI {k:Int} {n:Str} {q:Nat} (h:DN k n q=true):k=1∨k=2∨k=3∨k=4∨k=5∨k=6∨k=7∨k=8∨k=9:=by
 unfold DN at h
 split at h
 · omega
 · split at h
   · omega
   · split at h
     · omega
     · split at h
       · omega
       · split at h
         · omega
         · split at h
           · omega
           · cases h
theorem UT {α:Type}:∀ {l:List α},1≤l.length→∃m x,l=m++[x]
 |[],h=>by simp at h
 |[x],_=>⟨[],x,rfl⟩
 |x::y::l,_=>by
  obtain ⟨m,z,e⟩:=UT (l:=y::l) (by simp)
  exact ⟨x::m,z,by rw [e];rfl⟩
theorem qO:∀(d:Nat) (t:TE),Du d t=true→FH (Ct t) (IH t)
 |0,.mk ..,h=>by cases h
 |d+1,.mk k n l,h=>by
  rw [Du,AN,A5] at h
  obtain ⟨h1,h2⟩:=h
  have hl:=fun x hx=>qO d x (h2 x hx)
  rw [Ct,IH,Pz,Sx]
  have ho:=Ss Ct IH l hl
  have hk:=cI h1
  rcases hk with rfl|rfl|rfl|rfl|rfl|rfl|rfl|rfl|rfl
  · exact US (s:=[105,110,116]) (by decide)
  · exact US (s:=[98,111,111,108]) (by decide)
  · exact US (s:=[117,110,105,116]) (by decide)
  · simp [DN] at h1
    obtain ⟨h1,h3⟩:=h1
    subst h3
    show FH (n++[]) [(1,n)]
    rw [AZ]
    exact NW h1
  · simp [DN] at h1
    exact (PJ h1.1).ss (by have:=N6 (l.map Ct) (r:=[]) rfl;rwa [AZ] at this) ho.s
  · simp [DN] at h1
    rw [h1.1.1]
    exact ho.s
  · exact (US (s:=[97,114,114,97,121]) (by decide)).ss (by have:=N6 (l.map Ct) (r:=[]) rfl;rwa [AZ] at this) ho.s
  · exact (US (s:=[114,101,102]) (by decide)).ss (by have:=N6 (l.map Ct) (r:=[]) rfl;rwa [AZ] at this) ho.s
  · simp [DN] at h1
    obtain ⟨m,x,rfl⟩:=UT h1.1.2
    have hm:=VQ Ct IH m (fun y hy=>hl y (List.mem_append_left _ hy))
    have hx:=hl x (by simp)
    show FH ([102,110]++(Iz ((m++[x]).map Ct).dropLast++([32,45,62,32]++((m++[x]).map Ct).getLastD []))) ((4,[102,110])::(Lv ((m++[x]).map IH).dropLast++((5,[45,62])::((m++[x]).map IH).getLastD [])))
    simp only [Bn,AD,AG,List.dropLast_concat,List.getLastD_concat]
    exact (US (s:=[102,110]) (by decide)).ss rfl (hm.ss (Sr.ss hx))
def atK (l:List (List KT)) (i:Nat):List KT:=l.getD i []
def plK (d:Nat) (k:Ex) (t:List KT):List KT:=if lvl k < d then ID t else t
def AA8 (ks:List Ex) (ts:List (List KT)):List KT:=match ks with
 |[]=>Lv ts.tail
 |k::_=>(if Ms k then ID (atK ts 0) else plK 4 k (atK ts 0))++Lv ts.tail
def AA9 (u:Int) (ks:List Ex) (ts:List (List KT)):List KT:=match ks with
 |[a,b]=>plK (if Ef u=1 then 2 else Ef u) a (atK ts 0)++((5,opT u)::plK (if Ef u=1 then 2 else Ef u+1) b (atK ts 1))
 |_=>[]
def tkN (o:Int) (n:Str) (u:Int) (ns:List Str) (ks:List Ex) (ts:List (List KT)) (aks:List (List KT)):List KT:=
 if o=7 then (4,[108,101,116])::(shK n++((5,[61])::(atK ts 0++((4,[105,110])::atK ts 1))))
                                                                 else if o=8 then (4,[108,101,116])::(VW (ns.map shK)++((5,[61])::(atK ts 0++((4,[105,110])::atK ts 1))))
                                                                 else if o=9 then (4,[105,102])::(atK ts 0++((4,[116,104,101,110])::(atK ts 1++((4,[101,108,115,101])::atK ts 2))))
                                                                 else if o=10 then (4,[109,97,116,99,104])::(atK ts 0++((4,[119,105,116,104])::([(5,[124])].intercalate aks++[(4,[101,110,100])])))
                                                                 else if o=11 then (4,[102,110])::(Lv (ns.map fun s=>[(1,s)])++((5,[45,62])::atK ts 0))
                                                                 else if o=17 then (4,[116,114,121])::(atK ts 0++((4,[99,97,116,99,104])::(shK n++((5,[45,62])::(atK ts 1++[(4,[101,110,100])])))))
                                                                 else if o=13 then AA9 u ks ts
                                                                 else if o=12 then AA8 ks ts
                                                                 else if o=1 then [(5,[40]),(5,[41])]
                                                                 else if o=2 then (if u=1 then [(4,[116,114,117,101])] else [(4,[102,97,108,115,101])])
                                                                 else if o=3 then Tt u
                                                                 else if o=5 then Lv ts
                                                                 else if o=14 then (4,prT u)::Lv ts
                                                                 else if o=16 then (4,[114,97,105,115,101])::Lv ts
                                                                 else if o=15 then (4,[116,105,99,107])::ID (Tt u)
                                                                 else if o=4 then [(1,n)]
                                                                 else (2,n)::VW ts
def yZ (c:Str) (vs:List Str) (b:List KT):List KT:=(2,c)::(VW (vs.map shK)++((5,[45,62])::b))
mutual
def tkE:Ex→List KT
 | .mk o n u ns ks al=>tkN o n u ns ks (vN ks) (vM al)
def vN:List Ex→List (List KT)
 |[]=>[]
 |t::l=>tkE t::vN l
def tkA:Al→List KT
 | .mk c vs b=>yZ c vs (tkE b)
def vM:List Al→List (List KT)
 |[]=>[]
 |t::l=>tkA t::vM l
end
theorem N8:∀l:List Ex,vN l=l.map tkE
 |[]=>rfl
 |t::l=>by rw [vN,N8 l];rfl
theorem N7:∀l:List Al,vM l=l.map tkA
 |[]=>rfl
 |t::l=>by rw [vM,N7 l];rfl
theorem kH {o u:Int} {q:Nat} (h:nkB o u q=true):o=1∨o=2∨o=3∨o=4∨o=5∨o=6∨o=7∨o=8∨o=9∨o=10∨o=11∨o=12∨o=13∨o=14∨o=15∨o=16∨o=17:=by
 unfold nkB at h
 repeat' (split at h)
 all_goals first|omega|cases h
theorem hP {d:Nat} {k:Ex} {t:Str} {q:List KT} (h:FH t q):FH (pl d k t) (plK d k q):=by
 unfold pl plK
 split
 · exact (VS h).s
 · exact h
theorem Za {l:List Str} (h:l.all Ha=true):∀s∈l,FH (shown s) (shK s):=fun s hs=>Vw (A5.1 h s hs)
theorem yI {u:Int} (h1:1≤u) (h2:u≤8):FH (opT u) [(5,opT u)]:=by
 have h:u=1∨u=2∨u=3∨u=4∨u=5∨u=6∨u=7∨u=8:=by omega
 rcases h with rfl|rfl|rfl|rfl|rfl|rfl|rfl|rfl
 · exact (Jd [43] (by decide) (by decide)).s
 · exact fun r hr=>cJ 45 (.inl rfl) (Ym hr)
 · exact (Jd [42] (by decide) (by decide)).s
 · exact (Jd [47] (by decide) (by decide)).s
 · exact (Jd [37] (by decide) (by decide)).s
 · exact fun r hr=>cJ 60 (.inr (.inl rfl)) (Ym hr)
 · exact (Jd [60,61] (by decide) (by decide)).s
 · exact (Jd [61,61] (by decide) (by decide)).s
theorem qL {u:Int}:FH (prT u) [(4,prT u)]:=by
 unfold prT
 repeat' split
 all_goals exact US (by decide)
theorem Wx {α:Type} {l:List α} (h:l.length=1):∃a,l=[a]:=by
 match l,h with
 |[a],_=>exact ⟨a,rfl⟩
theorem TN {α:Type} {l:List α} (h:l.length=2):∃a b,l=[a,b]:=by
 match l,h with
 |[a,b],_=>exact ⟨a,b,rfl⟩
theorem hJ {α:Type} {l:List α} (h:l.length=3):∃a b c,l=[a,b,c]:=by
 match l,h with
 |[a,b,c],_=>exact ⟨a,b,c,rfl⟩
theorem qK (o:Int) (n:Str) (u:Int) (ns:List Str) (ks:List Ex) (al:List Al) (hn:HT o n u ns ks.length al=true) (hk:∀x∈ks,FH (BA x) (tkE x)) (ha:∀x∈al,FH (NJ x) (tkA x)):FH (BA (.mk o n u ns ks al)) (tkE (.mk o n u ns ks al)):=by
 simp only [HT,AN] at hn
 obtain ⟨⟨⟨⟨hnm,hnu⟩,hns⟩,has⟩,hnk⟩:=hn
 rw [BA,tkE,Mo,N8,Vm,N7]
 have hl:=VQ BA tkE ks hk
 have ho:=Ss BA tkE ks hk
 rcases kH hnk with rfl|rfl|rfl|rfl|rfl|rfl|rfl|rfl|rfl|rfl|rfl|rfl|rfl|rfl|rfl|rfl|rfl
 · exact (qJ.a qN).s
 · show FH (if u=1 then [116,114,117,101] else [102,97,108,115,101]) (if u=1 then [(4,[116,114,117,101])] else [(4,[102,97,108,115,101])])
   split
   · exact US (by decide)
   · exact US (by decide)
 · simp [nuB] at hnu
   exact eH hnu.1 hnu.2
 · have:ks=[]:=by simpa [nkB] using hnk
   subst this
   show FH (n++[]) [(1,n)]
   rw [AZ]
   exact NW (by simpa [nmB] using hnm)
 · exact hl.s
 · exact (PJ (by simpa [nmB] using hnm)).ss (by have:=N6 (ks.map BA) (r:=[]) rfl;rwa [AZ] at this) ho.s
 · obtain ⟨a,b,rfl⟩:=TN (by simpa [nkB] using hnk)
   exact (QQ (s:=[108,101,116]) (by decide)).ss ((Vw (by simpa [nmB] using hnm)).ss rfl (bQ.ss ((hk a (by simp)).ss rfl ((Vv (s:=[105,110]) (by decide)).ss (hk b (by simp))))))
 · obtain ⟨a,b,rfl⟩:=TN (by simpa [nkB] using hnk)
   simp only [nsB,if_true,AN] at hns
   exact (QQ (s:=[108,101,116]) (by decide)).ss ((Ss shown shK ns (Za hns.2)).ss (bQ.ss ((hk a (by simp)).ss rfl ((Vv (s:=[105,110]) (by decide)).ss (hk b (by simp))))))
 · obtain ⟨a,b,c,rfl⟩:=hJ (by simpa [nkB] using hnk)
   exact (QQ (s:=[105,102]) (by decide)).ss ((hk a (by simp)).ss rfl ((Vv (s:=[116,104,101,110]) (by decide)).ss ((hk b (by simp)).ss rfl ((Vv (s:=[101,108,115,101]) (by decide)).ss (hk c (by simp))))))
 · obtain ⟨a,rfl⟩:=Wx (by simpa [nkB] using hnk)
   have hj:=VP (sep:=[32,124,32]) (ks:=[(5,[124])]) (I5.a ((Jd [124] (by decide) (by decide)).a I5)) rfl (by decide) NJ tkA al ha
   exact (QQ (s:=[109,97,116,99,104]) (by decide)).ss ((hk a (by simp)).ss rfl ((Vv (s:=[119,105,116,104]) (by decide)).ss (hj.ss rfl (kB (s:=[101,110,100]) (by decide)))))
 · obtain ⟨a,rfl⟩:=Wx (by simpa [nkB] using hnk)
   simp [nsB] at hns
   have hp:=VQ id (fun s=>[(1,s)]) ns (fun s hs=>NW (hns.2 s hs))
   rw [List.map_id] at hp
   exact (US (s:=[102,110]) (by decide)).ss rfl (hp.ss (Sr.ss (hk a (by simp))))
 · cases ks with
   |nil=>simp [nkB] at hnk
   |cons f l=>
    have hl2:=VQ BA tkE l (fun x hx=>hk x (Ah _ hx))
    have hf:=hk f (Ad ..)
    show FH ((if Ms f then J7 (BA f) else pl 4 f (BA f))++Iz (l.map BA)) ((if Ms f then ID (tkE f) else plK 4 f (tkE f))++Lv (l.map tkE))
    refine FH.ss ?_ rfl hl2.s
    split
    · exact (VS hf).s
    · exact hP hf
 · obtain ⟨a,b,rfl⟩:=TN (by simpa [nkB] using hnk)
   simp [nuB] at hnu
   exact (hP (hk a (by simp))).ss rfl (I5.ss ((yI hnu.1 hnu.2).ss rfl (I5.ss (hP (hk b (by simp))))))
 · exact (qL (u:=u)).ss rfl hl.s
 · simp [nuB] at hnu
   exact (US (s:=[116,105,99,107]) (by decide)).ss rfl (VS (eH (by omega) (by omega))).s
 · exact (US (s:=[114,97,105,115,101]) (by decide)).ss rfl hl.s
 · obtain ⟨a,b,rfl⟩:=TN (by simpa [nkB] using hnk)
   exact (QQ (s:=[116,114,121]) (by decide)).ss ((hk a (by simp)).ss rfl ((Vv (s:=[99,97,116,99,104]) (by decide)).ss ((Vw (by simpa [nmB] using hnm)).ss rfl (Sr.ss ((hk b (by simp)).ss rfl (kB (s:=[101,110,100]) (by decide)))))))
theorem fZ {o:Int} {al:List Al} (h:asB o al=true):∀a∈al,Tz a=true:=fun a ha=>by
 unfold asB at h
 split at h
 · simp only [AN,A5] at h;exact h.2 a ha
 · have:al=[]:=by simpa using h
   rw [this] at ha;cases ha
mutual
theorem hO:∀(e:Ex),e.nb→FH (BA e) (tkE e)
 | .mk o n u ns ks al,h=>by
  rw [Ex.nb] at h
  have h4:=h.1
  simp only [HT,AN] at h4
  exact qK o n u ns ks al h.1 (kC ks h.2.1) (j9 al h.2.2 (fZ h4.1.2))
theorem kC:∀(l:List Ex),Ex.nbs l→∀x∈l,FH (BA x) (tkE x)
 |[],_,x,hx=>by cases hx
 |k::l,h,x,hx=>by
  rw [Ex.nbs] at h
  have h1:=hO k h.1
  have h2:=kC l h.2
  rcases CN.1 hx with rfl|hx
  · exact h1
  · exact h2 x hx
theorem yG:∀(a:Al),a.nb→Tz a=true→FH (NJ a) (tkA a)
 | .mk c vs b,h,ha=>by
  rw [Al.nb] at h
  simp only [Tz,AN] at ha
  rw [NJ,tkA]
  exact (PJ ha.1.1).ss (N6 _ rfl) ((Ss shown shK vs (Za ha.2)).ss (Sr.ss (hO b h)))
theorem j9:∀(l:List Al),Al.nbs l→(∀a∈l,Tz a=true)→∀x∈l,FH (NJ x) (tkA x)
 |[],_,_,x,hx=>by cases hx
 |k::l,h,ha,x,hx=>by
  rw [Al.nbs] at h
  have h1:=yG k h.1 (ha _ (Ad ..))
  have h2:=j9 l h.2 (fun a h=>ha a (Ah _ h))
  rcases CN.1 hx with rfl|hx
  · exact h1
  · exact h2 x hx
end
def tkC (c:CE):List KT:=(2,c.name)::VW (c.args.map IH)
def tkD (d:DE):List KT:=(4,[100,97,116,97])::(2,d.name)::(VW (d.vars.map fun s=>[(1,s)])++((5,[61])::([(5,[124])].intercalate (d.cons.map tkC)++[(5,[59])])))
def tkF (f:FE):List KT:=(4,[102,117,110])::(1,f.name)::(Lv (f.params.map fun s=>[(1,s)])++((5,[61])::(tkE f.body++[(5,[59])])))
def tkP (p:Pg):List KT:=(p.data.map tkD).flatten++(p.Ru.map tkF).flatten
theorem eI:Gb [59,10] [(5,[59])]:=(Jd [59] (by decide) (by decide)).a yH
theorem tY {c:CE} (h:Wo c=true):FH (fmtC c) (tkC c):=by
 simp only [Wo,AN,A5] at h
 exact (PJ h.1.1).ss (by have:=N6 (c.args.map Ct) (r:=[]) rfl;rwa [AZ] at this) (Ss Ct IH c.args (fun t ht=>qO 40 t (h.2 t ht))).s
theorem qI {d:DE} (h:KG d=true):Gb (UI d) (tkD d):=by
 simp only [KG,AN,A5] at h
 obtain ⟨⟨⟨⟨⟨h1,h2⟩,h3⟩,h4⟩,h5⟩,h6⟩:=h
 have hp:=Ss id (fun s=>[(1,s)]) d.vars (fun s hs=>NW (h3 s hs))
 rw [List.map_id] at hp
 have hj:=VP (sep:=[32,124,32]) (ks:=[(5,[124])]) (I5.a ((Jd [124] (by decide) (by decide)).a I5)) rfl (by decide) fmtC tkC d.cons (fun c hc=>tY (h6 c hc))
 exact (QQ (s:=[100,97,116,97]) (by decide)).a ((PJ h1).a (N6 _ rfl) (by simp) (hp.a (bQ.a (hj.a rfl (by decide) eI))))
theorem tZ {f:FE} (h:OF f=true) (hb:f.body.nb):Gb (Vn f) (tkF f):=by
 simp only [OF,AN,A5] at h
 have hp:=VQ id (fun s=>[(1,s)]) f.params (fun s hs=>NW (h.2 s hs))
 rw [List.map_id] at hp
 exact (QQ (s:=[102,117,110]) (by decide)).a ((NW h.1.1).a rfl (by simp [Iz,J7]) (hp.a (bQ.a ((hO _ hb).a rfl (by decide) eI))))
theorem YL {α:Type} (f:α→Str) (g:α→List KT):∀l:List α,(∀x∈l,Gb (f x) (g x))→Gb (l.map f).flatten (l.map g).flatten
 |[],_=>Gb.nil
 |x::l,h=>(h x (Ad ..)).a (YL f g l (fun y hy=>h y (Ah _ hy)))
theorem fJ {p:Pg} (h:Fu p=true):(∀d∈p.data,KG d=true)∧∀f∈p.Ru,OF f=true∧f.body.nb:=by
 simp only [Fu,AN,A5] at h
 obtain ⟨r,hr⟩:=Wk.1 h.2
 refine ⟨h.1.2,Ot p.Ru 600 r (fun f _ a b hab=>?_) hr⟩
 unfold ZA at hab
 split at hab
 · rename_i hh;exact ⟨hh,cQ 40 a f.body b hab⟩
 · cases hab
theorem qM {p:Pg} (h:Fu p=true):Gb (ZP p) (tkP p):=by
 obtain ⟨h1,h2⟩:=fJ h
 exact (YL UI tkD p.data (fun d hd=>qI (h1 d hd))).a (YL Vn tkF p.Ru (fun f hf=>tZ (h2 f hf).1 (h2 f hf).2))
theorem nU {s:Str} {ks:List KT} (h:Gb s ks) (hl:s.length≤16384):(BR s).2.2=0∧strip (BR s).1=ks++[(6,[])]:=by
 unfold BR
 rw [if_neg (by omega)]
 obtain ⟨n,i,acc,e1,e2,e3⟩:=h [] (s.length+1) 0 [] (by simp)
 rw [AZ] at e3
 rw [e3]
 cases n with
 |zero=>simp at e2
 |succ n=>
  rw [E5]
  refine ⟨rfl,?_⟩
  show strip (acc++[⟨6,[],i⟩])=_
  rw [strip,Bn]
  rw [strip] at e1
  rw [e1];rfl
end Go.Ab
