/- Part Oz. Conditions: none. -/
import Derived.Test.YtfppaadffckcoaaGreatRows
import Derived.Test.YtfppaadffckcoaaGreatXOu0
set_option linter.unusedSimpArgs false
set_option linter.unusedVariables false
set_option maxRecDepth 100000
set_option maxHeartbeats 40000000
open Go.Proofs.Tryz renaming prog→Tzp
open List renaming mem_of_getElem?→AD,flatten_append→Ny,take_append_drop→Ac,nodup_append→Gc,mem_append→AY,take_length→BM,drop_length→NM,cons_append→AX,replicate→AE,replicate_succ→BV,flatten_cons→BK,nil_append→Aj,map_cons→AG,length_cons→A0,take_succ_cons→C3,take_zero→C7,drop_succ_cons→FD,drop_zero→Re,all_cons→Bf,getElem?_eq_some_iff→AF,length_map→AA,getElem?_cons_zero→Av,all_eq_true→Aq,getElem?_map→Ao,getD_eq_getElem?_getD→A6,getElem?_of_mem→II,mem_cons_self→AW,mem_cons_of_mem→AU,foldl_cons→An,getElem?_set→BZ,mem_range→Bz,range→Au,find?_eq_none→P2,mem_filter→XC,length_filter_le→L3,mem_cons→As,length_replicate→UM,map_nil→AN,take_of_length_le→AO,contains_iff_mem→Ai,getElem?_take→B3,all_nil→Fq,map_append→B2,append_assoc→B4,mem_append_left→VG,flatMap_cons→DD,length_append→A1,length_take→Bi,mem_of_mem_take→DP,nodup_cons→XE,eq_nil_of_length_eq_zero→Ay,append_nil→BX,getElem?_append_right→At,length_singleton→C1,mem_singleton→A3,mem_map→Ck,getElem?_eq_none→BY,drop_of_length_le→HG
open Nat renaming le_trans→Ah,le_refl→AR,strongRecOn→FT,lt_or_ge→Cl,succ_mul→NN,mul_le_mul_right→Bp,min_eq_left→Gg,zero_add→BU,reduceEqDiff→HS
open Ne renaming symm→A5
open Bool renaming and_eq_true→AQ,eq_iff_iff→Ax,not_eq_true'→Bl,eq_false_iff→C9,or_false→L2,or_eq_false_iff→IH,false_or→ED,false_and→DO,and_false→CG,not_false→JI,true_and→BW,and_true→Be,false_eq_true→AZ,true_or→NK,and_self→L1
open Option renaming isSome_iff_exists→dV,map_eq_some_iff→AL,isSome_some→Cn,isSome_none→Cm
open Except renaming map→CW
open Except.ok renaming injEq→EH
open Option.some renaming injEq→AK
open Int renaming toNat_natCast→Ca,reduceBEq→Aa,eq_ofNat_of_zero_le→E4
namespace Go.Ab
open Go.Proofs
theorem dW.Ia {fs:List FE} {dt:List Dat} {r r':HQ} {f:Nat} (h:dW fs dt r f) (e:r'.1[f]?=r.1[f]?/\r'.2[f]?=r.2[f]?):dW fs dt r' f:=by
 obtain ⟨l,d,G,en,pl,rf,h1,h2,h3,h4,h5,h6⟩:=h;exact ⟨l,d,G,en,pl,rf,h1,h2,h3,by rw [e.1];exact h4,by rw [e.2];exact h5,h6⟩
theorem yG (fs:List FE) (ds:List DE) (dt:List Dat) (hF:PF fs dt) (gs:List (List Nat)) (hgl:gs.length<=1000) (hne:∀ms∈gs,ms≠[]) (hnd:gs.flatten.Nodup) (hm:∀f∈gs.flatten,f < fs.length) (σ0:AH) (js jn:Nat) (r0:HQ) (τ:AH) (hH:HI dt σ0 τ fs.length js jn r0) (Q:AV->AH->Prop) (k:List CI)
 (hbad:∀(e:Int) (m:Nat) τ' k',GJ fs dt gs r0= .error (e,m)->σ0.le τ'->Run Bd Q (.code .ret::k') (put 2 (.lp 2 0) (put 3 (.lp 3 0) U)) (Ar 2 [.Af,.Af] (Ar 3 [.d (.int .i64 e),.d (.int .i64 (m:Int)),.d (.int .i64 0)] E)) τ')
 (hk:∀r τ' a40 a41 a42,GJ fs dt gs r0= .ok r->HI dt σ0 τ' fs.length js jn r->(∀f∈gs.flatten,dW fs dt r f)->
   Run Bd Q k (put 1 (.lp 1 0) (put 2 (.lp 2 0) (put 3 (.lp 3 0) (put 5 (dsA dt) (put 7 (.lp 7 0) (put 40 (.d a40) (put 41 (.d a41) (put 42 (.d a42) U)))))))) (LI (.sl (ds.map DE.enc)) (.sl (fs.map FE.enc)) js jn fs.length) τ'):
 Run Bd Q (.code (.loop Ht)::.blk 0::k) (put 1 (.lp 1 0) (put 2 (.lp 2 0) (put 3 (.lp 3 0) (put 5 (dsA dt) (put 7 (.lp 7 0) (put 40 (Og gs) (put 41 (.d (.int .i64 gs.length)) (put 42 (.d (.int .i64 0)) U)))))))) (LI (.sl (ds.map DE.enc)) (.sl (fs.map FE.enc)) js jn fs.length) τ:=by
 rw [Og,dsA] at *;refine Run.BB ?_
 refine Run.BG ((fun (a1:AV) (a2:AV) (a3:AV) (a5:AV) (a7:AV) (a40:AV) (a41:AV)=>fun (z:Nat×AH)=>put 1 a1 (put 2 a2 (put 3 a3 (put 5 a5 (put 7 a7 (put 40 a40 (put 41 a41 (put 42 (.d (.int .i64 z.1)) U)))))))) _ _ _ _ _ _ _) (fun _=>LI (.sl (ds.map DE.enc)) (.sl (fs.map FE.enc)) js jn fs.length) (fun z=>z.2)
  (fun z=>z.1<=gs.length/\∃r,GJ fs dt gs r0=GJ fs dt (gs.drop z.1) r/\HI dt σ0 z.2 fs.length js jn r/\∀f∈(gs.take z.1).flatten,dW fs dt r f)
  (fun z=>gs.length - z.1) ?_ (0,τ) ⟨by simp,r0,by simp,hH,by simp⟩
 clear hH;rintro ⟨p,τ1⟩ ⟨hp,r,hgo,hH,hty⟩ ih;simp only at hp hgo hH hty;by_cases hlt:p < gs.length
 . obtain ⟨ms,hms⟩:=Ak hlt;have hmr:=AEO hms;have hmm:=AD hms;have hw1:=A7 (show p+1<=9000000000000000000 by omega);have hdr:=Bv hms;rw [hdr] at hgo;have hfl:∀f∈ms,f∈gs.flatten:=fun f hf=>List.mem_flatten.2 ⟨ms,hmm,hf⟩;have hsp:(gs.take (p+1)).flatten=(gs.take p).flatten++ms:=by rw [Ae hms,Ny];simp
   have hnd2:((gs.take p).flatten++ms).Nodup:=by
    rw [<- hsp];have h1:=hnd;rw [<- Ac (p+1) gs,Ny] at h1;exact (Gc.1 h1).1
   have hmsn:ms.Nodup:=(Gc.1 hnd2).2.1;have hdis:∀f∈(gs.take p).flatten,f ∉ ms:=fun f h1 h2=>(Gc.1 hnd2).2.2 f h1 f h2 rfl;have hpar:∀f∈fs,f.params.length<=1000:=fun f hf=>by have:=hF.pr f hf;omega
   have hlf:=hF.lf;have hml:=WI hmsn (fun f hf=>hm f (hfl f hf));have hnew:=uJ τ1 fs ds dt js fs.length ms (by omega) (fun f hf=>hm f (hfl f hf)) (by omega) hpar;rw [dsA] at hnew;(repeat' (first|refine ctQ rfl ?_|((first|refine rgQ mxQ ?_|refine cdQ ?_|(refine A9 rfl (fun h=>?_) (fun h=>?_)<;>try (cases h;done)))<;>try simp only [Ag hlt,hmr,go_sem])|(refine ⟨fun h=>?_,fun h=>?_⟩<;>first|(cases h;done)|try simp only [h])|fail));refine AJ.mk rfl hnew ?_;rintro _ τ2 ⟨i,jm,jp,jr,je,j,τ3,rfl,hNG,rfl⟩;simp only [go_sem];refine AC4 fs ds dt hF ms (hne ms hmm) hmsn (fun f hf=>hm f (hfl f hf)) σ0 js jn r τ1 hH Q _ _ _ _ (fun e m τ' k' he hle=>hbad e m τ' k' (by rw [hgo,GJ,he]) hle) (fun r' τ' htg hH' hty' hrest=>?_) _ i jm jp jr je j τ3 hNG rfl;rw [dsA];(repeat' (refine wQ mxQ rfl ?_<;>try simp only [hw1,go_sem]));refine ih ⟨p+1,τ'⟩ ⟨hlt,r',by rw [hgo,GJ,htg],hH',fun f hf=>?_⟩ (by simp only;omega);rw [hsp] at hf;rcases AY.1 hf with hf|hf
   . exact (hty f hf).Ia (hrest f (hdis f hf))
   . exact hty' f hf
 . have hpe:p=gs.length:=by omega
   subst hpe;rw [BM] at hty;rw [NM,GJ] at hgo;(repeat' (refine wQ mxQ rfl ?_<;>try simp only [Bk hlt,go_sem]));refine Run.NC [1,2,3,5,7,40,41,42] ?_;have:=hk r τ1 (.sl (gs.map fun r=>[DV.sl (r.map CC)])) (.int .i64 gs.length) (.int .i64 gs.length) hgo hH hty;simp only [go_sem];exact this
theorem Yp:∀a b:List AV,AV.CX (a++b)=AV.CX a++AV.CX b
 |[],b=>by simp [AV.CX]
 |x::a,b=>by rw [AX,AV.CX,AV.CX,Yp a b];rfl
theorem o6 (s:Sch) (l:List Sch):Tw (s::l)=s.row++Tw l:=HA _ _ _
theorem AER (n:Nat):AV.CX (AE n [AV.d (.int .i64 0),.Af,.d (.int .i64 0),.d (.int .i64 0),.Af]).flatten=Tw (AE n cO):=by
 induction n with
 |zero=>rfl
 |succ n ih=>rw [BV,BK,Yp,ih,BV,o6];simp [AV.CX,Jh,KC,Sch.row,cO,Ty.kind,Ty.num,Ty.args]
theorem AHO (n:Nat):AV.CX (AE n [AV.Af]).flatten=ntC (AE n []):=by
 induction n with
 |zero=>rfl
 |succ n ih=>rw [BV,BK,Yp,ih,BV];simp [AV.CX,KC,ntC,ntR]
def NF (s:Sch):List DV:=[.int .i64 s.vars,.sl (s.params.map Ty.enc),.int .i64 s.res.kind,.int .i64 s.res.num,.sl (s.res.args.map Ty.enc)]
def eZ (l:List Nt):List DV:=[.sl (l.map PE)]
theorem AAR:∀l:List Sch,dvs (Tw l)=some (l.map NF).flatten
 |[]=>rfl
 |s::l=>by
  have:=AAR l;rw [o6];simp only [Sch.row,AX,Aj,dvs,ANG,this,AG,BK,NF];rfl
theorem AF8:∀l:List (List Nt),dvs (ntC l)=some (l.map fun x=>DV.sl (x.map PE))
 |[]=>rfl
 |s::l=>by
  have:=AF8 l;simp only [ntC,AG] at this ⊢;simp only [ntR,dvs,ANG,this];rfl
theorem nT:∀l:List Sch,chunk 5 l.length (l.map NF).flatten=l.map NF
 |[]=>rfl
 |s::l=>by
  have:=nT l;simp only [A0,chunk,AG,BK];rw [show ((NF s)++(l.map NF).flatten).take 5=NF s from rfl,show ((NF s)++(l.map NF).flatten).drop 5=(l.map NF).flatten from rfl,this]
theorem sV:∀l:List (List Nt),chunk 1 l.length (l.map fun x=>DV.sl (x.map PE))=l.map eZ
 |[]=>rfl
 |s::l=>by
  have:=sV l;simp only [A0,chunk,AG,C3,C7,FD,Re,this];rfl
def T0:Except Dg HQ->AV
 | .error d=>.tup [.agg [.d (.sl []),.d (.sl [])],.agg [.d (.int .i64 d.1),.d (.int .i64 d.2.1),.d (.int .i64 d.2.2)]]
 | .ok r=>.tup [.agg [.d (.sl (r.1.map NF)),.d (.sl (r.2.map eZ))],.agg [.d (.int .i64 0),.d (.int .i64 0),.d (.int .i64 0)]]
theorem AC6 {dt:List Dat} {σ τ:AH} {n js jn:Nat} {r:HQ} (h:HI dt σ τ n js jn r) (hn:n<=24) (Q:AV->AH->Prop) (k:List CI) (hQ:Q (T0 (.ok r)) σ):
 Run Bd Q (.code .ret::k) (put 2 (.lp 2 0) (put 3 (.lp 3 0) U)) (Ar 2 [.ms js n 5 eSs,.ms jn n 1 eNn] (Ar 3 [.d (.int .i64 0),.d (.int .i64 0),.d (.int .i64 0)] E)) τ:=by
 have hl1:=h.l1;have hl2:=h.l2;refine Run.freeze (i:=js) (n:=n) (size:=5) (cs:=Tw r.1) (ds:=(r.1.map NF).flatten) (σ':=τ.EI js) (L':=Ar 2 [.d (.sl (r.1.map NF)),.ms jn n 1 eNn] (Ar 3 [.d (.int .i64 0),.d (.int .i64 0),.d (.int .i64 0)] E)) (F':=put 2 (.lp 2 0) (put 3 (.lp 3 0) U)) h.b1 (AAR r.1) (by rw [OU Sch.row 5 Sch.F9,hl1]) (Ah hn (show (24:Nat)<=maxLen by decide+kernel)) (fun s=>.inl rfl) (fun q cs' hq=>?_) (fun j cs' hj=>?_) (fun t ht=>ht) ?_
 . by_cases e:q=2
   . subst e;refine ⟨_,rfl,.inr ?_⟩;have hq:some [AV.d (.sl (r.1.map NF)),.ms jn n 1 eNn]=some cs':=hq;cases hq;have hc:chunk 5 n (r.1.map NF).flatten=r.1.map NF:=by rw [<- hl1];exact nT r.1
     simp only [SC,frz,hc,and_self,if_true,A5 h.ne,false_and,if_false]
   . refine ⟨cs',?_,.inl rfl⟩;simp only [Ar,if_neg e] at hq ⊢;exact hq
 . rw [D8] at hj;split at hj
   . cases hj
   . rename_i e;exact ⟨e,cs',hj,.inl rfl⟩
 refine Run.freeze (i:=jn) (n:=n) (size:=1) (cs:=ntC r.2) (ds:=r.2.map fun x=>DV.sl (x.map PE)) (σ':= { τ with blk:=fun j=>if (σ.blk j).isSome then τ.blk j else none}) (L':=Ar 2 [.d (.sl (r.1.map NF)),.d (.sl (r.2.map eZ))] (Ar 3 [.d (.int .i64 0),.d (.int .i64 0),.d (.int .i64 0)] E)) (F':=put 2 (.lp 2 0) (put 3 (.lp 3 0) U)) (by rw [D8,if_neg (A5 h.ne)];exact h.b2) (AF8 r.2) (by simp [ntC,hl2]) (Ah hn (show (24:Nat)<=maxLen by decide+kernel)) (fun s=>.inl rfl) (fun q cs' hq=>?_) (fun j cs' hj=>?_) (fun t ht=>ht) ?_
 . by_cases e:q=2
   . subst e;refine ⟨_,rfl,.inr ?_⟩;have hq:some [AV.d (.sl (r.1.map NF)),.d (.sl (r.2.map eZ))]=some cs':=hq;cases hq;have hc:chunk 1 n (r.2.map fun x=>DV.sl (x.map PE))=r.2.map eZ:=by rw [<- hl2];exact sV r.2
     simp only [SC,frz,hc,and_self,if_true]
   . refine ⟨cs',?_,.inl rfl⟩;simp only [Ar,if_neg e] at hq ⊢;exact hq
 . simp only at hj;cases hs:σ.blk j with
   |none=>rw [hs] at hj;cases hj
   |some c=>
    rw [hs] at hj;refine ⟨fun e=>(by rw [e,h.j2] at hs;cases hs),cs',?_,.inl rfl⟩;rw [D8,if_neg (fun e=>by rw [e,h.j1] at hs;cases hs)];exact hj
 . refine Run.CK Kw (σ2:=σ) (yS h.mo.le) ?_;simp only [Ji,go_sem];exact hQ
end Go.Ab
namespace Go.Ab
theorem AI5 {p:Pg} (h:Es p=true):∀f∈p.G7,∀sc x,x∈Cu f.body sc->nb1 x.1:=by
 simp only [Es,AQ,decide_eq_true_eq] at h;obtain ⟨⟨⟨_,_⟩,_⟩,h2⟩:=h;obtain ⟨r,hr⟩:=dV.1 h2;exact fun f hf sc x hx=>((TR _ _ _ hr f hf).2.2 sc x hx).1
theorem HU {ε α β:Type} {f:α->β} {x:Except ε α} {y:β} (h:x.map f= .ok y):∃z,x= .ok z/\y=f z:=by
 cases x with
 |error e=>cases h
 |ok z=>simp only [CW,EH] at h;exact ⟨z,rfl,h.symm⟩
def HdD (dt:List Dat) (ds:List (Str×Nat)):Prop:=∀i,i < ds.length->∃D,dt[i]?=some D/\D.vars=((ds.getD i ([],0)).2:Int)
theorem ABI {dt:List Dat} {ds:List (Str×Nat)} (hh:HdD dt ds) (vars:List Str):∀(d:Nat) (t:TE) (whole:Bool) (u:Ty),DL d t=true->JF ds vars whole t= .ok u->u.sh dt/\UA vars.length u=true/\u.size=t.size
 |0,t,whole,u,h,_=>by simp [DL] at h
 |d+1,.mk k n l,whole,u,h,hr=>by
  rw [DL,AQ] at h;obtain ⟨hs,hl⟩:=h
  have hls:∀(l:List TE) (us:List Ty),l.all (DL d)=true->Cv ds vars l= .ok us->us.length=l.length/\Ty.shs dt us/\LP vars.length us=true/\Ty.AT us=TE.AT l:=by
   intro l
   induction l with
   |nil=>
    intro us _ hr;rw [Cv] at hr;cases hr;exact ⟨rfl,by rw [Ty.shs];trivial,rfl,rfl⟩
   |cons t l ih=>
    intro us hv hr;rw [Bf,AQ] at hv;rw [Cv] at hr;cases h1:JF ds vars false t with
    |error e=>rw [h1] at hr;cases hr
    |ok u1=>
     rw [h1] at hr;obtain ⟨us',h2,rfl⟩:=HU hr;obtain ⟨a,b,c,e⟩:=ih us' hv.2 h2;obtain ⟨x,y,z⟩:=ABI hh vars d t false u1 hv.1 h1;exact ⟨by simp [a],by rw [Ty.shs];exact ⟨x,b⟩,by rw [LP,y,c];rfl,by rw [Ty.AT,TE.AT,z,e]⟩
  rw [JF] at hr;unfold aC at hs;by_cases h4:k=4
  . subst h4;rw [if_pos rfl] at hr;cases hi:DK vars n with
    |none=>rw [hi] at hr;cases hr
    |some i=>
     rw [hi] at hr;obtain ⟨us,h1,rfl⟩:=HU hr;obtain ⟨a,b,c,e⟩:=hls l us hl h1;have:=(fun h=>(AF.1 (O4 h)).1) hi;refine ⟨by rw [Ty.sh];exact ⟨.inl rfl,b⟩,by rw [UA,if_pos rfl];simp;omega,by rw [Ty.size,TE.size,e]⟩
  . rw [if_neg h4] at hr;by_cases h5:k=5
    . subst h5;rw [if_pos rfl] at hr;cases hi:DK (ds.map (·.1)) n with
      |none=>rw [hi] at hr;cases hr
      |some i=>
       rw [hi] at hr;simp only at hr;split at hr
       . cases hr
       . rename_i hla;split at hr
         . cases hr
         . obtain ⟨us,h1,rfl⟩:=HU hr;obtain ⟨a,b,c,e⟩:=hls l us hl h1;have hil:=(fun h=>(AF.1 (O4 h)).1) hi;rw [AA] at hil;obtain ⟨D,hD,hv⟩:=hh i hil;have hla:l.length=(ds.getD i ([],0)).2:=by simpa using hla
           have hus:(us.length:Int)=D.vars:=by rw [a,hv,hla]
           exact ⟨by rw [Ty.sh];exact ⟨.inr (.inr (.inl ⟨rfl,D,by omega,by simpa using hD,hus⟩)),b⟩,by rw [UA,if_neg (by decide)];exact c,by rw [Ty.size,TE.size,e]⟩
    . rw [if_neg h5] at hr;obtain ⟨us,h1,rfl⟩:=HU hr;obtain ⟨a,b,c,e⟩:=hls l us hl h1;refine ⟨?_,by rw [UA,if_neg h4];exact c,by rw [Ty.size,TE.size,e]⟩;rw [Ty.sh];refine ⟨.inr ?_,b⟩;rw [a];by_cases h1:k=1\/k=2\/k=3
      . rw [if_pos h1,AQ,decide_eq_true_eq] at hs;exact .inl ⟨by omega,rfl,hs.2⟩
      . rw [if_neg h1,if_neg h4,if_neg h5] at hs;by_cases h6:k=6
        . rw [if_pos h6] at hs;simp only [AQ,decide_eq_true_eq] at hs;exact .inr (.inr (.inl ⟨h6,rfl,hs.1.2,hs.2⟩))
        . rw [if_neg h6] at hs;by_cases h7:k=7\/k=8
          . rw [if_pos h7,AQ,decide_eq_true_eq] at hs;exact .inr (.inr (.inr (.inl ⟨h7,rfl,hs.2⟩)))
          . rw [if_neg h7] at hs;by_cases h9:k=9
            . rw [if_pos h9] at hs;simp only [AQ,decide_eq_true_eq] at hs;exact .inr (.inr (.inr (.inr ⟨h9,rfl,hs.1.2,hs.2⟩)))
            . rw [if_neg h9] at hs;cases hs
def AMH (dt:List Dat) (n:Nat) (c:CE) (x:Con):Prop:=x.name=c.name/\Ty.shs dt x.args/\LP n x.args=true/\Ty.AT x.args=TE.AT c.args/\x.args.length=c.args.length
theorem sH {dt:List Dat} {ds:List (Str×Nat)} (hh:HdD dt ds) (vars:List Str):∀(l:List TE) (us:List Ty),l.all (DL 40)=true->Dp ds vars l= .ok us->Ty.shs dt us/\LP vars.length us=true/\Ty.AT us=TE.AT l/\us.length=l.length
 |[],us,_,h=>by rw [Dp] at h;cases h;exact ⟨by rw [Ty.shs];trivial,rfl,rfl,rfl⟩
 |t::l,us,hv,h=>by
  rw [Bf,AQ] at hv;rw [Dp] at h;cases h1:JF ds vars true t with
  |error e=>rw [h1] at h;cases h
  |ok u=>
   rw [h1] at h;obtain ⟨us',h2,rfl⟩:=HU h;obtain ⟨a,b,c,e⟩:=sH hh vars l us' hv.2 h2;obtain ⟨x,y,z⟩:=ABI hh vars 40 t true u hv.1 h1;exact ⟨by rw [Ty.shs];exact ⟨x,a⟩,by rw [LP,y,b];rfl,by rw [Ty.AT,TE.AT,z,c],by simp [e]⟩
theorem sY {dt:List Dat} {ds:List (Str×Nat)} (hh:HdD dt ds) (vars:List Str):∀(l:List CE) (used:List Str) (xs:List Con),l.all eK=true->FX ds vars used l= .ok xs->xs.length=l.length/\∀(i:Nat) (x:Con),xs[i]?=some x->∃c,l[i]?=some c/\AMH dt vars.length c x
 |[],used,xs,_,h=>by rw [FX] at h;cases h;exact ⟨rfl,fun i x hx=>by simp at hx⟩
 |c::l,used,xs,hv,h=>by
  rw [Bf,AQ] at hv;rw [FX] at h;split at h
  . cases h
  . cases h1:Dp ds vars c.args with
    |error e=>rw [h1] at h;cases h
    |ok us=>
     rw [h1] at h;obtain ⟨xs',h2,rfl⟩:=HU h;obtain ⟨a,b⟩:=sY hh vars l _ xs' hv.2 h2;have hc:=hv.1;simp only [eK,AQ] at hc;obtain ⟨x1,x2,x3,x4⟩:=sH hh vars c.args us hc.2 h1;refine ⟨by simp [a],fun i x hx=>?_⟩;cases i with
     |zero=>
      simp only [Av,AK] at hx;subst hx;exact ⟨c,rfl,rfl,x1,x2,x3,x4⟩
     |succ i=>exact b i x (by simpa using hx)
theorem c9:∀(l done:List DE) (xs:List Dat),DR done l= .ok xs->xs.length=l.length/\∀(i:Nat) (d:DE),l[i]?=some d->∃x,xs[i]?=some x/\x.vars=(d.vars.length:Int)/\Nb (CR (done++l.take i)) (K1 (done++l.take i)) d= .ok x
 |[],done,xs,h=>by rw [DR] at h;cases h;exact ⟨rfl,fun i d hd=>by simp at hd⟩
 |d::l,done,xs,h=>by
  rw [DR] at h;cases h1:Nb (CR done) (K1 done) d with
  |error e=>rw [h1] at h;cases h
  |ok x=>
   rw [h1] at h;obtain ⟨xs',h2,rfl⟩:=HU h;obtain ⟨a,b⟩:=c9 l (done++[d]) xs' h2
   have hv:x.vars=(d.vars.length:Int):=by
    unfold Nb at h1;split at h1
    . cases h1
    . obtain ⟨z,_,rfl⟩:=HU h1;rfl
   refine ⟨by simp [a],fun i e he=>?_⟩;cases i with
   |zero=>
    simp only [Av,AK] at he;subst he;exact ⟨x,rfl,hv,by simpa using h1⟩
   |succ i=>
    obtain ⟨y,g1,g2,g3⟩:=b i e (by simpa using he);exact ⟨y,by simpa using g1,g2,by simpa using g3⟩
theorem AM8 {p:Pg} {dt:List Dat} (hd:IL p= .ok dt):∀(i:Nat) (x:Dat),dt[i]?=some x->∃d,p.data[i]?=some d/\x.vars=(d.vars.length:Int)/\d.vars.length<=6/\x.cons.length=d.cons.length/\d.cons.length<=8/\∀(m:Nat) (c:Con),x.cons[m]?=some c->∃e,d.cons[m]?=some e/\AMH dt d.vars.length e c:=by
 obtain ⟨hv,hg⟩:=QL hd;obtain ⟨hl,hx⟩:=c9 _ _ _ hg
 have hdb:∀d∈p.data,Na d=true:=by
  simp only [Es,AQ] at hv;exact fun d hd=>Aq.1 hv.1.2 d hd
 have hheads:∀k,k<=p.data.length->HdD dt (CR (p.data.take k)):=fun k hk i hi=>by
  have hik:i < k:=by simp [CR] at hi;omega
  obtain ⟨d,hd⟩:=Ak (show i < p.data.length by omega);obtain ⟨x,h1,h2,_⟩:=hx i d hd;refine ⟨x,h1,?_⟩
  have:(CR (p.data.take k))[i]?=some (d.name,d.vars.length):=by
   rw [CR,Ao,List.getElem?_take_of_lt hik,hd];rfl
  simp [h2,A6,this]
 intro i x hxi;have hil:i < p.data.length:=by rw [<- hl];exact (AF.1 hxi).1
 obtain ⟨d,hd⟩:=Ak hil;obtain ⟨y,h1,h2,h3⟩:=hx i d hd;rw [hxi] at h1;cases h1;have hb:=hdb d (AD hd);simp only [Na,AQ,decide_eq_true_eq] at hb;unfold Nb at h3;split at h3
 . cases h3
 . obtain ⟨cs,h4,rfl⟩:=HU h3
   have hh:CR ([]++p.data.take i)++[(d.name,d.vars.length)]=CR (p.data.take (i+1)):=by
    rw [Ae hd];simp [CR]
   rw [hh] at h4;obtain ⟨a,b⟩:=sY (hheads (i+1) hil) d.vars d.cons _ cs hb.2 h4;exact ⟨d,hd,rfl,hb.1.1.1.1.2,a,hb.1.2,b⟩
def DSm (ds:List DE):Prop:=∀d∈ds,∀c∈d.cons,c.args.length<=10/\∀t∈c.args,t.size<=200
theorem Pg.sm.ds {p:Pg} (h:p.sm):DSm p.data:=fun d hd c hc=>⟨((h.1.2 d hd).2.2.2 c hc).2.1,fun t ht=>(((h.1.2 d hd).2.2.2 c hc).2.2 t ht).2⟩
theorem AMO {p:Pg} {dt:List Dat} (hc:(Oh p).1=0) (hd:IL p= .ok dt) (hsm:DSm p.data) (hz:Yx p.G7<=200):PF p.G7 dt:=by
 obtain ⟨hv,_⟩:=QL hd;obtain ⟨hl,hg⟩:=Yz hv
 have hcg:(QJ p.G7 dt 0 p.G7).1=0:=by
  unfold Oh at hc;rw [hd] at hc;exact hc
 have hdo:=AM8 hd;refine ⟨hl,fun f hf=>(hg f hf).2.1,hz,fun f fe hfe=>?_,fun d hdm=>?_,fun d hdm c hcm=>?_⟩
 . have hm:=AD hfe;exact ⟨fun x hx=>⟨bE (YX _ _ hcg fe hm) x hx,AI5 hv fe hm _ x hx⟩,(hg fe hm).1⟩
 . obtain ⟨i,hi⟩:=II hdm;obtain ⟨e,h1,h2,h3,h4,h5,h6⟩:=hdo i d hi;refine ⟨by omega,by omega,by omega,fun c hcm=>?_⟩;obtain ⟨m,hm⟩:=II hcm;obtain ⟨ce,g1,g2⟩:=h6 m c hm;refine ⟨by rw [h2,Ca];exact g2.2.2.1,?_⟩;rw [g2.2.2.2.1];have hsc:=hsm e (AD h1) ce (AD g1)
   have:∀l:List TE,(∀t∈l,t.size<=200)->TE.AT l<=l.length * 200:=by
    intro l
    induction l with
    |nil=>intro _;simp [TE.AT]
    |cons t l ih=>
     intro h;have:=h t (AW);have:=ih fun x hx=>h x (AU _ hx);rw [TE.AT,A0];omega
   have:=this ce.args hsc.2;have:=hsc.1;omega
 . obtain ⟨i,hi⟩:=II hdm;obtain ⟨e,h1,h2,h3,h4,h5,h6⟩:=hdo i d hi;obtain ⟨m,hm⟩:=II hcm;obtain ⟨ce,g1,g2⟩:=h6 m c hm;exact g2.2.1
end Go.Ab
namespace Go.Ab
theorem Zl {g:List (List Nat)} {a b:Nat}:HJ g a b=true↔Reach g a b/\Reach g b a:=by simp [HJ,WM]
theorem AD0 {g:List (List Nat)} {a b:Nat} (h:HJ g a b=true):HJ g b a=true:=by
 rw [Zl] at h ⊢;exact ⟨h.2,h.1⟩
theorem jO {g:List (List Nat)} {a b c:Nat} (h:HJ g a b=true) (k:HJ g b c=true):HJ g a c=true:=by
 rw [Zl] at h k ⊢;exact ⟨h.1.trans k.1,k.2.trans h.2⟩
def Cls (g:List (List Nat)) (ls:List Bool):Prop:=∀a b,a < g.length->b < g.length->HJ g a b=true->lsB ls a=lsB ls b
theorem Cls.start (g:List (List Nat)):Cls g (AE g.length false):=fun a b ha hb _=>by
 have h:∀k,k < g.length->lsB (AE g.length false) k=false:=fun k hk=>QU (by simp [hk]);rw [h a ha,h b hb]
theorem QV {g:List (List Nat)} {i:Nat} {ls:List Bool} {k:Nat} (hk:k < g.length):lsB (X5 g i ls) k=(lsB ls k||HJ g i k):=by
 have:=QU (PD g i ls g.length hk);rw [X5,this];simp [hk]
theorem Cls.mrk {g:List (List Nat)} {ls:List Bool} (h:Cls g ls) (i:Nat):Cls g (X5 g i ls):=fun a b ha hb hm=>by
 rw [QV ha,QV hb,h a b ha hb hm];congr 1;rw [Ax];exact ⟨fun k=>jO k hm,fun k=>jO k (AD0 hm)⟩
end Go.Ab
namespace Go.Ab
def vG (A:List Nat) (vs:List Nat) (n:Nat):List Nat:=vs.foldl (fun l v=>l.set v n) A
theorem vI:∀(vs A:List Nat) (n:Nat),(vG A vs n).length=A.length
 |[],_,_=>rfl
 |v::vs,A,n=>by rw [vG,An];exact (vI vs _ n).trans (by simp)
theorem vH:∀(vs A:List Nat) (n:Nat) {k:Nat},k < A.length->(vG A vs n).getD k 0=if k∈vs then n else A.getD k 0
 |[],A,n,k,_=>by simp [vG]
 |v::vs,A,n,k,hk=>by
  have:=vH vs (A.set v n) n (k:=k) (by simpa using hk);rw [vG,An];rw [vG] at this;rw [this];by_cases h2:k∈vs
  . simp [h2]
  . by_cases h1:k=v
    . subst h1;simp [h2,A6,hk]
    . have h3:¬v=k:=fun e=>h1 e.symm;simp [h1,h2,h3,A6,BZ]
structure pM (g:List (List Nat)) (ls:List Bool) (A:List Nat) (n:Nat):Prop where
 len:A.length=g.length
 lsl:ls.length=g.length
 nz:∀k,k < g.length->(A.getD k 0=0↔lsB ls k=false)
 le:∀k,k < g.length->A.getD k 0<=n
 cls:Cls g ls
 cl:∀a b,a < g.length->lsB ls a=true->Reach g a b->lsB ls b=true/\A.getD b 0<=A.getD a 0
theorem pM.start (g:List (List Nat)):pM g (AE g.length false) (AE g.length 0) 0:=by
 have h:∀k,k < g.length->lsB (AE g.length false) k=false:=fun k hk=>QU (by simp [hk]);have h2:∀k,k < g.length->(AE g.length 0).getD k 0=0:=fun k hk=>by simp [A6,hk]
 exact ⟨by simp,by simp,fun k hk=>by simp only [h k hk,h2 k hk],fun k hk=>by rw [h2 k hk];exact AR _,Cls.start g,fun a b ha h1=>by rw [h a ha] at h1;cases h1⟩
theorem Wn {g:List (List Nat)} {i k:Nat}:k∈Z6 g i↔k < g.length/\HJ g i k=true:=by simp [Z6]
theorem ACX (g:List (List Nat)) (i:Nat):(Z6 g i).Nodup:=List.Pairwise.filter _ List.nodup_range
theorem pM.new {g:List (List Nat)} {ls:List Bool} {A:List Nat} {n i k:Nat} (h:pM g ls A n) (hi:i < g.length) (hc:ZS g ls i=true) (hk:k∈Z6 g i):k < g.length/\A.getD k 0=0:=by
 rw [Wn] at hk;refine ⟨hk.1,(h.nz k hk.1).2 ?_⟩;rw [<- h.cls i k hi hk.1 hk.2];simp only [ZS,AQ,Bl] at hc;exact hc.1
theorem pM.next {g:List (List Nat)} (he:ZE g) {ls:List Bool} {A:List Nat} {n i:Nat} (h:pM g ls A n) (hi:i < g.length) (hc:ZS g ls i=true):pM g (X5 g i ls) (vG A (Z6 g i) (n+1)) (n+1):=by
 have hg:∀k,k < g.length->(vG A (Z6 g i) (n+1)).getD k 0=if k∈Z6 g i then n+1 else A.getD k 0:=fun k hk=>vH _ _ _ (by rw [h.len];exact hk)
 have hm:∀k,k < g.length->(k∈Z6 g i↔HJ g i k=true):=fun k hk=>by rw [Wn];exact ⟨fun x=>x.2,fun x=>⟨hk,x⟩⟩
 simp only [ZS,AQ,Bl] at hc
 have hrd:∀j,j < g.length->rB g i j=true->rB g j i=false->lsB ls j=true:=fun j hj h1 h2=>by
  have:=hc.2;rw [m8,Aq] at this;have:=this j (Bz.2 hj);rw [h1,h2] at this;simpa using this
 have hnew:∀k,k < g.length->HJ g i k=true->lsB ls k=false:=fun k hk hmk=>by rw [<- h.cls i k hi hk hmk];exact hc.1
 refine ⟨by rw [vI,h.len],by rw [X5,J4],fun k hk=>?_,fun k hk=>?_,h.cls.mrk i,fun a b ha h1 hr=>?_⟩
 . rw [hg k hk,QV hk];by_cases hmk:HJ g i k=true
   . rw [if_pos ((hm k hk).2 hmk),hmk];simp
   . rw [if_neg (fun x=>hmk ((hm k hk).1 x)),C9.2 hmk,L2];exact h.nz k hk
 . rw [hg k hk];split
   . exact AR _
   . exact Ah (h.le k hk) (Nat.le_succ n)
 . have hb:=hr.lt he ha;rw [QV hb,hg a ha,hg b hb];rw [QV ha] at h1;by_cases hma:HJ g i a=true
   . rw [if_pos ((hm a ha).2 hma)];have hib:rB g i b=true:=WM.2 ((Zl.1 hma).1.trans hr);by_cases hmb:HJ g i b=true
     . rw [if_pos ((hm b hb).2 hmb),hmb];simp
     . rw [if_neg (fun x=>hmb ((hm b hb).1 x))]
       have hbi:rB g b i=false:=by
        rw [C9];intro hx;exact hmb (by rw [HJ,hib,hx];rfl)
       refine ⟨by rw [hrd b hb hib hbi];rfl,Ah (h.le b hb) (Nat.le_succ n)⟩
   . rw [C9.2 hma,L2] at h1;have ⟨c1,c2⟩:=h.cl a b ha h1 hr;have hmb:¬HJ g i b=true:=fun hx=>by have:=hnew b hb hx;rw [c1] at this;cases this
     rw [if_neg (fun x=>hma ((hm a ha).1 x)),if_neg (fun x=>hmb ((hm b hb).1 x)),c1];exact ⟨rfl,c2⟩
theorem AHQ {g:List (List Nat)} {ls:List Bool}:∀(N k:Nat),((Au g.length).filter (rB g k)).length=N->k < g.length->lsB ls k=false->∃i,uN g ls=some i:=by
 intro N
 induction N using FT with
 |_ N ih=>
 intro k hN hk hl;by_cases hr:m8 g ls k=true
 . cases hn:uN g ls with
   |some i=>exact ⟨i,rfl⟩
   |none=>
    rw [uN,P2] at hn;have:=hn k (Bz.2 hk);rw [ZS,hl,hr] at this;simp at this
 . rw [m8,Aq] at hr;simp only [Bz,Bl,Classical.not_forall] at hr;obtain ⟨j,hj,hj2⟩:=hr;simp only [Bool.not_eq_false,AQ,Bl] at hj2;obtain ⟨⟨h1,h2⟩,h3⟩:=hj2;refine ih _ ?_ j rfl hj h3;rw [<- hN];have hsub:∀x,rB g j x=true->rB g k x=true:=fun x hx=>WM.2 ((WM.1 h1).trans (WM.1 hx));have h4:k∈(Au g.length).filter (rB g k):=XC.2 ⟨Bz.2 hk,WM.2 (Reach.refl k)⟩;have h5:k ∉ (Au g.length).filter (rB g j):=fun hx=>by have:=(XC.1 hx).2;rw [h2] at this;cases this
   have h6:((Au g.length).filter (rB g j))=((Au g.length).filter (rB g k)).filter (rB g j):=by
    rw [List.filter_filter];apply List.filter_congr;intro x _;by_cases hx:rB g j x=true
    . rw [hx,hsub x hx];rfl
    . rw [C9.2 hx];rfl
   rw [h6];refine Nat.lt_of_le_of_ne (L3 _ _) (fun e=>?_);have:=List.length_filter_eq_length_iff.1 e;have:=this k h4;rw [h2] at this;cases this
theorem AD8 {g:List (List Nat)} {ls:List Bool} {i:Nat} (h:uN g ls=some i):i < g.length/\ZS g ls i=true:=
 ⟨Bz.1 (List.mem_of_find?_eq_some h),List.find?_some h⟩
theorem xF {g:List (List Nat)} {ls:List Bool} {f:Nat} (hf:unm ls < f) (h:Kq g f ls=[]):∀k,k < g.length->lsB ls k=true:=by
 intro k hk;cases f with
 |zero=>omega
 |succ f=>
  cases hl:lsB ls k with
  |true=>rfl
  |false=>
   obtain ⟨i,hi⟩:=AHQ _ k rfl hk hl;rw [Kq,hi] at h;cases h
theorem pM.fin {g:List (List Nat)} {ls:List Bool} {A:List Nat} {n:Nat} (h:pM g ls A n) (hall:∀k,k < g.length->lsB ls k=true):(∀a,a < g.length->A.getD a 0≠0)/\∀a b,a < g.length->b∈g.getD a []->A.getD b 0<=A.getD a 0:=
 ⟨fun a ha e=>(by have:=(h.nz a ha).1 e;rw [hall a ha] at this;cases this),fun a b ha hb=>(h.cl a b ha (hall a ha) (Reach.one hb)).2⟩
end Go.Ab
namespace Go.Ab
theorem ZU {g:List (List Nat)}:∀(f:Nat) (ls:List Bool),ls.length=g.length->unm ls < f->Cls g ls->
 (∀ms∈Kq g f ls,ms≠[])/\(Kq g f ls).flatten.Nodup/\(∀k,k∈(Kq g f ls).flatten↔k < g.length/\lsB ls k=false)/\(Kq g f ls).length<=f
 |0,ls,_,h,_=>by omega
 |f+1,ls,hl,hf,hc=>by
  cases hq:Kq g (f+1) ls with
  |nil=>
   have:=xF hf hq;refine ⟨fun ms h=>by simp at h,by simp,fun k=>⟨fun h=>by simp at h,fun ⟨h1,h2⟩=>?_⟩,by simp⟩;rw [this k h1] at h2;cases h2
  |cons l r=>
   rw [Kq] at hq;cases hn:uN g ls with
   |none=>rw [hn] at hq;cases hq
   |some i=>
    rw [hn] at hq;obtain ⟨hi,hcan⟩:=AD8 hn;simp only [List.cons.injEq] at hq;obtain ⟨rfl,rfl⟩:=hq;have h3:lsB ls i=false:=by simp only [ZS,AQ,Bl] at hcan;exact hcan.1
    have hu:=ABR hl hi h3;obtain ⟨a,b,c,d⟩:=ZU f (X5 g i ls) (by rw [X5,J4]) (by omega) (hc.mrk i);have hmi:i∈Z6 g i:=Wn.2 ⟨hi,Zl.2 ⟨Reach.refl i,Reach.refl i⟩⟩
    have hg:∀k,k∈Z6 g i->k < g.length/\lsB ls k=false:=fun k hk=>by
     rw [Wn] at hk;exact ⟨hk.1,by rw [<- hc i k hi hk.1 hk.2];exact h3⟩
    refine ⟨fun ms hm=>?_,?_,fun k=>?_,by simp only [A0];omega⟩
    . rcases As.1 hm with rfl|hm
      . exact fun e=>by rw [e] at hmi;cases hmi
      . exact a ms hm
    . rw [BK,Gc];refine ⟨ACX g i,b,fun x hx y hy e=>?_⟩;subst e;have h4:=(c x).1 hy;rw [QV h4.1,(Wn.1 hx).2] at h4;simp at h4
    . rw [BK,AY,c];constructor
      . rintro (h|⟨h1,h2⟩)
        . exact hg k h
        . rw [QV h1] at h2;simp only [IH] at h2;exact ⟨h1,h2.1⟩
      . rintro ⟨h1,h2⟩;cases hm:HJ g i k with
        |true=>exact .inl (Wn.2 ⟨h1,hm⟩)
        |false=>exact .inr ⟨h1,by rw [QV h1,h2,hm];rfl⟩
theorem sW (g:List (List Nat)):(∀ms∈UQ g,ms≠[])/\(UQ g).flatten.Nodup/\(∀k,k∈(UQ g).flatten↔k < g.length)/\(UQ g).length<=g.length+1:=by
 have hu:unm (AE g.length false) < g.length+1:=by
  have:=L3 (fun b=>!b) (AE g.length false);simp only [unm,UM] at this ⊢;omega
 obtain ⟨a,b,c,d⟩:=ZU (g:=g) (g.length+1) (AE g.length false) (by simp) hu (Cls.start g);refine ⟨a,b,fun k=>?_,d⟩;rw [UQ,c];exact ⟨fun h=>h.1,fun h=>⟨h,QU (by simp [h])⟩⟩
theorem Z5 {p:Pg} (h:(Oh p).1=0):(∀ms∈MQ p,ms≠[])/\(MQ p).flatten.Nodup/\(∀k,k∈(MQ p).flatten↔k < p.G7.length)/\(MQ p).length<=25:=by
 obtain ⟨a,b,c,d⟩:=sW (Jt p);have hl:(Jt p).length=p.G7.length:=by unfold Jt;rw [if_pos h,AA]
 rw [hl] at c d;have:=(TO h).1;exact ⟨a,b,c,by rw [MQ];omega⟩
end Go.Ab
namespace Go.Ab
open Go.Proofs
def RIN (σ:AH) (n:Nat) (F0:Fm) (L0:Nat->Nat->Lm) (F:Fm) (L:Lm) (τ:AH):Prop:=
 ∃js jn,Ia [1,2,3,5,7] F=F0/\He [1,2,3,5,7] L=L0 js jn/\Mo σ τ/\σ.blk js=none/\σ.blk jn=none/\js≠jn/\τ.blk js=some (AE n [AV.d (.int .i64 0),.Af,.d (.int .i64 0),.d (.int .i64 0),.Af]).flatten/\τ.blk jn=some (AE n [AV.Af]).flatten
theorem HI.start {dt:List Dat} {σ τ:AH} {n js jn:Nat} (hm:Mo σ τ) (h1:σ.blk js=none) (h2:σ.blk jn=none) (hne:js≠jn):HI dt σ ((τ.AM js (Tw (AE n cO))).AM jn (ntC (AE n []))) n js jn (AE n cO,AE n []):=
 ⟨(hm.AIK h1 _).AIK h2 _,h1,h2,hne,by rw [AI,if_neg hne,AI,if_pos rfl],BQ,by simp,by simp,fun s hs=>by
   rw [(List.mem_replicate.1 hs).2];exact ALK dt⟩
theorem UY (p:Pg) (hsm:DSm p.data) (hz:Yx p.G7<=200) (σ:AH):AS Tzp 8 [pgA p] σ (fun v σ'=>(v=T0 (IX p)/\σ'=σ)/\∀dt r,IL p= .ok dt->IX p= .ok r->∀f,f < p.G7.length->dW p.G7 dt r f):=by
 have hsd:∀d∈p.data,LL d:=fun d hd c hc t ht=>by have:=(hsm d hd c hc).2 t ht;omega
 have hck:=fun σ=>W2 p σ hsd;have hdat:=fun σ=>YC p σ hsd;have hgr:=fun σ=>fS p σ hsd;have hpf:=@AMO p;have hgf:=@Z5 p
 have hch0:∀e,IL p= .error e->(Oh p).1≠0:=fun e he h0=>by
  obtain ⟨c,a,b⟩:=e;unfold Oh at h0;rw [he] at h0;exact ZW he h0
 refine iX (by simp) ?_;rw [Bs];generalize hQ:(fun (v:AV) (σ':AH)=>(v=T0 (IX p)/\σ'=σ)/\∀dt r,IL p= .ok dt->IX p= .ok r->∀f,f < p.G7.length->dW p.G7 dt r f)=Q
 have hQe:∀d,IX p= .error d->Q (T0 (.error d)) σ:=fun d hd=>by
  rw [<- hQ];exact ⟨⟨by rw [hd],rfl⟩,fun dt r _ h=>by rw [hd] at h;cases h⟩
 have hQo:∀r,IX p= .ok r->(∀dt,IL p= .ok dt->∀f,f < p.G7.length->dW p.G7 dt r f)->Q (T0 (.ok r)) σ:=fun r hr h=>by
  rw [<- hQ];exact ⟨⟨by rw [hr],rfl⟩,fun dt r' h1 h2=>by rw [hr] at h2;cases h2;exact h dt h1⟩
 clear hQ
 have hP:IX p=if (Oh p).1≠0 then .error (Oh p) else match IL p with
  | .error d=>.error d
  | .ok dt=>match GJ p.G7 dt (MQ p) (AE p.G7.length cO,AE p.G7.length []) with
   | .error e=>.error (e.1,(e.2:Int),0)
   | .ok r=>.ok r:=rfl
 generalize IX p=res at *;generalize MQ p=gs at *;generalize hcp:Oh p=ck at *;generalize hdp:IL p=dp at *;obtain ⟨ds,fs⟩:=p;simp only [pgA,Pg.enc,AG,AN] at hck hdat hgr ⊢;obtain ⟨c1,c2,c3⟩:=ck;simp only [dgA] at hck;by_cases hc0:c1=0
 . subst hc0;cases dp with
   |error d=>exact absurd rfl (hch0 d rfl)
   |ok dt=>
    have hF:PF fs dt:=hpf rfl rfl hsm hz;simp only [ne_eq,not_true,if_false] at hP;simp only [dA,dsA,dgA] at hdat;(repeat' (first|refine ctQ rfl ?_|((first|refine rgQ mxQ ?_|refine cdQ ?_|refine AJ.det (hck _) ?_|refine AJ.det (hdat _) ?_|(refine A9 rfl (fun h=>?_) (fun h=>?_)<;>try (cases h;done)))<;>try simp only [go_sem])|(refine ⟨fun h=>?_,fun h=>?_⟩<;>first|(cases h;done)|try simp only [h])|fail));refine Run.Zr mixed (RIN σ fs.length (put 1 (.lp 1 0) (put 2 (.lp 2 0) (put 3 (.lp 3 0) (put 5 (dsA dt) (put 7 (.lp 7 0) U))))) (fun js jn=>LI (.sl (ds.map DE.enc)) (.sl (fs.map FE.enc)) js jn fs.length)) ?_ ?_
    . have hlf:fs.length<=24:=hF.lf;simp only [AA,go_sem];refine ⟨?_,?_⟩<;>
      (refine Nz.mo (P:=Tzp) fs.length (by omega) (by omega) (fun a τ1 ha m1 f1=>?_)
       simp only [go_sem];refine Nz.mo (P:=Tzp) fs.length (by omega) (by omega) (fun b τ2 hb m2 f2=>?_);simp only [go_sem];have n1:=jP f1 hb;have a2:=m2.blk _ _ f1;have hb0:=m1.ne hb;unfold RIN
       first
        |exact ⟨a,b,by simp only [dsA,go_sem],by simp only [go_sem],m1.trans m2,ha,hb0,n1,a2,f2⟩
        |exact ⟨b,a,by simp only [dsA,go_sem],by simp only [go_sem],m1.trans m2,hb0,ha,A5 n1,f2,a2⟩)
    . rintro F' L' τ ⟨js,jn,e1,e2,hm,h1,h2,hne,b1,b2⟩;rw [e1,e2];clear e1 e2 F' L';have hH:=HI.start (dt:=dt) (n:=fs.length) hm h1 h2 hne;refine Run.ABT (σ':=(τ.AM js (Tw (AE fs.length cO))).AM jn (ntC (AE fs.length []))) (fun m cs' hc=>?_) (fun t ht=>ht) ?_
      . rw [AI] at hc;split at hc
        . rename_i e;subst e;cases hc;exact ⟨_,b2,.inr (AHO _).symm⟩
        . rw [AI] at hc;split at hc
          . rename_i e;subst e;cases hc;exact ⟨_,b1,.inr (AER _).symm⟩
          . exact ⟨cs',hc,.inl rfl⟩
      generalize (τ.AM js (Tw (AE fs.length cO))).AM jn (ntC (AE fs.length []))=τ1 at hH ⊢;obtain ⟨g1,g2,g3,g4⟩:=hgf rfl;simp only [Og] at hgr;(repeat' ((first|refine wQ mxQ rfl ?_|refine AJ.det (hgr _) ?_|fail)<;>try simp only [AA,go_sem]));refine yG fs ds dt hF gs (by omega) g1 g2 (fun f hf=>(g3 f).1 hf) σ js jn _ τ1 hH Q _ (fun e m τ' k' he hle=>?_) (fun r τ' a40 a41 a42 hr hH' hty=>?_)
      . have:=hQe (e,(m:Int),0) (by rw [hP,he]);refine Run.CK Kw (σ2:=σ) hle ?_;simp only [Ji,go_sem];exact this
      . have hfin:=hQo r (by rw [hP,hr]) (fun dt' h' f hf=>by cases h';exact hty f ((g3 f).2 hf));rw [dsA];(repeat' (refine wQ mxQ rfl ?_<;>try simp only [go_sem]));exact AC6 hH' hF.lf Q _ hfin
 . simp only [ne_eq,hc0,not_false_eq_true,if_true] at hP;have h0:(c1 != 0)=true:=by simpa using hc0
   have:=hQe _ hP;(repeat' (first|refine ctQ rfl ?_|((first|refine rgQ mxQ ?_|refine cdQ ?_|refine AJ.det (hck _) ?_|(refine A9 rfl (fun h=>?_) (fun h=>?_)<;>try (cases h;done)))<;>try simp only [h0,go_sem])|(refine ⟨fun h=>?_,fun h=>?_⟩<;>first|(cases h;done)|try simp only [h])|fail));refine Run.J5 mixed ?_;simp only [go_sem];refine Run.CK Kw (σ2:=σ) (AH.le_refl _) ?_;simp only [Ji,go_sem];exact this
end Go.Ab
namespace Go.Ab
open Go.Proofs
set_option maxRecDepth 100000
set_option maxHeartbeats 40000000
noncomputable section
end
end Go.Ab
namespace Go.Ab
open Go.Proofs
end Go.Ab
namespace Go.Ab
end Go.Ab
namespace Go.Ab
end Go.Ab
namespace Go.Ab
open Go.Proofs
end Go.Ab
namespace Go.Ab
open Go.Proofs
end Go.Ab
namespace Go.Ab
open Go.Proofs
end Go.Ab
namespace Go.Ab
open Go.Proofs
end Go.Ab
namespace Go.Ab
open Go.Proofs
end Go.Ab
namespace Go.Ab
open Go.Proofs
set_option maxRecDepth 100000
set_option maxHeartbeats 40000000
noncomputable section
def pB:List (Nat×PT):=[(20,(pL [17] (pO [0,1,2,3,4,5,6,7,8,9,10,11,12,13,14,15,16,18,19] .done)))]
noncomputable def FW:Cx:=⟨Tzp,12,Tryz.f12,139,[300015,300021,300027,300033,300038,300045,300049,300051,300056,300063,300074,300082,300090,300100,300103,300105,300122,300123,300128,300129,300134],[],[.t 2,.c 3 (some 3)]⟩
theorem Lx:Good FW:=⟨Tryz.func12,by kernel_rfl⟩
theorem zP:FW.rs=[.t 2,.c 3 (some 3)]:=rfl
noncomputable def Wq:=BO FW pB fun c a b d=>G c [a,b,d]
def OA:C:=lpC 0 (Wq .skip .skip .skip)
def Sy:C:=lpC 1 (Wq OA .skip .skip)
def pT:C:=lpC 2 (Wq OA Sy .skip)
def AB7:C:=(Wq OA Sy pT).1
theorem AC0:Inn FW AB7 139:=inn pB Lx Tryz.ntmps12
noncomputable def UH:Cx:=⟨Tzp,19,Tryz.f19,32,[],[],[.t 2]⟩
theorem Y3:Good UH:=⟨Tryz.func19,by kernel_rfl⟩
theorem vB:UH.rs=[.t 2]:=rfl
noncomputable def Yc:=BO UH [] fun c a b=>G c [a,b]
def Xm:C:=lpC 0 (Yc .skip .skip)
def lV:C:=lpC 1 (Yc Xm .skip)
def wY:C:=(Yc Xm lV).1
theorem yD:Inn UH wY 32:=inn [] Y3 Tryz.ntmps19
noncomputable def Wz:Cx:=⟨Tzp,40,Tryz.f40,19,[],[],[.t 4]⟩
theorem bI:Good Wz:=⟨Tryz.func40,by kernel_rfl⟩
theorem zQ:Wz.rs=[.t 4]:=rfl
noncomputable def oL:=BO Wz [] fun c a=>G c [a]
def pU:C:=lpC 0 (oL .skip)
def AB8:C:=(oL pU).1
theorem AC1:Inn Wz AB8 19:=inn [] bI Tryz.ntmps40
def aE:List (Nat×PT):=[(23,(pL [12] (pO [0,1,2,3,4,5,6,7,8,9,10,11,13,14] .done)))]
noncomputable def LU:Cx:=⟨Tzp,41,Tryz.f41,124,[300018,300021,300026,300030,300037,300041,300045,300048,300050,300058,300065,300071,300079,300096,300102,300106,300118,300119,300123],[],[.c 10 (some 3),.t 11]⟩
theorem FH:Good LU:=⟨Tryz.func41,by kernel_rfl⟩
theorem nC:LU.rs=[.c 10 (some 3),.t 11]:=rfl
noncomputable def T4:=BO LU aE fun c a b=>G c [a,b]
def UO:C:=lpC 0 (T4 .skip .skip)
def UP:C:=lpC 1 (T4 UO .skip)
def pV:C:=(T4 UO UP).1
theorem qD:Inn LU pV 124:=inn aE FH Tryz.ntmps41
attribute [go_sem] zP vB zQ nC
end
end Go.Ab
namespace Go.Ab
open Go.Proofs
theorem Yq (l:List Str) (s:Str) (σ:AH):AS Tzp 40 [.d (.sl (l.map Bb)),.d (.str s)] σ (fun v σ'=>v= .d (.int .i64 (Hm (DK l s)))/\σ'=σ):=by
 refine AC1 (by simp) ?_;rw [BS,<- SR];refine Run.slot 0 (fun hb0=>?_);simp only [D0,if_true,AV.FU,AA] at hb0;(repeat' (refine wQ mxQ rfl ?_<;>try simp only [AA,go_sem]));refine Run.BB ?_;refine Run.BG ((fun (a0:AV) (a1:AV)=>fun (i:Nat)=>put 0 a0 (put 1 a1 (put 5 (.d (.int .i64 i)) U))) _ _) (fun _=>E) (fun _=>σ) (fun i=>i<=l.length/\∀x∈l.take i,(x==s)=false) (fun i=>l.length - i) ?_ 0 ⟨by simp,by simp⟩;rintro i ⟨hi,hno⟩ ih;by_cases hlt:i < l.length
 . obtain ⟨x,hx⟩:=Ak hlt;have he:=BR (enc:=Bb) hx;simp only [Bb] at he;have hw1:IntKind.i64.wrap ((i:Int)+1)=((i+1:Nat):Int):=by rw [BP (by omega) (by omega)];omega
   cases hp:(x==s) with
   |true=>
    (repeat' ((first|refine wQ mxQ rfl ?_|refine Run.qP bI ?_|fail)<;>try simp only [Ag hlt,he,hw1,Bh,hp,AA,go_sem]));rw [EJ (p:=fun x=>x==s) hno hx hp];rfl
   |false=>
    (repeat' (refine wQ mxQ rfl ?_<;>try simp only [Ag hlt,he,hw1,Bh,hp,AA,go_sem]));exact ih (i+1) ⟨by omega,GO (p:=fun x=>x==s) hno hx hp⟩ (by omega)
 . (repeat' ((first|refine wQ mxQ rfl ?_|refine Run.qP bI ?_|fail)<;>try simp only [Bk hlt,AA,go_sem]));rw [AO (by omega)] at hno;rw [EL (p:=fun x=>x==s) hno];rfl
theorem uW (l:List Str) (σ:AH):AS Tzp 19 [.d (.sl (l.map Bb))] σ (fun v σ'=>v= .d (.bool (Cy l))/\σ'=σ):=by
 refine yD (by simp) ?_;rw [Bs];refine Run.slot 0 (fun hb0=>?_);simp only [D0,if_true,AV.FU,AA] at hb0;(repeat' (refine wQ mxQ rfl ?_<;>try simp only [AA,go_sem]));refine Run.BB ?_;refine Run.BG ((fun (a0:AV)=>fun (i:Nat)=>put 0 a0 (put 3 (.d (.int .i64 i)) U)) _) (fun _=>E) (fun _=>σ) (fun i=>i<=l.length/\Cy (l.take i)=false) (fun i=>l.length - i) ?_ 0 ⟨by simp,by simp [Cy]⟩;rintro i ⟨hi,hno⟩ ih;by_cases hlt:i < l.length
 . obtain ⟨x,hx⟩:=Ak hlt;have he:=BR (enc:=Bb) hx;simp only [Bb] at he;have hw1:IntKind.i64.wrap ((i:Int)+1)=((i+1:Nat):Int):=by rw [BP (by omega) (by omega)];omega
   have hsn:=W8 (l.take i) x;rw [<- Ae hx,hno,ED] at hsn;(repeat' (refine wQ mxQ rfl ?_<;>try simp only [Ag hlt,AA,go_sem]));refine Run.BB ?_;refine Run.BG ((fun (a0:AV) (a3:AV)=>fun (j:Nat)=>put 0 a0 (put 3 a3 (put 4 (.d (.int .i64 j)) U))) _ _) (fun _=>E) (fun _=>σ) (fun j=>j<=i/\∀y∈l.take j,((x==y)&& !(x==[]))=false) (fun j=>i - j) ?_ 0 ⟨by simp,by simp⟩;rintro j ⟨hj,hnj⟩ ih2;by_cases hji:j < i
   . obtain ⟨y,hy⟩:=Ak (show j < l.length by omega);have hey:=BR (enc:=Bb) hy;simp only [Bb] at hey;have hw2:IntKind.i64.wrap ((j:Int)+1)=((j+1:Nat):Int):=by rw [BP (by omega) (by omega)];omega
     cases h1:(x==y) with
     |false=>
      (repeat' (refine wQ mxQ rfl ?_<;>try simp only [Ag hji,he,hey,hw2,Bh,Ec,h1,AA,go_sem]));exact ih2 (j+1) ⟨by omega,GO (p:=fun y=>(x==y)&& !(x==[])) hnj hy (by simp only [h1,DO])⟩ (by omega)
     |true=>
      cases h2:(x==[]) with
      |true=>
       (repeat' (refine wQ mxQ rfl ?_<;>try simp only [Ag hji,he,hey,hw2,Bh,Ec,h1,h2,AA,go_sem]));exact ih2 (j+1) ⟨by omega,GO (p:=fun y=>(x==y)&& !(x==[])) hnj hy (by simp only [h2,Bool.not_true,CG])⟩ (by omega)
      |false=>
       have hct:(l.take i).contains x=true:=by
        have:x=y:=by simpa using h1
        subst this;rw [Ai];exact AD (by rw [B3,if_pos hji];exact hy)
       (repeat' ((first|refine wQ mxQ rfl ?_|refine Run.qP Y3 ?_|fail)<;>try simp only [Ag hji,he,hey,hw2,Bh,Ec,h1,h2,AA,go_sem]));rw [dQ (i:=i+1) (by rw [hsn,h2,hct];rfl)]
   . have hje:j=i:=by omega
     subst hje
     have hct:(!(x==[])&&(l.take j).contains x)=false:=by
      cases h2:(x==[]) with
      |true=>rfl
      |false=>
       rw [JI,BW,C9];intro hc;rw [Ai] at hc;have:=hnj x hc;simp [h2] at this
     (repeat' (refine wQ mxQ rfl ?_<;>try simp only [Bk hji,hw1,go_sem]));exact ih (j+1) ⟨by omega,by rw [hsn,hct]⟩ (by omega)
 . (repeat' ((first|refine wQ mxQ rfl ?_|refine Run.qP Y3 ?_|fail)<;>try simp only [Bk hlt,AA,go_sem]));rw [AO (by omega)] at hno;rw [hno]
end Go.Ab
namespace Go.Ab
open Go.Proofs
end Go.Ab
namespace Go.Ab
open Go.Proofs
theorem fG (ps:List DE) (fs:List FE) (ds:List (Str×Nat)) (vars:List Str) (k num:Int) (n:Str) (l:List TE) (τ:AH) (hll:l.length<=1000000)
 (ih:∀x∈l,∀τ',AS Tzp 41 [pgA ⟨ps,fs⟩,.d (.sl ((ds.map (·.1)).map Bb)),.d (.sl (vars.map Bb)),teA x,.d (.bool false)] τ' (fun v σ'=>v=WN (JF ds vars false x)/\σ'=τ')):
 Run LU (fun v σ'=>v=WN ((Cv ds vars l).map (Ty.mk k num))/\σ'=τ) [.code (.loop UP),.blk 3,.code (.seq (.reg [⟨some 123,.ldl (.t 12) (some 3),none⟩,⟨none,.st (.t 10) (.t 123) 3,none⟩,⟨some 11,.mv (.c (.d (.int .i64 0))),none⟩] [10,11]) .ret)]
  (put 1 (.d (.sl ((ds.map (·.1)).map Bb))) (put 2 (.d (.sl (vars.map Bb))) (put 5 (.lp 5 0) (put 8 (.lp 8 0) (put 10 (.lp 10 0) (put 12 (.lp 12 0) (put 14 (.d (.int .i64 0)) U)))))))
  (Ar 5 [.d (.sl (ps.map DE.enc)),.d (.sl (fs.map FE.enc))] (Ar 8 [.d (.int .i64 k),.d (.str n),.d (.sl (l.map TE.enc))] (Ar 10 [.d (.int .i64 0),.d (.int .i64 0),.Af] (Ar 12 [.d (.int .i64 k),.d (.int .i64 num),.Af] E)))) τ:=by
 refine Run.BB ?_
 refine Run.BG ((fun (a1:AV) (a2:AV) (a5:AV) (a8:AV) (a10:AV) (a12:AV)=>fun (y:Nat×List Ty×AV×AH)=>put 1 a1 (put 2 a2 (put 5 a5 (put 8 a8 (put 10 a10 (put 12 a12 (put 14 (.d (.int .i64 y.1)) U))))))) _ _ _ _ _ _) (fun y=>Ar 5 [.d (.sl (ps.map DE.enc)),.d (.sl (fs.map FE.enc))] (Ar 8 [.d (.int .i64 k),.d (.str n),.d (.sl (l.map TE.enc))] (Ar 10 [.d (.int .i64 0),.d (.int .i64 0),.Af] (Ar 12 [.d (.int .i64 k),.d (.int .i64 num),y.2.2.1] E)))) (fun y=>y.2.2.2)
  (fun y=>y.1<=l.length/\y.2.1.length=y.1/\Cv ds vars (l.take y.1)= .ok y.2.1/\C4 τ 46 3 (y.2.1.map Ty.enc) y.2.2.1 y.2.2.2) (fun y=>l.length - y.1) ?_ (0,[],.Af,τ) ⟨by simp,rfl,rfl,C4.nil _ _ _⟩
 rintro ⟨i,us,uv,τ1⟩ ⟨hi,hlu,hok,ho⟩ ih2;simp only at hi hlu hok ho;by_cases hlt:i < l.length
 . obtain ⟨x,hx⟩:=Ak hlt;have he:=BR (enc:=TE.enc) hx;have hw1:=A7 (show i+1<=9000000000000000000 by omega)
   have hall:Cv ds vars l=(Cv ds vars (x::l.drop (i+1))).map (us++·):=by
    conv=>lhs;rw [<- Ac i l,Bv hx]
    exact Sa _ _ _ hok
   have hsn:Cv ds vars (l.take (i+1))=(Cv ds vars [x]).map (us++·):=by
    rw [Ae hx];exact Sa _ _ _ hok
   rw [Cv] at hall;rw [Cv,Cv] at hsn;have hc:=ih x (AD hx) τ1;simp only [pgA,Pg.enc,AG,AN] at hc;cases hr:JF ds vars false x with
   |error e=>
    rw [hr] at hc hall;have hne:=Zt x false e hr;have hne':(e != 0)=true:=by simpa using hne
    obtain ⟨xk,xn,xl⟩:=x;simp only [TE.A4,teA,AG,AN,WN] at he hc;(repeat' ((first|refine wQ mxQ rfl ?_|(refine Run.CK FH ho.le ?_)|refine AJ.det (hc) ?_|fail)<;>try simp only [Ag hlt,he,hne',ho.cell,AA,go_sem]));rw [hall];rfl
   |ok u=>
    rw [hr] at hc hsn;simp only [CW] at hsn;obtain ⟨uk,un,ul⟩:=u;obtain ⟨xk,xn,xl⟩:=x;simp only [TE.A4,teA,AG,AN,WN,tyA,Ty.enc] at he hc;have h00:((0:Int) != 0)=false:=by decide
    (repeat' ((first|refine wQ mxQ rfl ?_|(refine E6.own ho rfl (by simp) (by simp;omega) (by decide) (fun v2 σ2 ho2 hbk=>?_))|refine AJ.det (hc) ?_|fail)<;>try simp only [Ag hlt,he,hw1,h00,ho.w4,AA,go_sem]));simp only [ho2.cells,ho2.cell,go_sem];(repeat' (refine wQ mxQ rfl ?_<;>try simp only [hw1,ho2.cell,ho2.cells,go_sem]));exact ih2 (i+1,us++[.mk uk un ul],v2,σ2) ⟨by simp only;omega,by simp [hlu],hsn,by simpa [Ty.enc] using ho2⟩ (by simp only;omega)
 . rw [AO (by omega)] at hok;(repeat' ((first|refine wQ mxQ rfl ?_|(refine Run.CK FH ho.le ?_)|fail)<;>try simp only [Bk hlt,ho.cell,ho.cells,AA,go_sem]));rw [ho.plain,hok];simp [WN,tyA,Ty.enc,Ty.CM,CW]
end Go.Ab
namespace Go.Ab
open Go.Proofs
theorem dJ:∀ {l:List TE} {vs:List Str},l.length=vs.length->(∀(j:Nat) (t:TE) (v:Str),l[j]?=some t->vs[j]?=some v->jA t v=true)->GL l vs=true
 |[],[],_,_=>rfl
 |[],v::vs,h,_=>by simp at h
 |t::l,[],h,_=>by simp at h
 |t::l,v::vs,h,hp=>by
  rw [LD,hp 0 t v rfl rfl,dJ (by simpa using h) (fun j t' v' h1 h2=>hp (j+1) t' v' h1 h2)];rfl
theorem Ym:∀ {l:List TE} {vs:List Str} {j:Nat} {t:TE} {v:Str},l[j]?=some t->vs[j]?=some v->jA t v=false->GL l vs=false
 |[],vs,j,t,v,h,_,_=>by simp at h
 |t::l,[],j,t',v,_,h,_=>by simp at h
 |t::l,v::vs,0,t',v',h1,h2,h=>by
  simp only [Av,AK] at h1 h2;subst h1;subst h2;rw [LD,h];rfl
 |t::l,v::vs,j+1,t',v',h1,h2,h=>by
  rw [LD,Ym (j:=j) (by simpa using h1) (by simpa using h2) h,CG]
structure AFI (ps:List DE) (ds:List (Str×Nat)) (vars:List Str):Prop where
 at':∀(i:Nat) (x:Str×Nat),ds[i]?=some x->∃d:DE,ps[i]?=some d/\d.vars.length=x.2
 last:∀x:Str×Nat,ds[ds.length - 1]?=some x->x.2=vars.length
 ne:ds.length<=1000000
theorem mZ (ps:List DE) (fs:List FE) (ds:List (Str×Nat)) (vars:List Str) (hh:AFI ps ds vars):
 ∀(N:Nat) (t:TE) (whole:Bool) (τ:AH),t.size<=N->t.size<=1000000->AS Tzp 41 [pgA ⟨ps,fs⟩,.d (.sl ((ds.map (·.1)).map Bb)),.d (.sl (vars.map Bb)),teA t,.d (.bool whole)] τ (fun v σ'=>v=WN (JF ds vars whole t)/\σ'=τ):=by
 intro N
 induction N with
 |zero=>intro t whole τ h;have:=TE.size_pos t;omega
 |succ N ihN=>
 rintro ⟨k,n,l⟩ whole τ hN hsz;simp only [TE.size] at hN hsz;have hlen:=TE.Bt l
 have hloop:=fun num=>fG ps fs ds vars k num n l τ (by omega) (fun x hx τ'=>by
  have:=TE.JD hx;exact ihN x false τ' (by omega) (by omega))
 clear ihN;refine qD (by simp) ?_;rw [wM,teA,TE.A4];simp only [pgA,Pg.enc,AG,AN];by_cases h4:k=4
 . subst h4
   have hres:JF ds vars whole (.mk 4 n l)=match DK vars n with|none=>.error 3|some i=>(Cv ds vars l).map (Ty.mk 4 i):=by
    rw [JF,if_pos rfl];rfl
   have hi:=Yq vars n τ;cases hix:DK vars n with
   |none=>
    rw [hix] at hi hres;simp only [Hm] at hi hres;have hneg:decide ((-1:Int) < 0)=true:=by decide
    (repeat' ((first|refine wQ mxQ rfl ?_|refine Run.qP FH ?_|refine AJ.det (hi) ?_|fail)<;>try simp only [Aa,hneg,go_sem]));rw [hres];rfl
   |some i=>
    rw [hix] at hi hres;simp only [Hm] at hi hres;have hneg:decide ((i:Int) < 0)=false:=decide_eq_false (by omega);rw [hres];(repeat' ((first|refine wQ mxQ rfl ?_|refine AJ.det (hi) ?_|fail)<;>try simp only [Aa,hneg,AA,go_sem]));exact hloop i
 by_cases h5:k=5
 . subst h5
   have hres:JF ds vars whole (.mk 5 n l)=match DK (ds.map (·.1)) n with|none=>.error 3|some i=>if l.length≠(ds.getD i ([],0)).2 then .error 5 else if i+1=ds.length/\¬(whole=true/\GL l vars=true) then .error 7 else (Cv ds vars l).map (Ty.mk 5 i):=by
    rw [JF,if_neg h4,if_pos rfl];rfl
   have hf:=Yq (ds.map (·.1)) n τ;cases hix:DK (ds.map (·.1)) n with
   |none=>
    rw [hix] at hf hres;simp only [Hm] at hf hres;have hneg:decide ((-1:Int) < 0)=true:=by decide
    (repeat' ((first|refine wQ mxQ rfl ?_|refine Run.qP FH ?_|refine AJ.det (hf) ?_|fail)<;>try simp only [Aa,hneg,go_sem]));rw [hres];rfl
   |some i=>
    have hsp:=O4 hix;rw [Ao,AL] at hsp;obtain ⟨x,hx,hxn⟩:=hsp;obtain ⟨d,hd,hdv⟩:=hh.at' i x hx;have hil:=(AF.1 hx).1;have hgd:ds.getD i ([],0)=x:=by rw [A6,hx];rfl
    rw [hix] at hf hres;simp only [Hm,hgd] at hf hres;have hneg:decide ((i:Int) < 0)=false:=decide_eq_false (by omega);have hed:=BR (enc:=DE.enc) hd;obtain ⟨dn,dvs',dc⟩:=d;simp only [DE.enc] at hed hdv
    have hcmp:((l.length:Int) != (dvs'.length:Int))=decide (l.length≠x.2):=by
     rw [Ax];simp only [bne_iff_ne,ne_eq,decide_eq_true_eq];omega
    by_cases hA:l.length≠x.2
    . rw [decide_eq_true hA] at hcmp;rw [if_pos hA] at hres;(repeat' ((first|refine wQ mxQ rfl ?_|refine Run.qP FH ?_|refine AJ.det (hf) ?_|fail)<;>try simp only [Aa,hneg,AA,hed,hcmp,go_sem]));rw [hres];rfl
    . rw [decide_eq_false hA] at hcmp;rw [if_neg hA] at hres;have hdl:=hh.ne;have hw1:IntKind.i64.wrap ((ds.length:Int) - 1)=((ds.length - 1:Nat):Int):=by rw [BP (by omega) (by omega)];omega
      have hlast:((i:Int)==((ds.length - 1:Nat):Int))=decide (i+1=ds.length):=by
       rw [Ax];simp only [beq_iff_eq,decide_eq_true_eq];omega
      by_cases hB:i+1=ds.length
      . rw [decide_eq_true hB] at hlast
        have hlv:l.length=vars.length:=by
         have:=hh.last x (by rw [show ds.length - 1=i by omega];exact hx);omega
        (repeat' ((first|refine wQ mxQ rfl ?_|refine AJ.det (hf) ?_|fail)<;>try simp only [Aa,hneg,AA,hed,hcmp,hw1,hlast,go_sem]));refine Run.BB ?_
        refine Run.BG ((fun (a1:AV) (a2:AV) (a4:AV) (a5:AV) (a8:AV) (a10:AV) (a12:AV)=>fun (j:Nat)=>put 1 a1 (put 2 a2 (put 4 a4 (put 5 a5 (put 8 a8 (put 10 a10 (put 12 a12 (put 13 (.d (.int .i64 j)) U)))))))) _ _ _ _ _ _ _) (fun _=>Ar 5 [.d (.sl (ps.map DE.enc)),.d (.sl (fs.map FE.enc))] (Ar 8 [.d (.int .i64 5),.d (.str n),.d (.sl (l.map TE.enc))] (Ar 10 [.d (.int .i64 0),.d (.int .i64 0),.Af] (Ar 12 [.d (.int .i64 5),.d (.int .i64 i),.Af] E)))) (fun _=>τ)
         (fun j=>j<=l.length/\∀(q:Nat) (t:TE) (v:Str),q < j->l[q]?=some t->vars[q]?=some v->jA t v=true) (fun j=>l.length - j) ?_ 0 ⟨by simp,fun q _ _ hq=>by omega⟩
        rintro j ⟨hj,hpj⟩ ih2;by_cases hjl:j < l.length
        . obtain ⟨t,ht⟩:=Ak hjl;obtain ⟨v,hv⟩:=Ak (show j < vars.length by omega);have het:=BR (enc:=TE.enc) ht;have hev:=BR (enc:=Bb) hv;have hwj:=A7 (show j+1<=9000000000000000000 by omega);obtain ⟨tk,tn,tl⟩:=t;simp only [TE.A4,Bb] at het hev;have hip:jA (.mk tk tn tl) v=(tk==4&&tn==v):=rfl;by_cases hk4:tk=4
          . subst hk4;have hn4:((4:Int) != 4)=false:=by decide
            cases hv2:(tn==v) with
            |true=>
             have hvn:(tn != v)=false:=by simpa [bne] using hv2
             (repeat' (refine wQ mxQ rfl ?_<;>try simp only [Ag hjl,het,hev,hn4,hvn,Ec,hv2,hwj,AA,go_sem]));refine ih2 (j+1) ⟨by omega,fun q t' v' hq h1 h2=>?_⟩ (by omega);rcases Cl q j with h|h
             . exact hpj q t' v' h h1 h2
             . have:q=j:=by omega
               subst this;rw [ht] at h1;rw [hv] at h2;cases h1;cases h2;rw [hip,hv2];rfl
            |false=>
             have hpb:GL l vars=false:=Ym ht hv (by rw [hip,hv2];rfl);rw [if_pos ⟨hB,by simp [hpb]⟩] at hres;have hvn:(tn != v)=true:=by simp [bne,hv2]
             (repeat' ((first|refine wQ mxQ rfl ?_|(refine Run.CK FH (σ2:=τ) (AH.le_refl _) ?_)|fail)<;>try simp only [Ag hjl,het,hev,hn4,hvn,Ec,hv2,hwj,AA,go_sem]));rw [hres];rfl
          . have hn4:(tk != 4)=true:=by simpa using hk4
            have hpb:GL l vars=false:=Ym ht hv (by rw [hip,Cr hk4];rfl);rw [if_pos ⟨hB,by simp [hpb]⟩] at hres;(repeat' ((first|refine wQ mxQ rfl ?_|(refine Run.CK FH (σ2:=τ) (AH.le_refl _) ?_)|fail)<;>try simp only [Ag hjl,het,hev,hn4,hwj,AA,go_sem]));rw [hres];rfl
        . have hpb:GL l vars=true:=dJ hlv (fun q t v h1 h2=>hpj q t v (by have:=(AF.1 h1).1;omega) h1 h2);cases whole with
          |false=>
           rw [if_pos ⟨hB,by simp⟩] at hres;(repeat' ((first|refine wQ mxQ rfl ?_|(refine Run.CK FH (σ2:=τ) (AH.le_refl _) ?_)|fail)<;>try simp only [Bk hjl,AA,go_sem]));rw [hres];rfl
          |true=>
           rw [if_neg (by simp [hpb])] at hres;rw [hres];(repeat' (refine wQ mxQ rfl ?_<;>try simp only [Bk hjl,AA,go_sem]));exact hloop i
      . rw [decide_eq_false hB] at hlast;rw [if_neg (fun h=>hB h.1)] at hres;rw [hres];(repeat' ((first|refine wQ mxQ rfl ?_|refine AJ.det (hf) ?_|fail)<;>try simp only [Aa,hneg,AA,hed,hcmp,hw1,hlast,go_sem]));exact hloop i
 . have hres:JF ds vars whole (.mk k n l)=(Cv ds vars l).map (Ty.mk k 0):=by rw [JF,if_neg h4,if_neg h5]
   rw [hres];(repeat' (refine wQ mxQ rfl ?_<;>try simp only [Cr h4,Cr h5,AA,go_sem]));exact hloop 0
end Go.Ab
namespace Go.Ab
open Go.Proofs
theorem kD (ps:List DE) (fs:List FE) (ds:List (Str×Nat)) (vars:List Str) (hh:AFI ps ds vars) (t:TE) (hsz:t.size<=1000000) (nv:AV) (hnv:nv.plain= .d (.sl ((ds.map (·.1)).map Bb))) (whole:Bool) (τ:AH):
 AS Tzp 41 [pgA ⟨ps,fs⟩,nv,.d (.sl (vars.map Bb)),teA t,.d (.bool whole)] τ (fun v σ'=>v=WN (JF ds vars whole t)/\σ'=τ):=by
 refine AS.plain ?_;have:=mZ ps fs ds vars hh t.size t whole τ (AR _) hsz
 have hp:∀l:List DV,AV.CX (l.map AV.d)=l.map AV.d:=fun l=>by
  induction l with
  |nil=>rfl
  |cons x l ih=>rw [AG,AV.CX,Jh,ih]
 simp only [AV.CX,hnv,Jh,pgA,teA,S7,hp];exact this
theorem zH (Q:AV->AH->Prop) (rest:List CI) (ps:List DE) (fs:List FE) (ds:List (Str×Nat)) (dn:Str) (dvs':List Str) (dcs:List CE) (hh:AFI ps ds dvs') (cn:Str) (car:List TE) (ci i:Nat) (hc:dcs[ci]?=some ⟨cn,car⟩) (hsm:∀t∈car,t.size<=1000000) (hal:car.length<=1000)
 (σ0 τ:AH) (out nv used a9 b9 consv:AV) (l:List Ow) (hown:Iw σ0 l τ) (hle:σ0.le τ) (hnv:nv.plain= .d (.sl ((ds.map (·.1)).map Bb))) (hnl:nv.BF=true) (hlp:∀k,nv.BT k=false/\out.BT k=false/\used.BT k=false)
 (herr:∀e,Dp ds dvs' car= .error e->Q (.tup [.d (.sl []),.agg [.d (.int .i64 e),.d (.int .i64 (-1)),.d (.int .i64 i)]]) σ0)
 (hfin:∀us uv τ',Dp ds dvs' car= .ok us->Iw σ0 (⟨46,3,us.map Ty.enc,uv⟩::l) τ'->σ0.le τ'->Run FW Q rest
   (put 1 (.lp 1 0) (put 3 (.lp 3 0) (put 4 out (put 5 nv (put 6 used (put 7 (.d (.int .i64 i)) (put 8 (.lp 8 0) (put 9 (.lp 9 0) (put 10 (.d (.int .i64 ci)) (put 11 (.lp 11 0) (put 12 (.d (.int .i64 car.length)) (put 96 (.d (.bool false)) U))))))))))))
   (Ar 1 [.d (.sl (ps.map DE.enc)),.d (.sl (fs.map FE.enc))] (Ar 3 [.d (.int .i64 0),.d (.int .i64 0),.d (.int .i64 0)] (Ar 8 [.d (.str dn),.d (.sl (dvs'.map Bb)),.d (.sl (dcs.map CE.enc))] (Ar 9 [a9,b9,consv] (Ar 11 [.d (.str cn),uv] E))))) τ'):
 Run FW Q (.code (.loop OA)::.blk 4::rest)
  (put 1 (.lp 1 0) (put 3 (.lp 3 0) (put 4 out (put 5 nv (put 6 used (put 7 (.d (.int .i64 i)) (put 8 (.lp 8 0) (put 9 (.lp 9 0) (put 10 (.d (.int .i64 ci)) (put 11 (.lp 11 0) (put 12 (.d (.int .i64 0)) U)))))))))))
  (Ar 1 [.d (.sl (ps.map DE.enc)),.d (.sl (fs.map FE.enc))] (Ar 3 [.d (.int .i64 0),.d (.int .i64 0),.d (.int .i64 0)] (Ar 8 [.d (.str dn),.d (.sl (dvs'.map Bb)),.d (.sl (dcs.map CE.enc))] (Ar 9 [a9,b9,consv] (Ar 11 [.d (.str cn),.Af] E))))) τ:=by
 have hlp1:=fun k=>(hlp k).1;have hlp2:=fun k=>(hlp k).2.1;have hlp3:=fun k=>(hlp k).2.2;have hec:=BR (enc:=CE.enc) hc;simp only [CE.enc] at hec;refine Run.BB ?_
 refine Run.BG ((fun (a1:AV) (a3:AV) (a4:AV) (a5:AV) (a6:AV) (a7:AV) (a8:AV) (a9:AV) (a10:AV) (a11:AV)=>fun (y:Nat×List Ty×AV×AH)=>put 1 a1 (put 3 a3 (put 4 a4 (put 5 a5 (put 6 a6 (put 7 a7 (put 8 a8 (put 9 a9 (put 10 a10 (put 11 a11 (put 12 (.d (.int .i64 y.1)) U))))))))))) _ _ _ _ _ _ _ _ _ _) (fun y=>Ar 1 [.d (.sl (ps.map DE.enc)),.d (.sl (fs.map FE.enc))] (Ar 3 [.d (.int .i64 0),.d (.int .i64 0),.d (.int .i64 0)] (Ar 8 [.d (.str dn),.d (.sl (dvs'.map Bb)),.d (.sl (dcs.map CE.enc))] (Ar 9 [a9,b9,consv] (Ar 11 [.d (.str cn),y.2.2.1] E))))) (fun y=>y.2.2.2)
  (fun y=>y.1<=car.length/\y.2.1.length=y.1/\Dp ds dvs' (car.take y.1)= .ok y.2.1/\Iw σ0 (⟨46,3,y.2.1.map Ty.enc,y.2.2.1⟩::l) y.2.2.2/\σ0.le y.2.2.2) (fun y=>car.length - y.1) ?_ (0,[],.Af,τ) ⟨by simp,rfl,rfl,hown.nil hle 46 3,hle⟩
 rintro ⟨k,us,uv,τ1⟩ ⟨hk,hlu,hok,ho,hle1⟩ ih2;simp only at hk hlu hok ho hle1;have hoh:=ho.head;simp only at hoh;by_cases hlt:k < car.length
 . obtain ⟨x,hx⟩:=Ak hlt;have he:=BR (enc:=TE.enc) hx;have hw1:=A7 (show k+1<=9000000000000000000 by omega)
   have hall:Dp ds dvs' car=(Dp ds dvs' (x::car.drop (k+1))).map (us++·):=by
    conv=>lhs;rw [<- Ac k car,Bv hx]
    exact Rg _ _ _ hok
   have hsn:Dp ds dvs' (car.take (k+1))=(Dp ds dvs' [x]).map (us++·):=by
    rw [Ae hx];exact Rg _ _ _ hok
   rw [Dp] at hall;rw [Dp,Dp] at hsn;have hcl:=kD ps fs ds dvs' hh x (hsm x (AD hx)) nv hnv true τ1;simp only [pgA,Pg.enc,AG,AN] at hcl;cases hr:JF ds dvs' true x with
   |error e=>
    rw [hr] at hcl hall;simp only [CW] at hall;have hxe:=herr e hall;have hne:=Zt x true e hr;have hne':(e != 0)=true:=by simpa using hne
    obtain ⟨xk,xn,xl⟩:=x;simp only [TE.A4,teA,AG,AN,WN] at he hcl;(repeat' ((first|refine wQ mxQ rfl ?_|(refine AJ.mk (by simp only [Bf,Fq,hnl,Be,BW];rfl) hcl ?_;rintro _ _ ⟨rfl,rfl⟩)|(refine Run.CK Lx (σ2:=σ0) hle1 ?_)|fail)<;>try simp only [Ag hlt,hec,he,hne',hoh.cell,AA,hlp1,hlp2,hlp3,go_sem]));exact hxe
   |ok u=>
    rw [hr] at hcl hsn;simp only [CW] at hsn;obtain ⟨uk,un,ul⟩:=u;obtain ⟨xk,xn,xl⟩:=x;simp only [TE.A4,teA,AG,AN,WN,tyA,Ty.enc] at he hcl;have h00:((0:Int) != 0)=false:=by decide
    (repeat' ((first|refine wQ mxQ rfl ?_|(refine AJ.mk (by simp only [Bf,Fq,hnl,Be,BW];rfl) hcl ?_;rintro _ τ1 ⟨rfl,rfl⟩)|(refine E6.AEA (cx:=FW) ho rfl (by simp) (by simp;omega) (by decide) (fun v2 σ2 ho2 hbk=>?_))|fail)<;>try simp only [Ag hlt,hec,he,hw1,h00,hoh.cell,hoh.cells,hoh.BF,hoh.BT,AA,hlp1,hlp2,hlp3,go_sem]));have ho2h:=ho2.head;simp only at ho2h;simp only [ho2h.cells,ho2h.cell,go_sem];(repeat' (refine wQ mxQ rfl ?_<;>try simp only [hw1,ho2h.cell,ho2h.cells,go_sem]));exact ih2 (k+1,us++[.mk uk un ul],v2,σ2) ⟨by simp only;omega,by simp [hlu],hsn,by simpa [Ty.enc] using ho2,ho2h.le⟩ (by simp only;omega)
 . rw [AO (by omega)] at hok;have:=hfin us uv τ1 hok ho hle1;(repeat' (refine wQ mxQ rfl ?_<;>try simp only [Bk hlt,hec,AA,go_sem]));have hke:k=car.length:=by omega
   subst hke;exact this
end Go.Ab
namespace Go.Ab
open Go.Proofs
theorem dN (l:List Str) (s:Str) (v:AV) (hv:v.plain= .d (.sl (l.map Bb))) (σ:AH):AS Tzp 40 [v,.d (.str s)] σ (fun v σ'=>v= .d (.int .i64 (Hm (DK l s)))/\σ'=σ):=by
 refine AS.plain ?_;simp only [AV.CX,hv,Jh];exact Yq l s σ
theorem zI (Q:AV->AH->Prop) (rest:List CI) (ps:List DE) (fs:List FE) (ds:List (Str×Nat)) (dn:Str) (dvs':List Str) (dcs:List CE) (hh:AFI ps ds dvs') (i:Nat) (hcl:dcs.length<=1000) (hsm:∀c∈dcs,Wx c/\c.args.length<=1000)
 (σ0 τ:AH) (out nv usedv a9 b9:AV) (h9:a9.B5=true/\b9.B5=true) (ul:List Str) (hul:ul.length<=100000) (lo:List Ow) (hown:Iw σ0 (⟨9,1,ul.map Bb,usedv⟩::lo) τ) (hle:σ0.le τ) (hnv:nv.plain= .d (.sl ((ds.map (·.1)).map Bb))) (hnl:nv.BF=true) (hlp:∀k,nv.BT k=false/\out.BT k=false)
 (herr:∀e,FX ds dvs' ul dcs= .error e->Q (.tup [.d (.sl []),.agg [.d (.int .i64 e),.d (.int .i64 (-1)),.d (.int .i64 i)]]) σ0)
 (hfin:∀us usedv' consv' τ',FX ds dvs' ul dcs= .ok us->Iw σ0 (⟨9,1,(ul++dcs.map (·.name)).map Bb,usedv'⟩::⟨112,2,us.map Con.enc,consv'⟩::lo) τ'->σ0.le τ'->Run FW Q rest
   (put 1 (.lp 1 0) (put 3 (.lp 3 0) (put 4 out (put 5 nv (put 6 usedv' (put 7 (.d (.int .i64 i)) (put 8 (.lp 8 0) (put 9 (.lp 9 0) (put 10 (.d (.int .i64 dcs.length)) (put 58 (.d (.bool false)) U))))))))))
   (Ar 1 [.d (.sl (ps.map DE.enc)),.d (.sl (fs.map FE.enc))] (Ar 3 [.d (.int .i64 0),.d (.int .i64 0),.d (.int .i64 0)] (Ar 8 [.d (.str dn),.d (.sl (dvs'.map Bb)),.d (.sl (dcs.map CE.enc))] (Ar 9 [a9,b9,consv'] E)))) τ'):
 Run FW Q (.code (.loop Sy)::.blk 2::rest)
  (put 1 (.lp 1 0) (put 3 (.lp 3 0) (put 4 out (put 5 nv (put 6 usedv (put 7 (.d (.int .i64 i)) (put 8 (.lp 8 0) (put 9 (.lp 9 0) (put 10 (.d (.int .i64 0)) U)))))))))
  (Ar 1 [.d (.sl (ps.map DE.enc)),.d (.sl (fs.map FE.enc))] (Ar 3 [.d (.int .i64 0),.d (.int .i64 0),.d (.int .i64 0)] (Ar 8 [.d (.str dn),.d (.sl (dvs'.map Bb)),.d (.sl (dcs.map CE.enc))] (Ar 9 [a9,b9,.Af] E)))) τ:=by
 have hlp1:=fun k=>(hlp k).1;have hlp2:=fun k=>(hlp k).2;refine Run.BB ?_
 refine Run.BG ((fun (a1:AV) (a3:AV) (a4:AV) (a5:AV) (a7:AV) (a8:AV) (a9:AV)=>fun (y:Nat×List Con×AV×AV×AH)=>put 1 a1 (put 3 a3 (put 4 a4 (put 5 a5 (put 6 (y.2.2.1) (put 7 a7 (put 8 a8 (put 9 a9 (put 10 (.d (.int .i64 y.1)) U))))))))) _ _ _ _ _ _ _) (fun y=>Ar 1 [.d (.sl (ps.map DE.enc)),.d (.sl (fs.map FE.enc))] (Ar 3 [.d (.int .i64 0),.d (.int .i64 0),.d (.int .i64 0)] (Ar 8 [.d (.str dn),.d (.sl (dvs'.map Bb)),.d (.sl (dcs.map CE.enc))] (Ar 9 [a9,b9,y.2.2.2.1] E)))) (fun y=>y.2.2.2.2)
  (fun y=>y.1<=dcs.length/\y.2.1.length=y.1/\FX ds dvs' ul (dcs.take y.1)= .ok y.2.1/\Iw σ0 (⟨9,1,(ul++(dcs.take y.1).map (·.name)).map Bb,y.2.2.1⟩::⟨112,2,y.2.1.map Con.enc,y.2.2.2.1⟩::lo) y.2.2.2.2/\σ0.le y.2.2.2.2) (fun y=>dcs.length - y.1) ?_ (0,[],usedv,.Af,τ) ⟨by simp,rfl,rfl,by simpa using (hown.nil hle 112 2).perm (List.Perm.swap _ _ _),hle⟩
 rintro ⟨k,us,uv,cv,τ1⟩ ⟨hk,hlu,hok,ho,hle1⟩ ih;simp only at hk hlu hok ho hle1;have hou:=ho.head;have hoc:=ho.tail.head;simp only at hou hoc;by_cases hlt:k < dcs.length
 . obtain ⟨c,hc⟩:=Ak hlt;have he:=BR (enc:=CE.enc) hc;have hw1:=A7 (show k+1<=9000000000000000000 by omega);obtain ⟨hall,hnames⟩:=O3 ds dvs' (dcs.drop k) hok;rw [Ac,Bv hc] at hall;obtain ⟨hsn,_⟩:=O3 ds dvs' [c] hok;rw [<- Ae hc] at hsn;obtain ⟨hcsm,hcal⟩:=hsm c (AD hc);have hfi:=dN (ul++(dcs.take k).map (·.name)) c.name uv hou.plain τ1;have hin:(DK (ul++(dcs.take k).map (·.name)) c.name).isSome=(ul++(dcs.take k).map (·.name)).contains c.name:=Mn _ _;rw [FX] at hall hsn;have hcc:=hc;obtain ⟨cn,ar⟩:=c;simp only [CE.enc] at he hin hall hsn hcal hfi;cases hix:DK (ul++(dcs.take k).map (·.name)) cn with
   |some q=>
    rw [hix] at hfi hin;simp only [Cn] at hin;rw [<- hin,if_pos rfl] at hall;have hxe:=herr 4 hall;have hge:decide ((0:Int)<=(q:Int))=true:=by simp
    simp only [Hm] at hfi;(repeat' ((first|refine wQ mxQ rfl ?_|(refine AJ.mk (by simp only [Bf,Fq,hou.BF,Be,BW];rfl) hfi ?_;rintro _ _ ⟨rfl,rfl⟩)|(refine Run.CK Lx (σ2:=σ0) hle1 ?_)|fail)<;>try simp only [Ag hlt,he,hge,AA,hlp1,hlp2,hou.BT,go_sem]));exact hxe
   |none=>
    rw [hix] at hfi hin;simp only [Cm] at hin;rw [<- hin,if_neg (by simp)] at hall hsn;have hge:decide ((0:Int)<=-1)=false:=by decide
    simp only [Hm] at hfi;(repeat' ((first|refine wQ mxQ rfl ?_|(refine AJ.mk (by simp only [Bf,Fq,hou.BF,Be,BW];rfl) hfi ?_;rintro _ τ1 ⟨rfl,rfl⟩)|(refine E6.AEA (cx:=FW) ho rfl (by simp) (by simp;omega) (by decide) (fun v2 τ2 ho2 hbk=>?_))|fail)<;>try simp only [Ag hlt,he,hge,AA,hlp1,hlp2,hou.BT,go_sem]));have ho2h:=ho2.head;simp only at ho2h;simp only [ho2h.BT,AZ,if_false];refine zH Q _ ps fs ds dn dvs' dcs hh cn ar k i hcc hcsm hcal σ0 τ2 out nv v2 a9 b9 cv _ ho2 ho2h.le hnv hnl (fun k=>⟨hlp1 k,hlp2 k,ho2h.BT k⟩) (fun e he'=>?_) (fun ts av τ3 hts ho3 hle3=>?_)
    . rw [he'] at hall;exact herr e hall
    . rw [hts] at hsn;simp only [FX,CW] at hsn;have ho3a:=ho3.head;have ho3c:=(ho3.tail.perm (List.Perm.swap _ _ _));simp only at ho3a;have hoc3:=ho3c.head;simp only at hoc3;(repeat' ((first|refine wQ mxQ rfl ?_|(refine E6.AEA (cx:=FW) ho3c rfl (by simp) (by simp;omega) (by decide) (fun v4 τ4 ho4 hbk4=>?_))|fail)<;>try simp only [hw1,hoc3.cell,hoc3.cells,ho3a.cell,ho3a.dv,AA,hlp1,hlp2,ho2h.BT,h9.1,h9.2,go_sem]));have ho5:=ho4.perm (List.Perm.swap _ _ _);have h4h:=ho4.head;have h5h:=ho5.head;simp only at h4h h5h;simp only [h4h.cells,h4h.cell,go_sem];(repeat' (refine wQ mxQ rfl ?_<;>try simp only [hw1,h4h.cells,h4h.cell,hlp1,hlp2,h5h.BT,go_sem]))
      exact ih (k+1,us++[(⟨cn,ts⟩:Con)],v2,v4,τ4) ⟨by simp only;omega,by simp [hlu],hsn,by
       simp only [Ae hcc,B2,AG,AN,<- B4] at ho5 ⊢;simpa [Con.enc,Ty.CM,Bb] using ho5,h4h.le⟩ (by simp only;omega)
 . rw [AO (by omega)] at hok ho;have:=hfin us uv cv τ1 hok ho hle1;have hke:k=dcs.length:=by omega
   subst hke;(repeat' (refine wQ mxQ rfl ?_<;>try simp only [Bk hlt,AA,hlp1,hlp2,hou.BT,go_sem]));exact this
end Go.Ab
namespace Go.Ab
open Go.Proofs
theorem Iw.part {σ0 τ:AH} {l m r:List Ow} (h:Iw σ0 l τ) (hp:l.Perm (m++r)):Iw σ0 m τ:=by
 have:=h.perm hp;exact ⟨fun x hx=>this.1 x (VG _ hx),(List.pairwise_append.1 this.2).1⟩
theorem pE {n:Nat}:∀ {l:List DE},(∀d∈l,d.cons.length<=n)->(K1 l).length<=l.length * n
 |[],_=>by simp [K1]
 |d::l,h=>by
  have h1:=pE (l:=l) (fun x hx=>h x (AU _ hx));have h2:=h d (AW ..);simp only [K1,DD,A1,AA,A0] at h1 ⊢;rw [NN];omega
theorem ACZ (ps:List DE) (d:DE) (i:Nat) (hd:ps[i]?=some d) (hl:ps.length<=1000):AFI ps (CR (ps.take i)++[(d.name,d.vars.length)]) d.vars:=by
 have hi:=(AF.1 hd).1
 have hh:CR (ps.take i)++[(d.name,d.vars.length)]=CR (ps.take (i+1)):=by
  rw [Ae hd,CR,CR,B2];rfl
 rw [hh];have hlen:(CR (ps.take (i+1))).length=i+1:=by rw [CR,AA,Bi];omega
 refine ⟨fun k x hx=>?_,fun x hx=>?_,by omega⟩
 . rw [CR,Ao,B3] at hx;split at hx
   . obtain ⟨d',h1,h2⟩:=AL.1 hx;exact ⟨d',h1,by rw [<- h2]⟩
   . cases hx
 . rw [hlen,show i+1 - 1=i by omega,CR,Ao,B3,if_pos (by omega),hd] at hx;cases hx;rfl
theorem zJ (p:Pg) (σ:AH) (h:∀d∈p.data,LL d):AS Tzp 12 [pgA p] σ (fun v σ'=>v=dA (IL p)/\σ'=σ):=by
 have hval:=uV p σ h;refine AC0 (by simp) ?_;rw [Bs];unfold IL;cases hvb:Es p with
 |false=>
  rw [hvb] at hval;obtain ⟨ds,fs⟩:=p;simp only [pgA,Pg.enc,AG,AN] at hval ⊢;(repeat' ((first|refine wQ mxQ rfl ?_|(refine Run.CK Lx (σ2:=σ) (AH.le_refl _) ?_)|refine AJ.det (hval) ?_|fail)<;>try simp only [go_sem]));rfl
 |true=>
 rw [hvb] at hval;obtain ⟨hpl,hps⟩:=cP hvb h;obtain ⟨ps,fs⟩:=p;simp only [pgA,Pg.enc,AG,AN] at hval hpl hps ⊢;(repeat' ((first|refine wQ mxQ rfl ?_|refine AJ.det (hval) ?_|fail)<;>try simp only [AA,go_sem]));generalize hQ:(fun (v:AV) (σ':AH)=>v=dA (match DR [] ps with| .error (e,i)=>.error (e,-1,(i:Int))| .ok l=>.ok l)/\σ'=σ)=Q
 have herr:∀(e:Int) (i:Nat),DR [] ps= .error (e,i)->Q (.tup [.d (.sl []),.agg [.d (.int .i64 e),.d (.int .i64 (-1)),.d (.int .i64 i)]]) σ:=fun e i hd=>by
  rw [<- hQ,hd];exact ⟨rfl,rfl⟩
 have hok:∀(l:List Dat),DR [] ps= .ok l->Q (.tup [.d (.sl (l.map Dat.enc)),.agg [.d (.int .i64 0),.d (.int .i64 0),.d (.int .i64 0)]]) σ:=fun l hd=>by
  rw [<- hQ,hd];exact ⟨rfl,rfl⟩
 clear hQ;refine Run.BB ?_
 have hown0:Iw σ [⟨9,1,[],.Af⟩,⟨110,3,[],.Af⟩,⟨9,1,[],.Af⟩] σ:=by
  have h0:Iw σ [] σ:=⟨fun x hx=>(by cases hx),List.Pairwise.nil⟩;exact ((h0.nil (AH.le_refl _) _ _).nil (AH.le_refl _) _ _).nil (AH.le_refl _) _ _
 refine Run.BG ((fun (a1:AV) (a3:AV)=>fun (y:Nat×List Dat×AV×AV×AV×AH)=>put 1 a1 (put 3 a3 (put 4 (y.2.2.1) (put 5 (y.2.2.2.1) (put 6 (y.2.2.2.2.1) (put 7 (.d (.int .i64 y.1)) U)))))) _ _) (fun _=>Ar 1 [.d (.sl (ps.map DE.enc)),.d (.sl (fs.map FE.enc))] (Ar 3 [.d (.int .i64 0),.d (.int .i64 0),.d (.int .i64 0)] E)) (fun y=>y.2.2.2.2.2)
  (fun y=>y.1<=ps.length/\DR [] (ps.take y.1)= .ok y.2.1/\Iw σ [⟨9,1,(((CR (ps.take y.1)).map (·.1)).map Bb),y.2.2.2.1⟩,⟨110,3,y.2.1.map Dat.enc,y.2.2.1⟩,⟨9,1,(K1 (ps.take y.1)).map Bb,y.2.2.2.2.1⟩] y.2.2.2.2.2)
  (fun y=>ps.length - y.1) ?_ (0,[],.Af,.Af,.Af,σ) ⟨by simp,rfl,hown0⟩
 rintro ⟨i,dl,outv,nv,usedv,τ⟩ ⟨hi,hgo,hown⟩ ih;simp only at hi hgo hown;have hn:=hown.head;have hout:=hown.tail.head;have hus:=hown.tail.tail.head;simp only at hn hout hus;obtain ⟨f1,f2,f3,f4,f5⟩:=QK hgo;have hlen:dl.length=i:=by rw [f3,Bi];omega
 by_cases hlt:i < ps.length
 . obtain ⟨d,hd⟩:=Ak hlt;have he:=BR (enc:=DE.enc) hd;have hw1:=A7 (show i+1<=9000000000000000000 by omega);obtain ⟨hc1,hc2⟩:=hps d (AD hd);have hhd:=ACZ ps d i hd (by omega)
   have hul:(K1 (ps.take i)).length<=100000:=by
    have:=pE (n:=1000) (l:=ps.take i) (fun d hd=>(hps d (DP hd)).1);rw [Bi] at this;have:min i ps.length * 1000<=12 * 1000:=Bp _ (by omega);omega
   have hall:DR [] ps=(DR (ps.take i) (d::ps.drop (i+1))).map (dl++·):=by
    conv=>lhs;rw [<- Ac i ps,Bv hd]
    exact Rz _ hgo
   have hsn:DR [] (ps.take (i+1))=(DR (ps.take i) [d]).map (dl++·):=by
    rw [Ae hd];exact Rz _ hgo
   rw [DR,Nb] at hall hsn
   have hheads:(CR (ps.take (i+1))).map (·.1)=(CR (ps.take i)).map (·.1)++[d.name]:=by
    rw [Ae hd];simp [CR]
   have huse:K1 (ps.take (i+1))=K1 (ps.take i)++d.cons.map (·.name):=by
    rw [Ae hd];simp [K1]
   have hfi:=dN ((CR (ps.take i)).map (·.1)) d.name nv hn.plain τ;have hin:(DK ((CR (ps.take i)).map (·.1)) d.name).isSome=((CR (ps.take i)).map (·.1)).contains d.name:=Mn _ _;have htw:=uW d.vars τ;have hhl:((CR (ps.take i)).map (·.1)).length=i:=by simp [CR];omega
   obtain ⟨dn,dvs',dcs⟩:=d;simp only [DE.enc] at he hall hsn hheads huse hfi hin hhd hc1 hc2 htw;rw [<- hin] at hall hsn;simp only [Bi,Gg hi] at hall;cases hix:DK ((CR (ps.take i)).map (·.1)) dn with
   |some q=>
    rw [hix] at hfi hall;simp only [Cn,NK,if_true,CW] at hall;have hxe:=herr 4 i hall;have hge:decide ((0:Int)<=(q:Int))=true:=by simp
    simp only [Hm] at hfi;(repeat' ((first|refine wQ mxQ rfl ?_|(refine AJ.mk (by simp only [Bf,Fq,hn.BF,Be,BW];rfl) hfi ?_;rintro _ _ ⟨rfl,rfl⟩)|(refine Run.CK Lx (σ2:=σ) hn.le ?_)|fail)<;>try simp only [Ag hlt,he,hge,AA,hn.BT,hout.BT,hus.BT,go_sem]));exact hxe
   |none=>
   rw [hix] at hfi hall hsn;simp only [Hm] at hfi;simp only [Cm,ED] at hall hsn;have hge:decide ((0:Int)<=-1)=false:=by decide
   cases htb:Cy dvs' with
   |true=>
    rw [htb] at htw hall;simp only [if_true,CW] at hall;have hxe:=herr 4 i hall;(repeat' ((first|refine wQ mxQ rfl ?_|(refine AJ.mk (by simp only [Bf,Fq,hn.BF,Be,BW];rfl) hfi ?_;rintro _ τ ⟨rfl,rfl⟩)|(refine Run.CK Lx (σ2:=σ) hn.le ?_)|refine AJ.det (htw) ?_|fail)<;>try simp only [Ag hlt,he,hge,AA,hn.BT,hout.BT,hus.BT,go_sem]));exact hxe
   |false=>
   rw [htb] at htw hall hsn;simp only [AZ,if_false] at hall hsn;(repeat' ((first|refine wQ mxQ rfl ?_|(refine AJ.mk (by simp only [Bf,Fq,hn.BF,Be,BW];rfl) hfi ?_;rintro _ τ ⟨rfl,rfl⟩)|(refine E6.AEA (cx:=FW) hown rfl (by simp) (by rw [AA,hhl];simp;omega) (by decide) (fun v2 τ2 ho2 hbk=>?_))|refine AJ.det (htw) ?_|fail)<;>try simp only [Ag hlt,he,hge,AA,hn.BT,hout.BT,hus.BT,go_sem]));have hn2:=ho2.head;simp only at hn2;simp only [hn2.BT,AZ,if_false]
   have hnp:v2.plain= .d (.sl (((CR (ps.take i)++[(dn,dvs'.length)]).map (·.1)).map Bb)):=by
    rw [hn2.plain];simp [Bb]
   have hou2:Iw σ [⟨9,1,(K1 (ps.take i)).map Bb,usedv⟩,⟨9,1,((CR (ps.take i)).map (·.1)).map Bb++[[.str dn]],v2⟩,⟨110,3,dl.map Dat.enc,outv⟩] τ2:=
    ho2.perm (List.perm_append_comm (l₁:=[_,_]) (l₂:=[_]))
   refine zI Q _ ps fs (CR (ps.take i)++[(dn,dvs'.length)]) dn dvs' dcs hhd i hc1 hc2 σ τ2 outv v2 usedv (.d (.str dn)) (.d (.int .i64 dvs'.length)) ⟨rfl,rfl⟩ (K1 (ps.take i)) hul _ hou2 hn2.le hnp hn2.BF (fun k=>⟨hn2.BT k,hout.BT k⟩) (fun e he'=>?_) (fun us usedv' consv' τ3 hts ho3 hle3=>?_)
   . rw [he'] at hall;exact herr e i hall
   . rw [hts] at hsn;simp only [DR,CW] at hsn
     have ho4:Iw σ [⟨110,3,dl.map Dat.enc,outv⟩,⟨9,1,(K1 (ps.take i)++dcs.map (·.name)).map Bb,usedv'⟩,⟨112,2,us.map Con.enc,consv'⟩,⟨9,1,((CR (ps.take i)).map (·.1)).map Bb++[[.str dn]],v2⟩] τ3:=
      ho3.perm (List.perm_append_comm (l₁:=[_,_,_]) (l₂:=[_]))
     have hu3:=ho3.head;have hc3:=ho3.tail.head;simp only at hu3 hc3;(repeat' ((first|refine wQ mxQ rfl ?_|(refine E6.AEA (cx:=FW) ho4 rfl (by simp) (by simp [hlen];omega) (by decide) (fun v5 τ5 ho5 hbk5=>?_))|fail)<;>try simp only [hw1,hc3.cell,hc3.cells,hc3.dv,AA,hn2.BT,hout.BT,hu3.BT,go_sem]));have ho6:=ho5.perm (List.perm_append_comm (l₁:=[_,_]) (l₂:=[_,_]));have h5:=ho5.head;simp only at h5
     exact ih (i+1,dl++[(⟨dn,dvs'.length,us⟩:Dat)],v5,v2,usedv',τ5) ⟨by simp only;omega,hsn,by
      have:=ho6.tail;simp only [hheads,huse];simpa [Dat.enc,Bb] using this⟩ (by simp only;omega)
 . rw [AO (by omega)] at hgo;have hfin:=hok dl hgo;(repeat' ((first|refine wQ mxQ rfl ?_|(refine Run.CK Lx (σ2:=σ) hn.le ?_)|fail)<;>try simp only [Bk hlt,AA,hn.BT,hout.BT,hus.BT,hout.BF,go_sem]));simp only [hout.plain,hout.BF,go_sem];exact hfin
end Go.Ab
namespace Go.Ab
open Go.Proofs
def wkB (ps:List DE) (fs:List FE) (dt:List Dat) (n:Int) (uv:AV):List AV:=[.d (.sl (ps.map DE.enc)),.d (.sl (fs.map FE.enc)),.d (.sl (dt.map Dat.enc)),.d (.int .i64 n),uv]
end Go.Ab
namespace Go.Ab
open Go.Proofs
def WS (σ0:AH) (j:Nat) (ps:List DE) (fs:List FE) (dt:List Dat) (n:Nat) (us:List Nat) (τ:AH):Prop:=
 ∃uv,τ.blk j=some (wkB ps fs dt n uv)/\C4 σ0 3 1 (us.map CC) uv τ/\σ0.blk j=none
theorem WS.le {σ0:AH} {j:Nat} {ps:List DE} {fs:List FE} {dt:List Dat} {n:Nat} {us:List Nat} {τ:AH} (h:WS σ0 j ps fs dt n us τ):σ0.le τ:=by
 obtain ⟨uv,_,h,_⟩:=h;exact h.le
end Go.Ab
namespace Go.Ab
open Go.Proofs
theorem WS.new {σ τ:AH} {j:Nat} (ps:List DE) (fs:List FE) (dt:List Dat) (hle:σ.le τ) (hj:τ.blk j=none):WS σ j ps fs dt 0 [] (τ.AM j (wkB ps fs dt 0 .Af)):=by
 have hj0:σ.blk j=none:=by
  cases hc:σ.blk j with
  |none=>rfl
  |some c=>rw [hle.blk j c hc] at hj;cases hj
 have hl:=Db (cs:=wkB ps fs dt 0 .Af) hle hj0;exact ⟨.Af,by rw [AI,if_pos rfl];rfl,⟨⟨_,rfl,hl⟩,hl,rfl,rfl,rfl,rfl,fun _=>rfl,rfl,rfl⟩,hj0⟩
end Go.Ab
namespace Go.Ab
open Go.Proofs
set_option maxRecDepth 100000
set_option maxHeartbeats 40000000
noncomputable section
def Lj:List (Nat×PT):=[(13,(pO [0,1,3,4,5,8,2,6,7] .done))]
noncomputable def EF:Cx:=⟨Tzp,4,Tryz.f4,103,[9,300014,300018,300023,300027,300032,300035,300040,300043,300048,300056,300059,300067,300072,300074,300081,300084,300095,300097],[],[.t 2]⟩
theorem F7:Good EF:=⟨Tryz.func4,by kernel_rfl⟩
theorem Th:EF.rs=[.t 2]:=rfl
noncomputable def F8:=BO EF Lj fun c a b d=>G c [a,b,d]
def G6:C:=lpC 0 (F8 .skip .skip .skip)
def JM:C:=lpC 1 (F8 G6 .skip .skip)
def JN:C:=lpC 2 (F8 G6 JM .skip)
def U1:C:=(F8 G6 JM JN).1
theorem Ud:Inn EF U1 103:=inn Lj F7 Tryz.ntmps4
noncomputable def MV:Cx:=⟨Tzp,11,Tryz.f11,40,[300010,300015,300019,300025,300033],[],[.t 0]⟩
theorem Xr:Good MV:=⟨Tryz.func11,by kernel_rfl⟩
theorem kG:MV.rs=[.t 0]:=rfl
noncomputable def mM:=BO MV [] (G · [])
def lR:C:=(mM).1
theorem mC:Inn MV lR 40:=inn [] Xr Tryz.ntmps11
noncomputable def HD:Cx:=⟨Tzp,13,Tryz.f13,37,[300008,300011,300021,300026,300032],[],[.t 4]⟩
theorem SD:Good HD:=⟨Tryz.func13,by kernel_rfl⟩
theorem Zv:HD.rs=[.t 4]:=rfl
noncomputable def SW:=BO HD [] fun c a=>G c [a]
def N9:C:=lpC 0 (SW .skip)
def aP:C:=(SW N9).1
theorem bK:Inn HD aP 37:=inn [] SD Tryz.ntmps13
noncomputable def UJ:Cx:=⟨Tzp,14,Tryz.f14,16,[300007,300012],[],[.t 6]⟩
theorem Y4:Good UJ:=⟨Tryz.func14,by kernel_rfl⟩
theorem vC:UJ.rs=[.t 6]:=rfl
noncomputable def yQ:=BO UJ [] (G · [])
def wZ:C:=(yQ).1
theorem yE:Inn UJ wZ 16:=inn [] Y4 Tryz.ntmps14
noncomputable def XA:Cx:=⟨Tzp,42,Tryz.f42,21,[300007,300014],[],[.t 2]⟩
theorem oI:Good XA:=⟨Tryz.func42,by kernel_rfl⟩
theorem zR:XA.rs=[.t 2]:=rfl
noncomputable def oM:=BO XA [] fun c a=>G c [a]
def pW:C:=lpC 0 (oM .skip)
def AB9:C:=(oM pW).1
theorem AC2:Inn XA AB9 21:=inn [] oI Tryz.ntmps42
noncomputable def PY:Cx:=⟨Tzp,43,Tryz.f43,112,[300010,300013,300019,300028,300032,300043,300047,300056,300065,300079,300088,300105],[],[.t 6]⟩
theorem B6:Good PY:=⟨Tryz.func43,by kernel_rfl⟩
theorem vD:PY.rs=[.t 6]:=rfl
noncomputable def jE:=BO PY [] fun c a=>G c [a]
def Xn:C:=lpC 0 (jE .skip)
def w6:C:=(jE Xn).1
theorem yF:Inn PY w6 112:=inn [] B6 Tryz.ntmps43
attribute [go_sem] Th kG Zv vC zR vD
end
end Go.Ab
namespace Go.Ab
open Go.Proofs
def idP:Pg:=⟨[],[⟨[102],[[120]],.mk 4 [120] 0 [] [] []⟩]⟩
theorem AA1:Oh idP=(0,0,0):=by decide+kernel
theorem xW {gs:List (List Nat)} (h1:∀ms∈gs,ms≠[]) (h2:gs.flatten.Nodup) (h3:∀k,k∈gs.flatten↔k < 1):gs=[[0]]:=by
 have h0:gs.flatten=[0]:=by
  generalize gs.flatten=l at *;cases l with
  |nil=>have:=(h3 0).2 (by omega);simp at this
  |cons a l=>
   have ha:=(h3 a).1 (AW);have ha:a=0:=by omega
   subst ha;cases l with
   |nil=>rfl
   |cons b l=>
    have hb:=(h3 b).1 (by simp);have hb:b=0:=by omega
    subst hb;simp at h2
 cases gs with
 |nil=>simp at h0
 |cons ms gs=>
  cases ms with
  |nil=>exact absurd rfl (h1 [] (AW))
  |cons a ms=>
   rw [BK,AX] at h0;simp only [List.cons.injEq,List.append_eq_nil_iff] at h0;obtain ⟨rfl,rfl,hf⟩:=h0;cases gs with
   |nil=>rfl
   |cons m2 gs=>
    rw [BK,List.append_eq_nil_iff] at hf;exact absurd hf.1 (h1 m2 (by simp))
def idR:HQ:=([⟨1,[.mk 4 0 []],.mk 4 0 []⟩],[[(.mk 4 0 [],[])]])
theorem AC3:IX idP= .ok idR:=by
 have hc:(Oh idP).1=0:=by rw [AA1]
 obtain ⟨h1,h2,h3,_⟩:=Z5 hc;have hg:=xW h1 h2 h3;have hd:IL idP= .ok []:=by kernel_rfl
 have hi:GJ idP.G7 [] [[0]] (AE idP.G7.length cO,AE idP.G7.length [])= .ok idR:=by kernel_rfl
 unfold IX;rw [AA1,hd,hg];simp only [ne_eq,not_true,if_false,hi]
theorem jI (σ:AH):AS Tzp 11 [] σ (fun v σ'=>v= .d (.bool true)/\σ'=σ):=by
 have hc:=(UY idP (fun d hd=>by cases hd) (by decide) σ).mono (Q':=fun v σ'=>v=T0 (.ok idR)/\σ'=σ) fun v σ' h=>by rw [<- AC3];exact h.1
 refine mC (by simp) ?_;rw [show VL []=U from by funext s;simp [VL,U]];simp only [pgA,idP,Pg.enc,FE.enc,Ex.A4,AG,AN,T0,idR,NF,eZ,PE,Ty.enc,Ty.IM,Ty.kind,Ty.num,Ty.args,AX,Aj] at hc
 have hc':AS Tzp 8 [.agg [.Af,.d (.sl [[.str [102],.sl [[.str [120]]],.int .i64 4,.str [120],.int .i64 0,.sl [],.sl [],.sl []]])]] σ _:=
  AS.plain (by simp only [AV.CX,S7,KC,Jh];exact hc)
 (repeat' ((first|refine wQ mxQ rfl ?_|refine Run.qP Xr ?_|refine AJ.det (hc') ?_|fail)<;>try simp only [Int.le_refl,Int.toNat_zero,go_sem]))
end Go.Ab
namespace Go.Ab
def Bj (data:List Dat) (vars k n:Int) (len:Nat):Bool:=
 if k=1\/k=2\/k=3 then (n==0)&&(len==0)
                               else if k=4 then decide (0<=n)&&decide (n < vars)&&(len==0)
                               else if k=5 then decide (0<=n)&&(match data[n.toNat]? with|some d=>((len:Int)==d.vars)|none=>false)
                               else if k=6 then (n==0)&&decide (2<=len)&&decide (len<=6)
                               else if k=7\/k=8 then (n==0)&&(len==1)
                               else if k=9 then (n==0)&&decide (1<=len)&&decide (len<=7)
                               else false
mutual
def DG (data:List Dat) (vars:Int):Ty->Bool
 | .mk k n l=>Bj data vars k n l.length&&Dt data vars l
def Dt (data:List Dat) (vars:Int):List Ty->Bool
 |[]=>true
 |t::l=>DG data vars t&&Dt data vars l
end
theorem aF (data:List Dat) (vars:Int) (t:Ty):∀l:List Ty,Dt data vars (l++[t])=(Dt data vars l&&DG data vars t)
 |[]=>by simp [Dt]
 |u::l=>by simp only [AX,Dt,aF data vars t l,Bool.and_assoc]
theorem dR (data:List Dat) (vars:Int):∀l m:List Ty,Dt data vars (l++m)=(Dt data vars l&&Dt data vars m)
 |[],m=>by simp [Dt]
 |u::l,m=>by simp only [AX,Dt,dR data vars l m,Bool.and_assoc]
theorem vU {data:List Dat} {vars:Int} {l:List Ty} {i:Nat} {t:Ty} (h:l[i]?=some t) (hv:DG data vars t=false):Dt data vars l=false:=by
 rw [<- Ac i l,dR,Bv h,Dt,hv];simp
end Go.Ab
namespace Go.Ab
mutual
def fC:Nat->Ty->Option Nat
 |next,.mk k n us=>if k=4 then (if n < 0\/n>(next:Int) then none else KR (max next (n.toNat+1)) us) else KR next us
def KR:Nat->List Ty->Option Nat
 |next,[]=>some next
 |next,t::ts=>match fC next t with
  |none=>none
  |some m=>KR m ts
end
theorem ABB {v:Nat}:∀ {vs:List Nat} {i k:Nat},vs.Nodup->vs[i]?=some v->(fB vs k).lookup (v:Int)=some ((k+i:Nat):Int)
 |u::vs,0,k,h,hi=>by
  simp only [Av,AK] at hi;subst hi;rw [O6,List.lookup_cons];simp
 |u::vs,i+1,k,h,hi=>by
  rw [XE] at h;have hi:vs[i]?=some v:=by simpa using hi
  have hne:((v:Int)==(u:Int))=false:=by
   have:v≠u:=fun e=>h.1 (by rw [<- e];exact AD hi);rw [beq_eq_false_iff_ne];omega
  rw [O6,List.lookup_cons,hne];simp only;rw [ABB h.2 hi,show k+1+i=k+(i+1) from by omega]
theorem ABA {v:Nat} {vs:List Nat} {i:Nat} (h:vs.Nodup) (hi:vs[i]?=some v):(Ct vs).lookup (v:Int)=some (i:Int):=by
 rw [Ct,ABB h hi,BU]
theorem AN6 {l:List Nd} {d:Nat->Nat} (hg:ER l) (h:FR l d) {dt:List Dat} (hnv:NV dt l) {vs:List Nat} (hnd:vs.Nodup):∀(N n:Nat) (acc tl:List Nat),n < l.length->d (rtN l n)<=N->vs=I9 acc (lvN l n)++tl->fC acc.length (rdN l (Ct vs) n)=some (I9 acc (lvN l n)).length:=by
 intro N
 induction N using FT with
 |_ N ih=>
 intro n acc tl hn hd hv;obtain ⟨x,hx,hp⟩:=hg.root hn;have hsx:=hnv x (AD hx);rw [cH hg h hx hp];have hlv:=yU hg h hx hp;by_cases hk:x.k=0
 . rw [if_pos hk]
   have hx0:x.ar=[]:=by
    rcases hsx with h|h|h|h|h
    . exact Ay h.2.2
    all_goals omega
   rw [hx0,if_pos hk] at hlv;simp only [List.flatMap_nil,BX] at hlv;rw [hlv] at hv ⊢;have hone:∀a:List Nat,I9 a [rtN l n]=if rtN l n∈a then a else a++[rtN l n]:=fun a=>rfl
   by_cases hm:rtN l n∈acc
   . rw [hone,if_pos hm] at hv ⊢;obtain ⟨i,hi⟩:=II hm;have hil:=(AF.1 hi).1;have hvi:vs[i]?=some (rtN l n):=by rw [hv];exact iP hi tl
     rw [ABA hnd hvi];simp only;rw [fC,if_pos rfl,if_neg (by omega),KR];congr 1;omega
   . rw [hone,if_neg hm] at hv ⊢;have hvi:vs[acc.length]?=some (rtN l n):=by rw [hv,B4,At (AR _)];simp
     rw [ABA hnd hvi];simp only;rw [fC,if_pos rfl,if_neg (by omega),KR];congr 1;simp only [A1,C1];omega
 . rw [if_neg hk];have hk4:x.k≠4:=by rcases hsx with h|h|h|h|h<;>omega
   rw [if_neg hk,Aj] at hlv;rw [fC,if_neg hk4];rw [hlv] at hv ⊢
   have hus:∀(us:List Nat) (acc tl:List Nat),(∀a∈us,a∈x.ar)->vs=I9 acc (us.flatMap (lvN l))++tl->KR acc.length (us.map (rdN l (Ct vs)))=some (I9 acc (us.flatMap (lvN l))).length:=by
    intro us
    induction us with
    |nil=>intro acc tl _ _;rfl
    |cons a us ih2=>
     intro acc tl ha hv;rw [DD,VI] at hv ⊢;obtain ⟨t2,ht2⟩:=gM (us.flatMap (lvN l)) (I9 acc (lvN l a));have hda:=h.lt _ x hx hp a (ha a (AW));have h1:=ih (d (rtN l a)) (by omega) a acc (t2++tl) (hg.ar _ x hx a (ha a (AW))) (AR _) (by rw [hv,ht2,B4]);rw [AG,KR,h1];exact ih2 _ tl (fun b hb=>ha b (AU _ hb)) hv
   exact hus x.ar acc tl (fun a ha=>ha) hv
theorem ABH {l:List Nd} {d:Nat->Nat} (hg:ER l) (h:FR l d) {dt:List Dat} (hnv:NV dt l) {vs:List Nat} (hnd:vs.Nodup):∀(us:List Nat) (acc tl:List Nat),(∀a∈us,a < l.length)->vs=I9 acc (us.flatMap (lvN l))++tl->KR acc.length (us.map (rdN l (Ct vs)))=some (I9 acc (us.flatMap (lvN l))).length
 |[],acc,tl,_,_=>rfl
 |a::us,acc,tl,ha,hv=>by
  rw [DD,VI] at hv ⊢;obtain ⟨t2,ht2⟩:=gM (us.flatMap (lvN l)) (I9 acc (lvN l a));have h1:=AN6 hg h hnv hnd (d (rtN l a)) a acc (t2++tl) (ha a (AW)) (AR _) (by rw [hv,ht2,B4]);rw [AG,KR,h1];exact ABH hg h hnv hnd us _ tl (fun b hb=>ha b (AU _ hb)) hv
theorem AES {dt:List Dat} {k n vars:Int} {m:Nat} (h:shp dt k n m) (hk:k≠0):Bj dt vars k n m=true:=by
 unfold Bj;rcases h with ⟨h1,rfl,rfl⟩|⟨rfl,D,h1,h2,h3⟩|⟨rfl,rfl,h1,h2⟩|⟨h1,rfl,rfl⟩|⟨rfl,rfl,h1,h2⟩
 . rw [if_pos (by omega)];rfl
 . rw [if_neg (by omega),if_neg (by omega),if_pos rfl,h2];simp [h1,h3]
 . rw [if_neg (by omega),if_neg (by omega),if_neg (by omega),if_pos rfl];simp [h1,h2]
 . rw [if_neg (by omega),if_neg (by omega),if_neg (by omega),if_neg (by omega),if_pos h1];rfl
 . rw [if_neg (by omega),if_neg (by omega),if_neg (by omega),if_neg (by omega),if_neg (by omega),if_pos rfl];simp [h1,h2]
theorem AH8 {l:List Nd} {d:Nat->Nat} (hg:ER l) (h:FR l d) {dt:List Dat} (hnv:NV dt l) (vs:List Nat):∀(N n:Nat),n < l.length->d (rtN l n)<=N->DG dt (vs.length:Int) (rdN l (Ct vs) n)=true:=by
 intro N
 induction N using FT with
 |_ N ih=>
 intro n hn hd;obtain ⟨x,hx,hp⟩:=hg.root hn;have hsx:=hnv x (AD hx);rw [cH hg h hx hp];split
 . split
   . rename_i i hi;obtain ⟨k,rfl,v,hv,_⟩:=cB hi;have:=(AF.1 hv).1;rw [DG,Dt];unfold Bj;rw [if_neg (by omega),if_pos rfl];simp;omega
   . rw [DG,Dt];rfl
 . rename_i hk;rw [DG,AA,AES hsx hk,BW]
   have hus:∀us:List Nat,(∀a∈us,a∈x.ar)->Dt dt (vs.length:Int) (us.map (rdN l (Ct vs)))=true:=by
    intro us
    induction us with
    |nil=>intro _;rfl
    |cons a us ih2=>
     intro ha;have hda:=h.lt _ x hx hp a (ha a (AW));rw [AG,Dt,ih (d (rtN l a)) (by omega) a (hg.ar _ x hx a (ha a (AW))) (AR _),ih2 fun b hb=>ha b (AU _ hb)];rfl
   exact hus x.ar fun a ha=>ha
def AFH (dt:List Dat) (r:HQ) (f:Nat):Prop:=∃s nt,r.1[f]?=some s/\r.2[f]?=some nt/\(∃m:Nat,s.vars=(m:Int)/\m<=100000/\KR 0 (s.params++[s.res])=some m)/\s.params.length<=100000/\
 (∀t∈s.params++[s.res],t.size<=200/\DG dt s.vars t=true)/\∀n∈nt,n.1.size<=200/\DG dt s.vars n.1=true
theorem dW.gen {fs:List FE} {dt:List Dat} {r:HQ} {f:Nat} (h:dW fs dt r f) (hf:f < fs.length) (hp:∀fe∈fs,fe.params.length<=6):AFH dt r f:=by
 obtain ⟨l,d,G,en,pl,rf,hg,hd,hnv,h1,h2,hpl,hrf,hen,hln⟩:=h;obtain ⟨fe,hfe⟩:=Ak hf;have hpn:=(hln fe hfe).1;have hp6:=hp fe (AD hfe)
 have hts:∀a∈pl++[rf],a < l.length/\szN l a<=200:=fun a ha=>by
  rcases AY.1 ha with ha|ha
  . exact hpl a ha
  . simp only [A3] at ha;subst ha;exact hrf
 have hvs:Cw l pl rf=I9 [] ((pl++[rf]).flatMap (lvN l)):=ABP hg hd fun a ha=>(hts a ha).1;have hnd:(Cw l pl rf).Nodup:=(lF hg fun a ha=>(hts a ha).1).1;have hlen:=vR hg hd (ts:=pl++[rf]) (fun a ha=>(hts a ha).1) (fun a ha=>(hts a ha).2);change (Cw l pl rf).length<=_ at hlen;generalize Cw l pl rf=vs at *
 have hty:∀a,a < l.length->szN l a<=200->(rdN l (Ct vs) a).size<=200/\DG dt (vs.length:Int) (rdN l (Ct vs) a)=true:=fun a h1 h2=>
  ⟨Ah (uY hg hd (d (rtN l a)) a h1 (AR _) h2) h2,AH8 hg hd hnv vs (d (rtN l a)) a h1 (AR _)⟩
 have hmap:(QC l (Ct vs) pl rf vs.length).params++[(QC l (Ct vs) pl rf vs.length).res]=(pl++[rf]).map (rdN l (Ct vs)):=by simp [QC]
 refine ⟨_,_,h1,h2,⟨vs.length,rfl,by simp only [A1,C1] at hlen;omega,?_⟩,by simp [QC];omega,fun t ht=>?_,fun n hn=>?_⟩
 . rw [hmap];have:=ABH hg hd hnv hnd (pl++[rf]) [] [] (fun a ha=>(hts a ha).1) (by rw [BX];exact hvs);rw [<- hvs] at this;exact this
 . rw [hmap] at ht;obtain ⟨a,ha,rfl⟩:=Ck.1 ht;exact hty a (hts a ha).1 (hts a ha).2
 . obtain ⟨x,hx,rfl⟩:=Ck.1 hn;obtain ⟨⟨g1,g2⟩,_⟩:=hen x hx;exact hty x.t g1 g2
end Go.Ab
namespace Go.Ab
open Go.Proofs
theorem eqB {a b:Int} (h:a=b):(a != b)=false:=by simpa using h
theorem neB {a b:Int} (h:a≠b):(a != b)=true:=by simpa using h
theorem gtF {n:Nat} {c:Int} (h:c < (n:Int)):decide (c < (n:Int))=true:=by simpa using h
theorem gtG {n:Nat} {c:Int} (h:¬c < (n:Int)):decide (c < (n:Int))=false:=by simpa using h
theorem AP4 {n:Nat} {c:Int} (h:(n:Int) < c):decide ((n:Int) < c)=true:=by simpa using h
theorem AKM {n:Nat} {c:Int} (h:¬(n:Int) < c):decide ((n:Int) < c)=false:=by simpa using h
theorem zK:∀(n:Nat) (t:Ty) (σ:AH),t.size<=n->n<=1000000->AS Tzp 42 [tyA t] σ (fun v σ'=>v= .d (.int .i64 t.size)/\σ'=σ):=by
 intro n
 induction n using FT with
 |_ n ih=>
  intro t σ hn hm;obtain ⟨kd,nm,l⟩:=t;refine AC2 (by simp) ?_;rw [Bs];have hsz:(Ty.mk kd nm l).size=1+Ty.AT l:=rfl;(repeat' (refine wQ mxQ rfl ?_<;>try simp only [go_sem]));refine Run.BB ?_
  refine Run.BG ((fun (a1:AV)=>fun (y:Nat×Nat)=>put 1 a1 (put 3 (.d (.int .i64 (y.2:Int))) (put 4 (.d (.int .i64 y.1)) U))) _) (fun _=>Ar 1 [.d (.int .i64 kd),.d (.int .i64 nm),.d (.sl (Ty.IM l))] E) (fun _=>σ)
   (fun y=>y.1<=l.length/\y.2=1+Ty.AT (l.take y.1)) (fun y=>l.length - y.1) ?_ (0,1) ⟨by simp,by simp [Ty.AT]⟩
  rintro ⟨i,q⟩ ⟨hi,hq⟩ ih2;simp only at hi hq
  have hil:i<=n:=by
   have:=AAA (l.take i);have:=H2 l i;simp at *;omega
  by_cases hlt:i < l.length
  . obtain ⟨t',ht⟩:=Ak hlt;have hs1:Ty.AT (l.take (i+1))=Ty.AT (l.take i)+t'.size:=by rw [Ae ht,Yt]
    have hs2:=H2 l (i+1);obtain ⟨kd',nm',al⟩:=t';have he:=AAT ht;have hw1:=A7 (show i+1<=9000000000000000000 by omega);have hw2:=wrap_add (show q+(Ty.mk kd' nm' al).size<=9000000000000000000 by omega);have hcall:=ih ((Ty.mk kd' nm' al).size) (by omega) (.mk kd' nm' al) σ (AR _) (by omega);(repeat' ((first|refine wQ mxQ rfl ?_|refine AJ.det (hcall) ?_|fail)<;>try simp only [B0,Ag hlt,he,hw1,hw2,go_sem]));exact ih2 (i+1,q+(Ty.mk kd' nm' al).size) ⟨by simp only;omega,by simp only;omega⟩ (by simp only;omega)
  . (repeat' ((first|refine wQ mxQ rfl ?_|refine Run.qP oI ?_|fail)<;>try simp only [B0,Bk hlt,go_sem]));rw [AO (by omega)] at hq;rw [hsz,hq]
theorem eqN (a:Nat) (b:Nat):((a:Int)==(b:Int))=(a==b):=by
 rw [Ax];simp;omega
theorem QS (a:Nat):((a:Int)==0)=(a==0):=eqN a 0
theorem uX (data:List Dat) (vars:Int):∀(n:Nat) (t:Ty) (σ:AH),t.size<=n->n<=1000000->AS Tzp 43 [dsA data,tyA t,.d (.int .i64 vars)] σ (fun v σ'=>v= .d (.bool (DG data vars t))/\σ'=σ):=by
 intro n
 induction n using FT with
 |_ n ih=>
  intro t σ hn hm;obtain ⟨kd,nm,l⟩:=t;have hsz:(Ty.mk kd nm l).size=1+Ty.AT l:=rfl;have hll:=AAA l;refine yF (by simp) ?_;rw [D6,dsA]
  -- the arguments, once the shape is right
  have hloop:Bj data vars kd nm l.length=true->∀(k:List CI),k=[.code (.seq (.reg [⟨some 6,.mv (.c (.d (.bool true))),none⟩] [6]) .ret)]->
   Run PY (fun v σ'=>v= .d (.bool (DG data vars (.mk kd nm l)))/\σ'=σ) (.again Xn::.blk 1::k) (put 0 (.d (.sl (data.map Dat.enc))) (put 2 (.d (.int .i64 vars)) (put 4 (.lp 4 0) (put 7 (.d (.int .i64 l.length)) (put 8 (.d (.int .i64 ((0:Nat):Int))) U))))) (Ar 4 [.d (.int .i64 kd),.d (.int .i64 nm),.d (.sl (Ty.IM l))] E) σ:=by
   rintro hs k rfl
   refine Run.BG (fun i:Nat=>put 0 (.d (.sl (data.map Dat.enc))) (put 2 (.d (.int .i64 vars)) (put 4 (.lp 4 0) (put 7 (.d (.int .i64 l.length)) (put 8 (.d (.int .i64 (i:Int))) U))))) (fun _=>Ar 4 [.d (.int .i64 kd),.d (.int .i64 nm),.d (.sl (Ty.IM l))] E) (fun _=>σ)
    (fun i=>i<=l.length/\Dt data vars (l.take i)=true) (fun i=>l.length - i) ?_ 0 ⟨by simp,by simp [Dt]⟩
   rintro i ⟨hi,hok⟩ ih2;by_cases hlt:i < l.length
   . obtain ⟨t',ht⟩:=Ak hlt;have hs1:Ty.AT (l.take (i+1))=Ty.AT (l.take i)+t'.size:=by rw [Ae ht,Yt]
     have hs2:=H2 l (i+1);have hv1:Dt data vars (l.take (i+1))=(Dt data vars (l.take i)&&DG data vars t'):=by rw [Ae ht,aF]
     have hbad:=vU (data:=data) (vars:=vars) ht;obtain ⟨kd',nm',al⟩:=t';have he:=AAT ht;have hw1:=A7 (show i+1<=9000000000000000000 by omega);have hcall:=ih ((Ty.mk kd' nm' al).size) (by omega) (.mk kd' nm' al) σ (AR _) (by omega);cases hv:DG data vars (.mk kd' nm' al) with
     |true=>
      rw [hv] at hcall hv1;(repeat' ((first|refine wQ mxQ rfl ?_|refine AJ.det (hcall) ?_|fail)<;>try simp only [Ag hlt,he,hw1,go_sem]));exact ih2 (i+1) ⟨by omega,by rw [hv1,hok];rfl⟩ (by omega)
     |false=>
      rw [hv] at hcall;(repeat' ((first|refine wQ mxQ rfl ?_|refine Run.qP B6 ?_|refine AJ.det (hcall) ?_|fail)<;>try simp only [Ag hlt,he,hw1,go_sem]));simp [DG,hbad hv]
   . rw [AO (by omega)] at hok;(repeat' ((first|refine wQ mxQ rfl ?_|refine Run.qP B6 ?_|fail)<;>try simp only [Bk hlt,go_sem]));simp [DG,hs,hok]
  have hno:Bj data vars kd nm l.length=false->AV.d (.bool false)= .d (.bool (DG data vars (.mk kd nm l))):=fun h=>by simp [DG,h]
  have hemp:l.length=0->Dt data vars l=true:=fun h=>by rw [List.length_eq_zero_iff.1 h];rfl
  by_cases k1:kd=1
  . subst k1;have e1:((1:Int)==1)=true:=by decide
    have e2:((1:Int)==2)=false:=by decide
    have e3:((1:Int)==3)=false:=by decide
    have e4:((1:Int)==4)=false:=by decide
    have e5:((1:Int)==5)=false:=by decide
    have e6:((1:Int)==6)=false:=by decide
    have e7:((1:Int)==7)=false:=by decide
    have e8:((1:Int)==8)=false:=by decide
    have e9:((1:Int)==9)=false:=by decide
    by_cases hn:nm=0
    case neg=>
     (repeat' ((first|refine wQ mxQ rfl ?_|refine Run.qP B6 ?_|fail)<;>try simp only [e1,e2,e3,e4,e5,e6,e7,e8,e9,B0,Cr hn,go_sem]));simp [DG,Bj,hn]
    cases hl:(l.length==0) with
    |true=>
     (repeat' ((first|refine wQ mxQ rfl ?_|refine Run.qP B6 ?_|fail)<;>try simp only [e1,e2,e3,e4,e5,e6,e7,e8,e9,B0,AB1 hn,QS,hl,go_sem]));have h0:l.length=0:=by simpa using hl
     simp [DG,Bj,hn,h0,hemp h0]
    |false=>
     (repeat' ((first|refine wQ mxQ rfl ?_|refine Run.qP B6 ?_|fail)<;>try simp only [e1,e2,e3,e4,e5,e6,e7,e8,e9,B0,AB1 hn,QS,hl,go_sem]));have h0:¬l.length=0:=by simpa using hl
     simp [DG,Bj,hn,h0]
  by_cases k2:kd=2
  . subst k2;have e1:((2:Int)==1)=false:=by decide
    have e2:((2:Int)==2)=true:=by decide
    have e3:((2:Int)==3)=false:=by decide
    have e4:((2:Int)==4)=false:=by decide
    have e5:((2:Int)==5)=false:=by decide
    have e6:((2:Int)==6)=false:=by decide
    have e7:((2:Int)==7)=false:=by decide
    have e8:((2:Int)==8)=false:=by decide
    have e9:((2:Int)==9)=false:=by decide
    by_cases hn:nm=0
    case neg=>
     (repeat' ((first|refine wQ mxQ rfl ?_|refine Run.qP B6 ?_|fail)<;>try simp only [e1,e2,e3,e4,e5,e6,e7,e8,e9,B0,Cr hn,go_sem]));simp [DG,Bj,hn]
    cases hl:(l.length==0) with
    |true=>
     (repeat' ((first|refine wQ mxQ rfl ?_|refine Run.qP B6 ?_|fail)<;>try simp only [e1,e2,e3,e4,e5,e6,e7,e8,e9,B0,AB1 hn,QS,hl,go_sem]));have h0:l.length=0:=by simpa using hl
     simp [DG,Bj,hn,h0,hemp h0]
    |false=>
     (repeat' ((first|refine wQ mxQ rfl ?_|refine Run.qP B6 ?_|fail)<;>try simp only [e1,e2,e3,e4,e5,e6,e7,e8,e9,B0,AB1 hn,QS,hl,go_sem]));have h0:¬l.length=0:=by simpa using hl
     simp [DG,Bj,hn,h0]
  by_cases k3:kd=3
  . subst k3;have e1:((3:Int)==1)=false:=by decide
    have e2:((3:Int)==2)=false:=by decide
    have e3:((3:Int)==3)=true:=by decide
    have e4:((3:Int)==4)=false:=by decide
    have e5:((3:Int)==5)=false:=by decide
    have e6:((3:Int)==6)=false:=by decide
    have e7:((3:Int)==7)=false:=by decide
    have e8:((3:Int)==8)=false:=by decide
    have e9:((3:Int)==9)=false:=by decide
    by_cases hn:nm=0
    case neg=>
     (repeat' ((first|refine wQ mxQ rfl ?_|refine Run.qP B6 ?_|fail)<;>try simp only [e1,e2,e3,e4,e5,e6,e7,e8,e9,B0,Cr hn,go_sem]));simp [DG,Bj,hn]
    cases hl:(l.length==0) with
    |true=>
     (repeat' ((first|refine wQ mxQ rfl ?_|refine Run.qP B6 ?_|fail)<;>try simp only [e1,e2,e3,e4,e5,e6,e7,e8,e9,B0,AB1 hn,QS,hl,go_sem]));have h0:l.length=0:=by simpa using hl
     simp [DG,Bj,hn,h0,hemp h0]
    |false=>
     (repeat' ((first|refine wQ mxQ rfl ?_|refine Run.qP B6 ?_|fail)<;>try simp only [e1,e2,e3,e4,e5,e6,e7,e8,e9,B0,AB1 hn,QS,hl,go_sem]));have h0:¬l.length=0:=by simpa using hl
     simp [DG,Bj,hn,h0]
  by_cases k4:kd=4
  . subst k4;have e1:((4:Int)==1)=false:=by decide
    have e2:((4:Int)==2)=false:=by decide
    have e3:((4:Int)==3)=false:=by decide
    have e4:((4:Int)==4)=true:=by decide
    have e5:((4:Int)==5)=false:=by decide
    have e6:((4:Int)==6)=false:=by decide
    have e7:((4:Int)==7)=false:=by decide
    have e8:((4:Int)==8)=false:=by decide
    have e9:((4:Int)==9)=false:=by decide
    by_cases hn:0<=nm
    case neg=>
     (repeat' ((first|refine wQ mxQ rfl ?_|refine Run.qP B6 ?_|fail)<;>try simp only [e1,e2,e3,e4,e5,e6,e7,e8,e9,B0,decide_eq_false hn,go_sem]));simp [DG,Bj,hn]
    by_cases hn2:nm < vars
    case neg=>
     (repeat' ((first|refine wQ mxQ rfl ?_|refine Run.qP B6 ?_|fail)<;>try simp only [e1,e2,e3,e4,e5,e6,e7,e8,e9,B0,decide_eq_true hn,decide_eq_false hn2,go_sem]));simp [DG,Bj,hn2]
    cases hl:(l.length==0) with
    |true=>
     (repeat' ((first|refine wQ mxQ rfl ?_|refine Run.qP B6 ?_|fail)<;>try simp only [e1,e2,e3,e4,e5,e6,e7,e8,e9,B0,decide_eq_true hn,decide_eq_true hn2,QS,hl,go_sem]));have h0:l.length=0:=by simpa using hl
     simp [DG,Bj,hn,hn2,h0,hemp h0]
    |false=>
     (repeat' ((first|refine wQ mxQ rfl ?_|refine Run.qP B6 ?_|fail)<;>try simp only [e1,e2,e3,e4,e5,e6,e7,e8,e9,B0,decide_eq_true hn,decide_eq_true hn2,QS,hl,go_sem]));have h0:¬l.length=0:=by simpa using hl
     simp [DG,Bj,h0]
  by_cases k5:kd=5
  . subst k5;have e1:((5:Int)==1)=false:=by decide
    have e2:((5:Int)==2)=false:=by decide
    have e3:((5:Int)==3)=false:=by decide
    have e4:((5:Int)==4)=false:=by decide
    have e5:((5:Int)==5)=true:=by decide
    have e6:((5:Int)==6)=false:=by decide
    have e7:((5:Int)==7)=false:=by decide
    have e8:((5:Int)==8)=false:=by decide
    have e9:((5:Int)==9)=false:=by decide
    by_cases hn:nm < 0
    ·
     (repeat' ((first|refine wQ mxQ rfl ?_|refine Run.qP B6 ?_|fail)<;>try simp only [e1,e2,e3,e4,e5,e6,e7,e8,e9,B0,decide_eq_true hn,go_sem]));have hx:¬(0<=nm):=by omega
     exact hno (by simp [Bj,hx])
    obtain ⟨p,rfl⟩:∃p:Nat,nm=p:=⟨nm.toNat,by omega⟩;by_cases hp:p < data.length
    case neg=>
     have g1:decide ((data.length:Int)<=(p:Int))=true:=by simp;omega
     (repeat' ((first|refine wQ mxQ rfl ?_|refine Run.qP B6 ?_|fail)<;>try simp only [e1,e2,e3,e4,e5,e6,e7,e8,e9,B0,decide_eq_false hn,AA,g1,go_sem]));have:data[p]?=none:=BY (by omega);exact hno (by simp [Bj,this])
    have g1:decide ((data.length:Int)<=(p:Int))=false:=by simp;omega
    obtain ⟨d,hd⟩:=Ak hp;have hd':=Wj hd;by_cases q1:(l.length:Int)=d.vars
    case neg=>
     (repeat' ((first|refine wQ mxQ rfl ?_|refine Run.qP B6 ?_|fail)<;>try simp only [e1,e2,e3,e4,e5,e6,e7,e8,e9,B0,decide_eq_false hn,AA,g1,hd',neB q1,go_sem]));exact hno (by simp [Bj,hd,q1])
    have hshape:Bj data vars 5 (p:Int) l.length=true:=by
     simp [Bj,hd,q1]
    (repeat' (refine wQ mxQ rfl ?_<;>try simp only [e1,e2,e3,e4,e5,e6,e7,e8,e9,B0,decide_eq_false hn,AA,g1,hd',eqB q1,go_sem]));refine Run.BB ?_;exact hloop hshape _ rfl
  by_cases k6:kd=6
  . subst k6;have e1:((6:Int)==1)=false:=by decide
    have e2:((6:Int)==2)=false:=by decide
    have e3:((6:Int)==3)=false:=by decide
    have e4:((6:Int)==4)=false:=by decide
    have e5:((6:Int)==5)=false:=by decide
    have e6:((6:Int)==6)=true:=by decide
    have e7:((6:Int)==7)=false:=by decide
    have e8:((6:Int)==8)=false:=by decide
    have e9:((6:Int)==9)=false:=by decide
    by_cases hn:nm=0
    case neg=>
     (repeat' ((first|refine wQ mxQ rfl ?_|refine Run.qP B6 ?_|fail)<;>try simp only [e1,e2,e3,e4,e5,e6,e7,e8,e9,B0,neB hn,go_sem]));exact hno (by simp [Bj,hn])
    by_cases q1:(l.length:Int) < 2
    ·
     (repeat' ((first|refine wQ mxQ rfl ?_|refine Run.qP B6 ?_|fail)<;>try simp only [e1,e2,e3,e4,e5,e6,e7,e8,e9,B0,eqB hn,AP4 q1,go_sem]));have:¬(2<=l.length):=by omega
     exact hno (by simp [Bj,this])
    by_cases q2:6 < (l.length:Int)
    ·
     (repeat' ((first|refine wQ mxQ rfl ?_|refine Run.qP B6 ?_|fail)<;>try simp only [e1,e2,e3,e4,e5,e6,e7,e8,e9,B0,eqB hn,AKM q1,gtF q2,go_sem]));have:¬(l.length<=6):=by omega
     exact hno (by simp [Bj,this])
    have hshape:Bj data vars 6 nm l.length=true:=by
     have a1:2<=l.length:=by omega
     have a2:l.length<=6:=by omega
     simp [Bj,hn,a1,a2]
    (repeat' (refine wQ mxQ rfl ?_<;>try simp only [e1,e2,e3,e4,e5,e6,e7,e8,e9,B0,eqB hn,AKM q1,gtG q2,go_sem]));refine Run.BB ?_;exact hloop hshape _ rfl
  by_cases k7:kd=7
  . subst k7;have e1:((7:Int)==1)=false:=by decide
    have e2:((7:Int)==2)=false:=by decide
    have e3:((7:Int)==3)=false:=by decide
    have e4:((7:Int)==4)=false:=by decide
    have e5:((7:Int)==5)=false:=by decide
    have e6:((7:Int)==6)=false:=by decide
    have e7:((7:Int)==7)=true:=by decide
    have e8:((7:Int)==8)=false:=by decide
    have e9:((7:Int)==9)=false:=by decide
    by_cases hn:nm=0
    case neg=>
     (repeat' ((first|refine wQ mxQ rfl ?_|refine Run.qP B6 ?_|fail)<;>try simp only [e1,e2,e3,e4,e5,e6,e7,e8,e9,B0,neB hn,go_sem]));exact hno (by simp [Bj,hn])
    by_cases q1:(l.length:Int)=1
    case neg=>
     (repeat' ((first|refine wQ mxQ rfl ?_|refine Run.qP B6 ?_|fail)<;>try simp only [e1,e2,e3,e4,e5,e6,e7,e8,e9,B0,eqB hn,neB q1,go_sem]));have:¬(l.length=1):=by omega
     exact hno (by simp [Bj,this])
    have hshape:Bj data vars 7 nm l.length=true:=by
     have:l.length=1:=by omega
     simp [Bj,hn,this]
    (repeat' (refine wQ mxQ rfl ?_<;>try simp only [e1,e2,e3,e4,e5,e6,e7,e8,e9,B0,eqB hn,eqB q1,go_sem]));refine Run.BB ?_;exact hloop hshape _ rfl
  by_cases k8:kd=8
  . subst k8;have e1:((8:Int)==1)=false:=by decide
    have e2:((8:Int)==2)=false:=by decide
    have e3:((8:Int)==3)=false:=by decide
    have e4:((8:Int)==4)=false:=by decide
    have e5:((8:Int)==5)=false:=by decide
    have e6:((8:Int)==6)=false:=by decide
    have e7:((8:Int)==7)=false:=by decide
    have e8:((8:Int)==8)=true:=by decide
    have e9:((8:Int)==9)=false:=by decide
    by_cases hn:nm=0
    case neg=>
     (repeat' ((first|refine wQ mxQ rfl ?_|refine Run.qP B6 ?_|fail)<;>try simp only [e1,e2,e3,e4,e5,e6,e7,e8,e9,B0,neB hn,go_sem]));exact hno (by simp [Bj,hn])
    by_cases q1:(l.length:Int)=1
    case neg=>
     (repeat' ((first|refine wQ mxQ rfl ?_|refine Run.qP B6 ?_|fail)<;>try simp only [e1,e2,e3,e4,e5,e6,e7,e8,e9,B0,eqB hn,neB q1,go_sem]));have:¬(l.length=1):=by omega
     exact hno (by simp [Bj,this])
    have hshape:Bj data vars 8 nm l.length=true:=by
     have:l.length=1:=by omega
     simp [Bj,hn,this]
    (repeat' (refine wQ mxQ rfl ?_<;>try simp only [e1,e2,e3,e4,e5,e6,e7,e8,e9,B0,eqB hn,eqB q1,go_sem]));refine Run.BB ?_;exact hloop hshape _ rfl
  by_cases k9:kd=9
  . subst k9;have e1:((9:Int)==1)=false:=by decide
    have e2:((9:Int)==2)=false:=by decide
    have e3:((9:Int)==3)=false:=by decide
    have e4:((9:Int)==4)=false:=by decide
    have e5:((9:Int)==5)=false:=by decide
    have e6:((9:Int)==6)=false:=by decide
    have e7:((9:Int)==7)=false:=by decide
    have e8:((9:Int)==8)=false:=by decide
    have e9:((9:Int)==9)=true:=by decide
    by_cases hn:nm=0
    case neg=>
     (repeat' ((first|refine wQ mxQ rfl ?_|refine Run.qP B6 ?_|fail)<;>try simp only [e1,e2,e3,e4,e5,e6,e7,e8,e9,B0,neB hn,go_sem]));exact hno (by simp [Bj,hn])
    by_cases q1:(l.length:Int) < 1
    ·
     (repeat' ((first|refine wQ mxQ rfl ?_|refine Run.qP B6 ?_|fail)<;>try simp only [e1,e2,e3,e4,e5,e6,e7,e8,e9,B0,eqB hn,AP4 q1,go_sem]));have:¬(1<=l.length):=by omega
     exact hno (by simp [Bj,this])
    by_cases q2:7 < (l.length:Int)
    ·
     (repeat' ((first|refine wQ mxQ rfl ?_|refine Run.qP B6 ?_|fail)<;>try simp only [e1,e2,e3,e4,e5,e6,e7,e8,e9,B0,eqB hn,AKM q1,gtF q2,go_sem]));have:¬(l.length<=7):=by omega
     exact hno (by simp [Bj,this])
    have hshape:Bj data vars 9 nm l.length=true:=by
     have a1:1<=l.length:=by omega
     have a2:l.length<=7:=by omega
     simp [Bj,hn,a1,a2]
    (repeat' (refine wQ mxQ rfl ?_<;>try simp only [e1,e2,e3,e4,e5,e6,e7,e8,e9,B0,eqB hn,AKM q1,gtG q2,go_sem]));refine Run.BB ?_;exact hloop hshape _ rfl
  have e1:=Cr k1;have e2:=Cr k2;have e3:=Cr k3;have e4:=Cr k4;have e5:=Cr k5;have e6:=Cr k6;have e7:=Cr k7;have e8:=Cr k8;have e9:=Cr k9;(repeat' ((first|refine wQ mxQ rfl ?_|refine Run.qP B6 ?_|fail)<;>try simp only [e1,e2,e3,e4,e5,e6,e7,e8,e9,B0,go_sem]));exact hno (by simp [Bj,k1,k2,k3,k4,k5,k6,k7,k8,k9])
theorem AMM (n:Nat):decide ((n:Int)<=200)=decide (n<=200):=decide_eq_decide.2 (by omega)
theorem dO (data:List Dat) (t:Ty) (vars:Int) (σ:AH) (ht:t.size<=1000):AS Tzp 14 [dsA data,tyA t,.d (.int .i64 vars)] σ (fun v σ'=>v= .d (.bool (decide (t.size<=200)&&DG data vars t))/\σ'=σ):=by
 obtain ⟨kd,nm,l⟩:=t;refine yE (by simp) ?_;rw [D6];have hS:=zK 1000 (.mk kd nm l) σ ht (by omega);have hv:=uX data vars 1000 (.mk kd nm l) σ ht (by omega);cases h2:decide ((Ty.mk kd nm l).size<=200) with
 |true=>(repeat' (first|((first|refine wQ mxQ rfl ?_|refine Run.qP Y4 ?_|refine AJ.det (hS) ?_|refine AJ.det (hv) ?_|(refine A9 rfl (fun h=>?_) (fun h=>?_)<;>try (cases h;done))|fail)<;>try simp only [AMM,h2,go_sem])|(refine ⟨fun h=>?_,fun h=>?_⟩<;>first|(cases h;done)|try simp only [h])|fail))
 |false=>(repeat' (first|((first|refine wQ mxQ rfl ?_|refine Run.qP Y4 ?_|refine AJ.det (hS) ?_|refine AJ.det (hv) ?_|(refine A9 rfl (fun h=>?_) (fun h=>?_)<;>try (cases h;done))|fail)<;>try simp only [AMM,h2,go_sem])|(refine ⟨fun h=>?_,fun h=>?_⟩<;>first|(cases h;done)|try simp only [h])|fail))
end Go.Ab
namespace Go.Ab
open Go.Proofs
mutual
theorem AK5:∀ {t:Ty} {a b:Nat},fC a t=some b->a<=b
 | .mk k n us,a,b,h=>by
  rw [fC] at h;split at h
  . split at h
    . cases h
    . have:=S6 h;omega
  . exact S6 h
theorem S6:∀ {ts:List Ty} {a b:Nat},KR a ts=some b->a<=b
 |[],a,b,h=>by rw [KR] at h;cases h;exact AR _
 |t::ts,a,b,h=>by
  rw [KR] at h;cases ht:fC a t with
  |none=>rw [ht] at h;cases h
  |some m=>rw [ht] at h;exact Ah (AK5 ht) (S6 h)
end
theorem AKV (a b:Nat):mmA true (.d (.int .i64 (a:Int))) (.d (.int .i64 (b:Int)))=some (.d (.int .i64 ((max a b:Nat):Int))):=by
 simp [mmA];omega
theorem uM (j:Nat):∀(N:Nat) (t:Ty) (a b:Nat) (σ:AH),t.size<=N->N<=1000000->fC a t=some b->b<=1000000->σ.blk j=some [.d (.int .i64 (a:Int))]->
 AS Tzp 13 [tyA t,.gp j 0] σ (fun v σ'=>v= .d (.bool true)/\σ'=σ.AM j [.d (.int .i64 (b:Int))]):=by
 intro N
 induction N with
 |zero=>intro t a b σ h;have:=rU t;omega
 |succ N ih=>
 rintro ⟨k,n,us⟩ a b σ hs hN hnum hb hbj;have hul:=Ty.Bt us;simp only [Ty.size] at hs;have hmem:∀u∈us,u.size<=N:=fun u hu=>by have:=Ty.Ww hu;omega
 -- the loop over the arguments
 have hloop:∀(a:Nat) (τ:AH),KR a us=some b->τ=σ.AM j [.d (.int .i64 (a:Int))]->
  Run HD (fun v σ'=>v= .d (.bool true)/\σ'=σ.AM j [.d (.int .i64 (b:Int))]) [.code (.loop N9),.blk 0,.code (.seq (.reg [⟨some 4,.mv (.c (.d (.bool true))),none⟩] [4]) .ret)]
   (put 1 (.gp j 0) (put 26 (.d (.sl (us.map Ty.enc))) (put 27 (.d (.int .i64 us.length)) (put 28 (.d (.int .i64 0)) U)))) E τ:=by
  rintro a τ h rfl;refine Run.BB ?_
  refine Run.BG ((fun (a1:AV) (a26:AV) (a27:AV)=>fun (z:Nat×Nat)=>put 1 a1 (put 26 a26 (put 27 a27 (put 28 (.d (.int .i64 z.1)) U)))) _ _ _) (fun _=>E) (fun z=>σ.AM j [.d (.int .i64 (z.2:Int))])
   (fun z=>z.1<=us.length/\KR z.2 (us.drop z.1)=some b) (fun z=>us.length - z.1) ?_ (0,a) ⟨by simp,by simpa using h⟩
  rintro ⟨p,c⟩ ⟨hp,hc⟩ ihl;simp only at hp hc;by_cases hlt:p < us.length
  . obtain ⟨u,hu⟩:=Ak hlt;have he:=BR (enc:=Ty.enc) hu;have hw1:=A7 (show p+1<=9000000000000000000 by omega);rw [Bv hu,KR] at hc;cases hn:fC c u with
    |none=>rw [hn] at hc;cases hc
    |some m=>
     rw [hn] at hc;simp only at hc;have hmb:=S6 hc;have hcall:=ih u c m (σ.AM j [.d (.int .i64 (c:Int))]) (hmem u (AD hu)) (by omega) hn (by omega) BQ;obtain ⟨k',n',us'⟩:=u;simp only [Ty.enc,tyA,AG,AN] at he hcall;(repeat' ((first|refine wQ mxQ rfl ?_|(refine AJ.mk rfl hcall ?_;rintro _ _ ⟨rfl,rfl⟩;rw [F4])|fail)<;>try simp only [Ag hlt,he,hw1,go_sem]));exact ihl (p+1,m) ⟨hlt,hc⟩ (by simp only;omega)
  . rw [HG (by omega),KR] at hc;cases hc;(repeat' ((first|refine wQ mxQ rfl ?_|refine Run.qP SD ?_|fail)<;>try simp only [Bk hlt,go_sem]))
 refine bK (by simp) ?_;rw [BS];simp only [tyA,Ty.enc,Ty.CM,AG,AN];rw [fC] at hnum;by_cases hk:k=4
 . subst hk;rw [if_pos rfl] at hnum;split at hnum
   . cases hnum
   . rename_i hn;obtain ⟨m,rfl⟩:=E4 (show 0<=n by omega);simp only [Ca] at hnum;have hle:=S6 hnum;have hg:decide ((m:Int)>(a:Int))=false:=decide_eq_false (by omega);have hg':decide ((a:Int) < (m:Int))=false:=decide_eq_false (by omega);have hw:=A7 (show m+1<=9000000000000000000 by omega);(repeat' (refine wQ mxQ rfl ?_<;>try simp only [hbj,hg,hg',hw,beq_self_eq_true,AKV,AA,go_sem]));exact hloop _ _ hnum rfl
 . rw [if_neg hk] at hnum;have hkb:(k==4)=false:=by simpa using hk
   (repeat' (refine wQ mxQ rfl ?_<;>try simp only [hkb,AA,go_sem]));exact hloop a σ hnum (GN hbj).symm
theorem AC7 {p:Pg} {r:HQ} (h:IX p= .ok r):r.1.length=p.G7.length/\r.2.length=p.G7.length:=by
 have ht:∀(fs:List FE) (dt:List Dat) (r:HQ) (ms:List Nat) (r':HQ),Q4 fs dt r ms= .ok r'->r'.1.length=r.1.length/\r'.2.length=r.2.length:=fun fs dt r ms r' h=>by
  unfold Q4 at h;simp only at h;split at h
  . cases h
  . split at h
    . cases h
    . cases h;exact kE _ _ _ ms r
 have hg:∀(gs:List (List Nat)) (fs:List FE) (dt:List Dat) (r r':HQ),GJ fs dt gs r= .ok r'->r'.1.length=r.1.length/\r'.2.length=r.2.length:=by
  intro gs
  induction gs with
  |nil=>intro fs dt r r' h;rw [GJ] at h;cases h;exact ⟨rfl,rfl⟩
  |cons ms gs ih=>
   intro fs dt r r' h;rw [GJ] at h;cases hm:Q4 fs dt r ms with
   |error e=>rw [hm] at h;cases h
   |ok r1=>
    rw [hm] at h;have h1:=ht _ _ _ _ _ hm;have h2:=ih fs dt r1 r' h;exact ⟨h2.1.trans h1.1,h2.2.trans h1.2⟩
 unfold IX at h;split at h
 . cases h
 . split at h
   . cases h
   . split at h
     . cases h
     . rename_i hh;cases h;have:=hg _ _ _ _ _ hh;simpa using this
theorem AC5 {p:Pg} {r:HQ} (h:IX p= .ok r):(Oh p).1=0/\∃dt,IL p= .ok dt:=by
 unfold IX at h;split at h
 . cases h
 . rename_i hc;refine ⟨by simpa using hc,?_⟩;cases hd:IL p with
   |error e=>rw [hd] at h;cases h
   |ok dt=>exact ⟨dt,rfl⟩
end Go.Ab
namespace Go.Ab
open Go.Proofs
theorem yH {fs:List FE} {dt:List Dat} {gs:List (List Nat)} {r:HQ} {e:Int×Nat} (h:GJ fs dt gs r= .error e):e.1≠0:=by
 induction gs generalizing r with
 |nil=>rw [GJ] at h;cases h
 |cons ms gs ih=>
  rw [GJ] at h;cases hm:Q4 fs dt r ms with
  |ok r1=>rw [hm] at h;exact ih h
  |error e1=>
   rw [hm] at h;cases h;unfold Q4 at hm;simp only at hm;split at hm
   . cases hm;simp
   . split at hm
     . cases hm;simp
     . cases hm
theorem AGQ (dt:List Dat) (r:HQ) (n:Nat) (hgen:∀f,f < n->AFH dt r f) (hl1:r.1.length=n) (hn:n<=1000) (σ:AH) (k:List CI) (haw:∀σ,AS Tzp 11 [] σ (fun v σ'=>v= .d (.bool true)/\σ'=σ)):
 Run EF (fun v σ'=>v= .d (.bool true)/\σ'=σ) [.code (.loop JN),.blk 0,.code (.seq (.reg [⟨some 102,.call 11 [],none⟩,⟨some 2,.mv (.t 102),none⟩] [2]) .ret)]
  (put 3 (.lp 3 0) (put 5 (dsA dt) (put 48 (.d (.sl (r.1.map NF))) (put 49 (.d (.int .i64 n)) (put 50 (.d (.int .i64 0)) U))))) (Ar 3 [.d (.sl (r.1.map NF)),.d (.sl (r.2.map eZ))] E) σ:=by
 rw [dsA];refine Run.BB ?_;refine Run.BG ((fun (a3:AV) (a5:AV) (a48:AV) (a49:AV)=>fun (z:Nat×AH)=>put 3 a3 (put 5 a5 (put 48 a48 (put 49 a49 (put 50 (.d (.int .i64 z.1)) U))))) _ _ _ _) (fun _=>Ar 3 [.d (.sl (r.1.map NF)),.d (.sl (r.2.map eZ))] E) (fun z=>z.2) (fun z=>z.1<=n/\σ.le z.2) (fun z=>n - z.1) ?_ (0,σ) ⟨by simp,AH.le_refl _⟩;rintro ⟨p,τ⟩ ⟨hp,hle⟩ ih;simp only at hp hle;by_cases hlt:p < n
 . obtain ⟨s,nt,hs,hnt,⟨m,hv,hm,hnum⟩,hpl,hty,hno⟩:=hgen p hlt;have he:=BR (enc:=NF) hs;have he2:=BR (enc:=eZ) hnt;have hw1:=A7 (show p+1<=9000000000000000000 by omega);obtain ⟨sv,sp,sr⟩:=s;simp only at hv hnum hpl hty hno;subst hv;obtain ⟨rk,rn,rus⟩:=sr;simp only [NF,Ty.kind,Ty.num,Ty.args] at he;simp only [eZ] at he2
   have hrows:∀x∈sp.map Ty.enc,x.length=3:=fun x hx=>by
    obtain ⟨⟨a,b,c⟩,_,rfl⟩:=Ck.1 hx;rfl
   (repeat' (refine wQ mxQ rfl ?_<;>try simp only [Ag hlt,he,go_sem]));rintro j hj;obtain ⟨hle2,hb⟩:=wG (z:=[AV.d (.int .i64 0)]) (x:=(1,3)) hj;simp only [hb,go_sem];(repeat' (refine wQ mxQ rfl ?_<;>try simp only [hb,go_sem]))
   have hj0:σ.blk j=none:=by
    cases h:σ.blk j with
    |none=>rfl
    |some c=>rw [hle.blk j c h] at hj;cases hj.1
   have hle1:σ.le (((τ.AM j [AV.d (.int .i64 0)]).Br j (1,3)).AM j [AV.d (.int .i64 0)]):=Db (AH.le_trans hle hle2) hj0;have hbj:(((τ.AM j [AV.d (.int .i64 0)]).Br j (1,3)).AM j [AV.d (.int .i64 0)]).blk j=some [AV.d (.int .i64 0)]:=BQ;generalize ((τ.AM j [AV.d (.int .i64 0)]).Br j (1,3)).AM j [AV.d (.int .i64 0)]=τ1 at hle1 hbj ⊢;clear hle hle2 hb hj;refine E6.own (C4.nil τ1 eTy 3) rfl hrows (by simp;omega) (by omega) (fun v1 τ2 ho1 hb1=>?_);simp only [ho1.BF,ho1.BT,ho1.cells,ho1.cell,go_sem];refine E6.own ho1 rfl (by simp) (by simp;omega) (by omega) (fun v2 τ3 ho2 hb2=>?_);simp only [ho2.w4,ho2.len,go_sem];generalize hts:sp++[Ty.mk rk rn rus]=ts at *;rw [Aj] at ho2
   have hrt:sp.map Ty.enc++[[DV.int .i64 rk,DV.int .i64 rn,DV.sl (rus.map Ty.enc)]]=ts.map Ty.enc:=by
    rw [<- hts];simp [Ty.enc,Ty.CM]
   rw [hrt] at ho2 ⊢;rw [AA];have hle3:σ.le τ3:=AH.le_trans hle1 ho2.le;have hb3:τ3.blk j=some [.d (.int .i64 0)]:=by rw [hb2,hb1,hbj]
   refine Run.AI8 (WkT.skip (WkT.skip (WkT.skip (WkT.skip (WkT.skip (WkT.skip (WkT.skip (WkT.skip (WkT.here (WkT.refl _) 61 ho2.BF ho2.plain) _ _) _ _) _ _) _ _) _ _) _ _) _ _) _ _) ?_;clear ho1 hb1 ho2 hb2 hle1 hbj;have htl:ts.length<=200000:=by rw [<- hts];simp;omega
   (repeat' (refine wQ mxQ rfl ?_<;>try simp only [AA,go_sem]));have e5:τ3=τ3.AM j [.d (.int .i64 ((0:Nat):Int))]:=(GN hb3).symm;rw [e5];refine Run.BB ?_
   refine Run.BG ((fun (a3:AV) (a5:AV) (a7:AV) (a8:AV) (a9:AV) (a48:AV) (a49:AV) (a50:AV) (a61:AV) (a62:AV)=>fun (z:Nat×Nat)=>put 3 a3 (put 5 a5 (put 7 a7 (put 8 a8 (put 9 a9 (put 48 a48 (put 49 a49 (put 50 a50 (put 61 a61 (put 62 a62 (put 63 (.d (.int .i64 z.1)) U))))))))))) _ _ _ _ _ _ _ _ _ _) (fun _=>Ar 3 [.d (.sl (r.1.map NF)),.d (.sl (r.2.map eZ))] (Ar 8 [.d (.int .i64 m),.d (.sl (sp.map Ty.enc)),.d (.int .i64 rk),.d (.int .i64 rn),.d (.sl (rus.map Ty.enc))] E)) (fun z=>τ3.AM j [.d (.int .i64 (z.2:Int))])
    (fun z=>z.1<=ts.length/\KR z.2 (ts.drop z.1)=some m) (fun z=>ts.length - z.1) ?_ (0,0) ⟨by simp,by simpa using hnum⟩
   . rintro ⟨q,c⟩ ⟨hq,hc⟩ ih2;simp only at hq hc;by_cases hql:q < ts.length
     . obtain ⟨u,hu⟩:=Ak hql;have heu:=BR (enc:=Ty.enc) hu;have hw2:=A7 (show q+1<=9000000000000000000 by omega);obtain ⟨hus,huv⟩:=hty u (AD hu);rw [Bv hu,KR] at hc;cases hn:fC c u with
       |none=>rw [hn] at hc;cases hc
       |some c2=>
        rw [hn] at hc;simp only at hc;have hc2:=S6 hc;have hcall:=uM j 200 u c c2 (τ3.AM j [.d (.int .i64 (c:Int))]) hus (by omega) hn (by omega) BQ;have hval:=fun σ=>dO dt u (m:Int) σ (by omega);rw [decide_eq_true hus,huv,dsA,L1] at hval;obtain ⟨k',n',us'⟩:=u;simp only [Ty.enc,tyA,AG,AN] at heu hcall hval;(repeat' ((first|refine wQ mxQ rfl ?_|(refine AJ.mk rfl hcall ?_;rintro _ _ ⟨rfl,rfl⟩;rw [F4])|refine AJ.det (hval _) ?_|fail)<;>try simp only [Ag hql,heu,hw2,go_sem]));exact ih2 (q+1,c2) ⟨hql,hc⟩ (by simp only;omega)
     . rw [HG (by omega),KR] at hc;cases hc;clear ih2;have hbm:(τ3.AM j [.d (.int .i64 (m:Int))]).blk j=some [.d (.int .i64 (m:Int))]:=BQ;have hle4:σ.le (τ3.AM j [.d (.int .i64 (m:Int))]):=Db hle3 hj0;generalize τ3.AM j [.d (.int .i64 (m:Int))]=τ4 at hbm hle4 ⊢;have hmm:((m:Int) != (m:Int))=false:=by simp
       (repeat' (refine wQ mxQ rfl ?_<;>try simp only [Bk hql,hbm,hmm,he2,AA,go_sem]));refine Run.slot 87 (fun hsl=>?_);simp only [D0,reduceIte,HS,AV.FU,AA] at hsl;refine Run.BB ?_
       refine Run.BG ((fun (a3:AV) (a5:AV) (a8:AV) (a48:AV) (a49:AV) (a50:AV) (a87:AV) (a88:AV)=>fun (z:Nat)=>put 3 a3 (put 5 a5 (put 8 a8 (put 48 a48 (put 49 a49 (put 50 a50 (put 87 a87 (put 88 a88 (put 89 (.d (.int .i64 z)) U))))))))) _ _ _ _ _ _ _ _) (fun _=>Ar 3 [.d (.sl (r.1.map NF)),.d (.sl (r.2.map eZ))] (Ar 8 [.d (.int .i64 m),.d (.sl (sp.map Ty.enc)),.d (.int .i64 rk),.d (.int .i64 rn),.d (.sl (rus.map Ty.enc))] E)) (fun _=>τ4)
        (fun z=>z<=nt.length) (fun z=>nt.length - z) ?_ 0 (by simp)
       intro x hx ih3;by_cases hxl:x < nt.length
       . obtain ⟨y,hy⟩:=Ak hxl;have hey:=BR (enc:=PE) hy;have hw3:IntKind.i64.wrap ((x:Int)+1)=((x+1:Nat):Int):=by rw [BP (by omega) (by omega)];omega
         obtain ⟨hys,hyv⟩:=hno y (AD hy);obtain ⟨y1,y2⟩:=y;have hval:=fun σ=>dO dt y1 (m:Int) σ (by simp only at hys;omega);simp only at hys hyv;rw [decide_eq_true hys,hyv,dsA,L1] at hval;obtain ⟨k',n',us'⟩:=y1;simp only [PE,Ty.enc,tyA,AG,AN,AX,Aj] at hey hval;(repeat' ((first|refine wQ mxQ rfl ?_|refine AJ.det (hval _) ?_|fail)<;>try simp only [Ag hxl,hey,hw3,go_sem]));exact ih3 (x+1) hxl (by omega)
       . (repeat' (refine wQ mxQ rfl ?_<;>try simp only [Bk hxl,hw1,go_sem]));exact ih (p+1,τ4) ⟨hlt,hle4⟩ (by simp only;omega)
 . (repeat' ((first|refine wQ mxQ rfl ?_|(refine Run.CK F7 (σ2:=σ) hle ?_)|refine AJ.det (haw _) ?_|fail)<;>try simp only [Bk hlt,go_sem]))
theorem aJ (p:Pg) (σ:AH):AS Tzp 4 [pgA p] σ (fun v σ'=>v= .d (.bool true)/\σ'=σ):=by
 have hk:=mR p σ;have hlen:=@AC7 p;have hdd:=@AC5 p;refine Ud (by simp) ?_;rw [Bs];obtain ⟨ds,fs⟩:=p;simp only [pgA,Pg.enc,AG,AN] at hk ⊢;(repeat' ((first|refine wQ mxQ rfl ?_|(refine AJ.mk rfl hk ?_;rintro _ σ ⟨b,⟨rfl,rfl⟩,hb⟩;cases b)|(refine Run.CK F7 (AH.le_refl _) ?_)|fail)<;>try simp only [go_sem]));obtain ⟨hsm,hsz⟩:=hb rfl;have hsd:∀d∈(⟨ds,fs⟩:Pg).data,LL d:=fun d hd c hc t ht=>by have:=((hsm.1.2 d hd).2.2.2 c hc).2.2 t ht;omega
 have hdat:=fun σ=>zJ ⟨ds,fs⟩ σ hsd;have hin:=UY ⟨ds,fs⟩ hsm.ds hsz σ;have haw:=fun σ=>jI σ;have hpf:=@AMO ⟨ds,fs⟩
 have hchk:∀d,IX ⟨ds,fs⟩= .error d->d.1≠0:=fun d hd=>by
  unfold IX at hd;split at hd
  . rename_i h;cases hd;exact h
  . split at hd
    . rename_i h _ _ he;cases hd;obtain ⟨c,a,b⟩:=d;exact ZW he
    . split at hd
      . rename_i e he;cases hd;exact yH he
      . cases hd
 generalize hres:IX ⟨ds,fs⟩=res at *;simp only [pgA,Pg.enc,AG,AN] at hdat hin;cases res with
 |error d=>
  have hd0:=hchk d rfl;obtain ⟨d1,d2,d3⟩:=d;have hb0:(d1 != 0)=true:=by simpa using hd0
  simp only [T0] at hin;(repeat' ((first|refine wQ mxQ rfl ?_|(refine AJ.mk rfl hin ?_;rintro _ σ ⟨⟨rfl,rfl⟩,_⟩)|(refine Run.CK F7 (AH.le_refl _) ?_)|refine AJ.det (haw _) ?_|fail)<;>try simp only [hb0,go_sem]))
 |ok r=>
  obtain ⟨hc0,dt,hdt⟩:=hdd rfl;obtain ⟨hl1,hl2⟩:=hlen rfl;have hF:=hpf hc0 hdt hsm.ds hsz;simp only [hdt,dA,dsA,dgA] at hdat;simp only [T0] at hin;have hl1:r.1.length=fs.length:=hl1;have hl2:r.2.length=fs.length:=hl2;have hn1:((fs.length:Int) != (fs.length:Int))=false:=by simp
  (repeat' (first|((first|refine wQ mxQ rfl ?_|(refine AJ.mk rfl hin ?_;rintro _ σ ⟨⟨rfl,rfl⟩,hty⟩)|refine AJ.det (hdat _) ?_|(refine A9 rfl (fun h=>?_) (fun h=>?_)<;>try (cases h;done))|fail)<;>try simp only [AA,hl1,hl2,hn1,go_sem])|(refine ⟨fun h=>?_,fun h=>?_⟩<;>first|(cases h;done)|try simp only [h])|fail));have hgen:∀f,f < fs.length->AFH dt r f:=fun f hf=>(hty dt r hdt rfl f hf).gen hf hF.pr;have:=AGQ dt r fs.length hgen hl1 (by have:fs.length<=24:=hF.lf;omega) σ [] haw;rw [dsA] at this;exact this
end Go.Ab
namespace Go.Ab
open Go.Proofs
theorem Yy (av:List AV) (h:cX Tzp [25] av):AS Tzp 4 av zY (fun v _=>v= .d (.bool true)):=by
 obtain ⟨p,rfl⟩:=AJL h;exact (aJ p zY).mono (fun _ _ h=>h.1)
end Go.Ab
namespace Go.Proofs.YtfppaadffckcoaaGreat
open Go.ChangeShapes Go.WideShapes Go.ChangeAt Go.RowKit
theorem Tryz.own:ownKnob Tzp.godebug=none:=by kernel_rfl
theorem Tryz.laidOut:laidOutB Tzp=true:=by kernel_rfl
theorem W9 (os:Os) (started:os.Started) (H:Type) (enc:TypeId×Value->H):
 ReturnsInHanded {} Tryz.checked os 4 .any (Rows.typingGeneralSpec.pre6 enc Tzp Tryz.f4 Rows.typingGeneralRow.domain false) (Rows.typingGeneralSpec.post enc Tzp Tryz.f4 false true false false):=by
 refine returnsInHanded_of_change (C:=Tryz.checked) Tryz.own started (by kernel_rfl) Tryz.func4
  (ChangeSpec.witness6 (enc:=enc) (C:=Tryz.checked) false ⟨#[],#[.agg #[.slice none 0 0,.slice none 0 0]],[]⟩ 8 (by kernel_rfl) (by kernel_rfl) (by kernel_rfl) (by kernel_rfl)) ?_
 intro W base args ds gs before hval hW _ _;refine Go.Ab.qM (P:=Tzp) [25,22,58,9,55,56,62,60,64,3,23,71,69,2,66,67,117] Tryz.laidOut (by kernel_rfl) ?_ ?_ (tb:=4) (by kernel_rfl) Tryz.underlying4 rfl ?_ ?_ W base args ds gs before hval hW
 . rw [Tryz.params4];simp
 . rw [Tryz.params4];intro t ht;simp only [As,List.not_mem_nil,or_false] at ht;subst ht;exact ⟨by kernel_rfl,of_decide_eq_true (by kernel_rfl)⟩
 . rw [Tryz.params4];intro ds hd
   match ds,hd with
   |[d0],_=>rfl
 . rw [Tryz.params4];exact Go.Ab.Yy
theorem typingGeneral_holds:Rows.TypingGeneralSaid:=
 OpenClaim.holds_of_wide 4 Tryz.f4 rfl rfl rfl rfl rfl rfl rfl ⟨rfl,rfl,rfl,rfl,rfl⟩ rfl rfl rfl rfl rfl (by kernel_rfl) Tryz.func4 (by kernel_rfl)
  (of_decide_eq_true (by kernel_rfl)) (by unfold Func.isWrapper;first|(rw [if_pos (by decide+kernel)];kernel_rfl)|(rw [if_neg (by decide+kernel)];exact ⟨rfl,rfl⟩))
  (fun os started H enc _=>W9 os started H enc)
end Go.Proofs.YtfppaadffckcoaaGreat
#print axioms Go.Proofs.YtfppaadffckcoaaGreat.typingGeneral_holds
