/-
  Rows of rows, one row of which is written out.
-/
import Derived.Test.YtpafclijakpknaaGreatB10
import Derived.Test.YtpafclijakpknaaGreatB8
import Derived.Test.YtpafclijakpknaaGreatB9
import Derived.Test.YtpafclijakpknaaGreatB2
import Derived.Test.YtpafclijakpknaaGreatB5
import Derived.ProofKit
import Derived.OpenShut
import Derived.ChangeOld
import Derived.WalkKit
import Derived.WideShapes
import Derived.ChangeArms
import Derived.Test.YtpafclijakpknaaGreatB7
import Derived.Test.YtpafclijakpknaaGreatB1
set_option linter.unusedSimpArgs false
set_option linter.unusedVariables false
set_option linter.unnecessarySimpa false
namespace Go.c9
theorem AhN {R:List (Option (Nat × List (List AV)))} {i e z:Nat} {es:List (List AV)} {K:Option (Nat × List (List AV))->Prop} (he:e=i) (hi:i<R.length) (h:K (some (z,es))):IO (R.set i (some (z,es))) e K:=by
 subst he;exact ⟨_,by rw[List.getElem?_set,if_pos rfl,if_pos hi],h⟩
theorem AhM {R:List (Option (Nat × List (List AV)))} {i e z:Nat} {es:List (List AV)} {K:Nat->List (List AV)->Prop} (he:e=i) (hi:i<R.length) (h:K z es):H0 (R.set i (some (z,es))) e K:=by
 subst he;exact ⟨z,es,by rw[List.getElem?_set,if_pos rfl,if_pos hi],h⟩
theorem zN {R:List (Option (Nat × List (List AV)))} {i e z:Nat} {es:List (List AV)} {K:List (Option (Nat × List (List AV)))->Prop} (he:e=i) (hi:i<R.length) (h:K (R.set i (some (z,es)))):JM R e z es K:=by
 subst he;exact ⟨hi,h⟩
def hQ (S:NN):Nat->Rat
 | 0=>S.d
 | j+1=>GG S.c (wQ S j)
theorem AxN {r:List Rat} (h:sN r=r) (hn:r.length≠0):r.getD (r.length-1) 0≠0:=by
 have hl:=Aoo r;rw[h]at hl;obtain ⟨n,Df⟩ : ∃ n,r.length=n+1:=⟨r.length-1,by omega⟩;rw[Df,XP]at hl;rw[Df,Nat.add_sub_cancel];intro h0;rw[if_pos h0]at hl;have:=Tq r n
 omega
def G1 (x:Rat):Rat:=if x.num<0 then -x else x
end Go.c9
namespace Go.c9
section
variable {M ky:Nat} {g:List Pt}
end
end Go.c9

namespace Go.c9
end Go.c9

namespace Go.c9
theorem Abh {w:Wd} {v:Int} (h:FT w v) : -8388608<=v/\v<=8388608:=by
 obtain ⟨hw,e1,e2⟩:=h;obtain ⟨h1,h2,h3,h4⟩:=sC hw;omega
theorem uJ {l:List Int} {sg fr:Int} {t:Int × Int} (h:t∈K3 l sg fr) : ∃ i:Nat,∃ v∈l,i<l.length/\t=(fr+i,sg*v):=by
 simp only[K3,List.mem_map,List.mem_range]at h;obtain ⟨i,hi,rfl⟩:=h;exact ⟨i,l[i],List.getElem_mem hi,hi,by simp [List.getD_eq_getElem?_getD,zE hi]⟩
theorem Al1 {n:Nat} {a b k:Int} (h:k∈RU n a b):k=b \/ ∃ i:Nat,1<=i/\i<n/\k=a+i-1:=by
 simp only[RU,List.mem_map,List.mem_range]at h;obtain ⟨i,hi,rfl⟩:=h;by_cases h0:i=0
 ·exact Or.inl (by rw[if_pos h0])
 ·exact Or.inr ⟨i,by omega,hi,by rw[if_neg h0]⟩
variable {b a:List Int} {d c:Wd}
theorem At8 (hd:WV d) (hc:WV c) (l1:1<=b.length/\b.length<=49) (l2:a.length<=8) (hb : ∀ v∈b,FT c v) (ha : ∀ v∈a,FT c v/\FT c (-v)):NF (OU b a d c)=true:=by
 rw[J6];refine ⟨hd,hc,⟨by simp only[OU];omega,by simp only[OU];omega,by simp [OU],by simp [OU,RU]⟩,?_,?_,by simp only[OU];omega,by simp only[OU,List.length_cons,List.length_nil];omega⟩
 ·simp only[OU,O0,Bool.and_true,Bool.and_eq_true,decide_eq_true_eq,List.all_eq_true]
  refine ⟨by simp [bJ];omega,λ t ht => ?_⟩;simp only[ON,decide_eq_true_eq];rcases List.mem_append.1 ht with h|h
  ·obtain ⟨i,v,hv,hi,rfl⟩:=uJ h
   exact ⟨by simp only;omega,by simp only;omega,Or.inr (by simpa using hb v hv)⟩
  ·obtain ⟨i,v,hv,hi,rfl⟩:=uJ h
   exact ⟨by simp only;omega,by simp only;omega,Or.inr (by simpa using (ha v hv).2)⟩
 ·simp only[OU,X2,List.all_eq_true,decide_eq_true_eq,List.length_cons,List.length_nil]
  intro k hk;rcases List.mem_append.1 hk with h|h
  all_goals (rcases Al1 h with rfl|⟨i,h1,h2,rfl⟩<;>refine decide_eq_true ?_<;>omega)
end Go.c9

namespace Go.c9
variable {d c:Wd} {p:List Int}
theorem Aww (n:Nat):List.range n=List.range' 0 n:=List.range_eq_range'
end Go.c9

namespace Go.c9
variable {n:Nt}
end Go.c9

namespace Go.c9
def V4 (n:Nt) (k:Int):NN where
 a:=(L9 n).a
 b:=n.next.map λ e=>(O3 n (-1) k).getD e.toNat 0
 c:=(L9 n).c
 d:=(O3 n (-1) k).getD n.out.toNat 0
theorem Aq2 (e:Int):EA (.j5 [.agg [.sl false [],.sl false [],.sl false [],.bool false,.sl false [],.sl false []],.int .i64 e]):=by
 simp [EA,GK,L3]
def Ab5 (n:Nt) (k:Int):AV:=if 0<=k/\k<n.nodes.length then .j5 [.agg (eS (V4 n k)),.int .i64 0] else .j5 [.agg [.sl false [],.sl false [],.sl false [],.bool false,.sl false [],.sl false []],.int .i64 1]
theorem AvE {a b:List Rat} {i:Nat} {x:Rat} (h:a[i]? = some x) (hb:i<b.length):(a.take i++b.drop i).set i x=a.take (i+1)++b.drop (i+1):=by
 have hl:=(zS h).1;have ht:(a.take i).length=i:=by rw[List.length_take];omega
 rw[List.set_append_right _ _ (by omega),ht,Nat.sub_self,List.drop_eq_getElem_cons hb,List.set_cons_zero,List.take_add_one,h,List.append_assoc];rfl
end Go.c9

namespace Go.c9
def Br (ε f:Nat->Rat):Nat->Rat
 | 0=>0
 | N+1=>Br ε f N+ε N*f N
variable {n:Nt}
def fA (n:Nt) (e:Int):List Rat:=(List.range n.s.toNat).map λ(j:Nat)=>(O3 n ((j:Int)+1) (-1)).getD e.toNat 0
def gX (n:Nt) (e:Int):Rat:=(O3 n 0 (-1)).getD e.toNat 0
def gK (n:Nt) (k:Nat) (e:Int):Rat:=(O3 n (-1) (k:Int)).getD e.toNat 0
end Go.c9

namespace Go.c9
open F
attribute [local irreducible] A0 B0 D8 BK IH DY FC E1 HI F9 IA LT GS EF HH H4 BD EU B9 pw IO H0 JM KX J9 GV IJ GT JW
variable {L:Lib}
set_option maxHeartbeats 16000000
set_option maxRecDepth 8000
def mz (Q:List (List Rat)) (n i:Nat):List (Option (Nat × List (List AV))):=fz none (LW 3 eQ (Q.take i)) n
theorem AfL {Q:List (List Rat)} {n i:Nat} (hi:i<=n):(mz Q n i).length=n:=by
 refine AkN ?_;simp only[LW,List.length_map,List.length_take];omega
theorem AfO (Q:List (List Rat)) (n:Nat):mz Q n 0=List.replicate n none:=by simp [mz,fz]
theorem AfN {Q:List (List Rat)} {n i:Nat} {row:List Rat} (h:Q[i]? = some row) (hi:i<n):(mz Q n i).set i (some (3,row.map eQ))=mz Q n (i+1):=by
 have h1:=(zS h).1;have hl:(LW 3 eQ (Q.take i)).length=i:=by simp only[LW,List.length_map,List.length_take];omega
 have:=AkO (z:=none) (l:=LW 3 eQ (Q.take i)) (m:=n) (x:=some (3,row.map eQ)) (by omega)
 rw[hl]at this;rw[mz,this,mz,Ahk h];simp [LW]
theorem AfK {Q:List (List Rat)} {n:Nat} (h:Q.length=n):mz Q n n=LW 3 eQ Q:=by
 rw[mz,zT (by omega)];exact AkM (by simp [LW,h])
theorem AtU (N:ak L) (m:Nat) (hm:m<=65536):aH L 206 [.int .i64 (m:Int)] 3 ((List.replicate m (0:Rat)).map eQ):=by
 have hO:=PW N.toa7 0 (by omega);refine aH.x N.mT rfl rfl ?_;(repeat' (apply BL<;>conv=>whnf))
 refine K9 (enc:=eO) none m rfl rfl (by omega) ?_;(conv=>whnf)
 skip
 refine K4 (λ i=>m-i) (λ(i:Nat)=>i<=m) (λ i=>[(8,.int .i64 i)]) (λ i=>[(6,6,.rw 3 ((KE (List.replicate i 0) m).map eO))]) [] [] 0 (by first|exact (by (conv=>whnf);exact ⟨rfl,rfl,rfl⟩)|(rw[<-xK];exact (by (conv=>whnf);exact ⟨rfl,rfl,rfl⟩))) (by omega) ?_;intro i p1 ih;by_cases hi:i<m
 ·have hl:=qC (l:=List.replicate i (0:Rat)) (m:=m) (by simp;omega)
  have hs:=uB (l:=List.replicate i (0:Rat)) (m:=m) (x:=0) (by simp;omega);rw[List.length_replicate]at hs;(repeat' ((first|(apply B6<;>intro hc<;>try omega)|(apply EL;omega)|apply BL|refine BF (hO) ?_)<;>conv=>whnf))
  refine bZ (enc:=eO) (some 0) rfl (λ e=>by cases e<;>rfl) (by omega) ?_;(conv=>whnf)
  (repeat' ((first|(apply DD;omega)|fail)<;>conv=>whnf))
  rw[hs];rw[show List.replicate i (0:Rat)++[0]=List.replicate (i+1) 0 by rw[List.replicate_succ']];exact FV [] (ih (i+1) (by omega) (by omega))
 obtain rfl:i=m:=by omega
 clear ih;rw[xJ (by simp)];(repeat' ((first|(apply B6<;>intro hc<;>try omega)|apply BL)<;>conv=>whnf))
 exact ⟨rfl,rfl,by simp,rfl,aJ _⟩
theorem AeZ (N:ak L) (q:Bool) (l:List Rat) (i:Int) (k:Nat) (h0:0<=i) (hl:Bs k l) (hk:k<2199023255552) (hn:l.length<=1000000):Ev L 205 [.sl q (l.map eQ),.int .i64 i] (.agg (eQ (l.getD i.toNat 0))):=by
 have hO:=PW N.toa7 0 (by omega);refine Ev.x N.mR rfl rfl ?_;by_cases hi:i<l.length
 ·obtain ⟨x,hx⟩ : ∃ x,l[i.toNat]? = some x:=⟨_,zE (by omega)⟩
  have hT:=Akr N.toa7 (hl.at hx) hk;rw[Rn hx];(repeat' ((first|(apply B6<;>intro hc<;>try omega)|apply C9|(refine E4 (by assumption) ?_ rfl ?_;omega)|apply BL|refine BF (hT) ?_)<;>conv=>whnf))
  exact DH rfl (JB _)
 ·rw[At9 (l:=l) (by omega)]
  (repeat' ((first|(apply B6<;>intro hc<;>try omega)|apply C9|apply BL|refine BF (hO) ?_)<;>conv=>whnf))
  exact DH rfl (JB _)
theorem Akn (N:ak L) (q:Bool) (l:List Rat) (k:Nat) (ht:sN l=l) (hl:Bs k l) (hk:k<2199023255552) (hn:l.length<=1000000):Ev L 204 [.sl q (l.map eQ)] (.int .i64 ((l.length-1:Nat):Int)):=by
 refine Ev.x N.mS rfl rfl ?_;(repeat' ((first|(apply F8;omega)|apply C9|apply BL)<;>conv=>whnf))
 refine NJ ?_;by_cases h2:l.length<=1
 ·(repeat' ((first|(apply B6<;>intro hc<;>try omega)|apply BL)<;>conv=>whnf))
  exact IC (by omega)
 ·obtain ⟨x,hx⟩ : ∃ x,l[l.length-1]? = some x:=⟨_,zE (by omega)⟩
  have yv:l[((l.length:Int)-1).toNat]? = some x:=by rw[show ((l.length:Int)-1).toNat=l.length-1 by omega];exact hx
  have hxn:=AxN ht (by omega);rw[Rn hx]at hxn;have hS:=xF N.toa7 (hl.at hx) hk;have hs:=sK (x:=x);generalize w3 x.num=s at *;have om:s≠0:=λ h=>hxn (hs.1 h)
  (repeat' ((first|(apply B6<;>intro hc<;>try omega)|(refine E4 (by assumption) ?_ rfl ?_;omega)|apply BL|refine BF (hS) ?_)<;>conv=>whnf))
  exact IC (by omega)
theorem AtP (N:ak L) (q1 q2:Bool) (B A:List Rat) (k:Nat) (hB:Bs k B) (hA:Bs k A) (hk:k<2199023255552) (lB:B.length<=49) (lA:A.length<=49) (h0:A[0]? = some 1):Ev L 201 [.agg [.sl q1 (B.map eQ),.sl q2 (A.map eQ)]] (.bool true):=by
 have c1:=Tq B B.length;have c2:=Tq A A.length;have Ed:=Aj5 N q1 B k hB hk (by omega);have Ee:=Aj5 N q2 A k hA hk (by omega);have hO:=PW N.toa7 1 (by omega);have hC:=xA N (Bt.one 1) (Bt.one 1) (by omega) (by omega);rw[AcL.2 rfl]at hC;have hAl:0<A.length:=(zS h0).1;have Ho:A[(0:Int).toNat]? = some 1:=h0;generalize XP B B.length=d1 at *;generalize XP A A.length=d2 at *;refine Ev.x N.mJ rfl rfl ?_;(repeat' ((first|(apply B6<;>intro hc<;>try omega)|apply C9|(refine E4 (by assumption) ?_ rfl ?_;omega)|apply BL|refine BF (Ed) ?_|refine BF (Ee) ?_|refine BF (hO) ?_|refine BF (hC) ?_)<;>conv=>whnf))
 exact M9 rfl
theorem ZR {α:Type} {l:List α} {i:Nat} {x:α} (h:l[i]? = some x):l.take (i+1)=l.take i++[x]:=by
 rw[List.take_add_one,h];rfl
theorem Aq3 (S:NN) (e:Int):EA (.j5 [.agg (eS S),.int .i64 e]):=by
 have:=Tn S
 simp only[EA,GK,true_and,and_true]at this ⊢;exact this
theorem AiN {a:List (List Rat)} {i j:Nat} {r:List Rat} {x:Rat} (hr:a[j]? = some r) (hx:r[i]? = some x):(JX a i)[j]? = some x:=by
 simp only[JX,List.getElem?_map,hr,Option.map_some,Rn hx]
theorem Abi {R:List (Option (Nat × List (List AV)))} {e:Nat} {r:Option (Nat × List (List AV))} {K:Option (Nat × List (List AV))->Prop} (h:R[e]? = some r) (hk:K r):IO R e K:=by
 unfold IO;exact ⟨r,h,hk⟩
def yQ (n:Nt) (inj:Int) (j:Nat):Int:=if j<n.s.toNat then (j:Int)+1 else if inj<0 then 0 else -1
def cJ (n:Nt) (inj:Int) (j:Nat):Int:=if j<n.s.toNat then -1 else if inj<0 then -1 else inj
def NB (n:Nt) (inj:Int) (k j:Nat):List Rat:=PA ((pw n.c.f:Int):Rat) (cJ n inj j) 0 (JF (1+n.s).toNat (yQ n inj j)) ((II n).take k)
def LI (n:Nt) (inj:Int) (k m:Nat):List Rat:=(List.range (n.s.toNat+1)).map λ j=>(NB n inj k j).getD m 0
def PY (n:Nt) (inj:Int) (k:Nat):List (List Rat):=(List.range ((1+n.s).toNat+k)).map (LI n inj k)
def M6 (n:Nt) (inj:Int) (k:Nat) (ts:List (Int × Int)) (t:Nat):List Rat:=(List.range (n.s.toNat+1)).map λ j=>LJ (NB n inj k j) (ts.take t)/((pw n.c.f:Int):Rat)
theorem Ad5 (n:Nt) (inj:Int) (k j:Nat) (hk:k<=n.nodes.length):(NB n inj k j).length=(1+n.s).toNat+k:=by
 simp only[NB,Akw,Vp,List.length_take,II,List.length_map];omega
theorem uU (n:Nt) (inj:Int) (k m:Nat):(LI n inj k m).length=n.s.toNat+1:=by simp [LI]
theorem AcG (n:Nt) (inj:Int) (k:Nat):(PY n inj k).length=(1+n.s).toNat+k:=by simp [PY]
theorem AiL (n:Nt) (inj:Int) (k j:Nat) (h2:WV n.c) (lz:pM (II n)) (hk:k<=n.nodes.length) (mf:n.nodes.length<=5):Bs 117150 (NB n inj k j):=by
 have o5:(II n).length=n.nodes.length:=by simp [II]
 have Ov:=O2 n.c.f;have Dv:(pw n.c.f).natAbs<=2^24:=by
  have hf:n.c.f<24:=by unfold WV at h2;omega
  have h9:(2:Nat)^n.c.f.toNat<=2^24:=Nat.pow_le_pow_right (by omega) (by omega);rw[pw];exact_mod_cast h9
 have h:=Akv (ex:=cJ n inj j) Ov Dv ((II n).take k) 0 (JF (1+n.s).toNat (yQ n inj j)) ⟨λ ts h=>lz.len ts (List.mem_of_mem_take h),λ ts h=>lz.cf ts (List.mem_of_mem_take h)⟩ (Bs.unit _ _ _);rw[List.length_take,o5,Nat.min_eq_left hk,Nat.zero_add]at h;intro x hx;refine (h x hx).le ?_;rcases k with _|_|_|_|_|_|k
 ·decide
 ·decide
 ·decide
 ·decide
 ·decide
 ·decide
 ·omega
theorem AiM (n:Nt) (inj:Int) (k j:Nat) {ts:List (Int × Int)} (h:(II n)[k]? = some ts):NB n inj (k+1) j=NB n inj k j++[LJ (NB n inj k j) ts/((pw n.c.f:Int):Rat)+(if (k:Int)=cJ n inj j then 1 else 0)]:=At3 _ _ _ _ k ts h
theorem AwD (n:Nt) (inj:Int) (hs:0<=n.s):LI n inj 0 0=JF (n.s.toNat+1) (if inj<0 then n.s else -1):=by
 simp only[LI,NB,List.take_zero,PA,JF];refine List.map_congr_left λ j hj => ?_
 have hj:=List.mem_range.1 hj;rw[List.getD_eq_getElem?_getD,List.getElem?_map,List.getElem?_range (by omega)];simp only[Option.map_some,Option.getD_some,yQ];congr 1;rw[eq_iff_iff];split<;>split<;>omega
theorem AwC (n:Nt) (inj:Int) (i:Nat) (hs:0<=n.s) (hi:i<n.s.toNat):LI n inj 0 (i+1)=JF (n.s.toNat+1) (i:Int):=by
 simp only[LI,NB,List.take_zero,PA,JF];refine List.map_congr_left λ j hj => ?_
 have hj:=List.mem_range.1 hj;rw[List.getD_eq_getElem?_getD,List.getElem?_map,List.getElem?_range (by omega)];simp only[Option.map_some,Option.getD_some,yQ];congr 1;rw[eq_iff_iff];split
 ·omega
 ·split<;>omega
theorem AwG (n:Nt) (inj:Int) (k:Nat) {ts:List (Int × Int)} (h:(II n)[k]? = some ts) (hk:k<n.nodes.length):PY n inj (k+1)=PY n inj k++[LI n inj (k+1) ((1+n.s).toNat+k)]:=by
 unfold PY;rw[show (1+n.s).toNat+(k+1)=((1+n.s).toNat+k)+1 by omega,List.range_succ,List.map_append,List.map_singleton];congr 1;refine List.map_congr_left λ m hm => ?_
 have hm:=List.mem_range.1 hm;unfold LI;refine List.map_congr_left λ j _ => ?_
 rw[AiM n inj k j h,Aug (by rw[Ad5 n inj k j (by omega)];omega)]
theorem Am0 (n:Nt) (inj:Int) (k:Nat) {ts:List (Int × Int)} (h:(II n)[k]? = some ts) (hk:k<n.nodes.length) :
  LI n inj (k+1) ((1+n.s).toNat+k)=(List.range (n.s.toNat+1)).map λ j=>LJ (NB n inj k j) ts/((pw n.c.f:Int):Rat)+(if (k:Int)=cJ n inj j then 1 else 0):=by
 unfold LI;refine List.map_congr_left λ j _ => ?_
 rw[AiM n inj k j h,Auf (by rw[Ad5 n inj k j (by omega)])]
theorem AwF (n:Nt) (inj:Int) (k:Nat) {ts:List (Int × Int)} (h:(II n)[k]? = some ts) (hk:k<n.nodes.length) (u5:(k:Int)≠inj):M6 n inj k ts ts.length=LI n inj (k+1) ((1+n.s).toNat+k):=by
 rw[Am0 n inj k h hk];unfold M6;refine List.map_congr_left λ j _ => ?_
 have : ¬ (k:Int)=cJ n inj j:=by unfold cJ;split<;>(try split)<;>omega
 rw[if_neg this,Rat.add_zero,List.take_length]
theorem AwE (n:Nt) (inj:Int) (k:Nat) {ts:List (Int × Int)} (h:(II n)[k]? = some ts) (hk:k<n.nodes.length) (he:(k:Int)=inj) {x:Rat} (hx:(M6 n inj k ts ts.length)[n.s.toNat]? = some x):(M6 n inj k ts ts.length).set n.s.toNat (x+1)=LI n inj (k+1) ((1+n.s).toNat+k):=by
 rw[Am0 n inj k h hk];refine List.ext_getElem? λ j => ?_
 rw[List.getElem?_set];have hl:(M6 n inj k ts ts.length).length=n.s.toNat+1:=by simp [M6]
 by_cases hj:n.s.toNat=j
 ·subst hj
  rw[if_pos rfl,if_pos (by omega),List.getElem?_map,List.getElem?_range (by omega)];simp only[M6,List.getElem?_map,List.getElem?_range (show n.s.toNat<n.s.toNat+1 by omega),Option.map_some,Option.some.injEq,List.take_length]at hx ⊢;have:(k:Int)=cJ n inj n.s.toNat:=by unfold cJ;rw[if_neg (by omega),if_neg (by omega)];exact he
  rw[if_pos this,hx]
 ·rw[if_neg hj]
  by_cases h2:j<n.s.toNat+1
  ·simp only[M6,List.getElem?_map,List.getElem?_range h2,Option.map_some,List.take_length]
   have : ¬ (k:Int)=cJ n inj j:=by unfold cJ;rw[if_pos (by omega)];omega
   rw[if_neg this,Rat.add_zero]
  ·rw[List.getElem?_eq_none (by omega),List.getElem?_eq_none (by simp;omega)]
theorem ArL (c f:Int):Rat.divInt c (pw f)=((c:Int):Rat)/((pw f:Int):Rat):=by
 obtain ⟨d,hd⟩:=Int.eq_ofNat_of_zero_le (show 0<=pw f by have:=O2 f;omega);rw[hd,Rat.divInt_ofNat,Rat.mkRat_eq_div];rfl
theorem Ahi (n:Nt) (inj:Int) (k:Nat) (ts:List (Int × Int)) (t j:Nat) (hj:j<n.s.toNat+1):(M6 n inj k ts t)[j]? = some (LJ (NB n inj k j) (ts.take t)/((pw n.c.f:Int):Rat)):=by
 simp only[M6,List.getElem?_map,List.getElem?_range hj,Option.map_some]
theorem AxA (n:Nt) (inj:Int) (k:Nat) {ts:List (Int × Int)} {t j:Nat} {e:Int × Int} (he:ts[t]? = some e) (hj:j<n.s.toNat+1) :
  (M6 n inj k ts (t+1))[j]? = some (LJ (NB n inj k j) (ts.take t)/((pw n.c.f:Int):Rat)+((e.2:Int):Rat)/((pw n.c.f:Int):Rat)*(NB n inj k j).getD e.1.toNat 0):=by
 rw[Ahi n inj k ts (t+1) j hj,An7 he];congr 1;simp only[Rat.div_def];grind
theorem AxB (n:Nt) (inj:Int) (k:Nat) (ts:List (Int × Int)) {m:Nat} (hm:n.s.toNat=m):JF (m+1) (-1)=M6 n inj k ts 0:=by
 rw[M6,hm,JF];refine List.map_congr_left λ j _ => ?_
 rw[if_neg (by omega),List.take_zero,LJ,Rat.div_def,Rat.zero_mul]
theorem At2 (N:dn L) (n:Nat) (j:Int) (hn:n<=65536):aH L 135 [.int .i64 (n:Int),.int .i64 j] 3 ((JF n j).map eQ):=by
 have hO:=YU N.toa8 0 (by omega);have hI:=YU N.toa8 1 (by omega);refine aH.x N.lY rfl rfl ?_;(repeat' (apply BL<;>conv=>whnf))
 refine K7 (λ i=>n-i) (λ(i:Nat)=>i<=n) (λ i=>[(6,.int .i64 i),(5,.row 5 0 3 0 i)]) (λ i=>[(5,5,.rw 3 ((JF i j).map eQ))]) 0 (by omega) ?_;intro i p1 ih;have hlen:=Vp i j;by_cases hi:i<n
 ·have Bn:=AxS i j
  by_cases hj:(i:Int)=j
  ·rw[if_pos hj]at Bn
   (repeat' ((first|(apply B6<;>intro hc<;>try omega)|apply KY|apply BL|refine BF (hI) ?_)<;>conv=>whnf))
   refine NL (enc:=eQ) ((1:Int):Rat) rfl hlen.symm rfl (by omega) (by omega) ?_;(conv=>whnf)
   (repeat' ((first|(apply DD;omega)|fail)<;>conv=>whnf))
   rw[show (JF i j++[((1:Int):Rat)]).length=i+1 by simp [hlen],show JF i j++[((1:Int):Rat)]=JF (i+1) j from Bn.symm];exact FV [(5,18)] (ih (i+1) (by omega) (by omega))
  ·rw[if_neg hj]at Bn
   (repeat' ((first|(apply B6<;>intro hc<;>try omega)|apply KY|apply BL|refine BF (hO) ?_)<;>conv=>whnf))
   refine NL (enc:=eQ) ((0:Int):Rat) rfl hlen.symm rfl (by omega) (by omega) ?_;(conv=>whnf)
   (repeat' ((first|(apply DD;omega)|fail)<;>conv=>whnf))
   rw[show (JF i j++[((0:Int):Rat)]).length=i+1 by simp [hlen],show JF i j++[((0:Int):Rat)]=JF (i+1) j from Bn.symm];exact FV [(5,22)] (ih (i+1) (by omega) (by omega))
 ·obtain rfl:i=n:=by omega
  clear ih;(repeat' ((first|(apply B6<;>intro hc<;>try omega)|apply BL)<;>conv=>whnf))
  exact ⟨rfl,rfl,by simp [hlen],rfl,aJ _⟩
theorem Akm (N:eo L) (n:Nt) (inj:Int) (hv:NF n=true) (lz:pM (II n)) (mf:n.nodes.length<=5) (AEi:LU inj) :
  Ev L 163 [.agg (HV n),.int .i64 inj] (.sl false ((PY n inj n.nodes.length).map λ r=>[AV.sl false (r.map eQ)])):=by
 rw[J6]at hv;obtain ⟨h1,h2,h3,h4,h5,h6⟩:=hv;unfold LU at AEi;have hwf:0<=n.c.f/\n.c.f<=62:=by unfold WV at h2;omega
 have Ov:=O2 n.c.f;have Dv:(pw n.c.f).natAbs<=2^24:=by
  have hf:n.c.f<24:=by unfold WV at h2;omega
  have h9:(2:Nat)^n.c.f.toNat<=2^24:=Nat.pow_le_pow_right (by omega) (by omega);rw[pw];exact_mod_cast h9
 have e24:(2:Nat)^24=16777216:=rfl;obtain ⟨m,hm⟩ : ∃ m:Nat,n.s=m:=⟨n.s.toNat,(Int.toNat_of_nonneg (by omega)).symm⟩;have Ab:n.s.toNat=m:=by omega
 have oa:(1+n.s).toNat=m+1:=by omega
 have hZ : ∀ j:Int,aH L 135 [.int .i64 ((m:Int)+1),.int .i64 j] 3 ((JF (m+1) j).map eQ):=λ j=>At2 N.todn (m+1) j (by omega)
 have jm:LI n inj 0 0=JF (m+1) (if inj<0 then n.s else -1):=by rw[AwD n inj (by omega),Ab]
 have hzi : ∀ i:Nat,i<m->LI n inj 0 (i+1)=JF (m+1) (i:Int):=λ i hi=>by rw[AwC n inj i (by omega) (by omega),Ab]
 rw[hm]at jm;refine Ev.x N.lU rfl rfl ?_;refine AoM 6 ?_;(conv=>whnf)
 refine AoL 5 5 rfl ?_;(repeat' ((first|(apply B6<;>intro hc<;>try omega)|(apply DD;omega)|apply BL)<;>conv=>whnf))
 all_goals rw[hm]
 rw[if_neg (by omega)]at jm;rotate_left
 rw[if_pos (by omega)]at jm;rotate_left
 all_goals
  refine vR (enc:=eQ) (m+1) (hZ _) (by simp [JF]) ?_;rw[<-jm];(conv=>whnf)
  refine EL (by rw[List.length_map,uU,Ab]) ?_;refine Abd (ll:=[]) (r:=LI n inj 0 0) (en:=eQ) rfl (by simp) (by simp) ?_;(conv=>whnf)
  skip
  try refine GF (gi:=[(6,.int .i64 0),(5,.row 20 0 1 0 1),(2,.ptr 2 0 0 0),(0+1,.int .i64 inj)]) (M':=[(20,5,.mx (LW 3 eQ ([]++[LI n inj 0 0]))),(2,2,.bx [.int .i64 n.d.b,.int .i64 n.d.f,.int .i64 n.d.r,.int .i64 n.d.o,.int .i64 n.c.b,.int .i64 n.c.f,.int .i64 n.c.r,.int .i64 n.c.o,.int .i64 m,.sl n.qn (n.nodes.map rN),.sl n.qx (n.next.map IM),.int .i64 n.out])]) [(20,29)] (by (conv=>whnf);exact ⟨rfl,rfl,rfl⟩) ?_
  refine K7 (λ i=>m-i) (λ(i:Nat)=>i<=m) (λ i=>[(6,.int .i64 i),(5,.row 20 0 1 0 (1+i))]) (λ i=>[(20,5,.mx (LW 3 eQ ((List.range (1+i)).map (LI n inj 0))))]) 0 (by omega) ?_;intro i p1 ih;have hlr:((List.range (1+i)).map (LI n inj 0)).length=1+i:=by simp
  by_cases hi:i<m
  ·have hzi:=hzi i hi
   have hsc:(List.range (1+i)).map (LI n inj 0)++[LI n inj 0 (i+1)]=(List.range (1+(i+1))).map (LI n inj 0):=by
    rw[show 1+(i+1)=(1+i)+1 by omega,List.range_succ,List.map_append,List.map_singleton,Nat.add_comm i 1]
   (repeat' ((first|(apply B6<;>intro hc<;>try omega)|(apply DD;omega)|apply BL)<;>conv=>whnf))
   refine vR (enc:=eQ) (m+1) (hZ _) (by simp [JF]) ?_;rw[<-hzi];(conv=>whnf)
   refine EL (by rw[List.length_map,uU,Ab]) ?_;refine Abd (r:=LI n inj 0 (i+1)) (en:=eQ) hlr.symm (by omega) (by omega) ?_;rw[hsc,show ((List.range (1+(i+1))).map (LI n inj 0)).length=1+(i+1) by simp];(conv=>whnf)
   (repeat' ((first|(apply DD;omega)|fail)<;>conv=>whnf))
   exact FV [(20,43)] (ih (i+1) (by omega) (by omega))
  obtain rfl:i=m:=by omega
  clear ih;rw[show (List.range (1+i)).map (LI n inj 0)=PY n inj 0 by rw[PY,oa,Nat.add_comm]];have o5:(II n).length=n.nodes.length:=by simp [II]
  (repeat' ((first|(apply B6<;>intro hc<;>try omega)|apply BL)<;>conv=>whnf))
  refine K4 (λ k=>n.nodes.length-k) (λ(k:Nat)=>k<=n.nodes.length) (λ k=>[(7,.int .i64 k),(5,.row 20 0 1 0 (i+1+k))]) (λ k=>[(20,5,.mx (LW 3 eQ (PY n inj k)))]) [] [] 0 (by first|exact (by (conv=>whnf);exact ⟨rfl,rfl,rfl⟩)|(rw[Nat.add_comm 1 i];exact (by (conv=>whnf);exact ⟨rfl,rfl,rfl⟩))) (by omega) ?_;intro k p2 ih;have ng:=AcG n inj k;by_cases hk:k<n.nodes.length
  ·obtain ⟨nd,hnd⟩ : ∃ nd,n.nodes[k]? = some nd:=⟨_,zE hk⟩
   have Io:n.nodes[(k:Int).toNat]? = some nd:=hnd;have vy:(II n)[k]? = some nd.ts:=by simp [II,hnd]
   have Ql:=AfP h4 hnd;have hL:nd.ts.length<=5:=lz.len _ (zM vy);have hC:=lz.cf _ (zM vy);(repeat' ((first|(apply B6<;>intro hc<;>try omega)|(apply DD;omega)|apply C9|apply BL)<;>conv=>whnf))
   refine vR (enc:=eQ) (i+1) (hZ _) (by simp [JF]) ?_;rw[show JF (i+1) (-1)=M6 n inj k nd.ts 0 from AxB n inj k nd.ts Ab];(conv=>whnf)
   refine K7 (λ t=>nd.ts.length-t) (λ(t:Nat)=>t<=nd.ts.length) (λ t=>[(9,.int .i64 t)]) (λ t=>[(54,54,.rw 3 ((M6 n inj k nd.ts t).map eQ))]) 0 (by omega) ?_;intro t p3 th;by_cases ht:t<nd.ts.length
   ·obtain ⟨e,he⟩ : ∃ e,nd.ts[t]? = some e:=⟨_,zE ht⟩
    have oz:nd.ts[(t:Int).toNat]? = some e:=he;have Ym:=zM he;have m6:=List.all_eq_true.1 Ql e Ym;simp only[ON,decide_eq_true_eq]at m6;have hce:=hC e Ym;have hF:=AbW N.toa8 e.2 (pw n.c.f) (by omega) (by omega);rw[ArL]at hF;have Pr:Bt 48 (((e.2:Int):Rat)/((pw n.c.f:Int):Rat)):=(Bt.ofInt hce).Hn Ov Dv;(repeat' ((first|(apply B6<;>intro hc<;>try omega)|apply C9|(refine E4 (by assumption) ?_ rfl ?_;omega)|apply BL)<;>conv=>whnf))
    refine K4 (λ j=>i+1-j) (λ(j:Nat)=>j<=i+1) (λ j=>[(11,.int .i64 j)]) (λ j=>[(54,54,.rw 3 (((M6 n inj k nd.ts (t+1)).take j++(M6 n inj k nd.ts t).drop j).map eQ))]) [] [] 0 (by first|exact (by (conv=>whnf);exact ⟨rfl,rfl,rfl⟩)|(rw[List.take_zero,List.nil_append,List.drop_zero];exact (by (conv=>whnf);exact ⟨rfl,rfl,rfl⟩))) (by omega) ?_;intro j p4 jh;have Hg:(M6 n inj k nd.ts (t+1)).length=i+1:=by simp [M6,Ab]
    have om:(M6 n inj k nd.ts t).length=i+1:=by simp [M6,Ab]
    have De:((M6 n inj k nd.ts (t+1)).take j++(M6 n inj k nd.ts t).drop j).length=i+1:=by rw[List.length_append,List.length_take,List.length_drop];omega
    by_cases hj:j<i+1
    ·have hbc:=AiL n inj k j h2 lz (by omega) mf
     have ag:=Ad5 n inj k j (by omega);have o4:=AxA n inj k he (show j<n.s.toNat+1 by omega);have tz:=Ahi n inj k nd.ts t j (by omega);obtain ⟨x,hx⟩ : ∃ x,(LI n inj k e.1.toNat)[j]? = some x:=⟨_,zE (by rw[uU];omega)⟩;have hxd:(NB n inj k j).getD e.1.toNat 0=x:=by
      rw[LI,List.getElem?_map,List.getElem?_range (by omega),Option.map_some,Option.some.injEq]at hx;exact hx
     have Ce:Bt 117150 x:=by rw[<-hxd];exact hbc.getD _
     rw[hxd]at o4;have Ps:Bt 586000 (LJ (NB n inj k j) (nd.ts.take t)/((pw n.c.f:Int):Rat)):=by
      have a1:=hbc.sum (nd.ts.take t) (j:=24) (λ e he=>Bt.ofInt (hC e (List.mem_of_mem_take he)));have a2:Bt 585900 (LJ (NB n inj k j) (nd.ts.take t)):=a1.le (by
       have:(nd.ts.take t).length<=5:=by rw[List.length_take];omega
       omega)
      exact (a2.Hn Ov Dv).le (by omega)
     have hrw:(PY n inj k)[e.1.toNat]? = some (LI n inj k e.1.toNat):=by
      rw[PY,List.getElem?_map,List.getElem?_range (by omega)];rfl
     have rf:((M6 n inj k nd.ts (t+1)).take j++(M6 n inj k nd.ts t).drop j)[j]? = some (LJ (NB n inj k j) (nd.ts.take t)/((pw n.c.f:Int):Rat)):=by
      rw[List.getElem?_append_right (by rw[List.length_take];omega),List.length_take,Nat.min_eq_left (by omega),Nat.sub_self,List.getElem?_drop,Nat.add_zero];exact tz
     have nr:=AvE (b:=M6 n inj k nd.ts t) o4 (by omega);have Za:=uU n inj k e.1.toNat;generalize LJ (NB n inj k j) (nd.ts.take t)/((pw n.c.f:Int):Rat)=sm at *;have hM:=tX N.toa8 Pr Ce (by omega) (by omega);have hA:=oA N.toa8 Ps (Pr.mul Ce) (by omega) (by omega);(repeat' ((first|(apply B6<;>intro hc<;>try omega)|(apply EL;omega)|(refine NS ?_ (λ_ _ => ?_);omega)|(apply HN;omega)|(refine vW ?_ (λ_=>rfl) (λ v hv => ?_);omega)|apply BL|refine BF (hF) ?_)<;>conv=>whnf))
     cases rf.symm.trans hv;skip
     refine ApA (by omega) (λ r hr => ?_);cases hrw.symm.trans hr;(conv=>whnf)
     skip
     refine EL (by rw[List.length_map];omega) ?_;(conv=>whnf)
     refine Apy hrw ?_;(conv=>whnf)
     (repeat' ((first|(refine vW ?_ (λ_=>rfl) (λ v hv => ?_);omega)|fail)<;>conv=>whnf))
     cases hx.symm.trans hv;(repeat' ((first|(apply EL;omega)|refine BF (hM) ?_|refine BF (hA) ?_)<;>conv=>whnf))
     refine bZ (enc:=eQ) (sm+((e.2:Int):Rat)/((pw n.c.f:Int):Rat)*x) rfl (λ_=>rfl) (by omega) ?_;(conv=>whnf)
     rw[nr];(repeat' ((first|(apply DD;omega)|fail)<;>conv=>whnf))
     exact FV [] (jh (j+1) (by omega) (by omega))
    ·obtain rfl:j=i+1:=by omega
     clear jh;rw[zT (by omega),List.drop_of_length_le (by omega),List.append_nil];(repeat' ((first|(apply B6<;>intro hc<;>try omega)|(apply DD;omega)|apply BL)<;>conv=>whnf))
     exact FV [] (th (t+1) (by omega) (by omega))
   ·obtain rfl:t=nd.ts.length:=by omega
    clear th;have hI:=YU N.toa8 1 (by omega);have om:(M6 n inj k nd.ts nd.ts.length).length=i+1:=by simp [M6,Ab]
    have hsu:=AwG n inj k vy hk;have Yy:=AcG n inj (k+1);have tz:=Ahi n inj k nd.ts nd.ts.length i (by omega);have hbc:=AiL n inj k i h2 lz (by omega) mf;have Ps:Bt 586000 (LJ (NB n inj k i) (nd.ts.take nd.ts.length)/((pw n.c.f:Int):Rat)):=by
     have a1:=hbc.sum (nd.ts.take nd.ts.length) (j:=24) (λ e he=>Bt.ofInt (hC e (List.mem_of_mem_take he)));have a2:Bt 585900 (LJ (NB n inj k i) (nd.ts.take nd.ts.length)):=a1.le (by
      have:(nd.ts.take nd.ts.length).length<=5:=by rw[List.length_take];omega
      omega)
     exact (a2.Hn Ov Dv).le (by omega)
    have Za:=uU n inj (k+1) ((1+n.s).toNat+k);by_cases hki:(k:Int)=inj
    ·all_goals try omega
     all_goals
      have hri:=AwE n inj k vy hk hki (x:=LJ (NB n inj k i) (nd.ts.take nd.ts.length)/((pw n.c.f:Int):Rat)) (by rw[Ab];exact tz);rw[Ab]at hri;generalize LJ (NB n inj k i) (nd.ts.take nd.ts.length)/((pw n.c.f:Int):Rat)=sm at *;have hA:=oA N.toa8 Ps (Bt.ofInt (k:=0) (z:=1) (by decide)) (by omega) (by omega);(repeat' ((first|(apply B6<;>intro hc<;>try omega)|(apply EL;omega)|apply C9|(refine E4 (by assumption) ?_ rfl ?_;omega)|(refine vW ?_ (λ_=>rfl) (λ v hv => ?_);omega)|apply BL|refine BF (hI) ?_)<;>conv=>whnf))
      cases tz.symm.trans hv;(repeat' ((first|(apply EL;omega)|refine BF (hA) ?_)<;>conv=>whnf))
      refine bZ (enc:=eQ) (sm+1) rfl (λ_=>rfl) (by omega) ?_;(conv=>whnf)
      rw[hri];refine EL (by rw[List.length_map];omega) ?_;refine Abd (r:=LI n inj (k+1) ((1+n.s).toNat+k)) (en:=eQ) (by omega) (by omega) (by omega) ?_;rw[<-hsu,Yy,oa];(conv=>whnf)
      (repeat' ((first|(apply DD;omega)|fail)<;>conv=>whnf))
      exact FV [(20,123)] (ih (k+1) (by omega) (by omega))
    ·rw[AwF n inj k vy hk hki]
     (repeat' ((first|(apply B6<;>intro hc<;>try omega)|apply C9|(refine E4 (by assumption) ?_ rfl ?_;omega)|apply BL)<;>conv=>whnf))
     refine EL (by rw[List.length_map];omega) ?_;refine Abd (r:=LI n inj (k+1) ((1+n.s).toNat+k)) (en:=eQ) (by omega) (by omega) (by omega) ?_;rw[<-hsu,Yy,oa];(conv=>whnf)
     (repeat' ((first|(apply DD;omega)|fail)<;>conv=>whnf))
     exact FV [(20,123)] (ih (k+1) (by omega) (by omega))
  ·obtain rfl:k=n.nodes.length:=by omega
   clear ih;(repeat' ((first|(apply B6<;>intro hc<;>try omega)|apply C9|apply BL)<;>conv=>whnf))
   refine pN (λ_=>rfl) rfl (by omega) ?_;(conv=>whnf)
   refine DH rfl ?_;simp only[EA,true_and];exact rH (λ r=>by simp only[GK,EA,and_true,true_and];exact aJ r) _
abbrev eV (r:List Rat):List AV:=[.sl false (r.map eQ)]
def LQ (n:Nt) (R:List (List Rat)):NN where
 a:=n.next.map λ e=>(R.getD e.toNat []).take n.s.toNat
 b:=n.next.map λ e=>(R.getD e.toNat []).getD n.s.toNat 0
 c:=(R.getD n.out.toNat []).take n.s.toNat
 d:=(R.getD n.out.toNat []).getD n.s.toNat 0
theorem Akp (N:eo L) (n:Nt) (R:List (List Rat)) (hv:NF n=true) (hR:(R.length:Int)=1+n.s+n.nodes.length) (hr : ∀ r∈R,r.length=n.s.toNat+1) :
  Ev L 164 [.agg (HV n),.sl false (R.map eV)] (.agg (eS (LQ n R))):=by
 rw[J6]at hv;obtain ⟨h1,h2,h3,h4,h5,h6⟩:=hv;have Fo : ∀ e∈n.next,0<=e/\e<=n.s+n.nodes.length:=λ e he=>by simpa using List.all_eq_true.1 h5 e he
 obtain ⟨m,hm⟩ : ∃ m:Nat,n.s=m:=⟨n.s.toNat,(Int.toNat_of_nonneg (by omega)).symm⟩;have Ab:n.s.toNat=m:=by omega
 obtain ⟨ro,Je⟩ : ∃ r,R[n.out.toNat]? = some r:=⟨_,zE (by omega)⟩;have AWo:=hr ro (zM Je);obtain ⟨x,hx⟩ : ∃ x,ro[m]? = some x:=⟨_,zE (by omega)⟩;have yv:ro[(m:Int).toNat]? = some x:=hx;have qy:(LQ n R).c=ro.take m:=by simp only[LQ,List.getD_eq_getElem?_getD,Je,Ab,Option.getD_some]
 have Bg:(LQ n R).d=x:=by simp only[LQ,List.getD_eq_getElem?_getD,Je,Ab,Option.getD_some,hx]
 have oy:(LQ n R).a.length=m:=by simp [LQ];omega
 have vg:(LQ n R).b.length=m:=by simp [LQ];omega
 refine Ev.x N.lX rfl rfl ?_;(repeat' ((first|(refine E4 (by assumption) ?_ rfl ?_;omega)|apply BL)<;>conv=>whnf))
 rw[hm];refine dD (λ_=>rfl) (by omega) ?_;(conv=>whnf)
 (repeat' ((first|(refine E4 (by assumption) ?_ rfl ?_;omega)|fail)<;>conv=>whnf))
 refine MR (λ i _=>m-i) (λ(i:Nat) (f3:Bool)=>i<=m/\f3=decide (i=0)) (λ i f3=>[(6,.int .i64 i)]) (λ i f3=>bif f3 then [] else [(5,5,.bx ([.row 45 0 1 0 i,.row 62 0 3 0 i,.sl false ((ro.take m).map eQ)]++eQ x)),(45,45,.rw 1 (((LQ n R).a.take i).map eV)),(62,62,.rw 3 (((LQ n R).b.take i).map eQ))]) 0 true ⟨by omega,rfl⟩ ?_;intro i f3 ⟨p1,p2⟩ ih;by_cases hi:i<m
 ·obtain ⟨e,he⟩ : ∃ e,n.next[i]? = some e:=⟨_,zE (by omega)⟩
  have hx2:n.next[(i:Int).toNat]? = some e:=he
  have hen:=Fo e (zM he);obtain ⟨re,hre⟩ : ∃ r,R[e.toNat]? = some r:=⟨_,zE (by omega)⟩;have Yw:=hr re (zM hre);obtain ⟨y,hy⟩ : ∃ y,re[m]? = some y:=⟨_,zE (by omega)⟩;have Lq:re[(m:Int).toNat]? = some y:=hy;have ha:(LQ n R).a[i]? = some (re.take m):=by simp only[LQ,List.getElem?_map,he,Option.map_some,List.getD_eq_getElem?_getD,hre,Ab,Option.getD_some]
  have hb:(LQ n R).b[i]? = some y:=by simp only[LQ,List.getElem?_map,he,Option.map_some,List.getD_eq_getElem?_getD,hre,Ab,Option.getD_some,hy]
  have hta:((LQ n R).a.take i).length=i:=by rw[List.length_take];omega
  have Ze:((LQ n R).b.take i).length=i:=by rw[List.length_take];omega
  have AEL:((LQ n R).a.take (i+1)).length=i+1:=by rw[List.length_take];omega
  have AEM:((LQ n R).b.take (i+1)).length=i+1:=by rw[List.length_take];omega
  have hsa:=Ahk ha;have hsb:=Ahk hb;cases f3
  ·(repeat' ((first|(apply B6<;>intro hc<;>try omega)|(refine E4 (by assumption) ?_ rfl ?_;omega)|apply BL)<;>conv=>whnf))
   refine dD (λ_=>rfl) (by omega) ?_;(conv=>whnf)
   (repeat' (apply KY<;>conv=>whnf))
   refine NL (enc:=eV) (re.take m) rfl hta.symm rfl (by omega) (by omega) ?_;rw[<-hsa,AEL];(conv=>whnf)
   (repeat' ((first|(refine E4 (by assumption) ?_ rfl ?_;omega)|apply KY)<;>conv=>whnf))
   refine NL (enc:=eQ) y rfl Ze.symm rfl (by omega) (by omega) ?_;rw[<-hsb,AEM];(conv=>whnf)
   (repeat' ((first|(apply DD;omega)|fail)<;>conv=>whnf))
   exact FV [(45,1000045),(62,1000062)] (ih (i+1) false (by omega) ⟨by omega,by simp⟩)
  ·obtain rfl:i=0:=by simpa using p2.symm
   (repeat' ((first|(apply B6<;>intro hc<;>try omega)|(refine E4 (by assumption) ?_ rfl ?_;omega)|apply BL)<;>conv=>whnf))
   refine dD (λ_=>rfl) (by omega) ?_;(conv=>whnf)
   (repeat' (apply KY<;>conv=>whnf))
   refine qX (enc:=eV) (re.take m) rfl rfl (by omega) ?_;rw[show [re.take m]=(LQ n R).a.take (0+1) by rw[hsa];rfl];(conv=>whnf)
   (repeat' ((first|(refine E4 (by assumption) ?_ rfl ?_;omega)|apply KY)<;>conv=>whnf))
   refine qX (enc:=eQ) y rfl rfl (by omega) ?_;rw[show [y]=(LQ n R).b.take (0+1) by rw[hsb];rfl];(conv=>whnf)
   (repeat' ((first|(apply DD;omega)|fail)<;>conv=>whnf))
   exact FV [] (ih (0+1) false (by omega) ⟨by omega,by simp⟩)
 ·obtain rfl:i=m:=by omega
  clear ih;rw[zT (show (LQ n R).a.length<=i by omega),zT (show (LQ n R).b.length<=i by omega)];cases f3
  ·(repeat' ((first|(apply B6<;>intro hc<;>try omega)|apply BL)<;>conv=>whnf))
   refine J2 (enc:=eV) (λ_=>rfl) rfl oy.symm ?_;(conv=>whnf)
   refine J2 (enc:=eQ) (λ_=>rfl) rfl vg.symm ?_;(conv=>whnf)
   exact DH (by rw[<-Bg,<-qy];rfl) (Tn _)
  ·obtain rfl:i=0:=by simpa using p2.symm
   have Gx:(LQ n R).a=[]:=List.eq_nil_of_length_eq_zero oy;have td:(LQ n R).b=[]:=List.eq_nil_of_length_eq_zero vg;(repeat' ((first|(apply B6<;>intro hc<;>try omega)|apply BL)<;>conv=>whnf))
   exact DH (by rw[<-Bg,<-qy,eS,Gx,td];rfl) (Tn _)
theorem Ard (n:Nt) (inj:Int) (j:Nat) (hj:j<n.s.toNat):NB n inj n.nodes.length j=O3 n ((j:Int)+1) (-1):=by
 have o5:(II n).length=n.nodes.length:=by simp [II]
 rw[NB,<-o5,List.take_length,cJ,yQ,if_pos hj,if_pos hj];rfl
theorem Arc (n:Nt) (inj:Int):NB n inj n.nodes.length n.s.toNat=if inj<0 then O3 n 0 (-1) else O3 n (-1) inj:=by
 have o5:(II n).length=n.nodes.length:=by simp [II]
 rw[NB,<-o5,List.take_length];unfold cJ yQ;rw[if_neg (Nat.lt_irrefl _),if_neg (Nat.lt_irrefl _)];by_cases h:inj<0
 ·simp only[if_pos h];rfl
 ·simp only[if_neg h];rfl
theorem AcH (n:Nt) (inj:Int) {m:Nat} (hm:m<(1+n.s).toNat+n.nodes.length):(PY n inj n.nodes.length).getD m []=LI n inj n.nodes.length m:=by
 rw[List.getD_eq_getElem?_getD,PY,List.getElem?_map,List.getElem?_range hm];rfl
theorem Am2 (n:Nt) (inj:Int) (m:Nat):(LI n inj n.nodes.length m).take n.s.toNat=(List.range n.s.toNat).map λ(j:Nat)=>(O3 n ((j:Int)+1) (-1)).getD m 0:=by
 rw[LI,<-List.map_take,List.range_succ,List.take_append_of_le_length (by simp),zT (by simp)];refine List.map_congr_left λ j hj => ?_
 rw[Ard n inj j (List.mem_range.1 hj)]
theorem Am1 (n:Nt) (inj:Int) (m:Nat):(LI n inj n.nodes.length m).getD n.s.toNat 0=(if inj<0 then O3 n 0 (-1) else O3 n (-1) inj).getD m 0:=by
 rw[LI,List.getD_eq_getElem?_getD,List.getElem?_map,List.getElem?_range (by omega),Option.map_some,Option.getD_some,Arc]
theorem Aoa (n:Nt) (inj:Int) (hv:NF n=true):LQ n (PY n inj n.nodes.length)=if inj<0 then L9 n else V4 n inj:=by
 rw[J6]at hv;obtain ⟨h1,h2,h3,h4,h5,h6⟩:=hv;have Fo : ∀ e∈n.next,0<=e/\e<=n.s+n.nodes.length:=λ e he=>by simpa using List.all_eq_true.1 h5 e he
 have ea:(LQ n (PY n inj n.nodes.length)).a=(L9 n).a:=by
  simp only[LQ,L9];refine List.map_congr_left λ e he => ?_
  have:=Fo e he
  rw[AcH n inj (by omega),Am2]
 have ec:(LQ n (PY n inj n.nodes.length)).c=(L9 n).c:=by
  simp only[LQ,L9];rw[AcH n inj (by omega),Am2]
 have eb:(LQ n (PY n inj n.nodes.length)).b=n.next.map λ e=>(if inj<0 then O3 n 0 (-1) else O3 n (-1) inj).getD e.toNat 0:=by
  simp only[LQ];refine List.map_congr_left λ e he => ?_
  have:=Fo e he
  rw[AcH n inj (by omega),Am1]
 have ed:(LQ n (PY n inj n.nodes.length)).d=(if inj<0 then O3 n 0 (-1) else O3 n (-1) inj).getD n.out.toNat 0:=by
  simp only[LQ];rw[AcH n inj (by omega),Am1]
 generalize LQ n (PY n inj n.nodes.length)=S at *;obtain ⟨a,b,c,d⟩:=S;simp only at ea eb ec ed;subst ea eb ec ed;split<;>rfl
theorem AeK (I:e8 L) (N:eo L) (n:Nt) (hv:NF n=true) (lz:pM (II n)) (mf:n.nodes.length<=5):Ev L 165 [.agg (HV n)] (.j5 [.agg (eS (L9 n)),.int .i64 0]):=by
 have hV:=Vf n I N.toff;rw[hv]at hV;have hR:=Akm N n (-1) hv lz mf (by unfold LU;omega);have h3:=(J6 n).1 hv;have hS:=Akp N n (PY n (-1) n.nodes.length) hv (by rw[AcG];omega) (λ r hr=>by
  obtain ⟨m,_,rfl⟩:=List.mem_map.1 hr;exact uU _ _ _ _)
 rw[Aoa n (-1) hv,if_pos (by omega)]at hS;refine Ev.x N.lQ rfl rfl ?_;(repeat' ((first|apply BL|refine BF (hV) ?_|refine BF (hR) ?_|refine BF (hS) ?_)<;>conv=>whnf))
 refine DH rfl ?_;simp only[EA,GK,and_true];exact Tn (L9 n)
theorem AsT (I:e8 L) (N:eo L) (n:Nt) (node:Int) (hv:NF n=true) (lz:pM (II n)) (mf:n.nodes.length<=5) (hnI:LU node):Ev L 166 [.agg (HV n),.int .i64 node] (Ab5 n node):=by
 have hV:=Vf n I N.toff;rw[hv]at hV;have h3:=(J6 n).1 hv;have hIn:=cG I node 0 ((n.nodes.length:Int)-1);refine Ev.x N.lN rfl rfl ?_;by_cases Yg:0<=node/\node<n.nodes.length
 ·have hR:=Akm N n node hv lz mf hnI
  have hS:=Akp N n (PY n node n.nodes.length) hv (by rw[AcG];omega) (λ r hr=>by
   obtain ⟨m,_,rfl⟩:=List.mem_map.1 hr;exact uU _ _ _ _)
  rw[Aoa n node hv,if_neg (by omega)]at hS;rw[decide_eq_true (by omega)]at hIn;(repeat' ((first|(apply F8;omega)|apply C9|apply BL|refine BF (hV) ?_|refine BF (hIn) ?_|refine BF (hR) ?_|refine BF (hS) ?_)<;>conv=>whnf))
  rw[Ab5,if_pos Yg];refine DH rfl ?_;simp only[EA,GK,and_true];exact Tn (V4 n node)
 ·rw[decide_eq_false (by omega)]at hIn
  (repeat' ((first|(apply F8;omega)|apply C9|apply BL|refine BF (hV) ?_|refine BF (hIn) ?_)<;>conv=>whnf))
  rw[Ab5,if_neg Yg];exact DH rfl (Aq2 1)
end Go.c9

namespace Go.c9
open Go.ChangeShapes Go.WideShapes Go.ChangeAt Go.RowKit
inductive Ty where
 | int (k:IntKind)
 | bool
 | sl (e:Ty)
 | nil
 | cons (a r:Ty)
def Ty.cells:Ty->Nat
 | .int _=>1 | .bool=>1 | .sl _=>1
 | .nil=>0
 | .cons a r=>a.cells+r.cells
def QA:Ty->List AV->Prop
 | .int k,cs => ∃ n,cs=[.int k n]/\(Lit.int k n).wf=true
 | .bool,cs => ∃ b,cs=[.bool b]
 | .sl e,cs => ∃ es,cs=[.sl true es]/\es.length<=maxLen /\ ∀ x∈es,QA e x
 | .nil,cs=>cs=[]
 | .cons a r,cs => ∃ x y,cs=x++y/\QA a x/\QA r y
theorem QA.len : ∀ {ty:Ty} {cs:List AV},QA ty cs->cs.length=ty.cells
 | .int _,cs,h=>by obtain ⟨n,rfl,_⟩:=h;rfl
 | .bool,cs,h=>by obtain ⟨n,rfl⟩:=h;rfl
 | .sl _,cs,h=>by obtain ⟨n,rfl,_⟩:=h;rfl
 | .nil,cs,h=>by rw[show cs=[] from h];rfl
 | .cons a r,cs,h=>by obtain ⟨x,y,rfl,h1,h2⟩:=h;simp [Ty.cells,QA.len h1,QA.len h2]
def cQ (P:Program):Nat->TypeId->Ty->Bool
 | 0,_,_=>false
 | n+1,t,ty=>match P.underlying t,ty with
  | some (.int k),.int k'=>decide (k=k')
  | some .bool,.bool=>true
  | some (.slice e),.sl va=>cQ P n e va&&(P.cellsOf e == va.cells&&decide (0<va.cells))
  | some (.struct fs),ty=>go (cQ P n) fs.toList 0 ty&&P.cellsOf t == ty.cells
  | _,_=>false
where
 go (ok:TypeId->Ty->Bool):List Field->Nat->Ty->Bool
  | [],_,.nil=>true
  | f::fs,off,.cons a r=>(f.offset == off&&(ok f.type a&&P.cellsOf f.type == a.cells))&&go ok fs (off+a.cells) r
  | _,_,_=>false
section
variable {H:Type} {enc:TypeId × Value->H} {P:Program} {w:World} {base:Nat} {spare:Nat->Bool} {held:Bool} {R:Bool->Nat->Prop}
def XJ (w:World) (R:Bool->Nat->Prop) (as:List AV) (cs:List Value):Prop:=as.length=cs.length /\ ∀ (j:Nat) (a:AV) (c:Value),as[j]? = some a->cs[j]? = some c->Rd w R a c
theorem XJ.one {a:AV} {c:Value} (h:Rd w R a c):XJ w R [a] [c]:=by
 refine ⟨rfl,λ j a' c' h1 h2 => ?_⟩;cases j with
 | zero=>simp at h1 h2;subst h1 h2;exact h
 | succ j=>simp at h1
theorem XJ.append {as bs:List AV} {cs ds:List Value} (h1:XJ w R as cs) (h2:XJ w R bs ds):XJ w R (as++bs) (cs++ds):=by
 refine ⟨by simp [h1.1,h2.1],λ j a c ha hc => ?_⟩;by_cases hj:j<as.length
 ·rw[List.getElem?_append_left hj]at ha
  rw[List.getElem?_append_left (by rw[<-h1.1];exact hj)]at hc;exact h1.2 j a c ha hc
 ·rw[List.getElem?_append_right (by omega)]at ha
  rw[List.getElem?_append_right (by rw[<-h1.1];omega),<-h1.1]at hc;exact h2.2 _ a c ha hc
theorem Aia (a:Addr) (i:Nat) (h:a.spot=none):a.add i=⟨a.block,a.off+i,none⟩:=by
 obtain ⟨b,o,s⟩:=a;simp only at h;subst h;exact WC b o i
theorem Amv (hR : ∀ b,b<w.heap.size->R true b) (m:Nat) (ih : ∀ (ty:Ty) (t:TypeId) (cs:List Value) (fuel:Nat) (x:DataW H × List MemPlace),cQ P m t ty=true->DataW.trod enc P w base spare held fuel t cs=some x -> ∃ as,QA ty as/\XJ w R as cs)
  (n:Nat) (cs:List Value) : ∀ (fs:List Field) (off:Nat) (ty:Ty),cQ.go P (cQ P m) fs off ty=true->(∀ f∈fs,∃ y,DataW.trod enc P w base spare held n f.type ((cs.drop f.offset).take (P.cellsOf f.type))=some y)->off+ty.cells=cs.length -> ∃ as,QA ty as/\XJ w R as (cs.drop off)
 | [],off,ty,m6,_,hl=>by
  cases ty<;>simp only[cQ.go,Bool.false_eq_true]at m6;simp only[Ty.cells]at hl;exact ⟨[],rfl,by rw[List.drop_of_length_le (by omega)];exact ⟨rfl,λ j a c h=>by simp at h⟩⟩
 | f::fs,off,ty,m6,hf,hl=>by
  cases ty<;>simp only[cQ.go,Bool.false_eq_true,Bool.and_eq_true,beq_iff_eq]at m6;rename_i a r;obtain ⟨⟨h1,h2,h3⟩,h4⟩:=m6;simp only[Ty.cells]at hl;obtain ⟨y,hy⟩:=hf f List.mem_cons_self;rw[h1,h3]at hy;obtain ⟨as1,g1,g2⟩:=ih a f.type _ n y h2 hy;obtain ⟨as2,g3,g4⟩:=Amv hR m ih n cs fs (off+a.cells) r h4 (λ f' h'=>hf f' (List.mem_cons_of_mem _ h')) (by omega);refine ⟨as1++as2,⟨as1,as2,rfl,g1,g3⟩,?_⟩;have:=g2.append g4
  rwa [show (cs.drop off).take a.cells++cs.drop (off+a.cells)=cs.drop off by rw[<-List.drop_drop,List.take_append_drop]]at this
theorem Af1 (hR : ∀ b,b<w.heap.size->R true b) : ∀ (m:Nat) (ty:Ty) (t:TypeId) (cs:List Value) (fuel:Nat) (x:DataW H × List MemPlace),cQ P m t ty=true->DataW.trod enc P w base spare held fuel t cs=some x -> ∃ as,QA ty as/\XJ w R as cs
 | 0,_,_,_,_,_,h,_=>by simp [cQ]at h
 | m+1,ty,t,cs,fuel,x,m6,h=>by
  have ih:=Af1 hR m;simp only[cQ]at m6;split at m6
  ·rename_i k k' hu
   obtain rfl:k=k':=by simpa using m6
   obtain ⟨n,rfl,_,hw⟩:=DataW.trod_int hu h;exact ⟨[.int k n],⟨n,rfl,hw⟩,XJ.one (.int k n)⟩
  ·rename_i hu
   cases fuel with
   | zero=>simp [DataW.trod]at h
   | succ fuel =>
    unfold DataW.trod at h;rw[hu]at h;split at h<;>simp_all
    exact ⟨_,⟨_,rfl⟩,XJ.one (.bool _)⟩
  ·rename_i e va hu
   simp only[Bool.and_eq_true,beq_iff_eq,decide_eq_true_eq]at m6;obtain ⟨h1,h2,h3⟩:=m6;rcases DataW.trod_slice hu h with ⟨rfl,_⟩|⟨a,len,cap,elems,rest,n,_,rfl,_,hb,hl,hm,hlen,lk,_,_⟩
   ·exact ⟨[.sl true []],⟨[],rfl,by simp,by simp⟩,XJ.one (.rm true none 0)⟩
   ·have each : ∀ i,i<len -> ∃ as lj,QA va as/\XJ w R as lj/\lj.length=va.cells /\ ∀ j,j<va.cells->w.cell? ((a.add (i*va.cells)).add j)=lj[j]? := by
     intro i hi;have:=lk i hi
     rw[h2,zE (by omega),Option.bind_eq_some_iff]at this;obtain ⟨lj,hc,ht⟩:=this;obtain ⟨as,g1,g2⟩:=ih va e lj n _ h1 ht;obtain ⟨_,q1,q2⟩:=World.cells?_some hc;exact ⟨as,lj,g1,g2,q1,q2⟩
    by_cases h0:len=0
    ·subst h0
     exact ⟨[.sl true []],⟨[],rfl,by simp,by simp⟩,XJ.one (.rm true (some a) cap)⟩
    ·have Lk:a.spot=none:=by
      obtain ⟨as,lj,_,_,q1,q2⟩:=each 0 (by omega);have:=q2 0 h3
      rw[zE (by omega)]at this;simpa [Addr.add] using World.cell?_spot this
     have wq:a.block<w.heap.size:=by
      obtain ⟨as,lj,_,_,q1,q2⟩:=each 0 (by omega);have:=q2 0 h3
      rw[zE (by omega)]at this;simpa [Addr.add] using tL this
     have pick : ∃ f:Nat->List AV × List Value,∀ i,i<len->QA va (f i).1/\XJ w R (f i).1 (f i).2/\(f i).2.length=va.cells /\ ∀ j,j<va.cells->w.cell? ((a.add (i*va.cells)).add j)=(f i).2[j]? := by
      refine ⟨λ i=>if hi:i<len then (Classical.choose (each i hi),Classical.choose (Classical.choose_spec (each i hi))) else ([],[]),λ i hi => ?_⟩;simp only[hi,dif_pos];exact Classical.choose_spec (Classical.choose_spec (each i hi))
     obtain ⟨f,hf⟩:=pick;have z9 : ∀ i e',((List.range len).map λ i=>(f i).1)[i]? = some e'->i<len/\e'=(f i).1:=by
      intro i e' he;rw[List.getElem?_map]at he;by_cases hi:i<len
      ·rw[List.getElem?_range hi]at he
       simp at he;exact ⟨hi,he.symm⟩
      ·rw[List.getElem?_eq_none (by simpa using hi)]at he
       cases he
     refine ⟨[.sl true ((List.range len).map λ i=>(f i).1)],⟨_,rfl,by simp;omega,λ x hx => ?_⟩,XJ.one ?_⟩
     ·obtain ⟨i,hi,rfl⟩:=List.mem_map.1 hx
      exact (hf i (List.mem_range.1 hi)).1
     ·obtain ⟨ab,ao,as⟩:=a
      simp only at Lk;subst Lk;have Lf:((List.range len).map λ i=>(f i).1).length=len:=by simp
      have:=Rd.sl (w:=w) (R:=R) true ((List.range len).map λ i=>(f i).1) ab ao va.cells cap (λ i j=>((f i).2[j]?).getD default) (by intro e;have:=congrArg List.length e;simp at this;omega) h3 (hR ab wq) (by rw[Lf];exact hl)
       (λ e' he=>by
        obtain ⟨i,hi,rfl⟩:=List.mem_map.1 he;exact (hf i (List.mem_range.1 hi)).1.len)
       (λ i e' he j c hc=>by
        obtain ⟨hi,rfl⟩:=z9 i e' he;obtain ⟨g1,g2,g3,g4⟩:=hf i hi;have hj:j<va.cells:=by
         have:=(zS hc).1
         rwa [g1.len]at this
        have h5:=g4 j hj;rw[Aia ⟨ab,ao,none⟩ (i*va.cells) rfl,Aia _ _ rfl]at h5;simp only at h5;rw[show ao+(i*va.cells+j)=ao+i*va.cells+j by omega,h5,zE (by omega)];rfl)
       (λ i e' he j c hc=>by
        obtain ⟨hi,rfl⟩:=z9 i e' he;obtain ⟨g1,g2,g3,g4⟩:=hf i hi;have hj:j<va.cells:=by
         have:=(zS hc).1
         rwa [g1.len]at this
        have h6:(f i).2[j]? = some ((f i).2[j]'(by omega)):=zE _;rw[h6];exact g2.2 j c _ hc h6)
      rwa [Lf]at this
  ·rename_i fs hu
   simp only[Bool.and_eq_true,beq_iff_eq]at m6;obtain ⟨h1,h2⟩:=m6;obtain ⟨xs,n,_,_,hl,hlen,hf⟩:=DataW.trod_struct hu h;have:=Amv hR m ih n cs fs.toList 0 _ h1 (λ f xg=>by
    obtain ⟨i,hi,rfl⟩:=List.getElem_of_mem xg;have h5:=hf i fs.toList[i] (by simp);rw[h5,zE (by simpa [hlen] using hi)];exact ⟨_,rfl⟩) (by rw[hl,h2];omega)
   simpa using this
  ·exact absurd m6 (by simp)
theorem Af2 {S:Nat->Prop} {ty:Ty} {t:TypeId} {v:Value} {d:DataW H} {ps:List MemPlace} {m:Nat} (m6:cQ P m t ty=true) (hv:v.cells.toList=[v]) (h:DataW.Trod enc P w base spare held t v d ps) :
  ∃ a,QA ty [a]/\CA w.heap.size S ⟨λ_ _=>none,C2.emp,w⟩ a v:=by
 obtain ⟨fuel,hf⟩:=h;rw[hv]at hf;obtain ⟨as,h1,h2⟩:=Af1 (R:=safe w.heap.size S ⟨λ_ _=>none,C2.emp,w⟩) (λ b hb=>Or.inr (Or.inr ⟨rfl,hb⟩)) m ty t [v] fuel _ m6 hf;obtain ⟨a,rfl⟩ : ∃ a,as=[a]:=by
  have:=h2.1
  match as,this with
  | [a],_=>exact ⟨a,rfl⟩
 exact ⟨a,h1,.one (.rd (h2.2 0 a v rfl rfl))⟩
theorem Av4 {S:Nat->Prop} {ty:Ty} {t:TypeId} {cs:Array Value} {d:DataW H} {ps:List MemPlace} {m:Nat} (m6:cQ P m t ty=true) (h:DataW.Trod enc P w base spare held t (.agg cs) d ps) :
  ∃ as,QA ty as/\CA w.heap.size S ⟨λ_ _=>none,C2.emp,w⟩ (.agg as) (.agg cs):=by
 obtain ⟨fuel,hf⟩:=h;obtain ⟨as,h1,h2⟩:=Af1 (R:=safe w.heap.size S ⟨λ_ _=>none,C2.emp,w⟩) (λ b hb=>Or.inr (Or.inr ⟨rfl,hb⟩)) m ty t cs.toList fuel _ m6 hf;refine ⟨as,h1,?_⟩;have:=CA.agg (B:=w.heap.size) (S:=S) (m:=⟨λ_ _=>none,C2.emp,w⟩) as cs.toList ⟨h2.1,λ j c v hc hv => .rd (h2.2 j c v hc hv)⟩
 simpa using this
end
theorem AqB {B:Nat} {S:Nat->Prop} {m:M} : ∀ (j:Nat) (c:AV) (v:Value),([]:List AV)[j]? = some c->([]:List Value)[j]? = some v->CA B S m c v:=λ j c v h=>by simp at h
theorem Abw {B:Nat} {S:Nat->Prop} {m:M} {a:AV} {u:Value} {as:List AV} {us:List Value} (h:CA B S m a u) (hr : ∀ (j:Nat) (c:AV) (v:Value),as[j]? = some c->us[j]? = some v->CA B S m c v) :
  ∀ (j:Nat) (c:AV) (v:Value),(a::as)[j]? = some c->(u::us)[j]? = some v->CA B S m c v
 | 0,c,v,h1,h2=>by simp at h1 h2;subst h1 h2;exact h
 | j+1,c,v,h1,h2=>hr j c v (by simpa using h1) (by simpa using h2)
theorem Avl {P:Program} {num:Nat->Nat} {L:Lib} (hP:ProgOK P num L) {f:Nat} {vs:List AV} (h:Ev L f vs (.bool true)) {S:Nat->Prop} {w:World} {us:List Value} (hl:vs.length=us.length)
  (ha : ∀ (j:Nat) (c:AV) (v:Value),vs[j]? = some c->us[j]? = some v->CA w.heap.size S ⟨λ_ _=>none,C2.emp,w⟩ c v) :
  Calls P (num f) us.toArray w λ e w'=>e = .returned (.bool true)/\Below w.heap.size w w':=by
 obtain ⟨n,hn⟩:=h;refine ((AqY hP n).pure f vs _ hn S w us hl ha).mono ?_;rintro e w' ⟨u,rfl,hb,du,_⟩
 refine ⟨?_,hb⟩;cases du with
 | ca Cg=>cases Cg with
  | one fi=>cases fi with
   | rd vk=>cases vk;rfl
end Go.c9

namespace Go.c9
set_option maxHeartbeats 4000000
abbrev tI:Ty := .int .i64
theorem AlH {α:Type} {enc:α->List AV} {p:α->Prop} : ∀ {es:List (List AV)},(∀ x∈es,∃ y,x=enc y/\p y) -> ∃ l:List α,es=l.map enc /\ ∀ y∈l,p y
 | [],_=>⟨[],rfl,by simp⟩
 | e::es,h=>by
  obtain ⟨y,rfl,hy⟩:=h e List.mem_cons_self;obtain ⟨l,rfl,hl⟩:=AlH (enc:=enc) (p:=p) λ x hx=>h x (List.mem_cons_of_mem _ hx)
  exact ⟨y::l,rfl,by simpa using ⟨hy,hl⟩⟩
theorem AuP {α:Type} {enc:α->List AV} {p:α->Prop} {e:Ty} {cs:List AV} (he : ∀ x,QA e x -> ∃ y,x=enc y/\p y) (h:QA (.sl e) cs) : ∃ l:List α,cs=[.sl true (l.map enc)]/\l.length<9223372036854775808 /\ ∀ y∈l,p y:=by
 obtain ⟨es,rfl,hl,hx⟩:=h;obtain ⟨l,rfl,hp⟩:=AlH (enc:=enc) (p:=p) λ x hm=>he x (hx x hm)
 refine ⟨l,rfl,?_,hp⟩;have:maxLen=9223372036854775807:=rfl
 simp at hl;omega
theorem Ax1 {n:Int} (h:(Lit.int .i64 n).wf=true):LU n:=by
 simp only[Lit.wf,Bool.and_eq_true,decide_eq_true_eq]at h;have h1:IntKind.i64.min = -9223372036854775808:=rfl;have h2:IntKind.i64.max=9223372036854775807:=rfl;rw[h1,h2]at h;unfold LU;constructor<;>omega
theorem uF {cs:List AV} (h:QA tI cs) : ∃ n,cs=IM n/\LU n:=by obtain ⟨n,rfl,hw⟩:=h;exact ⟨n,rfl,Ax1 hw⟩
theorem Ald {cs:List AV} (h:QA (.sl tI) cs) : ∃ l:List Int,cs=[.sl true (l.map IM)]/\l.length<9223372036854775808 /\ ∀ v∈l,LU v:=AuP (λ_=>uF) h
theorem AfS (x:Rat):x.num<0↔x<0:=by rw[<-Int.not_le,Rat.num_nonneg,Rat.not_le]
theorem zP (x:Rat):G1 x=if x<0 then -x else x:=by
 unfold G1;by_cases h:x<0
 ·rw[if_pos h,if_pos ((AfS x).2 h)]
 ·rw[if_neg h,if_neg (λ e=>h ((AfS x).1 e))]
theorem AdB (x:Rat):0<=G1 x:=by
 rw[zP];split
 ·grind
 ·grind
theorem AdA (x y:Rat):G1 (x*y)=G1 x*G1 y:=by
 have pp : ∀ a b:Rat,0<=a->0<=b->0<=a*b:=λ a b=>Rat.mul_nonneg
 rw[zP,zP,zP];by_cases hx:x<0
 ·by_cases hy:y<0
  ·have h:=pp (-x) (-y) (by grind) (by grind)
   rw[if_pos hx,if_pos hy,if_neg (by rw[Rat.not_lt];grind)];grind
  ·have h:=pp (-x) y (by grind) (by grind)
   rw[if_pos hx,if_neg hy];by_cases h0:x*y<0
   ·rw[if_pos h0];grind
   ·rw[if_neg h0];grind
 ·by_cases hy:y<0
  ·have h:=pp x (-y) (by grind) (by grind)
   rw[if_neg hx,if_pos hy];by_cases h0:x*y<0
   ·rw[if_pos h0];grind
   ·rw[if_neg h0];grind
  ·have h:=pp x y (by grind) (by grind)
   rw[if_neg hx,if_neg hy,if_neg (by grind)]
theorem AdC {x:Rat} (h:0<=x):G1 x=x:=by
 rw[zP,if_neg (by grind)]
def FY:List Rat->Rat
 | []=>0
 | x::l=>G1 x+FY l
theorem Anj (x:Rat) : ∀ l,FY (l++[x])=FY l+G1 x
 | []=>by simp only[List.nil_append,FY];grind
 | y::l=>by
  simp only[List.cons_append,FY,Anj x l];grind
theorem Anh : ∀ l,0<=FY l
 | []=>by simp [FY]
 | x::l=>by
  have h1:=AdB x;have h2:=Anh l;simp only[FY];grind
theorem AcN {c:Rat} (hc:0<=c) : ∀ l,FY (l.map (· * c))=FY l*c
 | []=>by simp only[List.map_nil,FY];grind
 | x::l=>by
  simp only[List.map_cons,FY,AcN hc l,AdA,AdC hc];grind
def W0 (m x:Rat):Rat:=if m<G1 x then G1 x else m
def H9 (l:List Rat):Rat:=l.foldl W0 0
theorem Aun (l:List Rat) (x:Rat):H9 (l++[x])=W0 (H9 l) x:=by rw[H9,List.foldl_append];rfl
theorem Auj (m x:Rat):m<=W0 m x/\G1 x<=W0 m x:=by
 unfold W0;split<;>exact ⟨by grind,by grind⟩
theorem Auk {c:Rat} (hc:0<c) (m x:Rat):W0 (m*c) (x*c)=W0 m x*c:=by
 unfold W0;rw[AdA,AdC (show 0<=c by grind)];by_cases h:m<G1 x
 ·rw[if_pos h,if_pos ((Rat.mul_lt_mul_right hc).2 h)]
 ·rw[if_neg h,if_neg (λ h1=>h ((Rat.mul_lt_mul_right hc).1 h1))]
theorem AkK {c:Rat} (hc:0<c) : ∀ (l:List Rat) (m:Rat),(l.map (· * c)).foldl W0 (m*c)=l.foldl W0 m*c
 | [],_=>rfl
 | x::l,m=>by rw[List.map_cons,List.foldl_cons,List.foldl_cons,Auk hc,AkK hc l]
theorem Aum {c:Rat} (hc:0<c) (l:List Rat):H9 (l.map (· * c))=H9 l*c:=by
 have:=AkK hc l 0
 rwa [Rat.zero_mul]at this
theorem AkJ : ∀ (l:List Rat) (m:Rat),m<=l.foldl W0 m /\ ∀ x∈l,G1 x<=l.foldl W0 m
 | [],m=>⟨Rat.le_refl,λ x h=>by cases h⟩
 | y::l,m=>by
  obtain ⟨h1,h2⟩:=AkJ l (W0 m y);obtain ⟨h3,h4⟩:=Auj m y;refine ⟨Rat.le_trans h3 h1,λ x hx => ?_⟩;rcases List.mem_cons.1 hx with rfl|hx
  ·exact Rat.le_trans h4 h1
  ·exact h2 x hx
theorem Aul (l:List Rat):0<=H9 l:=(AkJ l 0).1
def KR (a:List (List Rat)):Bool:=a.all λ r=>decide (FY r<=1/2)
def HW (n:Nat) (a:List (List Rat)):Nat->List (List Rat)
 | 0=>a
 | k+1=>QD (HW n a k) (HW n a k) n
theorem vE {n:Nat} {a:List (List Rat)} (h:Sq n a) : ∀ k,Sq n (HW n a k)
 | 0=>h
 | k+1=>Sq.mul (vE h k).l _
def HP (c:Rat) (a:List (List Rat)):List (List Rat):=a.map λ r=>r.map (· * c)
theorem Anm (c:Rat) (a:List (List Rat)):(HP c a).length=a.length:=by simp [HP]
theorem AcO {n:Nat} (c:Rat) {a:List (List Rat)} (h : ∀ r∈a,r.length=n) : ∀ r∈HP c a,r.length=n:=λ r hr=>by
 obtain ⟨s,hs,rfl⟩:=List.mem_map.1 hr;rw[List.length_map];exact h s hs
theorem AgG {n:Nat} (c:Rat) {a:List (List Rat)} (h:Sq n a):Sq n (HP c a):=⟨by rw[Anm,h.l],AcO c h.r⟩
theorem Aw8 {c:Rat} {a:List (List Rat)} {i:Nat} {r:List Rat} (h:a[i]? = some r):(HP c a)[i]? = some (r.map (· * c)):=by rw[HP,List.getElem?_map,h];rfl
theorem Aue (r:List Rat) (c:Rat) (j:Nat):(r.map (· * c)).getD j 0=r.getD j 0*c:=by
 rw[List.getD_eq_getElem?_getD,List.getD_eq_getElem?_getD,List.getElem?_map];cases r[j]? with
 | none=>simp [Rat.zero_mul]
 | some x=>rfl
theorem Arf (c:Rat) (a:List (List Rat)) (j:Nat):JX (HP c a) j=(JX a j).map (· * c):=by
 rw[JX,JX,HP,List.map_map,List.map_map];exact List.map_congr_left λ r _=>Aue r c j
theorem Aez (c d:Rat) (u v:List Rat):GG (u.map (· * c)) (v.map (· * d))=GG u v*(c*d):=by
 rw[Aey,Aex,Aey,Aex];grind
theorem AvN (c d:Rat) (a b:List (List Rat)) (n:Nat):QD (HP c a) (HP d b) n=HP (c*d) (QD a b n):=by
 show (a.map λ r=>r.map (· * c)).map (λ r=>NU r (HP d b) n)=(a.map λ r=>NU r b n).map (λ r=>r.map (· * (c*d)));rw[List.map_map,List.map_map];refine List.map_congr_left λ r _ => ?_
 show NU (r.map (· * c)) (HP d b) n=(NU r b n).map (· * (c*d));rw[NU,NU,List.map_map];refine List.map_congr_left λ j _ => ?_
 show GG (r.map (· * c)) (JX (HP d b) j)=GG r (JX b j)*(c*d);rw[Arf,Aez]
theorem AvQ (c d:Rat) (a:List (List Rat)) (v:List Rat):NV (HP c a) (v.map (· * d))=(NV a v).map (· * (c*d)):=by
 show (a.map λ r=>r.map (· * c)).map (λ r=>GG r (v.map (· * d)))=(a.map λ r=>GG r v).map (· * (c*d));rw[List.map_map,List.map_map];exact List.map_congr_left λ r _=>Aez c d r v
def KD (D:Rat):Nat->Rat
 | 0=>D
 | i+1=>KD D i*KD D i
theorem Aeu {D:Rat} (h:0<D) : ∀ i,0<KD D i
 | 0=>h
 | i+1=>Rat.mul_pos (Aeu h i) (Aeu h i)
theorem AnA (n:Nat) (a:List (List Rat)) (D:Rat) (i:Nat):QD (HP (KD D i) (HW n a i)) (HP (KD D i) (HW n a i)) n=HP (KD D (i+1)) (HW n a (i+1)):=AvN _ _ _ _ _
theorem Ak5 {s D:Rat} (hD:0<D):s*D+s*D<=D↔s<=1/2:=by
 have e:s*D+s*D=(s+s)*D:=by grind
 have h1:(s+s)*D<=1*D↔s+s<=1:=⟨λ h=>Rat.le_of_mul_le_mul_right h hD,λ h=>Rat.mul_le_mul_of_nonneg_right h (by grind)⟩;rw[Rat.one_mul]at h1;rw[e,h1];constructor<;>intro h<;>grind
theorem Aow {k:Nat} {x:Rat} (hx:Bt k x) {S:Nat} {z:Int} (hz:x*(S:Rat)=(z:Rat)) {M:Nat} (hS:S<=2^M):Wh (k+M) (x*(S:Rat)):=by
 refine ⟨z,hz,?_⟩;have h1:=uL x;have h2:((z*(x.den:Int):Int):Rat)=((x.num*(S:Int):Int):Rat):=by
  rw[Rat.intCast_mul,Rat.intCast_mul,<-h1,<-hz,Rat.intCast_natCast,Rat.intCast_natCast];grind
 have h3:=congrArg Int.natAbs (Rat.intCast_inj.1 h2);rw[Int.natAbs_mul,Int.natAbs_mul,Int.natAbs_natCast,Int.natAbs_natCast]at h3;have h4:z.natAbs<=z.natAbs*x.den:=Nat.le_mul_of_pos_right _ x.den_pos;rw[Nat.pow_add];exact Nat.le_trans h4 (by rw[h3];exact Nat.mul_le_mul hx.1 hS)
theorem AwV (S:Nat) (x:Rat):((S:Rat)*x).den ∣ x.den:=by
 refine Aeg (z:=S*x.num) ?_;have h:=uL x;rw[Rat.intCast_mul,<-h,Rat.intCast_natCast];grind
theorem Anc {k:Nat} : ∀ (l:List Rat) (S:Nat),0<S->Bs k l -> ∃ S':Nat,l.foldl Zw (S:Rat)=(S':Rat)/\0<S'/\S'<=S*2^(l.length*k)/\S ∣ S' /\ ∀ x∈l,∃ z:Int,x*(S':Rat)=(z:Rat)
 | [],S,h,_=>⟨S,rfl,h,by simp,Nat.dvd_refl S,λ x hx=>by cases hx⟩
 | x::l,S,h,hb=>by
  have h1:=AwV S x;have hx:=hb x List.mem_cons_self;have h2:((S:Rat)*x)*((((S:Rat)*x).den:Nat):Rat)=(((S:Rat)*x).num:Rat):=uL _;have h3:=Nat.le_of_dvd x.den_pos h1;have h4:=((S:Rat)*x).den_pos;generalize ((S:Rat)*x).num=u at h2;obtain ⟨S',e,p1,p2,p3,p4⟩:=Anc l (S*((S:Rat)*x).den) (Nat.mul_pos h h4) λ y hy=>hb y (List.mem_cons_of_mem _ hy)
  refine ⟨S',by rw[List.foldl_cons,<-e,Zw,Rat.natCast_mul],p1,?_,Nat.dvd_trans (Nat.dvd_mul_right _ _) p3,λ y hy => ?_⟩
  ·have h5:S*((S:Rat)*x).den<=S*2^k:=Nat.mul_le_mul_left S (Nat.le_trans h3 hx.2)
   have h6:=zR (2^(l.length*k)) h5;rw[List.length_cons,Nat.succ_mul,Nat.pow_add,Nat.mul_comm (2^(l.length*k)),<-Nat.mul_assoc];exact Nat.le_trans p2 h6
  ·rcases List.mem_cons.1 hy with rfl|hy
   ·obtain ⟨t,rfl⟩:=p3
    refine ⟨u*(t:Int),?_⟩;rw[Rat.natCast_mul,Rat.natCast_mul,Rat.intCast_mul,<-h2,Rat.intCast_natCast];grind
   ·exact p4 y hy
theorem AgB {k:Nat} {l:List Rat} (hb:Bs k l) : ∃ S:Nat,PO l=(S:Rat)/\0<S/\S<=2^(l.length*k) /\ ∀ x∈l,∃ z:Int,x*(S:Rat)=(z:Rat):=by
 obtain ⟨S,e,h1,h2,_,h3⟩:=Anc l 1 (by omega) hb;exact ⟨S,e,h1,by rwa [Nat.one_mul]at h2,h3⟩
theorem ArE (S:Nat) (x:Rat):((S:Rat)/(x.den:Rat)).den=((S:Rat)*x).den:=by
 have Bg:(x.den:Rat)≠0:=λ e=>by
  have:((x.den:Nat):Rat)=((0:Nat):Rat):=e
  have:=Rat.natCast_inj.1 this
  have:=x.den_pos
  omega
 have hx:=uL x;refine Nat.dvd_antisymm ?_ ?_
 ·-- e=(S x).den: e S num/d whole,so d ∣ e S
  have h1:=uL ((S:Rat)*x);generalize hE:((S:Rat)*x).den=E at *;generalize ((S:Rat)*x).num=u at h1;have h2:(((E*S:Nat):Int)*x.num:Int)=u*(x.den:Int):=by
   refine Rat.intCast_inj.1 ?_;rw[Rat.intCast_mul,Rat.intCast_mul,<-hx,<-h1,Rat.intCast_natCast,Rat.intCast_natCast,Rat.natCast_mul];grind
  have h3:x.den ∣ E*S*x.num.natAbs:=by
   have h4:(x.den:Int) ∣ ((E*S:Nat):Int)*x.num:=⟨u,by rw[h2,Int.mul_comm]⟩;have:=Int.natAbs_dvd_natAbs.2 h4
   rw[Int.natAbs_mul,Int.natAbs_natCast,Int.natAbs_natCast]at this;exact this
  obtain ⟨t,ht⟩:=Nat.Coprime.dvd_of_dvd_mul_right (Nat.Coprime.symm x.reduced) h3;refine Aeg (z:=t) ?_;have h5:((E*S:Nat):Rat)=((x.den*t:Nat):Rat):=congrArg _ ht;rw[Rat.natCast_mul,Rat.natCast_mul]at h5;rw[Rat.div_def,<-Rat.mul_assoc,h5,Rat.intCast_natCast];have:=Rat.mul_inv_cancel _ Bg
  grind
 ·have h1:=uL ((S:Rat)/(x.den:Rat))
  generalize ((S:Rat)/(x.den:Rat)).num=u at h1;generalize ((S:Rat)/(x.den:Rat)).den=E at *;refine Aeg (z:=u*x.num) ?_;rw[Rat.intCast_mul,<-h1,<-hx,Rat.div_def];have:=Rat.mul_inv_cancel _ Bg
  grind
def O5 (a:List (List Rat)) (b:List Rat):Nat->List Rat
 | 0=>b
 | k+1=>NV a (O5 a b k)
theorem Adb {a:List (List Rat)} {b:List Rat} {n:Nat} (ha:a.length=n) (hb:b.length=n) : ∀ k,(O5 a b k).length=n
 | 0=>hb
 | k+1=>by rw[O5,AfJ,ha]
theorem Aro {a:List (List Rat)}:KR a=true ↔ ∀ r∈a,FY r<=1/2:=by
 rw[KR,List.all_eq_true];exact ⟨λ h r hr=>by simpa using h r hr,λ h r hr=>by simpa using h r hr⟩
theorem Ahf {f:Nat->Rat} (h : ∀ j,0<=f j) : ∀ n,0<=PP f n
 | 0=>Rat.le_refl
 | n+1=>by
  have h1:=Ahf h n;have h2:=h n;simp only[PP];grind
def cK (a:List (List Rat)) (b:List Rat) (k:Nat):Rat:=H9 (O5 a b k)
def YV (a:List (List Rat)) (b c:List Rat) (k:Nat):Rat:=G1 (GG c (O5 a b k))
def M4 (S:NN) (p:Nat):Rat:=G1 S.d+(PP (YV S.a S.b S.c) (p+p)+FY S.c*PP (λ j=>cK S.a S.b (p+j)) p)
theorem Aim {k:Nat} {x:Rat} {S:Nat} (hS:0<S) (Xe:S<=2^k) (h:Wh k (x*(S:Rat))):Bt k x:=by
 obtain ⟨z,hz,hk⟩:=h;have h0:(S:Rat)≠0:=λ e=>by
  have:((S:Nat):Rat)=((0:Nat):Rat):=e
  have:=Rat.natCast_inj.1 this
  omega
 have e:x=mkRat z S:=by
  rw[Rat.mkRat_eq_div,<-hz,Rat.div_def,Rat.mul_assoc,Rat.mul_inv_cancel _ h0,Rat.mul_one]
 rw[e];exact Bt.mk hk Xe
theorem Aov {k l n:Nat} {a:List (List Rat)} {v:List Rat} (ha : ∀ r∈a,∀ x∈r,Wh k x) (hl : ∀ r∈a,r.length=n) (hv : ∀ x∈v,Wh l x) : ∀ x∈NV a v,Wh (k+l+n) x:=λ x hx=>by
 obtain ⟨r,hr,rfl⟩:=List.mem_map.1 hx;have:=Wh.dot (ha r hr) hv
 rwa [hl r hr]at this
theorem Tk {n k:Nat} {a:List (List Rat)} (hs:Sq n a) (hb:Ms k a) : ∃ S:Nat,PO a.flatten=(S:Rat)/\0<S/\S<=2^(n*n*k) /\ ∀ r∈HP (S:Rat) a,∀ x∈r,Wh (k+n*n*k) x:=by
 have hl:a.flatten.length=n*n:=by
  have : ∀ (a:List (List Rat)),(∀ r∈a,r.length=n)->a.flatten.length=a.length*n:=by
   intro a;induction a with
   | nil=>intro _;simp
   | cons r a ih =>
    intro h;rw[List.flatten_cons,List.length_append,ih λ x hx=>h x (List.mem_cons_of_mem _ hx),h r List.mem_cons_self,List.length_cons,Nat.succ_mul,Nat.add_comm]
  rw[this a hs.r,hs.l]
 have Ei:Bs k a.flatten:=λ x hx=>by
  obtain ⟨r,hr,hx⟩:=List.mem_flatten.1 hx;exact hb r hr x hx
 obtain ⟨S,e,h1,h2,h3⟩:=AgB Ei;rw[hl]at h2;refine ⟨S,e,h1,h2,λ r hr x hx => ?_⟩;obtain ⟨s,hs,rfl⟩:=List.mem_map.1 hr;obtain ⟨y,hy,rfl⟩:=List.mem_map.1 hx;obtain ⟨z,hz⟩:=h3 y (List.mem_flatten.2 ⟨s,hs,hy⟩);exact Aow (hb s hs y hy) hz h2
theorem Rs {n k:Nat} {b:List Rat} (hl:b.length=n) (hb:Bs k b) : ∃ S:Nat,PO b=(S:Rat)/\0<S/\S<=2^(n*k) /\ ∀ x∈b.map (· * (S:Rat)),Wh (k+n*k) x:=by
 obtain ⟨S,e,h1,h2,h3⟩:=AgB hb;rw[hl]at h2;refine ⟨S,e,h1,h2,λ x hx => ?_⟩;obtain ⟨y,hy,rfl⟩:=List.mem_map.1 hx;obtain ⟨z,hz⟩:=h3 y hy;exact Aow (hb y hy) hz h2
def JL (a:List (List Rat)) (b:List Rat) (D E:Rat) (j:Nat):List Rat:=(O5 a b j).map (· * (E*D^j))
theorem Add (a:List (List Rat)) (b:List Rat) (D E:Rat):JL a b D E 0=b.map (· * E):=by
 rw[JL,Rat.pow_zero,Rat.mul_one];rfl
theorem Adc (a:List (List Rat)) (b:List Rat) (D E:Rat) (j:Nat):JL a b D E (j+1)=NV (HP D a) (JL a b D E j):=by
 rw[JL,JL,AvQ,O5];refine List.map_congr_left λ x _ => ?_
 rw[Rat.pow_succ];grind
def vN (n k j:Nat):Nat:=(k+n*k)+j*((k+n*n*k)+n)
theorem Ahv {n k:Nat} {a:List (List Rat)} {b:List Rat} {D E:Nat} (hs:Sq n a) (hA : ∀ r∈HP (D:Rat) a,∀ x∈r,Wh (k+n*n*k) x) (hB : ∀ x∈b.map (· * (E:Rat)),Wh (k+n*k) x) : ∀ j,∀ x∈JL a b D E j,Wh (vN n k j) x
 | 0=>by
  rw[Add];intro x hx;exact (hB x hx).le (by rw[vN];omega)
 | j+1=>by
  rw[Adc];intro x hx;refine (Aov hA (AcO _ hs.r) (Ahv hs hA hB j) x hx).le ?_;simp only[vN,Nat.succ_mul];omega
theorem Awe (D j:Nat):(D:Rat)^j=((D^j:Nat):Rat):=by
 induction j with
 | zero=>rfl
 | succ j ih=>rw[Rat.pow_succ,ih,Nat.pow_succ,Rat.natCast_mul]
theorem Aou {n k:Nat} {a:List (List Rat)} {b:List Rat} (hs:Sq n a) (hb:b.length=n) (ha:Ms k a) (Ku:Bs k b) (j:Nat):Bs (vN n k j) (O5 a b j):=by
 obtain ⟨D,_,d1,d2,d3⟩:=Tk hs ha;obtain ⟨E,_,e1,e2,e3⟩:=Rs hb Ku;have hw:=Ahv hs d3 e3 j;intro x hx;refine Aim (S:=E*D^j) (Nat.mul_pos e1 (Nat.pow_pos d1)) ?_ ?_
 ·have h1:D^j<=2^(n*n*k*j):=by rw[Nat.pow_mul];exact Nat.pow_le_pow_left d2 j
  refine Nat.le_trans (Nat.mul_le_mul e2 h1) ?_;rw[<-Nat.pow_add];refine Nat.pow_le_pow_right (by omega) ?_;rw[vN,Nat.mul_add,Nat.mul_add,Nat.mul_comm (n*n*k) j];omega
 ·refine hw _ (List.mem_map.2 ⟨x,hx,?_⟩)
  rw[Awe,Rat.natCast_mul]
def OQ (n:Nat) (a:List (List Rat)) (i:Nat):Prop:=KR (HW n a i)=true /\ ∀ j,j<i->KR (HW n a j)=false
theorem OQ.uniq {n i j:Nat} {a:List (List Rat)} (hi:OQ n a i) (hj:OQ n a j):i=j:=by
 rcases Nat.lt_trichotomy i j with h|h|h
 ·have:=hj.2 i h
  rw[hi.1]at this;cases this
 ·exact h
 ·have:=hi.2 j h
  rw[hj.1]at this;cases this
def M7 (k:Nat):Nat->Nat
 | 0=>17*k
 | i+1=>M7 k i+M7 k i+4
theorem AoD {k:Nat} : ∀ i,i<=7->M7 k i<=2176*k+508:=by
 intro i hi;have h1:M7 k 0=17*k:=rfl;have e1:M7 k 1=M7 k 0+M7 k 0+4:=rfl;have e2:M7 k 2=M7 k 1+M7 k 1+4:=rfl;have e3:M7 k 3=M7 k 2+M7 k 2+4:=rfl;have e4:M7 k 4=M7 k 3+M7 k 3+4:=rfl;have e5:M7 k 5=M7 k 4+M7 k 4+4:=rfl;have e6:M7 k 6=M7 k 5+M7 k 5+4:=rfl;have e7:M7 k 7=M7 k 6+M7 k 6+4:=rfl;obtain rfl|rfl|rfl|rfl|rfl|rfl|rfl|rfl:i=0\/i=1\/i=2\/i=3\/i=4\/i=5\/i=6\/i=7:=by omega
 all_goals omega
theorem Ax2 {k l n:Nat} {a b:List (List Rat)} (ha : ∀ r∈a,∀ x∈r,Wh k x) (hl : ∀ r∈a,r.length=n) (hb : ∀ r∈b,∀ x∈r,Wh l x) : ∀ r∈QD a b n,∀ x∈r,Wh (k+l+n) x:=λ r hr x hx=>by
 obtain ⟨s,hs,rfl⟩:=List.mem_map.1 hr;obtain ⟨j,_,rfl⟩:=List.mem_map.1 hx;have hc : ∀ x∈JX b j,Wh l x:=λ x hx=>by
  obtain ⟨t,ht,rfl⟩:=List.mem_map.1 hx;rw[List.getD_eq_getElem?_getD];cases e:t[j]? with
  | none=>exact Wh.zero l
  | some y=>exact hb t ht y (zM e)
 have:=Wh.dot (ha s hs) hc
 rwa [hl s hs]at this
theorem AcY {n k:Nat} {a:List (List Rat)} {D:Nat} (hs:Sq n a) (hn:n<=4) (hA : ∀ r∈HP (D:Rat) a,∀ x∈r,Wh (k+n*n*k) x) : ∀ i,∀ r∈HP (KD (D:Rat) i) (HW n a i),∀ x∈r,Wh (M7 k i) x
 | 0=>λ r hr x hx=>(hA r hr x hx).le (by
   show k+n*n*k<=17*k;have:n*n<=4*4:=Nat.mul_le_mul hn hn
   have:=zR k this
   omega)
 | i+1=>λ r hr x hx=>by
  rw[<-AnA]at hr;exact (Ax2 (AcY hs hn hA i) (AcO _ (vE hs i).r) (AcY hs hn hA i) r hr x hx).le (by simp only[M7];omega)
theorem Aev {D M:Nat} (hD:D<=2^M) : ∀ i,Wh (2^i*M) (KD (D:Rat) i)
 | 0=>⟨(D:Int),by rw[KD,Rat.intCast_natCast],by rw[Nat.pow_zero,Nat.one_mul];simpa using hD⟩
 | i+1=>((Aev hD i).mul (Aev hD i)).le (by rw[Nat.pow_succ,Nat.mul_two,Nat.add_mul];exact Nat.le_refl _)
theorem Ai4 (D:Nat) : ∀ i,KD (D:Rat) i=((D^2^i:Nat):Rat)
 | 0=>by simp [KD]
 | i+1=>by
  rw[KD,Ai4 D i,<-Rat.natCast_mul,<-Nat.pow_add,Nat.pow_succ,Nat.mul_two]
theorem Arp {n i:Nat} {a:List (List Rat)} {D:Rat} (hD:0<D):(∀ r∈HP (KD D i) (HW n a i),FY r+FY r<=KD D i)↔KR (HW n a i)=true:=by
 have hp:=Aeu hD i;rw[Aro];constructor
 ·intro h r hr
  have:=h _ (List.mem_map.2 ⟨r,hr,rfl⟩)
  rw[AcN (by grind)]at this;exact (Ak5 hp).1 this
 ·intro h r hr
  obtain ⟨s,hs,rfl⟩:=List.mem_map.1 hr;rw[AcN (by grind)];exact (Ak5 hp).2 (h s hs)
theorem oQ {k:Nat} : ∀ {l:List Rat},Bs k l->Bt (l.length*(k+1)) (FY l)
 | [],_=>Bt.zero _
 | x::l,h=>by
  have h1:=oQ (l:=l) λ y hy=>h y (List.mem_cons_of_mem _ hy)
  have h2:Bt k (G1 x):=by
   unfold G1;split
   ·exact (h x List.mem_cons_self).Oy
   ·exact h x List.mem_cons_self
  refine (h2.add h1).le ?_;rw[List.length_cons,Nat.succ_mul];omega
theorem RR {k:Nat} {x:Rat} (h:Bt k x):Bt k (G1 x):=by
 unfold G1;split
 ·exact h.Oy
 ·exact h
theorem Aui {k:Nat} {m x:Rat} (hm:Bt k m) (hx:Bt k x):Bt k (W0 m x):=by
 unfold W0;split
 ·exact RR hx
 ·exact hm
theorem oD {k:Nat} {l:List Rat} (h:Bs k l):Bt k (H9 l):=by
 have : ∀ (l:List Rat) (m:Rat),Bt k m->Bs k l->Bt k (l.foldl W0 m):=by
  intro l;induction l with
  | nil=>intro m hm _;exact hm
  | cons x l ih =>
   intro m hm h;exact ih _ (Aui hm (h x List.mem_cons_self)) λ y hy=>h y (List.mem_cons_of_mem _ hy)
 exact this l 0 (Bt.zero k) h
theorem Af4 (D:Rat) (a:Nat) : ∀ b:Nat,D^(a+b)=D^a*D^b
 | 0=>by rw[Nat.add_zero,Rat.pow_zero,Rat.mul_one]
 | b+1=>by rw[<-Nat.add_assoc,Rat.pow_succ,Af4 D a b,Rat.pow_succ,Rat.mul_assoc]
def LV (D:Rat) (f:Nat->Rat):Nat->Rat
 | 0=>0
 | m+1=>LV D f m*D+f m
theorem Afj {D c:Rat} {f F:Nat->Rat} (h : ∀ j,f j=F j*(c*D^j)) : ∀ m,LV D f m*D=c*D^m*PP F m
 | 0=>by simp only[LV,PP];grind
 | m+1=>by
  have:=Afj h m
  rw[LV,Rat.add_mul,this,h m,Rat.pow_succ,PP];grind
theorem uH {D:Rat} {f:Nat->Rat} {d k:Nat} (hD:Bt d D) : ∀ m,(∀ j,j<m->Bt k (f j))->Bt (m*(d+k+1)) (LV D f m)
 | 0,_=>Bt.zero _
 | m+1,h=>by
  have h1:=uH hD m λ j hj=>h j (by omega)
  refine ((h1.mul hD).add (h m (by omega))).le ?_;rw[Nat.succ_mul];omega
theorem Ayb {a:List (List Rat)} {b:List Rat} {D E:Rat} (hD:0<D) (hE:0<E) (j:Nat):H9 (JL a b D E j)=cK a b j*(E*D^j):=Aum (Rat.mul_pos hE (by
 induction j with
 | zero=>rw[Rat.pow_zero];decide
 | succ j ih=>rw[Rat.pow_succ];exact Rat.mul_pos ih hD)) _
theorem An8 {S:NN} {D E O:Rat} {p:Nat} (hp:1<=p) (hD:0<D) (hE:0<E) (hO:0<O) :
  (LV D (λ j=>G1 (GG (S.c.map (· * O)) (JL S.a S.b D E j))) (p+p)+FY (S.c.map (· * O))*LV D (λ j=>H9 (JL S.a S.b D E (p+j))) p)/(D^(p+p-1)*(E*O))=PP (YV S.a S.b S.c) (p+p)+FY S.c*PP (λ j=>cK S.a S.b (p+j)) p:=by
 have Od : ∀ j:Nat,0<D^j:=λ j=>by
  induction j with
  | zero=>rw[Rat.pow_zero];decide
  | succ j ih=>rw[Rat.pow_succ];exact Rat.mul_pos ih hD
 have h1:=Afj (D:=D) (c:=O*E) (f:=λ j=>G1 (GG (S.c.map (· * O)) (JL S.a S.b D E j))) (F:=YV S.a S.b S.c) (λ j=>by
  show G1 (GG (S.c.map (· * O)) (JL S.a S.b D E j))=_;rw[JL,Aez,AdA,YV,AdC (show 0<=O*(E*D^j) from by have:=Rat.mul_pos hO (Rat.mul_pos hE (Od j));grind)];grind) (p+p)
 have h2:=Afj (D:=D) (c:=E*D^p) (f:=λ j=>H9 (JL S.a S.b D E (p+j))) (F:=λ j=>cK S.a S.b (p+j)) (λ j=>by
  show H9 (JL S.a S.b D E (p+j))=_;rw[Ayb hD hE,Af4];grind) p
 have h3:FY (S.c.map (· * O))=FY S.c*O:=AcN (by grind) _;generalize LV D (λ j=>G1 (GG (S.c.map (· * O)) (JL S.a S.b D E j))) (p+p)=u at *;generalize LV D (λ j=>H9 (JL S.a S.b D E (p+j))) p=t at *;generalize PP (YV S.a S.b S.c) (p+p)=F at *;generalize PP (λ j=>cK S.a S.b (p+j)) p=G at *;rw[h3];have h4:D^(p+p)=D^(p+p-1)*D:=by rw[<-Rat.pow_succ];congr 1;omega
 have h5:D^(p+p)=D^p*D^p:=Af4 _ _ _;have hq:=Od (p+p-1);have hz:=Od p;generalize D^(p+p-1)=L at *;generalize D^(p+p)=M at *;generalize D^p=P at *;have u5:L*(E*O)≠0:=by
  have:=Rat.mul_pos hq (Rat.mul_pos hE hO)
  grind
 have key:(u+FY S.c*O*t)*D=(F+FY S.c*G)*(L*(E*O))*D:=by
  have e1:u*D=O*E*(L*D)*F:=by rw[h1,h4]
  have e2:t*D=E*(L*D)*G:=by rw[h2,<-h4,h5];grind
  have:(u+FY S.c*O*t)*D=u*D+FY S.c*O*(t*D):=by grind
  rw[this,e1,e2];grind
 have Wr:D≠0:=by grind
 have:=AvP Wr key
 rw[this,Rat.div_def,Rat.mul_assoc,Rat.mul_inv_cancel _ u5,Rat.mul_one]
abbrev tPl:Ty := .cons tI (.cons tI (.cons tI (.cons (.sl tI) (.cons (.sl tI) .nil))))
theorem AuO {cs:List AV} (h:QA tPl cs) : ∃ (kd dk ck:Int) (b a:List Int),cs=[.int .i64 kd,.int .i64 dk,.int .i64 ck,.sl true (b.map IM),.sl true (a.map IM)]/\LU kd/\LU dk/\LU ck/\b.length<9223372036854775808/\a.length<9223372036854775808 /\ ∀ v∈a,LU v:=by
 obtain ⟨_,_,rfl,h1,_,_,rfl,h2,_,_,rfl,h3,_,_,rfl,h4,_,_,rfl,h5,rfl⟩:=h;obtain ⟨kd,rfl,i1⟩:=uF h1;obtain ⟨dk,rfl,i2⟩:=uF h2;obtain ⟨ck,rfl,i3⟩:=uF h3;obtain ⟨b,rfl,l4,_⟩:=Ald h4;obtain ⟨a,rfl,l5,i5⟩:=Ald h5;exact ⟨kd,dk,ck,b,a,rfl,i1,i2,i3,l4,l5,i5⟩
end Go.c9

namespace Go.c9
open F
attribute [local irreducible] A0 B0 D8 BK IH DY FC E1 HI F9 IA LT GS EF HH H4 BD EU B9 pw IO H0 JM KX J9 GV IJ GT JW
variable {L:Lib}
set_option maxHeartbeats 8000000
abbrev eM (m:List (List Rat)):List (List AV):=m.map λ r=>[AV.sl false (r.map eQ)]
theorem Ad0 (m:List (List Rat)):L3 (eM m):=rH (λ r=>by simp only[GK,EA,and_true,true_and];exact aJ r) m
theorem Aix (m:List (List Rat)):EA (.sl false (eM m)):=by
 simp only[EA,true_and];exact Ad0 m
theorem yU {b:Int} (hb:0<=b) (v:Int) : -b<=dB b v/\dB b v<=b:=by
 have:=oX (v:=IntKind.i64.wrap (v+b)) (m:=2*b+1) (by omega)
 unfold dB;omega
theorem Aif {c:Wd} (hc:WV c) (l:List Int) (n:Nat) : ∀ v∈WD (pw (c.b-1)-1) l n,FT c v/\FT c (-v):=by
 intro v hv;obtain ⟨h1,h2,h3,h4⟩:=sC hc;simp only[WD,List.mem_map]at hv;obtain ⟨i,_,rfl⟩:=hv;have:=yU (b:=pw (c.b-1)-1) (by omega) (MS l i)
 exact ⟨⟨hc,by omega,by omega⟩,⟨hc,by omega,by omega⟩⟩
theorem AdH (b:Int) (l:List Int) (n:Nat):(WD b l n).length=n:=by simp [WD]
theorem AiJ (k:Int):(HU k).f<=(HU k).b-2:=by
 have hr:=oX (v:=k) (m:=1099511627776) (by omega);have h1:0<=J1 k 1099511627776%(9-6+1):=Int.emod_nonneg _ (by omega);simp only[HU,qU];generalize J1 k 1099511627776/(9-6+1)=d;omega
def yF (c:Wd) (l:List Int):List Int :=
 if J1 (MS l 0) 3=0 then [] else
 if J1 (MS l 0) 3=1 then [dB (pw c.f*3/4) (MS l 1)] else
 [dB ((pw c.f+dB (pw c.f/2) (MS l 1))/2) (MS l 2),dB (pw c.f/2) (MS l 1)]
theorem AqO (b x:Int):WD b [x] 1=[dB b x]:=rfl
theorem AqC {l:List Int} (h : ∀ v∈l,LU v) (i:Int):LU (MS l i):=by
 unfold MS;split
 ·rw[List.getD_eq_getElem?_getD]
  cases he:l[i.toNat]? with
  | none=>exact ⟨by show _<=(0:Int);decide,by show (0:Int)<=_;decide⟩
  | some v=>exact h v (zM he)
 ·exact ⟨by decide,by decide⟩
theorem At0 (W:cj L) (N:il L) (c:Wd) (hc:WV c) (l:List Int) (q:Bool) (hl : ∀ v∈l,LU v):Ev L 347 [.agg (OC c),.sl q (l.map IM)] (.sl false ((yF c l).map IM)):=by
 have hp:=O2 c.f;have hp2:pw c.f<=8388608:=by
  have cz:=hc;unfold WV at cz;have:=aV (n:=c.f) (m:=23) (by omega)
  have Fp:pw 23=8388608:=by unfold pw;rfl
  omega
 have hA:=Aks W l;have hW:=tZ W (MS l 0) 3 (AqC hl 0) (by omega);have hr:=oX (v:=MS l 0) (m:=3) (by omega);have hB:=λ(b:Int) (x:Int) (hb:0<=b/\b<=1000000000000)=>AbZ W b hb [x] true 1 (by omega)
 simp only[AqO,List.map_cons,List.map_nil]at hB;have cz:=hc;unfold WV at cz;refine Ev.x N.nD rfl rfl ?_;have hz:=yU (b:=pw c.f/2) (by omega) (MS l 1);have b1:=hB (pw c.f*3/4) (MS l 1) (by omega);have b2:=hB (pw c.f/2) (MS l 1) (by omega);have b3:=hB ((pw c.f+dB (pw c.f/2) (MS l 1))/2) (MS l 2) (by omega);unfold yF;by_cases h0:J1 (MS l 0) 3=0
 ·rw[if_pos h0]
  (repeat' ((first|(apply B6<;>intro hc<;>try omega)|(refine NS ?_ (λ_ _ => ?_);omega)|(apply HN;omega)|apply BL|refine BF (hA _ _) ?_|refine BF (hW) ?_)<;>conv=>whnf))
  exact DH rfl (by simp [EA,GK,L3])
 rw[if_neg h0];by_cases h1:J1 (MS l 0) 3=1
 ·rw[if_pos h1]
  (repeat' ((first|(apply B6<;>intro hc<;>try omega)|(apply NA;omega)|(refine NS ?_ (λ_ _ => ?_);omega)|(refine Z2 ?_ ?_ (λ_ => ?_) (λ_ _ => ?_);omega;omega;all_goals try omega)|(apply HN;omega)|refine N9 rfl ?_|apply BL|refine BF (hA _ _) ?_|refine BF (hW) ?_|refine BF (b1) ?_)<;>conv=>whnf))
  exact DH rfl (by simp [EA,GK,L3])
 rw[if_neg h1];generalize dB (pw c.f/2) (MS l 1)=z at *;(repeat' ((first|(apply B6<;>intro hc<;>try omega)|(refine NS ?_ (λ_ _ => ?_);omega)|(refine Z2 ?_ ?_ (λ_ => ?_) (λ_ _ => ?_);omega;omega;all_goals try omega)|(apply HN;omega)|refine N9 rfl ?_|apply BL|refine BF (hA _ _) ?_|refine BF (hW) ?_|refine BF (b2) ?_)<;>conv=>whnf))
 refine E4 (l:=[_]) (enc:=IM) (a:=0) rfl (by decide) rfl ?_;(conv=>whnf)
 (repeat' ((first|(apply DD;omega)|(refine Z2 ?_ ?_ (λ_ => ?_) (λ_ _ => ?_);omega;omega;all_goals try omega)|refine N9 rfl ?_|refine BF (hA _ _) ?_|refine BF (b3) ?_)<;>conv=>whnf))
 refine E4 (l:=[_]) (enc:=IM) (a:=0) rfl (by decide) rfl ?_;(conv=>whnf)
 (repeat' (refine Z3 rfl rfl ?_<;>conv=>whnf))
 exact DH rfl (by simp [EA,GK,L3])
end Go.c9

namespace Go.c9
variable {L:Lib}
end Go.c9

namespace Go.c9
open F
attribute [local irreducible] A0 B0 D8 BK IH DY FC E1 HI F9 IA LT GS EF HH H4 BD EU B9 pw IO H0 JM KX J9 GV IJ GT JW
variable {L:Lib}
set_option maxHeartbeats 16000000
set_option maxRecDepth 8000
abbrev S1 (q:Bool) (m:List (List Rat)):List (List AV):=m.map λ r=>[AV.sl q (r.map eQ)]
def cw (n:Nat) (v:List Rat):List (Option Rat):=List.replicate (n-v.length) none++v.map some
theorem ArH:dg 1=[1]:=by rw[Z6 (by decide)];simp [NE]
theorem Awj (x:Rat):qv false (dg x.num.natAbs) (dg x.den)=G1 x:=by
 unfold G1;split
 ·rename_i h
  have:=MY (-x)
  rw[Rat.neg_num,Int.natAbs_neg,Rat.neg_den,show decide (-x.num<0)=false from decide_eq_false (by omega)]at this;exact this
 ·rename_i h
  have:=MY x
  rw[show decide (x.num<0)=false from decide_eq_false h]at this;exact this
theorem Uh (N:fp L) {x:Rat} {k:Nat} (hx:Bt k x) (hk:k<2199023255552):Ev L 256 [.agg (eQ x)] (.agg (eQ (G1 x))):=by
 have hs:=hx.sm hk;have hT:=AeY N.toa7 false false false (dg x.num.natAbs) (dg x.den) (hs.1.le (by omega)) (hs.2.le (by omega));rw[Awj]at hT;refine Ev.x N.iY rfl rfl ?_;(repeat' ((first|apply BL|refine BF (hT) ?_)<;>conv=>whnf))
 exact DH rfl (JB _)
theorem AsA (z:Int):eQ (z:Rat)=[.bool (decide (z<0)),.sl false ((dg z.natAbs).map C3),.sl false [[.int .u32 1]]]:=by
 simp only[eQ,rQ,Rat.num_intCast,Rat.den_intCast,ArH];rfl
theorem AvS {T:List (List Rat)} {n i:Nat} (hl:T.length=n) (hi:i<n):(mz T n i)[i]? = some none:=by
 have pc:(LW 3 eQ (T.take i)).length=i:=by simp only[LW,List.length_map,List.length_take];omega
 have:=AkL (z:=(none:Option (Nat × List (List AV)))) (l:=LW 3 eQ (T.take i)) (m:=n) (by omega)
 rw[pc]at this;exact this
theorem Aee {k:Nat} {x:Rat} (h:Bt k x):Bt k ((x.den:Nat):Rat):=by
 refine ⟨?_,?_⟩
 ·rw[Rat.num_natCast,Int.natAbs_natCast];exact h.2
 ·rw[Rat.den_natCast];exact Nat.one_le_two_pow
theorem ArD (x:Rat):((x.den:Nat):Rat)≠0:=λ e=>by
 have:((x.den:Nat):Rat)=((0:Nat):Rat):=e
 have:=Rat.natCast_inj.1 this
 have:=x.den_pos
 omega
theorem AjW (N:v5 L) {x:Rat} {k:Nat} (hx:Bt k x) (hk:k<2199023255552):Ev L 294 [.agg (eQ x)] (.agg (eQ ((x.den:Nat):Rat))):=by
 have hT:=Akr N.toa7 hx hk;have ag:=JB ((x.den:Nat):Rat);have e:eQ ((x.den:Nat):Rat)=[.bool false,.sl false ((dg x.den).map C3),.sl false [[.int .u32 1]]]:=by
  rw[<-Rat.intCast_natCast,AsA,Int.natAbs_natCast,show decide (((x.den:Nat):Int)<0)=false by simp]
 rw[e]at ag ⊢;refine Ev.x N.iE rfl rfl ?_;(repeat' ((first|refine N9 rfl ?_|apply BL|refine BF (hT) ?_)<;>conv=>whnf))
 exact DH rfl ag
theorem Us (N:v5 L) (q q':Bool) (ls:List (List Rat)) (k:Nat) (hb:Ms k ls) (hl:ls.flatten.length<=64) (Ff:ls.length<=1000) (hk:k<=1000000):Ev L 295 [.sl q (S1 q' ls)] (.agg (eQ (PO ls.flatten))):=by
 have hO:=PW N.toa7 1 (by omega);rw[show ((1:Int):Rat)=1 from rfl]at hO;have key : ∀ (i j:Nat) (r:List Rat) (x:Rat),ls[i]? = some r->r[j]? = some x -> ∃ S:Nat,PO ((ls.take i).flatten++r.take j)=(S:Rat)/\Bt (64*k) (S:Rat)/\PO ((ls.take i).flatten++r.take (j+1))=(S:Rat)*(((S:Rat)/((x.den:Nat):Rat)).den:Nat):=by
  intro i j r x hr hx;have my:=(zS hx).1;have hlen:((ls.take i).flatten++r.take j).length<=64:=by
   have e:ls.flatten=(ls.take i).flatten++(r++(ls.drop (i+1)).flatten):=by
    have h1:=(zS hr);obtain ⟨h1,h2⟩:=h1;conv=>lhs;rw[<-List.take_append_drop i ls,List.flatten_append,List.drop_eq_getElem_cons h1,h2,List.flatten_cons]
   rw[e,List.length_append,List.length_append]at hl;rw[List.length_append,List.length_take];omega
  have Ps:Bs k ((ls.take i).flatten++r.take j):=λ y hy=>by
   rcases List.mem_append.1 hy with hy|hy
   ·obtain ⟨s,hs,hy⟩:=List.mem_flatten.1 hy
    exact hb s (List.mem_of_mem_take hs) y hy
   ·exact hb r (zM hr) y (List.mem_of_mem_take hy)
  obtain ⟨S,e,h1,h2,_⟩:=AgB Ps;refine ⟨S,e,⟨?_,?_⟩,?_⟩
  ·rw[Rat.num_natCast,Int.natAbs_natCast]
   exact Nat.le_trans h2 (Nat.pow_le_pow_right (by omega) (zR k hlen))
  ·rw[Rat.den_natCast];exact Nat.one_le_two_pow
  ·rw[List.take_add_one,hx,Option.toList_some,<-List.append_assoc,AwW,e,Zw,ArE]
 refine Ev.x N.iC rfl rfl ?_;(repeat' ((first|apply C9|apply BL|refine BF (hO) ?_)<;>conv=>whnf))
 refine K4 (λ i=>ls.length-i) (λ(i:Nat)=>i<=ls.length) (λ i=>[(13,.int .i64 i)]) (λ i=>[(3,3,.bx (eQ (PO (ls.take i).flatten)))]) [] [] 0 (by rw[show PO (ls.take 0).flatten=1 from rfl];exact (by (conv=>whnf);exact ⟨rfl,rfl,rfl⟩)) (by omega) ?_;intro i p1 ih;by_cases hi:i<ls.length
 ·obtain ⟨r,hr⟩ : ∃ r,ls[i]? = some r:=⟨_,zE hi⟩
  have Ch:ls[(i:Int).toNat]? = some r:=hr;have yp:=hb r (zM hr);have ng:r.length<=64:=by
   have e:ls.flatten=(ls.take i).flatten++(r++(ls.drop (i+1)).flatten):=by
    obtain ⟨h1,h2⟩:=zS hr;conv=>lhs;rw[<-List.take_append_drop i ls,List.flatten_append,List.drop_eq_getElem_cons h1,h2,List.flatten_cons]
   rw[e,List.length_append,List.length_append]at hl;omega
  have qe:(ls.take (i+1)).flatten=(ls.take i).flatten++r:=by
   rw[List.take_add_one,hr,List.flatten_append];simp
  (repeat' ((first|(apply B6<;>intro hc<;>try omega)|apply C9|(refine E4 (by assumption) ?_ rfl ?_;omega)|apply BL)<;>conv=>whnf))
  refine K4 (λ j=>r.length-j) (λ(j:Nat)=>j<=r.length) (λ j=>[(19,.int .i64 j)]) (λ j=>[(3,3,.bx (eQ (PO ((ls.take i).flatten++r.take j))))]) [] [] 0 (by rw[List.take_zero,List.append_nil];exact (by (conv=>whnf);exact ⟨rfl,rfl,rfl⟩)) (by omega) ?_;intro j r1 jh;by_cases hj:j<r.length
  ·obtain ⟨x,hx⟩ : ∃ x,r[j]? = some x:=⟨_,zE hj⟩
   have yv:r[(j:Int).toNat]? = some x:=hx;obtain ⟨S,e,hS,e2⟩:=key i j r x hr hx;have hxb:=yp.at hx;have Ed:=AjW N hxb (by omega);have hq:=hS.zj (Aee hxb);have hDv:=AbU N.toa7 hS (Aee hxb) (by omega) (by omega) (ArD x);have Ee:=AjW N hq (by omega);have hM:=XT N.toa7 hS (Aee hq) (by omega) (by omega);rw[<-e2]at hM;rw[e];generalize (S:Rat)/((x.den:Nat):Rat)=y at *;generalize ((x.den:Nat):Rat)=d at *;generalize (S:Rat)=s at *;generalize ((y.den:Nat):Rat)=d2 at *;(repeat' ((first|(apply B6<;>intro hc<;>try omega)|(apply DD;omega)|(refine E4 (by assumption) ?_ rfl ?_;omega)|apply BL|refine BF (Ed) ?_|refine BF (hDv) ?_|refine BF (Ee) ?_|refine BF (hM) ?_)<;>conv=>whnf))
   exact FV [] (jh (j+1) (by omega) (by omega))
  obtain rfl:j=r.length:=by omega
  clear jh;rw[zT (Nat.le_refl _),<-qe];(repeat' ((first|(apply B6<;>intro hc<;>try omega)|(apply DD;omega)|apply BL)<;>conv=>whnf))
  exact FV [] (ih (i+1) (by omega) (by omega))
 obtain rfl:i=ls.length:=by omega
 clear ih;rw[zT (Nat.le_refl _)];(repeat' ((first|(apply B6<;>intro hc<;>try omega)|apply BL)<;>conv=>whnf))
 exact DH rfl (JB _)
theorem Uu (N:v5 L) (q:Bool) (v:List Rat) (c:Rat) (k l:Nat) (hv:Bs k v) (hc:Bt l c) (hk:k<1099511627776) (hl:l<1099511627776) (hn:v.length<=1000000):Ev L 296 [.sl q (v.map eQ),.agg (eQ c)] (.sl false ((v.map (· * c)).map eQ)):=by
 refine Ev.x N.iS rfl rfl ?_;(repeat' ((first|apply C9|apply BL)<;>conv=>whnf))
 refine K9 (enc:=eO) none v.length rfl rfl (by omega) ?_;(conv=>whnf)
 (repeat' (apply C9<;>conv=>whnf))
 refine K4 (λ i=>v.length-i) (λ(i:Nat)=>i<=v.length) (λ i=>[(12,.int .i64 i)]) (λ i=>[(9,9,.rw 3 ((KE ((v.map (· * c)).take i) v.length).map eO))]) [] [] 0 (by first|exact (by (conv=>whnf);exact ⟨rfl,rfl,rfl⟩)|(rw[List.take_zero,<-xK];exact (by (conv=>whnf);exact ⟨rfl,rfl,rfl⟩))) (by omega) ?_;intro i p1 ih;have te:((v.map (· * c)).take i).length=i:=by rw[List.length_take,List.length_map];omega
 have hlf:=qC (l:=(v.map (· * c)).take i) (m:=v.length) (by omega);by_cases hi:i<v.length
 ·obtain ⟨x,hx⟩ : ∃ x,v[i]? = some x:=⟨_,zE hi⟩
  have yv:v[(i:Int).toNat]? = some x:=hx;have hy:(v.map (· * c))[i]? = some (x*c):=by rw[List.getElem?_map,hx];rfl
  have hs:=uB (l:=(v.map (· * c)).take i) (m:=v.length) (x:=x*c) (by omega);rw[te,<-ZR hy]at hs;have hM:=XT N.toa7 (hv.at hx) hc (by omega) (by omega);generalize KE ((v.map (· * c)).take i) v.length=F0 at *;generalize x*c=y at *;(repeat' ((first|(apply B6<;>intro hc<;>try omega)|(apply EL;omega)|(refine E4 (by assumption) ?_ rfl ?_;omega)|apply BL|refine BF (hM) ?_)<;>conv=>whnf))
  refine bZ (enc:=eO) (some y) rfl (λ e=>by cases e<;>rfl) (by omega) ?_;(conv=>whnf)
  rw[hs];(repeat' ((first|(apply DD;omega)|fail)<;>conv=>whnf))
  exact FV [] (ih (i+1) (by omega) (by omega))
 obtain rfl:i=v.length:=by omega
 clear ih;have De:(v.map (· * c)).length=v.length:=List.length_map _;rw[zT (by omega),xJ De];(repeat' ((first|(apply B6<;>intro hc<;>try omega)|(refine J2 (λ_=>rfl) rfl ?_ ?_;(first|rfl|simp))|apply BL)<;>conv=>whnf))
 exact DH rfl (by simp only[EA,true_and];exact aJ _)
abbrev YR (q:Bool) (x:Rat):List AV:=rQ q q (decide (x.num<0)) (dg x.num.natAbs) (dg x.den)
theorem AtW (N:a7 L) (q:Bool) {x:Rat} {k:Nat} (hx:Bt k x) (hk:k<2199023255552):Ev L 97 [.agg (YR q x)] (.int .i64 (w3 x.num)):=by
 have hs:=hx.sm hk;have:=Akl N (decide (x.num<0)) q q (dg x.num.natAbs) (dg x.den) (hs.1.le (by omega)) (hs.2.le (by omega))
 rwa [MY]at this
theorem AjQ (N:a7 L) (q:Bool) {x y:Rat} {k l:Nat} (hx:Bt k x) (hy:Bt l y) (hk:k<2199023255552) (hl:l<2199023255552):Ev L 99 [.agg (eQ x),.agg (YR q y)] (.agg (eQ (x*y))):=by
 have h1:=hx.sm hk;have h2:=hy.sm hl;have:=Akk N 68719476736 (by omega) (decide (x.num<0)) (decide (y.num<0)) false false q q (dg x.num.natAbs) (dg x.den) (dg y.num.natAbs) (dg y.den) h1.1 h1.2 h2.1 h2.2
 rwa [MY,MY]at this
theorem AjY (N:v5 L) (q1 q2 qb:Bool) (a b:List Rat) (k l:Nat) (hl:a.length=b.length) (ha:Bs k a) (hb:Bs l b) (hn:a.length<=64) (hk:k<=1000000000) (vh:l<=1000000000):Ev L 297 [.sl q1 (a.map eQ),.sl q2 (b.map (YR qb))] (.agg (eQ (GG a b))):=by
 have hO:=PW N.toa7 0 (by omega);rw[show ((0:Int):Rat)=0 from rfl]at hO;refine Ev.x N.iF rfl rfl ?_;(repeat' ((first|apply C9|apply BL|refine BF (hO) ?_)<;>conv=>whnf))
 refine K4 (λ i=>a.length-i) (λ(i:Nat)=>i<=a.length) (λ i=>[(10,.int .i64 i)]) (λ i=>[(5,5,.bx (eQ (GG (a.take i) (b.take i))))]) [] [] 0 (by rw[show GG (a.take 0) (b.take 0)=0 from rfl];exact (by (conv=>whnf);exact ⟨rfl,rfl,rfl⟩)) (by omega) ?_;intro i p1 ih;by_cases hi:i<a.length
 ·obtain ⟨x,hx⟩ : ∃ x,a[i]? = some x:=⟨_,zE hi⟩
  obtain ⟨y,hy⟩ : ∃ y,b[i]? = some y:=⟨_,zE (by omega)⟩;have yv:a[(i:Int).toNat]? = some x:=hx;have Lq:b[(i:Int).toNat]? = some y:=hy;have Gu:=xF N.toa7 (ha.at hx) (by omega);have Xe:=AtW N.toa7 qb (hb.at hy) (by omega);have hM:=AjQ N.toa7 qb (ha.at hx) (hb.at hy) (by omega) (by omega);have hd:Bt (64*(k+l+1)) (GG (a.take i) (b.take i)):=by
   refine ((ha.take i).dot (hb.take i)).le (zR _ ?_);rw[List.length_take];omega
  have hA:=YT N.toa7 hd ((ha.at hx).mul (hb.at hy)) (by omega) (by omega);rw[<-Tx hx hy]at hA;have hz:x=0\/y=0->GG (a.take i) (b.take i)=GG (a.take (i+1)) (b.take (i+1)):=λ h=>by
   rw[Tx hx hy];rcases h with h|h<;>rw[h]<;>grind
  by_cases h1:x=0
  ·have s1:w3 x.num=0:=sK.2 h1
   rw[s1]at Gu;rw[hz (Or.inl h1)];clear hA hz hd;(repeat' ((first|(apply B6<;>intro hc<;>try omega)|(apply DD;omega)|(refine E4 (by assumption) ?_ rfl ?_;omega)|apply BL|refine BF (Gu) ?_)<;>conv=>whnf))
   exact FV [] (ih (i+1) (by omega) (by omega))
  ·have s1:w3 x.num≠0:=λ h=>h1 (sK.1 h)
   generalize w3 x.num=g1 at *;by_cases h2:y=0
   ·have s2:w3 y.num=0:=sK.2 h2
    rw[s2]at Xe;rw[hz (Or.inr h2)];clear hA hz hd;(repeat' ((first|(apply B6<;>intro hc<;>try omega)|(apply DD;omega)|(refine E4 (by assumption) ?_ rfl ?_;omega)|apply BL|refine BF (Gu) ?_|refine BF (Xe) ?_)<;>conv=>whnf))
    exact FV [] (ih (i+1) (by omega) (by omega))
   ·have s2:w3 y.num≠0:=λ h=>h2 (sK.1 h)
    generalize w3 y.num=g2 at *;clear hz hd;generalize GG (a.take i) (b.take i)=w at *;generalize x*y=p at *;(repeat' ((first|(apply B6<;>intro hc<;>try omega)|(apply DD;omega)|(refine E4 (by assumption) ?_ rfl ?_;omega)|apply BL|refine BF (Gu) ?_|refine BF (Xe) ?_|refine BF (hM) ?_|refine BF (hA) ?_)<;>conv=>whnf))
    exact FV [] (ih (i+1) (by omega) (by omega))
 obtain rfl:i=a.length:=by omega
 clear ih;rw[AbR rfl];(repeat' ((first|(apply B6<;>intro hc<;>try omega)|apply BL)<;>conv=>whnf))
 exact DH rfl (JB _)
theorem AjX (N:v5 L) (q1 q2:Bool) (a b:List Rat) (k l:Nat) (hl:a.length=b.length) (ha:Bs k a) (hb:Bs l b) (hn:a.length<=64) (hk:k<=1000000000) (vh:l<=1000000000):Ev L 297 [.sl q1 (a.map eQ),.sl q2 (b.map eQ)] (.agg (eQ (GG a b))):=AjY N q1 q2 false a b k l hl ha hb hn hk vh
theorem Atr (N:v5 L) (q1 q2 q3:Bool) (a:List (List Rat)) (v:List Rat) (n k l:Nat) (hs:Sq n a) (hv:v.length=n) (ha:Ms k a) (hb:Bs l v) (hn:n<=4) (hk:k<=1000000000) (hl:l<=1000000000):Ev L 298 [.sl q1 (S1 q3 a),.sl q2 (v.map eQ)] (.sl false ((NV a v).map eQ)):=by
 have oy:=hs.l;have De:(NV a v).length=n:=by rw[AfJ];exact oy
 refine Ev.x N.gQ rfl rfl ?_;(repeat' ((first|apply C9|apply BL)<;>conv=>whnf))
 refine K9 (enc:=eO) none n rfl (by omega) (by omega) ?_;(conv=>whnf)
 (repeat' (apply C9<;>conv=>whnf))
 refine K4 (λ i=>n-i) (λ(i:Nat)=>i<=n) (λ i=>[(12,.int .i64 i)]) (λ i=>[(9,9,.rw 3 ((KE ((NV a v).take i) n).map eO))]) [] [] 0 (by first|exact (by (conv=>whnf);exact ⟨rfl,rfl,rfl⟩)|(rw[List.take_zero,<-xK];exact (by (conv=>whnf);exact ⟨rfl,rfl,rfl⟩))) (by omega) ?_;intro i p1 ih;have te:((NV a v).take i).length=i:=by rw[List.length_take];omega
 have hlf:=qC (l:=(NV a v).take i) (m:=n) (by omega);by_cases hi:i<n
 ·obtain ⟨r,hr⟩ : ∃ r,a[i]? = some r:=⟨_,zE (by omega)⟩
  have Ch:a[(i:Int).toNat]? = some r:=hr;have ng:=hs.at hr;have hy:(NV a v)[i]? = some (GG r v):=by rw[NV,List.getElem?_map,hr];rfl
  have o4:=uB (l:=(NV a v).take i) (m:=n) (x:=GG r v) (by omega);rw[te,<-ZR hy]at o4;have hD:=λ q q'=>AjX N q q' r v k l (by omega) (ha.at hr) hb (by omega) hk hl
  generalize KE ((NV a v).take i) n=F0 at *;generalize GG r v=y at *;(repeat' ((first|(apply B6<;>intro hc<;>try omega)|(apply EL;omega)|(refine E4 (by assumption) ?_ rfl ?_;omega)|apply BL|refine BF (hD _ _) ?_)<;>conv=>whnf))
  refine bZ (enc:=eO) (some y) rfl (λ e=>by cases e<;>rfl) (by omega) ?_;(conv=>whnf)
  rw[o4];(repeat' ((first|(apply DD;omega)|fail)<;>conv=>whnf))
  exact FV [] (ih (i+1) (by omega) (by omega))
 obtain rfl:i=n:=by omega
 clear ih;rw[zT (by omega),xJ De];(repeat' ((first|(apply B6<;>intro hc<;>try omega)|apply BL)<;>conv=>whnf))
 refine J2 (enc:=eQ) (λ_=>rfl) rfl De.symm ?_;(conv=>whnf)
 exact DH rfl (by simp only[EA,true_and];exact aJ _)
theorem As3 (N:dn L) (m:List (List Rat)) (b:List Rat) (q1 q2 q3:Bool) (n k s:Nat) (hs:Sq n m) (hb:b.length=n) (hm:Ms k m) (Ku:Bs s b) (hn:n<=4) (hK:4*(k+s+1)+k+s<2199023255552):Ev L 138 [.sl q1 (S1 q3 m),.sl q2 (b.map eQ)] (.sl false ((NV m b).map eQ)):=by
 have De:=hs.l;have ti:=AfJ m b;refine Ev.x N.lS rfl rfl ?_;(repeat' (apply BL<;>conv=>whnf))
 refine K7 (λ j=>m.length-j) (λ(j:Nat)=>j<=m.length) (λ j=>[(6,.int .i64 j),(5,.row 138005 0 3 0 j)]) (λ j=>[(138005,138005,.rw 3 (((NV m b).take j).map eQ))]) 0 (by omega) ?_;intro j r1 jh;have hlen:((NV m b).take j).length=j:=by rw[List.length_take];omega
 by_cases hj:j<m.length
 ·obtain ⟨r,hr⟩ : ∃ r,m[j]? = some r:=⟨_,zE hj⟩
  have Ch:m[(j:Int).toNat]? = some r:=hr;have ng:=hs.at hr;have hP2:=λ q q'=>Ajy N r b q q' k s (by omega) (hm.at hr) Ku (by rw[ng];have:=zR (k+s+1) hn;omega) (by omega)
  have hy:(NV m b)[j]? = some (GG r b):=by rw[NV,List.getElem?_map,hr];rfl
  have Yj:((NV m b).take (j+1)).length=j+1:=by rw[List.length_take];omega
  (repeat' ((first|(apply B6<;>intro hc<;>try omega)|apply C9|(refine E4 (by assumption) ?_ rfl ?_;omega)|apply KY|apply BL|refine BF (hP2 _ _) ?_)<;>conv=>whnf))
  refine NL (enc:=eQ) (GG r b) rfl hlen.symm rfl (by omega) (by omega) ?_;(conv=>whnf)
  (repeat' ((first|(apply DD;omega)|fail)<;>conv=>whnf))
  rw[<-AxD hy,Yj];exact FV [(138005,138021)] (jh (j+1) (by omega) (by omega))
 obtain rfl:j=m.length:=by omega
 clear jh;rw[zT (by omega)];(repeat' ((first|(apply B6<;>intro hc<;>try omega)|apply C9|apply BL)<;>conv=>whnf))
 refine J2 (enc:=eQ) (λ_=>rfl) rfl ti.symm ?_;(conv=>whnf)
 exact DH rfl (by simp only[EA,true_and];exact aJ _)
theorem Aiz (v:Int) (b:Bool):EA (.j5 [.int .i64 v,.bool b]):=by simp [EA,GK]
theorem Amk {q:Rat}:q.num<0↔q<0:=by rw[<-Int.not_le,Rat.num_nonneg,Rat.not_le]
theorem AfR {q:Rat}:0<q.num↔0<q:=by
 have h:=Amk (q := -q);rw[Rat.neg_num]at h;constructor
 ·intro h1
  have:=h.1 (by omega)
  grind
 ·intro h1
  have:=h.2 (by grind)
  omega
theorem AwZ {m:Int} {x:Rat}:w3 ((m:Rat)-x).num<=0↔m<=x.floor:=by
 rw[Rat.le_floor_iff];have h1:w3 ((m:Rat)-x).num<=0↔((m:Rat)-x).num<=0:=by
  unfold w3;split
  ·omega
  ·split<;>omega
 rw[h1,<-Int.not_lt,AfR];constructor<;>intro h<;>grind
theorem And {m:Int} {x:Rat}:0<w3 (x-(m:Rat)).num↔(m:Rat)<x:=by
 have h1:0<w3 (x-(m:Rat)).num↔0<(x-(m:Rat)).num:=by
  unfold w3;split
  ·omega
  ·split<;>omega
 rw[h1,AfR];constructor<;>intro h<;>grind
theorem AwY {m:Int} {x:Rat}:w3 (x-(m:Rat)).num<0↔x<(m:Rat):=by
 have h1:w3 (x-(m:Rat)).num<0↔(x-(m:Rat)).num<0:=by
  unfold w3;split
  ·omega
  ·split<;>omega
 rw[h1,Amk];constructor<;>intro h<;>grind
end Go.c9

namespace Go.c9
open F
attribute [local irreducible] A0 B0 D8 BK IH DY FC E1 HI F9 IA LT GS EF HH H4 BD EU B9 pw IO H0 JM KX J9 GV IJ GT JW
attribute [local irreducible] Apg
variable {L:Lib}
set_option maxHeartbeats 8000000
end Go.c9

namespace Go.c9
open F
attribute [local irreducible] A0 B0 D8 BK IH DY FC E1 HI F9 IA LT GS EF HH H4 BD EU B9 pw IO H0 JM KX J9 GV IJ GT JW
variable {L:Lib}
set_option maxHeartbeats 16000000
set_option maxRecDepth 8000
theorem Ank {l:List Rat} {i:Nat} {x:Rat} (h:l[i]? = some x):FY (l.take (i+1))=FY (l.take i)+G1 x:=by rw[ZR h,Anj]
theorem Aj2 (N:v5 L) (q:Bool) (v:List Rat) (k:Nat) (hv:Bs k v) (hn:v.length<=1000) (hk:k<=1000000000):Ev L 300 [.sl q (v.map eQ)] (.agg (eQ (FY v))):=by
 have hO:=PW N.toa7 0 (by omega);rw[show ((0:Int):Rat)=0 from rfl]at hO;refine Ev.x N.iT rfl rfl ?_;(repeat' ((first|apply C9|apply BL|refine BF (hO) ?_)<;>conv=>whnf))
 refine K4 (λ i=>v.length-i) (λ(i:Nat)=>i<=v.length) (λ i=>[(9,.int .i64 i)]) (λ i=>[(3,3,.bx (eQ (FY (v.take i))))]) [] [] 0 (by rw[show FY (v.take 0)=0 from rfl];exact (by (conv=>whnf);exact ⟨rfl,rfl,rfl⟩)) (by omega) ?_;intro i p1 ih;by_cases hi:i<v.length
 ·obtain ⟨x,hx⟩ : ∃ x,v[i]? = some x:=⟨_,zE hi⟩
  have yv:v[(i:Int).toNat]? = some x:=hx;have hA:=Uh N.tofp (hv.at hx) (by omega);have hz:Bt (1000*(k+1)) (FY (v.take i)):=(oQ (hv.take i)).le (zR _ (by rw[List.length_take];omega));have hP:=YT N.toa7 hz (RR (hv.at hx)) (by omega) (by omega);rw[<-Ank hx]at hP;generalize FY (v.take i)=w at *;generalize G1 x=y at *;(repeat' ((first|(apply B6<;>intro hc<;>try omega)|(apply DD;omega)|(refine E4 (by assumption) ?_ rfl ?_;omega)|apply BL|refine BF (hA) ?_|refine BF (hP) ?_)<;>conv=>whnf))
  exact FV [] (ih (i+1) (by omega) (by omega))
 obtain rfl:i=v.length:=by omega
 clear ih;rw[zT (Nat.le_refl _)];(repeat' ((first|(apply B6<;>intro hc<;>try omega)|apply BL)<;>conv=>whnf))
 exact DH rfl (JB _)
theorem Ak3 {l:List Rat} {i:Nat} {x:Rat} (h:l[i]? = some x):H9 (l.take (i+1))=W0 (H9 (l.take i)) x:=by rw[ZR h,Aun]
theorem mO {x y:Rat}:0<w3 (x-y).num↔y<x:=by
 have h:=AgC (x-y).num;have e1:(x-y).num<0↔x<y:=by rw[AfS];constructor<;>intro h<;>grind
 have e2:(x-y).num=0↔x=y:=by rw[Rat.num_eq_zero];constructor<;>intro h<;>grind
 rcases h with ⟨h1,h2⟩|⟨h1,h2⟩|⟨h1,h2⟩
 ·have:=e1.1 h2
  rw[h1];constructor
  ·intro h;omega
  ·intro h;grind
 ·have:=e2.1 h2
  rw[h1];constructor
  ·intro h;omega
  ·intro h;grind
 ·have h3 : ¬ x<y:=λ h=>by have:=e1.2 h;omega
  have h4 : ¬ x=y:=λ h=>by have:=e2.2 h;omega
  rw[h1];constructor
  ·intro _;grind
  ·intro _;omega
theorem Att (N:v5 L) (q:Bool) (v:List Rat) (k:Nat) (hv:Bs k v) (hn:v.length<=1000000) (hk:k<=1000000000000):Ev L 301 [.sl q (v.map eQ)] (.agg (eQ (H9 v))):=by
 have hO:=PW N.toa7 0 (by omega);rw[show ((0:Int):Rat)=0 from rfl]at hO;refine Ev.x N.iK rfl rfl ?_;(repeat' ((first|apply C9|apply BL|refine BF (hO) ?_)<;>conv=>whnf))
 refine K4 (λ i=>v.length-i) (λ(i:Nat)=>i<=v.length) (λ i=>[(10,.int .i64 i)]) (λ i=>[(3,3,.bx (eQ (H9 (v.take i))))]) [] [] 0 (by rw[show H9 (v.take 0)=0 from rfl];exact (by (conv=>whnf);exact ⟨rfl,rfl,rfl⟩)) (by omega) ?_;intro i p1 ih;by_cases hi:i<v.length
 ·obtain ⟨x,hx⟩ : ∃ x,v[i]? = some x:=⟨_,zE hi⟩
  have yv:v[(i:Int).toNat]? = some x:=hx;have hA:=Uh N.tofp (hv.at hx) (by omega);have hC:=xA N.toak (RR (hv.at hx)) (oD (hv.take i)) (by omega) (by omega);have hg:=mO (x:=G1 x) (y:=H9 (v.take i));have hs:H9 (v.take (i+1))=if H9 (v.take i)<G1 x then G1 x else H9 (v.take i):=Ak3 hx
  by_cases h:H9 (v.take i)<G1 x
  ·rw[if_pos h]at hs
   have h1:=hg.2 h;rw[<-hs]at hA hC h1;generalize w3 (H9 (v.take (i+1))-H9 (v.take i)).num=g at *;(repeat' ((first|(apply B6<;>intro hc<;>try omega)|(apply DD;omega)|(refine E4 (by assumption) ?_ rfl ?_;omega)|apply BL|refine BF (hA) ?_|refine BF (hC) ?_)<;>conv=>whnf))
   exact FV [] (ih (i+1) (by omega) (by omega))
  ·rw[if_neg h]at hs
   have h1 : ¬ 0<w3 (G1 x-H9 (v.take i)).num:=λ e=>h (hg.1 e)
   rw[<-hs]at hC h1 ⊢;clear hg h hs;generalize w3 (G1 x-H9 (v.take (i+1))).num=g at *;generalize G1 x=y at *;(repeat' ((first|(apply B6<;>intro hc<;>try omega)|(apply DD;omega)|(refine E4 (by assumption) ?_ rfl ?_;omega)|apply BL|refine BF (hA) ?_|refine BF (hC) ?_)<;>conv=>whnf))
   exact FV [] (ih (i+1) (by omega) (by omega))
 obtain rfl:i=v.length:=by omega
 clear ih;rw[zT (Nat.le_refl _)];(repeat' ((first|(apply B6<;>intro hc<;>try omega)|apply BL)<;>conv=>whnf))
 exact DH rfl (JB _)
theorem Ats (N:v5 L) (q q':Bool) (a:List (List Rat)) (D:Rat) (n k l:Nat) (hs:Sq n a) (ha:Ms k a) (hD:Bt l D) (hn:n<=16) (hk:k<=1000000000) (hl:l<=1000000000):Ev L 302 [.sl q (S1 q' a),.agg (eQ D)] (.bool (decide (∀ r∈a,FY r+FY r<=D))):=by
 have oy:=hs.l;refine Ev.x N.iD rfl rfl ?_;(repeat' ((first|apply C9|apply BL)<;>conv=>whnf))
 refine K7 (λ i=>n-i) (λ(i:Nat)=>i<=n /\ ∀ r∈a.take i,FY r+FY r<=D) (λ i=>[(10,.int .i64 i)]) (λ_=>[]) 0 ⟨by omega,λ r hr=>by cases hr⟩ ?_;intro i ⟨p1,p2⟩ ih;by_cases hi:i<n
 ·obtain ⟨r,hr⟩ : ∃ r,a[i]? = some r:=⟨_,zE (by omega)⟩
  have Ch:a[(i:Int).toNat]? = some r:=hr;have ng:=hs.at hr;have hT:=λ q=>Aj2 N q r k (ha.at hr) (by omega) hk
  have hz:Bt (16*(k+1)) (FY r):=(oQ (ha.at hr)).le (zR _ (by omega));have hP:=YT N.toa7 hz hz (by omega) (by omega);have hC:=xA N.toak (hz.add hz) hD (by omega) (by omega);have hg:=mO (x:=FY r+FY r) (y:=D);by_cases h:D<FY r+FY r
  ·have nc : ¬ ∀ r∈a,FY r+FY r<=D:=λ e=>by
    have:=e r (zM hr)
    grind
   have:=hg.2 h
   rw[decide_eq_false nc];clear nc p2 ih hz h hg;generalize w3 (FY r+FY r-D).num=g at *;generalize FY r+FY r=w at *;generalize FY r=z at *;(repeat' ((first|(apply B6<;>intro hc<;>try omega)|(refine E4 (by assumption) ?_ rfl ?_;omega)|apply BL|refine BF (hT _) ?_|refine BF (hP) ?_|refine BF (hC) ?_)<;>conv=>whnf))
   exact M9 rfl
  ·have AEX : ∀ r∈a.take (i+1),FY r+FY r<=D:=λ s hs=>by
    rw[ZR hr]at hs;rcases List.mem_append.1 hs with hs|hs
    ·exact p2 s hs
    ·obtain rfl:=List.mem_singleton.1 hs
     grind
   have : ¬ 0<w3 (FY r+FY r-D).num:=λ e=>h (hg.1 e)
   clear p2 hz h hg;generalize w3 (FY r+FY r-D).num=g at *;generalize FY r+FY r=w at *;generalize FY r=z at *;(repeat' ((first|(apply B6<;>intro hc<;>try omega)|(apply DD;omega)|(refine E4 (by assumption) ?_ rfl ?_;omega)|apply BL|refine BF (hT _) ?_|refine BF (hP) ?_|refine BF (hC) ?_)<;>conv=>whnf))
   exact FV [] (ih (i+1) (by omega) ⟨by omega,AEX⟩)
 obtain rfl:i=n:=by omega
 clear ih;rw[zT (by omega)]at p2;rw[decide_eq_true p2];(repeat' ((first|(apply B6<;>intro hc<;>try omega)|apply BL)<;>conv=>whnf))
 exact M9 rfl
theorem Al4 {α:Type} {a b:List α} {j:Nat} {y:α} (hl:a.length=b.length) (hy:a[j]? = some y):(a.take j++b.drop j).set j y=a.take (j+1)++b.drop (j+1):=by
 have h:=(zS hy).1;rw[List.set_append_right _ _ (by rw[List.length_take];omega),List.length_take,Nat.min_eq_left (by omega),Nat.sub_self,List.drop_eq_getElem_cons (by omega),List.set_cons_zero,List.take_add_one,hy,Option.toList_some,List.append_assoc];rfl
def WT (Q:List (List Rat)) (n j:Nat):List (Option (Nat × List (List AV))):=Q.map λ r=>some (3,(KE (r.take j) n).map eO)
def cD (Q:List (List Rat)) (n j m:Nat):List (Option (Nat × List (List AV))):=(WT Q n (j+1)).take m++(WT Q n j).drop m
theorem pU (Q:List (List Rat)) (n j:Nat):(WT Q n j).length=Q.length:=by simp [WT]
theorem Ark (Q:List (List Rat)) (n j:Nat):cD Q n j 0=WT Q n j:=by simp [cD]
theorem Arh (Q:List (List Rat)) (n j:Nat):cD Q n j Q.length=WT Q n (j+1):=by
 rw[cD,zT (by rw[pU];exact Nat.le_refl _),List.drop_of_length_le (by rw[pU];exact Nat.le_refl _),List.append_nil]
theorem Ari {Q:List (List Rat)} {n j m:Nat} (h:m<=Q.length):(cD Q n j m).length=Q.length:=by
 rw[cD,List.length_append,List.length_take,List.length_drop,pU,pU];omega
theorem Arg {Q:List (List Rat)} {n j m:Nat} {r:List Rat} (hr:Q[m]? = some r):(cD Q n j m)[m]? = some (some (3,(KE (r.take j) n).map eO)):=by
 have h:=(zS hr).1;rw[cD,List.getElem?_append_right (by rw[List.length_take,pU];omega),List.length_take,pU,Nat.min_eq_left (by omega),Nat.sub_self,List.getElem?_drop,Nat.add_zero,WT,List.getElem?_map,hr];rfl
theorem Arj {Q:List (List Rat)} {n j m:Nat} {r:List Rat} (hr:Q[m]? = some r):(cD Q n j m).set m (some (3,(KE (r.take (j+1)) n).map eO))=cD Q n j (m+1):=by
 have h:=(zS hr).1;exact Al4 (by rw[pU,pU]) (by rw[WT,List.getElem?_map,hr];rfl)
end Go.c9
