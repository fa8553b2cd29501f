/-
  Transfer functions of systems: the program.
-/
import Derived.Test.YthgjfcjecnmflaaGreatB10
import Derived.Test.YthgjfcjecnmflaaGreatB8
import Derived.Test.YthgjfcjecnmflaaGreatB2
import Derived.Test.YthgjfcjecnmflaaGreatB7
import Derived.Test.YthgjfcjecnmflaaGreatB9
import Derived.Test.YthgjfcjecnmflaaGreatB5
import Derived.ProofKit
import Derived.OpenShut
import Derived.ChangeOld
import Derived.WalkKit
import Derived.WideShapes
import Derived.ChangeArms
set_option linter.unusedSimpArgs false
set_option linter.unusedVariables false
set_option linter.unnecessarySimpa false
namespace Go.e9
open F
attribute [local irreducible] AA AF AQ AD DW AW A9 BD CO AX BI FZ CE A4 CD C7 AB BA AJ pw D6 C3 E7 EH FE BP C4 B9 CF
variable {L:Lib}
set_option maxHeartbeats 16000000
def BN (S:B3) (n:Nat):List Rat:=BQ (CI S.a n n)
def CN (S:B3) (n:Nat):List Rat:=BQ (EX (EO S n n) (BQ ((CI S.a n n).map (· * S.d))))
def I4 (n i:Nat):List (List Rat):=(List.range n).map λ r:Nat=>if r<i then G2 n r else List.replicate n 0
theorem mF (n i:Nat):(I4 n i).length=n:=by simp [I4]
theorem Rm (n:Nat):I4 n 0=List.replicate n (List.replicate n 0):=by
 refine List.ext_getElem? λ r => ?_
 simp only[I4,List.getElem?_map,List.getElem?_replicate];by_cases h:r<n
 ·rw[List.getElem?_range h,if_pos h];simp
 ·rw[List.getElem?_eq_none (by simp;omega),if_neg h];rfl
theorem Rk (n:Nat):I4 n n=F5 n:=by
 refine List.map_congr_left λ r hr => ?_
 rw[if_pos (List.mem_range.1 hr)]
theorem Rj {n i:Nat} (h:i<n):(I4 n i)[i]? = some (List.replicate n 0):=by
 simp only[I4,List.getElem?_map,List.getElem?_range h,Option.map_some,Nat.lt_irrefl,if_false]
theorem Rl {n i:Nat} (h:i<n):(I4 n i).set i ((List.replicate n 0).set i 1)=I4 n (i+1):=by
 refine List.ext_getElem? λ r => ?_
 rw[List.getElem?_set,mF,dS];simp only[I4,List.getElem?_map];by_cases hr:r<n
 ·rw[List.getElem?_range hr]
  by_cases e:i=r
  ·subst e;simp [h]
  ·simp only[e,if_false,Option.map_some]
   by_cases h3:r<i
   ·rw[if_pos h3,if_pos (by omega)]
   ·rw[if_neg h3,if_neg (by omega)]
 ·rw[List.getElem?_eq_none (by simp;omega)]
  simp;omega
def cf (l:List Rat) (prev:List (Option Rat)) (i:Nat):List (Option Rat):=(l.take i).map some++prev.drop i
theorem wT {l:List Rat} {prev:List (Option Rat)} {i n:Nat} (hl:l.length=n) (hp:prev.length=n) (hi:i<=n):(cf l prev i).length=n:=by
 simp [cf];omega
theorem wV (l:List Rat) (prev:List (Option Rat)):cf l prev 0=prev:=by simp [cf]
theorem wS {l:List Rat} {prev:List (Option Rat)} {n:Nat} (hl:l.length=n) (hp:prev.length=n):cf l prev n=l.map some:=by
 rw[cf,zT (by omega),List.drop_of_length_le (by omega),List.append_nil]
theorem wU {l:List Rat} {prev:List (Option Rat)} {i n:Nat} {x:Rat} (hp:prev.length=n) (hx:l[i]? = some x) (hi:i<n):(cf l prev i).set i (some x)=cf l prev (i+1):=by
 have Iv:=(zS hx).1;have fo:((l.take i).map some).length=i:=by rw[List.length_map,List.length_take];omega
 obtain ⟨y,hy⟩ : ∃ y,prev[i]? = some y:=⟨_,zE (by omega)⟩;obtain ⟨rj,wq⟩:=zS hy;rw[cf,List.set_append_right _ _ (by omega),fo,Nat.sub_self,List.drop_eq_getElem_cons rj,List.set_cons_zero,cf,RD hx,List.map_append];simp
theorem nI (l:List Rat):(l.map some).map eO=l.map eQ:=by simp [Function.comp_def]
def ot (P:List (List Rat)) (n j i:Nat):List (List (Option Rat)):=(List.range P.length).map λ r=>EK ((P.getD r []).take (if r<i then j+1 else j)) n
theorem UU (P:List (List Rat)) (n j i:Nat):(ot P n j i).length=P.length:=by simp [ot]
theorem lN {P:List (List Rat)} {i:Nat} {row:List Rat} (h:P[i]? = some row):P.getD i []=row:=by rw[List.getD_eq_getElem?_getD,h];rfl
theorem XT {P:List (List Rat)} {n j i r:Nat} {row:List Rat} (h:P[r]? = some row):(ot P n j i)[r]? = some (EK (row.take (if r<i then j+1 else j)) n):=by
 have h1:=(zS h).1;simp only[ot,List.getElem?_map,List.getElem?_range h1,Option.map_some,lN h]
theorem Uh {P:List (List Rat)} {n j i:Nat} {row:List Rat} (h:P[i]? = some row):(ot P n j i).set i (EK (row.take (j+1)) n)=ot P n j (i+1):=by
 refine List.ext_getElem? λ r => ?_
 rw[List.getElem?_set,UU];cases e:P[r]? with
 | none =>
  have h1:=List.getElem?_eq_none_iff.1 e;have h2:=(zS h).1;rw[List.getElem?_eq_none (by rw[UU];exact h1),if_neg (by omega),List.getElem?_eq_none (by rw[UU];exact h1)]
 | some rw' =>
  rw[XT e,XT e];by_cases hi:i=r
  ·subst hi
   obtain rfl:=Option.some.inj (h.symm.trans e);have h2:=(zS h).1;rw[if_pos rfl,if_pos h2,if_pos (by omega)]
  ·rw[if_neg hi]
   by_cases h3:r<i
   ·rw[if_pos h3,if_pos (by omega)]
   ·rw[if_neg h3,if_neg (by omega)]
theorem Ug (P:List (List Rat)) (n j:Nat):ot P n j P.length=ot P n (j+1) 0:=by
 refine List.map_congr_left λ r hr => ?_
 rw[if_pos (List.mem_range.1 hr),if_neg (by omega)]
theorem Ui (P:List (List Rat)) (n:Nat):ot P n 0 0=List.replicate P.length (EK [] n):=by
 refine List.ext_getElem? λ r => ?_
 simp only[ot,List.getElem?_map,List.getElem?_replicate];by_cases h:r<P.length
 ·rw[List.getElem?_range h,if_pos h];simp
 ·rw[List.getElem?_eq_none (by simp;omega),if_neg h];rfl
theorem Uf {P:List (List Rat)} {n:Nat} (h : ∀ r∈P,r.length=n):DH 3 eO (ot P n n 0)=DH 3 eQ P:=by
 refine List.ext_getElem? λ r => ?_
 simp only[DH,List.getElem?_map];cases e:P[r]? with
 | none=>rw[List.getElem?_eq_none (by rw[UU];exact List.getElem?_eq_none_iff.1 e)];rfl
 | some row =>
  have hl:=h row (zM e);rw[XT e,if_neg (by omega),zT (by omega)];simp only[Option.map_some,I1 hl]
theorem Lr (N:y5 L) (S:B3) (n:Nat) (h:S.Ok n 400) (hn:n<=4):Ev L 189 [.agg (eS S)] (.j4 [.agg [.sl false ((CN S n).map eQ),.sl false ((BN S n).map eQ)],.int .i64 0]):=by
 have Xn:=Z0 N.too6 S n 400 h (by omega);have hO:=KA N.toa6 0 (by omega);have hI:=KA N.toa6 1 (by omega);have yl:=h.la;subst yl;refine Ev.x N.K7 rfl rfl ?_;(repeat' ((first|(apply AG<;>intro hc<;>try omega)|apply AR|apply AE|refine AC (Xn) ?_|refine AC (hO) ?_|refine AC (hI) ?_)<;>conv=>whnf))
 refine FD 1000 N.LA rfl rfl ?_;(repeat' (apply AE<;>conv=>whnf))
 unfold FE;refine ⟨⟨by omega,by omega,by simp only[EQ];omega,by omega⟩,?_⟩;rw[Int.toNat_natCast];(conv=>whnf)
 have hZ:=Ns N.too6 S.a.length (by omega);refine D5 (enc:=eQ) S.a.length hZ (by simp) ?_;(conv=>whnf)
 refine D5 (enc:=eQ) S.a.length hZ (by simp) ?_;(conv=>whnf)
 (repeat' (refine AC (hO) ?_<;>conv=>whnf))
 generalize hm:S.a.length=m at *;refine ED (λ t=>m-t) (λ(t:Nat)=>t<=m) (λ t=>[(16,.int .i64 t)]) (λ t=>[(145006,145006,.mx (List.replicate t (some (3,(List.replicate m (0:Rat)).map eQ))++List.replicate (m-t) none))]) 0 (by omega) ?_;intro t p4 th;by_cases ht:t<m
 ·(repeat' ((first|(apply AG<;>intro hc<;>try omega)|apply AE)<;>conv=>whnf))
  refine D5 (enc:=eQ) m hZ (by simp) ?_;(conv=>whnf)
  (repeat' ((first|(apply A3;omega)|fail)<;>conv=>whnf))
  unfold AQ E7;refine ⟨by simp,by simp;omega,?_⟩;(conv=>whnf)
  rw[show 0+((t:Int)).toNat=t by omega,lE _ _ p4 ht];(repeat' ((first|(apply AZ;omega)|fail)<;>conv=>whnf))
  exact B0 [] (th (t+1) (by omega) (by omega))
 obtain rfl:t=m:=by omega
 clear th;rw[show List.replicate t (some (3,List.map eQ (List.replicate t 0)))++List.replicate (t-t) none=DH 3 eQ (I4 t 0) by rw[Rm];simp [DH]];(repeat' ((first|(apply AG<;>intro hc<;>try omega)|apply AE)<;>conv=>whnf))
 refine ⟨rfl,?_⟩;(conv=>whnf)
 skip
 refine ED (λ i=>t-i) (λ(i:Nat)=>i<=t) (λ i=>[(34,.int .i64 i)]) (λ i=>[(145006,145006,.mx (DH 3 eQ (I4 t i)))]) 0 (by omega) ?_;intro i p1 ih;by_cases hi:i<t
 ·have ri:=Rj hi
  have j7:=Rl hi;have fg:=mF t i;generalize I4 t i=I0 at *;(repeat' ((first|(apply AG<;>intro hc<;>try omega)|(apply A3;omega)|(refine RQ ?_ (λ r hr => ?_);omega)|apply AE|refine AC (hI) ?_)<;>conv=>whnf))
  cases ri.symm.trans hr;refine A3 (by rw[List.length_map,List.length_replicate];omega) ?_;(conv=>whnf)
  (repeat' ((first|refine P0 (by assumption) ?_|fail)<;>conv=>whnf))
  refine F3 (enc:=eQ) 1 rfl (λ_=>rfl) (by rw[List.length_replicate];omega) ?_;(conv=>whnf)
  refine YX (by rw[List.length_set]) ?_;rw[j7];(conv=>whnf)
  (repeat' ((first|(apply AZ;omega)|fail)<;>conv=>whnf))
  exact B0 [] (ih (i+1) (by omega) (by omega))
 obtain rfl:i=t:=by omega
 clear ih;rw[Rk];rw[show ([[AV.bool (decide (((1:Int):Rat).num<0)),AV.sl false ((dg ((1:Int):Rat).num.natAbs).map AL),AV.sl false ((dg ((1:Int):Rat).den).map AL)]]:List (List AV))=(CI S.a i 0).map eQ from rfl,
  show ([[AV.bool (decide (((0:Int):Rat).num<0)),AV.sl false ((dg ((0:Int):Rat).num.natAbs).map AL),AV.sl false ((dg ((0:Int):Rat).den).map AL)]]:List (List AV))=(EO S i 0).map eQ from rfl]
 (repeat' ((first|(apply AG<;>intro hc<;>try omega)|apply AE)<;>conv=>whnf))
 have pc:Sq i S.a:=⟨hm,h.lr⟩;refine dV [145002,145003] ?_;refine J2 (λ k _=>i-k) (λ(k _:Nat)=>k<=i) (λ k _=>[(9,.int .i64 ((k+1:Nat):Int)),(5,.row 27 0 3 0 (k+1)),(6,.row 29 0 3 0 (k+1)),(7,.row 145006 0 1 0 i)]) (λ k t=>[(27,27,.rw 3 ((CI S.a i k).map eQ)),(29,29,.rw 3 ((EO S i k).map eQ)),(145006,t,.mx (DH 3 eQ (A5 S.a i k)))]) 0 145006 (by omega) ?_;intro k t p2 kh;by_cases hk:k<i
 ·obtain ⟨b1,b2,b3⟩:=Ms.Bw pc h.ba hn k (by omega)
  have hKk:=aI k (by omega);have Ca:=Sq.fl (a:=S.a) hm k;have Hw:=Ca.l;have eg:A5 S.a i (k+1)=o8 (BG S.a (A5 S.a i k) i) (BH S.a i k) i:=rfl;have Ag:BH S.a i k=B6 (BG S.a (A5 S.a i k) i) i*Rat.divInt (-1) ((k+1:Nat):Int):=rfl;have vz:=vW S i k;have Yg:=wJ S.a i k;have nx:=RT S i k;have dk:=P9 S.a i k;have Cc:=Sq.mul hm (A5 S.a i k);generalize A5 S.a i k=Mk at *;generalize BH S.a i k=ck at *;generalize EO S i k=ab at *;generalize CI S.a i k=be at *;generalize GY 400 k=fk at *;(repeat' ((first|(apply AG<;>intro hc<;>try omega)|apply AE)<;>conv=>whnf))
  refine EM (enc:=eO) none i rfl rfl (by omega) ?_;(conv=>whnf)
  skip
  have Yx:=UO Mk S.b;have Fg : ∀ (j:Nat) row,Mk[j]? = some row->(CS Mk S.b)[j]? = some (BM row S.b):=λ j row hr=>by rw[CS,List.getElem?_map,hr];rfl
  have mz:Bs (4*(fk+401)) (CS Mk S.b):=by
   intro x hx;obtain ⟨r,hr,rfl⟩:=List.mem_map.1 hx;refine ((b1 r hr).dot h.bb).le ?_;rw[Ca.r r hr];exact Nat.mul_le_mul hn (by omega)
  refine ES (λ j=>i-j) (λ(j:Nat)=>j<=i) (λ j=>[(53,.int .i64 j)]) (λ j=>[(51,51,.rw 3 ((EK ((CS Mk S.b).take j) i).map eO))]) [] [] 0 (by first|exact (by (conv=>whnf);exact ⟨rfl,rfl,rfl⟩)|(rw[List.take_zero,<-I2];exact (by (conv=>whnf);exact ⟨rfl,rfl,rfl⟩))) (by omega) ?_;intro j q1 jh;by_cases hj:j<i
  ·obtain ⟨row,u6⟩ : ∃ row,Mk[j]? = some row:=⟨_,zE (by omega)⟩
   have cg:=Ca.at u6;have hy:=Fg j row u6;have hP:=λ q q'=>Z8 N.too6 row S.b q q' fk 400 (by rw[cg,h.lb]) (b1.at u6) h.bb (by rw[cg];have:=zR (fk+400+1) hn;omega) (by omega)
   have uk:=IM (l:=(CS Mk S.b).take j) (m:=i) (by rw[List.length_take];omega);have j7:=I3 (l:=(CS Mk S.b).take j) (m:=i) (x:=BM row S.b) (by rw[List.length_take];omega);rw[List.length_take,Nat.min_eq_left (by omega),<-RD hy]at j7;(repeat' ((first|(apply AG<;>intro hc<;>try omega)|(apply A3;omega)|(refine D4 (λ_=>rfl) rfl ?_ ?_;(first|rfl|simp))|(refine RQ ?_ (λ r hr => ?_);omega)|refine P0 (by assumption) ?_|apply AE)<;>conv=>whnf))
   cases u6.symm.trans hr;(repeat' ((first|(apply A3;omega)|refine AC (hP _ _) ?_)<;>conv=>whnf))
   refine F3 (enc:=eO) (some (BM row S.b)) rfl (λ e=>by cases e<;>rfl) (by omega) ?_;(conv=>whnf)
   (repeat' ((first|(apply AZ;omega)|fail)<;>conv=>whnf))
   rw[j7];exact B0 [] (jh (j+1) (by omega) (by omega))
  obtain rfl:j=i:=by omega
  clear jh;rw[zT (by omega),I1 (by omega)];have hP:=λ q q'=>Z8 N.too6 S.c (CS Mk S.b) q q' 400 (4*(fk+401)) (by rw[h.lc];omega) h.bc mz (by rw[h.lc];have:=zR (400+4*(fk+401)+1) hn;omega) (by rw[h.lc];omega)
  generalize CS Mk S.b=img at *;generalize BM S.c img=av at *;(repeat' ((first|(apply AG<;>intro hc<;>try omega)|apply AE)<;>conv=>whnf))
  refine D4 (enc:=eQ) (λ_=>rfl) rfl (by omega) ?_;(conv=>whnf)
  (repeat' ((first|apply EN|refine AC (hP _ _) ?_)<;>conv=>whnf))
  refine GI (enc:=eQ) av rfl nx.symm rfl (by omega) (by omega) ?_;rw[<-vz,RT];(conv=>whnf)
  skip
  refine FC 1000 N.K9 rfl rfl ?_;(repeat' ((first|apply AR|apply AE)<;>conv=>whnf))
  unfold FE;refine ⟨⟨by omega,by omega,by simp only[EQ];omega,by omega⟩,?_⟩;rw[Int.toNat_natCast];(conv=>whnf)
  (repeat' (apply AR<;>conv=>whnf))
  rw[hm];refine EM (enc:=eO) none j rfl rfl (by omega) ?_;(conv=>whnf)
  (repeat' (apply AR<;>conv=>whnf))
  rw[hm];refine ED (λ u=>j-u) (λ(u:Nat)=>u<=j) (λ u=>[(19,.int .i64 u)]) (λ u=>[(188013,188013,.mx (List.replicate u (some (3,(EK [] j).map eO))++List.replicate (j-u) none))]) 0 (by omega) ?_;intro u r1 uh;by_cases hu:u<j
  ·(repeat' ((first|(apply AG<;>intro hc<;>try omega)|apply AR|apply AE)<;>conv=>whnf))
   rw[hm];refine EM (enc:=eO) none j rfl rfl (by omega) ?_;(conv=>whnf)
   (repeat' ((first|(apply A3;omega)|fail)<;>conv=>whnf))
   unfold AQ E7;refine ⟨by simp,by simp;omega,?_⟩;(conv=>whnf)
   rw[show 0+((u:Int)).toNat=u by omega,<-I2,lE _ _ r1 hu];(repeat' ((first|(apply AZ;omega)|fail)<;>conv=>whnf))
   exact B0 [] (uh (u+1) (by omega) (by omega))
  obtain rfl:u=j:=by omega
  clear uh;have Du : ∀ (e:Nat) row,S.a[e]? = some row->(BG S.a Mk u)[e]? = some (FV row Mk u):=λ e row hr=>by rw[BG,List.getElem?_map,hr];rfl
  have uc:=Cc.l;rw[show List.replicate u (some (3,List.map eO (EK [] u)))++List.replicate (u-u) none=DH 3 eO (ot (BG S.a Mk u) u 0 0) by rw[Ui,uc];simp [DH]];generalize hPg:BG S.a Mk u=P at *;(repeat' ((first|(apply AG<;>intro hc<;>try omega)|apply AR|apply AE)<;>conv=>whnf))
  rw[hm];refine J2 (λ c _=>u-c) (λ(c:Nat) (pv:List (Option Rat))=>c<=u/\pv.length=u) (λ c _=>[(31,.int .i64 c)]) (λ c pv=>[(188013,188013,.mx (DH 3 eO (ot P u c 0))),(188016,188016,.rw 3 (pv.map eO))]) 0 (List.replicate u none) ⟨by omega,by simp⟩ ?_;intro c pv ⟨r2,r3⟩ ch;by_cases ow:c<u
  ·have Ib:=xQ Mk c
   (repeat' ((first|(apply AG<;>intro hc<;>try omega)|apply AR|apply AE)<;>conv=>whnf))
   rw[hm];refine ES (λ e=>u-e) (λ(e:Nat)=>e<=u) (λ e=>[(36,.int .i64 e)]) (λ e=>[(188016,188016,.rw 3 ((cf (HK Mk c) pv e).map eO))]) [] [] 0 (by first|exact (by (conv=>whnf);exact ⟨rfl,rfl,rfl⟩)|(rw[wV];exact (by (conv=>whnf);exact ⟨rfl,rfl,rfl⟩))) (by omega) ?_;intro e r4 eh;by_cases wq:e<u
   ·obtain ⟨row,u6⟩ : ∃ row,Mk[e]? = some row:=⟨_,zE (by omega)⟩
    have cg:=Ca.at u6;obtain ⟨x,hx⟩ : ∃ x,row[c]? = some x:=⟨_,zE (by omega)⟩;have Yn:(HK Mk c)[e]? = some x:=by rw[HK,List.getElem?_map,u6,Option.map_some,G9 hx]
    have j6:=wT (l:=HK Mk c) (by omega) r3 r4;have j7:=wU r3 Yn wq;(repeat' ((first|(apply AG<;>intro hc<;>try omega)|(apply A3;omega)|(refine RQ ?_ (λ r hr => ?_);omega)|apply AE)<;>conv=>whnf))
    cases u6.symm.trans hr;refine A3 (by rw[List.length_map];omega) ?_;(conv=>whnf)
    (repeat' ((first|(apply A3;omega)|(refine TA ?_ (λ_=>rfl) (λ v hv => ?_);omega)|refine P0 (by assumption) ?_)<;>conv=>whnf))
    cases hx.symm.trans hv;refine F3 (enc:=eO) (some x) rfl (λ e=>by cases e<;>rfl) (by omega) ?_;(conv=>whnf)
    (repeat' ((first|(apply AZ;omega)|fail)<;>conv=>whnf))
    rw[j7];exact B0 [] (eh (e+1) (by omega) (by omega))
   obtain rfl:e=u:=by omega
   clear eh;rw[wS (by omega) r3,nI];(repeat' ((first|(apply AG<;>intro hc<;>try omega)|apply AR|apply AE)<;>conv=>whnf))
   rw[hm];refine ED (λ f=>e-f) (λ(f:Nat)=>f<=e) (λ f=>[(52,.int .i64 f)]) (λ f=>[(188013,188013,.mx (DH 3 eO (ot P e c f)))]) 0 (by omega) ?_;intro f r5 fh;by_cases Yt:f<e
   ·obtain ⟨row,u6⟩ : ∃ row,S.a[f]? = some row:=⟨_,zE (by omega)⟩
    have Iz:S.a[(f:Int).toNat]? = some row:=u6;have cg:=pc.at u6;have Hx:=Du f row u6;have Ww:=λ q q'=>Z8 N.too6 row (HK Mk c) q q' 400 fk (by omega) (h.ba row (zM u6)) (b1.Hq c) (by rw[cg];have:=zR (400+fk+1) hn;omega) (by omega)
    have Ix:=XT (n:=e) (j:=c) (i:=f) Hx;rw[if_neg (by omega)]at Ix;have Zt:=Uh (n:=e) (j:=c) Hx;have Cs:=UU P e c f;have Zl:(FV row Mk e)[c]? = some (BM row (HK Mk c)):=by rw[FV,List.getElem?_map,List.getElem?_range ow];rfl
    have jf:=QW row Mk e;have uk:=IM (l:=(FV row Mk e).take c) (m:=e) (by rw[List.length_take];omega);have j7:=I3 (l:=(FV row Mk e).take c) (m:=e) (x:=BM row (HK Mk c)) (by rw[List.length_take];omega);rw[List.length_take,Nat.min_eq_left (by omega),<-RD Zl]at j7;generalize ot P e c f=O at *;(repeat' ((first|(apply AG<;>intro hc<;>try omega)|(apply A3;omega)|(refine BL (by assumption) ?_ rfl ?_;omega)|(refine RQ ?_ (λ r hr => ?_);omega)|apply AE)<;>conv=>whnf))
    cases Ix.symm.trans hr;refine D4 (enc:=eQ) (λ_=>rfl) rfl (by omega) ?_;(conv=>whnf)
    (repeat' (refine AC (Ww _ _) ?_<;>conv=>whnf))
    have Zj:=IM (l:=(FV row Mk e).take (c+1)) (m:=e) (by rw[List.length_take];omega);refine A3 (by rw[List.length_map];omega) ?_;(conv=>whnf)
    (repeat' ((first|refine P0 (by assumption) ?_|fail)<;>conv=>whnf))
    refine F3 (enc:=eO) (some (BM row (HK Mk c))) rfl (λ e=>by cases e<;>rfl) (by omega) ?_;(conv=>whnf)
    rw[j7];refine YX (by omega) ?_;rw[Zt];(conv=>whnf)
    (repeat' ((first|(apply AZ;omega)|fail)<;>conv=>whnf))
    exact B0 [] (fh (f+1) (by omega) (by omega))
   obtain rfl:f=e:=by omega
   clear fh;have Ax:=Ug P f c;rw[uc]at Ax;rw[Ax,<-nI (HK Mk c)];(repeat' ((first|(apply AG<;>intro hc<;>try omega)|(apply AZ;omega)|apply AE)<;>conv=>whnf))
   exact B0 [] (ch (c+1) ((HK Mk c).map some) (by omega) ⟨by omega,by rw[List.length_map];omega⟩)
  obtain rfl:c=u:=by omega
  clear ch;rw[Uf Cc.r];(repeat' ((first|(apply AG<;>intro hc<;>try omega)|apply AE)<;>conv=>whnf))
  refine ⟨rfl,_,rfl,?_⟩;(conv=>whnf)
  (repeat' (refine AC (hO) ?_<;>conv=>whnf))
  have Gq:((0:Int):Rat)=B6 P 0:=rfl;rw[Gq];refine ED (λ e=>c-e) (λ(e:Nat)=>e<=c) (λ e=>[(80,.int .i64 e)]) (λ e=>[(12,12,.bx (eQ (B6 P e)))]) 0 (by omega) ?_;intro e r4 eh;by_cases wq:e<c
  ·obtain ⟨row,u6⟩ : ∃ row,P[e]? = some row:=⟨_,zE (by omega)⟩
   have cg:=Cc.at u6;obtain ⟨x,hx⟩ : ∃ x,row[e]? = some x:=⟨_,zE (by omega)⟩;have Cy:B6 P (e+1)=B6 P e+x:=by rw[B6,lN u6,G9 hx]
   have Dl:=Ms.tr b2 e;have Zd:e*(4*(fk+(400+1))+1)<=4*(4*(fk+(400+1))+1):=zR _ (by omega);have hA:=QM N.toa6 Dl ((b2.at u6).at hx) (by omega) (by omega);rw[<-Cy]at hA;(repeat' ((first|(apply AG<;>intro hc<;>try omega)|(apply A3;omega)|(refine RQ ?_ (λ r hr => ?_);omega)|apply AE)<;>conv=>whnf))
   cases u6.symm.trans hr;refine A3 (by rw[List.length_map];omega) ?_;(conv=>whnf)
   (repeat' ((first|(refine TA ?_ (λ_=>rfl) (λ v hv => ?_);omega)|refine P0 (by assumption) ?_)<;>conv=>whnf))
   cases hx.symm.trans hv;(repeat' ((first|(apply AZ;omega)|refine AC (hA) ?_)<;>conv=>whnf))
   exact B0 [] (eh (e+1) (by omega) (by omega))
  obtain rfl:e=c:=by omega
  clear eh;have Dl:=Ms.tr b2 e;have Zd:e*(4*(fk+(400+1))+1)<=4*(4*(fk+(400+1))+1):=zR _ (by omega);have hF:=Lj N.tow6 (-1) ((k+1:Nat):Int) (by omega) (by omega) (by omega);have hM:=OQ N.toa6 Dl (fX (k:=k+1) (by omega)) (by omega) (by omega);rw[<-Ag]at hM;(repeat' ((first|(apply AG<;>intro hc<;>try omega)|apply AE|refine AC (hF) ?_|refine AC (hM) ?_)<;>conv=>whnf))
  have bu:=vZ P ck;refine ES (λ f=>e-f) (λ(f:Nat)=>f<=e) (λ f=>[(98,.int .i64 f)]) (λ f=>[(188013,188013,.mx (DH 3 eQ (o8 P ck f)))]) [] [] 0 (by first|exact (by (conv=>whnf);exact ⟨rfl,rfl,rfl⟩)|(rw[bu];exact (by (conv=>whnf);exact ⟨rfl,rfl,rfl⟩))) (by omega) ?_;intro f r5 fh;by_cases Yt:f<e
  ·obtain ⟨row,u6⟩ : ∃ row,P[f]? = some row:=⟨_,zE (by omega)⟩
   have cg:=Cc.at u6;obtain ⟨x,hx⟩ : ∃ x,row[f]? = some x:=⟨_,zE (by omega)⟩;have hA:=QM N.toa6 ((b2.at u6).at hx) b3 (by omega) (by omega);have Ax:=vX (c:=ck) u6;have Jd:=vY (c:=ck) u6;rw[G9 hx]at Jd;have hdl:=OJ P ck f;generalize o8 P ck f=D0 at *;(repeat' ((first|(apply AG<;>intro hc<;>try omega)|(apply A3;omega)|(refine RQ ?_ (λ r hr => ?_);omega)|apply AE)<;>conv=>whnf))
   cases Ax.symm.trans hr;cases Ax.symm.trans ‹D0[f]? = some r›;refine A3 (by rw[List.length_map];omega) ?_;(conv=>whnf)
   (repeat' ((first|(refine TA ?_ (λ_=>rfl) (λ v hv => ?_);omega)|refine P0 (by assumption) ?_)<;>conv=>whnf))
   cases hx.symm.trans hv;(repeat' (refine AC (hA) ?_<;>conv=>whnf))
   refine A3 (by rw[List.length_map];omega) ?_;(conv=>whnf)
   (repeat' ((first|refine P0 (by assumption) ?_|fail)<;>conv=>whnf))
   refine F3 (enc:=eQ) (x+ck) rfl (λ_=>rfl) (by omega) ?_;(conv=>whnf)
   refine YX (by rw[List.length_set]) ?_;rw[<-Jd];(conv=>whnf)
   (repeat' ((first|(apply AZ;omega)|fail)<;>conv=>whnf))
   exact B0 [] (fh (f+1) (by omega) (by omega))
  obtain rfl:f=e:=by omega
  clear fh;rw[<-eg];(repeat' ((first|(apply AG<;>intro hc<;>try omega)|apply EN|apply AE)<;>conv=>whnf))
  refine GI (enc:=eQ) ck rfl dk.symm rfl (by omega) (by omega) ?_;rw[<-Yg,P9];(conv=>whnf)
  (repeat' ((first|(apply AZ;omega)|fail)<;>conv=>whnf))
  exact B0 [(145006,188013),(27,120),(29,73)] (kh (k+1) 188013 (by omega) (by omega))
 obtain rfl:k=i:=by omega
 clear kh;have jd:Bs 1150000000 (CI S.a k k):=by
  intro x hx;simp only[CI,List.mem_cons,List.mem_map,List.mem_range]at hx;rcases hx with rfl|⟨j,hj,rfl⟩
  ·exact Bt.one _
  ·have zu:=aI j (by omega)
   exact (Ms.Bw pc h.ba hn j (by omega)).2.2.le (by omega)
 have pz:Bs 1150000000 (EO S k k):=by
  intro x hx;simp only[EO,List.mem_cons,List.mem_map,List.mem_range]at hx;rcases hx with rfl|⟨j,hj,rfl⟩
  ·exact Bt.zero _
  ·have zu:=aI j (by omega)
   have mz:Bs (4*(GY 400 j+401)) (CS (A5 S.a k j) S.b):=by
    intro x hx;obtain ⟨r,hr,rfl⟩:=List.mem_map.1 hx;refine (((Ms.Bw pc h.ba hn j (by omega)).1 r hr).dot h.bb).le ?_;rw[(Sq.fl hm j).r r hr];exact Nat.mul_le_mul hn (by omega)
   refine (h.bc.dot mz).le ?_;rw[h.lc];have:=zR (400+4*(GY 400 j+401)+1) hn
   generalize hX:400+4*(GY 400 j+401)+1=X at this ⊢;omega
 have dk:=P9 S.a k k;have nx:=RT S k k;have As:Bs 1150000400 ((CI S.a k k).map (· * S.d)):=by
  intro y hy;obtain ⟨x,hx,rfl⟩:=List.mem_map.1 hy;exact ((jd x hx).mul h.bd).le (by omega)
 have jf:((CI S.a k k).map (· * S.d)).length=k+1:=by rw[List.length_map];exact dk
 have fo:=NG ((CI S.a k k).map (· * S.d));have cb:=HW ((CI S.a k k).map (· * S.d)) ((CI S.a k k).map (· * S.d)).length;have Dv:=λ q=>kA N q (CI S.a k k) S.d 1150000000 400 jd h.bd (by omega) (by omega)
 have zs:=λ q q'=>jZ N q q' (EO S k k) (BQ ((CI S.a k k).map (· * S.d))) 1150000000 1150000400 pz As.trim (by omega) (by omega) (by omega)
 have Xp:=λ q=>Ow N.tobm q (CI S.a k k) 1150000000 jd (by omega) (by omega)
 have gd:A6 (.j4 [.agg [.sl false ((CN S k).map eQ),.sl false ((BN S k).map eQ)],.int .i64 0]):=by
  simp only[A6,C6,true_and,and_true];exact ⟨EY _,EY _⟩
 unfold CN BN at *;generalize BQ (EX (EO S k k) (BQ ((CI S.a k k).map (· * S.d))))=rB at *;generalize BQ ((CI S.a k k).map (· * S.d))=sc at *;generalize BQ (CI S.a k k)=rA at *;(repeat' ((first|(apply AG<;>intro hc<;>try omega)|apply AE)<;>conv=>whnf))
 refine D4 (enc:=eQ) (λ_=>rfl) rfl dk.symm ?_;(conv=>whnf)
 (repeat' (refine AC (Dv _) ?_<;>conv=>whnf))
 refine D4 (enc:=eQ) (λ_=>rfl) rfl nx.symm ?_;(conv=>whnf)
 (repeat' (refine AC (zs _ _) ?_<;>conv=>whnf))
 refine D4 (enc:=eQ) (λ_=>rfl) rfl dk.symm ?_;(conv=>whnf)
 (repeat' (refine AC (Xp _) ?_<;>conv=>whnf))
 exact AU rfl gd
theorem WW (N:y5 L) (S:B3) (n:Nat) (h:S.Ok n 80) (hn:n<=4):Ev L 189 [.agg (eS S)] (.j4 [.agg [.sl false ((CN S n).map eQ),.sl false ((BN S n).map eQ)],.int .i64 0]) :=
 Lr N S n ⟨h.la,h.lr,h.lb,h.lc,λ r hr=>(h.ba r hr).le (by omega),h.bb.le (by omega),h.bc.le (by omega),h.bd.le (by omega)⟩ hn
theorem Tf {X:List Rat} {n j:Nat} (h:j*n+n<=X.length):(PR X n j).length=n:=by
 simp only[PR,List.length_drop,List.length_take];omega
theorem qV (l:List Int) (n:Nat):(PU l n).Ok n 4:=by
 have hX:=XX l (n*n+2*n+1);have hb:=Sy l (n*n+2*n+1);have mem : ∀ (i j:Nat) (x:Rat),x∈((HC l (n*n+2*n+1)).take j).drop i->Bt 4 x:=λ i j x hx=>hb x (List.mem_of_mem_take (List.mem_of_mem_drop hx))
 have hr : ∀ r∈JE (HC l (n*n+2*n+1)) n n,∃ j,j<n/\r=PR (HC l (n*n+2*n+1)) n j:=λ r hr=>by
  simp only[JE,List.mem_map,List.mem_range]at hr;obtain ⟨j,h1,rfl⟩:=hr;exact ⟨j,h1,rfl⟩
 refine ⟨by simp [PU,JE],?_,?_,?_,?_,λ x hx=>mem _ _ x hx,λ x hx=>mem _ _ x hx,?_⟩
 ·intro r h
  obtain ⟨j,h1,rfl⟩:=hr r h;refine Tf ?_;have:=zR n (show j+1<=n by omega)
  rw[Nat.succ_mul]at this;omega
 ·simp only[PU,List.length_drop,List.length_take];omega
 ·simp only[PU,List.length_drop,List.length_take];omega
 ·intro r h x hx
  obtain ⟨j,h1,rfl⟩:=hr r h;exact mem _ _ x hx
 ·show Bt 4 ((HC l (n*n+2*n+1)).getD (n*n+2*n) 0)
  rw[List.getD_eq_getElem?_getD];cases e:(HC l (n*n+2*n+1))[n*n+2*n]? with
  | none=>exact Bt.zero 4
  | some x=>exact hb.at e
theorem B3.Ok.le {S:B3} {n k j:Nat} (h:S.Ok n k) (hj:k<=j):S.Ok n j:=⟨h.la,h.lr,h.lb,h.lc,λ r hr=>(h.ba r hr).le hj,h.bb.le hj,h.bc.le hj,h.bd.le hj⟩
theorem jM (N:di L) (p r:List Rat) (k:Nat) (hp:Bs k p) (hr:Bs k r) (hk:k<2199023255552) (hn:p.length<=1000000) (hm:r.length<=1000000):Ev L 176 [.agg [.sl false (p.map eQ),.sl false (r.map eQ)],.agg [.sl false (p.map eQ),.sl false (r.map eQ)]] (.bool true):=by
 have hP:=λ q1 q2=>kJ N.toak q1 q2 p k hp hk hn
 have hR:=λ q1 q2=>kJ N.toak q1 q2 r k hr hk hm
 refine Ev.x N.MU rfl rfl ?_;(repeat' ((first|apply AE|refine AC (hP _ _) ?_|refine AC (hR _ _) ?_)<;>conv=>whnf))
 exact HQ rfl
end Go.e9
namespace Go.e9
def hQ (S:B3):Nat->Rat
 | 0=>S.d
 | j+1=>BM S.c (wQ S j)
theorem gY {l:List Rat} : ∀ {n i:Nat},CB l n<=i->i<n->l.getD i 0=0
 | 0,i,_,h=>by omega
 | n+1,i,h,hi=>by
  rw[CB]at h;split at h
  ·rename_i h0
   by_cases e:i=n
   ·subst e;exact h0
   ·exact gY h (by omega)
  ·omega
theorem NF (l:List Rat) (i:Nat):(BQ l).getD i 0=l.getD i 0:=by
 by_cases h:i<CB l l.length
 ·have:=HW l l.length
  rw[BQ,List.getD_eq_getElem?_getD,List.getElem?_take_of_lt h,List.getD_eq_getElem?_getD]
 ·rw[E3 (by rw[NG];omega)]
  by_cases h2:i<l.length
  ·exact (gY (by omega) h2).symm
  ·exact (E3 (by omega)).symm
theorem TI (a:List (List Rat)) (n i:Nat) (h:i<=n):(CI a n n).getD i 0=NV a n i:=by
 cases i with
 | zero=>rfl
 | succ i =>
  rw[CI,List.getD_cons_succ,List.getD_eq_getElem?_getD,List.getElem?_map,List.getElem?_range (by omega)];rfl
theorem V5 (p r:List Rat) (h:r.length<=p.length) (i:Nat):(EX p r).getD i 0=p.getD i 0+r.getD i 0:=by
 by_cases hi:i<p.length
 ·exact G9 (O9 hi)
 ·rw[E3 (by rw[OK];omega),E3 (by omega),E3 (by omega),Rat.add_zero]
theorem qC (l:List Rat) (d:Rat) (i:Nat):(l.map (· * d)).getD i 0=l.getD i 0*d:=by
 rw[List.getD_eq_getElem?_getD,List.getD_eq_getElem?_getD,List.getElem?_map];cases l[i]? with
 | none=>simp
 | some x=>rfl
theorem Us {S:B3} {n k:Nat} (h:S.Ok n k) (hn:n<=4) (K:Nat) (hK:K<=n+2) :
  conv (λ a=>(BN S n).getD a 0) (hQ S) K (min (BN S n).length (K+1))=(CN S n).getD K 0:=by
 have hs:Sq n S.a:=⟨h.la,h.lr⟩;have dk:=P9 S.a n n;have nx:=RT S n n;have hle:(BQ ((CI S.a n n).map (· * S.d))).length<=(EO S n n).length:=by
  rw[NG];have:=HW ((CI S.a n n).map (· * S.d)) ((CI S.a n n).map (· * S.d)).length
  rw[List.length_map]at this ⊢;omega
 have hR:(CN S n).getD K 0=(EO S n n).getD K 0+(CI S.a n n).getD K 0*S.d:=by
  rw[CN,NF,V5 _ _ hle,NF,qC]
 have hL:conv (λ a=>(BN S n).getD a 0) (hQ S) K (min (BN S n).length (K+1))=conv (λ a=>(CI S.a n n).getD a 0) (hQ S) K (K+1):=by
  have e:conv (λ a=>(BN S n).getD a 0) (hQ S) K (min (BN S n).length (K+1))=conv (λ a=>(BN S n).getD a 0) (hQ S) K (K+1):=by
   by_cases h1:(BN S n).length<=K+1
   ·rw[Nat.min_eq_left h1]
    have:=QE (A:=λ a=>(BN S n).getD a 0) (h:=hQ S) (K:=K) (m:=(BN S n).length) (λ a ha=>E3 ha) (K+1-(BN S n).length)
    rw[show (BN S n).length+(K+1-(BN S n).length)=K+1 by omega]at this;exact this.symm
   ·rw[Nat.min_eq_right (by omega)]
  rw[e];exact J8 (K+1) (λ a _=>NF _ a) λ_ _=>rfl
 have Bz:CS (A5 S.a n n) S.b=List.replicate n 0:=by
  rw[gG hs hn,CS,List.map_replicate,OO]
 have im : ∀ a,n+1<=a->(CI S.a n n).getD a 0=0:=λ a ha=>E3 (by omega)
 rw[hL,hR];by_cases Xf:K<=n
 ·have e1:conv (λ a=>(CI S.a n n).getD a 0) (hQ S) K (K+1)=conv (NV S.a n) (hQ S) K (K+1):=J8 (K+1) (λ a ha=>TI _ _ _ (by omega)) λ_ _=>rfl
  rw[e1,TI _ _ _ Xf];cases K with
  | zero =>
   simp only[conv,Nat.sub_self,hQ,EO,List.getD_cons_zero]
  | succ k =>
   have e2:conv (NV S.a n) (hQ S) (k+1) (k+1)=conv (NV S.a n) (λ j=>BM S.c (wQ S j)) k (k+1):=by
    refine J8 (k+1) (λ_ _=>rfl) λ a ha => ?_
    rw[show k+1-a=(k-a)+1 by omega];rfl
   have e3:=UB hs h.lb k S.c h.lc;rw[conv,e2,<-e3,Nat.sub_self];congr 1;rw[EO,List.getD_cons_succ,List.getD_eq_getElem?_getD,List.getElem?_map,List.getElem?_range (by omega)];rfl
 ·rw[im K (by omega),E3 (l:=EO S n n) (by omega),Rat.zero_mul,Rat.zero_add]
  obtain ⟨d,rfl⟩ : ∃ d,K=n+1+d:=⟨K-(n+1),by omega⟩;have e0:=QE (A:=λ a=>(CI S.a n n).getD a 0) (h:=hQ S) (K:=n+1+d) (m:=n+1) im (d+1);rw[show n+1+(d+1)=n+1+d+1 by omega]at e0;rw[e0];have e1:conv (λ a=>(CI S.a n n).getD a 0) (hQ S) (n+1+d) (n+1)=conv (NV S.a n) (λ j=>BM S.c (wQ S (j+d))) n (n+1):=by
   refine J8 (n+1) (λ a ha=>TI _ _ _ (by omega)) λ a ha => ?_
   rw[show n+1+d-a=(n-a+d)+1 by omega];rfl
  rw[e1];have hd:d=0\/d=1:=by omega
  rcases hd with rfl|rfl
  ·have e3:=UB hs h.lb n S.c h.lc
   rw[Bz,ZR]at e3;exact e3.symm
  ·have e3:=UB hs h.lb n (FV S.c S.a n) (QW _ _ _)
   rw[Bz,ZR]at e3;rw[e3];exact J8 (n+1) (λ_ _=>rfl) λ a _=>(PD S.a S.c hs.r).symm
def EB:List Rat->List Rat->Nat->Rat
 | [],_,_=>0
 | x::a,b,K=>x*b.getD K 0+(if K=0 then 0 else EB a b (K-1))
theorem XG (x:Rat) (a b:List Rat) (K:Nat):EB (x::a) b K=x*b.getD K 0+(if K=0 then 0 else EB a b (K-1)):=rfl
theorem UN (b:List Rat) (K:Nat):EB [] b K=0:=rfl
def GW:List Rat->Nat->Rat->List Rat->List Rat
 | r,_,_,[]=>r
 | r,i,x,y::b=>GW (r.set i (r.getD i 0+x*y)) (i+1) x b
def GN:List Rat->Nat->List Rat->List Rat->List Rat
 | r,_,[],_=>r
 | r,i,x::a,b=>GN (GW r i x b) (i+1) a b
theorem V4 (x:Rat) : ∀ (b r:List Rat) (i:Nat),(GW r i x b).length=r.length
 | [],_,_=>rfl
 | y::b,r,i=>by rw[GW,V4 x b,List.length_set]
theorem bU (b:List Rat) : ∀ (a r:List Rat) (i:Nat),(GN r i a b).length=r.length
 | [],_,_=>rfl
 | x::a,r,i=>by rw[GN,bU b a,V4]
theorem fI (x y:Rat) : ∀ (b r:List Rat) (i:Nat),GW r i x (b++[y])=(GW r i x b).set (i+b.length) ((GW r i x b).getD (i+b.length) 0+x*y)
 | [],r,i=>rfl
 | z::b,r,i=>by
  rw[List.cons_append,GW,fI x y b,GW,List.length_cons];rw[show i+1+b.length=i+(b.length+1) by omega]
theorem oB (b:List Rat) (x:Rat) : ∀ (a r:List Rat) (i:Nat),GN r i (a++[x]) b=GW (GN r i a b) (i+a.length) x b
 | [],r,i=>rfl
 | z::a,r,i=>by
  rw[List.cons_append,GN,oB b x a,GN,List.length_cons];rw[show i+1+a.length=i+(a.length+1) by omega]
theorem Oc (r:List Rat) (i K:Nat) (z:Rat) (hi:i<r.length):(r.set i z).getD K 0=if i=K then z else r.getD K 0:=by
 rw[List.getD_eq_getElem?_getD,List.getD_eq_getElem?_getD,List.getElem?_set];by_cases h:i=K
 ·subst h;simp [hi]
 ·simp [h]
theorem fH (x:Rat) : ∀ (b r:List Rat) (i K:Nat),i+b.length<=r.length->(GW r i x b).getD K 0=r.getD K 0+if i<=K then x*b.getD (K-i) 0 else 0
 | [],r,i,K,_=>by
  rw[GW,List.getD_nil];split<;>grind
 | y::b,r,i,K,h=>by
  rw[List.length_cons]at h;rw[GW,fH x b _ (i+1) K (by rw[List.length_set];omega),Oc _ _ _ _ (by omega)];by_cases h1:i=K
  ·subst h1
   rw[if_pos rfl,if_neg (by omega),if_pos (Nat.le_refl _),Nat.sub_self,List.getD_cons_zero];grind
  ·rw[if_neg h1]
   by_cases h2:i<=K
   ·rw[if_pos (by omega),if_pos h2,show K-i=(K-(i+1))+1 by omega,List.getD_cons_succ]
   ·rw[if_neg (by omega),if_neg h2]
theorem oA (b:List Rat) : ∀ (a r:List Rat) (i K:Nat),a.length+i+b.length<=r.length+1->(GN r i a b).getD K 0=r.getD K 0+if i<=K then EB a b (K-i) else 0
 | [],r,i,K,_=>by
  rw[GN,UN];split<;>grind
 | x::a,r,i,K,h=>by
  rw[List.length_cons]at h;rw[GN,oA b a _ (i+1) K (by rw[V4];omega),fH x b r i K (by omega)];by_cases h1:i<=K
  ·rw[if_pos h1,if_pos h1,XG]
   by_cases h2:i=K
   ·subst h2
    rw[if_neg (by omega),if_pos (Nat.sub_self i)];grind
   ·rw[if_pos (by omega),if_neg (by omega),show K-(i+1)=K-i-1 by omega]
    grind
  ·rw[if_neg h1,if_neg h1,if_neg (by omega)]
   grind
theorem oD (s t:Rat) (b:List Rat) : ∀ (a:List Rat) (K:Nat),EB (a.map (s * ·)) (b.map (t * ·)) K=s*t*EB a b K
 | [],K=>by
  rw[List.map_nil,UN,UN];grind
 | x::a,K=>by
  have e:(b.map (t * ·)).getD K 0=t*b.getD K 0:=by
   rw[List.getD_eq_getElem?_getD,List.getD_eq_getElem?_getD,List.getElem?_map];cases b[K]? with
   | none=>show (0:Rat)=t*0;grind
   | some y=>rfl
  rw[List.map_cons,XG,XG,e,oD s t b a (K-1)];split<;>grind
theorem SL {p:List Rat} (h:p.length<=3) (q:List Rat) (K:Nat):EB p q K=p.getD 0 0*q.getD K 0+((if 1<=K then p.getD 1 0*q.getD (K-1) 0 else 0)+if 2<=K then p.getD 2 0*q.getD (K-2) 0 else 0):=by
 match p,h with
 | [],_=>simp only[UN,List.getD_nil];split<;>split<;>grind
 | [a],_=>rcases K with _|K<;>simp [EB]<;>grind
 | [a,b],_=>rcases K with _|_|K<;>simp [EB]<;>grind
 | [a,b,c],_=>rcases K with _|_|K<;>simp [EB]<;>grind
theorem oC : ∀ (p:List Rat) (K:Nat),EB p [] K=0
 | [],K=>rfl
 | x::p,K=>by
  rw[XG,List.getD_nil,oC p (K-1)];split<;>grind
theorem Re (l:List Rat) (c:Rat) (K:Nat):(l.map (· * c)).getD K 0=l.getD K 0*c:=by
 rw[List.getD_eq_getElem?_getD,List.getD_eq_getElem?_getD,List.getElem?_map];cases l[K]? with
 | none=>show (0:Rat)=0*c;grind
 | some y=>rfl
theorem Tb (n K:Nat):(List.replicate n (0:Rat)).getD K 0=0:=by
 rw[List.getD_eq_getElem?_getD,List.getElem?_replicate];split<;>rfl
theorem nJ {s:Rat} (h:s≠0) (l:List Rat):(l.map (· / s)).map (s * ·)=l:=by
 rw[List.map_map];refine (List.map_congr_left λ x _ => ?_).trans (List.map_id l);show s*(x/s)=x;rw[Rat.mul_comm,Rat.div_mul_cancel h]
theorem Tn {s t:Rat} (hs:s≠0) (ht:t≠0) (a b:List Rat) (K:Nat):EB a b K=s*t*EB (a.map (· / s)) (b.map (· / t)) K:=by
 rw[<-oD,nJ hs,nJ ht]
theorem Ob {k:Nat} {l:List Rat} (h:Bs k l) (i:Nat):Bt k (l.getD i 0):=by
 rw[List.getD_eq_getElem?_getD];cases hx:l[i]? with
 | none=>exact Bt.zero _
 | some x=>exact h.at hx
theorem Bs.Hh {k:Nat} {l:List Rat} {x:Rat} (h:Bs k l) (hx:Bt k x) (i:Nat):Bs k (l.set i x):=by
 intro y hy;rcases List.mem_or_eq_of_mem_set hy with h1|h1
 ·exact h y h1
 ·rw[h1];exact hx
theorem Y0 {K:Nat} (x:Rat) : ∀ (b r:List Rat) (i c:Nat),(∀ y∈b,Bt K (x*y))->Bs c r->Bs (c+b.length*(K+1)) (GW r i x b)
 | [],r,i,c,_,h=>λ y hy=>(h y hy).le (by omega)
 | z::b,r,i,c,hb,h=>by
  have h1:Bs (c+(K+1)) (r.set i (r.getD i 0+x*z)) :=
   Bs.Hh (λ y hy=>(h y hy).le (by omega)) (((Ob h i).add (hb z (List.mem_cons_self ..))).le (by omega)) i
  have:=Y0 (K:=K) x b _ (i+1) _ (λ y hy=>hb y (List.mem_cons_of_mem _ hy)) h1
  rw[GW,List.length_cons,Nat.succ_mul];intro y hy;exact (this y hy).le (by omega)
theorem bT {K:Nat} (b:List Rat) : ∀ (a r:List Rat) (i c:Nat),(∀ x∈a,∀ y∈b,Bt K (x*y))->Bs c r->Bs (c+a.length*(b.length*(K+1))) (GN r i a b)
 | [],r,i,c,_,h=>λ y hy=>(h y hy).le (by omega)
 | x::a,r,i,c,ha,h=>by
  have h1:=Y0 (K:=K) x b r i c (ha x (List.mem_cons_self ..)) h;have:=bT (K:=K) b a _ (i+1) _ (λ z hz=>ha z (List.mem_cons_of_mem _ hz)) h1
  rw[GN,List.length_cons,Nat.succ_mul];intro y hy;exact (this y hy).le (by omega)
def PQ (S:B3) (n:Nat):Nat->List Rat
 | 0=>S.c
 | d+1=>FV (PQ S n d) S.a n
theorem Te {S:B3} {n:Nat} (h:S.c.length=n) : ∀ d,(PQ S n d).length=n
 | 0=>h
 | _+1=>QW _ _ _
theorem pO {S:B3} {n:Nat} (h : ∀ r∈S.a,r.length=n) : ∀ d j,BM (PQ S n d) (wQ S j)=BM S.c (wQ S (j+d))
 | 0,_=>rfl
 | d+1,j=>by
  rw[PQ,PD S.a (PQ S n d) h];show BM (PQ S n d) (wQ S (j+1))=_;rw[pO h d (j+1),show j+1+d=j+(d+1) by omega]
theorem rD {S:B3} {n k:Nat} (h:S.Ok n k) (hn:n<=4) (K:Nat) :
  conv (λ a=>(BN S n).getD a 0) (hQ S) K (min (BN S n).length (K+1))=(CN S n).getD K 0:=by
 by_cases hK:K<=n+2
 ·exact Us h hn K hK
 have hs:Sq n S.a:=⟨h.la,h.lr⟩;have dk:=P9 S.a n n;have nx:=RT S n n;have hle:(BQ ((CI S.a n n).map (· * S.d))).length<=(EO S n n).length:=by
  rw[NG];have:=HW ((CI S.a n n).map (· * S.d)) ((CI S.a n n).map (· * S.d)).length
  rw[List.length_map]at this ⊢;omega
 have hR:(CN S n).getD K 0=(EO S n n).getD K 0+(CI S.a n n).getD K 0*S.d:=by
  rw[CN,NF,V5 _ _ hle,NF,qC]
 have hL:conv (λ a=>(BN S n).getD a 0) (hQ S) K (min (BN S n).length (K+1))=conv (λ a=>(CI S.a n n).getD a 0) (hQ S) K (K+1):=by
  have e:conv (λ a=>(BN S n).getD a 0) (hQ S) K (min (BN S n).length (K+1))=conv (λ a=>(BN S n).getD a 0) (hQ S) K (K+1):=by
   by_cases h1:(BN S n).length<=K+1
   ·rw[Nat.min_eq_left h1]
    have:=QE (A:=λ a=>(BN S n).getD a 0) (h:=hQ S) (K:=K) (m:=(BN S n).length) (λ a ha=>E3 ha) (K+1-(BN S n).length)
    rw[show (BN S n).length+(K+1-(BN S n).length)=K+1 by omega]at this;exact this.symm
   ·rw[Nat.min_eq_right (by omega)]
  rw[e];exact J8 (K+1) (λ a _=>NF _ a) λ_ _=>rfl
 have Bz:CS (A5 S.a n n) S.b=List.replicate n 0:=by
  rw[gG hs hn,CS,List.map_replicate,OO]
 have im : ∀ a,n+1<=a->(CI S.a n n).getD a 0=0:=λ a ha=>E3 (by omega)
 rw[hL,hR,im K (by omega),E3 (l:=EO S n n) (by omega),Rat.zero_mul,Rat.zero_add];obtain ⟨d,rfl⟩ : ∃ d,K=n+1+d:=⟨K-(n+1),by omega⟩;have e0:=QE (A:=λ a=>(CI S.a n n).getD a 0) (h:=hQ S) (K:=n+1+d) (m:=n+1) im (d+1);rw[show n+1+(d+1)=n+1+d+1 by omega]at e0;rw[e0];have e1:conv (λ a=>(CI S.a n n).getD a 0) (hQ S) (n+1+d) (n+1)=conv (NV S.a n) (λ j=>BM (PQ S n d) (wQ S j)) n (n+1):=by
  refine J8 (n+1) (λ a ha=>TI _ _ _ (by omega)) λ a ha => ?_
  rw[pO h.lr,show n+1+d-a=(n-a+d)+1 by omega];rfl
 have e3:=UB hs h.lb n (PQ S n d) (Te h.lc d);rw[Bz,ZR]at e3;rw[e1];exact e3.symm
theorem tY {R:List (Option (Nat × List (List AV)))} {i e z:Nat} {es:List (List AV)} {K:Option (Nat × List (List AV))->Prop} (he:e=i) (hi:i<R.length) (h:K (some (z,es))):D6 (R.set i (some (z,es))) e K:=by
 subst he;exact ⟨_,by rw[List.getElem?_set,if_pos rfl,if_pos hi],h⟩
theorem tX {R:List (Option (Nat × List (List AV)))} {i e z:Nat} {es:List (List AV)} {K:Nat->List (List AV)->Prop} (he:e=i) (hi:i<R.length) (h:K z es):C3 (R.set i (some (z,es))) e K:=by
 subst he;exact ⟨z,es,by rw[List.getElem?_set,if_pos rfl,if_pos hi],h⟩
theorem uK {R:List (Option (Nat × List (List AV)))} {i e z:Nat} {es es':List (List AV)} {K:List (Option (Nat × List (List AV)))->Prop} (he:e=i) (hl:es'.length=es.length) (h:K (R.set i (some (z,es')))):EH (R.set i (some (z,es))) e z es es' K:=by
 subst he;exact ⟨hl,by rw[List.set_set];exact h⟩
theorem VM {r:List Rat} (h:BQ r=r) (hn:r.length≠0):r.getD (r.length-1) 0≠0:=by
 have hl:=NG r;rw[h]at hl;obtain ⟨n,nq⟩ : ∃ n,r.length=n+1:=⟨r.length-1,by omega⟩;rw[nq,CB]at hl;rw[nq,Nat.add_sub_cancel];intro h0;rw[if_pos h0]at hl;have:=HW r n
 omega
theorem VK {l r:List Rat} (hr:BQ r=r) (h : ∀ i,l.getD i 0=r.getD i 0):BQ l=r:=by
 have ht:=dR l;have hg : ∀ i,(BQ l).getD i 0=r.getD i 0:=λ i=>by rw[NF,h]
 generalize BQ l=t at *;have hle:t.length=r.length:=by
  by_cases h1:t.length<r.length
  ·exact absurd (by rw[<-hg];exact E3 (by omega)) (VM hr (by omega))
  ·by_cases h2:r.length<t.length
   ·exact absurd (by rw[hg];exact E3 (by omega)) (VM ht (by omega))
   ·omega
 refine List.ext_getElem? λ i => ?_
 by_cases hi:i<t.length
 ·have e1:t[i]? = some t[i]:=zE hi
  have e2:r[i]? = some (r[i]'(by omega)):=zE (by omega);have:=hg i
  rw[G9 e1,G9 e2]at this;rw[e1,e2,this]
 ·rw[List.getElem?_eq_none (by omega),List.getElem?_eq_none (by omega)]
def EE (B A:List Rat) (n:Nat):B3 where
 a:=(List.range n).map λ i=>if i=0 then (List.range n).map λ k => -(A.getD (k+1) 0) else G2 n ((i-1:Nat):Int)
 b:=G2 n 0
 c:=(List.range n).map λ i=>B.getD (i+1) 0-B.getD 0 0*A.getD (i+1) 0
 d:=B.getD 0 0
def OI (x:Rat):Rat:=if x.num<0 then -x else x
theorem fG {x:Rat} (h:x≠0):OI x≠0:=by
 unfold OI;split
 ·intro e;exact h (by grind)
 ·exact h
theorem Bt.zl {k:Nat} {x:Rat} (h:Bt k x):Bt k (OI x):=by
 unfold OI;split
 ·exact h.Hd
 ·exact h
def N0 (a b:Rat):Rat:=if a=0 then OI b else if b=0 then a else OI (a/(((a/b).num:Int):Rat))
theorem oK {x:Rat} (h:x≠0):((x.num:Int):Rat)≠0:=by
 intro e;have:((x.num:Int):Rat)=((0:Int):Rat):=e
 exact h (Rat.num_eq_zero.1 (Rat.intCast_inj.1 this))
theorem ZP {a b:Rat} (ha:a≠0) (hb:b≠0):a/b≠0:=by
 intro e;have:=Rat.div_mul_cancel hb (a:=a)
 rw[e,Rat.zero_mul]at this;exact ha this.symm
theorem xS {a b:Rat} (h:a≠0\/b≠0):N0 a b≠0:=by
 unfold N0;by_cases ha:a=0
 ·rw[if_pos ha]
  exact fG (h.resolve_left λ x=>x ha)
 ·rw[if_neg ha]
  by_cases hb:b=0
  ·rw[if_pos hb];exact ha
  ·rw[if_neg hb]
   exact fG (ZP ha (oK (ZP ha hb)))
theorem Bt.xp {k:Nat} {x:Rat} (h:Bt k x):Bt k ((x.num:Int):Rat):=Bt.ofInt h.1
theorem xR {k l:Nat} {a b:Rat} (ha:Bt k a) (hb:Bt l b):Bt (2*k+l) (N0 a b):=by
 unfold N0;split
 ·exact hb.zl.le (by omega)
 ·split
  ·exact ha.le (by omega)
  ·exact ((ha.nv (ha.nv hb).xp).zl).le (by omega)
def DR (p:List Rat):Rat:=p.foldl N0 0
theorem nM (p:List Rat) (x:Rat):DR (p++[x])=N0 (DR p) x:=by rw[DR,List.foldl_append];rfl
theorem nN {p:List Rat} {i:Nat} {x:Rat} (h:p[i]? = some x):DR (p.take (i+1))=N0 (DR (p.take i)) x:=by
 rw[List.take_add_one,h];exact nM _ _
theorem W9 {k:Nat} {p:List Rat} (h:Bs k p) : ∀ i,Bt ((2^i-1)*k) (DR (p.take i))
 | 0=>by rw[List.take_zero];exact Bt.zero _
 | i+1=>by
  have ih:=W9 h i;have h1:1<=2^i:=Nat.one_le_two_pow;have e:(2^(i+1)-1)*k=2*((2^i-1)*k)+k:=by
   rw[Nat.pow_succ];obtain ⟨c,hc⟩ : ∃ c,2^i=c+1:=⟨2^i-1,by omega⟩;rw[hc,show (c+1)*2-1=2*c+1 by omega,Nat.add_sub_cancel,Nat.add_mul,Nat.one_mul,Nat.mul_assoc]
  rw[e];cases hx:p[i]? with
  | none =>
   rw[List.take_add_one,hx];simp only[Option.toList_none,List.append_nil];exact ih.le (by omega)
  | some x =>
   rw[nN hx];exact xR ih (h.at hx)
theorem Pu {p:List Rat} {x:Rat} (h:x≠0):DR (p++[x])≠0:=by rw[nM];exact xS (Or.inr h)
theorem bL {p:List Rat} (h:BQ p=p):p=[]\/DR p≠0:=by
 by_cases hl:p.length=0
 ·exact Or.inl (List.length_eq_zero_iff.1 hl)
 ·have h1:=VM h hl
  obtain ⟨n,hn⟩ : ∃ n,p.length=n+1:=⟨p.length-1,by omega⟩;rw[hn,Nat.add_sub_cancel]at h1;obtain ⟨x,hx⟩ : ∃ x,p[n]? = some x:=⟨_,zE (by omega)⟩;rw[List.getD_eq_getElem?_getD,hx]at h1;have e:p=p.take n++[x]:=by
   have:=List.take_add_one (l:=p) (i:=n)
   rw[hx,zT (by omega)]at this;exact this
  rw[e];exact Or.inr (Pu h1)
end Go.e9

namespace Go.e9
section
variable {M ky:Nat} {g:List Pt}
end
end Go.e9

namespace Go.e9
open F
attribute [local irreducible] AA AF AQ AD DW AW A9 BD CO AX BI FZ CE A4 CD C7 AB BA AJ pw D6 C3 E7 EH FE BP C4 B9 CF
variable {L:Lib}
set_option maxHeartbeats 16000000
set_option maxRecDepth 8000
def cz (row:List Rat) (n j:Nat):List Rat:=fz 0 (row.take j) n
theorem yL {row:List Rat} {n j:Nat} (hj:j<=n):(cz row n j).length=n:=by
 refine Ny ?_;rw[List.length_take];omega
theorem yN (row:List Rat) (n:Nat):cz row n 0=List.replicate n 0:=by simp [cz,fz]
theorem yM {row:List Rat} {n j:Nat} {x:Rat} (h:row[j]? = some x) (hj:j<n):(cz row n j).set j x=cz row n (j+1):=by
 have h1:=(zS h).1;have hl:(row.take j).length=j:=by rw[List.length_take];omega
 have:=Nz (z:=(0:Rat)) (l:=row.take j) (m:=n) (x:=x) (by omega)
 rw[hl]at this;rw[cz,this,cz,VE h]
theorem yK {row:List Rat} {n:Nat} (h:row.length=n):cz row n n=row:=by
 rw[cz,zT (by omega)];exact Nx h
theorem Nq (N:k6 L) (m:Nat) (hm:m<=65536):FR L 206 [.int .i64 (m:Int)] 3 ((List.replicate m (0:Rat)).map eQ):=by
 have hO:=KA N.toa6 0 (by omega);refine FR.x N.JJ rfl rfl ?_;(repeat' (apply AE<;>conv=>whnf))
 refine EM (enc:=eO) none m rfl rfl (by omega) ?_;(conv=>whnf)
 skip
 refine ES (λ i=>m-i) (λ(i:Nat)=>i<=m) (λ i=>[(8,.int .i64 i)]) (λ i=>[(6,6,.rw 3 ((EK (List.replicate i 0) m).map eO))]) [] [] 0 (by first|exact (by (conv=>whnf);exact ⟨rfl,rfl,rfl⟩)|(rw[<-I2];exact (by (conv=>whnf);exact ⟨rfl,rfl,rfl⟩))) (by omega) ?_;intro i p1 ih;by_cases hi:i<m
 ·have hl:=IM (l:=List.replicate i (0:Rat)) (m:=m) (by simp;omega)
  have hs:=I3 (l:=List.replicate i (0:Rat)) (m:=m) (x:=0) (by simp;omega);rw[List.length_replicate]at hs;(repeat' ((first|(apply AG<;>intro hc<;>try omega)|(apply A3;omega)|apply AE|refine AC (hO) ?_)<;>conv=>whnf))
  refine F3 (enc:=eO) (some 0) rfl (λ e=>by cases e<;>rfl) (by omega) ?_;(conv=>whnf)
  (repeat' ((first|(apply AZ;omega)|fail)<;>conv=>whnf))
  rw[hs];rw[show List.replicate i (0:Rat)++[0]=List.replicate (i+1) 0 by rw[List.replicate_succ']];exact B0 [] (ih (i+1) (by omega) (by omega))
 obtain rfl:i=m:=by omega
 clear ih;rw[I1 (by simp)];(repeat' ((first|(apply AG<;>intro hc<;>try omega)|apply AE)<;>conv=>whnf))
 exact ⟨rfl,rfl,by simp,rfl,EY _⟩
theorem aE (N:k6 L) (q:Bool) (l:List Rat) (i:Int) (k:Nat) (h0:0<=i) (hl:Bs k l) (hk:k<2199023255552) (hn:l.length<=1000000):Ev L 205 [.sl q (l.map eQ),.int .i64 i] (.agg (eQ (l.getD i.toNat 0))):=by
 have hO:=KA N.toa6 0 (by omega);refine Ev.x N.M9 rfl rfl ?_;by_cases hi:i<l.length
 ·obtain ⟨x,hx⟩ : ∃ x,l[i.toNat]? = some x:=⟨_,zE (by omega)⟩
  have hT:=T5 N.toa6 (hl.at hx) hk;rw[G9 hx];(repeat' ((first|(apply AG<;>intro hc<;>try omega)|apply AR|(refine BL (by assumption) ?_ rfl ?_;omega)|apply AE|refine AC (hT) ?_)<;>conv=>whnf))
  exact AU rfl (EA _)
 ·rw[E3 (l:=l) (by omega)]
  (repeat' ((first|(apply AG<;>intro hc<;>try omega)|apply AR|apply AE|refine AC (hO) ?_)<;>conv=>whnf))
  exact AU rfl (EA _)
theorem kL (N:k6 L) (q:Bool) (l:List Rat) (k:Nat) (ht:BQ l=l) (hl:Bs k l) (hk:k<2199023255552) (hn:l.length<=1000000):Ev L 204 [.sl q (l.map eQ)] (.int .i64 ((l.length-1:Nat):Int)):=by
 refine Ev.x N.NB rfl rfl ?_;(repeat' ((first|(apply BX;omega)|apply AR|apply AE)<;>conv=>whnf))
 refine FK ?_;by_cases h2:l.length<=1
 ·(repeat' ((first|(apply AG<;>intro hc<;>try omega)|apply AE)<;>conv=>whnf))
  exact C2 (by omega)
 ·obtain ⟨x,hx⟩ : ∃ x,l[l.length-1]? = some x:=⟨_,zE (by omega)⟩
  have gi:l[((l.length:Int)-1).toNat]? = some x:=by rw[show ((l.length:Int)-1).toNat=l.length-1 by omega];exact hx
  have Jj:=VM ht (by omega);rw[G9 hx]at Jj;have hS:=HZ N.toa6 (hl.at hx) hk;have hs:=ID (x:=x);generalize u9 x.num=s at *;have ju:s≠0:=λ h=>Jj (hs.1 h)
  (repeat' ((first|(apply AG<;>intro hc<;>try omega)|(refine BL (by assumption) ?_ rfl ?_;omega)|apply AE|refine AC (hS) ?_)<;>conv=>whnf))
  exact C2 (by omega)
theorem T4 (N:k6 L) (q1 q2:Bool) (B A:List Rat) (k:Nat) (hB:Bs k B) (hA:Bs k A) (hk:k<2199023255552) (lB:B.length<=49) (lA:A.length<=49) (h0:A[0]? = some 1):Ev L 201 [.agg [.sl q1 (B.map eQ),.sl q2 (A.map eQ)]] (.bool true):=by
 have c1:=HW B B.length;have c2:=HW A A.length;have nw:=WY N q1 B k hB hk (by omega);have mq:=WY N q2 A k hA hk (by omega);have hO:=KA N.toa6 1 (by omega);have hC:=Lu N (Bt.one 1) (Bt.one 1) (by omega) (by omega);rw[cY.2 rfl]at hC;have ya:0<A.length:=(zS h0).1;have rz:A[(0:Int).toNat]? = some 1:=h0;generalize CB B B.length=d1 at *;generalize CB A A.length=d2 at *;refine Ev.x N.M0 rfl rfl ?_;(repeat' ((first|(apply AG<;>intro hc<;>try omega)|apply AR|(refine BL (by assumption) ?_ rfl ?_;omega)|apply AE|refine AC (nw) ?_|refine AC (mq) ?_|refine AC (hO) ?_|refine AC (hC) ?_)<;>conv=>whnf))
 exact HQ rfl
theorem xX (B A:List Rat) (m:Nat):(EE B A (m+1)).a.take 1=[(List.range (m+1)).map λ k => -(A.getD (k+1) 0)]:=by
 simp [EE,List.range_succ_eq_map]
theorem xY {B A:List Rat} {n i:Nat} (h1:1<=i) (hi:i<n):(EE B A n).a[i]? = some (G2 n ((i-1:Nat):Int)):=by
 simp only[EE,List.getElem?_map,List.getElem?_range hi,Option.map_some];rw[if_neg (by omega)]
theorem gU {B A:List Rat} {n i:Nat} (hi:i<n):(EE B A n).c[i]? = some (B.getD (i+1) 0-B.getD 0 0*A.getD (i+1) 0):=by
 simp only[EE,List.getElem?_map,List.getElem?_range hi,Option.map_some]
theorem xZ (B A:List Rat) (m:Nat):(EE B A (m+1)).c.take 1=[B.getD 1 0-B.getD 0 0*A.getD 1 0]:=by
 rw[List.take_add_one,gU (by omega)];rfl
theorem gT (B A:List Rat) (n:Nat):(EE B A n).a.length=n:=by simp [EE]
theorem gV (B A:List Rat) (n:Nat):(EE B A n).c.length=n:=by simp [EE]
theorem qW {α:Type} {l:List α} {i:Nat} {x:α} (h:l[i]? = some x):l.take (i+1)=l.take i++[x]:=by
 rw[List.take_add_one,h];rfl
theorem TP (S:B3) (e:Int):A6 (.j4 [.agg (eS S),.int .i64 e]):=by
 have:=ZC S
 simp only[A6,C6,true_and,and_true]at this ⊢;exact this
theorem Li (N:k6 L) (w1 w2:Bool) (B A:List Rat) (n k:Nat) (hB:BQ B=B) (hA:BQ A=A) (bB:Bs k B) (bA:Bs k A) (lB:B.length<=17) (lA:A.length<=17) (h0:A[0]? = some 1) (hn:max (B.length-1) (A.length-1)=n) (hk:k<=1000000) :
  Ev L 207 [.agg [.sl w1 (B.map eQ),.sl w2 (A.map eQ)]] (.j4 [.agg (eS (EE B A n)),.int .i64 0]):=by
 have hV:=T4 N w1 w2 B A k bB bA (by omega) (by omega) (by omega) h0;have nw:=kL N w1 B k hB bB (by omega) (by omega);have mq:=kL N w2 A k hA bA (by omega) (by omega);have hO:=KA N.toa6 1 (by omega);have zt:=aE N w1 B 0 k (by omega) bB (by omega) (by omega);rw[show B.getD (0:Int).toNat 0=B.getD 0 0 from rfl]at zt;have hZ:=Nq N n (by omega);have Hn:Bt k (B.getD 0 0):=HL bB 0;have Ag : ∀ i:Nat,Ev L 205 [.sl w1 (B.map eQ),.int .i64 ((i:Int)+1)] (.agg (eQ (B.getD (i+1) 0)))/\Ev L 205 [.sl w2 (A.map eQ),.int .i64 ((i:Int)+1)] (.agg (eQ (A.getD (i+1) 0))) /\
   Ev L 99 [.agg (eQ (B.getD 0 0)),.agg (eQ (A.getD (i+1) 0))] (.agg (eQ (B.getD 0 0*A.getD (i+1) 0)))/\Ev L 150 [.agg (eQ (B.getD (i+1) 0)),.agg (eQ (B.getD 0 0*A.getD (i+1) 0))] (.agg (eQ (B.getD (i+1) 0-B.getD 0 0*A.getD (i+1) 0))) /\
   Ev L 199 [.agg (eQ (A.getD (i+1) 0))] (.agg (eQ (-(A.getD (i+1) 0)))):=λ i=>by
  have e1:=aE N w1 B ((i:Int)+1) k (by omega) bB (by omega) (by omega);have e2:=aE N w2 A ((i:Int)+1) k (by omega) bA (by omega) (by omega);rw[show ((i:Int)+1).toNat=i+1 by omega]at e1 e2;exact ⟨e1,e2,OQ N.toa6 Hn (HL bA _) (by omega) (by omega),Nr N.tow6 (HL bB _) (Hn.mul (HL bA _)) (by omega) (by omega),Ou N (HL bA _) (by omega)⟩
 have hd:(EE B A n).d=B.getD 0 0:=rfl;have nx:=gT B A n;have j6:=gV B A n;have jk:eS (EE B A n)=[.sl false ((EE B A n).a.map λ r=>[AV.sl false (r.map eQ)]),.sl false ((G2 n 0).map eQ),.sl false ((EE B A n).c.map eQ)]++eQ (B.getD 0 0):=rfl;have gd:=TP (EE B A n) 0;rw[jk]at gd ⊢;have Yd : ∀ i,1<=i->i<n->(EE B A n).a[i]? = some (G2 n ((i-1:Nat):Int)):=λ i h1 h2=>xY h1 h2
 have Yl : ∀ i,i<n->(EE B A n).c[i]? = some (B.getD (i+1) 0-B.getD 0 0*A.getD (i+1) 0):=λ i h=>gU h
 have Eg:0<n->(EE B A n).a.take 1=[(List.range n).map λ k => -(A.getD (k+1) 0)]:=λ h=>by
  obtain ⟨m,rfl⟩ : ∃ m,n=m+1:=⟨n-1,by omega⟩;exact xX B A m
 have yh:0<n->(EE B A n).c.take 1=[B.getD (0+1) 0-B.getD 0 0*A.getD (0+1) 0]:=λ h=>by
  obtain ⟨m,rfl⟩ : ∃ m,n=m+1:=⟨n-1,by omega⟩;exact xZ B A m
 have oz : ∀ j,j<n->((List.range n).map λ k => -(A.getD (k+1) 0))[j]? = some (-(A.getD (j+1) 0)):=λ j h=>by
  rw[List.getElem?_map,List.getElem?_range h];rfl
 have Fz:((List.range n).map λ k => -(A.getD (k+1) 0)).length=n:=by simp
 have jm : ∀ j,(G2 n j).length=n:=λ j=>YJ n j
 generalize (EE B A n).a=a at *;generalize (EE B A n).c=c at *;generalize (List.range n).map (λ k => -(A.getD (k+1) 0))=r0 at *;generalize B.getD 0 0=b0 at *;rcases Nat.lt_or_ge (B.length-1) (A.length-1) with l7|kg
 focus
  rw[show A.length-1=n by omega]at mq l7;refine Ev.x N.JG rfl rfl ?_;(repeat' ((first|(apply AG<;>intro hc<;>try omega)|apply AE|refine AC (hV) ?_|refine AC (nw) ?_|refine AC (mq) ?_|refine AC (zt) ?_)<;>conv=>whnf))
 rotate_left
 focus
  rw[show B.length-1=n by omega]at nw kg;refine Ev.x N.JG rfl rfl ?_;(repeat' ((first|(apply AG<;>intro hc<;>try omega)|apply AE|refine AC (hV) ?_|refine AC (nw) ?_|refine AC (mq) ?_|refine AC (zt) ?_)<;>conv=>whnf))
 all_goals
  refine D5 (enc:=eQ) n hZ (by simp) ?_;(conv=>whnf)
  by_cases sz:n=0
  ·skip
   first
   | exact absurd l7 (by omega)
   |(subst sz
     (repeat' ((first|(apply AG<;>intro hc<;>try omega)|fail)<;>conv=>whnf))
     refine FK ?_;(repeat' ((first|(apply AG<;>intro hc<;>try omega)|(refine D4 (λ_=>rfl) rfl ?_ ?_;(first|rfl|simp))|apply AE)<;>conv=>whnf))
     rw[List.eq_nil_of_length_eq_zero nx,List.eq_nil_of_length_eq_zero j6]at *;exact AU rfl gd)
  ·(repeat' ((first|(apply AG<;>intro hc<;>try omega)|(apply A3;omega)|refine AC (hO) ?_)<;>conv=>whnf))
   refine TG (enc:=eQ) 0 1 rfl rfl (λ_=>rfl) (by simp;omega) ?_;(conv=>whnf)
   rw[show (List.replicate n (0:Rat)).set 0 1=G2 n 0 from dS n 0];skip
   refine FK ?_;(repeat' ((first|(apply AG<;>intro hc<;>try omega)|apply AE)<;>conv=>whnf))
   refine D5 (enc:=eQ) n hZ (by simp) ?_;(conv=>whnf)
   (repeat' ((first|(apply AG<;>intro hc<;>try omega)|fail)<;>conv=>whnf))
   refine ES (λ j=>n-j) (λ(j:Nat)=>j<=n) (λ j=>[(50,.int .i64 j)]) (λ j=>[(41,41,.rw 3 ((cz r0 n j).map eQ))]) [] [] 0 (by first|exact (by (conv=>whnf);exact ⟨rfl,rfl,rfl⟩)|(rw[yN];exact (by (conv=>whnf);exact ⟨rfl,rfl,rfl⟩))) (by omega) ?_;intro j p1 ih;have gu:=yL (row:=r0) p1;by_cases hj:j<n
   ·have j7:=yM (oz j hj) hj
    obtain ⟨f1,f2,f3,f4,f5⟩:=Ag j;(repeat' ((first|(apply AG<;>intro hc<;>try omega)|(apply A3;omega)|(apply AZ;omega)|apply AE|refine AC (f2) ?_|refine AC (f5) ?_)<;>conv=>whnf))
    refine F3 (enc:=eQ) (-(A.getD (j+1) 0)) rfl (λ_=>rfl) (by omega) ?_;(conv=>whnf)
    (repeat' ((first|(apply AZ;omega)|fail)<;>conv=>whnf))
    rw[j7];exact B0 [] (ih (j+1) (by omega) (by omega))
   obtain rfl:j=n:=by omega
   clear ih;rw[yK Fz];obtain ⟨f1,f2,f3,f4,f5⟩:=Ag 0;(repeat' ((first|(apply AG<;>intro hc<;>try omega)|apply AE)<;>conv=>whnf))
   refine A3 ⟨by rw[List.length_map];omega,by omega⟩ ?_;(conv=>whnf)
   (repeat' ((first|(apply AZ;omega)|apply EN|refine AC (zt) ?_|refine AC (f1) ?_|refine AC (f2) ?_|refine AC (f3) ?_|refine AC (f4) ?_)<;>conv=>whnf))
   refine eA (enc:=eQ) (B.getD (0+1) 0-b0*A.getD (0+1) 0) rfl rfl (by omega) ?_;(conv=>whnf)
   (repeat' ((first|(apply AZ;omega)|fail)<;>conv=>whnf))
   refine ES (λ i=>j-i) (λ(i:Nat)=>1<=i/\i<=j) (λ i=>[(37,.int .i64 i)]) (λ i=>[(5,5,.bx ([.row 67 0 1 0 i,.row 28 0 3 0 j,.row 88 0 3 0 i]++eQ b0)),(67,67,.mx (DH 3 eQ (a.take i))),(88,88,.rw 3 ((c.take i).map eQ))]) [] [] 1 (by first|exact (by (conv=>whnf);exact ⟨rfl,rfl,rfl⟩)|(rw[Eg (by omega),yh (by omega)];exact (by (conv=>whnf);exact ⟨rfl,rfl,rfl⟩))) (by omega) ?_;intro i ⟨g1,g2⟩ ih;have Ej:(a.take i).length=i:=by rw[List.length_take];omega
   have Ep:(c.take i).length=i:=by rw[List.length_take];omega
   by_cases hi:i<j
   ·obtain ⟨f1,f2,f3,f4,f5⟩:=Ag i
    have Zy:=qW (Yd i g1 hi);have yx:=qW (Yl i hi);have Ek:(a.take (i+1)).length=i+1:=by rw[List.length_take];omega
    have Er:(c.take (i+1)).length=i+1:=by rw[List.length_take];omega
    have AdL:=jm ((i-1:Nat):Int);(repeat' ((first|(apply AG<;>intro hc<;>try omega)|apply AE)<;>conv=>whnf))
    refine D5 (enc:=eQ) j hZ (by simp) ?_;(conv=>whnf)
    (repeat' ((first|(apply AG<;>intro hc<;>try omega)|(apply A3;omega)|(apply BX;omega)|refine AC (hO) ?_)<;>conv=>whnf))
    refine TG (enc:=eQ) (i-1) 1 (by omega) rfl (λ_=>rfl) (by simp;omega) ?_;(conv=>whnf)
    rw[dS];skip
    refine A3 (by rw[List.length_map];omega) ?_;refine S5 (r:=G2 j ((i-1:Nat):Int)) (en:=eQ) Ej.symm (by omega) (by omega) ?_;rw[<-Zy,Ek];(conv=>whnf)
    (repeat' ((first|(apply AZ;omega)|apply EN|refine AC (zt) ?_|refine AC (f1) ?_|refine AC (f2) ?_|refine AC (f3) ?_|refine AC (f4) ?_)<;>conv=>whnf))
    refine GI (enc:=eQ) (B.getD (i+1) 0-b0*A.getD (i+1) 0) rfl Ep.symm rfl (by omega) (by omega) ?_;rw[<-yx,Er];(conv=>whnf)
    (repeat' ((first|(apply AZ;omega)|fail)<;>conv=>whnf))
    exact B0 [(67,1000067),(88,1000088)] (ih (i+1) (by omega) (by omega))
   obtain rfl:i=j:=by omega
   clear ih;rw[zT (Nat.le_of_eq nx),zT (Nat.le_of_eq j6)]at *;(repeat' ((first|(apply AG<;>intro hc<;>try omega)|apply AE)<;>conv=>whnf))
   refine V1 (λ_=>rfl) rfl nx.symm ?_;(conv=>whnf)
   refine D4 (enc:=eQ) (λ_=>rfl) rfl (jm 0).symm ?_;(conv=>whnf)
   refine D4 (enc:=eQ) (λ_=>rfl) rfl j6.symm ?_;(conv=>whnf)
   exact AU rfl gd
theorem yB {B A:List Rat} {n:Nat} : ∀ r∈(EE B A n).a,r.length=n:=by
 intro r hr;simp only[EE,List.mem_map]at hr;obtain ⟨i,_,rfl⟩:=hr;split
 ·simp
 ·exact YJ _ _
theorem qZ {S:B3} {n:Nat} (h:S.Ok n 80) (hn:n<=4):Bs 250000000 (BN S n)/\Bs 510000000 (CN S n):=by
 have pc:Sq n S.a:=⟨h.la,h.lr⟩;have jd:Bs 250000000 (CI S.a n n):=by
  intro x hx;simp only[CI,List.mem_cons,List.mem_map,List.mem_range]at hx;rcases hx with rfl|⟨j,hj,rfl⟩
  ·exact Bt.one _
  ·have zu:=lG j (by omega)
   exact (Ms.fl pc h.ba hn j (by omega)).2.2.le (by omega)
 have pz:Bs 250000000 (EO S n n):=by
  intro x hx;simp only[EO,List.mem_cons,List.mem_map,List.mem_range]at hx;rcases hx with rfl|⟨j,hj,rfl⟩
  ·exact Bt.zero _
  ·have zu:=lG j (by omega)
   have mz:Bs (4*(KC j+81)) (CS (A5 S.a n j) S.b):=by
    intro x hx;obtain ⟨r,hr,rfl⟩:=List.mem_map.1 hx;refine (((Ms.fl pc h.ba hn j (by omega)).1 r hr).dot h.bb).le ?_;rw[(Sq.fl h.la j).r r hr];exact Nat.mul_le_mul hn (by omega)
   refine (h.bc.dot mz).le ?_;rw[h.lc];have:=zR (80+4*(KC j+81)+1) hn
   generalize hX:80+4*(KC j+81)+1=X at this ⊢;omega
 have As:Bs 250000080 ((CI S.a n n).map (· * S.d)):=by
  intro y hy;obtain ⟨x,hx,rfl⟩:=List.mem_map.1 hy;exact ((jd x hx).mul h.bd).le (by omega)
 refine ⟨jd.trim,Bs.trim ?_⟩;intro z hz;obtain ⟨i,hi⟩:=List.getElem?_of_mem hz;have h1:=(zS hi).1;rw[OK]at h1;rw[O9 h1]at hi;obtain rfl:=Option.some.inj hi;exact ((HL pz i).add (HL As.trim i)).le (by omega)
theorem JK (S:B3) (n:Nat):(BN S n).length<=n+1/\(CN S n).length<=n+1:=by
 have h1:=NG (CI S.a n n);have h2:=HW (CI S.a n n) (CI S.a n n).length;have h3:=P9 S.a n n;have h4:=NG (EX (EO S n n) (BQ ((CI S.a n n).map (· * S.d))));have h5:=HW (EX (EO S n n) (BQ ((CI S.a n n).map (· * S.d)))) (EX (EO S n n) (BQ ((CI S.a n n).map (· * S.d)))).length;have h6:=OK (EO S n n) (BQ ((CI S.a n n).map (· * S.d)));have h7:=RT S n n;unfold BN CN;omega
theorem ZZ (N:bz L) (S:B3) (n k:Nat) (q:Bool) (h:S.Ok n k) (hn:n<=64) (hk:k<2199023255552) :
  Ev L 167 [.agg ([.sl false (S.a.map λ r=>[AV.sl false (r.map eQ)]),.sl false (S.b.map eQ),.sl false (S.c.map eQ)]++eQ S.d),.agg ([.sl q (S.a.map λ r=>[AV.sl q (r.map eQ)]),.sl q (S.b.map eQ),.sl q (S.c.map eQ)]++eQ S.d)] (.bool true):=by
 have hD:=jO N.tob8 h.bd h.bd hk hk;rw[cY.2 rfl]at hD;have hB:=ZY N.tob8 S.b S.b false q k h.bb h.bb hk (by have:=h.lb;omega);have hC:=ZY N.tob8 S.c S.c false q k h.bc h.bc hk (by have:=h.lc;omega);rw[decide_eq_true rfl]at hB hC;have yl:=h.la;refine Ev.x N.MV rfl rfl ?_;(repeat' ((first|(apply AG<;>intro hc<;>try omega)|apply AR|apply AE|refine AC (hB) ?_|refine AC (hC) ?_|refine AC (hD) ?_)<;>conv=>whnf))
 refine ED (λ i=>S.a.length-i) (λ(i:Nat)=>i<=S.a.length) (λ i=>[(5,.int .i64 i)]) (λ_=>[]) 0 (by omega) ?_;intro i p1 ih;by_cases hi:i<S.a.length
 ·obtain ⟨r,hr⟩ : ∃ r,S.a[i]? = some r:=⟨_,zE hi⟩
  have yu:S.a[(i:Int).toNat]? = some r:=hr;have Ct:=h.ba r (zM hr);have cg:=h.lr r (zM hr);have hR:=ZY N.tob8 r r false q k Ct Ct hk (by omega);rw[decide_eq_true rfl]at hR;(repeat' ((first|(apply AG<;>intro hc<;>try omega)|(apply AZ;omega)|apply AR|(refine BL (by assumption) ?_ rfl ?_;omega)|apply AE|refine AC (hR) ?_)<;>conv=>whnf))
  exact B0 [] (ih (i+1) (by omega) (by omega))
 ·obtain rfl:i=S.a.length:=by omega
  clear ih;(repeat' ((first|(apply AG<;>intro hc<;>try omega)|apply AR|apply AE)<;>conv=>whnf))
  exact HQ rfl
theorem Bt.ng {k:Nat} {x:Rat} (h:Bt k x):Bt k (-x):=⟨by simpa using h.1,by simpa using h.2⟩
theorem yA {B A:List Rat} {n:Nat} (hB:Bs 4 B) (hA:Bs 4 A):(EE B A n).Ok n 80:=by
 have hs : ∀ i,Bt 80 (B.getD i 0-B.getD 0 0*A.getD i 0):=λ i=>by
  rw[Rat.sub_eq_add_neg];exact ((HL hB i).add ((HL hB 0).mul (HL hA i)).ng).le (by omega)
 have hu : ∀ j,Bs 80 (G2 n j):=λ j x hx=>by
  simp only[G2,List.mem_map]at hx;obtain ⟨i,_,rfl⟩:=hx;split
  ·exact Bt.one _
  ·exact Bt.zero _
 refine ⟨gT B A n,yB,YJ _ _,gV B A n,?_,hu 0,?_,(HL hB 0).le (by omega)⟩
 ·intro r hr
  simp only[EE,List.mem_map]at hr;obtain ⟨i,_,rfl⟩:=hr;split
  ·intro x hx
   obtain ⟨j,_,rfl⟩:=List.mem_map.1 hx;exact (HL hA _).ng.le (by omega)
  ·exact hu _
 ·intro x hx
  simp only[EE,List.mem_map]at hx;obtain ⟨i,_,rfl⟩:=hx;exact hs _
theorem Om:Bt 4 (Rat.divInt 1 2):=(Bt.mk (k:=4) (z:=1) (d:=2) (by decide) (by decide))
theorem Kq (N:fj L):Ev L 215 [] (.bool true):=by
 have A:k6 L:=N.tok6;have hO:=kI A.tob8 1 (by omega);have hF:=kH A.tob8 1 2 (by omega) (by omega);have hh:=Om;have m8 : -(Rat.divInt 1 2)≠0:=by decide
 generalize Rat.divInt 1 2=h at *;have hN:=Ot A.toq9 hh (by omega);have hA:Bs 4 [1,-h]:=λ x hx=>by
  rcases List.mem_cons.1 hx with rfl|hx
  ·exact Bt.one 4
  ·obtain rfl:=List.mem_singleton.1 hx
   exact hh.ng
 have hB:Bs 4 [(1:Rat)]:=λ x hx=>by
  obtain rfl:=List.mem_singleton.1 hx;exact Bt.one 4
 have tB:BQ [(1:Rat)]=[1]:=by decide
 have tA:BQ [1,-h]=[1,-h]:=by
  show List.take (if -h=0 then _ else 2) [1,-h]=_;rw[if_neg m8];rfl
 have hC:=Li A true true [1] [1,-h] 1 4 tB tA hB hA (by simp) (by simp) rfl rfl (by omega);have j8:(EE [1] [1,-h] 1).Ok 1 80:=yA hB hA;have e:EE [1] [1,-h] 1=⟨[[h]],[1],[h],1⟩:=by
  have:EE [1] [1,-h] 1=⟨[[- -h]],[1],[0-1 * -h],1⟩:=rfl
  rw[this,Rat.neg_neg,show 0-1 * -h=h by grind]
 rw[e]at hC j8;have hS:=ZZ N.tobz ⟨[[h]],[1],[h],1⟩ 1 80 true j8 (by omega) (by omega);refine Ev.x N.KM rfl rfl ?_;(repeat' ((first|(apply AG<;>intro hc<;>try omega)|refine IH rfl ?_|refine TF rfl rfl ?_|apply AE|refine AC (hO) ?_|refine AC (hF) ?_|refine AC (hN) ?_|refine AC (hC) ?_)<;>conv=>whnf))
 refine A3 rfl ?_;(conv=>whnf)
 (repeat' ((first|refine IH rfl ?_|refine AC (hS) ?_)<;>conv=>whnf))
 exact HQ rfl
end Go.e9

namespace Go.e9
set_option maxHeartbeats 8000000
theorem rC {S:B3} {n:Nat} (h:S.Ok n 80) (hn:n<=2):Bs 100000 (BN S n)/\Bs 100000 (CN S n):=by
 have pc:Sq n S.a:=⟨h.la,h.lr⟩;have eg : ∀ j,j<n->KC j<=1700:=λ j hj=>by
  obtain rfl|rfl:j=0\/j=1:=by omega
  ·exact Nat.zero_le _
  ·exact Nat.le_refl _
 have jd:Bs 30000 (CI S.a n n):=by
  intro x hx;simp only[CI,List.mem_cons,List.mem_map,List.mem_range]at hx;rcases hx with rfl|⟨j,hj,rfl⟩
  ·exact Bt.one _
  ·have zu:=eg j hj
   exact (Ms.fl pc h.ba (by omega) j (by omega)).2.2.le (by omega)
 have pz:Bs 30000 (EO S n n):=by
  intro x hx;simp only[EO,List.mem_cons,List.mem_map,List.mem_range]at hx;rcases hx with rfl|⟨j,hj,rfl⟩
  ·exact Bt.zero _
  ·have zu:=eg j hj
   have mz:Bs (4*(KC j+81)) (CS (A5 S.a n j) S.b):=by
    intro x hx;obtain ⟨r,hr,rfl⟩:=List.mem_map.1 hx;refine (((Ms.fl pc h.ba (by omega) j (by omega)).1 r hr).dot h.bb).le ?_;rw[(Sq.fl h.la j).r r hr];exact Nat.mul_le_mul (by omega) (by omega)
   refine (h.bc.dot mz).le ?_;rw[h.lc];have:=zR (80+4*(KC j+81)+1) hn
   generalize hX:80+4*(KC j+81)+1=X at this ⊢;omega
 have As:Bs 30080 ((CI S.a n n).map (· * S.d)):=by
  intro y hy;obtain ⟨x,hx,rfl⟩:=List.mem_map.1 hy;exact ((jd x hx).mul h.bd).le (by omega)
 refine ⟨(jd.le (by omega)).trim,Bs.trim ?_⟩;intro z hz;obtain ⟨i,hi⟩:=List.getElem?_of_mem hz;have h1:=(zS hi).1;rw[OK]at h1;rw[O9 h1]at hi;obtain rfl:=Option.some.inj hi;exact ((HL pz i).add (HL As.trim i)).le (by omega)
theorem SX (S:B3) (n:Nat):BQ (BN S n)=BN S n:=dR _
theorem SY (S:B3) (n:Nat):BQ (CN S n)=CN S n:=dR _
theorem YG (S:B3) (n:Nat):(BN S n).getD 0 0=1:=by
 rw[BN,NF];rfl
theorem YH (S:B3) (n:Nat):(BN S n)[0]? = some 1:=by
 have h:=YG S n;rw[List.getD_eq_getElem?_getD]at h;cases h1:(BN S n)[0]? with
 | none=>rw[h1]at h;exact absurd h (by decide)
 | some x=>rw[h1]at h;rw[show x=1 from h]
theorem xV {A:List Rat} {h:Nat->Rat} {K:Nat} (hl:A.length<=3):conv (λ a=>A.getD a 0) h K (min A.length (K+1))=conv (λ a=>A.getD a 0) h K (min 3 (K+1)):=by
 by_cases h1:A.length<=K+1
 ·rw[Nat.min_eq_left h1]
  have:=QE (A:=λ a=>A.getD a 0) (h:=h) (K:=K) (m:=A.length) (λ a ha=>E3 ha) (min 3 (K+1)-A.length)
  rw[show A.length+(min 3 (K+1)-A.length)=min 3 (K+1) by omega]at this;exact this.symm
 ·rw[Nat.min_eq_right (by omega),Nat.min_eq_right (by omega)]
theorem YI {S:B3} {n k:Nat} (h:S.Ok n k) (hn:n<=2) :
  (CN S n).getD 0 0=hQ S 0/\(CN S n).getD 1 0=hQ S 1+(BN S n).getD 1 0*hQ S 0/\(CN S n).getD 2 0=hQ S 2+(BN S n).getD 1 0*hQ S 1+(BN S n).getD 2 0*hQ S 0/\0=hQ S 3+(BN S n).getD 1 0*hQ S 2+(BN S n).getD 2 0*hQ S 1/\0=hQ S 4+(BN S n).getD 1 0*hQ S 3+(BN S n).getD 2 0*hQ S 2:=by
 obtain ⟨lA,lB⟩:=JK S n;have h0:=YG S n;have key : ∀ K,conv (λ a=>(BN S n).getD a 0) (hQ S) K (min 3 (K+1))=(CN S n).getD K 0:=λ K=>by
  rw[<-xV (by omega)];exact rD h (by omega) K
 have e3:(CN S n).getD 3 0=0:=E3 (by omega);have e4:(CN S n).getD 4 0=0:=E3 (by omega);have k0:conv (λ a=>(BN S n).getD a 0) (hQ S) 0 1=(CN S n).getD 0 0:=key 0
 have k1:conv (λ a=>(BN S n).getD a 0) (hQ S) 1 2=(CN S n).getD 1 0:=key 1
 have k2:conv (λ a=>(BN S n).getD a 0) (hQ S) 2 3=(CN S n).getD 2 0:=key 2
 have k3:conv (λ a=>(BN S n).getD a 0) (hQ S) 3 3=(CN S n).getD 3 0:=key 3
 have k4:conv (λ a=>(BN S n).getD a 0) (hQ S) 4 3=(CN S n).getD 4 0:=key 4
 rw[e3]at k3;rw[e4]at k4;simp only[conv,h0,Nat.sub_self,Nat.sub_zero,show 2-1=1 by omega,show 3-1=2 by omega,show 3-2=1 by omega,show 4-1=3 by omega,show 4-2=2 by omega]at k0 k1 k2 k3 k4;clear key e3 e4 lA lB h0;generalize hQ S=f at *;generalize (BN S n).getD 1 0=a1 at *;generalize (BN S n).getD 2 0=a2 at *;refine ⟨by grind,by grind,by grind,by grind,by grind⟩
theorem R0 (a:Rat):BH [[a]] 1 0 = -a:=by
 have h0:A5 [[a]] 1 0=F5 1:=rfl;rw[mD]at h0;have k0:=E9 1 (by omega) (B6 (BG [[a]] (A5 [[a]] 1 0) 1) 1);rw[show B6 (BG [[a]] (A5 [[a]] 1 0) 1) 1*Rat.divInt (-1) ((1:Nat):Int)=BH [[a]] 1 0 from rfl,h0,rJ]at k0;simp only[Rat.mul_zero,Rat.zero_mul,Rat.add_zero,Rat.zero_add,Rat.mul_one,Rat.one_mul]at k0;generalize BH [[a]] 1 0=c0 at *;have e0:c0 = -a:=by clear h0;grind
 clear k0;exact e0
theorem R4 (a b c d:Rat):BH [[a,b],[c,d]] 2 0 = -(a+d)/\BH [[a,b],[c,d]] 2 1=a*d-b*c:=by
 have h0:A5 [[a,b],[c,d]] 2 0=F5 2:=rfl;rw[aS]at h0;have h1:A5 [[a,b],[c,d]] 2 1=o8 (BG [[a,b],[c,d]] (A5 [[a,b],[c,d]] 2 0) 2) (BH [[a,b],[c,d]] 2 0) 2:=rfl;have k0:=E9 1 (by omega) (B6 (BG [[a,b],[c,d]] (A5 [[a,b],[c,d]] 2 0) 2) 2);rw[show B6 (BG [[a,b],[c,d]] (A5 [[a,b],[c,d]] 2 0) 2) 2*Rat.divInt (-1) ((1:Nat):Int)=BH [[a,b],[c,d]] 2 0 from rfl,h0,S0]at k0;simp only[Rat.mul_zero,Rat.zero_mul,Rat.add_zero,Rat.zero_add,Rat.mul_one,Rat.one_mul]at k0;generalize BH [[a,b],[c,d]] 2 0=c0 at *;have e0:c0 = -(a+d):=by clear h0 h1;grind
 clear k0;rw[h0,YE]at h1;simp only[Rat.mul_zero,Rat.zero_mul,Rat.add_zero,Rat.zero_add,Rat.mul_one,Rat.one_mul]at h1;have k1:=E9 2 (by omega) (B6 (BG [[a,b],[c,d]] (A5 [[a,b],[c,d]] 2 1) 2) 2);rw[show B6 (BG [[a,b],[c,d]] (A5 [[a,b],[c,d]] 2 1) 2) 2*Rat.divInt (-1) ((2:Nat):Int)=BH [[a,b],[c,d]] 2 1 from rfl,h1,S0]at k1;simp only[Rat.mul_zero,Rat.zero_mul,Rat.add_zero,Rat.zero_add,Rat.mul_one,Rat.one_mul]at k1;generalize BH [[a,b],[c,d]] 2 1=c1 at *;have e1:c1=a*d-b*c:=by clear h0 h1;grind
 clear k1;exact ⟨e0,e1⟩
theorem xM (a b7 e:Rat):BH [[a,0],[b7,e]] 2 0 = -e + -a/\BH [[a,0],[b7,e]] 2 1 = -a * -e:=by
 have h0:A5 [[a,0],[b7,e]] 2 0=F5 2:=rfl;rw[aS]at h0;have h1:A5 [[a,0],[b7,e]] 2 1=o8 (BG [[a,0],[b7,e]] (A5 [[a,0],[b7,e]] 2 0) 2) (BH [[a,0],[b7,e]] 2 0) 2:=rfl;have k0:=E9 1 (by omega) (B6 (BG [[a,0],[b7,e]] (A5 [[a,0],[b7,e]] 2 0) 2) 2);rw[show B6 (BG [[a,0],[b7,e]] (A5 [[a,0],[b7,e]] 2 0) 2) 2*Rat.divInt (-1) ((1:Nat):Int)=BH [[a,0],[b7,e]] 2 0 from rfl,h0,S0]at k0;simp only[Rat.mul_zero,Rat.zero_mul,Rat.add_zero,Rat.zero_add,Rat.mul_one,Rat.one_mul]at k0;generalize BH [[a,0],[b7,e]] 2 0=c0 at *;have e0:c0 = -e + -a:=by clear h0 h1;grind
 clear k0;rw[h0,YE]at h1;simp only[Rat.mul_zero,Rat.zero_mul,Rat.add_zero,Rat.zero_add,Rat.mul_one,Rat.one_mul]at h1;have k1:=E9 2 (by omega) (B6 (BG [[a,0],[b7,e]] (A5 [[a,0],[b7,e]] 2 1) 2) 2);rw[show B6 (BG [[a,0],[b7,e]] (A5 [[a,0],[b7,e]] 2 1) 2) 2*Rat.divInt (-1) ((2:Nat):Int)=BH [[a,0],[b7,e]] 2 1 from rfl,h1,S0]at k1;simp only[Rat.mul_zero,Rat.zero_mul,Rat.add_zero,Rat.zero_add,Rat.mul_one,Rat.one_mul]at k1;generalize BH [[a,0],[b7,e]] 2 1=c1 at *;have e1:c1 = -a * -e:=by clear h0 h1;grind
 clear k1;exact ⟨e0,e1⟩
theorem xN (a b7 e f e5 g h:Rat):BH [[a,0,0],[b7,e,f],[e5,g,h]] 3 0 = -(e+h) + -a/\BH [[a,0,0],[b7,e,f],[e5,g,h]] 3 1=(e*h-f*g) + -a * -(e+h)/\BH [[a,0,0],[b7,e,f],[e5,g,h]] 3 2 = -a*(e*h-f*g):=by
 have h0:A5 [[a,0,0],[b7,e,f],[e5,g,h]] 3 0=F5 3:=rfl;rw[aT]at h0;have h1:A5 [[a,0,0],[b7,e,f],[e5,g,h]] 3 1=o8 (BG [[a,0,0],[b7,e,f],[e5,g,h]] (A5 [[a,0,0],[b7,e,f],[e5,g,h]] 3 0) 3) (BH [[a,0,0],[b7,e,f],[e5,g,h]] 3 0) 3:=rfl;have k0:=E9 1 (by omega) (B6 (BG [[a,0,0],[b7,e,f],[e5,g,h]] (A5 [[a,0,0],[b7,e,f],[e5,g,h]] 3 0) 3) 3);rw[show B6 (BG [[a,0,0],[b7,e,f],[e5,g,h]] (A5 [[a,0,0],[b7,e,f],[e5,g,h]] 3 0) 3) 3*Rat.divInt (-1) ((1:Nat):Int)=BH [[a,0,0],[b7,e,f],[e5,g,h]] 3 0 from rfl,h0,O2]at k0;simp only[Rat.mul_zero,Rat.zero_mul,Rat.add_zero,Rat.zero_add,Rat.mul_one,Rat.one_mul]at k0;generalize BH [[a,0,0],[b7,e,f],[e5,g,h]] 3 0=c0 at *;have e0:c0 = -(e+h) + -a:=by clear h0 h1;grind
 clear k0;rw[h0,RB]at h1;simp only[Rat.mul_zero,Rat.zero_mul,Rat.add_zero,Rat.zero_add,Rat.mul_one,Rat.one_mul]at h1;have h2:A5 [[a,0,0],[b7,e,f],[e5,g,h]] 3 2=o8 (BG [[a,0,0],[b7,e,f],[e5,g,h]] (A5 [[a,0,0],[b7,e,f],[e5,g,h]] 3 1) 3) (BH [[a,0,0],[b7,e,f],[e5,g,h]] 3 1) 3:=rfl;have k1:=E9 2 (by omega) (B6 (BG [[a,0,0],[b7,e,f],[e5,g,h]] (A5 [[a,0,0],[b7,e,f],[e5,g,h]] 3 1) 3) 3);rw[show B6 (BG [[a,0,0],[b7,e,f],[e5,g,h]] (A5 [[a,0,0],[b7,e,f],[e5,g,h]] 3 1) 3) 3*Rat.divInt (-1) ((2:Nat):Int)=BH [[a,0,0],[b7,e,f],[e5,g,h]] 3 1 from rfl,h1,O2]at k1;simp only[Rat.mul_zero,Rat.zero_mul,Rat.add_zero,Rat.zero_add,Rat.mul_one,Rat.one_mul]at k1;generalize BH [[a,0,0],[b7,e,f],[e5,g,h]] 3 1=c1 at *;have e1:c1=(e*h-f*g) + -a * -(e+h):=by clear h0 h1 h2;grind
 clear k1;rw[h1,RB]at h2;simp only[Rat.mul_zero,Rat.zero_mul,Rat.add_zero,Rat.zero_add,Rat.mul_one,Rat.one_mul]at h2;have k2:=E9 3 (by omega) (B6 (BG [[a,0,0],[b7,e,f],[e5,g,h]] (A5 [[a,0,0],[b7,e,f],[e5,g,h]] 3 2) 3) 3);rw[show B6 (BG [[a,0,0],[b7,e,f],[e5,g,h]] (A5 [[a,0,0],[b7,e,f],[e5,g,h]] 3 2) 3) 3*Rat.divInt (-1) ((3:Nat):Int)=BH [[a,0,0],[b7,e,f],[e5,g,h]] 3 2 from rfl,h2,O2]at k2;simp only[Rat.mul_zero,Rat.zero_mul,Rat.add_zero,Rat.zero_add,Rat.mul_one,Rat.one_mul]at k2;generalize BH [[a,0,0],[b7,e,f],[e5,g,h]] 3 2=c2 at *;have e2:c2 = -a*(e*h-f*g):=by clear h0 h1 h2;grind
 clear k2;exact ⟨e0,e1,e2⟩
theorem xO (a b c d b7 c9 e:Rat):BH [[a,b,0],[c,d,0],[b7,c9,e]] 3 0 = -e + -(a+d)/\BH [[a,b,0],[c,d,0],[b7,c9,e]] 3 1 = -(a+d) * -e+(a*d-b*c)/\BH [[a,b,0],[c,d,0],[b7,c9,e]] 3 2=(a*d-b*c) * -e:=by
 have h0:A5 [[a,b,0],[c,d,0],[b7,c9,e]] 3 0=F5 3:=rfl;rw[aT]at h0;have h1:A5 [[a,b,0],[c,d,0],[b7,c9,e]] 3 1=o8 (BG [[a,b,0],[c,d,0],[b7,c9,e]] (A5 [[a,b,0],[c,d,0],[b7,c9,e]] 3 0) 3) (BH [[a,b,0],[c,d,0],[b7,c9,e]] 3 0) 3:=rfl;have k0:=E9 1 (by omega) (B6 (BG [[a,b,0],[c,d,0],[b7,c9,e]] (A5 [[a,b,0],[c,d,0],[b7,c9,e]] 3 0) 3) 3);rw[show B6 (BG [[a,b,0],[c,d,0],[b7,c9,e]] (A5 [[a,b,0],[c,d,0],[b7,c9,e]] 3 0) 3) 3*Rat.divInt (-1) ((1:Nat):Int)=BH [[a,b,0],[c,d,0],[b7,c9,e]] 3 0 from rfl,h0,O2]at k0;simp only[Rat.mul_zero,Rat.zero_mul,Rat.add_zero,Rat.zero_add,Rat.mul_one,Rat.one_mul]at k0;generalize BH [[a,b,0],[c,d,0],[b7,c9,e]] 3 0=c0 at *;have e0:c0 = -e + -(a+d):=by clear h0 h1;grind
 clear k0;rw[h0,RB]at h1;simp only[Rat.mul_zero,Rat.zero_mul,Rat.add_zero,Rat.zero_add,Rat.mul_one,Rat.one_mul]at h1;have h2:A5 [[a,b,0],[c,d,0],[b7,c9,e]] 3 2=o8 (BG [[a,b,0],[c,d,0],[b7,c9,e]] (A5 [[a,b,0],[c,d,0],[b7,c9,e]] 3 1) 3) (BH [[a,b,0],[c,d,0],[b7,c9,e]] 3 1) 3:=rfl;have k1:=E9 2 (by omega) (B6 (BG [[a,b,0],[c,d,0],[b7,c9,e]] (A5 [[a,b,0],[c,d,0],[b7,c9,e]] 3 1) 3) 3);rw[show B6 (BG [[a,b,0],[c,d,0],[b7,c9,e]] (A5 [[a,b,0],[c,d,0],[b7,c9,e]] 3 1) 3) 3*Rat.divInt (-1) ((2:Nat):Int)=BH [[a,b,0],[c,d,0],[b7,c9,e]] 3 1 from rfl,h1,O2]at k1;simp only[Rat.mul_zero,Rat.zero_mul,Rat.add_zero,Rat.zero_add,Rat.mul_one,Rat.one_mul]at k1;generalize BH [[a,b,0],[c,d,0],[b7,c9,e]] 3 1=c1 at *;have e1:c1 = -(a+d) * -e+(a*d-b*c):=by clear h0 h1 h2;grind
 clear k1;rw[h1,RB]at h2;simp only[Rat.mul_zero,Rat.zero_mul,Rat.add_zero,Rat.zero_add,Rat.mul_one,Rat.one_mul]at h2;have k2:=E9 3 (by omega) (B6 (BG [[a,b,0],[c,d,0],[b7,c9,e]] (A5 [[a,b,0],[c,d,0],[b7,c9,e]] 3 2) 3) 3);rw[show B6 (BG [[a,b,0],[c,d,0],[b7,c9,e]] (A5 [[a,b,0],[c,d,0],[b7,c9,e]] 3 2) 3) 3*Rat.divInt (-1) ((3:Nat):Int)=BH [[a,b,0],[c,d,0],[b7,c9,e]] 3 2 from rfl,h2,O2]at k2;simp only[Rat.mul_zero,Rat.zero_mul,Rat.add_zero,Rat.zero_add,Rat.mul_one,Rat.one_mul]at k2;generalize BH [[a,b,0],[c,d,0],[b7,c9,e]] 3 2=c2 at *;have e2:c2=(a*d-b*c) * -e:=by clear h0 h1 h2;grind
 clear k2;exact ⟨e0,e1,e2⟩
theorem xP (a b c d b7 c9 e f e5 g7 g h:Rat):BH [[a,b,0,0],[c,d,0,0],[b7,c9,e,f],[e5,g7,g,h]] 4 0 = -(e+h) + -(a+d)/\BH [[a,b,0,0],[c,d,0,0],[b7,c9,e,f],[e5,g7,g,h]] 4 1=(e*h-f*g) + -(a+d) * -(e+h)+(a*d-b*c)/\BH [[a,b,0,0],[c,d,0,0],[b7,c9,e,f],[e5,g7,g,h]] 4 2 = -(a+d)*(e*h-f*g)+(a*d-b*c) * -(e+h)/\BH [[a,b,0,0],[c,d,0,0],[b7,c9,e,f],[e5,g7,g,h]] 4 3=(a*d-b*c)*(e*h-f*g):=by
 have h0:A5 [[a,b,0,0],[c,d,0,0],[b7,c9,e,f],[e5,g7,g,h]] 4 0=F5 4:=rfl;rw[mE]at h0;have h1:A5 [[a,b,0,0],[c,d,0,0],[b7,c9,e,f],[e5,g7,g,h]] 4 1=o8 (BG [[a,b,0,0],[c,d,0,0],[b7,c9,e,f],[e5,g7,g,h]] (A5 [[a,b,0,0],[c,d,0,0],[b7,c9,e,f],[e5,g7,g,h]] 4 0) 4) (BH [[a,b,0,0],[c,d,0,0],[b7,c9,e,f],[e5,g7,g,h]] 4 0) 4:=rfl;have k0:=E9 1 (by omega) (B6 (BG [[a,b,0,0],[c,d,0,0],[b7,c9,e,f],[e5,g7,g,h]] (A5 [[a,b,0,0],[c,d,0,0],[b7,c9,e,f],[e5,g7,g,h]] 4 0) 4) 4);rw[show B6 (BG [[a,b,0,0],[c,d,0,0],[b7,c9,e,f],[e5,g7,g,h]] (A5 [[a,b,0,0],[c,d,0,0],[b7,c9,e,f],[e5,g7,g,h]] 4 0) 4) 4*Rat.divInt (-1) ((1:Nat):Int)=BH [[a,b,0,0],[c,d,0,0],[b7,c9,e,f],[e5,g7,g,h]] 4 0 from rfl,h0,PV]at k0;simp only[Rat.mul_zero,Rat.zero_mul,Rat.add_zero,Rat.zero_add,Rat.mul_one,Rat.one_mul]at k0;generalize BH [[a,b,0,0],[c,d,0,0],[b7,c9,e,f],[e5,g7,g,h]] 4 0=c0 at *;have e0:c0 = -(e+h) + -(a+d):=by clear h0 h1;grind
 clear k0;rw[h0,RC]at h1;simp only[Rat.mul_zero,Rat.zero_mul,Rat.add_zero,Rat.zero_add,Rat.mul_one,Rat.one_mul]at h1;have h2:A5 [[a,b,0,0],[c,d,0,0],[b7,c9,e,f],[e5,g7,g,h]] 4 2=o8 (BG [[a,b,0,0],[c,d,0,0],[b7,c9,e,f],[e5,g7,g,h]] (A5 [[a,b,0,0],[c,d,0,0],[b7,c9,e,f],[e5,g7,g,h]] 4 1) 4) (BH [[a,b,0,0],[c,d,0,0],[b7,c9,e,f],[e5,g7,g,h]] 4 1) 4:=rfl;have k1:=E9 2 (by omega) (B6 (BG [[a,b,0,0],[c,d,0,0],[b7,c9,e,f],[e5,g7,g,h]] (A5 [[a,b,0,0],[c,d,0,0],[b7,c9,e,f],[e5,g7,g,h]] 4 1) 4) 4);rw[show B6 (BG [[a,b,0,0],[c,d,0,0],[b7,c9,e,f],[e5,g7,g,h]] (A5 [[a,b,0,0],[c,d,0,0],[b7,c9,e,f],[e5,g7,g,h]] 4 1) 4) 4*Rat.divInt (-1) ((2:Nat):Int)=BH [[a,b,0,0],[c,d,0,0],[b7,c9,e,f],[e5,g7,g,h]] 4 1 from rfl,h1,PV]at k1;simp only[Rat.mul_zero,Rat.zero_mul,Rat.add_zero,Rat.zero_add,Rat.mul_one,Rat.one_mul]at k1;generalize BH [[a,b,0,0],[c,d,0,0],[b7,c9,e,f],[e5,g7,g,h]] 4 1=c1 at *;have e1:c1=(e*h-f*g) + -(a+d) * -(e+h)+(a*d-b*c):=by clear h0 h1 h2;grind
 clear k1;rw[h1,RC]at h2;simp only[Rat.mul_zero,Rat.zero_mul,Rat.add_zero,Rat.zero_add,Rat.mul_one,Rat.one_mul]at h2;have h3:A5 [[a,b,0,0],[c,d,0,0],[b7,c9,e,f],[e5,g7,g,h]] 4 3=o8 (BG [[a,b,0,0],[c,d,0,0],[b7,c9,e,f],[e5,g7,g,h]] (A5 [[a,b,0,0],[c,d,0,0],[b7,c9,e,f],[e5,g7,g,h]] 4 2) 4) (BH [[a,b,0,0],[c,d,0,0],[b7,c9,e,f],[e5,g7,g,h]] 4 2) 4:=rfl;have k2:=E9 3 (by omega) (B6 (BG [[a,b,0,0],[c,d,0,0],[b7,c9,e,f],[e5,g7,g,h]] (A5 [[a,b,0,0],[c,d,0,0],[b7,c9,e,f],[e5,g7,g,h]] 4 2) 4) 4);rw[show B6 (BG [[a,b,0,0],[c,d,0,0],[b7,c9,e,f],[e5,g7,g,h]] (A5 [[a,b,0,0],[c,d,0,0],[b7,c9,e,f],[e5,g7,g,h]] 4 2) 4) 4*Rat.divInt (-1) ((3:Nat):Int)=BH [[a,b,0,0],[c,d,0,0],[b7,c9,e,f],[e5,g7,g,h]] 4 2 from rfl,h2,PV]at k2;simp only[Rat.mul_zero,Rat.zero_mul,Rat.add_zero,Rat.zero_add,Rat.mul_one,Rat.one_mul]at k2;generalize BH [[a,b,0,0],[c,d,0,0],[b7,c9,e,f],[e5,g7,g,h]] 4 2=c2 at *;have e2:c2 = -(a+d)*(e*h-f*g)+(a*d-b*c) * -(e+h):=by clear h0 h1 h2 h3;grind
 clear k2;rw[h2,RC]at h3;simp only[Rat.mul_zero,Rat.zero_mul,Rat.add_zero,Rat.zero_add,Rat.mul_one,Rat.one_mul]at h3;have k3:=E9 4 (by omega) (B6 (BG [[a,b,0,0],[c,d,0,0],[b7,c9,e,f],[e5,g7,g,h]] (A5 [[a,b,0,0],[c,d,0,0],[b7,c9,e,f],[e5,g7,g,h]] 4 3) 4) 4);rw[show B6 (BG [[a,b,0,0],[c,d,0,0],[b7,c9,e,f],[e5,g7,g,h]] (A5 [[a,b,0,0],[c,d,0,0],[b7,c9,e,f],[e5,g7,g,h]] 4 3) 4) 4*Rat.divInt (-1) ((4:Nat):Int)=BH [[a,b,0,0],[c,d,0,0],[b7,c9,e,f],[e5,g7,g,h]] 4 3 from rfl,h3,PV]at k3;simp only[Rat.mul_zero,Rat.zero_mul,Rat.add_zero,Rat.zero_add,Rat.mul_one,Rat.one_mul]at k3;generalize BH [[a,b,0,0],[c,d,0,0],[b7,c9,e,f],[e5,g7,g,h]] 4 3=c3 at *;have e3:c3=(a*d-b*c)*(e*h-f*g):=by clear h0 h1 h2 h3;grind
 clear k3;exact ⟨e0,e1,e2,e3⟩
theorem R8 : ∀ {a b u v:List Rat},a.length=u.length->BM (a++b) (u++v)=BM a u+BM b v
 | [],b,[],v,_=>by rw[List.nil_append,List.nil_append,WR,Rat.zero_add]
 | x::a,b,y::u,v,h=>by
  show x*y+BM (a++b) (u++v)=x*y+BM a u+BM b v;rw[R8 (by simpa using h),Rat.add_assoc]
theorem iS {a u v:List Rat} (m:Nat) (h:a.length=u.length):BM (a++List.replicate m 0) (u++v)=BM a u:=by
 rw[R8 h,OO,Rat.add_zero]
theorem Mo {a u v:List Rat} {m:Nat} (h:u.length=m):BM (List.replicate m 0++a) (u++v)=BM a v:=by
 rw[R8 (by rw[List.length_replicate,h]),OO,Rat.zero_add]
def IL (S T:B3):List (List Rat):=List.zipWith (λ b r=>S.c.map (b * ·)++r) T.b T.a
def CZ (S T:B3):B3:=⟨(S.a.map λ r=>r++List.replicate T.a.length 0)++IL S T,S.b++T.b.map (· * S.d),S.c.map (· * T.d)++T.c,S.d*T.d⟩
def CU (S T:B3):B3:=⟨(S.a.map λ r=>r++List.replicate T.a.length 0)++(T.a.map λ r=>List.replicate S.a.length 0++r),S.b++T.b,S.c++T.c,S.d+T.d⟩
theorem kW {S T:B3} {i:Nat} {b:Rat} {r:List Rat} (hb:T.b[i]? = some b) (hr:T.a[i]? = some r):(IL S T)[i]? = some (S.c.map (b * ·)++r):=by
 rw[IL,List.getElem?_zipWith,hb,hr]
theorem kX (S T:B3):(IL S T).length=min T.b.length T.a.length:=by rw[IL,List.length_zipWith]
theorem Nw {S T:B3} (u v:List Rat) (h:S.c.length=u.length):CS (IL S T) (u++v)=List.zipWith (λ b r=>b*BM S.c u+BM r v) T.b T.a:=by
 rw[CS,IL,List.map_zipWith];congr 1;funext b r
 rw[R8 (by rw[List.length_map,h]),QG]
theorem oF (a b:List (List Rat)) (v:List Rat):CS (a++b) v=CS a v++CS b v:=List.map_append ..
theorem rU (x:Rat) (v:List Rat) : ∀ (b:List Rat) (a:List (List Rat)),b.length=a.length->List.zipWith (λ b r=>b*x+BM r v) b a=JT (CS a v) (b.map (x * ·))
 | [],[],_=>rfl
 | y::b,r::a,h=>by
  have:=rU x v b a (by simpa using h)
  simp only[JT,CS]at this;simp only[List.zipWith_cons_cons,JT,CS,List.map_cons,this];rw[Rat.add_comm,Rat.mul_comm y x]
theorem VN {S:B3} {n k:Nat} (h:S.Ok n k) : ∀ j,(wQ S j).length=n
 | 0=>h.lb
 | j+1=>by rw[wQ,UO,h.la]
theorem xW (A h:Nat->Rat) (K:Nat):conv A h K 0=0:=rfl
theorem ZF (A h:Nat->Rat) (K m:Nat):conv A h K (m+1)=conv A h K m+A m*h (K-m):=rfl
theorem pU {S T:B3} {n m k:Nat} (hS:S.Ok n k) (hT:T.Ok m k) : ∀ j,∃ v,wQ (CZ S T) j=wQ S j++v/\v.length=m /\ ∀ u:List Rat,u.length=m->BM u v=conv (hQ S) (λ i=>BM u (wQ T i)) j (j+1)
 | 0=>by
  refine ⟨T.b.map (· * S.d),rfl,by rw[List.length_map,hT.lb],λ u hu => ?_⟩;rw[ZF,xW,Rat.zero_add,Nat.sub_self,show T.b.map (· * S.d)=T.b.map (S.d * ·) from List.map_congr_left λ x _=>Rat.mul_comm _ _,J9,QG,J9];rfl
 | j+1=>by
  obtain ⟨v,h1,h2,h3⟩:=pU hS hT j;have hw:=VN hS j;refine ⟨JT (CS T.a v) (T.b.map (BM S.c (wQ S j) * ·)),?_,?_,λ u hu => ?_⟩
  ·rw[wQ,h1]
   show CS ((S.a.map λ r=>r++List.replicate T.a.length 0)++IL S T) (wQ S j++v)=_;rw[oF,Nw _ _ (by rw[hS.lc,hw]),rU _ _ _ _ (by rw[hT.lb,hT.la])];congr 1;rw[CS,List.map_map,wQ,CS];exact List.map_congr_left λ r hr=>iS _ (by rw[hS.lr r hr,hw])
  ·simp only[JT,List.length_zipWith,UO,List.length_map,hT.la,hT.lb,Nat.min_self]
  ·rw[WQ (by rw[UO,List.length_map,hT.la,hT.lb]),<-PD (n:=m) T.a u hT.lr,h3 _ (QW _ _ _),ZF _ _ (j+1) (j+1),Nat.sub_self]
   congr 1
   ·refine J8 (j+1) (λ_ _=>rfl) λ a ha => ?_
    rw[PD (n:=m) T.a u hT.lr,show j+1-a=(j-a)+1 by omega];rfl
   ·rw[J9,QG,J9 T.b u];rfl
theorem Vj {S T:B3} {n m k:Nat} (hS:S.Ok n k) (hT:T.Ok m k) : ∀ K,hQ (CZ S T) K=conv (hQ S) (hQ T) K (K+1)
 | 0=>by
  show S.d*T.d=0+S.d*T.d;rw[Rat.zero_add]
 | j+1=>by
  obtain ⟨v,h1,h2,h3⟩:=pU hS hT j;show BM (S.c.map (· * T.d)++T.c) (wQ (CZ S T) j)=_;rw[h1,R8 (by rw[List.length_map,hS.lc,VN hS]),h3 _ hT.lc,ZF _ _ (j+1) (j+1),Nat.sub_self,show S.c.map (· * T.d)=S.c.map (T.d * ·) from List.map_congr_left λ x _=>Rat.mul_comm _ _,QG,Rat.add_comm];congr 1
  ·refine J8 (j+1) (λ_ _=>rfl) λ a ha => ?_
   rw[show j+1-a=(j-a)+1 by omega];rfl
  ·exact Rat.mul_comm _ _
theorem pB {S T:B3} {n m k:Nat} (hS:S.Ok n k) (hT:T.Ok m k) : ∀ j,wQ (CU S T) j=wQ S j++wQ T j
 | 0=>rfl
 | j+1=>by
  rw[wQ,pB hS hT j];show CS ((S.a.map λ r=>r++List.replicate T.a.length 0)++(T.a.map λ r=>List.replicate S.a.length 0++r)) (wQ S j++wQ T j)=_;rw[oF,CS,CS,List.map_map,List.map_map,wQ,wQ,CS,CS];congr 1
  ·exact List.map_congr_left λ r hr=>iS _ (by rw[hS.lr r hr,VN hS])
  ·exact List.map_congr_left λ r hr=>Mo (by rw[VN hS,hS.la])
theorem Ul {S T:B3} {n m k:Nat} (hS:S.Ok n k) (hT:T.Ok m k) : ∀ K,hQ (CU S T) K=hQ S K+hQ T K
 | 0=>rfl
 | j+1=>by
  show BM (S.c++T.c) (wQ (CU S T) j)=_;rw[pB hS hT,R8 (by rw[hS.lc,VN hS])];rfl
theorem Bs.jy {k:Nat} {a b:List Rat} (ha:Bs k a) (hb:Bs k b):Bs k (a++b):=λ x hx=>(List.mem_append.1 hx).elim (ha x) (hb x)
theorem Bs.Hj (k m:Nat):Bs k (List.replicate m 0):=λ x hx=>by rw[List.eq_of_mem_replicate hx];exact Bt.zero k
theorem cV {S T:B3} {n m k:Nat} (hS:S.Ok n k) (hT:T.Ok m k):(CZ S T).Ok (n+m) (k+k):=by
 have hm:=hT.la;have hz : ∀ r∈IL S T,∃ b∈T.b,∃ q∈T.a,r=S.c.map (b * ·)++q:=λ r hr=>by
  obtain ⟨i,hi⟩:=List.getElem?_of_mem hr;have h1:=(zS hi).1;rw[kX,hT.lb,hT.la,Nat.min_self]at h1;have hb:T.b[i]? = some (T.b[i]'(by rw[hT.lb];exact h1)):=zE _;have ha:T.a[i]? = some (T.a[i]'(by rw[hT.la];exact h1)):=zE _;rw[kW hb ha]at hi;exact ⟨_,zM hb,_,zM ha,(Option.some.inj hi).symm⟩
 refine ⟨?_,λ r hr => ?_,?_,?_,λ r hr => ?_,?_,?_,?_⟩
 ·show ((S.a.map λ r=>r++List.replicate T.a.length 0)++IL S T).length=_
  rw[List.length_append,List.length_map,kX,hS.la,hT.lb,hT.la,Nat.min_self]
 ·rcases List.mem_append.1 hr with h|h
  ·obtain ⟨q,hq,rfl⟩:=List.mem_map.1 h
   rw[List.length_append,List.length_replicate,hS.lr q hq,hT.la]
  ·obtain ⟨b,_,q,hq,rfl⟩:=hz r h
   rw[List.length_append,List.length_map,hS.lc,hT.lr q hq]
 ·show (S.b++T.b.map (· * S.d)).length=_
  rw[List.length_append,List.length_map,hS.lb,hT.lb]
 ·show (S.c.map (· * T.d)++T.c).length=_
  rw[List.length_append,List.length_map,hS.lc,hT.lc]
 ·rcases List.mem_append.1 hr with h|h
  ·obtain ⟨q,hq,rfl⟩:=List.mem_map.1 h
   exact ((hS.ba q hq).le (by omega)).jy (Bs.Hj _ _)
  ·obtain ⟨b,hb,q,hq,rfl⟩:=hz r h
   refine Bs.jy (λ x hx => ?_) ((hT.ba q hq).le (by omega));obtain ⟨y,hy,rfl⟩:=List.mem_map.1 hx;exact (hT.bb b hb).mul (hS.bc y hy)
 ·refine Bs.jy (hS.bb.le (by omega)) λ x hx => ?_
  obtain ⟨y,hy,rfl⟩:=List.mem_map.1 hx;exact (hT.bb y hy).mul hS.bd
 ·refine Bs.jy (λ x hx => ?_) (hT.bc.le (by omega))
  obtain ⟨y,hy,rfl⟩:=List.mem_map.1 hx;exact (hS.bc y hy).mul hT.bd
 ·exact hS.bd.mul hT.bd
theorem cC {S T:B3} {n m k:Nat} (hS:S.Ok n k) (hT:T.Ok m k):(CU S T).Ok (n+m) (k+k+1):=by
 have hm:=hT.la;refine ⟨?_,λ r hr => ?_,?_,?_,λ r hr => ?_,?_,?_,?_⟩
 ·show ((S.a.map λ r=>r++List.replicate T.a.length 0)++(T.a.map λ r=>List.replicate S.a.length 0++r)).length=_
  rw[List.length_append,List.length_map,List.length_map,hS.la,hT.la]
 ·rcases List.mem_append.1 hr with h|h
  ·obtain ⟨q,hq,rfl⟩:=List.mem_map.1 h
   rw[List.length_append,List.length_replicate,hS.lr q hq,hT.la]
  ·obtain ⟨q,hq,rfl⟩:=List.mem_map.1 h
   rw[List.length_append,List.length_replicate,hT.lr q hq,hS.la]
 ·show (S.b++T.b).length=_
  rw[List.length_append,hS.lb,hT.lb]
 ·show (S.c++T.c).length=_
  rw[List.length_append,hS.lc,hT.lc]
 ·rcases List.mem_append.1 hr with h|h
  ·obtain ⟨q,hq,rfl⟩:=List.mem_map.1 h
   exact ((hS.ba q hq).le (by omega)).jy (Bs.Hj _ _)
  ·obtain ⟨q,hq,rfl⟩:=List.mem_map.1 h
   exact (Bs.Hj _ _).jy ((hT.ba q hq).le (by omega))
 ·exact (hS.bb.le (by omega)).jy (hT.bb.le (by omega))
 ·exact (hS.bc.le (by omega)).jy (hT.bc.le (by omega))
 ·exact hS.bd.add hT.bd
def dn (a:List (List Rat)) (n i:Nat):Rat:=if i<n then BH a n i else 0
theorem O1 (S:B3) (n i:Nat):(BN S n).getD (i+1) 0=dn S.a n i:=by
 rw[BN,NF,dn];by_cases h:i<n
 ·rw[if_pos h,TI _ _ _ (by omega)];rfl
 ·rw[if_neg h,E3 (by rw[P9];omega)]
theorem iI {a X b:List (List Rat)} {n m:Nat} (ha:Sq n a) (hb:Sq m b) (hX:X.length=m) (si : ∀ r∈X,r.length=n) (hn:n<=2) (hm:m<=2) (M:List (List Rat)) (hM:M=(a.map λ r=>r++List.replicate m 0)++List.zipWith (· ++ ·) X b) :
  dn M (n+m) 0=dn a n 0+dn b m 0/\dn M (n+m) 1=dn a n 1+dn a n 0*dn b m 0+dn b m 1/\dn M (n+m) 2=dn a n 1*dn b m 0+dn a n 0*dn b m 1/\dn M (n+m) 3=dn a n 1*dn b m 1:=by
 obtain ⟨al,ar⟩:=ha;obtain ⟨bl,br⟩:=hb;obtain rfl|rfl|rfl:n=0\/n=1\/n=2:=by omega
 all_goals obtain rfl|rfl|rfl:m=0\/m=1\/m=2:=by omega
 ·obtain rfl:=List.length_eq_zero_iff.1 al
  obtain rfl:=List.length_eq_zero_iff.1 bl;obtain rfl:=List.length_eq_zero_iff.1 hX;have ka:M=[]:=hM;subst ka;have k0:dn [] 0 0=0:=if_neg (by omega);have k1:dn [] 0 1=0:=if_neg (by omega);have l0:dn [] 0 0=0:=if_neg (by omega);have l1:dn [] 0 1=0:=if_neg (by omega);have g0:dn [] (0+0) 0=0:=if_neg (by omega);have g1:dn [] (0+0) 1=0:=if_neg (by omega);have g2:dn [] (0+0) 2=0:=if_neg (by omega);have g3:dn [] (0+0) 3=0:=if_neg (by omega);refine ⟨?_,?_,?_,?_⟩<;>simp only[k0,k1,l0,l1,g0,g1,g2,g3]<;>grind
 ·obtain rfl:=List.length_eq_zero_iff.1 al
  obtain ⟨q0,rfl⟩:=BW bl;obtain ⟨e,rfl⟩:=BW (br q0 (by simp));obtain ⟨r0,rfl⟩:=BW hX;obtain rfl:=List.length_eq_zero_iff.1 (si r0 (by simp));have ka:M=[[e]]:=hM;subst ka;obtain v0:=R0 e;have k0:dn [] 0 0=0:=if_neg (by omega);have k1:dn [] 0 1=0:=if_neg (by omega);have l0:dn [[e]] 1 0=_:=(if_pos (by omega)).trans v0;have l1:dn [[e]] 1 1=0:=if_neg (by omega);have g0:dn [[e]] (0+1) 0=_:=(if_pos (by omega)).trans v0;have g1:dn [[e]] (0+1) 1=0:=if_neg (by omega);have g2:dn [[e]] (0+1) 2=0:=if_neg (by omega);have g3:dn [[e]] (0+1) 3=0:=if_neg (by omega);refine ⟨?_,?_,?_,?_⟩<;>simp only[k0,k1,l0,l1,g0,g1,g2,g3]<;>grind
 ·obtain rfl:=List.length_eq_zero_iff.1 al
  obtain ⟨q0,q1,rfl⟩:=BO bl;obtain ⟨e,f,rfl⟩:=BO (br q0 (by simp));obtain ⟨g,h,rfl⟩:=BO (br q1 (by simp));obtain ⟨r0,r1,rfl⟩:=BO hX;obtain rfl:=List.length_eq_zero_iff.1 (si r0 (by simp));obtain rfl:=List.length_eq_zero_iff.1 (si r1 (by simp));have ka:M=[[e,f],[g,h]]:=hM;subst ka;obtain ⟨v0,v1⟩:=R4 e f g h;have k0:dn [] 0 0=0:=if_neg (by omega);have k1:dn [] 0 1=0:=if_neg (by omega);have l0:dn [[e,f],[g,h]] 2 0=_:=(if_pos (by omega)).trans v0;have l1:dn [[e,f],[g,h]] 2 1=_:=(if_pos (by omega)).trans v1;have g0:dn [[e,f],[g,h]] (0+2) 0=_:=(if_pos (by omega)).trans v0;have g1:dn [[e,f],[g,h]] (0+2) 1=_:=(if_pos (by omega)).trans v1;have g2:dn [[e,f],[g,h]] (0+2) 2=0:=if_neg (by omega);have g3:dn [[e,f],[g,h]] (0+2) 3=0:=if_neg (by omega);refine ⟨?_,?_,?_,?_⟩<;>simp only[k0,k1,l0,l1,g0,g1,g2,g3]<;>grind
 ·obtain ⟨p0,rfl⟩:=BW al
  obtain ⟨a,rfl⟩:=BW (ar p0 (by simp));obtain rfl:=List.length_eq_zero_iff.1 bl;obtain rfl:=List.length_eq_zero_iff.1 hX;have ka:M=[[a]]:=hM;subst ka;obtain u0:=R0 a;have k0:dn [[a]] 1 0=_:=(if_pos (by omega)).trans u0;have k1:dn [[a]] 1 1=0:=if_neg (by omega);have l0:dn [] 0 0=0:=if_neg (by omega);have l1:dn [] 0 1=0:=if_neg (by omega);have g0:dn [[a]] (1+0) 0=_:=(if_pos (by omega)).trans u0;have g1:dn [[a]] (1+0) 1=0:=if_neg (by omega);have g2:dn [[a]] (1+0) 2=0:=if_neg (by omega);have g3:dn [[a]] (1+0) 3=0:=if_neg (by omega);refine ⟨?_,?_,?_,?_⟩<;>simp only[k0,k1,l0,l1,g0,g1,g2,g3]<;>grind
 ·obtain ⟨p0,rfl⟩:=BW al
  obtain ⟨a,rfl⟩:=BW (ar p0 (by simp));obtain ⟨q0,rfl⟩:=BW bl;obtain ⟨e,rfl⟩:=BW (br q0 (by simp));obtain ⟨r0,rfl⟩:=BW hX;obtain ⟨b7,rfl⟩:=BW (si r0 (by simp));have ka:M=[[a,0],[b7,e]]:=hM;subst ka;obtain u0:=R0 a;obtain v0:=R0 e;obtain ⟨w0,w1⟩:=xM a b7 e;have k0:dn [[a]] 1 0=_:=(if_pos (by omega)).trans u0;have k1:dn [[a]] 1 1=0:=if_neg (by omega);have l0:dn [[e]] 1 0=_:=(if_pos (by omega)).trans v0;have l1:dn [[e]] 1 1=0:=if_neg (by omega);have g0:dn [[a,0],[b7,e]] (1+1) 0=_:=(if_pos (by omega)).trans w0;have g1:dn [[a,0],[b7,e]] (1+1) 1=_:=(if_pos (by omega)).trans w1;have g2:dn [[a,0],[b7,e]] (1+1) 2=0:=if_neg (by omega);have g3:dn [[a,0],[b7,e]] (1+1) 3=0:=if_neg (by omega);refine ⟨?_,?_,?_,?_⟩<;>simp only[k0,k1,l0,l1,g0,g1,g2,g3]<;>grind
 ·obtain ⟨p0,rfl⟩:=BW al
  obtain ⟨a,rfl⟩:=BW (ar p0 (by simp));obtain ⟨q0,q1,rfl⟩:=BO bl;obtain ⟨e,f,rfl⟩:=BO (br q0 (by simp));obtain ⟨g,h,rfl⟩:=BO (br q1 (by simp));obtain ⟨r0,r1,rfl⟩:=BO hX;obtain ⟨b7,rfl⟩:=BW (si r0 (by simp));obtain ⟨e5,rfl⟩:=BW (si r1 (by simp));have ka:M=[[a,0,0],[b7,e,f],[e5,g,h]]:=hM;subst ka;obtain u0:=R0 a;obtain ⟨v0,v1⟩:=R4 e f g h;obtain ⟨w0,w1,w2⟩:=xN a b7 e f e5 g h;have k0:dn [[a]] 1 0=_:=(if_pos (by omega)).trans u0;have k1:dn [[a]] 1 1=0:=if_neg (by omega);have l0:dn [[e,f],[g,h]] 2 0=_:=(if_pos (by omega)).trans v0;have l1:dn [[e,f],[g,h]] 2 1=_:=(if_pos (by omega)).trans v1;have g0:dn [[a,0,0],[b7,e,f],[e5,g,h]] (1+2) 0=_:=(if_pos (by omega)).trans w0;have g1:dn [[a,0,0],[b7,e,f],[e5,g,h]] (1+2) 1=_:=(if_pos (by omega)).trans w1;have g2:dn [[a,0,0],[b7,e,f],[e5,g,h]] (1+2) 2=_:=(if_pos (by omega)).trans w2;have g3:dn [[a,0,0],[b7,e,f],[e5,g,h]] (1+2) 3=0:=if_neg (by omega);refine ⟨?_,?_,?_,?_⟩<;>simp only[k0,k1,l0,l1,g0,g1,g2,g3]<;>grind
 ·obtain ⟨p0,p1,rfl⟩:=BO al
  obtain ⟨a,b,rfl⟩:=BO (ar p0 (by simp));obtain ⟨c,d,rfl⟩:=BO (ar p1 (by simp));obtain rfl:=List.length_eq_zero_iff.1 bl;obtain rfl:=List.length_eq_zero_iff.1 hX;have ka:M=[[a,b],[c,d]]:=hM;subst ka;obtain ⟨u0,u1⟩:=R4 a b c d;have k0:dn [[a,b],[c,d]] 2 0=_:=(if_pos (by omega)).trans u0;have k1:dn [[a,b],[c,d]] 2 1=_:=(if_pos (by omega)).trans u1;have l0:dn [] 0 0=0:=if_neg (by omega);have l1:dn [] 0 1=0:=if_neg (by omega);have g0:dn [[a,b],[c,d]] (2+0) 0=_:=(if_pos (by omega)).trans u0;have g1:dn [[a,b],[c,d]] (2+0) 1=_:=(if_pos (by omega)).trans u1;have g2:dn [[a,b],[c,d]] (2+0) 2=0:=if_neg (by omega);have g3:dn [[a,b],[c,d]] (2+0) 3=0:=if_neg (by omega);refine ⟨?_,?_,?_,?_⟩<;>simp only[k0,k1,l0,l1,g0,g1,g2,g3]<;>grind
 ·obtain ⟨p0,p1,rfl⟩:=BO al
  obtain ⟨a,b,rfl⟩:=BO (ar p0 (by simp));obtain ⟨c,d,rfl⟩:=BO (ar p1 (by simp));obtain ⟨q0,rfl⟩:=BW bl;obtain ⟨e,rfl⟩:=BW (br q0 (by simp));obtain ⟨r0,rfl⟩:=BW hX;obtain ⟨b7,c9,rfl⟩:=BO (si r0 (by simp));have ka:M=[[a,b,0],[c,d,0],[b7,c9,e]]:=hM;subst ka;obtain ⟨u0,u1⟩:=R4 a b c d;obtain v0:=R0 e;obtain ⟨w0,w1,w2⟩:=xO a b c d b7 c9 e;have k0:dn [[a,b],[c,d]] 2 0=_:=(if_pos (by omega)).trans u0;have k1:dn [[a,b],[c,d]] 2 1=_:=(if_pos (by omega)).trans u1;have l0:dn [[e]] 1 0=_:=(if_pos (by omega)).trans v0;have l1:dn [[e]] 1 1=0:=if_neg (by omega);have g0:dn [[a,b,0],[c,d,0],[b7,c9,e]] (2+1) 0=_:=(if_pos (by omega)).trans w0;have g1:dn [[a,b,0],[c,d,0],[b7,c9,e]] (2+1) 1=_:=(if_pos (by omega)).trans w1;have g2:dn [[a,b,0],[c,d,0],[b7,c9,e]] (2+1) 2=_:=(if_pos (by omega)).trans w2;have g3:dn [[a,b,0],[c,d,0],[b7,c9,e]] (2+1) 3=0:=if_neg (by omega);refine ⟨?_,?_,?_,?_⟩<;>simp only[k0,k1,l0,l1,g0,g1,g2,g3]<;>grind
 ·obtain ⟨p0,p1,rfl⟩:=BO al
  obtain ⟨a,b,rfl⟩:=BO (ar p0 (by simp));obtain ⟨c,d,rfl⟩:=BO (ar p1 (by simp));obtain ⟨q0,q1,rfl⟩:=BO bl;obtain ⟨e,f,rfl⟩:=BO (br q0 (by simp));obtain ⟨g,h,rfl⟩:=BO (br q1 (by simp));obtain ⟨r0,r1,rfl⟩:=BO hX;obtain ⟨b7,c9,rfl⟩:=BO (si r0 (by simp));obtain ⟨e5,g7,rfl⟩:=BO (si r1 (by simp));have ka:M=[[a,b,0,0],[c,d,0,0],[b7,c9,e,f],[e5,g7,g,h]]:=hM;subst ka;obtain ⟨u0,u1⟩:=R4 a b c d;obtain ⟨v0,v1⟩:=R4 e f g h;obtain ⟨w0,w1,w2,w3⟩:=xP a b c d b7 c9 e f e5 g7 g h;have k0:dn [[a,b],[c,d]] 2 0=_:=(if_pos (by omega)).trans u0;have k1:dn [[a,b],[c,d]] 2 1=_:=(if_pos (by omega)).trans u1;have l0:dn [[e,f],[g,h]] 2 0=_:=(if_pos (by omega)).trans v0;have l1:dn [[e,f],[g,h]] 2 1=_:=(if_pos (by omega)).trans v1;have g0:dn [[a,b,0,0],[c,d,0,0],[b7,c9,e,f],[e5,g7,g,h]] (2+2) 0=_:=(if_pos (by omega)).trans w0;have g1:dn [[a,b,0,0],[c,d,0,0],[b7,c9,e,f],[e5,g7,g,h]] (2+2) 1=_:=(if_pos (by omega)).trans w1;have g2:dn [[a,b,0,0],[c,d,0,0],[b7,c9,e,f],[e5,g7,g,h]] (2+2) 2=_:=(if_pos (by omega)).trans w2;have g3:dn [[a,b,0,0],[c,d,0,0],[b7,c9,e,f],[e5,g7,g,h]] (2+2) 3=_:=(if_pos (by omega)).trans w3;refine ⟨?_,?_,?_,?_⟩<;>simp only[k0,k1,l0,l1,g0,g1,g2,g3]<;>grind
theorem XH {p q:List Rat} (hp:p.length<=3) (hq:q.length<=3):EB p q 0=p.getD 0 0*q.getD 0 0/\EB p q 1=p.getD 0 0*q.getD 1 0+p.getD 1 0*q.getD 0 0/\EB p q 2=p.getD 0 0*q.getD 2 0+p.getD 1 0*q.getD 1 0+p.getD 2 0*q.getD 0 0/\EB p q 3=p.getD 1 0*q.getD 2 0+p.getD 2 0*q.getD 1 0/\EB p q 4=p.getD 2 0*q.getD 2 0 /\ ∀ K,5<=K->EB p q K=0:=by
 have z : ∀ i,3<=i->q.getD i 0=0:=λ i h=>E3 (by omega)
 refine ⟨?_,?_,?_,?_,?_,λ K hK => ?_⟩
 ·rw[SL hp,if_neg (by omega),if_neg (by omega)];grind
 ·rw[SL hp,if_pos (by omega),if_neg (by omega)];grind
 ·rw[SL hp,if_pos (by omega),if_pos (by omega)];grind
 ·rw[SL hp,if_pos (by omega),if_pos (by omega),z 3 (by omega)];grind
 ·rw[SL hp,if_pos (by omega),if_pos (by omega),z 4 (by omega),z (4-1) (by omega)];grind
 ·rw[SL hp,if_pos (by omega),if_pos (by omega),z K (by omega),z (K-1) (by omega),z (K-2) (by omega)];grind
theorem xU {A:List Rat} {h:Nat->Rat} {K:Nat}:conv (λ a=>A.getD a 0) h K (min A.length (K+1))=conv (λ a=>A.getD a 0) h K (K+1):=by
 by_cases h1:A.length<=K+1
 ·rw[Nat.min_eq_left h1]
  have:=QE (A:=λ a=>A.getD a 0) (h:=h) (K:=K) (m:=A.length) (λ a ha=>E3 ha) (K+1-A.length)
  rw[show A.length+(K+1-A.length)=K+1 by omega]at this;exact this.symm
 ·rw[Nat.min_eq_right (by omega)]
theorem rV (z:List Rat) : ∀ l:List (List Rat),List.zipWith (· ++ ·) (List.replicate l.length z) l=l.map (z ++ ·)
 | []=>rfl
 | r::l=>by rw[List.length_cons,List.replicate_succ,List.zipWith_cons_cons,rV z l,List.map_cons]
theorem five {P:Nat->Prop} (h0:P 0) (h1:P 1) (h2:P 2) (h3:P 3) (h4:P 4) (h5 : ∀ K,5<=K->P K) : ∀ K,P K:=λ K=>by
 rcases K with _|_|_|_|_|K
 ·exact h0
 ·exact h1
 ·exact h2
 ·exact h3
 ·exact h4
 ·exact h5 _ (by omega)
theorem qY {Z:B3} {n k:Nat} (hZ:Z.Ok n k) (hn:n<=4):(CN Z n).getD 0 0=hQ Z 0/\(CN Z n).getD 1 0=hQ Z 1+dn Z.a n 0*hQ Z 0/\(CN Z n).getD 2 0=hQ Z 2+dn Z.a n 0*hQ Z 1+dn Z.a n 1*hQ Z 0/\(CN Z n).getD 3 0=hQ Z 3+dn Z.a n 0*hQ Z 2+dn Z.a n 1*hQ Z 1+dn Z.a n 2*hQ Z 0/\(CN Z n).getD 4 0=hQ Z 4+dn Z.a n 0*hQ Z 3+dn Z.a n 1*hQ Z 2+dn Z.a n 2*hQ Z 1+dn Z.a n 3*hQ Z 0 /\ ∀ K,5<=K->(CN Z n).getD K 0=0:=by
 obtain ⟨lA,lB⟩:=JK Z n;have h0:=YG Z n;have key : ∀ K,(CN Z n).getD K 0=conv (λ a=>(BN Z n).getD a 0) (hQ Z) K (K+1):=λ K=>by
  rw[<-xU];exact (rD hZ (by omega) K).symm
 have t:=O1 Z n;refine ⟨?_,?_,?_,?_,?_,λ K hK=>E3 (by omega)⟩
 ·rw[key];simp only[conv,h0];grind
 ·rw[key];simp only[conv,h0,t,Nat.sub_zero,Nat.sub_self];grind
 ·rw[key];simp only[conv,h0,t,Nat.sub_zero,Nat.sub_self,show 2-1=1 by omega];grind
 ·rw[key];simp only[conv,h0,t,Nat.sub_zero,Nat.sub_self,show 3-1=2 by omega,show 3-2=1 by omega];grind
 ·rw[key];simp only[conv,h0,t,Nat.sub_zero,Nat.sub_self,show 4-1=3 by omega,show 4-2=2 by omega,show 4-3=1 by omega];grind
theorem VF (Z:B3) (n:Nat) (hn:n<=4):(BN Z n).getD 0 0=1/\(BN Z n).getD 1 0=dn Z.a n 0/\(BN Z n).getD 2 0=dn Z.a n 1/\(BN Z n).getD 3 0=dn Z.a n 2/\(BN Z n).getD 4 0=dn Z.a n 3 /\ ∀ K,5<=K->(BN Z n).getD K 0=0:=by
 obtain ⟨lA,lB⟩:=JK Z n;exact ⟨YG Z n,O1 Z n 0,O1 Z n 1,O1 Z n 2,O1 Z n 3,λ K hK=>E3 (by omega)⟩
theorem xT (s t:Nat->Rat):conv s t 0 1=s 0*t 0/\conv s t 1 2=s 0*t 1+s 1*t 0/\conv s t 2 3=s 0*t 2+s 1*t 1+s 2*t 0/\conv s t 3 4=s 0*t 3+s 1*t 2+s 2*t 1+s 3*t 0/\conv s t 4 5=s 0*t 4+s 1*t 3+s 2*t 2+s 3*t 1+s 4*t 0:=by
 simp only[conv,Nat.sub_zero,Nat.sub_self,show 2-1=1 by omega,show 3-1=2 by omega,show 3-2=1 by omega,show 4-1=3 by omega,show 4-2=2 by omega,show 4-3=1 by omega];refine ⟨?_,?_,?_,?_,?_⟩<;>grind
theorem Vh {S T:B3} {n m k:Nat} (hS:S.Ok n k) (hT:T.Ok m k) (hn:n<=2) (hm:m<=2) :
  dn (CZ S T).a (n+m) 0=dn S.a n 0+dn T.a m 0/\dn (CZ S T).a (n+m) 1=dn S.a n 1+dn S.a n 0*dn T.a m 0+dn T.a m 1/\dn (CZ S T).a (n+m) 2=dn S.a n 1*dn T.a m 0+dn S.a n 0*dn T.a m 1/\dn (CZ S T).a (n+m) 3=dn S.a n 1*dn T.a m 1 :=
 iI (X:=T.b.map λ b=>S.c.map (b * ·)) ⟨hS.la,hS.lr⟩ ⟨hT.la,hT.lr⟩ (by rw[List.length_map,hT.lb]) (λ r hr=>by
  obtain ⟨b,_,rfl⟩:=List.mem_map.1 hr;rw[List.length_map,hS.lc]) hn hm _ (by
  show (S.a.map λ r=>r++List.replicate T.a.length 0)++IL S T=_;rw[IL,hT.la,List.zipWith_map_left])
theorem Uk {S T:B3} {n m k:Nat} (hS:S.Ok n k) (hT:T.Ok m k) (hn:n<=2) (hm:m<=2) :
  dn (CU S T).a (n+m) 0=dn S.a n 0+dn T.a m 0/\dn (CU S T).a (n+m) 1=dn S.a n 1+dn S.a n 0*dn T.a m 0+dn T.a m 1/\dn (CU S T).a (n+m) 2=dn S.a n 1*dn T.a m 0+dn S.a n 0*dn T.a m 1/\dn (CU S T).a (n+m) 3=dn S.a n 1*dn T.a m 1 :=
 iI (X:=List.replicate T.a.length (List.replicate S.a.length 0)) ⟨hS.la,hS.lr⟩ ⟨hT.la,hT.lr⟩ (by rw[List.length_replicate,hT.la]) (λ r hr=>by
  rw[List.eq_of_mem_replicate hr,List.length_replicate,hS.la]) hn hm _ (by
  show (S.a.map λ r=>r++List.replicate T.a.length 0)++(T.a.map λ r=>List.replicate S.a.length 0++r)=_;rw[rV,hT.la])
theorem pE {S T Z:B3} {n m:Nat} (hn:n<=2) (hm:m<=2) (h:dn Z.a (n+m) 0=dn S.a n 0+dn T.a m 0/\dn Z.a (n+m) 1=dn S.a n 1+dn S.a n 0*dn T.a m 0+dn T.a m 1/\dn Z.a (n+m) 2=dn S.a n 1*dn T.a m 0+dn S.a n 0*dn T.a m 1/\dn Z.a (n+m) 3=dn S.a n 1*dn T.a m 1) : ∀ K,EB (BN S n) (BN T m) K=(BN Z (n+m)).getD K 0:=by
 obtain ⟨lA,_⟩:=JK S n;obtain ⟨lC,_⟩:=JK T m;obtain ⟨d0,d1,d2,d3⟩:=h;obtain ⟨a0,a1,a2,_,_,_⟩:=VF S n (by omega);obtain ⟨c0,c1,c2,_,_,_⟩:=VF T m (by omega);obtain ⟨z0,z1,z2,z3,z4,z5⟩:=VF Z (n+m) (by omega);obtain ⟨m0,m1,m2,m3,m4,m5⟩:=XH (p:=BN S n) (q:=BN T m) (by omega) (by omega);refine five ?_ ?_ ?_ ?_ ?_ λ K hK=>by rw[m5 K hK,z5 K hK]
 ·rw[m0,z0,a0,c0];grind
 ·rw[m1,z1,d0,a0,a1,c0,c1];grind
 ·rw[m2,z2,d1,a0,a1,a2,c0,c1,c2];grind
 ·rw[m3,z3,d2,a1,a2,c1,c2];grind
 ·rw[m4,z4,d3,a2,c2]
theorem Vl {S T:B3} {n m k:Nat} (hS:S.Ok n k) (hT:T.Ok m k) (hn:n<=2) (hm:m<=2):(∀ K,EB (CN S n) (CN T m) K=(CN (CZ S T) (n+m)).getD K 0) /\ ∀ K,EB (BN S n) (BN T m) K=(BN (CZ S T) (n+m)).getD K 0:=by
 have hd:=Vh hS hT hn hm;refine ⟨?_,pE hn hm hd⟩;obtain ⟨_,lA⟩:=JK S n;obtain ⟨_,lC⟩:=JK T m;obtain ⟨d0,d1,d2,d3⟩:=hd;obtain ⟨e0,e1,e2,e3,e4⟩:=YI hS hn;obtain ⟨f0,f1,f2,f3,f4⟩:=YI hT hm;obtain ⟨z0,z1,z2,z3,z4,z5⟩:=qY (cV hS hT) (by omega);obtain ⟨m0,m1,m2,m3,m4,m5⟩:=XH (p:=CN S n) (q:=CN T m) (by omega) (by omega);obtain ⟨g0,g1,g2,g3,g4⟩:=xT (hQ S) (hQ T);have hz:=Vj hS hT;rw[O1]at e1 e2 e3 e4;rw[O1]at e2 e3 e4;rw[O1]at f1 f2 f3 f4;rw[O1]at f2 f3 f4;rw[hz,g0]at z0;rw[hz,hz,g1,g0,d0]at z1;rw[hz,hz,hz,g2,g1,g0,d0,d1]at z2;rw[hz,hz,hz,hz,g3,g2,g1,g0,d0,d1,d2]at z3;rw[hz,hz,hz,hz,hz,g4,g3,g2,g1,g0,d0,d1,d2,d3]at z4;refine five ?_ ?_ ?_ ?_ ?_ λ K hK=>by rw[m5 K hK,z5 K hK]
 ·rw[m0,z0,e0,f0]
 ·rw[m1,z1,e0,e1,f0,f1];grind
 ·rw[m2,z2,e0,e1,e2,f0,f1,f2];grind
 ·rw[m3,z3,e1,e2,f1,f2]
  clear d0 d1 d2 d3 e0 e1 e2 f0 f1 f2 z0 z1 z2 z3 z4 z5 m0 m1 m2 m3 m4 m5 hz lA lC g0 g1 g2 g3 g4 e4 f4;generalize hQ S=s at *;generalize hQ T=t at *;have h1:s 3 = -(dn S.a n 0*s 2+dn S.a n 1*s 1):=by grind
  have h2:t 3 = -(dn T.a m 0*t 2+dn T.a m 1*t 1):=by grind
  rw[h1,h2];grind
 ·rw[m4,z4,e2,f2]
  clear d0 d1 d2 d3 e0 e1 e2 f0 f1 f2 z0 z1 z2 z3 z4 z5 m0 m1 m2 m3 m4 m5 hz lA lC g0 g1 g2 g3 g4;generalize hQ S=s at *;generalize hQ T=t at *;have h1:s 3 = -(dn S.a n 0*s 2+dn S.a n 1*s 1):=by grind
  have h2:t 3 = -(dn T.a m 0*t 2+dn T.a m 1*t 1):=by grind
  have h3:s 4 = -(dn S.a n 0*s 3+dn S.a n 1*s 2):=by grind
  have h4:t 4 = -(dn T.a m 0*t 3+dn T.a m 1*t 2):=by grind
  rw[h3,h4,h1,h2];grind
theorem So {S T:B3} {n m k:Nat} (hS:S.Ok n k) (hT:T.Ok m k) (hn:n<=2) (hm:m<=2):(∀ K,EB (CN S n) (BN T m) K+EB (CN T m) (BN S n) K=(CN (CU S T) (n+m)).getD K 0) /\ ∀ K,EB (BN S n) (BN T m) K=(BN (CU S T) (n+m)).getD K 0:=by
 have hd:=Uk hS hT hn hm;refine ⟨?_,pE hn hm hd⟩;obtain ⟨Jp,lA⟩:=JK S n;obtain ⟨Jq,lC⟩:=JK T m;obtain ⟨d0,d1,d2,d3⟩:=hd;obtain ⟨e0,e1,e2,e3,e4⟩:=YI hS hn;obtain ⟨f0,f1,f2,f3,f4⟩:=YI hT hm;obtain ⟨a0,a1,a2,_,_,_⟩:=VF S n (by omega);obtain ⟨c0,c1,c2,_,_,_⟩:=VF T m (by omega);obtain ⟨z0,z1,z2,z3,z4,z5⟩:=qY (cC hS hT) (by omega);obtain ⟨m0,m1,m2,m3,m4,m5⟩:=XH (p:=CN S n) (q:=BN T m) (by omega) (by omega);obtain ⟨r0,r1,r2,r3,r4,r5⟩:=XH (p:=CN T m) (q:=BN S n) (by omega) (by omega);have hz:=Ul hS hT;simp only[hz,d0,d1,d2,d3]at z0 z1 z2 z3 z4;rw[a1]at e1 e2 e3 e4;rw[a2]at e2 e3 e4;rw[c1]at f1 f2 f3 f4;rw[c2]at f2 f3 f4;refine five ?_ ?_ ?_ ?_ ?_ λ K hK=>by rw[m5 K hK,r5 K hK,z5 K hK,Rat.add_zero]
 ·rw[m0,r0,z0,e0,f0,a0,c0];grind
 ·rw[m1,r1,z1,e0,e1,f0,f1,a0,c0,a1,c1];grind
 ·rw[m2,r2,z2,e0,e1,e2,f0,f1,f2,a0,c0,a1,c1,a2,c2];grind
 ·rw[m3,r3,z3,e1,e2,f1,f2,a1,c1,a2,c2]
  clear d0 d1 d2 d3 e0 e1 e2 f0 f1 f2 z0 z1 z2 z3 z4 z5 m0 m1 m2 m3 m4 m5 hz lA lC Jp Jq r0 r1 r2 r3 r4 r5 a0 a1 a2 c0 c1 c2 e4 f4;generalize hQ S=s at *;generalize hQ T=t at *;have h1:s 3 = -(dn S.a n 0*s 2+dn S.a n 1*s 1):=by grind
  have h2:t 3 = -(dn T.a m 0*t 2+dn T.a m 1*t 1):=by grind
  rw[h1,h2];grind
 ·rw[m4,r4,z4,e2,f2,a2,c2]
  clear d0 d1 d2 d3 e0 e1 e2 f0 f1 f2 z0 z1 z2 z3 z4 z5 m0 m1 m2 m3 m4 m5 hz lA lC Jp Jq r0 r1 r2 r3 r4 r5 a0 a1 a2 c0 c1 c2;generalize hQ S=s at *;generalize hQ T=t at *;have h1:s 3 = -(dn S.a n 0*s 2+dn S.a n 1*s 1):=by grind
  have h2:t 3 = -(dn T.a m 0*t 2+dn T.a m 1*t 1):=by grind
  have h3:s 4 = -(dn S.a n 0*s 3+dn S.a n 1*s 2):=by grind
  have h4:t 4 = -(dn T.a m 0*t 3+dn T.a m 1*t 2):=by grind
  rw[h3,h4,h1,h2];grind
end Go.e9

namespace Go.e9
open Go.ChangeShapes Go.WideShapes Go.ChangeAt Go.RowKit
inductive Ty where
 | int (k:IntKind)
 | bool
 | sl (e:Ty)
 | nil
 | cons (a r:Ty)
def Ty.cells:Ty->Nat
 | .int _=>1 | .bool=>1 | .sl _=>1
 | .nil=>0
 | .cons a r=>a.cells+r.cells
def G4:Ty->List AV->Prop
 | .int k,cs => ∃ n,cs=[.int k n]/\(Lit.int k n).wf=true
 | .bool,cs => ∃ b,cs=[.bool b]
 | .sl e,cs => ∃ es,cs=[.sl true es]/\es.length<=maxLen /\ ∀ x∈es,G4 e x
 | .nil,cs=>cs=[]
 | .cons a r,cs => ∃ x y,cs=x++y/\G4 a x/\G4 r y
theorem G4.len : ∀ {ty:Ty} {cs:List AV},G4 ty cs->cs.length=ty.cells
 | .int _,cs,h=>by obtain ⟨n,rfl,_⟩:=h;rfl
 | .bool,cs,h=>by obtain ⟨n,rfl⟩:=h;rfl
 | .sl _,cs,h=>by obtain ⟨n,rfl,_⟩:=h;rfl
 | .nil,cs,h=>by rw[show cs=[] from h];rfl
 | .cons a r,cs,h=>by obtain ⟨x,y,rfl,h1,h2⟩:=h;simp [Ty.cells,G4.len h1,G4.len h2]
def LE (P:Program):Nat->TypeId->Ty->Bool
 | 0,_,_=>false
 | n+1,t,ty=>match P.underlying t,ty with
  | some (.int k),.int k'=>decide (k=k')
  | some .bool,.bool=>true
  | some (.slice e),.sl jq=>LE P n e jq&&(P.cellsOf e == jq.cells&&decide (0<jq.cells))
  | some (.struct fs),ty=>go (LE P n) fs.toList 0 ty&&P.cellsOf t == ty.cells
  | _,_=>false
where
 go (ok:TypeId->Ty->Bool):List Field->Nat->Ty->Bool
  | [],_,.nil=>true
  | f::fs,off,.cons a r=>(f.offset == off&&(ok f.type a&&P.cellsOf f.type == a.cells))&&go ok fs (off+a.cells) r
  | _,_,_=>false
section
variable {H:Type} {enc:TypeId × Value->H} {P:Program} {w:World} {base:Nat} {spare:Nat->Bool} {held:Bool} {R:Bool->Nat->Prop}
def HH (w:World) (R:Bool->Nat->Prop) (as:List AV) (cs:List Value):Prop:=as.length=cs.length /\ ∀ (j:Nat) (a:AV) (c:Value),as[j]? = some a->cs[j]? = some c->Rd w R a c
theorem HH.one {a:AV} {c:Value} (h:Rd w R a c):HH w R [a] [c]:=by
 refine ⟨rfl,λ j a' c' h1 h2 => ?_⟩;cases j with
 | zero=>simp at h1 h2;subst h1 h2;exact h
 | succ j=>simp at h1
theorem HH.append {as bs:List AV} {cs ds:List Value} (h1:HH w R as cs) (h2:HH w R bs ds):HH w R (as++bs) (cs++ds):=by
 refine ⟨by simp [h1.1,h2.1],λ j a c ha hc => ?_⟩;by_cases hj:j<as.length
 ·rw[List.getElem?_append_left hj]at ha
  rw[List.getElem?_append_left (by rw[<-h1.1];exact hj)]at hc;exact h1.2 j a c ha hc
 ·rw[List.getElem?_append_right (by omega)]at ha
  rw[List.getElem?_append_right (by rw[<-h1.1];omega),<-h1.1]at hc;exact h2.2 _ a c ha hc
theorem fJ (a:Addr) (i:Nat) (h:a.spot=none):a.add i=⟨a.block,a.off+i,none⟩:=by
 obtain ⟨b,o,s⟩:=a;simp only at h;subst h;exact G5 b o i
theorem oT (hR : ∀ b,b<w.heap.size->R true b) (m:Nat) (ih : ∀ (ty:Ty) (t:TypeId) (cs:List Value) (fuel:Nat) (x:DataW H × List MemPlace),LE P m t ty=true->DataW.trod enc P w base spare held fuel t cs=some x -> ∃ as,G4 ty as/\HH w R as cs)
  (n:Nat) (cs:List Value) : ∀ (fs:List Field) (off:Nat) (ty:Ty),LE.go P (LE P m) fs off ty=true->(∀ f∈fs,∃ y,DataW.trod enc P w base spare held n f.type ((cs.drop f.offset).take (P.cellsOf f.type))=some y)->off+ty.cells=cs.length -> ∃ as,G4 ty as/\HH w R as (cs.drop off)
 | [],off,ty,j8,_,hl=>by
  cases ty<;>simp only[LE.go,Bool.false_eq_true]at j8;simp only[Ty.cells]at hl;exact ⟨[],rfl,by rw[List.drop_of_length_le (by omega)];exact ⟨rfl,λ j a c h=>by simp at h⟩⟩
 | f::fs,off,ty,j8,hf,hl=>by
  cases ty<;>simp only[LE.go,Bool.false_eq_true,Bool.and_eq_true,beq_iff_eq]at j8;rename_i a r;obtain ⟨⟨h1,h2,h3⟩,h4⟩:=j8;simp only[Ty.cells]at hl;obtain ⟨y,hy⟩:=hf f List.mem_cons_self;rw[h1,h3]at hy;obtain ⟨Hl,g1,g2⟩:=ih a f.type _ n y h2 hy;obtain ⟨Hm,g3,g4⟩:=oT hR m ih n cs fs (off+a.cells) r h4 (λ f' h'=>hf f' (List.mem_cons_of_mem _ h')) (by omega);refine ⟨Hl++Hm,⟨Hl,Hm,rfl,g1,g3⟩,?_⟩;have:=g2.append g4
  rwa [show (cs.drop off).take a.cells++cs.drop (off+a.cells)=cs.drop off by rw[<-List.drop_drop,List.take_append_drop]]at this
theorem oS (hR : ∀ b,b<w.heap.size->R true b) : ∀ (m:Nat) (ty:Ty) (t:TypeId) (cs:List Value) (fuel:Nat) (x:DataW H × List MemPlace),LE P m t ty=true->DataW.trod enc P w base spare held fuel t cs=some x -> ∃ as,G4 ty as/\HH w R as cs
 | 0,_,_,_,_,_,h,_=>by simp [LE]at h
 | m+1,ty,t,cs,fuel,x,j8,h=>by
  have ih:=oS hR m;simp only[LE]at j8;split at j8
  ·rename_i k k' hu
   obtain rfl:k=k':=by simpa using j8
   obtain ⟨n,rfl,_,hw⟩:=DataW.trod_int hu h;exact ⟨[.int k n],⟨n,rfl,hw⟩,HH.one (.int k n)⟩
  ·rename_i hu
   cases fuel with
   | zero=>simp [DataW.trod]at h
   | succ fuel =>
    unfold DataW.trod at h;rw[hu]at h;split at h<;>simp_all
    exact ⟨_,⟨_,rfl⟩,HH.one (.bool _)⟩
  ·rename_i e jq hu
   simp only[Bool.and_eq_true,beq_iff_eq,decide_eq_true_eq]at j8;obtain ⟨h1,h2,h3⟩:=j8;rcases DataW.trod_slice hu h with ⟨rfl,_⟩|⟨a,len,cap,elems,rest,n,_,rfl,_,hb,hl,hm,hlen,de,_,_⟩
   ·exact ⟨[.sl true []],⟨[],rfl,by simp,by simp⟩,HH.one (.gn true none 0)⟩
   ·have each : ∀ i,i<len -> ∃ as dc,G4 jq as/\HH w R as dc/\dc.length=jq.cells /\ ∀ j,j<jq.cells->w.cell? ((a.add (i*jq.cells)).add j)=dc[j]? := by
     intro i hi;have:=de i hi
     rw[h2,zE (by omega),Option.bind_eq_some_iff]at this;obtain ⟨dc,hc,ht⟩:=this;obtain ⟨as,g1,g2⟩:=ih jq e dc n _ h1 ht;obtain ⟨_,q1,q2⟩:=World.cells?_some hc;exact ⟨as,dc,g1,g2,q1,q2⟩
    by_cases h0:len=0
    ·subst h0
     exact ⟨[.sl true []],⟨[],rfl,by simp,by simp⟩,HH.one (.gn true (some a) cap)⟩
    ·have uw:a.spot=none:=by
      obtain ⟨as,dc,_,_,q1,q2⟩:=each 0 (by omega);have:=q2 0 h3
      rw[zE (by omega)]at this;simpa [Addr.add] using World.cell?_spot this
     have ke:a.block<w.heap.size:=by
      obtain ⟨as,dc,_,_,q1,q2⟩:=each 0 (by omega);have:=q2 0 h3
      rw[zE (by omega)]at this;simpa [Addr.add] using QB this
     have pick : ∃ f:Nat->List AV × List Value,∀ i,i<len->G4 jq (f i).1/\HH w R (f i).1 (f i).2/\(f i).2.length=jq.cells /\ ∀ j,j<jq.cells->w.cell? ((a.add (i*jq.cells)).add j)=(f i).2[j]? := by
      refine ⟨λ i=>if hi:i<len then (Classical.choose (each i hi),Classical.choose (Classical.choose_spec (each i hi))) else ([],[]),λ i hi => ?_⟩;simp only[hi,dif_pos];exact Classical.choose_spec (Classical.choose_spec (each i hi))
     obtain ⟨f,hf⟩:=pick;have o4 : ∀ i e',((List.range len).map λ i=>(f i).1)[i]? = some e'->i<len/\e'=(f i).1:=by
      intro i e' he;rw[List.getElem?_map]at he;by_cases hi:i<len
      ·rw[List.getElem?_range hi]at he
       simp at he;exact ⟨hi,he.symm⟩
      ·rw[List.getElem?_eq_none (by simpa using hi)]at he
       cases he
     refine ⟨[.sl true ((List.range len).map λ i=>(f i).1)],⟨_,rfl,by simp;omega,λ x hx => ?_⟩,HH.one ?_⟩
     ·obtain ⟨i,hi,rfl⟩:=List.mem_map.1 hx
      exact (hf i (List.mem_range.1 hi)).1
     ·obtain ⟨ab,ao,as⟩:=a
      simp only at uw;subst uw;have uj:((List.range len).map λ i=>(f i).1).length=len:=by simp
      have:=Rd.sl (w:=w) (R:=R) true ((List.range len).map λ i=>(f i).1) ab ao jq.cells cap (λ i j=>((f i).2[j]?).getD default) (by intro e;have:=congrArg List.length e;simp at this;omega) h3 (hR ab ke) (by rw[uj];exact hl)
       (λ e' he=>by
        obtain ⟨i,hi,rfl⟩:=List.mem_map.1 he;exact (hf i (List.mem_range.1 hi)).1.len)
       (λ i e' he j c hc=>by
        obtain ⟨hi,rfl⟩:=o4 i e' he;obtain ⟨g1,g2,g3,g4⟩:=hf i hi;have hj:j<jq.cells:=by
         have:=(zS hc).1
         rwa [g1.len]at this
        have h5:=g4 j hj;rw[fJ ⟨ab,ao,none⟩ (i*jq.cells) rfl,fJ _ _ rfl]at h5;simp only at h5;rw[show ao+(i*jq.cells+j)=ao+i*jq.cells+j by omega,h5,zE (by omega)];rfl)
       (λ i e' he j c hc=>by
        obtain ⟨hi,rfl⟩:=o4 i e' he;obtain ⟨g1,g2,g3,g4⟩:=hf i hi;have hj:j<jq.cells:=by
         have:=(zS hc).1
         rwa [g1.len]at this
        have h6:(f i).2[j]? = some ((f i).2[j]'(by omega)):=zE _;rw[h6];exact g2.2 j c _ hc h6)
      rwa [uj]at this
  ·rename_i fs hu
   simp only[Bool.and_eq_true,beq_iff_eq]at j8;obtain ⟨h1,h2⟩:=j8;obtain ⟨xs,n,_,_,hl,hlen,hf⟩:=DataW.trod_struct hu h;have:=oT hR m ih n cs fs.toList 0 _ h1 (λ f kf=>by
    obtain ⟨i,hi,rfl⟩:=List.getElem_of_mem kf;have h5:=hf i fs.toList[i] (by simp);rw[h5,zE (by simpa [hlen] using hi)];exact ⟨_,rfl⟩) (by rw[hl,h2];omega)
   simpa using this
  ·exact absurd j8 (by simp)
theorem XR {S:Nat->Prop} {ty:Ty} {t:TypeId} {v:Value} {d:DataW H} {ps:List MemPlace} {m:Nat} (j8:LE P m t ty=true) (hv:v.cells.toList=[v]) (h:DataW.Trod enc P w base spare held t v d ps) :
  ∃ a,G4 ty [a]/\CA w.heap.size S ⟨λ_ _=>none,AH.emp,w⟩ a v:=by
 obtain ⟨fuel,hf⟩:=h;rw[hv]at hf;obtain ⟨as,h1,h2⟩:=oS (R:=safe w.heap.size S ⟨λ_ _=>none,AH.emp,w⟩) (λ b hb=>Or.inr (Or.inr ⟨rfl,hb⟩)) m ty t [v] fuel _ j8 hf;obtain ⟨a,rfl⟩ : ∃ a,as=[a]:=by
  have:=h2.1
  match as,this with
  | [a],_=>exact ⟨a,rfl⟩
 exact ⟨a,h1,.one (.rd (h2.2 0 a v rfl rfl))⟩
end
theorem wH {B:Nat} {S:Nat->Prop} {m:M} : ∀ (j:Nat) (c:AV) (v:Value),([]:List AV)[j]? = some c->([]:List Value)[j]? = some v->CA B S m c v:=λ j c v h=>by simp at h
theorem V6 {B:Nat} {S:Nat->Prop} {m:M} {a:AV} {u:Value} {as:List AV} {us:List Value} (h:CA B S m a u) (hr : ∀ (j:Nat) (c:AV) (v:Value),as[j]? = some c->us[j]? = some v->CA B S m c v) :
  ∀ (j:Nat) (c:AV) (v:Value),(a::as)[j]? = some c->(u::us)[j]? = some v->CA B S m c v
 | 0,c,v,h1,h2=>by simp at h1 h2;subst h1 h2;exact h
 | j+1,c,v,h1,h2=>hr j c v (by simpa using h1) (by simpa using h2)
theorem Qq {P:Program} {num:Nat->Nat} {L:Lib} (hP:ProgOK P num L) {f:Nat} {vs:List AV} (h:Ev L f vs (.bool true)) {S:Nat->Prop} {w:World} {us:List Value} (hl:vs.length=us.length)
  (ha : ∀ (j:Nat) (c:AV) (v:Value),vs[j]? = some c->us[j]? = some v->CA w.heap.size S ⟨λ_ _=>none,AH.emp,w⟩ c v) :
  Calls P (num f) us.toArray w λ e w'=>e = .returned (.bool true)/\Below w.heap.size w w':=by
 obtain ⟨n,hn⟩:=h;refine ((wR hP n).pure f vs _ hn S w us hl ha).mono ?_;rintro e w' ⟨u,rfl,hb,u7,_⟩
 refine ⟨?_,hb⟩;cases u7 with
 | ca nz=>cases nz with
  | one y7=>cases y7 with
   | rd jt=>cases jt;rfl
end Go.e9

namespace Go.e9
abbrev tI:Ty := .int .i64
end Go.e9
