/-
  Powers and sums (layer 29): the program's square of a matrix.
-/
import Derived.Test.YtfnglkabkfmjcaaGreatB12
import Derived.Test.YtfnglkabkfmjcaaGreatB4
import Derived.Test.YtfnglkabkfmjcaaGreatB10
import Derived.Test.YtfnglkabkfmjcaaGreatB9
import Derived.Test.YtfnglkabkfmjcaaGreatB11
import Derived.Test.YtfnglkabkfmjcaaGreatB1
set_option linter.unusedSimpArgs false
set_option linter.unusedVariables false
set_option linter.unnecessarySimpa false
namespace Go.c9
open F
attribute [local irreducible] AA AF AP AD CI AY AW A6 A5 B2 AM BQ B8 C8 BM A1 BR B9 AB A7 AJ pw BO BH CH CK CS CP CD BT CJ
variable {L:Lib}
set_option maxHeartbeats 16000000
set_option maxRecDepth 8000
theorem Yv {R:List (Option (Nat × List (List AV)))} {i z:Nat} {es:List (List AV)} {K:Nat->List (List AV)->Prop} (h:R[i]? = some (some (z,es))) (hk:K z es):BH R i K:=by
 unfold BH;exact ⟨z,es,h,hk⟩
theorem Aeo {Q:List (List Rat)} {n:Nat} (h : ∀ r∈Q,r.length=n):HP Q n n=BK 3 eQ Q:=by
 refine List.map_congr_left λ r hr => ?_
 have:=h r hr
 rw[List.take_of_length_le (by omega),OE this]
theorem AgP (N:w3 L) (q q':Bool) (a:List (List Rat)) (n k:Nat) (hs:Sq n a) (ha:Ms k a) (hn:n<=4) (hk:k<=1000000000):Ev L 299 [.sl q (CN q' a)] (.sl false (eM (F2 a a n))):=by
 have ag:=hs.l;have Ad:Sq n (F2 a a n):=Sq.mul hs.l a;have Ff : ∀ (i:Nat) (r:List Rat),a[i]? = some r->(F2 a a n)[i]? = some (EH r a n):=λ i r hr=>by rw[F2,List.getElem?_map,hr];rfl
 have Bp : ∀ (j:Nat) (r:List Rat),j<n->(EH r a n)[j]? = some (A0 r (DB a j)):=λ j r hj=>by rw[EH,List.getElem?_map,List.getElem?_range hj];rfl
 have Ac:=Ad.l;have Du:=Ad.r;generalize F2 a a n=Q at *;refine Ev.x N.QN rfl rfl ?_;(repeat' ((first|apply AR|apply AE)<;>conv=>whnf))
 unfold CS;refine ⟨⟨by omega,by omega,by simp only[EA];omega,by omega⟩,?_⟩;rw[Int.toNat_natCast,ag];(conv=>whnf)
 skip
 have mf:=T7 Q n 0;have Ib : ∀ i,i<n->(HP Q n 0)[i]? = some (some (3,(List.replicate n (none:Option Rat)).map eO)):=λ i hi=>by
  rw[HP,List.getElem?_map,zE (by omega),Option.map_some,List.take_zero,OG]
 refine BP (λ i=>n-i) (λ(i:Nat)=>i<=n) (λ i=>[(15,.int .i64 i)]) (λ i=>[(13,13,.mx (fz none ((HP Q n 0).take i) n))]) [] [] 0 (by first|exact (by (conv=>whnf);exact ⟨rfl,rfl,rfl⟩)|(rw[List.take_zero,show fz (none:Option (Nat × List (List AV))) [] n=List.replicate n none by simp [fz]];exact (by (conv=>whnf);exact ⟨rfl,rfl,rfl⟩))) (by omega) ?_;intro i p1 ih;have bm:((HP Q n 0).take i).length=i:=by rw[List.length_take];omega
 have eg:=YM (z:=(none:Option (Nat × List (List AV)))) (l:=(HP Q n 0).take i) (m:=n) (by omega);by_cases hi:i<n
 ·have iu:=YN (z:=(none:Option (Nat × List (List AV)))) (x:=some (3,(List.replicate n (none:Option Rat)).map eO)) (l:=(HP Q n 0).take i) (m:=n) (by omega)
  rw[bm,<-JZ (Ib i hi)]at iu;generalize fz (none:Option (Nat × List (List AV))) ((HP Q n 0).take i) n=J at *;(repeat' ((first|(apply AG<;>intro hc<;>try (exfalso;omega))|apply AE)<;>conv=>whnf))
  refine EJ (enc:=eO) none n rfl rfl (by omega) ?_;(conv=>whnf)
  (repeat' ((first|(apply AZ;omega)|fail)<;>conv=>whnf))
  unfold AP CH;refine ⟨by simp,by omega,?_⟩;(conv=>whnf)
  rw[show 0+((i:Int)).toNat=i by omega,iu];(repeat' ((first|(apply AU;omega)|fail)<;>conv=>whnf))
  exact BG [] (ih (i+1) (by omega) (by omega))
 have ei:i=n:=by omega
 clear ih eg;rw[ei,List.take_of_length_le (by omega),YL (by omega)];(repeat' ((first|(apply AG<;>intro hc<;>try (exfalso;omega))|apply AE)<;>conv=>whnf))
 refine EJ (enc:=eO) none n rfl rfl (by omega) ?_;(conv=>whnf)
 skip
 refine FV (λ j _=>n-j) (λ(j:Nat) (C:List (Option Rat))=>j<=n/\C.length=n) (λ j _=>[(27,.int .i64 j)]) (λ j C=>[(25,25,.rw 3 (C.map eO)),(13,13,.mx (HP Q n j))]) [] [] 0 (List.replicate n none) (by (conv=>whnf);exact ⟨rfl,rfl,rfl⟩) ⟨by omega,by simp⟩ ?_;intro j C ⟨r1,r2⟩ jh;by_cases hj:j<n
 ·have n7:(DB a j).length=n:=by rw[Aeg];exact ag
  have Lk:((DB a j).map some).length=n:=by rw[List.length_map];exact n7
  (repeat' ((first|(apply AG<;>intro hc<;>try (exfalso;omega))|apply AE)<;>conv=>whnf))
  refine BP (λ i=>n-i) (λ(i:Nat)=>i<=n) (λ i=>[(31,.int .i64 i)]) (λ i=>[(25,25,.rw 3 ((((DB a j).map some).take i++C.drop i).map eO))]) [] [] 0 (by rw[List.take_zero,List.drop_zero,List.nil_append];exact (by (conv=>whnf);exact ⟨rfl,rfl,rfl⟩)) (by omega) ?_;intro i2 s1 kh;have dk:(((DB a j).map some).take i2++C.drop i2).length=n:=by rw[List.length_append,List.length_take,List.length_drop];omega
  by_cases tf:i2<n
  ·obtain ⟨r,hr⟩ : ∃ r,a[i2]? = some r:=⟨_,zE (by omega)⟩
   have ax:=hs.at hr;obtain ⟨x,hx⟩ : ∃ x,r[j]? = some x:=⟨_,zE (by omega)⟩;have ig:a[(i2:Int).toNat]? = some r:=hr;have fb:r[(j:Int).toNat]? = some x:=hx;have hcx:((DB a j).map some)[i2]? = some (some x):=by
    rw[List.getElem?_map,DB,List.getElem?_map,hr];simp only[Option.map_some,List.getD_eq_getElem?_getD,hx,Option.getD_some]
   have k6:=yV (a:=(DB a j).map some) (b:=C) (by omega) hcx;generalize ((DB a j).map some).take i2++C.drop i2=W at *;(repeat' ((first|(apply AG<;>intro hc<;>try (exfalso;omega))|(apply AZ;omega)|(refine BA (by assumption) ?_ rfl ?_;omega)|apply AE)<;>conv=>whnf))
   refine FF (enc:=eO) (some x) rfl (λ e=>by cases e<;>rfl) (by omega) ?_;(conv=>whnf)
   rw[k6];(repeat' ((first|(apply AU;omega)|fail)<;>conv=>whnf))
   exact BG [] (kh (i2+1) (by omega) (by omega))
  obtain rfl:i2=n:=by omega
  clear kh dk;rw[List.take_of_length_le (by omega),List.drop_of_length_le (by omega),List.append_nil,show ((DB a j).map some).map eO=(DB a j).map eQ by rw[List.map_map];rfl];(repeat' ((first|(apply AG<;>intro hc<;>try (exfalso;omega))|apply AE)<;>conv=>whnf))
  refine BP (λ i=>i2-i) (λ(i:Nat)=>i<=i2) (λ i=>[(46,.int .i64 i)]) (λ i=>[(13,13,.mx (N7 Q i2 j i))]) [] [] 0 (by rw[Aen];exact (by (conv=>whnf);exact ⟨rfl,rfl,rfl⟩)) (by omega) ?_;intro i3 s2 lh;have dk:=Ael (Q:=Q) (n:=i2) (j:=j) (m:=i3) (by omega);by_cases yx:i3<i2
  ·obtain ⟨r,hr⟩ : ∃ r,a[i3]? = some r:=⟨_,zE (by omega)⟩
   have ax:=hs.at hr;have ig:a[(i3:Int).toNat]? = some r:=hr;have hq:=Ff i3 r hr;have ff:=Aej (n:=i2) (j:=j) hq;have qi:=Aem (n:=i2) (j:=j) hq;have Ws:=Bp j r hj;have xu:(EH r a i2).length=i2:=Du _ (zM hq);have Ji:((EH r a i2).take j).length=j:=by rw[List.length_take];omega
   have iu:=OH (l:=(EH r a i2).take j) (m:=i2) (x:=A0 r (DB a j)) (by omega);rw[Ji,<-JZ Ws]at iu;have eg:=J9 (l:=(EH r a i2).take j) (m:=i2) (by omega);rw[<-iu]at qi;have hD:=λ q q'=>AgM N q q' r (DB a j) k k (by omega) (ha.at hr) (Ms.Ia ha j) (by omega) hk hk
   clear hq Ws iu Ji xu;generalize ED ((EH r a i2).take j) i2=W at *;generalize A0 r (DB a j)=y at *;generalize N7 Q i2 j i3=R0 at *;(repeat' ((first|(apply AG<;>intro hc<;>try (exfalso;omega))|(apply AZ;omega)|apply AE)<;>conv=>whnf))
   refine iM (r:=some (3,W.map eO)) (by rw[Nat.zero_add,Int.toNat_natCast];exact ff) ?_;(conv=>whnf)
   (repeat' ((first|(refine BA (by assumption) ?_ rfl ?_;omega)|fail)<;>conv=>whnf))
   refine C9 (enc:=eQ) (λ_=>rfl) rfl n7.symm ?_;(conv=>whnf)
   (repeat' (refine AC (hD _ _) ?_<;>conv=>whnf))
   refine AZ (by rw[List.length_map];omega) ?_;(conv=>whnf)
   skip
   refine Yv (z:=3) (es:=W.map eO) (by rw[Nat.zero_add,Int.toNat_natCast];exact ff) ?_;(conv=>whnf)
   refine FF (enc:=eO) (some y) rfl (λ e=>by cases e<;>rfl) (by omega) ?_;(conv=>whnf)
   unfold CK;refine ⟨by rw[List.length_map,List.length_map,List.length_set],?_⟩;rw[show 0+((i3:Int)).toNat=i3 by omega,qi];(conv=>whnf)
   (repeat' ((first|(apply AU;omega)|fail)<;>conv=>whnf))
   exact BG [] (lh (i3+1) (by omega) (by omega))
  obtain rfl:i3=i2:=by omega
  clear lh dk;have Am:=Aek Q i3 j;rw[Ac]at Am;rw[Am];(repeat' ((first|(apply AG<;>intro hc<;>try (exfalso;omega))|(apply AU;omega)|apply AE)<;>conv=>whnf))
  rw[show (DB a j).map eQ=((DB a j).map some).map eO by rw[List.map_map];rfl];exact BG [] (jh (j+1) ((DB a j).map some) (by omega) ⟨by omega,by rw[List.length_map];exact n7⟩)
 have ej:j=n:=by omega
 clear jh;rw[ej,Aeo Du];(repeat' ((first|(apply AG<;>intro hc<;>try (exfalso;omega))|apply AE)<;>conv=>whnf))
 refine J4 (λ_=>rfl) rfl (by omega) ?_;(conv=>whnf)
 exact AX rfl (sO Q)
abbrev VF (q:Bool) (R:List (List Rat)) (D:Rat) (p:Int) (T:Rat):List AV:=[.sl false (CN q R)]++eQ D++[.int .i64 p]++eQ T
theorem jM (R:List (List Rat)) (D:Rat) (p:Int) (T:Rat) (e:Int):A3 (.j5 [.agg (VF false R D p T),.int .i64 e]):=by
 have h1:=jN R;have h2:=DI D;have h3:=DI T;simp only[A3,CG,true_and,and_true,VF,List.cons_append,List.nil_append]at h1 h2 h3 ⊢;exact ⟨h1,h2.1,h2.2,h3.1,h3.2⟩
theorem nN {i:Nat} (h:i<=6):2^i<=64/\(2^i=64->i=6)/\1<=2^i:=by
 obtain rfl|rfl|rfl|rfl|rfl|rfl|rfl:i=0\/i=1\/i=2\/i=3\/i=4\/i=5\/i=6:=by omega
 all_goals decide
theorem Rm {D:Rat} {d:Nat} (h:Bt d D) : ∀ j:Nat,Bt (j*d) (D^j)
 | 0=>by rw[Rat.pow_zero];exact Bt.one _
 | j+1=>by
  rw[Rat.pow_succ];exact ((Rm h j).mul h).le (by rw[Nat.succ_mul];omega)
theorem Ajt {S M:Nat} (h:S<=2^M):Bt M (S:Rat):=by
 refine ⟨?_,?_⟩
 ·rw[Rat.num_natCast,Int.natAbs_natCast];exact h
 ·rw[Rat.den_natCast];exact Nat.one_le_two_pow
theorem Aju {S:Nat} (h:0<S):(0:Rat)<(S:Rat):=by
 have:=Rat.natCast_lt_natCast.2 h
 exact this
theorem AgQ (N:w3 L) (q q':Bool) (a:List (List Rat)) (n k:Nat) (hs:Sq n a) (ha:Ms k a) (hn:n<=4) (hk:k<=100000) :
  ∃ v,Ev L 303 [.sl q (CN q' a)] v/\((∃ i,i<=6/\OV n a i/\v = .j5 [.agg (VF false (CX (C1 a.flatten) a) (C1 a.flatten) ((2^i:Nat):Int) (C1 a.flatten^(2^i+2^i-1))),.int .i64 0]) \/
   ((∀ j,j<=6->DJ (B6 n a j)=false)/\v = .j5 [.agg [.sl false [],.bool false,.sl false [],.sl false [],.int .i64 0,.bool false,.sl false [],.sl false []],.int .i64 14])):=by
 have ag:=hs.l;have Mp:n*n<=4*4:=Nat.mul_le_mul hn hn;have Wc:n*n*k<=16*k:=Nat.mul_le_mul_right k Mp;have eg:a.flatten.length<=64:=by
  have : ∀ (a:List (List Rat)),(∀ r∈a,r.length=n)->a.flatten.length=a.length*n:=by
   intro a;induction a with
   | nil=>intro _;simp
   | cons r a ih =>
    intro h;rw[List.flatten_cons,List.length_append,ih λ x hx=>h x (List.mem_cons_of_mem _ hx),h r List.mem_cons_self,List.length_cons,Nat.succ_mul,Nat.add_comm]
  rw[this a hs.r,ag];omega
 have Ds:=AgK N q q' a k ha eg (by omega) (by omega);have hO:=HS N.toa6 1 (by omega);rw[show ((1:Int):Rat)=1 from rfl]at hO;obtain ⟨D0,eD,d1,d2,d3⟩:=Pj hs ha;have Kd:Bt (16*k) (D0:Rat):=Ajt (Nat.le_trans d2 (Nat.pow_le_pow_right (by omega) Wc));have hDp:(0:Rat)<(D0:Rat):=Aju d1;have Uo:=kI (Nat.le_trans d2 (Nat.pow_le_pow_right (by omega) Wc));have Uu:=pG hs hn d3;rw[eD]at Ds ⊢;generalize (D0:Rat)=D at *;clear eD d1 d2 d3;have Bz:(CX D a).length=n:=by rw[oS];exact ag
 have Kz : ∀ (i:Nat) (r:List Rat),a[i]? = some r->(CX D a)[i]? = some (r.map (· * D)):=λ i r hr=>AkD hr
 have ft : ∀ i,Sq n (CX (D9 D i) (B6 n a i)):=λ i=>AkE _ (UW hs i)
 have tj : ∀ i,i<=6->Ms 300000000 (CX (D9 D i) (B6 n a i)):=λ i hi r hr x hx=>((Uu i r hr x hx).le (by have:=Alw (k:=k) i (by omega);omega)).bt
 have cj : ∀ i,i<=6->Bt 300000000 (D9 D i):=λ i hi=>((Uo i).le (by
  have:=(nN hi).1
  have:=Nat.mul_le_mul_right (16*k) this
  omega)).bt
 have Un:=λ(i:Nat) (q q':Bool) (hi:i<=6)=>AgL N q q' (CX (D9 D i) (B6 n a i)) (D9 D i) n 300000000 300000000 (ft i) (tj i hi) (cj i hi) (by omega) (by omega) (by omega)
 have Fk:=λ(i:Nat) (q q':Bool) (hi:i<=6)=>AgP N q q' (CX (D9 D i) (B6 n a i)) n 300000000 (ft i) (tj i hi) hn (by omega)
 have Ut:=λ(i:Nat) (hi:i<=6)=>GD N.toa6 (cj i hi) (cj i hi) (by omega) (by omega)
 have k6 : ∀ i,F2 (CX (D9 D i) (B6 n a i)) (CX (D9 D i) (B6 n a i)) n=CX (D9 D (i+1)) (B6 n a (i+1)):=λ i=>Tb n a D i
 have Fs : ∀ i,(∀ r∈CX (D9 D i) (B6 n a i),BL r+BL r<=D9 D i)↔DJ (B6 n a i)=true:=λ i=>Aes hDp
 have Us:=λ(j:Nat) (hj:j<=128)=>GD N.toa6 (Rm Kd j) Kd (show j*(16*k)<2199023255552 by
  have:=Nat.mul_le_mul_right (16*k) hj
  omega) (by omega)
 have Fw : ∀ (i:Nat) (q q':Bool),i<=6->Ev L 302 [.sl q (CN q' (CX (D9 D i) (B6 n a i))),.agg (eQ (D9 D i))] (.bool (DJ (B6 n a i))):=λ i q q' hi=>by
  have:=Un i q q' hi
  rwa [show decide (∀ r∈CX (D9 D i) (B6 n a i),BL r+BL r<=D9 D i)=DJ (B6 n a i) by rw[Bool.eq_iff_iff,decide_eq_true_iff];exact Fs i]at this
 have Fj : ∀ (i:Nat) (q q':Bool),i<=6->Ev L 299 [.sl q (CN q' (CX (D9 D i) (B6 n a i)))] (.sl false (eM (CX (D9 D (i+1)) (B6 n a (i+1))))):=λ i q q' hi=>by
  have:=Fk i q q' hi
  rwa [k6]at this
 have dj : ∀ i,i<=6->Ev L 99 [.agg (eQ (D9 D i)),.agg (eQ (D9 D i))] (.agg (eQ (D9 D (i+1)))):=Ut;have Kj : ∀ j:Nat,j<=128->Ev L 99 [.agg (eQ (D^j)),.agg (eQ D)] (.agg (eQ (D^(j+1)))):=λ j hj=>by
  have:=Us j hj
  rwa [<-Rat.pow_succ]at this
 have Dr : ∀ q q':Bool,Ev L 302 [.sl q (CN q' (CX D a)),.agg (eQ D)] (.bool (DJ (B6 n a 0))):=λ q q'=>Fw 0 q q' (by omega)
 have Ae : ∀ q q':Bool,Ev L 299 [.sl q (CN q' (CX D a))] (.sl false (eM (CX (D9 D 1) (B6 n a 1)))):=λ q q'=>Fj 0 q q' (by omega)
 have Kk:Ev L 99 [.agg (eQ D),.agg (eQ D)] (.agg (eQ (D9 D 1))):=dj 0 (by omega);clear Un Fk Ut Us k6 Fs tj cj ft Uu Uo;refine Ev.xE N.QO rfl rfl ?_;by_cases h0:n=0
 ·obtain rfl:a=[]:=List.length_eq_zero_iff.1 (by omega)
  have hb:DJ (B6 n [] 0)=true:=rfl;have re:=Dr false false;rw[hb]at re;have hC2:Ev L 302 [.sl false [],.agg (eQ D)] (.bool true):=re;have Ie:=Kj 0 (by omega);rw[Rat.pow_zero]at Ie;(repeat' ((first|apply AR|apply AE|refine AC (Ds) ?_|refine AC (hO) ?_)<;>conv=>whnf))
  refine GH ?_;(repeat' ((first|(apply AG<;>intro hc<;>try (exfalso;omega))|apply AE)<;>conv=>whnf))
  refine GH ?_;(repeat' ((first|(apply B7;omega)|(apply EK;omega)|apply AE|refine AC (hC2) ?_)<;>conv=>whnf))
  refine GH ?_;(repeat' ((first|(apply AG<;>intro hc<;>try (exfalso;omega))|(apply AU;omega)|apply AE|refine AC (Ie) ?_)<;>conv=>whnf))
  refine GH ?_;(repeat' ((first|(apply AG<;>intro hc<;>try (exfalso;omega))|apply AE)<;>conv=>whnf))
  refine ⟨.j5 [.agg (VF false [] D 1 (D^1)),.int .i64 0],?_,Or.inl ⟨0,by omega,⟨rfl,λ j hj=>absurd hj (by omega)⟩,rfl⟩⟩;exact AX rfl (jM [] D 1 (D^1) 0)
 (repeat' ((first|apply AR|apply AE|refine AC (Ds) ?_|refine AC (hO) ?_)<;>conv=>whnf))
 refine FV (λ i _=>n-i) (λ(i:Nat) (fl:Bool)=>i<=n/\fl=decide (i=0)) (λ i _=>[(15,.int .i64 i)]) (λ i fl=>bif fl then [] else [(4,4,.bx ([.row 1000 0 1 0 i]++eQ D++[.int .i64 1]++eQ 1)),(1000,26,.rw 1 (((CX D a).take i).map λ r=>[AV.sl false (r.map eQ)]))]) [] [] 0 true (by (conv=>whnf);exact ⟨rfl,rfl,rfl⟩) ⟨by omega,rfl⟩ ?_;intro i fl ⟨p1,p2⟩ ih;have ax:((CX D a).take i).length=i:=by rw[List.length_take];omega
 by_cases hi:i<n
 ·obtain ⟨r,hr⟩ : ∃ r,a[i]? = some r:=⟨_,zE (by omega)⟩
  have ig:a[(i:Int).toNat]? = some r:=hr;have gd:=hs.at hr;have Uz:=λ q=>AgR N q r D k (16*k) (ha.at hr) Kd (by omega) (by omega) (by omega)
  have ff:=Kz i r hr;generalize r.map (· * D)=w at *;cases fl
  ·have rn:i≠0:=by simpa using p2.symm
   (repeat' ((first|(apply AG<;>intro hc<;>try (exfalso;omega))|(refine BA (by assumption) ?_ rfl ?_;omega)|apply DW|apply AE|refine AC (Uz _) ?_)<;>conv=>whnf))
   refine EO (l:=(CX D a).take i) (z:=1) (bytes:=24) (enc:=λ r:List Rat=>[AV.sl false (r.map eQ)]) w rfl ax.symm rfl (by omega) (by omega) ?_;(conv=>whnf)
   (repeat' ((first|(apply AU;omega)|fail)<;>conv=>whnf))
   rw[<-JZ ff,show ((CX D a).take (i+1)).length=i+1 by rw[List.length_take];omega];exact BG [(1000,26)] (ih (i+1) false (by omega) ⟨by omega,by simp⟩)
  ·have rn:i=0:=by simpa using p2.symm
   subst rn;(repeat' ((first|(apply AG<;>intro hc<;>try (exfalso;omega))|(refine BA (by assumption) ?_ rfl ?_;omega)|apply DW|apply AE|refine AC (Uz _) ?_)<;>conv=>whnf))
   refine ZD (enc:=λ r:List Rat=>[AV.sl false (r.map eQ)]) w rfl rfl (by omega) ?_;(conv=>whnf)
   (repeat' ((first|(apply AU;omega)|fail)<;>conv=>whnf))
   rw[show [w]=(CX D a).take (0+1) by rw[JZ ff];rfl];exact BG [(1000,26)] (ih 1 false (by omega) ⟨by omega,by simp⟩)
 have ei:i=n:=by omega
 obtain rfl:fl=false:=by rw[p2];simp;omega
 clear ih p2 ax;rw[ei,List.take_of_length_le (by omega)];(repeat' ((first|(apply AG<;>intro hc<;>try (exfalso;omega))|apply AE)<;>conv=>whnf))
 refine FV (λ i _=>7-i) (λ(i:Nat) (fl:Bool)=>i<=6/\(fl=true->i=0) /\ ∀ j,j<i->DJ (B6 n a j)=false) (λ i fl=>[(7,bif fl then .row 1000 0 1 0 n else .sl false (eM (CX (D9 D i) (B6 n a i))))]) (λ i _=>[(8,8,.bx (eQ (D9 D i))),(4,4,.bx ([.row 1000 0 1 0 n]++eQ D++[.int .i64 ((2^i:Nat):Int)]++eQ 1))]) [] [] 0 true (by (conv=>whnf);exact ⟨rfl,rfl,rfl⟩) ⟨by omega,λ_=>rfl,λ j hj=>absurd hj (by omega)⟩ ?_;intro i fl ⟨s1,s2,s3⟩ jh;obtain ⟨g1,g2,g3⟩:=nN s1;have Ee:((2^(i+1):Nat):Int)=((2^i:Nat):Int)*2:=by rw[Nat.pow_succ];omega
 have Fy:=λ q q'=>Fw i q q' s1
 have hsi:=λ q q'=>Fj i q q' s1
 have Ml:=dj i s1;cases hb:DJ (B6 n a i)
 ·rw[hb]at Fy
  by_cases h6:i=6
  ·have e64:((2^i:Nat):Int)=64:=by rw[h6];rfl
   have kf : ∀ j,j<=6->DJ (B6 n a j)=false:=λ j hj=>by
    by_cases h:j=6
    ·rw[h,<-h6];exact hb
    ·exact s3 j (by omega)
   cases fl
   ·rw[e64]
    (repeat' ((first|(apply AG<;>intro hc<;>try (exfalso;omega))|apply AE|refine AC (Fy _ _) ?_)<;>conv=>whnf))
    exact ⟨_,AX rfl (by simp [A3,CG,FP]),Or.inr ⟨kf,rfl⟩⟩
   ·exact absurd (s2 rfl) (by omega)
  ·have Avj:((2^i:Nat):Int)≠64:=λ e=>h6 (g2 (by omega))
   have ik : ∀ j,j<i+1->DJ (B6 n a j)=false:=λ j hj=>by
    by_cases h:j=i
    ·rw[h];exact hb
    ·exact s3 j (by omega)
   cases fl
   ·generalize 2^i=P at *
    (repeat' ((first|(apply AG<;>intro hc<;>try (exfalso;omega))|(apply EK;omega)|apply AE|refine AC (Fy _ _) ?_|refine AC (hsi _ _) ?_|refine AC (Ml) ?_)<;>conv=>whnf))
    rw[<-Ee];exact BG [] (jh (i+1) false (by omega) ⟨by omega,(λ h=>by cases h),ik⟩)
   ·obtain rfl:=s2 rfl
    have re:=Dr;rw[hb]at re;generalize 2^0=P at *;(repeat' (apply AE<;>conv=>whnf))
    refine C9 (enc:=λ r:List Rat=>[AV.sl false (r.map eQ)]) (λ_=>rfl) rfl Bz.symm ?_;(conv=>whnf)
    (repeat' ((first|(apply AG<;>intro hc<;>try (exfalso;omega))|refine AC (re _ _) ?_)<;>conv=>whnf))
    refine C9 (enc:=λ r:List Rat=>[AV.sl false (r.map eQ)]) (λ_=>rfl) rfl Bz.symm ?_;(conv=>whnf)
    (repeat' ((first|(apply EK;omega)|refine AC (Ae _ _) ?_|refine AC (Kk) ?_)<;>conv=>whnf))
    rw[<-Ee];exact BG [] (jh (0+1) false (by omega) ⟨by omega,(λ h=>by cases h),ik⟩)
 ·rw[hb]at Fy
  have me:OV n a i:=⟨hb,s3⟩;have aj : ∀ r:AV,r = .j5 [.agg (VF false (CX D a) D ((2^i:Nat):Int) (D^(2^i+2^i-1))),.int .i64 0]->((∃ i,i<=6/\OV n a i/\r = .j5 [.agg (VF false (CX D a) D ((2^i:Nat):Int) (D^(2^i+2^i-1))),.int .i64 0])\/((∀ j,j<=6->DJ (B6 n a j)=false)/\r = .j5 [.agg [.sl false [],.bool false,.sl false [],.sl false [],.int .i64 0,.bool false,.sl false [],.sl false []],.int .i64 14])):=λ r hr=>Or.inl ⟨i,s1,me,hr⟩
  clear Ee jh;generalize 2^i=P at *;cases fl
  ·(repeat' ((first|(apply B7;omega)|(apply EK;omega)|apply AE|refine AC (Fy _ _) ?_)<;>conv=>whnf))
   refine BP (λ j=>P+P-1-j) (λ(j:Nat)=>j<=P+P-1) (λ j=>[(54,.int .i64 j)]) (λ j=>[(4,4,.bx ([.row 1000 0 1 0 n]++eQ D++[.int .i64 (P:Int)]++eQ (D^j)))]) [] [] 0 (by rw[Rat.pow_zero];exact (by (conv=>whnf);exact ⟨rfl,rfl,rfl⟩)) (by omega) ?_;intro j t1 kh;by_cases hj:j<P+P-1
   ·have hl:=Kj j (by omega)
    (repeat' ((first|(apply AG<;>intro hc<;>try (exfalso;omega))|(apply AU;omega)|apply AE|refine AC (hl) ?_)<;>conv=>whnf))
    exact BG [] (kh (j+1) (by omega) (by omega))
   have ej:j=P+P-1:=by omega
   clear kh;rw[ej];(repeat' ((first|(apply AG<;>intro hc<;>try (exfalso;omega))|apply AE)<;>conv=>whnf))
   refine ⟨.j5 [.agg (VF false (CX D a) D (P:Int) (D^(P+P-1))),.int .i64 0],?_,aj _ rfl⟩;(conv=>whnf)
   refine C9 (enc:=λ r:List Rat=>[AV.sl false (r.map eQ)]) (λ_=>rfl) rfl Bz.symm ?_;(conv=>whnf)
   exact AX rfl (jM _ _ _ _ 0)
  ·obtain rfl:=s2 rfl
   have re:=Dr;rw[hb]at re;(repeat' (apply AE<;>conv=>whnf))
   refine C9 (enc:=λ r:List Rat=>[AV.sl false (r.map eQ)]) (λ_=>rfl) rfl Bz.symm ?_;(conv=>whnf)
   (repeat' ((first|(apply B7;omega)|(apply EK;omega)|refine AC (re _ _) ?_)<;>conv=>whnf))
   refine BP (λ j=>P+P-1-j) (λ(j:Nat)=>j<=P+P-1) (λ j=>[(54,.int .i64 j)]) (λ j=>[(4,4,.bx ([.row 1000 0 1 0 n]++eQ D++[.int .i64 (P:Int)]++eQ (D^j)))]) [] [] 0 (by rw[Rat.pow_zero];exact (by (conv=>whnf);exact ⟨rfl,rfl,rfl⟩)) (by omega) ?_;intro j t1 kh;by_cases hj:j<P+P-1
   ·have hl:=Kj j (by omega)
    (repeat' ((first|(apply AG<;>intro hc<;>try (exfalso;omega))|(apply AU;omega)|apply AE|refine AC (hl) ?_)<;>conv=>whnf))
    exact BG [] (kh (j+1) (by omega) (by omega))
   have ej:j=P+P-1:=by omega
   clear kh;rw[ej];(repeat' ((first|(apply AG<;>intro hc<;>try (exfalso;omega))|apply AE)<;>conv=>whnf))
   refine ⟨.j5 [.agg (VF false (CX D a) D (P:Int) (D^(P+P-1))),.int .i64 0],?_,aj _ rfl⟩;(conv=>whnf)
   refine C9 (enc:=λ r:List Rat=>[AV.sl false (r.map eQ)]) (λ_=>rfl) rfl Bz.symm ?_;(conv=>whnf)
   exact AX rfl (jM _ _ _ _ 0)
theorem AgO (N:w3 L) (q q':Bool) (a:List (List Rat)) (n k:Nat) (hs:Sq n a) (ha:Ms k a) (hn:n<=4) (hk:k<=100000) :
  ∃ v,Ev L 306 [.sl q (CN q' a)] v/\((∃ i,i<=6/\OV n a i/\v = .j5 [.int .i64 ((2^i:Nat):Int),.int .i64 0])\/((∀ j,j<=6->DJ (B6 n a j)=false)/\v = .j5 [.int .i64 0,.int .i64 14])):=by
 have ag:=hs.l;obtain ⟨v,hS,hv⟩:=AgQ N q q' a n k hs ha hn hk;refine Ev.xE N.QI rfl rfl ?_;(repeat' ((first|(apply AG<;>intro hc<;>try (exfalso;omega))|apply AR|apply AE)<;>conv=>whnf))
 refine BP (λ i=>n-i) (λ(i:Nat)=>i<=n) (λ i=>[(13,.int .i64 i)]) (λ_=>[]) [] [] 0 (by (conv=>whnf);exact ⟨rfl,rfl,rfl⟩) (by omega) ?_;intro i p1 ih;by_cases hi:i<n
 ·obtain ⟨r,hr⟩ : ∃ r,a[i]? = some r:=⟨_,zE (by omega)⟩
  have ig:a[(i:Int).toNat]? = some r:=hr;have ax:=hs.at hr;(repeat' ((first|(apply AG<;>intro hc<;>try (exfalso;omega))|(apply AU;omega)|apply AR|(refine BA (by assumption) ?_ rfl ?_;omega)|apply AE)<;>conv=>whnf))
  exact BG [] (ih (i+1) (by omega) (by omega))
 have ei:i=n:=by omega
 clear ih;rcases hv with ⟨t,h1,h2,rfl⟩|⟨h1,rfl⟩
 ·(repeat' ((first|(apply AG<;>intro hc<;>try (exfalso;omega))|apply AE|refine AC (hS) ?_)<;>conv=>whnf))
  exact ⟨_,AX rfl (by simp [A3,CG]),Or.inl ⟨t,h1,h2,rfl⟩⟩
 ·(repeat' ((first|(apply AG<;>intro hc<;>try (exfalso;omega))|apply AE|refine AC (hS) ?_)<;>conv=>whnf))
  exact ⟨_,AX rfl (by simp [A3,CG]),Or.inr ⟨h1,rfl⟩⟩
end Go.c9
namespace Go.c9
open F
attribute [local irreducible] AA AF AP AD CI AY AW A6 A5 B2 AM BQ B8 C8 BM A1 BR B9 AB A7 AJ pw BO BH CH CK CS CP CD BT CJ
attribute [local irreducible] OU
variable {L:Lib}
set_option maxHeartbeats 16000000
set_option maxRecDepth 8000
theorem Ahu {M:List (List (Option Rat))} {i j:Nat} {x:Rat} {r s:List (Option Rat)} (hr:M[i]? = some r) (hs:(M.set i (r.set j (some x)))[j]? = some s):WR M i j x=(M.set i (r.set j (some x))).set j (s.set i (some x)):=by
 have h1:M.getD i []=r:=by rw[List.getD_eq_getElem?_getD,hr];rfl
 have h2:(M.set i (r.set j (some x))).getD j []=s:=by rw[List.getD_eq_getElem?_getD,hs];rfl
 rw[WR,h1,h2]
theorem wS {X:List Rat} {n:Nat} : ∀ u,u<=(BC n n).length->(O6 X n u).length=n /\ ∀ r∈O6 X n u,r.length=n
 | 0,_=>⟨by simp [O6],λ r hr=>by rw[List.eq_of_mem_replicate hr];simp⟩
 | u+1,h=>by
  have ih:=wS (X:=X) (n:=n) u (by omega);obtain ⟨⟨i,j⟩,fj⟩ : ∃ p,(BC n n)[u]? = some p:=⟨_,zE (by omega)⟩;obtain ⟨g1,g2,g3⟩:=fU fj;have e:(BC n n).getD u (0,0)=(i,j):=by rw[List.getD_eq_getElem?_getD,fj];rfl
  rw[O6,e];exact Ahv ih g1 g2
theorem Aht {X:List Rat} {n u i j:Nat} {x:Rat} (fj:(BC n n)[u]? = some (i,j)) (hx:X[u]? = some x):WR (O6 X n u) i j x=O6 X n (u+1):=by
 rw[O6,show (BC n n).getD u (0,0)=(i,j) by rw[List.getD_eq_getElem?_getD,fj];rfl,show X.getD u 0=x by rw[List.getD_eq_getElem?_getD,hx];rfl]
theorem Ajs (m:List (List Rat)):BK 3 eO (m.map (·.map some))=BK 3 eQ m:=by
 rw[BK,BK,List.map_map];refine List.map_congr_left λ r _ => ?_
 show some (3,(r.map some).map eO)=_;rw[List.map_map];rfl
structure V4 (A:List (List Rat)) (B:List Rat) (n k:Nat):Prop where
 sq:Sq n A
 lb:B.length=n
 ba:Ms k A
 bb:Bs k B
 mb:Ms 180 (gM A n)
 rb:Bs 180 (gR B n)
 sc : ∀ r∈CO (gM A n) ((gR B n).map λ x=>[x]),∀ j,Bt 180 (C1 (r.take j))
 wh:Ms 180 (whole (CO (gM A n) ((gR B n).map λ x=>[x])))
theorem AdE {m:Nat} (h:1<=m/\m<=6):6^m*180<=1000000000000/\FG (6^m*180) m m<=1000000000000/\FG (6^m*180) m m+6^m*180<=1000000000000:=by
 rcases (show m=1\/m=2\/m=3\/m=4\/m=5\/m=6 by omega) with rfl|rfl|rfl|rfl|rfl|rfl<;>decide
theorem Ags (N:v7 L) (A:List (List Rat)) (B:List Rat) (n k:Nat) (h:V4 A B n k) (hk:k<=1000) (hn:n<=3) (q1 q2 q3:Bool) :
  ∃ v,Ev L 323 [.agg [.sl q1 (CN q2 A),.sl q3 (B.map eQ)]] v/\((¬ NS (BC n n).length (gM A n)/\v = .j5 [.sl false [],.int .i64 11])\/(NS (BC n n).length (gM A n) /\ ∃ X:List Rat,NY A B X n/\Bs 1000000000000 X/\v = .j5 [.sl false (eM (kM X n)),.int .i64 0])):=by
 have hlen:=fW hn;have ag:=h.sq.l;have hP:=λ q1 q2 q3=>vW N q1 q2 q3 A B n ag hn
 have hE:=λ q1 q2 q3 p1 p2 h1 h2=>Agr N q1 q2 q3 A B n k p1 p2 h.sq h.lb h.ba h.bb (by omega) hn h1 h2
 refine Ev.xE N.QD rfl rfl ?_;(repeat' ((first|apply AR|apply AE)<;>conv=>whnf))
 unfold CS;refine ⟨⟨by omega,by omega,by simp only[EA];omega,by omega⟩,?_⟩;rw[Int.toNat_natCast,ag];(conv=>whnf)
 skip
 refine BP (λ i=>n-i) (λ(i:Nat)=>i<=n) (λ i=>[(24,.int .i64 i)]) (λ i=>[(21,21,.mx (fz none ((BK 3 eO (List.replicate n (List.replicate n none))).take i) n))]) [] [] 0 (by first|exact (by (conv=>whnf);exact ⟨rfl,rfl,rfl⟩)|(rw[List.take_zero,show fz (none:Option (Nat × List (List AV))) [] n=List.replicate n none by simp [fz]];exact (by (conv=>whnf);exact ⟨rfl,rfl,rfl⟩))) (by omega) ?_;intro i p1 ih;have dk:(BK 3 eO (List.replicate n (List.replicate n (none:Option Rat)))).length=n:=by simp [BK]
 have bm:((BK 3 eO (List.replicate n (List.replicate n (none:Option Rat)))).take i).length=i:=by rw[List.length_take];omega
 have eg:=YM (z:=(none:Option (Nat × List (List AV)))) (l:=(BK 3 eO (List.replicate n (List.replicate n (none:Option Rat)))).take i) (m:=n) (by omega);by_cases hi:i<n
 ·have iu:=YN (z:=(none:Option (Nat × List (List AV)))) (x:=some (3,(List.replicate n (none:Option Rat)).map eO)) (l:=(BK 3 eO (List.replicate n (List.replicate n (none:Option Rat)))).take i) (m:=n) (by omega)
  rw[bm,<-UY (show (BK 3 eO (List.replicate n (List.replicate n (none:Option Rat))))[i]? = some (some (3,(List.replicate n (none:Option Rat)).map eO)) by
   rw[BK,List.getElem?_map,List.getElem?_replicate,if_pos hi];rfl)]at iu
  generalize fz (none:Option (Nat × List (List AV))) ((BK 3 eO (List.replicate n (List.replicate n (none:Option Rat)))).take i) n=J at *;(repeat' ((first|(apply AG<;>intro hc<;>try (exfalso;omega))|apply AR|apply AE)<;>conv=>whnf))
  refine EJ (enc:=eO) none n rfl (by omega) (by omega) ?_;(conv=>whnf)
  (repeat' ((first|(apply AZ;omega)|fail)<;>conv=>whnf))
  unfold AP CH;refine ⟨by simp,by omega,?_⟩;(conv=>whnf)
  rw[show 0+((i:Int)).toNat=i by omega,iu];(repeat' ((first|(apply AU;omega)|fail)<;>conv=>whnf))
  exact BG [] (ih (i+1) (by omega) (by omega))
 have ei:i=n:=by omega
 clear ih eg;rw[ei,List.take_of_length_le (by omega),YL (by omega)];clear bm dk ei p1 hi i;by_cases ue:n=0
 ·subst ue
  have hz:(BC 0 0).length=0:=rfl;(repeat' ((first|(apply AG<;>intro hc<;>try (exfalso;omega))|apply AR|apply AE|refine AC (hP _ _ _) ?_)<;>conv=>whnf))
  refine ⟨.j5 [.sl false [],.int .i64 0],?_,Or.inr ⟨λ X hX _ j=>by rw[List.length_eq_zero_iff.1 hX];rfl,[],⟨rfl,λ i r s hr=>by cases hr⟩,⟨(λ x hx=>by cases hx),rfl⟩⟩⟩;(conv=>whnf)
  refine J4 (z:=3) (en:=eQ) (ll:=([]:List (List Rat))) (λ_=>rfl) rfl rfl ?_;(conv=>whnf)
  exact AX rfl (IQ [] 0)
 have vz:1<=(BC n n).length:=by
  rcases TN hn with rfl|rfl|rfl|rfl<;>first|omega|decide
 (repeat' ((first|(apply AG<;>intro hc<;>try (exfalso;omega))|apply AR|apply AE|refine AC (hP _ _ _) ?_)<;>conv=>whnf))
 refine BP (λ u=>(BC n n).length-u) (λ(u:Nat)=>u<=(BC n n).length) (λ u=>[(45,.int .i64 u),(8,.row 8 0 1 0 u),(9,.row 9 0 3 0 u)]) (λ u=>[(8,8,.rw 1 (eM ((gM A n).take u))),(9,9,.rw 3 (((gR B n).take u).map eQ))]) [] [] 0 (by (conv=>whnf);exact ⟨rfl,rfl,rfl⟩) (by omega) ?_;intro u u1 uh;have Kg:(gM A n).length=(BC n n).length:=(YO A).l;have xi:=eI B n;by_cases hu:u<(BC n n).length
 ·obtain ⟨⟨i,j⟩,fj⟩ : ∃ p,(BC n n)[u]? = some p:=⟨_,zE hu⟩
  have Ge:(BC n n)[((u:Nat):Int).toNat]? = some (i,j):=fj;obtain ⟨g1,g2,g3⟩:=fU fj;have wc:(gM A n)[u]? = some (DZ A n (i,j)):=by rw[gM,List.getElem?_map,fj];rfl
  have hrg:(gR B n)[u]? = some (bQ B i*bQ B j):=by rw[gR,List.getElem?_map,fj];rfl
  have Ei:=UY wc;have qh:=UY hrg;have Jh:((gM A n).take u).length=u:=by rw[List.length_take];omega
  have Od:((gR B n).take u).length=u:=by rw[List.length_take];omega
  have Ke:=λ q1 q2 q3=>hE q1 q2 q3 i j g1 g2
  clear hE;generalize (gM A n).take u=G0 at *;generalize (gR B n).take u=R0 at *;generalize DZ A n (i,j)=gr at *;generalize bQ B i*bQ B j=gy at *;(repeat' ((first|(apply AG<;>intro hc<;>try (exfalso;omega))|(apply AZ;omega)|(refine BA (by assumption) ?_ rfl ?_;omega)|apply DW|apply AE|refine AC (Ke _ _ _) ?_)<;>conv=>whnf))
  refine EO (enc:=λ r:List Rat=>[AV.sl false (r.map eQ)]) gr rfl Jh.symm rfl (by omega) (by omega) ?_;(conv=>whnf)
  (repeat' (apply DW<;>conv=>whnf))
  refine EO (enc:=eQ) gy rfl Od.symm rfl (by omega) (by omega) ?_;(conv=>whnf)
  rw[<-Ei,<-qh,show ((gM A n).take (u+1)).length=u+1 by rw[List.length_take];omega,show ((gR B n).take (u+1)).length=u+1 by rw[List.length_take];omega];(repeat' ((first|(apply AU;omega)|fail)<;>conv=>whnf))
  exact BG [(8,58),(9,62)] (uh (u+1) (by omega) (by omega))
 have eu:u=(BC n n).length:=by omega
 clear uh hE;rw[eu,List.take_of_length_le (by omega),List.take_of_length_le (by omega)];clear eu u1 hu u;obtain ⟨d1,d2,d3⟩:=AdE (m:=(BC n n).length) ⟨vz,hlen⟩;have Ku:=λ q q1 q2=>Agk N.tow7 q q1 q2 (gM A n) (gR B n) (BC n n).length 180 180 (YO A).l (YO A).r xi (by omega) (by omega) (by omega) h.mb h.rb h.sc h.wh d1 d2 (B0:=1000000000000) d3
 have Up : ∀ y:List Rat,y.length=(BC n n).length->(∀ (i:Nat) (r:List Rat) (s:Rat),(gM A n)[i]? = some r->(gR B n)[i]? = some s->A0 r y=s)->NY A B y n:=λ y h1 h2=>⟨h1,h2⟩
 generalize gM A n=G at *;generalize gR B n=R at *;(repeat' ((first|(apply AG<;>intro hc<;>try (exfalso;omega))|apply AE)<;>conv=>whnf))
 refine C9 (enc:=λ r:List Rat=>[AV.sl false (r.map eQ)]) (λ_=>rfl) rfl Kg.symm ?_;(conv=>whnf)
 refine C9 (enc:=eQ) (λ_=>rfl) rfl xi.symm ?_;(conv=>whnf)
 obtain ⟨v,hv,bh⟩:=Ku true false true;rcases bh with ⟨fr,rfl⟩|⟨fr,X,rfl,pt,ve,hX⟩
 ·(repeat' ((first|(apply AG<;>intro hc<;>try (exfalso;omega))|refine AC (hv) ?_)<;>conv=>whnf))
  refine ⟨.j5 [.sl false [],.int .i64 11],?_,Or.inl ⟨fr,rfl⟩⟩;(conv=>whnf)
  exact AX rfl (IQ [] 11)
 ·have Gc:=Up X pt hX
  clear Up hX;(repeat' ((first|(apply AG<;>intro hc<;>try (exfalso;omega))|apply AR|refine AC (hv) ?_)<;>conv=>whnf))
  refine BP (λ u=>(BC n n).length-u) (λ(u:Nat)=>u<=(BC n n).length) (λ u=>[(75,.int .i64 u)]) (λ u=>[(21,21,.mx (BK 3 eO (O6 X n u)))]) [] [] 0 (by (conv=>whnf);exact ⟨rfl,rfl,rfl⟩) (by omega) ?_;intro u u1 uh;by_cases hu:u<(BC n n).length
  ·obtain ⟨⟨i,j⟩,fj⟩ : ∃ p,(BC n n)[u]? = some p:=⟨_,zE hu⟩
   have Ge:(BC n n)[((u:Nat):Int).toNat]? = some (i,j):=fj;obtain ⟨g1,g2,g3⟩:=fU fj;obtain ⟨x,hx⟩ : ∃ x,X[u]? = some x:=⟨_,zE (by omega)⟩;have fb:X[((u:Nat):Int).toNat]? = some x:=hx;have hT:=eE N.toa6 (ve.at hx) (by omega);have Cu:=Aht fj hx;obtain ⟨f1,f2⟩:=wS (X:=X) (n:=n) u (by omega);generalize O6 X n u=M0 at *;obtain ⟨r0,s9⟩ : ∃ r,M0[i]? = some r:=⟨_,zE (by omega)⟩;have ax:=f2 r0 (zM s9);obtain ⟨s0,dp⟩ : ∃ s,(M0.set i (r0.set j (some x)))[j]? = some s:=⟨_,zE (by rw[List.length_set];omega)⟩;have Av:s0.length=n:=by
    rcases List.mem_or_eq_of_mem_set (zM dp) with hs|rfl
    ·exact f2 s0 hs
    ·rw[List.length_set];exact ax
   rw[Ahu s9 dp]at Cu;have ck:(M0.set i (r0.set j (some x))).length=n:=by rw[List.length_set];exact f1
   (repeat' ((first|(apply AG<;>intro hc<;>try (exfalso;omega))|(apply AZ;omega)|(refine BA (by assumption) ?_ rfl ?_;omega)|(refine FY ?_ (λ r hr => ?_);omega)|apply AE)<;>conv=>whnf))
   cases s9.symm.trans hr;(repeat' (refine AC (hT) ?_<;>conv=>whnf))
   refine AZ (by rw[List.length_map];exact (by omega)) ?_;(conv=>whnf)
   (repeat' ((first|refine GJ (by assumption) ?_|fail)<;>conv=>whnf))
   refine FF (enc:=eO) (some x) rfl (λ e=>by cases e<;>rfl) (by omega) ?_;(conv=>whnf)
   refine iR (by rw[List.length_set]) ?_;(conv=>whnf)
   generalize M0.set i (r0.set j (some x))=M1 at *;(repeat' ((first|(apply AZ;omega)|(refine BA (by assumption) ?_ rfl ?_;omega)|(refine FY ?_ (λ r hr => ?_);omega))<;>conv=>whnf))
   cases dp.symm.trans hr;(repeat' (refine AC (hT) ?_<;>conv=>whnf))
   refine AZ (by rw[List.length_map];exact (by omega)) ?_;(conv=>whnf)
   (repeat' ((first|refine GJ (by assumption) ?_|fail)<;>conv=>whnf))
   refine FF (enc:=eO) (some x) rfl (λ e=>by cases e<;>rfl) (by omega) ?_;(conv=>whnf)
   refine iR (by rw[List.length_set]) ?_;rw[Cu];(conv=>whnf)
   (repeat' ((first|(apply AU;omega)|fail)<;>conv=>whnf))
   exact BG [] (uh (u+1) (by omega) (by omega))
  ·have eu:u=(BC n n).length:=by omega
   clear uh;have Ac:=(aL X n).l;rw[eu,Ahs hn Gc.1,Ajs];generalize hQ:kM X n=Q at *;(repeat' ((first|(apply AG<;>intro hc<;>try (exfalso;omega))|apply AE)<;>conv=>whnf))
   refine ⟨.j5 [.sl false (eM Q),.int .i64 0],?_,Or.inr ⟨fr,X,Gc,ve,by rw[hQ]⟩⟩;(conv=>whnf)
   refine J4 (λ_=>rfl) rfl Ac.symm ?_;(conv=>whnf)
   exact AX rfl (IQ Q 0)
theorem Agf (N:v7 L) (A:List (List Rat)) (B:List Rat) (n k:Nat) (h:V4 A B n k) (hk:k<=1000) (hn:n<=3) (q1 q2 q3:Bool) :
  ∃ v,Ev L 324 [.sl q1 (CN q2 A),.sl q3 (B.map eQ)] v/\(((∀ j,j<=6->DJ (B6 n A j)=false)/\v = .j5 [.sl false [],.int .i64 14])\/((∃ i,i<=6/\OV n A i)/\((¬ NS (BC n n).length (gM A n)/\v = .j5 [.sl false [],.int .i64 11])\/(NS (BC n n).length (gM A n) /\ ∃ X:List Rat,NY A B X n/\v = .j5 [.sl false (eM (kM X n)),.int .i64 0])))):=by
 have ag:=h.sq.l;have fy:=h.lb;obtain ⟨v,Bo,bh⟩:=AgO N.tow3 q1 q2 A n k h.sq h.ba (by omega) (by omega);obtain ⟨w,hF,Mw⟩:=Ags N A B n k h hk hn q1 q2 q3;refine Ev.xE N.P8 rfl rfl ?_;(repeat' ((first|(apply AG<;>intro hc<;>try (exfalso;omega))|apply AR|apply AE)<;>conv=>whnf))
 refine BP (λ i=>n-i) (λ(i:Nat)=>i<=n) (λ i=>[(22,.int .i64 i)]) (λ_=>[]) [] [] 0 (by (conv=>whnf);exact ⟨rfl,rfl,rfl⟩) (by omega) ?_;intro i p1 ih;by_cases hi:i<n
 ·obtain ⟨r,s9⟩ : ∃ r,A[i]? = some r:=⟨_,zE (by omega)⟩
  have ig:A[((i:Nat):Int).toNat]? = some r:=s9;have ax:=h.sq.at s9;(repeat' ((first|(apply AG<;>intro hc<;>try (exfalso;omega))|(apply AU;omega)|apply AR|(refine BA (by assumption) ?_ rfl ?_;omega)|apply AE)<;>conv=>whnf))
  exact BG [] (ih (i+1) (by omega) (by omega))
 have ei:i=n:=by omega
 clear ih;rw[ei];rcases bh with ⟨i0,i1,i2,rfl⟩|⟨i1,rfl⟩
 ·rcases Mw with ⟨fr,rfl⟩|⟨fr,X,hX,_,rfl⟩
  ·(repeat' ((first|(apply AG<;>intro hc<;>try (exfalso;omega))|apply AE|refine AC (Bo) ?_|refine AC (hF) ?_)<;>conv=>whnf))
   exact ⟨_,AX rfl (IQ [] 11),Or.inr ⟨⟨i0,i1,i2⟩,Or.inl ⟨fr,rfl⟩⟩⟩
  ·generalize hQ:kM X n=Q at *
   (repeat' ((first|(apply AG<;>intro hc<;>try (exfalso;omega))|apply AE|refine AC (Bo) ?_|refine AC (hF) ?_)<;>conv=>whnf))
   exact ⟨_,AX rfl (IQ Q 0),Or.inr ⟨⟨i0,i1,i2⟩,Or.inr ⟨fr,X,hX,by rw[hQ]⟩⟩⟩
 ·(repeat' ((first|(apply AG<;>intro hc<;>try (exfalso;omega))|apply AE|refine AC (Bo) ?_)<;>conv=>whnf))
  exact ⟨_,AX rfl (IQ [] 14),Or.inl ⟨i1,rfl⟩⟩
end Go.c9

namespace Go.c9
open F
attribute [local irreducible] AA AF AP AD CI AY AW A6 A5 B2 AM BQ B8 C8 BM A1 BR B9 AB A7 AJ pw BO BH CH CK CS CP CD BT CJ
variable {L:Lib}
set_option maxHeartbeats 16000000
theorem Ag7 (N:iz L) (q q':Bool) (a:List (List Rat)) (n w:Nat) (hn:a.length=n) (hw : ∀ r∈a,r.length=w) (h1:1<=n/\n<=52) (h2:1<=w/\w<=52):Ev L 239 [.sl q (CN q' a)] (.bool true):=by
 obtain ⟨r0,s9⟩ : ∃ r,a[0]? = some r:=⟨_,zE (by omega)⟩;have Cx:a[(0:Int).toNat]? = some r0:=s9;have mf:=hw r0 (zM s9);refine Ev.x N.RZ rfl rfl ?_;(repeat' ((first|(apply AG<;>intro hc<;>try (exfalso;omega))|apply AR|(refine BA (by assumption) ?_ rfl ?_;omega)|apply AE)<;>conv=>whnf))
 refine BP (λ i=>n-i) (λ(i:Nat)=>i<=n) (λ i=>[(29,.int .i64 i)]) (λ_=>[]) [] [] 0 (by (conv=>whnf);exact ⟨rfl,rfl,rfl⟩) (by omega) ?_;intro i p1 ih;by_cases hi:i<n
 ·obtain ⟨r,hr⟩ : ∃ r,a[i]? = some r:=⟨_,zE (by omega)⟩
  have ig:a[(i:Int).toNat]? = some r:=hr;have hl:=hw r (zM hr);(repeat' ((first|(apply AG<;>intro hc<;>try (exfalso;omega))|(apply AU;omega)|apply AR|(refine BA (by assumption) ?_ rfl ?_;omega)|apply AE)<;>conv=>whnf))
  exact BG [] (ih (i+1) (by omega) (by omega))
 ·obtain rfl:i=n:=by omega
  clear ih;(repeat' ((first|(apply AG<;>intro hc<;>try (exfalso;omega))|apply AE)<;>conv=>whnf))
  exact IJ rfl
theorem AgT (N:br L) {x y:Rat} {k l:Nat} (hx:Bt k x) (hy:Bt l y) (hk:k<2199023255552) (hl:l<2199023255552) (h0:y≠0):Ev L 276 [.agg (eQ x),.agg (eQ y)] (.agg (eQ (x/y))):=by
 have hD:=Agq N.too0 hx hy hk hl h0;refine Ev.x N.RV rfl rfl ?_;(repeat' ((first|(apply AG<;>intro hc<;>try (exfalso;omega))|apply AE|refine AC (hD) ?_)<;>conv=>whnf))
 exact AX rfl (DI _)
theorem Yw {R:List (Option (Nat × List (List AV)))} {e:Nat} {r:Option (Nat × List (List AV))} {K:Option (Nat × List (List AV))->Prop} (h:R[e]? = some r) (hk:K r):BO R e K:=by
 unfold BO;exact ⟨r,h,hk⟩
theorem mS {α:Type} {a b:List α} {j:Nat} {x:α} (hl:a.length=b.length) (hx:b[j]? = some x):(a.take j++b.drop j)[j]? = some x:=by
 have h1:=(zS hx).1;have ht:(a.take j).length=j:=by rw[List.length_take];omega
 rw[List.getElem?_append_right (by omega),ht,Nat.sub_self,List.getElem?_drop];exact hx
theorem mT {α:Type} {a b:List α} {j:Nat} {y:α} (hl:a.length=b.length) (hy:a[j]? = some y):(a.take j++b.drop j).set j y=a.take (j+1)++b.drop (j+1):=by
 have h1:=(zS hy).1;have ht:(a.take j).length=j:=by rw[List.length_take];omega
 rw[List.set_append_right _ _ (by omega),ht,Nat.sub_self,List.drop_eq_getElem_cons (by omega),List.set_cons_zero,List.take_add_one,hy,List.append_assoc];rfl
def E0 (k0:Nat):Nat->Nat
 | 0=>k0
 | c+1=>4*E0 k0 c+1
theorem Ps (k0:Nat) {c:Nat} : ∀ d,E0 k0 c<=E0 k0 (c+d)
 | 0=>Nat.le_refl _
 | d+1=>by
  have:=Ps k0 (c:=c) d
  show E0 k0 c<=4*E0 k0 (c+d)+1;omega
theorem Pu (N:br L) (q1 q2 q3 q4:Bool) (a b T:List (List Rat)) (n W K:Nat) (hn:1<=n/\n<=10) (hW:1<=W/\W<=10) (hK:K<=10000000000) {m:List (List Rat)} {k c:Nat} {d:Rat} {t:List Rat} (hR:EL T b n W m k c) (hM:Ms K m) (Gg:k<n) (ou:c<n) (ht:m[k]? = some t) (hp:t.getD c 0≠0) {kk:List It} {Q:Tm->Mem->Prop}
  (aj : ∀ m2:List (List Rat),EL T b n W m2 (k+1) (c+1)->Ms (4*K+1) m2->AA L (.lp GX.l1 :: .g7 0::kk) ([(8,.int .i64 ((c+1:Nat):Int)),(6,.int .i64 ((k+1:Nat):Int)),(7,.ptr 901007 0 0 0),(5,.ptr 901005 0 0 0),(0,.row 277003 0 1 0 n),(0+1,.int .i64 n)]++[(1000+38,.int .i64 n),(1000+37,.sl q1 (CN q2 a)),(1000+36,.row 277003 0 1 0 n),(1000+20,.bool false),(1000+19,.int .i64 n),(1000+18,.int .i64 n),(1000+6,.row 277003 0 1 0 n),(1000+0,.sl q1 (CN q2 a)),(1000+(0+1),.sl q3 (CN q4 b))]) [(277003,277003,.mx (BK 3 eQ m2)),(901007,901007,.bx (eQ d)),(901005,901005,.bx [.bool false,.nil,.nil])] Q) :
  AA L (.lp GX.l3 :: .g7 4 :: .code ((((BJ.ops GX.ea false).dr [10,82,83,84,102] []).seq (BJ.block 6 GX.l4.loop)).seq ((BJ.ops GX.zs false).dr [103,104,105,155,156] [])) :: .g7 1 :: .code ((BJ.ops GX.r4 false).dr [9,25,26,48] []) :: .lp GX.l1 :: .g7 0::kk)
   ([(83,.int .i64 ((0:Nat):Int)),(82,.int .i64 ((n+W:Nat):Int)),(10,.ptr 901010 0 0 0),(8,.int .i64 c),(6,.int .i64 k),(7,.ptr 901007 0 0 0),(5,.ptr 901005 0 0 0),(0,.row 277003 0 1 0 n),(0+1,.int .i64 n)]++[(1000+38,.int .i64 n),(1000+37,.sl q1 (CN q2 a)),(1000+36,.row 277003 0 1 0 n),(1000+20,.bool false),(1000+19,.int .i64 n),(1000+18,.int .i64 n),(1000+6,.row 277003 0 1 0 n),(1000+0,.sl q1 (CN q2 a)),(1000+(0+1),.sl q3 (CN q4 b))])
   [(277003,277003,.mx (BK 3 eQ m)),(901007,901007,.bx (eQ d)),(901010,901010,.bx (eQ (t.getD c 0))),(901005,901005,.bx [.bool false,.nil,.nil])] Q:=by
 have dk:=hR.len;have bm:=hR.wid t (zM ht);have pc:=hM.at ht;have Wi:=Bs.getD pc c;have Ae:=N0.start hR ht hp (λ q r hq=>hM.at hq);have Bq:=UJ (z:=3) ht;have Ks:(BK 3 eQ m).length=n:=by simp only[BK,List.length_map];omega
 have Dv:(BK 3 eQ m).set k (some (3,(t.map (· / t.getD c 0)).map eQ))=BK 3 eQ (m.set k (t.map (· / t.getD c 0))):=by simp only[BK,List.map_set]
 have Fz:(t.map (· / t.getD c 0)).length=n+W:=by rw[List.length_map];exact bm
 have uc : ∀ (j:Nat) (x:Rat),t[j]? = some x->(t.map (· / t.getD c 0))[j]? = some (x/t.getD c 0):=λ j x hx=>by rw[List.getElem?_map,hx];rfl
 generalize t.map (· / t.getD c 0)=u at *;generalize t.getD c 0=p at *;refine XP (l:=[_,_]) rfl ?_;generalize BK 3 eQ m=R0 at *;have yk:R0.set k (some (3,t.map eQ))=R0:=oL Bq;refine BP (λ j=>n+W-j) (λ(j:Nat)=>j<=n+W) (λ j=>[(83,.int .i64 j)]) (λ j=>[(277003,277003,.mx (R0.set k (some (3,(u.take j++t.drop j).map eQ))))]) [] [] 0 (by first|exact (by (conv=>whnf);exact ⟨rfl,rfl,rfl⟩)|(rw[List.take_zero,List.drop_zero,List.nil_append,yk];exact (by (conv=>whnf);exact ⟨rfl,rfl,rfl⟩))) (by omega) ?_;intro j j1 jh;have n7:(u.take j++t.drop j).length=n+W:=by rw[List.length_append,List.length_take,List.length_drop];omega
 by_cases hj:j<n+W
 ·obtain ⟨x,hx⟩ : ∃ x,t[j]? = some x:=⟨_,zE (by omega)⟩
  have Gq:=mS (a:=u) (by omega) hx;have lk:=mT (a:=u) (b:=t) (by omega) (uc j x hx);have hO:=AgT N (pc.at hx) Wi (by omega) (by omega) hp;generalize u.take j++t.drop j=cm at *;(repeat' ((first|(apply AG<;>intro hc<;>try (exfalso;omega))|(apply AZ;omega)|apply AE)<;>conv=>whnf))
  refine V6 (by omega) (by omega) ?_;(conv=>whnf)
  (repeat' ((first|(apply AZ;omega)|fail)<;>conv=>whnf))
  refine V6 (by omega) (by omega) ?_;(conv=>whnf)
  skip
  refine AZ (by rw[List.length_map];omega) ?_;(conv=>whnf)
  skip
  refine TT (by omega) (by omega) ?_;(conv=>whnf)
  (repeat' ((first|(refine F9 ?_ (λ_=>rfl) (λ v hv => ?_);omega)|fail)<;>conv=>whnf))
  cases Gq.symm.trans hv;(repeat' (refine AC (hO) ?_<;>conv=>whnf))
  refine AZ (by rw[List.length_map];omega) ?_;(conv=>whnf)
  skip
  refine TT (by omega) (by omega) ?_;(conv=>whnf)
  refine FF (enc:=eQ) (x/p) rfl (λ_=>rfl) (by omega) ?_;rw[lk];(conv=>whnf)
  refine cM (by omega) (by rw[List.length_map,List.length_map,<-lk,List.length_set]) ?_;(conv=>whnf)
  (repeat' ((first|(apply AU;omega)|fail)<;>conv=>whnf))
  exact BG [] (jh (j+1) (by omega) (by omega))
 ·have ej:j=n+W:=by omega
  clear jh;rw[ej,List.take_of_length_le (by omega),List.drop_of_length_le (by omega),List.append_nil,Dv];clear n7 hj j1 ej j Dv Bq Ks yk uc Fz;have ib:=Ae.red.len;generalize m.set k u=m2 at *;(repeat' ((first|(apply AG<;>intro hc<;>try (exfalso;omega))|apply AE)<;>conv=>whnf))
  refine XP (l:=[_,_]) rfl ?_;clear ht hM pc hR dk Wi bm t hp;have je:=Ae.red.wid u (zM Ae.ht);have nr:=Ae.bt;refine FV (λ_ i=>n-i) (λ(m:List (List Rat)) (i:Nat)=>N0 T b n W K k c u m i/\i<=n) (λ_ i=>[(104,.int .i64 i)]) (λ m _=>[(277003,277003,.mx (BK 3 eQ m))]) [] [] m2 0 (by (conv=>whnf);exact ⟨rfl,rfl,rfl⟩) ⟨Ae,by omega⟩ ?_;clear Ae ib;intro m i ⟨hS,i1⟩ ih;have dk:=hS.red.len;by_cases hi:i<n
  ·obtain ⟨rq,ft⟩ : ∃ r,m[i]? = some r:=⟨_,zE (by omega)⟩
   have xu:=hS.red.wid rq (zM ft);have tj:Bs (2*K) rq:=by
    by_cases e:i=k
    ·have h1:=hS.ht
     rw[<-e]at h1;cases h1.symm.trans ft;exact nr
    ·exact λ y hy=>(hS.hi i rq (Nat.le_refl _) e ft y hy).le (by omega)
   have tk:rq[c]? = some (rq.getD c 0):=VK (by omega);have xn:=tj.at tk;obtain ⟨sg,vb,hz⟩:=wI N.too0 xn (by omega);by_cases nn:i=k
   ·have k6:=hS.same (λ h=>absurd nn h)
    generalize rq.getD c 0=f at *;(repeat' ((first|(apply AG<;>intro hc<;>try (exfalso;omega))|(apply AZ;omega)|(refine FY ?_ (λ r hr => ?_);omega)|apply AE)<;>conv=>whnf))
    cases ft.symm.trans hr;refine AZ (by rw[List.length_map];omega) ?_;(conv=>whnf)
    (repeat' ((first|(apply AG<;>intro hc<;>try (exfalso;omega))|(apply AU;omega)|(refine F9 ?_ (λ_=>rfl) (λ v hv => ?_);omega)|refine GJ (by assumption) ?_)<;>conv=>whnf))
    exact BG [] (ih m (i+1) (by omega) ⟨k6,by omega⟩)
   ·by_cases rz:sg=0
    ·have Ga:=hz.1 rz
     have k6:=hS.same (λ_ r h=>by cases ft.symm.trans h;exact Ga);generalize rq.getD c 0=f at *;(repeat' ((first|(apply AG<;>intro hc<;>try (exfalso;omega))|(apply AZ;omega)|(refine FY ?_ (λ r hr => ?_);omega)|apply AE)<;>conv=>whnf))
     cases ft.symm.trans hr;refine AZ (by rw[List.length_map];omega) ?_;(conv=>whnf)
     (repeat' ((first|(apply AG<;>intro hc<;>try (exfalso;omega))|(refine F9 ?_ (λ_=>rfl) (λ v hv => ?_);omega)|refine GJ (by assumption) ?_)<;>conv=>whnf))
     cases tk.symm.trans hv;(repeat' ((first|(apply AG<;>intro hc<;>try (exfalso;omega))|(apply AU;omega)|refine AC (vb) ?_)<;>conv=>whnf))
     exact BG [] (ih m (i+1) (by omega) ⟨k6,by omega⟩)
    ·have k6:=hS.step ft nn
     have Bq:=UJ (z:=3) ft;have hRk:=UJ (z:=3) hS.ht;have Ks:(BK 3 eQ m).length=n:=by simp only[BK,List.length_map];omega
     have Dv:(BK 3 eQ m).set i (some (3,(kb (rq.getD c 0) rq u).map eQ))=BK 3 eQ (m.set i (kb (rq.getD c 0) rq u)):=by simp only[BK,List.map_set]
     have n7:(kb (rq.getD c 0) rq u).length=n+W:=by rw[jS (by omega)];exact xu
     have mw : ∀ (j:Nat) (x y:Rat),rq[j]? = some x->u[j]? = some y->(kb (rq.getD c 0) rq u)[j]? = some (x-rq.getD c 0*y):=λ j x y h1 h2=>sX h1 h2
     generalize kb (rq.getD c 0) rq u=cb at *;generalize rq.getD c 0=f at *;(repeat' ((first|(apply AG<;>intro hc<;>try (exfalso;omega))|(apply AZ;omega)|(refine FY ?_ (λ r hr => ?_);omega)|apply AE)<;>conv=>whnf))
     cases ft.symm.trans hr;refine AZ (by rw[List.length_map];omega) ?_;(conv=>whnf)
     (repeat' ((first|(apply AG<;>intro hc<;>try (exfalso;omega))|(refine F9 ?_ (λ_=>rfl) (λ v hv => ?_);omega)|refine GJ (by assumption) ?_)<;>conv=>whnf))
     cases tk.symm.trans hv;(repeat' ((first|(apply AG<;>intro hc<;>try (exfalso;omega))|(apply AZ;omega)|(refine FY ?_ (λ r hr => ?_);omega)|refine AC (vb) ?_)<;>conv=>whnf))
     cases ft.symm.trans hr;rw[show (rq.map eQ).length=n+W by rw[List.length_map];exact xu];generalize BK 3 eQ m=R1 at *;have yk:R1.set i (some (3,rq.map eQ))=R1:=oL Bq;refine BP (λ j=>n+W-j) (λ(j:Nat)=>j<=n+W) (λ j=>[(127,.int .i64 j)]) (λ j=>[(277003,277003,.mx (R1.set i (some (3,(cb.take j++rq.drop j).map eQ))))]) [] [] 0 (by first|exact (by (conv=>whnf);exact ⟨rfl,rfl,rfl⟩)|(rw[List.take_zero,List.drop_zero,List.nil_append,yk];exact (by (conv=>whnf);exact ⟨rfl,rfl,rfl⟩))) (by omega) ?_;intro j j1 jh;have Lk:(cb.take j++rq.drop j).length=n+W:=by rw[List.length_append,List.length_take,List.length_drop];omega
     by_cases hj:j<n+W
     ·obtain ⟨x,hx⟩ : ∃ x,rq[j]? = some x:=⟨_,zE (by omega)⟩
      obtain ⟨y,hy⟩ : ∃ y,u[j]? = some y:=⟨_,zE (by omega)⟩;have Gq:=mS (a:=cb) (by omega) hx;have lk:=mT (a:=cb) (b:=rq) (by omega) (mw j x y hx hy);have Fa:=TB N.tob8 xn (nr.at hy) (by omega) (by omega);have Fl:=wJ N.too0 (tj.at hx) (xn.mul (nr.at hy)) (by omega) (by omega);generalize cb.take j++rq.drop j=cm at *;have Fh:(R1.set i (some (3,cm.map eQ)))[k]? = some (some (3,u.map eQ)):=by rw[List.getElem?_set,if_neg nn];exact hRk
      (repeat' ((first|(apply AG<;>intro hc<;>try (exfalso;omega))|(apply AZ;omega)|apply AE)<;>conv=>whnf))
      refine V6 (by omega) (by omega) ?_;(conv=>whnf)
      (repeat' ((first|(apply AZ;omega)|fail)<;>conv=>whnf))
      refine V6 (by omega) (by omega) ?_;(conv=>whnf)
      skip
      refine AZ (by rw[List.length_map];omega) ?_;(conv=>whnf)
      skip
      refine TT (by omega) (by omega) ?_;(conv=>whnf)
      (repeat' ((first|(apply AZ;omega)|(refine F9 ?_ (λ_=>rfl) (λ v hv => ?_);omega))<;>conv=>whnf))
      cases Gq.symm.trans hv;skip
      refine Yw (r:=some (3,u.map eQ)) (by rw[show 0+((k:Nat):Int).toNat=k by omega];exact Fh) ?_;(conv=>whnf)
      skip
      refine AZ (by rw[List.length_map];omega) ?_;(conv=>whnf)
      skip
      refine cC (by rw[show 0+((k:Nat):Int).toNat=k by omega];exact Fh) ?_;(conv=>whnf)
      (repeat' ((first|(refine F9 ?_ (λ_=>rfl) (λ v hv => ?_);omega)|fail)<;>conv=>whnf))
      cases hy.symm.trans hv;(repeat' ((first|refine AC (Fa) ?_|refine AC (Fl) ?_)<;>conv=>whnf))
      refine AZ (by rw[List.length_map];omega) ?_;(conv=>whnf)
      skip
      refine TT (by omega) (by omega) ?_;(conv=>whnf)
      refine FF (enc:=eQ) (x-f*y) rfl (λ_=>rfl) (by omega) ?_;rw[lk];(conv=>whnf)
      refine cM (by omega) (by rw[List.length_map,List.length_map,<-lk,List.length_set]) ?_;(conv=>whnf)
      (repeat' ((first|(apply AU;omega)|fail)<;>conv=>whnf))
      exact BG [] (jh (j+1) (by omega) (by omega))
     ·have ej:j=n+W:=by omega
      clear jh;rw[ej,List.take_of_length_le (by omega),List.drop_of_length_le (by omega),List.append_nil,Dv];(repeat' ((first|(apply AG<;>intro hc<;>try (exfalso;omega))|(apply AU;omega)|apply AE)<;>conv=>whnf))
      exact BG [] (ih (m.set i cb) (i+1) (by omega) ⟨k6,by omega⟩)
  ·have ei:i=n:=by omega
   rw[ei]at hS;obtain ⟨g1,g2⟩:=hS.fin ou;clear ih;(repeat' ((first|(apply AG<;>intro hc<;>try (exfalso;omega))|(apply AU;omega)|apply AE)<;>conv=>whnf))
   exact BW [] (by (conv=>whnf);exact ⟨rfl,rfl,rfl⟩) (aj m g1 (λ r hr=>by
    obtain ⟨q,hq⟩:=List.getElem?_of_mem hr;exact g2 q r hq))
theorem Aj4 (N:br L) (q1 q2 q3 q4:Bool) (a b T:List (List Rat)) (n W k0:Nat) (hn:1<=n/\n<=10) (hW:1<=W/\W<=10) (fy:b.length=n) (hB:10*E0 k0 n<=100000000000) (hT:Sq n T) {m0:List (List Rat)} (Fg:EL T b n W m0 0 0) (Kk:Ms k0 m0) {kk:List It} {Q:Tm->Mem->Prop}
  (aj : ∀ (m:List (List Rat)) (k c:Nat) (d:Rat),EL T b n W m k c->(k<n/\c=n\/k=n/\c=n)->Ms (E0 k0 n) m->Bt 100000000000 d->AA L kk ([(8,.int .i64 c),(6,.int .i64 k),(7,.ptr 901007 0 0 0),(5,.ptr 901005 0 0 0),(0,.row 277003 0 1 0 n),(0+1,.int .i64 n)]++[(1000+38,.int .i64 n),(1000+37,.sl q1 (CN q2 a)),(1000+36,.row 277003 0 1 0 n),(1000+20,.bool false),(1000+19,.int .i64 n),(1000+18,.int .i64 n),(1000+6,.row 277003 0 1 0 n),(1000+0,.sl q1 (CN q2 a)),(1000+(0+1),.sl q3 (CN q4 b))]) [(277003,277003,.mx (BK 3 eQ m)),(901007,901007,.bx (eQ d)),(901005,901005,.bx [.bool false,.nil,.nil])] Q) :
  AA L (.lp GX.l1 :: .g7 0::kk) ([(8,.int .i64 ((0:Nat):Int)),(6,.int .i64 ((0:Nat):Int)),(7,.ptr 901007 0 0 0),(5,.ptr 901005 0 0 0),(0,.row 277003 0 1 0 n),(0+1,.int .i64 n)]++[(1000+38,.int .i64 n),(1000+37,.sl q1 (CN q2 a)),(1000+36,.row 277003 0 1 0 n),(1000+20,.bool false),(1000+19,.int .i64 n),(1000+18,.int .i64 n),(1000+6,.row 277003 0 1 0 n),(1000+0,.sl q1 (CN q2 a)),(1000+(0+1),.sl q3 (CN q4 b))]) [(277003,277003,.mx (BK 3 eQ m0)),(901007,901007,.bx (eQ ((1:Int):Rat))),(901005,901005,.bx [.bool false,.nil,.nil])] Q:=by
 refine XP (l:=[_,_]) rfl ?_;refine bW (λ_ c _ _=>n-c) (λ(m:List (List Rat)) (c k:Nat) (d:Rat)=>EL T b n W m k c/\Ms (E0 k0 c) m/\Bt (c*E0 k0 n) d) (λ_ c k _=>[(8,.int .i64 c),(6,.int .i64 k)]) (λ m _ _ d=>[(277003,277003,.mx (BK 3 eQ m)),(901007,901007,.bx (eQ d))]) [24] [] m0 0 0 ((1:Int):Rat) (by (conv=>whnf);exact ⟨rfl,rfl,rfl⟩) ⟨Fg,Kk,Bt.one _⟩ ?_;intro m c k d ⟨hR,hM,hd⟩ eh;have dk:=hR.len;have Mi:=hR.le;have AuM:=hR.cn;have Ur:=Ps k0 (c:=c) (n-c);rw[show c+(n-c)=n by omega]at Ur;have hcX:c*E0 k0 n<=10*E0 k0 n:=Nat.mul_le_mul_right _ (by omega);by_cases ou:c<n/\k<n
 ·(repeat' ((first|(apply AG<;>intro hc<;>try (exfalso;omega))|apply AE)<;>conv=>whnf))
  refine BP (λ i=>n-i) (λ(i:Nat)=>k<=i/\i<=n /\ ∀ (q:Nat) (r:List Rat),k<=q->q<i->m[q]? = some r->r.getD c 0=0) (λ i=>[(9,.int .i64 i)]) (λ_=>[]) [] [] k (by (conv=>whnf);exact ⟨rfl,rfl,rfl⟩) ⟨Nat.le_refl _,by omega,λ q r h1 h2=>absurd h2 (by omega)⟩ ?_;intro i ⟨i1,i2,i3⟩ ih;by_cases hi:i<n
  ·obtain ⟨rp,s9⟩ : ∃ r,m[i]? = some r:=⟨_,zE (by omega)⟩
   have ax:=hR.wid rp (zM s9);have jt:rp[c]? = some (rp.getD c 0):=VK (by omega);obtain ⟨sg,vb,hz⟩:=wI N.too0 (hM.at s9 _ (zM jt)) (by omega);generalize nq:rp.getD c 0=rc at *;by_cases rz:sg=0
   ·(repeat' ((first|(apply AG<;>intro hc<;>try (exfalso;omega))|(apply AZ;omega)|(refine FY ?_ (λ r hr => ?_);omega)|apply AE)<;>conv=>whnf))
    cases s9.symm.trans hr;refine AZ (by rw[List.length_map];omega) ?_;(conv=>whnf)
    (repeat' ((first|(refine F9 ?_ (λ_=>rfl) (λ v hv => ?_);omega)|refine GJ (by assumption) ?_)<;>conv=>whnf))
    cases jt.symm.trans hv;(repeat' ((first|(apply AG<;>intro hc<;>try (exfalso;omega))|(apply AU;omega)|refine AC (vb) ?_)<;>conv=>whnf))
    have i4 : ∀ (q:Nat) (r:List Rat),k<=q->q<i+1->m[q]? = some r->r.getD c 0=0:=λ q r h1 h2 h3=>by
     by_cases e:q=i
     ·subst e
      cases s9.symm.trans h3;rw[nq];exact hz.1 rz
     ·exact i3 q r h1 (by omega) h3
    exact BG [] (ih (i+1) (by omega) ⟨by omega,by omega,i4⟩)
   ·clear ih i3
    have Gv:rc≠0:=λ e=>rz (hz.2 e)
    obtain ⟨t,xx⟩ : ∃ t,m[k]? = some t:=⟨_,zE (by omega)⟩;have yi:=hM.at s9 _ (zM jt);by_cases nn:i=k
    ·have Fa:=TB N.tob8 hd yi (by omega) (by omega)
     have Lp:Bt ((c+1)*E0 k0 n) (d*rc):=(hd.mul yi).le (by rw[Nat.succ_mul];omega);subst nn;(repeat' ((first|(apply AG<;>intro hc<;>try (exfalso;omega))|(apply AZ;omega)|(refine FY ?_ (λ r hr => ?_);omega)|apply AE)<;>conv=>whnf))
     cases s9.symm.trans hr;refine AZ (by rw[List.length_map];omega) ?_;(conv=>whnf)
     (repeat' ((first|(refine F9 ?_ (λ_=>rfl) (λ v hv => ?_);omega)|refine GJ (by assumption) ?_)<;>conv=>whnf))
     cases jt.symm.trans hv;(repeat' ((first|(apply AG<;>intro hc<;>try (exfalso;omega))|(apply AZ;omega)|(refine FY ?_ (λ r hr => ?_);omega)|refine AC (vb) ?_)<;>conv=>whnf))
     cases s9.symm.trans hr;refine AZ (by rw[List.length_map];omega) ?_;(conv=>whnf)
     (repeat' ((first|(refine F9 ?_ (λ_=>rfl) (λ v hv => ?_);omega)|refine GJ (by assumption) ?_)<;>conv=>whnf))
     cases jt.symm.trans hv;(repeat' ((first|(apply AZ;omega)|(refine FY ?_ (λ r hr => ?_);omega)|refine AC (Fa) ?_)<;>conv=>whnf))
     cases s9.symm.trans hr;rw[show (rp.map eQ).length=n+W by rw[List.length_map];exact ax];subst nq;exact BW [] (by (conv=>whnf);exact ⟨rfl,rfl,rfl⟩) (Pu N q1 q2 q3 q4 a b T n W (E0 k0 c) hn hW (by omega) hR hM ou.2 ou.1 s9 Gv λ m2 g1 g2=>BW [] (by (conv=>whnf);exact ⟨rfl,rfl,rfl⟩) (eh m2 (c+1) (i+1) _ (by omega) ⟨g1,g2,Lp⟩))
    ·have hNg:=eA N.too0 hd (by omega)
     have Fa:=TB N.tob8 (Bt.wy hd) yi (by omega) (by omega);have Lp:Bt ((c+1)*E0 k0 n) (-d*rc):=((Bt.wy hd).mul yi).le (by rw[Nat.succ_mul];omega);refine Ya 24 ?_;(conv=>whnf)
     (repeat' ((first|(apply AG<;>intro hc<;>try (exfalso;omega))|(apply AZ;omega)|(refine FY ?_ (λ r hr => ?_);omega))<;>conv=>whnf))
     cases s9.symm.trans hr;refine AZ (by rw[List.length_map];omega) ?_;(conv=>whnf)
     (repeat' ((first|(refine F9 ?_ (λ_=>rfl) (λ v hv => ?_);omega)|refine GJ (by assumption) ?_)<;>conv=>whnf))
     cases jt.symm.trans hv;(repeat' ((first|(apply AG<;>intro hc<;>try (exfalso;omega))|(apply AZ;omega)|(refine FY ?_ (λ r hr => ?_);omega)|refine GJ (by assumption) ?_|refine AC (vb) ?_)<;>conv=>whnf))
     refine AZ ⟨rfl,by simp only[BK,List.length_map];omega⟩ ?_;(conv=>whnf)
     (repeat' ((first|(apply AZ;omega)|refine GJ (by assumption) ?_)<;>conv=>whnf))
     rw[show 0+((i:Nat):Int).toNat=i by omega,show 0+((k:Nat):Int).toNat=k by omega];refine AZ ⟨rfl,by simp only[BK,List.length_map,List.length_set,List.length_range];omega,Sj (by simp only[BK,List.length_map];omega)⟩ ?_;(conv=>whnf)
     refine qK (k:=277003) (i:=i) (j:=k) rfl (UJ s9) (UJ xx) rfl rfl ?_;rw[zI];have Kr:=hR.swap s9 xx i1;have dj:Ms (E0 k0 c) ((m.set i t).set k rp):=λ x hx=>by
      rcases List.mem_or_eq_of_mem_set hx with h|rfl
      ·rcases List.mem_or_eq_of_mem_set h with h|rfl
       ·exact hM x h
       ·exact hM.at xx
      ·exact hM.at s9
     have ia:((m.set i t).set k rp)[k]? = some rp:=by rw[List.getElem?_set,if_pos rfl,if_pos (by rw[List.length_set];omega)]
     have vp:=Kr.len;generalize (m.set i t).set k rp=m1 at *;(repeat' ((first|(apply AZ;omega)|(refine FY ?_ (λ r hr => ?_);omega)|apply AE|refine AC (hNg) ?_)<;>conv=>whnf))
     cases ia.symm.trans hr;refine AZ (by rw[List.length_map];omega) ?_;(conv=>whnf)
     (repeat' ((first|(refine F9 ?_ (λ_=>rfl) (λ v hv => ?_);omega)|refine GJ (by assumption) ?_)<;>conv=>whnf))
     cases jt.symm.trans hv;(repeat' ((first|(apply AZ;omega)|(refine FY ?_ (λ r hr => ?_);omega)|refine AC (Fa) ?_)<;>conv=>whnf))
     cases ia.symm.trans hr;rw[show (rp.map eQ).length=n+W by rw[List.length_map];exact ax];subst nq;exact BW [] (by (conv=>whnf);exact ⟨rfl,rfl,rfl⟩) (Pu N q1 q2 q3 q4 a b T n W (E0 k0 c) hn hW (by omega) Kr dj ou.2 ou.1 ia Gv λ m2 g1 g2=>BW [] (by (conv=>whnf);exact ⟨rfl,rfl,rfl⟩) (eh m2 (c+1) (k+1) _ (by omega) ⟨g1,g2,Lp⟩))
  ·have ei:i=n:=by omega
   clear ih;have i4 : ∀ (q:Nat) (r:List Rat),k<=q->m[q]? = some r->r.getD c 0=0:=λ q r h1 h3=>i3 q r h1 (by have:=(zS h3).1;omega) h3
   have hR9:=hR.skip hT fy ou.1 i4;clear i3 i4;(repeat' ((first|(apply AG<;>intro hc<;>try (exfalso;omega))|(apply AU;omega)|apply AE)<;>conv=>whnf))
   exact BW [] (by (conv=>whnf);exact ⟨rfl,rfl,rfl⟩) (eh m (c+1) k d (by omega) ⟨hR9,hM.le (show E0 k0 c<=4*E0 k0 c+1 by omega),hd.le (Nat.mul_le_mul_right _ (by omega))⟩)
 ·clear eh
  have Gk:k<n/\c=n\/k=n/\c=n:=by omega
  (repeat' ((first|(apply AG<;>intro hc<;>try (exfalso;omega))|apply AE)<;>conv=>whnf))
  exact BW [] (by (conv=>whnf);exact ⟨rfl,rfl,rfl⟩) (aj m k c d hR Gk (hM.le Ur) (hd.le (by omega)))
theorem Ago (N:br L) (q1 q2 q3 q4:Bool) (a b:List (List Rat)) (n W k:Nat) (hT:Sq n a) (fy:b.length=n) (td : ∀ r∈b,r.length=W) (jo:Ms k b) (hn:1<=n/\n<=10) (hW:1<=W/\W<=10) (jk:Ms k a) (hk:k<=1000) (hB:10*E0 k n<=100000000000) :
  ∃ v,Ev L 278 [.sl q1 (CN q2 a),.sl q3 (CN q4 b)] v/\((¬ NS n a/\v = .j5 [.sl false [],.int .i64 11])\/(NS n a /\ ∃ m:List (List Rat),v = .j5 [.sl false (eM (m.map (·.drop n))),.int .i64 0]/\EL a b n W m n n/\Ms (E0 k n) m)):=by
 have ag:=hT.l;have mc : ∀ r∈a,r.length=n:=hT.r;have Fg:EL a b n W (CO a b) 0 0:=EL.start hT fy td;have cp:(CO a b).length=n:=by simp [CO,ag,fy]
 obtain ⟨Iz,Ap⟩:=AiN mc td jk jo;have hI:=YH N.tob8 1 (by omega);refine Ev.xE N.R3 rfl rfl ?_;(repeat' (apply AE<;>conv=>whnf))
 refine GI 1000 N.R4 rfl rfl ?_;(repeat' ((first|apply AR|apply AE)<;>conv=>whnf))
 refine bX 277003 277003 rfl ?_;refine BP (λ i=>n-i) (λ(i:Nat)=>i<=n) (λ i=>[(11,.int .i64 i),(3,.row 277003 0 1 0 i)]) (λ i=>[(277003,277003,.mx (BK 3 eQ (a.take i)))]) [] [] 0 (by (conv=>whnf);exact ⟨rfl,rfl,rfl⟩) (by omega) ?_;intro i p1 ih;have Ji:(a.take i).length=i:=by rw[List.length_take];omega
 by_cases hi:i<n
 ·obtain ⟨r,hr⟩ : ∃ r,a[i]? = some r:=⟨_,zE (by omega)⟩
  have ig:a[(i:Int).toNat]? = some r:=hr;have ax:=mc r (zM hr);have jd:=jk.at hr;have hts:=Y7 hr;generalize a.take i=R0 at *;(repeat' ((first|(apply AG<;>intro hc<;>try (exfalso;omega))|apply AR|(refine BA (by assumption) ?_ rfl ?_;omega)|apply AE)<;>conv=>whnf))
  refine BP (λ j=>n-j) (λ(j:Nat)=>j<=n) (λ j=>[(17,.int .i64 j),(6,.row 277006 0 3 0 j)]) (λ j=>[(277006,277006,.rw 3 ((r.take j).map eQ))]) [] [] 0 (by (conv=>whnf);exact ⟨rfl,rfl,rfl⟩) (by omega) ?_;intro j p2 jh;have Df:(r.take j).length=j:=by rw[List.length_take];omega
  by_cases hj:j<n
  ·obtain ⟨x,hx⟩ : ∃ x,r[j]? = some x:=⟨_,zE (by omega)⟩
   have fb:r[(j:Int).toNat]? = some x:=hx;have lk:=Y7 hx;have hT:=eC N.tob8 (jd.at hx) (by omega);generalize r.take j=M0 at *;(repeat' ((first|(apply AG<;>intro hc<;>try (exfalso;omega))|(refine BA (by assumption) ?_ rfl ?_;omega)|apply DW|apply AE|refine AC (hT) ?_)<;>conv=>whnf))
   refine EO (enc:=eQ) x rfl Df.symm rfl (by omega) (by omega) ?_;(conv=>whnf)
   (repeat' ((first|(apply AU;omega)|fail)<;>conv=>whnf))
   rw[<-lk,show (r.take (j+1)).length=j+1 by rw[List.length_take];omega];exact BG [(277006,277025)] (jh (j+1) (by omega) (by omega))
  ·obtain rfl:j=n:=by omega
   clear jh;rw[List.take_of_length_le (by omega)];(repeat' ((first|(apply AG<;>intro hc<;>try (exfalso;omega))|apply AE)<;>conv=>whnf))
   refine AZ (by rw[List.length_map,ax]) ?_;refine XR (r:=r) (en:=eQ) Ji.symm (by omega) (by omega) ?_;rw[<-hts,show (a.take (i+1)).length=i+1 by rw[List.length_take];omega];(conv=>whnf)
   (repeat' ((first|(apply AU;omega)|fail)<;>conv=>whnf))
   exact BG [(277003,277030)] (ih (i+1) (by omega) (by omega))
 ·obtain rfl:i=n:=by omega
  clear ih;rw[List.take_of_length_le (by omega)];(repeat' ((first|(apply AG<;>intro hc<;>try (exfalso;omega))|apply AE)<;>conv=>whnf))
  refine ⟨rfl,_,rfl,?_⟩;(conv=>whnf)
  skip
  refine BP (λ j=>i-j) (λ(j:Nat)=>j<=i) (λ j=>[(19,.int .i64 j)]) (λ j=>[(277003,277003,.mx (BK 3 eQ ((CO a b).take j++a.drop j)))]) [] [] 0 (by first|exact (by (conv=>whnf);exact ⟨rfl,rfl,rfl⟩)|(rw[List.take_zero,List.drop_zero,List.nil_append];exact (by (conv=>whnf);exact ⟨rfl,rfl,rfl⟩))) (by omega) ?_;intro j p2 jh;have dk:((CO a b).take j++a.drop j).length=i:=by rw[List.length_append,List.length_take,List.length_drop];omega
  by_cases hj:j<i
  ·obtain ⟨r,s9⟩ : ∃ r,a[j]? = some r:=⟨_,zE (by omega)⟩
   obtain ⟨s,dp⟩ : ∃ s,b[j]? = some s:=⟨_,zE (by omega)⟩;have Ns:b[(j:Int).toNat]? = some s:=dp;have ax:=mc r (zM s9);have Av:=td s (zM dp);have hRj:=mS (a:=CO a b) (by omega) s9;have hRs:=mT (a:=CO a b) (b:=a) (by omega) (VN s9 dp);generalize (CO a b).take j++a.drop j=R0 at *;(repeat' ((first|(apply AG<;>intro hc<;>try (exfalso;omega))|(apply AZ;omega)|(refine BA (by assumption) ?_ rfl ?_;omega)|(refine FY ?_ (λ r hr => ?_);omega)|refine GJ (by assumption) ?_|apply AE)<;>conv=>whnf))
   cases hRj.symm.trans hr;refine bZ (enc:=eQ) (by rw[List.length_map]) (λ_=>rfl) (by omega) (by omega) ?_;intro s' v;(conv=>whnf)
   (repeat' ((first|(apply AZ;omega)|fail)<;>conv=>whnf))
   refine AZ ⟨rfl,by rw[List.length_map]⟩ ?_;refine XZ (i:=j) (by omega) (by rw[List.length_set];simp only[BK,List.length_map];omega) ?_;rw[show 0+((j:Int)).toNat=j by omega,List.set_set,show (BK 3 eQ R0).set j (some (3,(r++s).map eQ))=BK 3 eQ (R0.set j (r++s)) by simp only[BK,List.map_set],hRs];(conv=>whnf)
   (repeat' ((first|(apply AU;omega)|fail)<;>conv=>whnf))
   exact BG [] (jh (j+1) (by omega) (by omega))
  ·have ej:j=i:=by omega
   clear jh;rw[ej,List.take_of_length_le (by omega),List.drop_of_length_le (by omega),List.append_nil];(repeat' ((first|(apply AG<;>intro hc<;>try (exfalso;omega))|apply AR|apply AE)<;>conv=>whnf))
   rw[ag];refine E2 1000 N.GX rfl rfl ?_;(repeat' ((first|apply AE|refine AC (hI) ?_)<;>conv=>whnf))
   refine BW [] (by (conv=>whnf);exact ⟨rfl,rfl,rfl⟩) (Aj4 N q1 q2 q3 q4 a b a i W k hn hW fy hB hT Fg Ap (λ m k2 c2 d h1 h2 h3 h4 => ?_));by_cases ia:k2<i
   ·(repeat' (apply AE<;>conv=>whnf))
    refine ⟨rfl,?_⟩;(conv=>whnf)
    (repeat' ((first|(apply AG<;>intro hc<;>try (exfalso;omega))|apply AR)<;>conv=>whnf))
    exact ⟨_,AX rfl (by simp only[A3,CG,FP,true_and,and_true]),Or.inl ⟨h1.sk (by omega),rfl⟩⟩
   ·have Gg:k2=i/\c2=i:=by omega
    obtain ⟨rfl,rfl⟩:=Gg;(repeat' (apply AE<;>conv=>whnf))
    refine ⟨rfl,?_⟩;(conv=>whnf)
    (repeat' ((first|(apply AG<;>intro hc<;>try (exfalso;omega))|apply AR)<;>conv=>whnf))
    refine bX 10 10 rfl ?_;have vp:=h1.len;have fr:NS c2 a:=h1.nsT hT;have aj : ∀ r:AV,r = .j5 [.sl false (eM (m.map (·.drop c2))),.int .i64 0]->((¬ NS c2 a/\r = .j5 [.sl false [],.int .i64 11])\/(NS c2 a /\ ∃ m:List (List Rat),r = .j5 [.sl false (eM (m.map (·.drop c2))),.int .i64 0]/\EL a b c2 W m c2 c2/\Ms (E0 k c2) m)):=λ r hr=>Or.inr ⟨fr,m,hr,h1,h3⟩
    have Ah:(m.map (·.drop c2)).length=c2:=by rw[List.length_map];exact vp
    have Kx : ∀ (q:Nat) (r:List Rat),m[q]? = some r->(m.map (·.drop c2))[q]? = some (r.drop c2):=λ q r hq=>by rw[List.getElem?_map,hq];rfl
    generalize m.map (·.drop c2)=U at *;refine BP (λ i=>c2-i) (λ(i:Nat)=>i<=c2) (λ i=>[(48,.int .i64 i),(10,.row 10 0 1 0 i)]) (λ i=>[(10,10,.mx (BK 3 eQ (U.take i)))]) [] [] 0 (by (conv=>whnf);exact ⟨rfl,rfl,rfl⟩) (by omega) ?_;intro i i1 ih;have Oe:(U.take i).length=i:=by rw[List.length_take];omega
    by_cases tf:i<c2
    ·obtain ⟨rp,s9⟩ : ∃ r,m[i]? = some r:=⟨_,zE (by omega)⟩
     have ax:=h1.wid rp (zM s9);have jd:=h3.at s9;have hut:=Y7 (Kx i rp s9);have Fz:(rp.drop c2).length=W:=by rw[List.length_drop];omega
     have uc : ∀ (j:Nat),(rp.drop c2)[j]? = rp[c2+j]? := λ j=>by rw[List.getElem?_drop]
     generalize U.take i=R0 at *;(repeat' ((first|(apply AG<;>intro hc<;>try (exfalso;omega))|(apply AZ;omega)|apply AR|(refine FY ?_ (λ r hr => ?_);omega)|apply AE)<;>conv=>whnf))
     cases s9.symm.trans hr;refine Acw c2 (by omega) (by rw[List.length_map];omega) ?_;rw[List.length_map,show rp.length=c2+W from ax];(conv=>whnf)
     skip
     refine BP (λ j=>W-j) (λ(j:Nat)=>j<=W) (λ j=>[(59,.int .i64 j),(12,.row 12 0 3 0 j)]) (λ j=>[(12,12,.rw 3 (((rp.drop c2).take j).map eQ))]) [] [] 0 (by (conv=>whnf);exact ⟨rfl,rfl,rfl⟩) (by omega) ?_;intro j j1 jh;have Df:((rp.drop c2).take j).length=j:=by rw[List.length_take];omega
     by_cases hj:j<W
     ·obtain ⟨x,hx⟩ : ∃ x,(rp.drop c2)[j]? = some x:=⟨_,zE (by omega)⟩
      have fb:=hx;rw[uc]at fb;have lk:=Y7 hx;have Ii:=eC N.tob8 (jd.at fb) (by omega);generalize (rp.drop c2).take j=M0 at *;(repeat' ((first|(apply AG<;>intro hc<;>try (exfalso;omega))|(apply AZ;omega)|refine GJ (by assumption) ?_|apply AE)<;>conv=>whnf))
      refine XX (enc:=eQ) (e:=x) (l:=rp) (by rw[show 0+c2+((j:Nat):Int).toNat=c2+j by omega];exact fb) rfl ?_;(conv=>whnf)
      (repeat' ((first|apply DW|refine AC (Ii) ?_)<;>conv=>whnf))
      refine EO (enc:=eQ) x rfl Df.symm rfl (by omega) (by omega) ?_;(conv=>whnf)
      (repeat' ((first|(apply AU;omega)|fail)<;>conv=>whnf))
      rw[<-lk,show ((rp.drop c2).take (j+1)).length=j+1 by rw[List.length_take];omega];exact BG [(12,67)] (jh (j+1) (by omega) (by omega))
     ·have ej:j=W:=by omega
      clear jh;rw[ej,List.take_of_length_le (by omega)];(repeat' ((first|(apply AG<;>intro hc<;>try (exfalso;omega))|apply AE)<;>conv=>whnf))
      refine AZ (by rw[List.length_map,Fz]) ?_;refine XR (r:=rp.drop c2) (en:=eQ) Oe.symm (by omega) (by omega) ?_;rw[<-hut,show (U.take (i+1)).length=i+1 by rw[List.length_take];omega];(conv=>whnf)
      (repeat' ((first|(apply AU;omega)|fail)<;>conv=>whnf))
      exact BG [(10,72)] (ih (i+1) (by omega) (by omega))
    ·have ei:i=c2:=by omega
     clear ih;rw[ei,List.take_of_length_le (by omega)];(repeat' ((first|(apply AG<;>intro hc<;>try (exfalso;omega))|apply AE)<;>conv=>whnf))
     refine ⟨.j5 [.sl false (eM U),.int .i64 0],?_,aj _ rfl⟩;(conv=>whnf)
     refine J4 (λ_=>rfl) rfl Ah.symm ?_;(conv=>whnf)
     exact AX rfl (IQ U 0)
end Go.c9











namespace Go.c9
open F
attribute [local irreducible] AA AF AP AD CI AY AW A6 A5 B2 AM BQ B8 C8 BM A1 BR B9 AB A7 AJ pw BO BH CH CK CS CP CD BT CJ
variable {L:Lib}
set_option maxHeartbeats 32000000
set_option maxRecDepth 8000
theorem Agm (N:o6 L) (m:List (List Rat)) (b:List Rat) (q1 q2 q3:Bool) (n k s:Nat) (hs:Sq n m) (hb:b.length=n) (hm:Ms k m) (jo:Bs s b) (hn:n<=4) (hK:4*(k+s+1)+k+s<2199023255552):Ev L 138 [.sl q1 (CN q3 m),.sl q2 (b.map eQ)] (.sl false ((D5 m b).map eQ)):=by
 have dk:=hs.l;have iw:=mY m b;refine Ev.x N.R7 rfl rfl ?_;(repeat' (apply AE<;>conv=>whnf))
 refine BP (λ j=>m.length-j) (λ(j:Nat)=>j<=m.length) (λ j=>[(6,.int .i64 j),(5,.row 138005 0 3 0 j)]) (λ j=>[(138005,138005,.rw 3 (((D5 m b).take j).map eQ))]) [] [] 0 (by (conv=>whnf);exact ⟨rfl,rfl,rfl⟩) (by omega) ?_;intro j r1 jh;have hlen:((D5 m b).take j).length=j:=by rw[List.length_take];omega
 by_cases hj:j<m.length
 ·obtain ⟨r,hr⟩ : ∃ r,m[j]? = some r:=⟨_,zE hj⟩
  have ig:m[(j:Int).toNat]? = some r:=hr;have ax:=hs.at hr;have Kn:=λ q q'=>kV N r b q q' k s (by omega) (hm.at hr) jo (by rw[ax];have:=Nat.mul_le_mul_right (k+s+1) hn;omega) (by omega)
  have hy:(D5 m b)[j]? = some (A0 r b):=by rw[D5,List.getElem?_map,hr];rfl
  have Gl:((D5 m b).take (j+1)).length=j+1:=by rw[List.length_take];omega
  (repeat' ((first|(apply AG<;>intro hc<;>try (exfalso;omega))|apply AR|(refine BA (by assumption) ?_ rfl ?_;omega)|apply DW|apply AE|refine AC (Kn _ _) ?_)<;>conv=>whnf))
  refine EO (enc:=eQ) (A0 r b) rfl hlen.symm rfl (by omega) (by omega) ?_;(conv=>whnf)
  (repeat' ((first|(apply AU;omega)|fail)<;>conv=>whnf))
  rw[<-SP hy,Gl];exact BG [(138005,138021)] (jh (j+1) (by omega) (by omega))
 obtain rfl:j=m.length:=by omega
 clear jh;rw[List.take_of_length_le (by omega)];(repeat' ((first|(apply AG<;>intro hc<;>try (exfalso;omega))|apply AR|apply AE)<;>conv=>whnf))
 refine C9 (enc:=eQ) (λ_=>rfl) rfl iw.symm ?_;(conv=>whnf)
 exact AX rfl (by simp only[A3,true_and];exact HO _)
theorem AfS (x:Rat):eQ (C3 x)=[.bool false,.sl false ((dg x.num.natAbs).map AL),.sl false ((dg x.den).map AL)]:=by
 unfold C3;by_cases h:x.num<0
 ·rw[if_pos h]
  show rQ false false (decide ((-x).num<0)) _ _=_;rw[Rat.neg_num,Int.natAbs_neg,Rat.neg_den,show decide (-x.num<0)=false from decide_eq_false (by omega)]
 ·rw[if_neg h]
  show rQ false false (decide (x.num<0)) _ _=_;rw[show decide (x.num<0)=false from decide_eq_false h]
theorem Ag8 (N:de L) {x:Rat} {k:Nat} (hx:Bt k x) (hk:k<2199023255552):Ev L 309 [.agg (eQ x)] (.agg (eQ (C3 x))):=by
 have hT:=eC N.tob8 hx hk;have hs:=hx.ji hk;have hR:=λ q=>GE N.tob8 (dg x.num.natAbs) q (DX _) (by have:=hs.1.2;omega)
 rw[B3]at hR;have hA : ∀ b q,Ev L 308 [.agg [.bool b,.sl q ((dg x.num.natAbs).map AL)]] (.agg [.bool false,.sl false ((dg x.num.natAbs).map AL)]):=λ b q=>by
  refine Ev.x N.RC rfl rfl ?_;(repeat' ((first|apply AE|refine AC (hR _) ?_)<;>conv=>whnf))
  exact AX rfl (sM _ _)
 have n7:=DI (C3 x);rw[AfS]at n7 ⊢;refine Ev.x N.RN rfl rfl ?_;(repeat' ((first|apply AE|refine AC (hT) ?_|refine AC (hA _ _) ?_)<;>conv=>whnf))
 exact AX rfl n7
theorem Ahe (N:de L) (q q':Bool) (a:List (List Rat)) (n:Nat) (hs:Sq n a) (hn:n<=16):Ev L 310 [.sl q (CN q' a)] (.bool true):=by
 have ag:=hs.l;refine Ev.x N.SA rfl rfl ?_;(repeat' (apply AE<;>conv=>whnf))
 refine BP (λ i=>a.length-i) (λ(i:Nat)=>i<=a.length) (λ i=>[(3,.int .i64 i)]) (λ_=>[]) [] [] 0 (by (conv=>whnf);exact ⟨rfl,rfl,rfl⟩) (by omega) ?_;intro i p1 ih;by_cases hi:i<a.length
 ·obtain ⟨r,hr⟩ : ∃ r,a[i]? = some r:=⟨_,zE hi⟩
  have ig:a[(i:Int).toNat]? = some r:=hr;have ax:=hs.at hr;(repeat' ((first|(apply AG<;>intro hc<;>try (exfalso;omega))|(apply AU;omega)|apply AR|(refine BA (by assumption) ?_ rfl ?_;omega)|apply AE)<;>conv=>whnf))
  exact BG [] (ih (i+1) (by omega) (by omega))
 obtain rfl:i=a.length:=by omega
 clear ih;(repeat' ((first|(apply AG<;>intro hc<;>try (exfalso;omega))|apply AR|apply AE)<;>conv=>whnf))
 exact IJ rfl
theorem Ahd (N:de L) (q:Bool) (v:List Rat) (k:Nat) (hv:Bs k v) (hn:v.length<=1000) (hk:k<=1000000000):Ev L 311 [.sl q (v.map eQ)] (.agg (eQ (BL v))):=by
 have hO:=YH N.tob8 0 (by omega);rw[show ((0:Int):Rat)=0 from rfl]at hO;refine Ev.x N.R9 rfl rfl ?_;(repeat' ((first|apply AE|refine AC (hO) ?_)<;>conv=>whnf))
 refine BP (λ i=>v.length-i) (λ(i:Nat)=>i<=v.length) (λ i=>[(4,.int .i64 i)]) (λ i=>[(3,3,.bx (eQ (BL (v.take i))))]) [] [] 0 (by rw[show BL (v.take 0)=0 from rfl];exact (by (conv=>whnf);exact ⟨rfl,rfl,rfl⟩)) (by omega) ?_;intro i p1 ih;by_cases hi:i<v.length
 ·obtain ⟨x,hx⟩ : ∃ x,v[i]? = some x:=⟨_,zE hi⟩
  have fb:v[(i:Int).toNat]? = some x:=hx;have hA:=Ag8 N (hv.at hx) (by omega);have hz:Bt (1000*(k+1)) (BL (v.take i)):=(bK (hv.take i)).le (Nat.mul_le_mul_right _ (by rw[List.length_take];omega));have hP:=WN N.tob8 hz (rO (hv.at hx)) (by omega) (by omega);rw[<-Qs hx]at hP;generalize BL (v.take i)=w at *;generalize C3 x=y at *;(repeat' ((first|(apply AG<;>intro hc<;>try (exfalso;omega))|(apply AU;omega)|apply AR|(refine BA (by assumption) ?_ rfl ?_;omega)|apply AE|refine AC (hA) ?_|refine AC (hP) ?_)<;>conv=>whnf))
  exact BG [] (ih (i+1) (by omega) (by omega))
 obtain rfl:i=v.length:=by omega
 clear ih;rw[List.take_of_length_le (Nat.le_refl _)];(repeat' ((first|(apply AG<;>intro hc<;>try (exfalso;omega))|apply AR|apply AE)<;>conv=>whnf))
 exact AX rfl (DI _)
theorem Ahf (N:de L) (q q':Bool) (a:List (List Rat)) (n kk:Nat) (hs:Sq n a) (ha:Ms kk a) (hn:n<=4) (hk:kk<=1000000000):Ev L 313 [.sl q (CN q' a)] (.sl false (eM (F2 a a n))):=by
 have ag:=hs.l;have Ad:Sq n (F2 a a n):=Sq.mul hs.l a;have Ff : ∀ (i:Nat) (r:List Rat),a[i]? = some r->(F2 a a n)[i]? = some (EH r a n):=λ i r hr=>by rw[F2,List.getElem?_map,hr];rfl
 have Bp : ∀ (j:Nat) (r:List Rat),j<n->(EH r a n)[j]? = some (A0 r (DB a j)):=λ j r hj=>by rw[EH,List.getElem?_map,List.getElem?_range hj];rfl
 have Ac:=Ad.l;have Du:=Ad.r;have hO:=YH N.tob8 0 (by omega);rw[show ((0:Int):Rat)=0 from rfl]at hO;generalize F2 a a n=Q at *;refine Ev.x N.SB rfl rfl ?_;(repeat' ((first|apply AR|apply AE)<;>conv=>whnf))
 unfold CS;refine ⟨⟨by omega,by omega,by simp only[EA];omega,by omega⟩,?_⟩;rw[Int.toNat_natCast,ag];(conv=>whnf)
 skip
 refine BP (λ i=>n-i) (λ(i:Nat)=>i<=n) (λ i=>[(4,.int .i64 i)]) (λ i=>[(10,10,.mx (mz Q n i))]) [] [] 0 (by first|exact (by (conv=>whnf);exact ⟨rfl,rfl,rfl⟩)|(rw[<-nC Q];exact (by (conv=>whnf);exact ⟨rfl,rfl,rfl⟩))) (by omega) ?_;intro i p1 ih;have Wv:=nA (Q:=Q) p1;by_cases hi:i<n
 ·obtain ⟨rr,hr⟩ : ∃ r,a[i]? = some r:=⟨_,zE (by omega)⟩
  have ig:a[(i:Int).toNat]? = some rr:=hr;have ax:=hs.at hr;have jd:=ha.at hr;have hq:=Ff i rr hr;have k6:=nB hq hi;have np:(mz Q n i)[i]? = some none:=zJ Ac hi;have xu:(EH rr a n).length=n:=Du _ (zM hq);have ft:(EH rr a n).take 1=[A0 rr (DB a 0)]:=by
   rw[JZ (Bp 0 rr (by omega))];rfl
  have Nc : ∀ j,j<n->(EH rr a n).take (j+1)=(EH rr a n).take j++[A0 rr (DB a j)]:=λ j hj=>JZ (Bp j rr hj)
  generalize mz Q n i=R0 at *;generalize EH rr a n=qr at *;(repeat' ((first|(apply AG<;>intro hc<;>try (exfalso;omega))|apply AR|apply AE)<;>conv=>whnf))
  refine GH ?_;(repeat' ((first|(apply AG<;>intro hc<;>try (exfalso;omega))|apply AR|apply AE|refine AC (hO) ?_)<;>conv=>whnf))
  refine BP (λ k=>n-k) (λ(k:Nat)=>k<=n) (λ k=>[(7,.int .i64 k)]) (λ k=>[(6,6,.bx (eQ (A0 (rr.take k) ((DB a 0).take k))))]) [] [] 0 (by rw[show A0 (rr.take 0) ((DB a 0).take 0)=0 from rfl];exact (by (conv=>whnf);exact ⟨rfl,rfl,rfl⟩)) (by omega) ?_;intro k t1 kh;by_cases ia:k<n
  ·obtain ⟨x,hx⟩ : ∃ x,rr[k]? = some x:=⟨_,zE (by omega)⟩
   obtain ⟨s,dp⟩ : ∃ s,a[k]? = some s:=⟨_,zE (by omega)⟩;have Av:=hs.at dp;obtain ⟨y,hy⟩ : ∃ y,s[0]? = some y:=⟨_,zE (by omega)⟩;have fb:rr[(k:Int).toNat]? = some x:=hx;have tl:a[(k:Int).toNat]? = some s:=dp;have uo:s[((0:Nat):Int).toNat]? = some y:=hy;have Ln:=tE dp hy;have hM:=TB N.tob8 (jd.at hx) ((ha.at dp).at hy) (by omega) (by omega);have hd:Bt (4*(kk+kk+1)) (A0 (rr.take k) ((DB a 0).take k)):=((jd.take k).dot ((Ms.Ia ha 0).take k)).le (Nat.mul_le_mul_right _ (by rw[List.length_take];omega));have hA:=WN N.tob8 hd ((jd.at hx).mul ((ha.at dp).at hy)) (by omega) (by omega);rw[<-WI hx Ln]at hA;generalize A0 (rr.take k) ((DB a 0).take k)=w at *;generalize x*y=p at *;(repeat' ((first|(apply AG<;>intro hc<;>try (exfalso;omega))|(apply AU;omega)|apply AR|(refine BA (by assumption) ?_ rfl ?_;omega)|apply AE|refine AC (hM) ?_|refine AC (hA) ?_)<;>conv=>whnf))
   exact BG [] (kh (k+1) (by omega) (by omega))
  have ek:k=n:=by omega
  clear kh;rw[ek,VC ax];generalize A0 rr (DB a 0)=y0 at *;(repeat' ((first|(apply AG<;>intro hc<;>try (exfalso;omega))|(apply AZ;omega)|apply AR|apply AE)<;>conv=>whnf))
  refine iM (r:=none) (by rw[Nat.zero_add,Int.toNat_natCast];exact np) ?_;(conv=>whnf)
  (repeat' (apply DW<;>conv=>whnf))
  refine ZD (enc:=eQ) y0 rfl rfl (by omega) ?_;(conv=>whnf)
  (repeat' ((first|(apply AZ;omega)|fail)<;>conv=>whnf))
  refine AZ rfl ?_;refine XZ (i:=i) (by omega) (by omega) ?_;(conv=>whnf)
  (repeat' ((first|(apply AU;omega)|fail)<;>conv=>whnf))
  refine BP (λ j=>n-j) (λ(j:Nat)=>1<=j/\j<=n) (λ j=>[(5,.int .i64 j)]) (λ j=>[(10,10,.mx (R0.set i (some (3,(qr.take j).map eQ))))]) [] [] 1 (by first|exact (by (conv=>whnf);exact ⟨rfl,rfl,rfl⟩)|(rw[ft];exact (by (conv=>whnf);exact ⟨rfl,rfl,rfl⟩))) (by omega) ?_;intro j ⟨r1,r2⟩ jh;have Df:(qr.take j).length=j:=by rw[List.length_take];omega
  by_cases hj:j<n
  ·have qh:=Nc j hj
   have Dg:(qr.take (j+1)).length=j+1:=by rw[List.length_take];omega
   generalize qr.take j=W at *;(repeat' ((first|(apply AG<;>intro hc<;>try (exfalso;omega))|apply AR|apply AE|refine AC (hO) ?_)<;>conv=>whnf))
   refine BP (λ k=>n-k) (λ(k:Nat)=>k<=n) (λ k=>[(7,.int .i64 k)]) (λ k=>[(6+1000000,6,.bx (eQ (A0 (rr.take k) ((DB a j).take k))))]) [] [] 0 (by rw[show A0 (rr.take 0) ((DB a j).take 0)=0 from rfl];exact (by (conv=>whnf);exact ⟨rfl,rfl,rfl⟩)) (by omega) ?_;intro k t1 kh;by_cases ia:k<n
   ·obtain ⟨x,hx⟩ : ∃ x,rr[k]? = some x:=⟨_,zE (by omega)⟩
    obtain ⟨s,dp⟩ : ∃ s,a[k]? = some s:=⟨_,zE (by omega)⟩;have Av:=hs.at dp;obtain ⟨y,hy⟩ : ∃ y,s[j]? = some y:=⟨_,zE (by omega)⟩;have fb:rr[(k:Int).toNat]? = some x:=hx;have tl:a[(k:Int).toNat]? = some s:=dp;have uo:s[((j:Nat):Int).toNat]? = some y:=hy;have Ln:=tE dp hy;have hM:=TB N.tob8 (jd.at hx) ((ha.at dp).at hy) (by omega) (by omega);have hd:Bt (4*(kk+kk+1)) (A0 (rr.take k) ((DB a j).take k)):=((jd.take k).dot ((Ms.Ia ha j).take k)).le (Nat.mul_le_mul_right _ (by rw[List.length_take];omega));have hA:=WN N.tob8 hd ((jd.at hx).mul ((ha.at dp).at hy)) (by omega) (by omega);rw[<-WI hx Ln]at hA;generalize A0 (rr.take k) ((DB a j).take k)=w at *;generalize x*y=p at *;(repeat' ((first|(apply AG<;>intro hc<;>try (exfalso;omega))|(apply AU;omega)|apply AR|(refine BA (by assumption) ?_ rfl ?_;omega)|apply AE|refine AC (hM) ?_|refine AC (hA) ?_)<;>conv=>whnf))
    exact BG [] (kh (k+1) (by omega) (by omega))
   have ek:k=n:=by omega
   clear kh;rw[ek,VC ax];generalize A0 rr (DB a j)=y0 at *;(repeat' ((first|(apply AG<;>intro hc<;>try (exfalso;omega))|(apply AZ;omega)|apply AR|apply AE)<;>conv=>whnf))
   refine V6 (by omega) (by omega) ?_;(conv=>whnf)
   (repeat' (apply DW<;>conv=>whnf))
   refine TT (by omega) (by omega) ?_;(conv=>whnf)
   refine EO (enc:=eQ) y0 rfl (by rw[List.length_map]) rfl (by omega) (by omega) ?_;intro s' v;rw[<-qh,Dg];(conv=>whnf)
   (repeat' ((first|(apply AZ;omega)|fail)<;>conv=>whnf))
   refine AZ ⟨rfl,by rw[List.length_map];omega⟩ ?_;refine XZ (i:=i) (by omega) (by rw[List.length_set,List.length_set];omega) ?_;rw[show 0+((i:Int)).toNat=i by omega,List.set_set,List.set_set];(conv=>whnf)
   (repeat' ((first|(apply AU;omega)|fail)<;>conv=>whnf))
   exact BG [] (jh (j+1) (by omega) (by omega))
  have ej:j=n:=by omega
  clear jh;rw[ej,List.take_of_length_le (by omega),k6];(repeat' ((first|(apply AG<;>intro hc<;>try (exfalso;omega))|(apply AU;omega)|apply AR|apply AE)<;>conv=>whnf))
  exact BG [] (ih (i+1) (by omega) (by omega))
 have ei:i=n:=by omega
 clear ih;rw[ei,mZ (by omega)];(repeat' ((first|(apply AG<;>intro hc<;>try (exfalso;omega))|apply AR|apply AE)<;>conv=>whnf))
 refine J4 (λ_=>rfl) rfl (by omega) ?_;(conv=>whnf)
 exact AX rfl (sO Q)
theorem Ahc (N:de L) (q q':Bool) (a:List (List Rat)) (n k:Nat) (hs:Sq n a) (ha:Ms k a) (hn:n<=4) (hk:k<=100) :
  ∃ v,Ev L 314 [.sl q (CN q' a)] v/\((∃ i,i<=6/\OV n a i/\v = .j5 [.int .i64 ((2^i:Nat):Int),.int .i64 0])\/((∀ j,j<=6->DJ (B6 n a j)=false)/\v = .j5 [.int .i64 0,.int .i64 14])):=by
 have ag:=hs.l;have hq:=Ahe N q q' a n hs (by omega);have hF:=YG N.tob8 1 2 (by omega) (by omega);have hb : ∀ i,i<=7->Ms 300000000 (B6 n a i):=λ i hi=>(pE hs ha hn i).le (by have:=AkR (k:=k) i hi;omega)
 have hZ:=λ(i:Nat) (q q':Bool) (hi:i<=6)=>Ahf N q q' (B6 n a i) n 300000000 (UW hs i) (hb i (by omega)) hn (by omega)
 have hh:Bt 2 (Rat.divInt 1 2):=Bt.mk (k:=2) (z:=1) (d:=2) (by decide) (by decide);have hhe:Rat.divInt 1 2=1/2:=by decide +kernel
 have hC : ∀ i r,i<=6->r∈B6 n a i->Ev L 127 [.agg (eQ (BL r)),.agg (eQ (Rat.divInt 1 2))] (.int .i64 (q6 (BL r-1/2).num)):=λ i r hi hr=>by
  have hz:Bt (4*(300000000+1)) (BL r):=(bK (hb i (by omega) r hr)).le (Nat.mul_le_mul_right _ (by rw[(UW hs i).r r hr];exact hn));have:=Z6 N.tob8 hz hh (by omega) (by omega)
  rwa [hhe]at this ⊢
 refine Ev.xE N.R8 rfl rfl ?_;(repeat' ((first|apply AE|refine AC (hq) ?_)<;>conv=>whnf))
 refine FV (λ i _=>7-i) (λ(i:Nat) (fl:Bool)=>i<=7/\(fl=true->i=0) /\ ∀ j,j<i->DJ (B6 n a j)=false) (λ i fl=>[(4,.int .i64 ((2^i:Nat):Int)),(0,bif fl then .sl q (CN q' a) else .sl false (eM (B6 n a i)))]) (λ_ _=>[]) [] [] 0 true (by (conv=>whnf);exact ⟨rfl,rfl,rfl⟩) ⟨by omega,λ_=>rfl,λ j hj=>absurd hj (by omega)⟩ ?_;intro i fl ⟨p1,p2,p3⟩ ih;by_cases h7:i=7
 ·have e7:((2^i:Nat):Int)=128:=by rw[h7];rfl
  rw[e7];have kf : ∀ j,j<=6->DJ (B6 n a j)=false:=λ j hj=>p3 j (by omega)
  (repeat' ((first|(apply AG<;>intro hc<;>try (exfalso;omega))|apply AE)<;>conv=>whnf))
  exact ⟨_,AX rfl (by simp [A3,CG]),Or.inr ⟨kf,rfl⟩⟩
 obtain ⟨g1,g2,g3⟩:=nN (i:=i) (by omega);have Ee:((2^(i+1):Nat):Int)=2*((2^i:Nat):Int):=by rw[Nat.pow_succ];omega
 have Av:=(UW hs i).l;have me:DJ (B6 n a i)=true->OV n a i:=λ h=>⟨h,p3⟩
 have ik:DJ (B6 n a i)=false -> ∀ j,j<i+1->DJ (B6 n a j)=false:=λ h j hj=>by
  by_cases e:j=i
  ·rw[e];exact h
  ·exact p3 j (by omega)
 have Kc:=λ r=>hC i r (by omega)
 have Lb:=λ q q'=>hZ i q q' (by omega)
 have Kv:=λ q r (hr:r∈B6 n a i)=>Ahd N q r 300000000 (hb i (by omega) r hr) (by rw[(UW hs i).r r hr];omega) (by omega)
 have aj : ∀ r:AV,OV n a i->r = .j5 [.int .i64 ((2^i:Nat):Int),.int .i64 0]->((∃ i,i<=6/\OV n a i/\r = .j5 [.int .i64 ((2^i:Nat):Int),.int .i64 0])\/((∀ j,j<=6->DJ (B6 n a j)=false)/\r = .j5 [.int .i64 0,.int .i64 14])):=λ r h hr=>Or.inl ⟨i,by omega,h,hr⟩
 have s9 : ∀ (m:Nat) (r:List Rat),(B6 n a i)[m]? = some r->DJ ((B6 n a i).take (m+1))=(DJ ((B6 n a i).take m)&&decide (BL r<=1/2)):=λ m r hr=>by
  rw[JZ hr,DJ,DJ,List.all_append];simp
 cases fl
 ·skip
  generalize 2^i=P at *;(repeat' ((first|(apply AG<;>intro hc<;>try (exfalso;omega))|apply AE)<;>conv=>whnf))
  refine FV (λ m _=>n-m) (λ(m:Nat) (b:Bool)=>m<=n/\b=DJ ((B6 n a i).take m)) (λ m b=>[(6,.int .i64 m),(5,.bool b)]) (λ_ _=>[]) [] [] 0 true (by (conv=>whnf);exact ⟨rfl,rfl,rfl⟩) ⟨by omega,rfl⟩ ?_;intro m b ⟨r1,r2⟩ mh;by_cases hm:m<n
  ·obtain ⟨r,hr⟩ : ∃ r,(B6 n a i)[m]? = some r:=⟨_,zE (by omega)⟩
   have ig:(B6 n a i)[(m:Int).toNat]? = some r:=hr;have iv:=zM hr;have ht:=s9 m r hr;rw[<-r2]at ht;cases b
   ·(repeat' ((first|(apply AG<;>intro hc<;>try (exfalso;omega))|(apply AU;omega)|apply AR|apply AE)<;>conv=>whnf))
    exact BG [] (mh (m+1) false (by omega) ⟨by omega,by rw[ht];rfl⟩)
   ·have rh:=λ q=>Kv q r iv
    have re:=Kc r iv;have hg:=gN (x:=BL r) (y:=1/2);by_cases h:BL r<=1/2
    ·have h1 : ¬ 0<q6 (BL r-1/2).num:=λ e=>by have:=hg.1 e;grind
     rw[decide_eq_true h]at ht;clear hg;generalize q6 (BL r-1/2).num=g at *;(repeat' ((first|(apply AG<;>intro hc<;>try (exfalso;omega))|(apply AU;omega)|apply AR|(refine BA (by assumption) ?_ rfl ?_;omega)|apply AE|refine AC (rh _) ?_|refine AC (hF) ?_|refine AC (re) ?_)<;>conv=>whnf))
     exact BG [] (mh (m+1) true (by omega) ⟨by omega,by rw[ht];rfl⟩)
    ·have h1:0<q6 (BL r-1/2).num:=hg.2 (by grind)
     rw[decide_eq_false h]at ht;clear hg;generalize q6 (BL r-1/2).num=g at *;(repeat' ((first|(apply AG<;>intro hc<;>try (exfalso;omega))|(apply AU;omega)|apply AR|(refine BA (by assumption) ?_ rfl ?_;omega)|apply AE|refine AC (rh _) ?_|refine AC (hF) ?_|refine AC (re) ?_)<;>conv=>whnf))
     exact BG [] (mh (m+1) false (by omega) ⟨by omega,by rw[ht];rfl⟩)
  have em:m=n:=by omega
  clear mh;rw[em,List.take_of_length_le (by omega)]at r2;cases b
  ·(repeat' ((first|(apply AG<;>intro hc<;>try (exfalso;omega))|(apply EK;omega)|apply AR|apply AE|refine AC (Lb _ _) ?_)<;>conv=>whnf))
   rw[<-Ee];exact BG [] (ih (i+1) false (by omega) ⟨by omega,(λ h=>by cases h),ik r2.symm⟩)
  ·(repeat' ((first|(apply AG<;>intro hc<;>try (exfalso;omega))|apply AR|apply AE)<;>conv=>whnf))
   exact ⟨_,AX rfl (by simp [A3,CG]),aj _ (me r2.symm) rfl⟩
 ·obtain rfl:=p2 rfl
  have e0:B6 n a 0=a:=rfl;rw[e0]at me ik Kc Lb Kv s9 Av;generalize 2^0=P at *;(repeat' ((first|(apply AG<;>intro hc<;>try (exfalso;omega))|apply AE)<;>conv=>whnf))
  refine FV (λ m _=>n-m) (λ(m:Nat) (b:Bool)=>m<=n/\b=DJ (a.take m)) (λ m b=>[(6,.int .i64 m),(5,.bool b)]) (λ_ _=>[]) [] [] 0 true (by (conv=>whnf);exact ⟨rfl,rfl,rfl⟩) ⟨by omega,rfl⟩ ?_;intro m b ⟨r1,r2⟩ mh;by_cases hm:m<n
  ·obtain ⟨r,hr⟩ : ∃ r,a[m]? = some r:=⟨_,zE (by omega)⟩
   have ig:a[(m:Int).toNat]? = some r:=hr;have iv:=zM hr;have ht:=s9 m r hr;rw[<-r2]at ht;cases b
   ·(repeat' ((first|(apply AG<;>intro hc<;>try (exfalso;omega))|(apply AU;omega)|apply AR|apply AE)<;>conv=>whnf))
    exact BG [] (mh (m+1) false (by omega) ⟨by omega,by rw[ht];rfl⟩)
   ·have rh:=λ q=>Kv q r iv
    have re:=Kc r iv;have hg:=gN (x:=BL r) (y:=1/2);by_cases h:BL r<=1/2
    ·have h1 : ¬ 0<q6 (BL r-1/2).num:=λ e=>by have:=hg.1 e;grind
     rw[decide_eq_true h]at ht;clear hg;generalize q6 (BL r-1/2).num=g at *;(repeat' ((first|(apply AG<;>intro hc<;>try (exfalso;omega))|(apply AU;omega)|apply AR|(refine BA (by assumption) ?_ rfl ?_;omega)|apply AE|refine AC (rh _) ?_|refine AC (hF) ?_|refine AC (re) ?_)<;>conv=>whnf))
     exact BG [] (mh (m+1) true (by omega) ⟨by omega,by rw[ht];rfl⟩)
    ·have h1:0<q6 (BL r-1/2).num:=hg.2 (by grind)
     rw[decide_eq_false h]at ht;clear hg;generalize q6 (BL r-1/2).num=g at *;(repeat' ((first|(apply AG<;>intro hc<;>try (exfalso;omega))|(apply AU;omega)|apply AR|(refine BA (by assumption) ?_ rfl ?_;omega)|apply AE|refine AC (rh _) ?_|refine AC (hF) ?_|refine AC (re) ?_)<;>conv=>whnf))
     exact BG [] (mh (m+1) false (by omega) ⟨by omega,by rw[ht];rfl⟩)
  have em:m=n:=by omega
  clear mh;rw[em,List.take_of_length_le (by omega)]at r2;cases b
  ·(repeat' ((first|(apply AG<;>intro hc<;>try (exfalso;omega))|(apply EK;omega)|apply AR|apply AE|refine AC (Lb _ _) ?_)<;>conv=>whnf))
   rw[<-Ee];exact BG [] (ih (0+1) false (by omega) ⟨by omega,(λ h=>by cases h),ik r2.symm⟩)
  ·(repeat' ((first|(apply AG<;>intro hc<;>try (exfalso;omega))|apply AR|apply AE)<;>conv=>whnf))
   exact ⟨_,AX rfl (by simp [A3,CG]),aj _ (me r2.symm) rfl⟩
theorem Aj3 {T:List (List Rat)} {b:List Rat} {n K:Nat} {m:List (List Rat)} (h:EL T (b.map λ x=>[x]) n 1 m n n) (hM:Ms K m):m.map (·.drop n)=(m.map λ r=>r.getD n 0).map (λ x=>[x])/\(m.map λ r=>r.getD n 0).length=n/\Bs K (m.map λ r=>r.getD n 0):=by
 refine ⟨?_,by rw[List.length_map];exact h.len,λ x hx => ?_⟩
 ·rw[List.map_map]
  refine List.map_congr_left λ r hr => ?_
  have hl:=h.wid r hr;show r.drop n=[r.getD n 0];rw[List.drop_eq_getElem_cons (by omega),List.drop_of_length_le (by omega),List.getD_eq_getElem?_getD,zE (by omega)];rfl
 ·obtain ⟨r,hr,rfl⟩:=List.mem_map.1 hx
  exact Bs.getD (hM r hr) n
theorem Ag6 (N:v7 L) (q1 q2 q3:Bool) (a:List (List Rat)) (b:List Rat) (n k:Nat) (hT:Sq n a) (fy:b.length=n) (jo:Bs k b) (hn:1<=n/\n<=10) (jk:Ms k a) (hk:k<=1000) (hB:10*E0 k n<=100000000000) :
  ∃ v,Ev L 327 [.sl q1 (CN q2 a),.sl q3 (b.map eQ)] v/\((¬ NS n a/\v = .j5 [.sl false [],.int .i64 11])\/(NS n a /\ ∃ y:List Rat,v = .j5 [.sl false (y.map eQ),.int .i64 0]/\y.length=n/\Bs (E0 k n) y /\ ∀ (i:Nat) (r:List Rat) (s:Rat),a[i]? = some r->b[i]? = some s->A0 r y=s)):=by
 have ag:=hT.l;have hV:=Ag7 N.toiz q1 q2 a n n ag hT.r (by omega) (by omega);obtain ⟨r0,s9⟩ : ∃ r,a[0]? = some r:=⟨_,zE (by omega)⟩;have Cx:a[(0:Int).toNat]? = some r0:=s9;have mf:=hT.at s9;have pz : ∀ r∈b.map (λ x=>[x]),r.length=1:=λ r hr=>by obtain ⟨x,_,rfl⟩:=List.mem_map.1 hr;rfl
 have hbm:Ms k (b.map λ x=>[x]):=λ r hr=>by
  obtain ⟨x,hx,rfl⟩:=List.mem_map.1 hr;intro z hz;obtain rfl:=List.mem_singleton.1 hz;exact jo z hx
 obtain ⟨v,Kb,bh⟩:=Ago N.tobr q1 q2 true true a (b.map λ x=>[x]) n 1 k hT (by rw[List.length_map];exact fy) pz hbm hn (by omega) jk hk hB;refine Ev.xE N.RY rfl rfl ?_;(repeat' ((first|(apply AG<;>intro hc<;>try (exfalso;omega))|apply AR|(refine BA (by assumption) ?_ rfl ?_;omega)|apply AE|refine AC (hV) ?_)<;>conv=>whnf))
 refine bX 6 6 rfl ?_;refine BP (λ i=>n-i) (λ(i:Nat)=>i<=n) (λ i=>[(35,.int .i64 i),(6,.row 6 0 1 0 i)]) (λ i=>[(6,6,.mx (BK 3 eQ ((b.take i).map λ x=>[x])))]) [] [] 0 (by (conv=>whnf);exact ⟨rfl,rfl,rfl⟩) (by omega) ?_;intro i p1 ih;have bm:((b.take i).map λ x=>[x]).length=i:=by rw[List.length_map,List.length_take];omega
 by_cases hi:i<n
 ·obtain ⟨x,hx⟩ : ∃ x,b[i]? = some x:=⟨_,zE (by omega)⟩
  have fb:b[(i:Int).toNat]? = some x:=hx;have hs:(b.take (i+1)).map (λ x=>[x])=(b.take i).map (λ x=>[x])++[[x]]:=by rw[UY hx,List.map_append];rfl
  have Dh:((b.take (i+1)).map λ x=>[x]).length=i+1:=by rw[List.length_map,List.length_take];omega
  generalize (b.take i).map (λ x=>[x])=R0 at *;(repeat' ((first|(apply AG<;>intro hc<;>try (exfalso;omega))|(refine BA (by assumption) ?_ rfl ?_;omega)|apply AE)<;>conv=>whnf))
  refine AZ rfl ?_;refine XR (r:=[x]) (en:=eQ) bm.symm (by omega) (by omega) ?_;rw[<-hs,Dh];(conv=>whnf)
  (repeat' ((first|(apply AU;omega)|fail)<;>conv=>whnf))
  exact BG [(6,43)] (ih (i+1) (by omega) (by omega))
 have ei:i=n:=by omega
 clear ih;rw[ei,List.take_of_length_le (by omega)];(repeat' ((first|(apply AG<;>intro hc<;>try (exfalso;omega))|(refine J4 (λ_=>rfl) rfl ?_ ?_;(first|rfl|simp))|apply AE)<;>conv=>whnf))
 ·exact fy.symm
 (conv=>whnf)
 rcases bh with ⟨fr,rfl⟩|⟨fr,m,rfl,hR,hM⟩
 ·(repeat' (refine AC (Kb) ?_<;>conv=>whnf))
  refine AR (l:=([]:List Rat)) (enc:=eQ) ?_;rw[show ([]:List Rat).length=0 from rfl];(conv=>whnf)
  refine GH ?_;(repeat' ((first|(apply AG<;>intro hc<;>try (exfalso;omega))|apply AE)<;>conv=>whnf))
  refine ⟨.j5 [.sl false [],.int .i64 11],?_,Or.inl ⟨fr,rfl⟩⟩;(conv=>whnf)
  refine Zs ?_;(conv=>whnf)
  exact AX rfl (IQ [] 11)
 ·obtain ⟨c1,c2,c3⟩:=Aj3 hR hM
  have Nz:=hR.sol hT fy;rw[c1]at Kb;generalize (m.map λ r=>r.getD n 0)=y at *;have hYl:(y.map λ x=>[x]).length=n:=by rw[List.length_map];exact c2
  have La : ∀ (i:Nat) (x:Rat),y[i]? = some x->(y.map λ x=>[x])[((i:Nat):Int).toNat]? = some [x]:=λ i x hx=>by
   rw[Int.toNat_natCast,List.getElem?_map,hx];rfl
  have hY1 : ∀ x:Rat,([x]:List Rat)[(0:Int).toNat]? = some x:=λ x=>rfl
  generalize (y.map λ x=>[x])=Y at *;(repeat' ((first|apply AR|refine AC (Kb) ?_)<;>conv=>whnf))
  refine BP (λ i=>n-i) (λ(i:Nat)=>i<=n) (λ i=>[(53,.int .i64 i),(11,.row 11 0 3 0 i)]) (λ i=>[(11,11,.rw 3 ((y.take i).map eQ))]) [] [] 0 (by (conv=>whnf);exact ⟨rfl,rfl,rfl⟩) (by omega) ?_;intro i p1 ih;have bm:(y.take i).length=i:=by rw[List.length_take];omega
  by_cases hi:i<n
  ·obtain ⟨x,hx⟩ : ∃ x,y[i]? = some x:=⟨_,zE (by omega)⟩
   have fb:=La i x hx;have Om:=hY1 x;have hs:=UY hx;have Dh:(y.take (i+1)).length=i+1:=by rw[List.length_take];omega
   generalize y.take i=R0 at *;(repeat' ((first|(apply AG<;>intro hc<;>try (exfalso;omega))|(refine BA (by assumption) ?_ rfl ?_;omega)|apply DW|apply AE)<;>conv=>whnf))
   refine EO (enc:=eQ) x rfl bm.symm rfl (by omega) (by omega) ?_;rw[<-hs,Dh];(conv=>whnf)
   (repeat' ((first|(apply AU;omega)|fail)<;>conv=>whnf))
   exact BG [(11,62)] (ih (i+1) (by omega) (by omega))
  have ei:i=n:=by omega
  clear ih;rw[ei,List.take_of_length_le (by omega)];(repeat' ((first|(apply AG<;>intro hc<;>try (exfalso;omega))|apply AE)<;>conv=>whnf))
  refine ⟨.j5 [.sl false (y.map eQ),.int .i64 0],?_,Or.inr ⟨fr,y,rfl,c2,c3,Nz⟩⟩;(conv=>whnf)
  refine C9 (enc:=eQ) (λ_=>rfl) rfl (by omega) ?_;(conv=>whnf)
  exact AX rfl (sN y 0)
abbrev eP:Option Rat->List AV
 | none=>[.bool false,.sl false [],.sl false []]
 | some x=>eQ x
theorem Ahn (N:o0 L) {o:Option Rat} {y:Rat} {k l:Nat} (hx:Bt k (o.getD 0)) (hy:Bt l y) (hk:k<2199023255552) (hl:l<2199023255552):Ev L 153 [.agg (eP o),.agg (eQ y)] (.agg (eQ (o.getD 0-y))):=by
 cases o with
 | some x=>exact wJ N hx hy hk hl
 | none =>
  have hn:Bt l (-y):=⟨by rw[Rat.neg_num,Int.natAbs_neg];exact hy.1,by rw[Rat.neg_den];exact hy.2⟩;have hN:=eA N hy hl;have hA:=wD N.tob8 68719476736 (by omega) false (decide ((-y).num<0)) false false [] [] (dg (-y).num.natAbs) (dg (-y).den) (gS _) (gS _) (hn.ji hl).1 (hn.ji hl).2;rw[EM,show qv false [] []=0 from by decide,<-Rat.sub_eq_add_neg]at hA;refine Ev.x N.KO rfl rfl ?_;(repeat' ((first|apply AE|refine AC (hN) ?_|refine AC (hA) ?_)<;>conv=>whnf))
  exact AX rfl (DI _)
theorem AgU (N:v7 L) (n i j:Nat) (hn:n<=3) (fj:i<=j) (hj:j<n):Ev L 325 [.int .i64 (i:Int),.int .i64 (j:Int),.int .i64 (n:Int)] (.int .i64 ((dz n i j:Nat):Int)):=by
 rcases TN hn with rfl|rfl|rfl|rfl
 ·omega
 ·obtain ⟨rfl,rfl⟩:i=0/\j=0:=by omega
  refine Ev.x N.I7 rfl rfl ?_;(repeat' ((first|(apply AU;omega)|(apply B7;omega)|(apply EK;omega)|(refine OW ?_ ?_ (λ_ => ?_) (λ_ _ => ?_);omega;omega;all_goals try (exfalso;omega))|apply AE)<;>conv=>whnf))
  exact C2 rfl
 ·obtain ⟨rfl,rfl⟩|⟨rfl,rfl⟩|⟨rfl,rfl⟩:(i=0/\j=0)\/(i=0/\j=1)\/(i=1/\j=1):=by omega
  all_goals
   refine Ev.x N.I7 rfl rfl ?_;(repeat' ((first|(apply AU;omega)|(apply B7;omega)|(apply EK;omega)|(refine OW ?_ ?_ (λ_ => ?_) (λ_ _ => ?_);omega;omega;all_goals try (exfalso;omega))|apply AE)<;>conv=>whnf))
   exact C2 rfl
 ·obtain ⟨rfl,rfl⟩|⟨rfl,rfl⟩|⟨rfl,rfl⟩|⟨rfl,rfl⟩|⟨rfl,rfl⟩|⟨rfl,rfl⟩:(i=0/\j=0)\/(i=0/\j=1)\/(i=0/\j=2)\/(i=1/\j=1)\/(i=1/\j=2)\/(i=2/\j=2):=by omega
  all_goals
   refine Ev.x N.I7 rfl rfl ?_;(repeat' ((first|(apply AU;omega)|(apply B7;omega)|(apply EK;omega)|(refine OW ?_ ?_ (λ_ => ?_) (λ_ _ => ?_);omega;omega;all_goals try (exfalso;omega))|apply AE)<;>conv=>whnf))
   exact C2 rfl
theorem AkP (r:List Rat):(r.map some).map eO=r.map eQ:=by rw[List.map_map];rfl
theorem Alb {n:Nat} (hn:n<=3):(0<=(n:Int)*((n:Int)+1)/\(n:Int)*((n:Int)+1)<=12)/\((n:Int)*((n:Int)+1))/2=((n*(n+1)/2:Nat):Int)/\n*(n+1)/2<=6:=by
 rcases TN hn with rfl|rfl|rfl|rfl<;>decide
theorem Aj2 {k m:Nat} (hk:k<=82) (hm:m<=6):10*E0 k m<=100000000000:=by
 rcases (show m=0\/m=1\/m=2\/m=3\/m=4\/m=5\/m=6 by omega) with rfl|rfl|rfl|rfl|rfl|rfl|rfl<;>simp only[E0]<;>omega
theorem AiO {X:List Rat} {n i:Nat} (hi:i<n):(kM X n)[i]? = some ((List.range n).map λ j=>X.getD (dz n (min i j) (max i j)) 0):=by rw[kM,List.getElem?_map,List.getElem?_range hi];rfl
theorem Ahb (N:v7 L) (A:List (List Rat)) (B:List Rat) (n k:Nat) (hA:Sq n A) (hB:B.length=n) (ke:Ms k A) (Aa:Bs k B) (hk:k<=20) (hn:n<=3) (q1 q2 q3:Bool) :
  ∃ v,Ev L 326 [.sl q1 (CN q2 A),.sl q3 (B.map eQ)] v/\(((∀ j,j<=6->DJ (B6 n A j)=false)/\v = .j5 [.sl false [],.int .i64 14])\/((∃ i,i<=6/\OV n A i)/\((¬ NS (BC n n).length (gM A n)/\v = .j5 [.sl false [],.int .i64 11])\/(NS (BC n n).length (gM A n) /\ ∃ X:List Rat,NY A B X n/\Bs (E0 (4*k+2) (BC n n).length) X/\v = .j5 [.sl false (eM (kM X n)),.int .i64 0])))):=by
 have ag:=hA.l;obtain ⟨v,Bo,bh⟩:=Ahc N.tode q1 q2 A n k hA ke (by omega) (by omega);refine Ev.xE N.SC rfl rfl ?_;rcases bh with ⟨i0,i1,i2,rfl⟩|⟨i1,rfl⟩
 rotate_left
 ·(repeat' ((first|(apply AG<;>intro hc<;>try (exfalso;omega))|apply AR|apply AE|refine AC (Bo) ?_)<;>conv=>whnf))
  exact ⟨_,AX rfl (IQ [] 14),Or.inl ⟨i1,rfl⟩⟩
 have me : ∃ i,i<=6/\OV n A i:=⟨i0,i1,i2⟩;clear i1 i2;generalize ((2^i0:Nat):Int)=pw0 at *;clear i0;by_cases ue:n=0
 ·subst ue
  (repeat' ((first|(apply AG<;>intro hc<;>try (exfalso;omega))|apply AR|apply AE|refine AC (Bo) ?_)<;>conv=>whnf))
  refine ⟨_,AX rfl (IQ [] 0),Or.inr ⟨me,Or.inr ⟨λ X hX _ j => ?_,[],⟨rfl,λ i r s hr=>by cases hr⟩,(λ x hx=>by cases hx),rfl⟩⟩⟩;rw[List.length_eq_zero_iff.1 hX];rfl
 obtain ⟨⟨t1,t2⟩,t3,t4⟩:=Alb hn;have Gm:=AjL hn;have vz:1<=(BC n n).length:=by
  rcases TN hn with rfl|rfl|rfl|rfl<;>first|omega|decide
 have hO:=YH N.tob8 1 (by omega);have va:=λ i j h1 h2=>AgU N n i j hn h1 h2
 (repeat' ((first|(apply AG<;>intro hc<;>try (exfalso;omega))|apply AR|apply AE|refine AC (Bo) ?_)<;>conv=>whnf))
 rw[ag];refine bX 9 9 rfl ?_;refine BP (λ i=>n-i) (λ(i:Nat)=>i<=n) (λ i=>[(11,.int .i64 i),(9,.row 9 0 1 0 (BC n i).length),(10,.row 10 0 3 0 (BC n i).length)]) (λ i=>[(9,9,.mx (BK 3 eQ ((BC n i).map (DZ A n)))),(10,10,.rw 3 (((BC n i).map λ p=>bQ B p.1*bQ B p.2).map eQ))]) [] [] 0 (by (conv=>whnf);exact ⟨rfl,rfl,rfl⟩) (by omega) ?_;intro i p1 ih;by_cases hi:i<n
 ·have hS:=Ri hi
  obtain ⟨r1,ak,kj,nh⟩:=Y4 hA hi;have Cy:A[((i:Nat):Int).toNat]? = some r1:=ak;have Ct:=fX n (i:=i+1) (n-(i+1));rw[show i+1+(n-(i+1))=n by omega]at Ct;have yo:B[((i:Nat):Int).toNat]? = some (bQ B i):=OX hB hi;(repeat' ((first|(apply AG<;>intro hc<;>try (exfalso;omega))|apply AE)<;>conv=>whnf))
  refine BP (λ t=>n-i-t) (λ(t:Nat)=>t<=n-i) (λ t=>[(12,.int .i64 ((i+t:Nat):Int)),(9,.row 9 0 1 0 ((BC n i).length+t)),(10,.row 10 0 3 0 ((BC n i).length+t))]) (λ t=>[(9,9,.mx (BK 3 eQ ((BC n i++DN i t).map (DZ A n)))),(10,10,.rw 3 (((BC n i++DN i t).map λ p=>bQ B p.1*bQ B p.2).map eQ))]) [] [] 0 (by first|exact (by (conv=>whnf);exact ⟨rfl,rfl,rfl⟩)|(rw[show DN i 0=[] from rfl,List.append_nil];exact (by (conv=>whnf);exact ⟨rfl,rfl,rfl⟩))) (by omega) ?_;intro t u1 th;by_cases ht:t<n-i
  ·obtain ⟨r2,bj,gk,px⟩:=Y4 hA (show i+t<n by omega)
   have Ni:A[((i+t:Nat):Int).toNat]? = some r2:=bj;have Lh:B[((i+t:Nat):Int).toNat]? = some (bQ B (i+t)):=OX hB (by omega);have Km:=TB N.tob8 (Bs.at Aa (OX hB hi)) (Bs.at Aa (OX hB (show i+t<n by omega))) (by omega) (by omega);have Ai:BC n i++DN i (t+1)=(BC n i++DN i t)++[(i,i+t)]:=by rw[Rk,List.append_assoc]
   have Fp:(BC n i++DN i t).length=(BC n i).length+t:=by rw[List.length_append,YY]
   have yw:(BC n i++DN i (t+1)).map (DZ A n)=(BC n i++DN i t).map (DZ A n)++[DZ A n (i,i+t)]:=by rw[Ai,List.map_append];rfl
   have jy:((BC n i++DN i (t+1)).map λ p=>bQ B p.1*bQ B p.2)=((BC n i++DN i t).map λ p=>bQ B p.1*bQ B p.2)++[bQ B i*bQ B (i+t)]:=by rw[Ai,List.map_append];rfl
   have Mc:((BC n i++DN i t).map (DZ A n)).length=(BC n i).length+t:=by rw[List.length_map];exact Fp
   have Md:((BC n i++DN i t).map λ p=>bQ B p.1*bQ B p.2).length=(BC n i).length+t:=by rw[List.length_map];exact Fp
   have Ma:((BC n i++DN i (t+1)).map (DZ A n)).length=(BC n i).length+(t+1):=by rw[List.length_map,List.length_append,YY]
   have Mb:((BC n i++DN i (t+1)).map λ p=>bQ B p.1*bQ B p.2).length=(BC n i).length+(t+1):=by rw[List.length_map,List.length_append,YY]
   have Ko:=va i (i+t) (by omega) (by omega);have uf:=fY hn hi (show i+t<n by omega);rw[show min i (i+t)=i by omega,show max i (i+t)=i+t by omega]at uf;have v9:UP n i (i+t)=(List.replicate (n*(n+1)/2) none).set (dz n i (i+t)) (some 1):=rfl;have gi:=Aj5 (A:=A) hn (show i<=i+t by omega) (show i+t<n by omega);have Nm:(UP n i (i+t)).length=n*(n+1)/2:=by simp [UP]
   have Wf:=Aj6 n i (i+t);generalize (BC n i++DN i t).map (DZ A n)=G0 at *;generalize ((BC n i++DN i t).map λ p=>bQ B p.1*bQ B p.2)=R0 at *;have AuY:(DZ A n (i,i+t)).length=n*(n+1)/2:=by rw[DZ,List.length_map,Gm]
   generalize DZ A n (i,i+t)=gr at *;generalize bQ B i*bQ B (i+t)=gy at *;(repeat' ((first|(apply AG<;>intro hc<;>try (exfalso;omega))|(apply AU;omega)|(apply EK;omega)|(refine OW ?_ ?_ (λ_ => ?_) (λ_ _ => ?_);omega;omega;all_goals try (exfalso;omega))|apply AE)<;>conv=>whnf))
   refine EJ (enc:=eO) none (n*(n+1)/2) rfl t3 (by rw[t3];omega) ?_;(conv=>whnf)
   (repeat' ((first|(apply AZ;omega)|refine AC (Ko) ?_|refine AC (hO) ?_)<;>conv=>whnf))
   refine FF (enc:=eO) (some 1) rfl (λ e=>by cases e<;>rfl) (by rw[List.length_replicate];exact uf) ?_;(conv=>whnf)
   rw[<-v9];generalize UP n i (i+t)=S0 at *;skip
   refine BP (λ k=>n-k) (λ(k:Nat)=>k<=n) (λ k=>[(14,.int .i64 k)]) (λ k=>[(58,58,.rw 3 ((JV n S0 (λ k h=>A4 A i k*A4 A (i+t) h) k).map eO))]) [] [] 0 (by (conv=>whnf);exact ⟨rfl,rfl,rfl⟩) (by omega) ?_;intro kk k1 kh;by_cases fq:kk<n
   ·have Om:=nh kk fq
    have AvM:r1[((kk:Nat):Int).toNat]? = some (A4 A i kk):=Om;have Mt:=Pw (n:=n) Wf (λ a b=>(E3 ke i a).mul (E3 ke (i+t) b)) kk;have Hh:=Pv n S0 (λ k h=>A4 A i k*A4 A (i+t) h) kk;rw[Nm]at Hh;have hKn:JV n S0 (λ k h=>A4 A i k*A4 A (i+t) h) (kk+1)=I8 n (JV n S0 (λ k h=>A4 A i k*A4 A (i+t) h) kk) kk (λ h=>A4 A i kk*A4 A (i+t) h) n:=rfl;have hkb:kk*(n*(k+k+1))<=400:=by
     have h1:n*(k+k+1)<=3*41:=Nat.mul_le_mul hn (by omega);have h2:kk*(n*(k+k+1))<=3*(3*41):=Nat.mul_le_mul (by omega) h1;omega
    (repeat' ((first|(apply AG<;>intro hc<;>try (exfalso;omega))|apply AE)<;>conv=>whnf))
    refine BP (λ h=>n-h) (λ(h:Nat)=>h<=n) (λ h=>[(15,.int .i64 h)]) (λ h=>[(58,58,.rw 3 ((I8 n (JV n S0 (λ k h=>A4 A i k*A4 A (i+t) h) kk) kk (λ h=>A4 A i kk*A4 A (i+t) h) h).map eO))]) [] [] 0 (by (conv=>whnf);exact ⟨rfl,rfl,rfl⟩) (by omega) ?_;intro hh h1 Vp;generalize JV n S0 (λ k h=>A4 A i k*A4 A (i+t) h) kk=K0 at *;by_cases Vq:hh<n
    ·have hx2:=px hh Vq
     have AvO:r2[((hh:Nat):Int).toNat]? = some (A4 A (i+t) hh):=hx2;have hM:=TB N.tob8 (E3 ke i kk) (E3 ke (i+t) hh) (by omega) (by omega);have rf:=va (min kk hh) (max kk hh) (by omega) (by omega);have hpm:=fY hn fq Vq;have Mr:=oB (n:=n) (a:=kk) Mt (λ h=>(E3 ke i kk).mul (E3 ke (i+t) h)) hh;have Wa:=oA n K0 kk (λ h=>A4 A i kk*A4 A (i+t) h) hh;rw[Hh]at Wa;have Uq:I8 n K0 kk (λ h=>A4 A i kk*A4 A (i+t) h) (hh+1)=VS n (I8 n K0 kk (λ h=>A4 A i kk*A4 A (i+t) h) hh) kk hh (A4 A i kk*A4 A (i+t) hh):=rfl;generalize I8 n K0 kk (λ h=>A4 A i kk*A4 A (i+t) h) hh=H0 at *;obtain ⟨o,ho⟩ : ∃ o,H0[dz n (min kk hh) (max kk hh)]? = some o:=⟨_,zE (by omega)⟩;have Ve:=Mr.at (dz n (min kk hh) (max kk hh));rw[VS,ho]at Uq;rw[ho]at Ve;have hhb:hh*(k+k+1)<=123:=Nat.mul_le_mul (show hh<=3 by omega) (show k+k+1<=41 by omega);have hSb:Ev L 153 [.agg (eP o),.agg (eQ (A4 A i kk*A4 A (i+t) hh))] (.agg (eQ (o.getD 0-A4 A i kk*A4 A (i+t) hh))):=Ahn N.too0 Ve ((E3 ke i kk).mul (E3 ke (i+t) hh)) (by omega) (by omega);generalize dz n (min kk hh) (max kk hh)=pp at *;generalize A4 A i kk*A4 A (i+t) hh=yy at *;have Kp:(hh<kk/\Ev L 325 [.int .i64 (hh:Int),.int .i64 (kk:Int),.int .i64 (n:Int)] (.int .i64 (pp:Int)))\/(kk<hh/\Ev L 325 [.int .i64 (kk:Int),.int .i64 (hh:Int),.int .i64 (n:Int)] (.int .i64 (pp:Int)))\/(kk=hh/\Ev L 325 [.int .i64 (kk:Int),.int .i64 (kk:Int),.int .i64 (n:Int)] (.int .i64 (pp:Int))):=by
      rcases Nat.lt_trichotomy hh kk with l9|kg|kg
      ·rw[Nat.min_eq_right (by omega),Nat.max_eq_left (by omega)]at rf
       exact Or.inl ⟨l9,rf⟩
      ·rw[Nat.min_eq_left (by omega),Nat.max_eq_left (by omega)]at rf
       exact Or.inr (Or.inr ⟨kg.symm,rf⟩)
      ·rw[Nat.min_eq_left (by omega),Nat.max_eq_right (by omega)]at rf
       exact Or.inr (Or.inl ⟨kg,rf⟩)
     clear rf;have hHs:H0.set pp (some (o.getD 0-yy))=I8 n K0 kk (λ h=>A4 A i kk*A4 A (i+t) h) (hh+1):=Uq.symm;generalize o.getD 0-yy=zz at *;rcases Kp with ⟨l9,rf⟩|⟨l9,rf⟩|⟨l9,rf⟩
     all_goals cases o
     all_goals
      (repeat' ((first|(apply AG<;>intro hc<;>try (exfalso;omega))|(apply AZ;omega)|apply AE|refine AC (rf) ?_)<;>conv=>whnf))
      refine XX (l:=H0) (enc:=eO) (by rw[Nat.zero_add,Int.toNat_natCast];exact ho) rfl ?_;(conv=>whnf)
      (repeat' ((first|(apply AZ;omega)|(refine BA (by assumption) ?_ rfl ?_;omega)|refine AC (hM) ?_|refine AC (hSb) ?_)<;>conv=>whnf))
      refine FF (enc:=eO) (some zz) rfl (λ e=>by cases e<;>rfl) (by omega) ?_;(conv=>whnf)
      rw[hHs];(repeat' ((first|(apply AU;omega)|fail)<;>conv=>whnf))
      exact BG [] (Vp (hh+1) (by omega) (by omega))
    ·have eh:hh=n:=by omega
     clear Vp;rw[eh,<-hKn];(repeat' ((first|(apply AG<;>intro hc<;>try (exfalso;omega))|(apply AU;omega)|apply AE)<;>conv=>whnf))
     exact BG [] (kh (kk+1) (by omega) (by omega))
   ·have ek:kk=n:=by omega
    clear kh;rw[ek,gi,AkP];(repeat' ((first|(apply AG<;>intro hc<;>try (exfalso;omega))|apply AE)<;>conv=>whnf))
    refine AZ (by rw[List.length_map];omega) ?_;refine XR (r:=gr) (en:=eQ) Mc.symm (by omega) (by omega) ?_;(conv=>whnf)
    rw[<-yw,Ma];(repeat' ((first|(refine BA (by assumption) ?_ rfl ?_;omega)|apply DW|refine AC (Km) ?_)<;>conv=>whnf))
    refine EO (enc:=eQ) gy rfl Md.symm rfl (by omega) (by omega) ?_;(conv=>whnf)
    rw[<-jy,Mb];(repeat' ((first|(apply AU;omega)|fail)<;>conv=>whnf))
    exact BG [(9,110),(10,122)] (th (t+1) (by omega) (by omega))
  ·have et:t=n-i:=by omega
   clear th;have e1:BC n i++DN i t=BC n (i+1):=by rw[et];rfl
   have e2:(BC n i).length+t=(BC n (i+1)).length:=by rw[hS,et]
   rw[e1,e2];(repeat' ((first|(apply AG<;>intro hc<;>try (exfalso;omega))|(apply AU;omega)|apply AE)<;>conv=>whnf))
   exact BG [] (ih (i+1) (by omega) (by omega))
 have ei:i=n:=by omega
 clear ih;rw[ei];clear ei p1 hi i;obtain ⟨v,Uy,bh⟩:=Ag6 N true true true (gM A n) (gR B n) (BC n n).length (4*k+2) (YO A) (eI B n) (AhG Aa n) ⟨vz,by omega⟩ (AhE ke n) (by omega) (Aj2 (by omega) (by omega));have Kg:(gM A n).length=(BC n n).length:=(YO A).l;have xi:=eI B n;have Gc : ∀ y:List Rat,y.length=(BC n n).length->(∀ (i:Nat) (r:List Rat) (s:Rat),(gM A n)[i]? = some r->(gR B n)[i]? = some s->A0 r y=s)->NY A B y n:=λ y h1 h2=>⟨h1,h2⟩
 rw[show (BC n n).map (DZ A n)=gM A n from rfl,show ((BC n n).map λ p=>bQ B p.1*bQ B p.2)=gR B n from rfl];generalize gM A n=G at *;generalize gR B n=R at *;(repeat' ((first|(apply AG<;>intro hc<;>try (exfalso;omega))|apply AE)<;>conv=>whnf))
 refine J4 (λ_=>rfl) rfl Kg.symm ?_;(conv=>whnf)
 refine C9 (enc:=eQ) (λ_=>rfl) rfl xi.symm ?_;(conv=>whnf)
 rcases bh with ⟨fr,rfl⟩|⟨fr,X,rfl,pt,ve,hX⟩
 ·(repeat' ((first|(apply AG<;>intro hc<;>try (exfalso;omega))|refine AC (Uy) ?_)<;>conv=>whnf))
  exact ⟨_,AX rfl (IQ [] 11),Or.inr ⟨me,Or.inl ⟨fr,rfl⟩⟩⟩
 have hgX:=Gc X pt hX;clear Gc hX;have Ad:=aL X n;have Ac:=Ad.l;have Du:=Ad.r;have Ff : ∀ i,i<n->(kM X n)[i]? = some ((List.range n).map λ j=>X.getD (dz n (min i j) (max i j)) 0):=λ i hi=>AiO hi
 have Bp : ∀ i j,j<n->((List.range n).map λ j=>X.getD (dz n (min i j) (max i j)) 0)[j]? = some (X.getD (dz n (min i j) (max i j)) 0):=λ i j hj=>by rw[List.getElem?_map,List.getElem?_range hj];rfl
 have Vc : ∀ i j,i<n->j<n->X[(((dz n (min i j) (max i j)):Nat):Int).toNat]? = some (X.getD (dz n (min i j) (max i j)) 0):=λ i j hi hj=>by
  have:=fY hn hi hj
  rw[Int.toNat_natCast,List.getD_eq_getElem?_getD,zE (by omega)];rfl
 generalize hQQ:kM X n=Q at *;(repeat' ((first|(apply AG<;>intro hc<;>try (exfalso;omega))|refine AC (Uy) ?_)<;>conv=>whnf))
 unfold CS;refine ⟨⟨by omega,by omega,by simp only[EA];omega,by omega⟩,?_⟩;rw[Int.toNat_natCast];(conv=>whnf)
 skip
 refine BP (λ i=>n-i) (λ(i:Nat)=>i<=n) (λ i=>[(20,.int .i64 i)]) (λ i=>[(133,133,.mx (mz Q n i))]) [] [] 0 (by first|exact (by (conv=>whnf);exact ⟨rfl,rfl,rfl⟩)|(rw[<-nC Q];exact (by (conv=>whnf);exact ⟨rfl,rfl,rfl⟩))) (by omega) ?_;intro i p1 ih;have Wv:=nA (Q:=Q) p1;by_cases hi:i<n
 ·have hq:=Ff i hi
  have k6:=nB hq hi;have np:(mz Q n i)[i]? = some none:=zJ Ac hi;have xu:=Du _ (zM hq);have ft:((List.range n).map λ j=>X.getD (dz n (min i j) (max i j)) 0).take 1=[X.getD (dz n (min i 0) (max i 0)) 0]:=by
   rw[UY (Bp i 0 (by omega))];rfl
  have Nc : ∀ j,j<n->((List.range n).map λ j=>X.getD (dz n (min i j) (max i j)) 0).take (j+1)=((List.range n).map λ j=>X.getD (dz n (min i j) (max i j)) 0).take j++[X.getD (dz n (min i j) (max i j)) 0]:=λ j hj=>UY (Bp i j hj)
  have rf : ∀ j,j<n -> ∀ a b:Int,a=((min i j:Nat):Int)/\b=((max i j:Nat):Int)->Ev L 325 [.int .i64 a,.int .i64 b,.int .i64 (n:Int)] (.int .i64 ((dz n (min i j) (max i j):Nat):Int)):=λ j hj a b h=>by
   rw[h.1,h.2];exact va (min i j) (max i j) (by omega) (by omega)
  have Wj:=λ j (hj:j<n)=>fY hn hi hj
  generalize mz Q n i=Z0 at *;generalize ((List.range n).map λ j=>X.getD (dz n (min i j) (max i j)) 0)=qr at *;have Ie:=rf 0 (by omega);have xm:=Vc i 0 hi (by omega);have My:=Wj 0 (by omega);generalize X.getD (dz n (min i 0) (max i 0)) 0=y0 at *;generalize dz n (min i 0) (max i 0)=pp at *;(repeat' ((first|(apply AG<;>intro hc<;>try (exfalso;omega))|apply AE)<;>conv=>whnf))
  refine GH ?_;(repeat' ((first|(apply AG<;>intro hc<;>try (exfalso;omega))|(apply AZ;omega)|apply AE)<;>conv=>whnf))
  refine iM (r:=none) (by rw[Nat.zero_add,Int.toNat_natCast];exact np) ?_;(conv=>whnf)
  (repeat' ((first|(apply AG<;>intro hc<;>try (exfalso;omega))|(refine BA (by assumption) ?_ rfl ?_;omega)|apply DW|refine AC (Ie _ _ (by omega)) ?_)<;>conv=>whnf))
  all_goals
   refine ZD (enc:=eQ) y0 rfl rfl (by omega) ?_;(conv=>whnf)
   (repeat' ((first|(apply AZ;omega)|fail)<;>conv=>whnf))
   refine AZ rfl ?_;refine XZ (i:=i) (by omega) (by omega) ?_;(conv=>whnf)
   (repeat' ((first|(apply AU;omega)|fail)<;>conv=>whnf))
   refine BP (λ j=>n-j) (λ(j:Nat)=>1<=j/\j<=n) (λ j=>[(21,.int .i64 j)]) (λ j=>[(133,133,.mx (Z0.set i (some (3,(qr.take j).map eQ))))]) [] [] 1 (by first|exact (by (conv=>whnf);exact ⟨rfl,rfl,rfl⟩)|(rw[ft];exact (by (conv=>whnf);exact ⟨rfl,rfl,rfl⟩))) (by omega) ?_;intro j ⟨r1,r2⟩ jh;have Df:(qr.take j).length=j:=by rw[List.length_take];omega
   by_cases hj:j<n
   ·have qh:=Nc j hj
    have Dg:(qr.take (j+1)).length=j+1:=by rw[List.length_take];omega
    have hPj:=rf j hj;have Iq:=Vc i j hi hj;have hpj:=Wj j hj;generalize X.getD (dz n (min i j) (max i j)) 0=yj at *;generalize dz n (min i j) (max i j)=pj at *;generalize qr.take j=W at *;(repeat' ((first|(apply AG<;>intro hc<;>try (exfalso;omega))|(apply AZ;omega)|apply AE)<;>conv=>whnf))
    refine V6 (by omega) (by omega) ?_;(conv=>whnf)
    (repeat' ((first|(apply AG<;>intro hc<;>try (exfalso;omega))|(refine BA (by assumption) ?_ rfl ?_;omega)|apply DW|refine AC (hPj _ _ (by omega)) ?_)<;>conv=>whnf))
    all_goals
     refine TT (by omega) (by omega) ?_;(conv=>whnf)
     refine EO (enc:=eQ) yj rfl (by rw[List.length_map]) rfl (by omega) (by omega) ?_;intro s' v;rw[<-qh,Dg];(conv=>whnf)
     (repeat' ((first|(apply AZ;omega)|fail)<;>conv=>whnf))
     refine AZ ⟨rfl,by rw[List.length_map];omega⟩ ?_;refine XZ (i:=i) (by omega) (by rw[List.length_set,List.length_set];omega) ?_;rw[show 0+((i:Int)).toNat=i by omega,List.set_set,List.set_set];(conv=>whnf)
     (repeat' ((first|(apply AU;omega)|fail)<;>conv=>whnf))
     exact BG [] (jh (j+1) (by omega) (by omega))
   ·have ej:j=n:=by omega
    clear jh;rw[ej,List.take_of_length_le (by omega),k6];(repeat' ((first|(apply AG<;>intro hc<;>try (exfalso;omega))|(apply AU;omega)|apply AE)<;>conv=>whnf))
    exact BG [] (ih (i+1) (by omega) (by omega))
 have ei:i=n:=by omega
 clear ih;rw[ei,mZ (by omega)];(repeat' ((first|(apply AG<;>intro hc<;>try (exfalso;omega))|apply AE)<;>conv=>whnf))
 refine ⟨.j5 [.sl false (eM Q),.int .i64 0],?_,Or.inr ⟨me,Or.inr ⟨fr,X,hgX,ve,by rw[hQQ]⟩⟩⟩;(conv=>whnf)
 refine J4 (λ_=>rfl) rfl Ac.symm ?_;(conv=>whnf)
 exact AX rfl (IQ Q 0)
end Go.c9

namespace Go.c9
set_option maxHeartbeats 4000000
theorem Tn (f g:Nat->Rat) : ∀ n,BF (λ i=>f i+g i) n=BF f n+BF g n
 | 0=>by simp only[BF];grind
 | n+1=>by
  have:=Tn f g n
  simp only[BF]at this ⊢;rw[this];grind
theorem Tq (f:Nat->Nat->Rat) (m:Nat) : ∀ n,BF (λ i=>BF (λ j=>f i j) m) n=BF (λ j=>BF (λ i=>f i j) n) m
 | 0=>by
  rw[BF];exact (XC m λ j _=>rfl).symm
 | n+1=>by
  have e:(λ j=>BF (λ i=>f i j) (n+1))=λ j=>BF (λ i=>f i j) n+f n j:=rfl
  rw[e,Tn,<-Tq f m n];rfl
end Go.c9
