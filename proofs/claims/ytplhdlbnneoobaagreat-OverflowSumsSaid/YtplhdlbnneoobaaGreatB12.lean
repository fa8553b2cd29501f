/-
  Powers and sums (layer 29): the program's engine.
-/
import Derived.Test.YtplhdlbnneoobaaGreatB11
import Derived.Test.YtplhdlbnneoobaaGreatB4
import Derived.Test.YtplhdlbnneoobaaGreatB9
import Derived.Test.YtplhdlbnneoobaaGreatB7
set_option linter.unusedSimpArgs false
set_option linter.unusedVariables false
set_option linter.unnecessarySimpa false
namespace Go.c4
open F
attribute [local irreducible] AA AF AU AC B6 AQ AX A9 A4 BS AP BR B0 C2 BN A0 BK B2 AB A5 AJ pw CG B4 CM CZ CU CP CN BJ B9
variable {L:Lib}
set_option maxHeartbeats 16000000
set_option maxRecDepth 8000
abbrev MV (q:Bool) (R:List (List Rat)) (D:Rat) (p:Int) (T:Rat):List AV:=[.sl false (G5 q R)]++eQ D++[.int .i64 p]++eQ T
theorem XQ (R:List (List Rat)) (D:Rat) (p:Int) (T:Rat) (e:Int):A1 (.j5 [.agg (MV false R D p T),.int .i64 e]):=by
 have h1:=XR R;have h2:=C4 D;have h3:=C4 T;simp only[A1,CQ,true_and,and_true,MV,List.cons_append,List.nil_append]at h1 h2 h3 ⊢;exact ⟨h1,h2.1,h2.2,h3.1,h3.2⟩
theorem RB {i:Nat} (h:i<=6):2^i<=64/\(2^i=64->i=6)/\1<=2^i:=by
 obtain rfl|rfl|rfl|rfl|rfl|rfl|rfl:i=0\/i=1\/i=2\/i=3\/i=4\/i=5\/i=6:=by omega
 all_goals decide
theorem aD {D:Rat} {d:Nat} (h:Bt d D) : ∀ j:Nat,Bt (j*d) (D^j)
 | 0=>by rw[Rat.pow_zero];exact Bt.one _
 | j+1=>by
  rw[Rat.pow_succ];exact ((aD h j).mul h).le (by rw[Nat.succ_mul];omega)
theorem VT {S M:Nat} (h:S<=2^M):Bt M (S:Rat):=by
 refine ⟨?_,?_⟩
 ·rw[Rat.num_natCast,Int.natAbs_natCast];exact h
 ·rw[Rat.den_natCast];exact Nat.one_le_two_pow
theorem VU {S:Nat} (h:0<S):(0:Rat)<(S:Rat):=by
 have:=Rat.natCast_lt_natCast.2 h
 exact this
theorem zQ (N:n7 L) (q q':Bool) (a:List (List Rat)) (n k:Nat) (hs:Sq n a) (ha:Ms k a) (hn:n<=4) (hk:k<=100000) :
  ∃ v,Ev L 303 [.sl q (G5 q' a)] v/\((∃ i,i<=6/\HY n a i/\v = .j5 [.agg (MV false (B7 (HW a.flatten) a) (HW a.flatten) ((2^i:Nat):Int) (HW a.flatten^(2^i+2^i-1))),.int .i64 0]) \/
   ((∀ j,j<=6->DF (BU n a j)=false)/\v = .j5 [.agg [.sl false [],.bool false,.sl false [],.sl false [],.int .i64 0,.bool false,.sl false [],.sl false []],.int .i64 14])):=by
 have dw:=hs.l;have Eu:n*n<=4*4:=Nat.mul_le_mul hn hn;have Et:n*n*k<=16*k:=Nat.mul_le_mul_right k Eu;have cn:a.flatten.length<=64:=by
  have : ∀ (a:List (List Rat)),(∀ r∈a,r.length=n)->a.flatten.length=a.length*n:=by
   intro a;induction a with
   | nil=>intro _;simp
   | cons r a ih =>
    intro h;rw[List.flatten_cons,List.length_append,ih λ x hx=>h x (List.mem_cons_of_mem _ hx),h r List.mem_cons_self,List.length_cons,Nat.succ_mul,Nat.add_comm]
  rw[this a hs.r,dw];omega
 have wj:=YN N q q' a k ha cn (by omega) (by omega);have hO:=HL N.toa7 1 (by omega);rw[show ((1:Int):Rat)=1 from rfl]at hO;obtain ⟨D0,eD,d1,d2,d3⟩:=bH hs ha;have Dh:Bt (16*k) (D0:Rat):=VT (Nat.le_trans d2 (Nat.pow_le_pow_right (by omega) Et));have Tl:(0:Rat)<(D0:Rat):=VU d1;have Hd:=X8 (Nat.le_trans d2 (Nat.pow_le_pow_right (by omega) Et));have Hi:=bS hs hn d3;rw[eD]at wj ⊢;generalize (D0:Rat)=D at *;clear eD d1 d2 d3;have um:(B7 D a).length=n:=by rw[bF];exact dw
 have Ds : ∀ (i:Nat) (r:List Rat),a[i]? = some r->(B7 D a)[i]? = some (r.map (· * D)):=λ i r hr=>Rz hr
 have rj : ∀ i,Sq n (B7 (DN D i) (BU n a i)):=λ i=>nR _ (N2 hs i)
 have qk : ∀ i,i<=6->Ms 300000000 (B7 (DN D i) (BU n a i)):=λ i hi r hr x hx=>((Hi i r hr x hx).le (by have:=Rs (k:=k) i (by omega);omega)).bt
 have v5 : ∀ i,i<=6->Bt 300000000 (DN D i):=λ i hi=>((Hd i).le (by
  have:=(RB hi).1
  have:=Nat.mul_le_mul_right (16*k) this
  omega)).bt
 have Hc:=λ(i:Nat) (q q':Bool) (hi:i<=6)=>zL N q q' (B7 (DN D i) (BU n a i)) (DN D i) n 300000000 300000000 (rj i) (qk i hi) (v5 i hi) (by omega) (by omega) (by omega)
 have yu:=λ(i:Nat) (q q':Bool) (hi:i<=6)=>zP N q q' (B7 (DN D i) (BU n a i)) n 300000000 (rj i) (qk i hi) hn (by omega)
 have Hg:=λ(i:Nat) (hi:i<=6)=>I7 N.toa7 (v5 i hi) (v5 i hi) (by omega) (by omega)
 have j9 : ∀ i,FC (B7 (DN D i) (BU n a i)) (B7 (DN D i) (BU n a i)) n=B7 (DN D (i+1)) (BU n a (i+1)):=λ i=>oF n a D i
 have zd : ∀ i,(∀ r∈B7 (DN D i) (BU n a i),A8 r+A8 r<=DN D i)↔DF (BU n a i)=true:=λ i=>uX Tl
 have Hf:=λ(j:Nat) (hj:j<=128)=>I7 N.toa7 (aD Dh j) Dh (show j*(16*k)<2199023255552 by
  have:=Nat.mul_le_mul_right (16*k) hj
  omega) (by omega)
 have zl : ∀ (i:Nat) (q q':Bool),i<=6->Ev L 302 [.sl q (G5 q' (B7 (DN D i) (BU n a i))),.agg (eQ (DN D i))] (.bool (DF (BU n a i))):=λ i q q' hi=>by
  have:=Hc i q q' hi
  rwa [show decide (∀ r∈B7 (DN D i) (BU n a i),A8 r+A8 r<=DN D i)=DF (BU n a i) by rw[Bool.eq_iff_iff,decide_eq_true_iff];exact zd i]at this
 have yq : ∀ (i:Nat) (q q':Bool),i<=6->Ev L 299 [.sl q (G5 q' (B7 (DN D i) (BU n a i)))] (.sl false (eM (B7 (DN D (i+1)) (BU n a (i+1))))):=λ i q q' hi=>by
  have:=yu i q q' hi
  rwa [j9]at this
 have fo : ∀ i,i<=6->Ev L 99 [.agg (eQ (DN D i)),.agg (eQ (DN D i))] (.agg (eQ (DN D (i+1)))):=Hg;have Dj : ∀ j:Nat,j<=128->Ev L 99 [.agg (eQ (D^j)),.agg (eQ D)] (.agg (eQ (D^(j+1)))):=λ j hj=>by
  have:=Hf j hj
  rwa [<-Rat.pow_succ]at this
 have uh : ∀ q q':Bool,Ev L 302 [.sl q (G5 q' (B7 D a)),.agg (eQ D)] (.bool (DF (BU n a 0))):=λ q q'=>zl 0 q q' (by omega)
 have Tv : ∀ q q':Bool,Ev L 299 [.sl q (G5 q' (B7 D a))] (.sl false (eM (B7 (DN D 1) (BU n a 1)))):=λ q q'=>yq 0 q q' (by omega)
 have Tp:Ev L 99 [.agg (eQ D),.agg (eQ D)] (.agg (eQ (DN D 1))):=fo 0 (by omega);clear Hc yu Hg Hf j9 zd qk v5 rj Hi Hd;refine Ev.xE N.KV rfl rfl ?_;by_cases h0:n=0
 ·obtain rfl:a=[]:=List.length_eq_zero_iff.1 (by omega)
  have hb:DF (BU n [] 0)=true:=rfl;have ia:=uh false false;rw[hb]at ia;have Df:Ev L 302 [.sl false [],.agg (eQ D)] (.bool true):=ia;have Hh:=Dj 0 (by omega);rw[Rat.pow_zero]at Hh;(repeat' ((first|apply AR|apply AE|refine AD (wj) ?_|refine AD (hO) ?_)<;>conv=>whnf))
  refine F9 ?_;(repeat' ((first|(apply AG<;>intro hc<;>try (exfalso;omega))|apply AE)<;>conv=>whnf))
  refine F9 ?_;(repeat' ((first|(apply B1;omega)|(apply D5;omega)|apply AE|refine AD (Df) ?_)<;>conv=>whnf))
  refine F9 ?_;(repeat' ((first|(apply AG<;>intro hc<;>try (exfalso;omega))|(apply AY;omega)|apply AE|refine AD (Hh) ?_)<;>conv=>whnf))
  refine F9 ?_;(repeat' ((first|(apply AG<;>intro hc<;>try (exfalso;omega))|apply AE)<;>conv=>whnf))
  refine ⟨.j5 [.agg (MV false [] D 1 (D^1)),.int .i64 0],?_,Or.inl ⟨0,by omega,⟨rfl,λ j hj=>absurd hj (by omega)⟩,rfl⟩⟩;exact AW rfl (XQ [] D 1 (D^1) 0)
 (repeat' ((first|apply AR|apply AE|refine AD (wj) ?_|refine AD (hO) ?_)<;>conv=>whnf))
 refine FV (λ i _=>n-i) (λ(i:Nat) (fl:Bool)=>i<=n/\fl=decide (i=0)) (λ i _=>[(15,.int .i64 i)]) (λ i fl=>bif fl then [] else [(4,4,.bx ([.row 1000 0 1 0 i]++eQ D++[.int .i64 1]++eQ 1)),(1000,26,.rw 1 (((B7 D a).take i).map λ r=>[AV.sl false (r.map eQ)]))]) [] [] 0 true (by (conv=>whnf);exact ⟨rfl,rfl,rfl⟩) ⟨by omega,rfl⟩ ?_;intro i fl ⟨p1,p2⟩ ih;have df:((B7 D a).take i).length=i:=by rw[List.length_take];omega
 by_cases hi:i<n
 ·obtain ⟨r,hr⟩ : ∃ r,a[i]? = some r:=⟨_,zE (by omega)⟩
  have lq:a[(i:Int).toNat]? = some r:=hr;have dt:=hs.at hr;have Hl:=λ q=>YO N q r D k (16*k) (ha.at hr) Dh (by omega) (by omega) (by omega)
  have kv:=Ds i r hr;generalize r.map (· * D)=w at *;cases fl
  ·have lj:i≠0:=by simpa using p2.symm
   (repeat' ((first|(apply AG<;>intro hc<;>try (exfalso;omega))|(refine BG (by assumption) ?_ rfl ?_;omega)|apply EN|apply AE|refine AD (Hl _) ?_)<;>conv=>whnf))
   refine FH (l:=(B7 D a).take i) (z:=1) (bytes:=24) (enc:=λ r:List Rat=>[AV.sl false (r.map eQ)]) w rfl df.symm rfl (by omega) (by omega) ?_;(conv=>whnf)
   (repeat' ((first|(apply AY;omega)|fail)<;>conv=>whnf))
   rw[<-HC kv,show ((B7 D a).take (i+1)).length=i+1 by rw[List.length_take];omega];exact BQ [(1000,26)] (ih (i+1) false (by omega) ⟨by omega,by simp⟩)
  ·have lj:i=0:=by simpa using p2.symm
   subst lj;(repeat' ((first|(apply AG<;>intro hc<;>try (exfalso;omega))|(refine BG (by assumption) ?_ rfl ?_;omega)|apply EN|apply AE|refine AD (Hl _) ?_)<;>conv=>whnf))
   refine RO (enc:=λ r:List Rat=>[AV.sl false (r.map eQ)]) w rfl rfl (by omega) ?_;(conv=>whnf)
   (repeat' ((first|(apply AY;omega)|fail)<;>conv=>whnf))
   rw[show [w]=(B7 D a).take (0+1) by rw[HC kv];rfl];exact BQ [(1000,26)] (ih 1 false (by omega) ⟨by omega,by simp⟩)
 have ei:i=n:=by omega
 obtain rfl:fl=false:=by rw[p2];simp;omega
 clear ih p2 df;rw[ei,List.take_of_length_le (by omega)];(repeat' ((first|(apply AG<;>intro hc<;>try (exfalso;omega))|apply AE)<;>conv=>whnf))
 refine FV (λ i _=>7-i) (λ(i:Nat) (fl:Bool)=>i<=6/\(fl=true->i=0) /\ ∀ j,j<i->DF (BU n a j)=false) (λ i fl=>[(7,bif fl then .row 1000 0 1 0 n else .sl false (eM (B7 (DN D i) (BU n a i))))]) (λ i _=>[(8,8,.bx (eQ (DN D i))),(4,4,.bx ([.row 1000 0 1 0 n]++eQ D++[.int .i64 ((2^i:Nat):Int)]++eQ 1))]) [] [] 0 true (by (conv=>whnf);exact ⟨rfl,rfl,rfl⟩) ⟨by omega,λ_=>rfl,λ j hj=>absurd hj (by omega)⟩ ?_;intro i fl ⟨s1,s2,s3⟩ jh;obtain ⟨g1,g2,g3⟩:=RB s1;have xn:((2^(i+1):Nat):Int)=((2^i:Nat):Int)*2:=by rw[Nat.pow_succ];omega
 have zo:=λ q q'=>zl i q q' s1
 have Wf:=λ q q'=>yq i q q' s1
 have Vo:=fo i s1;cases hb:DF (BU n a i)
 ·rw[hb]at zo
  by_cases h6:i=6
  ·have Tf:((2^i:Nat):Int)=64:=by rw[h6];rfl
   have jt : ∀ j,j<=6->DF (BU n a j)=false:=λ j hj=>by
    by_cases h:j=6
    ·rw[h,<-h6];exact hb
    ·exact s3 j (by omega)
   cases fl
   ·rw[Tf]
    (repeat' ((first|(apply AG<;>intro hc<;>try (exfalso;omega))|apply AE|refine AD (zo _ _) ?_)<;>conv=>whnf))
    exact ⟨_,AW rfl (by simp [A1,CQ,FM]),Or.inr ⟨jt,rfl⟩⟩
   ·exact absurd (s2 rfl) (by omega)
  ·have Vr:((2^i:Nat):Int)≠64:=λ e=>h6 (g2 (by omega))
   have da : ∀ j,j<i+1->DF (BU n a j)=false:=λ j hj=>by
    by_cases h:j=i
    ·rw[h];exact hb
    ·exact s3 j (by omega)
   cases fl
   ·generalize 2^i=P at *
    (repeat' ((first|(apply AG<;>intro hc<;>try (exfalso;omega))|(apply D5;omega)|apply AE|refine AD (zo _ _) ?_|refine AD (Wf _ _) ?_|refine AD (Vo) ?_)<;>conv=>whnf))
    rw[<-xn];exact BQ [] (jh (i+1) false (by omega) ⟨by omega,(λ h=>by cases h),da⟩)
   ·obtain rfl:=s2 rfl
    have ia:=uh;rw[hb]at ia;generalize 2^0=P at *;(repeat' (apply AE<;>conv=>whnf))
    refine DE (enc:=λ r:List Rat=>[AV.sl false (r.map eQ)]) (λ_=>rfl) rfl um.symm ?_;(conv=>whnf)
    (repeat' ((first|(apply AG<;>intro hc<;>try (exfalso;omega))|refine AD (ia _ _) ?_)<;>conv=>whnf))
    refine DE (enc:=λ r:List Rat=>[AV.sl false (r.map eQ)]) (λ_=>rfl) rfl um.symm ?_;(conv=>whnf)
    (repeat' ((first|(apply D5;omega)|refine AD (Tv _ _) ?_|refine AD (Tp) ?_)<;>conv=>whnf))
    rw[<-xn];exact BQ [] (jh (0+1) false (by omega) ⟨by omega,(λ h=>by cases h),da⟩)
 ·rw[hb]at zo
  have ov:HY n a i:=⟨hb,s3⟩;have ae : ∀ r:AV,r = .j5 [.agg (MV false (B7 D a) D ((2^i:Nat):Int) (D^(2^i+2^i-1))),.int .i64 0]->((∃ i,i<=6/\HY n a i/\r = .j5 [.agg (MV false (B7 D a) D ((2^i:Nat):Int) (D^(2^i+2^i-1))),.int .i64 0])\/((∀ j,j<=6->DF (BU n a j)=false)/\r = .j5 [.agg [.sl false [],.bool false,.sl false [],.sl false [],.int .i64 0,.bool false,.sl false [],.sl false []],.int .i64 14])):=λ r hr=>Or.inl ⟨i,s1,ov,hr⟩
  clear xn jh;generalize 2^i=P at *;cases fl
  ·(repeat' ((first|(apply B1;omega)|(apply D5;omega)|apply AE|refine AD (zo _ _) ?_)<;>conv=>whnf))
   refine CK (λ j=>P+P-1-j) (λ(j:Nat)=>j<=P+P-1) (λ j=>[(54,.int .i64 j)]) (λ j=>[(4,4,.bx ([.row 1000 0 1 0 n]++eQ D++[.int .i64 (P:Int)]++eQ (D^j)))]) [] [] 0 (by rw[Rat.pow_zero];exact (by (conv=>whnf);exact ⟨rfl,rfl,rfl⟩)) (by omega) ?_;intro j t1 kh;by_cases hj:j<P+P-1
   ·have hl:=Dj j (by omega)
    (repeat' ((first|(apply AG<;>intro hc<;>try (exfalso;omega))|(apply AY;omega)|apply AE|refine AD (hl) ?_)<;>conv=>whnf))
    exact BQ [] (kh (j+1) (by omega) (by omega))
   have ej:j=P+P-1:=by omega
   clear kh;rw[ej];(repeat' ((first|(apply AG<;>intro hc<;>try (exfalso;omega))|apply AE)<;>conv=>whnf))
   refine ⟨.j5 [.agg (MV false (B7 D a) D (P:Int) (D^(P+P-1))),.int .i64 0],?_,ae _ rfl⟩;(conv=>whnf)
   refine DE (enc:=λ r:List Rat=>[AV.sl false (r.map eQ)]) (λ_=>rfl) rfl um.symm ?_;(conv=>whnf)
   exact AW rfl (XQ _ _ _ _ 0)
  ·obtain rfl:=s2 rfl
   have ia:=uh;rw[hb]at ia;(repeat' (apply AE<;>conv=>whnf))
   refine DE (enc:=λ r:List Rat=>[AV.sl false (r.map eQ)]) (λ_=>rfl) rfl um.symm ?_;(conv=>whnf)
   (repeat' ((first|(apply B1;omega)|(apply D5;omega)|refine AD (ia _ _) ?_)<;>conv=>whnf))
   refine CK (λ j=>P+P-1-j) (λ(j:Nat)=>j<=P+P-1) (λ j=>[(54,.int .i64 j)]) (λ j=>[(4,4,.bx ([.row 1000 0 1 0 n]++eQ D++[.int .i64 (P:Int)]++eQ (D^j)))]) [] [] 0 (by rw[Rat.pow_zero];exact (by (conv=>whnf);exact ⟨rfl,rfl,rfl⟩)) (by omega) ?_;intro j t1 kh;by_cases hj:j<P+P-1
   ·have hl:=Dj j (by omega)
    (repeat' ((first|(apply AG<;>intro hc<;>try (exfalso;omega))|(apply AY;omega)|apply AE|refine AD (hl) ?_)<;>conv=>whnf))
    exact BQ [] (kh (j+1) (by omega) (by omega))
   have ej:j=P+P-1:=by omega
   clear kh;rw[ej];(repeat' ((first|(apply AG<;>intro hc<;>try (exfalso;omega))|apply AE)<;>conv=>whnf))
   refine ⟨.j5 [.agg (MV false (B7 D a) D (P:Int) (D^(P+P-1))),.int .i64 0],?_,ae _ rfl⟩;(conv=>whnf)
   refine DE (enc:=λ r:List Rat=>[AV.sl false (r.map eQ)]) (λ_=>rfl) rfl um.symm ?_;(conv=>whnf)
   exact AW rfl (XQ _ _ _ _ 0)
theorem xW (x:Rat):eQ (BM x)=[.bool false,.sl false ((dg x.num.natAbs).map AL),.sl false ((dg x.den).map AL)]:=by
 unfold BM;by_cases h:x.num<0
 ·rw[if_pos h]
  show rQ false false (decide ((-x).num<0)) _ _=_;rw[Rat.neg_num,Int.natAbs_neg,Rat.neg_den,show decide (-x.num<0)=false from decide_eq_false (by omega)]
 ·rw[if_neg h]
  show rQ false false (decide (x.num<0)) _ _=_;rw[show decide (x.num<0)=false from decide_eq_false h]
theorem VH (N:v3 L) {x:Rat} {k:Nat} (hx:Bt k x) (hk:k<2199023255552):Ev L 309 [.agg (eQ x)] (.agg (eQ (BM x))):=by
 have hT:=jI N.toa8 hx hk;have hs:=hx.jk hk;have hR:=λ q=>FK N.toa8 (dg x.num.natAbs) q (DK _) (by have:=hs.1.2;omega)
 rw[BL]at hR;have hA : ∀ b q,Ev L 308 [.agg [.bool b,.sl q ((dg x.num.natAbs).map AL)]] (.agg [.bool false,.sl false ((dg x.num.natAbs).map AL)]):=λ b q=>by
  refine Ev.x N.LI rfl rfl ?_;(repeat' ((first|apply AE|refine AD (hR _) ?_)<;>conv=>whnf))
  exact AW rfl (eI _ _)
 have n6:=C4 (BM x);rw[xW]at n6 ⊢;refine Ev.x N.LT rfl rfl ?_;(repeat' ((first|apply AE|refine AD (hT) ?_|refine AD (hA _ _) ?_)<;>conv=>whnf))
 exact AW rfl n6
theorem Ll (N:v3 L) (q q':Bool) (a:List (List Rat)) (n:Nat) (hs:Sq n a) (hn:n<=16):Ev L 310 [.sl q (G5 q' a)] (.bool true):=by
 have dw:=hs.l;refine Ev.x N.L8 rfl rfl ?_;(repeat' (apply AE<;>conv=>whnf))
 refine CK (λ i=>a.length-i) (λ(i:Nat)=>i<=a.length) (λ i=>[(3,.int .i64 i)]) (λ_=>[]) [] [] 0 (by (conv=>whnf);exact ⟨rfl,rfl,rfl⟩) (by omega) ?_;intro i p1 ih;by_cases hi:i<a.length
 ·obtain ⟨r,hr⟩ : ∃ r,a[i]? = some r:=⟨_,zE hi⟩
  have lq:a[(i:Int).toNat]? = some r:=hr;have df:=hs.at hr;(repeat' ((first|(apply AG<;>intro hc<;>try (exfalso;omega))|(apply AY;omega)|apply AR|(refine BG (by assumption) ?_ rfl ?_;omega)|apply AE)<;>conv=>whnf))
  exact BQ [] (ih (i+1) (by omega) (by omega))
 obtain rfl:i=a.length:=by omega
 clear ih;(repeat' ((first|(apply AG<;>intro hc<;>try (exfalso;omega))|apply AR|apply AE)<;>conv=>whnf))
 exact JG rfl
theorem YU (N:v3 L) (q:Bool) (v:List Rat) (k:Nat) (hv:Bs k v) (hn:v.length<=1000) (hk:k<=1000000000):Ev L 311 [.sl q (v.map eQ)] (.agg (eQ (A8 v))):=by
 have hO:=QY N.toa8 0 (by omega);rw[show ((0:Int):Rat)=0 from rfl]at hO;refine Ev.x N.L6 rfl rfl ?_;(repeat' ((first|apply AE|refine AD (hO) ?_)<;>conv=>whnf))
 refine CK (λ i=>v.length-i) (λ(i:Nat)=>i<=v.length) (λ i=>[(4,.int .i64 i)]) (λ i=>[(3,3,.bx (eQ (A8 (v.take i))))]) [] [] 0 (by rw[show A8 (v.take 0)=0 from rfl];exact (by (conv=>whnf);exact ⟨rfl,rfl,rfl⟩)) (by omega) ?_;intro i p1 ih;by_cases hi:i<v.length
 ·obtain ⟨x,hx⟩ : ∃ x,v[i]? = some x:=⟨_,zE hi⟩
  have jf:v[(i:Int).toNat]? = some x:=hx;have hA:=VH N (hv.at hx) (by omega);have hz:Bt (1000*(k+1)) (A8 (v.take i)):=(M5 (hv.take i)).le (Nat.mul_le_mul_right _ (by rw[List.length_take];omega));have hP:=QW N.toa8 hz (HG (hv.at hx)) (by omega) (by omega);rw[<-bC hx]at hP;generalize A8 (v.take i)=w at *;generalize BM x=y at *;(repeat' ((first|(apply AG<;>intro hc<;>try (exfalso;omega))|(apply AY;omega)|apply AR|(refine BG (by assumption) ?_ rfl ?_;omega)|apply AE|refine AD (hA) ?_|refine AD (hP) ?_)<;>conv=>whnf))
  exact BQ [] (ih (i+1) (by omega) (by omega))
 obtain rfl:i=v.length:=by omega
 clear ih;rw[List.take_of_length_le (Nat.le_refl _)];(repeat' ((first|(apply AG<;>intro hc<;>try (exfalso;omega))|apply AR|apply AE)<;>conv=>whnf))
 exact AW rfl (C4 _)
theorem Lj (N:v3 L) (q:Bool) (v:List Rat) (k:Nat) (hv:Bs k v) (hn:v.length<=1000000) (hk:k<=1000000000000):Ev L 312 [.sl q (v.map eQ)] (.agg (eQ (B3 v))):=by
 have hO:=QY N.toa8 0 (by omega);rw[show ((0:Int):Rat)=0 from rfl]at hO;refine Ev.x N.L4 rfl rfl ?_;(repeat' ((first|apply AE|refine AD (hO) ?_)<;>conv=>whnf))
 refine CK (λ i=>v.length-i) (λ(i:Nat)=>i<=v.length) (λ i=>[(4,.int .i64 i)]) (λ i=>[(3,3,.bx (eQ (B3 (v.take i))))]) [] [] 0 (by rw[show B3 (v.take 0)=0 from rfl];exact (by (conv=>whnf);exact ⟨rfl,rfl,rfl⟩)) (by omega) ?_;intro i p1 ih;by_cases hi:i<v.length
 ·obtain ⟨x,hx⟩ : ∃ x,v[i]? = some x:=⟨_,zE hi⟩
  have jf:v[(i:Int).toNat]? = some x:=hx;have hA:=VH N (hv.at hx) (by omega);have hC:=SM N.toa8 (HG (hv.at hx)) (NP (hv.take i)) (by omega) (by omega);have hg:=RH (x:=BM x) (y:=B3 (v.take i));have hs:B3 (v.take (i+1))=if B3 (v.take i)<BM x then BM x else B3 (v.take i):=kB hx
  by_cases h:B3 (v.take i)<BM x
  ·rw[if_pos h]at hs
   have h1:=hg.2 h;rw[<-hs]at hA hC h1;generalize o5 (B3 (v.take (i+1))-B3 (v.take i)).num=g at *;(repeat' ((first|(apply AG<;>intro hc<;>try (exfalso;omega))|(apply AY;omega)|apply AR|(refine BG (by assumption) ?_ rfl ?_;omega)|apply AE|refine AD (hA) ?_|refine AD (hC) ?_)<;>conv=>whnf))
   exact BQ [] (ih (i+1) (by omega) (by omega))
  ·rw[if_neg h]at hs
   have h1 : ¬ 0<o5 (BM x-B3 (v.take i)).num:=λ e=>h (hg.1 e)
   rw[<-hs]at hC h1 ⊢;clear hg h hs;generalize o5 (BM x-B3 (v.take (i+1))).num=g at *;generalize BM x=y at *;(repeat' ((first|(apply AG<;>intro hc<;>try (exfalso;omega))|(apply AY;omega)|apply AR|(refine BG (by assumption) ?_ rfl ?_;omega)|apply AE|refine AD (hA) ?_|refine AD (hC) ?_)<;>conv=>whnf))
   exact BQ [] (ih (i+1) (by omega) (by omega))
 obtain rfl:i=v.length:=by omega
 clear ih;rw[List.take_of_length_le (Nat.le_refl _)];(repeat' ((first|(apply AG<;>intro hc<;>try (exfalso;omega))|apply AR|apply AE)<;>conv=>whnf))
 exact AW rfl (C4 _)
theorem Lm (N:v3 L) (q q':Bool) (a:List (List Rat)) (n kk:Nat) (hs:Sq n a) (ha:Ms kk a) (hn:n<=4) (hk:kk<=1000000000):Ev L 313 [.sl q (G5 q' a)] (.sl false (eM (FC a a n))):=by
 have dw:=hs.l;have yo:Sq n (FC a a n):=Sq.mul hs.l a;have Dm : ∀ (i:Nat) (r:List Rat),a[i]? = some r->(FC a a n)[i]? = some (DZ r a n):=λ i r hr=>by rw[FC,List.getElem?_map,hr];rfl
 have Bn : ∀ (j:Nat) (r:List Rat),j<n->(DZ r a n)[j]? = some (A6 r (CW a j)):=λ j r hj=>by rw[DZ,List.getElem?_map,List.getElem?_range hj];rfl
 have Dn:=yo.l;have Bm:=yo.r;have hO:=QY N.toa8 0 (by omega);rw[show ((0:Int):Rat)=0 from rfl]at hO;generalize FC a a n=Q at *;refine Ev.x N.L9 rfl rfl ?_;(repeat' ((first|apply AR|apply AE)<;>conv=>whnf))
 unfold CU;refine ⟨⟨by omega,by omega,by simp only[EA];omega,by omega⟩,?_⟩;rw[Int.toNat_natCast,dw];(conv=>whnf)
 skip
 refine CK (λ i=>n-i) (λ(i:Nat)=>i<=n) (λ i=>[(4,.int .i64 i)]) (λ i=>[(10,10,.mx (mz Q n i))]) [] [] 0 (by first|exact (by (conv=>whnf);exact ⟨rfl,rfl,rfl⟩)|(rw[<-Ql Q];exact (by (conv=>whnf);exact ⟨rfl,rfl,rfl⟩))) (by omega) ?_;intro i p1 ih;have ua:=Qi (Q:=Q) p1;by_cases hi:i<n
 ·obtain ⟨rr,hr⟩ : ∃ r,a[i]? = some r:=⟨_,zE (by omega)⟩
  have lq:a[(i:Int).toNat]? = some rr:=hr;have df:=hs.at hr;have ql:=ha.at hr;have hq:=Dm i rr hr;have j9:=Qk hq hi;have pg:(mz Q n i)[i]? = some none:=Qj Dn hi;have Ai:(DZ rr a n).length=n:=Bm _ (zM hq);have rj:(DZ rr a n).take 1=[A6 rr (CW a 0)]:=by
   rw[HC (Bn 0 rr (by omega))];rfl
  have Wa : ∀ j,j<n->(DZ rr a n).take (j+1)=(DZ rr a n).take j++[A6 rr (CW a j)]:=λ j hj=>HC (Bn j rr hj)
  generalize mz Q n i=R0 at *;generalize DZ rr a n=qr at *;(repeat' ((first|(apply AG<;>intro hc<;>try (exfalso;omega))|apply AR|apply AE)<;>conv=>whnf))
  refine F9 ?_;(repeat' ((first|(apply AG<;>intro hc<;>try (exfalso;omega))|apply AR|apply AE|refine AD (hO) ?_)<;>conv=>whnf))
  refine CK (λ k=>n-k) (λ(k:Nat)=>k<=n) (λ k=>[(7,.int .i64 k)]) (λ k=>[(6,6,.bx (eQ (A6 (rr.take k) ((CW a 0).take k))))]) [] [] 0 (by rw[show A6 (rr.take 0) ((CW a 0).take 0)=0 from rfl];exact (by (conv=>whnf);exact ⟨rfl,rfl,rfl⟩)) (by omega) ?_;intro k t1 kh;by_cases fh:k<n
  ·obtain ⟨x,hx⟩ : ∃ x,rr[k]? = some x:=⟨_,zE (by omega)⟩
   obtain ⟨s,gu⟩ : ∃ s,a[k]? = some s:=⟨_,zE (by omega)⟩;have Fo:=hs.at gu;obtain ⟨y,hy⟩ : ∃ y,s[0]? = some y:=⟨_,zE (by omega)⟩;have jf:rr[(k:Int).toNat]? = some x:=hx;have rl:a[(k:Int).toNat]? = some s:=gu;have qo:s[((0:Nat):Int).toNat]? = some y:=hy;have Ec:=fH gu hy;have hM:=SP N.toa8 (ql.at hx) ((ha.at gu).at hy) (by omega) (by omega);have hd:Bt (4*(kk+kk+1)) (A6 (rr.take k) ((CW a 0).take k)):=((ql.take k).dot ((Ms.Bj ha 0).take k)).le (Nat.mul_le_mul_right _ (by rw[List.length_take];omega));have hA:=QW N.toa8 hd ((ql.at hx).mul ((ha.at gu).at hy)) (by omega) (by omega);rw[<-QR hx Ec]at hA;generalize A6 (rr.take k) ((CW a 0).take k)=w at *;generalize x*y=p at *;(repeat' ((first|(apply AG<;>intro hc<;>try (exfalso;omega))|(apply AY;omega)|apply AR|(refine BG (by assumption) ?_ rfl ?_;omega)|apply AE|refine AD (hM) ?_|refine AD (hA) ?_)<;>conv=>whnf))
   exact BQ [] (kh (k+1) (by omega) (by omega))
  have ek:k=n:=by omega
  clear kh;rw[ek,SG df];generalize A6 rr (CW a 0)=y0 at *;(repeat' ((first|(apply AG<;>intro hc<;>try (exfalso;omega))|(apply BA;omega)|apply AR|apply AE)<;>conv=>whnf))
  refine cY (r:=none) (by rw[Nat.zero_add,Int.toNat_natCast];exact pg) ?_;(conv=>whnf)
  (repeat' (apply EN<;>conv=>whnf))
  refine RO (enc:=eQ) y0 rfl rfl (by omega) ?_;(conv=>whnf)
  (repeat' ((first|(apply BA;omega)|fail)<;>conv=>whnf))
  refine BA rfl ?_;refine dJ (i:=i) (by omega) (by omega) ?_;(conv=>whnf)
  (repeat' ((first|(apply AY;omega)|fail)<;>conv=>whnf))
  refine CK (λ j=>n-j) (λ(j:Nat)=>1<=j/\j<=n) (λ j=>[(5,.int .i64 j)]) (λ j=>[(10,10,.mx (R0.set i (some (3,(qr.take j).map eQ))))]) [] [] 1 (by first|exact (by (conv=>whnf);exact ⟨rfl,rfl,rfl⟩)|(rw[rj];exact (by (conv=>whnf);exact ⟨rfl,rfl,rfl⟩))) (by omega) ?_;intro j ⟨r1,r2⟩ jh;have Yn:(qr.take j).length=j:=by rw[List.length_take];omega
  by_cases hj:j<n
  ·have mn:=Wa j hj
   have Fv:(qr.take (j+1)).length=j+1:=by rw[List.length_take];omega
   generalize qr.take j=W at *;(repeat' ((first|(apply AG<;>intro hc<;>try (exfalso;omega))|apply AR|apply AE|refine AD (hO) ?_)<;>conv=>whnf))
   refine CK (λ k=>n-k) (λ(k:Nat)=>k<=n) (λ k=>[(7,.int .i64 k)]) (λ k=>[(6+1000000,6,.bx (eQ (A6 (rr.take k) ((CW a j).take k))))]) [] [] 0 (by rw[show A6 (rr.take 0) ((CW a j).take 0)=0 from rfl];exact (by (conv=>whnf);exact ⟨rfl,rfl,rfl⟩)) (by omega) ?_;intro k t1 kh;by_cases fh:k<n
   ·obtain ⟨x,hx⟩ : ∃ x,rr[k]? = some x:=⟨_,zE (by omega)⟩
    obtain ⟨s,gu⟩ : ∃ s,a[k]? = some s:=⟨_,zE (by omega)⟩;have Fo:=hs.at gu;obtain ⟨y,hy⟩ : ∃ y,s[j]? = some y:=⟨_,zE (by omega)⟩;have jf:rr[(k:Int).toNat]? = some x:=hx;have rl:a[(k:Int).toNat]? = some s:=gu;have qo:s[((j:Nat):Int).toNat]? = some y:=hy;have Ec:=fH gu hy;have hM:=SP N.toa8 (ql.at hx) ((ha.at gu).at hy) (by omega) (by omega);have hd:Bt (4*(kk+kk+1)) (A6 (rr.take k) ((CW a j).take k)):=((ql.take k).dot ((Ms.Bj ha j).take k)).le (Nat.mul_le_mul_right _ (by rw[List.length_take];omega));have hA:=QW N.toa8 hd ((ql.at hx).mul ((ha.at gu).at hy)) (by omega) (by omega);rw[<-QR hx Ec]at hA;generalize A6 (rr.take k) ((CW a j).take k)=w at *;generalize x*y=p at *;(repeat' ((first|(apply AG<;>intro hc<;>try (exfalso;omega))|(apply AY;omega)|apply AR|(refine BG (by assumption) ?_ rfl ?_;omega)|apply AE|refine AD (hM) ?_|refine AD (hA) ?_)<;>conv=>whnf))
    exact BQ [] (kh (k+1) (by omega) (by omega))
   have ek:k=n:=by omega
   clear kh;rw[ek,SG df];generalize A6 rr (CW a j)=y0 at *;(repeat' ((first|(apply AG<;>intro hc<;>try (exfalso;omega))|(apply BA;omega)|apply AR|apply AE)<;>conv=>whnf))
   refine rA (by omega) (by omega) ?_;(conv=>whnf)
   (repeat' (apply EN<;>conv=>whnf))
   refine qZ (by omega) (by omega) ?_;(conv=>whnf)
   refine FH (enc:=eQ) y0 rfl (by rw[List.length_map]) rfl (by omega) (by omega) ?_;intro s' v;rw[<-mn,Fv];(conv=>whnf)
   (repeat' ((first|(apply BA;omega)|fail)<;>conv=>whnf))
   refine BA ⟨rfl,by rw[List.length_map];omega⟩ ?_;refine dJ (i:=i) (by omega) (by rw[List.length_set,List.length_set];omega) ?_;rw[show 0+((i:Int)).toNat=i by omega,List.set_set,List.set_set];(conv=>whnf)
   (repeat' ((first|(apply AY;omega)|fail)<;>conv=>whnf))
   exact BQ [] (jh (j+1) (by omega) (by omega))
  have ej:j=n:=by omega
  clear jh;rw[ej,List.take_of_length_le (by omega),j9];(repeat' ((first|(apply AG<;>intro hc<;>try (exfalso;omega))|(apply AY;omega)|apply AR|apply AE)<;>conv=>whnf))
  exact BQ [] (ih (i+1) (by omega) (by omega))
 have ei:i=n:=by omega
 clear ih;rw[ei,Qh (by omega)];(repeat' ((first|(apply AG<;>intro hc<;>try (exfalso;omega))|apply AR|apply AE)<;>conv=>whnf))
 refine UG (λ_=>rfl) rfl (by omega) ?_;(conv=>whnf)
 exact AW rfl (eJ Q)
theorem Lk (N:v3 L) (q q':Bool) (a:List (List Rat)) (n k:Nat) (hs:Sq n a) (ha:Ms k a) (hn:n<=4) (hk:k<=100) :
  ∃ v,Ev L 314 [.sl q (G5 q' a)] v/\((∃ i,i<=6/\HY n a i/\v = .j5 [.int .i64 ((2^i:Nat):Int),.int .i64 0])\/((∀ j,j<=6->DF (BU n a j)=false)/\v = .j5 [.int .i64 0,.int .i64 14])):=by
 have dw:=hs.l;have hq:=Ll N q q' a n hs (by omega);have hF:=VG N.toa8 1 2 (by omega) (by omega);have hb : ∀ i,i<=7->Ms 300000000 (BU n a i):=λ i hi=>(bQ hs ha hn i).le (by have:=Sh (k:=k) i hi;omega)
 have hZ:=λ(i:Nat) (q q':Bool) (hi:i<=6)=>Lm N q q' (BU n a i) n 300000000 (N2 hs i) (hb i (by omega)) hn (by omega)
 have hh:Bt 2 (Rat.divInt 1 2):=Bt.mk (k:=2) (z:=1) (d:=2) (by decide) (by decide);have Uw:Rat.divInt 1 2=1/2:=by decide +kernel
 have hC : ∀ i r,i<=6->r∈BU n a i->Ev L 127 [.agg (eQ (A8 r)),.agg (eQ (Rat.divInt 1 2))] (.int .i64 (o5 (A8 r-1/2).num)):=λ i r hi hr=>by
  have hz:Bt (4*(300000000+1)) (A8 r):=(M5 (hb i (by omega) r hr)).le (Nat.mul_le_mul_right _ (by rw[(N2 hs i).r r hr];exact hn));have:=SM N.toa8 hz hh (by omega) (by omega)
  rwa [Uw]at this ⊢
 refine Ev.xE N.L5 rfl rfl ?_;(repeat' ((first|apply AE|refine AD (hq) ?_)<;>conv=>whnf))
 refine FV (λ i _=>7-i) (λ(i:Nat) (fl:Bool)=>i<=7/\(fl=true->i=0) /\ ∀ j,j<i->DF (BU n a j)=false) (λ i fl=>[(4,.int .i64 ((2^i:Nat):Int)),(0,bif fl then .sl q (G5 q' a) else .sl false (eM (BU n a i)))]) (λ_ _=>[]) [] [] 0 true (by (conv=>whnf);exact ⟨rfl,rfl,rfl⟩) ⟨by omega,λ_=>rfl,λ j hj=>absurd hj (by omega)⟩ ?_;intro i fl ⟨p1,p2,p3⟩ ih;by_cases h7:i=7
 ·have e7:((2^i:Nat):Int)=128:=by rw[h7];rfl
  rw[e7];have jt : ∀ j,j<=6->DF (BU n a j)=false:=λ j hj=>p3 j (by omega)
  (repeat' ((first|(apply AG<;>intro hc<;>try (exfalso;omega))|apply AE)<;>conv=>whnf))
  exact ⟨_,AW rfl (by simp [A1,CQ]),Or.inr ⟨jt,rfl⟩⟩
 obtain ⟨g1,g2,g3⟩:=RB (i:=i) (by omega);have xn:((2^(i+1):Nat):Int)=2*((2^i:Nat):Int):=by rw[Nat.pow_succ];omega
 have Fo:=(N2 hs i).l;have ov:DF (BU n a i)=true->HY n a i:=λ h=>⟨h,p3⟩
 have da:DF (BU n a i)=false -> ∀ j,j<i+1->DF (BU n a j)=false:=λ h j hj=>by
  by_cases e:j=i
  ·rw[e];exact h
  ·exact p3 j (by omega)
 have Dg:=λ r=>hC i r (by omega)
 have Du:=λ q q'=>hZ i q q' (by omega)
 have yv:=λ q r (hr:r∈BU n a i)=>YU N q r 300000000 (hb i (by omega) r hr) (by rw[(N2 hs i).r r hr];omega) (by omega)
 have ae : ∀ r:AV,HY n a i->r = .j5 [.int .i64 ((2^i:Nat):Int),.int .i64 0]->((∃ i,i<=6/\HY n a i/\r = .j5 [.int .i64 ((2^i:Nat):Int),.int .i64 0])\/((∀ j,j<=6->DF (BU n a j)=false)/\r = .j5 [.int .i64 0,.int .i64 14])):=λ r h hr=>Or.inl ⟨i,by omega,h,hr⟩
 have ik : ∀ (m:Nat) (r:List Rat),(BU n a i)[m]? = some r->DF ((BU n a i).take (m+1))=(DF ((BU n a i).take m)&&decide (A8 r<=1/2)):=λ m r hr=>by
  rw[HC hr,DF,DF,List.all_append];simp
 cases fl
 ·skip
  generalize 2^i=P at *;(repeat' ((first|(apply AG<;>intro hc<;>try (exfalso;omega))|apply AE)<;>conv=>whnf))
  refine FV (λ m _=>n-m) (λ(m:Nat) (b:Bool)=>m<=n/\b=DF ((BU n a i).take m)) (λ m b=>[(6,.int .i64 m),(5,.bool b)]) (λ_ _=>[]) [] [] 0 true (by (conv=>whnf);exact ⟨rfl,rfl,rfl⟩) ⟨by omega,rfl⟩ ?_;intro m b ⟨r1,r2⟩ mh;by_cases hm:m<n
  ·obtain ⟨r,hr⟩ : ∃ r,(BU n a i)[m]? = some r:=⟨_,zE (by omega)⟩
   have lq:(BU n a i)[(m:Int).toNat]? = some r:=hr;have ga:=zM hr;have ht:=ik m r hr;rw[<-r2]at ht;cases b
   ·(repeat' ((first|(apply AG<;>intro hc<;>try (exfalso;omega))|(apply AY;omega)|apply AR|apply AE)<;>conv=>whnf))
    exact BQ [] (mh (m+1) false (by omega) ⟨by omega,by rw[ht];rfl⟩)
   ·have kp:=λ q=>yv q r ga
    have ia:=Dg r ga;have hg:=RH (x:=A8 r) (y:=1/2);by_cases h:A8 r<=1/2
    ·have h1 : ¬ 0<o5 (A8 r-1/2).num:=λ e=>by have:=hg.1 e;grind
     rw[decide_eq_true h]at ht;clear hg;generalize o5 (A8 r-1/2).num=g at *;(repeat' ((first|(apply AG<;>intro hc<;>try (exfalso;omega))|(apply AY;omega)|apply AR|(refine BG (by assumption) ?_ rfl ?_;omega)|apply AE|refine AD (kp _) ?_|refine AD (hF) ?_|refine AD (ia) ?_)<;>conv=>whnf))
     exact BQ [] (mh (m+1) true (by omega) ⟨by omega,by rw[ht];rfl⟩)
    ·have h1:0<o5 (A8 r-1/2).num:=hg.2 (by grind)
     rw[decide_eq_false h]at ht;clear hg;generalize o5 (A8 r-1/2).num=g at *;(repeat' ((first|(apply AG<;>intro hc<;>try (exfalso;omega))|(apply AY;omega)|apply AR|(refine BG (by assumption) ?_ rfl ?_;omega)|apply AE|refine AD (kp _) ?_|refine AD (hF) ?_|refine AD (ia) ?_)<;>conv=>whnf))
     exact BQ [] (mh (m+1) false (by omega) ⟨by omega,by rw[ht];rfl⟩)
  have em:m=n:=by omega
  clear mh;rw[em,List.take_of_length_le (by omega)]at r2;cases b
  ·(repeat' ((first|(apply AG<;>intro hc<;>try (exfalso;omega))|(apply D5;omega)|apply AR|apply AE|refine AD (Du _ _) ?_)<;>conv=>whnf))
   rw[<-xn];exact BQ [] (ih (i+1) false (by omega) ⟨by omega,(λ h=>by cases h),da r2.symm⟩)
  ·(repeat' ((first|(apply AG<;>intro hc<;>try (exfalso;omega))|apply AR|apply AE)<;>conv=>whnf))
   exact ⟨_,AW rfl (by simp [A1,CQ]),ae _ (ov r2.symm) rfl⟩
 ·obtain rfl:=p2 rfl
  have e0:BU n a 0=a:=rfl;rw[e0]at ov da Dg Du yv ik Fo;generalize 2^0=P at *;(repeat' ((first|(apply AG<;>intro hc<;>try (exfalso;omega))|apply AE)<;>conv=>whnf))
  refine FV (λ m _=>n-m) (λ(m:Nat) (b:Bool)=>m<=n/\b=DF (a.take m)) (λ m b=>[(6,.int .i64 m),(5,.bool b)]) (λ_ _=>[]) [] [] 0 true (by (conv=>whnf);exact ⟨rfl,rfl,rfl⟩) ⟨by omega,rfl⟩ ?_;intro m b ⟨r1,r2⟩ mh;by_cases hm:m<n
  ·obtain ⟨r,hr⟩ : ∃ r,a[m]? = some r:=⟨_,zE (by omega)⟩
   have lq:a[(m:Int).toNat]? = some r:=hr;have ga:=zM hr;have ht:=ik m r hr;rw[<-r2]at ht;cases b
   ·(repeat' ((first|(apply AG<;>intro hc<;>try (exfalso;omega))|(apply AY;omega)|apply AR|apply AE)<;>conv=>whnf))
    exact BQ [] (mh (m+1) false (by omega) ⟨by omega,by rw[ht];rfl⟩)
   ·have kp:=λ q=>yv q r ga
    have ia:=Dg r ga;have hg:=RH (x:=A8 r) (y:=1/2);by_cases h:A8 r<=1/2
    ·have h1 : ¬ 0<o5 (A8 r-1/2).num:=λ e=>by have:=hg.1 e;grind
     rw[decide_eq_true h]at ht;clear hg;generalize o5 (A8 r-1/2).num=g at *;(repeat' ((first|(apply AG<;>intro hc<;>try (exfalso;omega))|(apply AY;omega)|apply AR|(refine BG (by assumption) ?_ rfl ?_;omega)|apply AE|refine AD (kp _) ?_|refine AD (hF) ?_|refine AD (ia) ?_)<;>conv=>whnf))
     exact BQ [] (mh (m+1) true (by omega) ⟨by omega,by rw[ht];rfl⟩)
    ·have h1:0<o5 (A8 r-1/2).num:=hg.2 (by grind)
     rw[decide_eq_false h]at ht;clear hg;generalize o5 (A8 r-1/2).num=g at *;(repeat' ((first|(apply AG<;>intro hc<;>try (exfalso;omega))|(apply AY;omega)|apply AR|(refine BG (by assumption) ?_ rfl ?_;omega)|apply AE|refine AD (kp _) ?_|refine AD (hF) ?_|refine AD (ia) ?_)<;>conv=>whnf))
     exact BQ [] (mh (m+1) false (by omega) ⟨by omega,by rw[ht];rfl⟩)
  have em:m=n:=by omega
  clear mh;rw[em,List.take_of_length_le (by omega)]at r2;cases b
  ·(repeat' ((first|(apply AG<;>intro hc<;>try (exfalso;omega))|(apply D5;omega)|apply AR|apply AE|refine AD (Du _ _) ?_)<;>conv=>whnf))
   rw[<-xn];exact BQ [] (ih (0+1) false (by omega) ⟨by omega,(λ h=>by cases h),da r2.symm⟩)
  ·(repeat' ((first|(apply AG<;>intro hc<;>try (exfalso;omega))|apply AR|apply AE)<;>conv=>whnf))
   exact ⟨_,AW rfl (by simp [A1,CQ]),ae _ (ov r2.symm) rfl⟩
theorem Kd {D:Rat} {f:Nat->Rat} {p j:Nat} (h:p<=j):D6 D f (j+1-p)=D6 D f (j-p)*D+f (j-p):=by
 rw[show j+1-p=(j-p)+1 by omega];rfl
abbrev QS (Z:List (List Rat)) (T:Rat):List AV:=[.sl false (eM Z)]++eQ T
theorem uD (Z:List (List Rat)) (T:Rat):A1 (.agg (QS Z T)):=by
 have h1:=XR Z;have h3:=C4 T;simp only[A1,CQ,true_and,and_true,QS,List.cons_append,List.nil_append]at h1 h3 ⊢;exact ⟨h1,h3.1,h3.2⟩
theorem zR (N:n7 L) (qr:Bool) (R:List (List Rat)) (D T:Rat) (z:Nat->List Rat) (n p kr kd kz:Nat) (hR:Sq n R) (Bo:Ms kr R) (hD:Bt kd D) (fv : ∀ j,j<=128->Bs kz (z j)) (ua : ∀ j,(z j).length=n) (hz : ∀ j,z (j+1)=DP R (z j))
  (hn:n<=4) (hp:1<=p/\p<=64) (k1:kr<=1000000000) (k2:kd<=1000000000) (k3:kz<=1000000000) :
  Ev L 304 [.agg (MV qr R D (p:Int) T),.sl false ((z 0).map eQ)] (.agg (QS ((List.range (p+p)).map z) (D6 D (λ m=>B3 (z (p+m))) p))):=by
 have hO:=HL N.toa7 0 (by omega);rw[show ((0:Int):Rat)=0 from rfl]at hO;have ae:=uD ((List.range (p+p)).map z) (D6 D (λ m=>B3 (z (p+m))) p);have Ap : ∀ j,(List.range (j+1)).map z=(List.range j).map z++[z j]:=λ j=>by rw[List.range_succ,List.map_append];rfl
 have df : ∀ j,((List.range j).map z).length=j:=λ j=>by simp
 have wo : ∀ m,m<=64->Bt (64*(kd+kz+1)) (D6 D (λ m=>B3 (z (p+m))) m):=λ m hm=>(S0 hD m λ j hj=>NP (fv (p+j) (by omega))).le (Nat.mul_le_mul_right _ hm)
 refine Ev.x N.KS rfl rfl ?_;(repeat' ((first|(apply D5;omega)|apply AE|refine AD (hO) ?_)<;>conv=>whnf))
 refine FV (λ j _=>p+p-j) (λ(j:Nat) (fl:Bool)=>j<=p+p/\fl=decide (j=0)) (λ j _=>[(14,.int .i64 j),(6,.sl false ((z (j-1)).map eQ))]) (λ j fl=>bif fl then [] else [(5,5,.bx ([.row 1000 0 1 0 j]++eQ (D6 D (λ m=>B3 (z (p+m))) (j-p)))),(1000,27,.rw 1 (((List.range j).map z).map λ r=>[AV.sl false (r.map eQ)]))]) [] [] 0 true (by (conv=>whnf);exact ⟨rfl,rfl,rfl⟩) ⟨by omega,rfl⟩ ?_;intro j fl ⟨p1,p2⟩ ih;by_cases hj:j<p+p
 ·have hA:=λ q1 q2=>zK N q1 q2 qr R (z (j-1)) n kr kz hR (ua _) Bo (fv _ (by omega)) hn k1 k3
  have hG:=λ q=>zO N q (z j) kz (fv j (by omega)) (by rw[ua];omega) (by omega)
  have hs:=Ap j;have hl:=df j;have ft:=df (j+1);cases fl
  ·have zs:j≠0:=by simpa using p2.symm
   have Gf:DP R (z (j-1))=z j:=by rw[<-hz];congr 1;omega
   rw[Gf]at hA;by_cases Em:p<=j
   ·have h1:=I7 N.toa7 (wo (j-p) (by omega)) hD (by omega) (by omega)
    have h2:=MX N.toa7 ((wo (j-p) (by omega)).mul hD) (NP (fv j (by omega))) (by omega) (by omega);have he:D6 D (λ m=>B3 (z (p+m))) (j-p)*D+B3 (z j)=D6 D (λ m=>B3 (z (p+m))) (j+1-p):=by
     rw[Kd Em,show p+(j-p)=j by omega]
    rw[he]at h2;have e1:z (j+1-1)=z j:=rfl;rw[<-e1]at hG hA hs h2 Gf;generalize (List.range j).map z=Z at *;(repeat' ((first|(apply AG<;>intro hc<;>try (exfalso;omega))|apply EN|apply AE|refine AD (hA _ _) ?_)<;>conv=>whnf))
    refine FH (l:=Z) (z:=1) (bytes:=24) (enc:=λ r:List Rat=>[AV.sl false (r.map eQ)]) (z (j+1-1)) rfl hl.symm rfl (by omega) (by omega) ?_;rw[<-hs,ft];(conv=>whnf)
    (repeat' ((first|(apply AG<;>intro hc<;>try (exfalso;omega))|(apply AY;omega)|refine AD (h1) ?_|refine AD (hG _) ?_|refine AD (h2) ?_)<;>conv=>whnf))
    exact BQ [(1000,27)] (ih (j+1) false (by omega) ⟨by omega,by simp⟩)
   ·have ez:j-p=j+1-p:=by omega
    have e1:z (j+1-1)=z j:=rfl;rw[<-e1]at hA hs Gf;rw[ez];generalize (List.range j).map z=Z at *;(repeat' ((first|(apply AG<;>intro hc<;>try (exfalso;omega))|apply EN|apply AE|refine AD (hA _ _) ?_)<;>conv=>whnf))
    refine FH (l:=Z) (z:=1) (bytes:=24) (enc:=λ r:List Rat=>[AV.sl false (r.map eQ)]) (z (j+1-1)) rfl hl.symm rfl (by omega) (by omega) ?_;rw[<-hs,ft];(conv=>whnf)
    (repeat' ((first|(apply AG<;>intro hc<;>try (exfalso;omega))|(apply AY;omega))<;>conv=>whnf))
    exact BQ [(1000,27)] (ih (j+1) false (by omega) ⟨by omega,by simp⟩)
  ·have zs:j=0:=by simpa using p2.symm
   subst zs;have ez:D6 D (λ m=>B3 (z (p+m))) (0+1-p)=0:=by rw[show 0+1-p=0 by omega];rfl
   (repeat' ((first|(apply AG<;>intro hc<;>try (exfalso;omega))|apply EN|apply AE)<;>conv=>whnf))
   refine RO (enc:=λ r:List Rat=>[AV.sl false (r.map eQ)]) (z 0) rfl rfl (by omega) ?_;(conv=>whnf)
   (repeat' ((first|(apply AG<;>intro hc<;>try (exfalso;omega))|(apply AY;omega))<;>conv=>whnf))
   rw[show [z 0]=(List.range (0+1)).map z from rfl];rw[<-ez];exact BQ [(1000,27)] (ih (0+1) false (by omega) ⟨by omega,by simp⟩)
 have ej:j=p+p:=by omega
 obtain rfl:fl=false:=by rw[p2];simp;omega
 clear ih p2;have hl:=df j;rw[show j-p=p by omega];rw[<-ej]at ae ⊢;(repeat' ((first|(apply AG<;>intro hc<;>try (exfalso;omega))|(refine DE (λ_=>rfl) rfl ?_ ?_;(first|rfl|simp))|apply AE)<;>conv=>whnf))
 exact AW rfl ae
abbrev YF (m:List (List Rat)):List (List AV):=m.map λ r=>[AV.sl true (r.map (NK true))]
theorem Ni (Z:List (List Rat)) (T:Rat):I9 (.agg (QS Z T)) = .agg ([.sl true (YF Z)]++NK true T):=by
 have hd : ∀ l:List Nat,IK (l.map AL)=l.map AL:=λ l=>by
  induction l with
  | nil=>rfl
  | cons x l ih=>rw[List.map_cons,IK,ih];rfl
 have hq : ∀ x:Rat,GS (eQ x)=NK true x:=λ x=>by
  show GS [.bool _,.sl false _,.sl false _]=_;simp only[GS,FO,hd]
 have hr : ∀ r:List Rat,IK (r.map eQ)=r.map (NK true):=λ r=>by
  induction r with
  | nil=>rfl
  | cons x r ih=>rw[List.map_cons,IK,ih,hq];rfl
 have hz : ∀ Z:List (List Rat),IK (eM Z)=YF Z:=λ Z=>by
  induction Z with
  | nil=>rfl
  | cons r Z ih =>
   have Be:IK (Z.map λ r=>[AV.sl false (r.map eQ)])=Z.map λ r=>[AV.sl true (r.map (NK true))]:=ih
   show IK ([AV.sl false (r.map eQ)]::Z.map λ r=>[AV.sl false (r.map eQ)])=_;rw[IK,Be];simp only[GS,FO,hr];rfl
 show AV.agg (GS (AV.sl false (eM Z)::eQ T))=_;rw[GS,hq];simp only[FO,hz];rfl
theorem zN (N:n7 L) (qr q:Bool) (R:List (List Rat)) (D T U:Rat) (P:Int) (c:List Rat) (z:Nat->List Rat) (n m kd kc kz kt:Nat) (hD:Bt kd D) (hc:Bs kc c) (n6:c.length=n) (fv : ∀ j,j<=128->Bs kz (z j)) (ua : ∀ j,(z j).length=n) (hT:Bt kt T)
  (hn:n<=4) (hm:m<=128) (k1:kc<=100000000) (k2:kd<=100000000) (k3:kz<=100000000) (k4:kt<=100000000000) :
  Ev L 305 [.agg (MV qr R D P U),.sl q (c.map eQ),.agg ([.sl true (YF ((List.range m).map z))]++NK true T)] (.agg (eQ (D6 D (λ j=>BM (A6 c (z j))) m+A8 c*T))):=by
 have hO:=HL N.toa7 0 (by omega);rw[show ((0:Int):Rat)=0 from rfl]at hO;have df:((List.range m).map z).length=m:=by simp
 have We : ∀ j,j<m->((List.range m).map z)[j]? = some (z j):=λ j hj=>by rw[List.getElem?_map,List.getElem?_range hj];rfl
 have v5 : ∀ j,j<=128->Bt (4*(kc+kz+1)) (A6 c (z j)):=λ j hj=>(hc.dot (fv j hj)).le (Nat.mul_le_mul_right _ (by omega))
 have hH : ∀ t,t<=128->Bt (128*(kd+4*(kc+kz+1)+1)) (D6 D (λ j=>BM (A6 c (z j))) t):=λ t ht=>(S0 hD t λ j hj=>HG (v5 j (by omega))).le (Nat.mul_le_mul_right _ ht)
 have lz:Bt (4*(kc+1)) (A8 c):=(M5 hc).le (Nat.mul_le_mul_right _ (by omega));generalize (List.range m).map z=Z at *;refine Ev.x N.KR rfl rfl ?_;(repeat' ((first|apply AR|apply AE|refine AD (hO) ?_)<;>conv=>whnf))
 refine CK (λ j=>m-j) (λ(j:Nat)=>j<=m) (λ j=>[(14,.int .i64 j)]) (λ j=>[(7,7,.bx (eQ (D6 D (λ j=>BM (A6 c (z j))) j)))]) [] [] 0 (by (conv=>whnf);exact ⟨rfl,rfl,rfl⟩) (by omega) ?_;intro j p1 ih;by_cases hj:j<m
 ·have hr:=We j hj
  have lq:Z[(j:Int).toNat]? = some (z j):=hr;have h1:=I7 N.toa7 (hH j (by omega)) hD (by omega) (by omega);have hd:=λ q q'=>iU N q q' true c (z j) kc kz (by rw[n6,ua]) hc (fv j (by omega)) (by omega) (by omega) (by omega)
  have ha:=VE N.tou5 (v5 j (by omega)) (by omega);have h2:=MX N.toa7 ((hH j (by omega)).mul hD) (HG (v5 j (by omega))) (by omega) (by omega);have Tg:Ev L 98 [.agg (eQ (D6 D (λ j=>BM (A6 c (z j))) j*D)),.agg (eQ (BM (A6 c (z j))))] (.agg (eQ (D6 D (λ j=>BM (A6 c (z j))) (j+1)))):=h2;clear h2 v5 hH lz;(repeat' ((first|(apply AG<;>intro hc<;>try (exfalso;omega))|(apply AY;omega)|(refine BG (by assumption) ?_ rfl ?_;omega)|apply AE|refine AD (h1) ?_|refine AD (hd _ _) ?_|refine AD (ha) ?_|refine AD (Tg) ?_)<;>conv=>whnf))
  exact BQ [] (ih (j+1) (by omega) (by omega))
 have ej:j=m:=by omega
 clear ih;rw[ej];have hS:=λ q=>iW N q c kc hc (by omega) (by omega)
 have h1:=iO N.toa7 true lz hT (by omega) (by omega);have h2:=MX N.toa7 (hH m hm) (lz.mul hT) (by omega) (by omega);(repeat' ((first|(apply AG<;>intro hc<;>try (exfalso;omega))|apply AE|refine AD (hS _) ?_|refine AD (h1) ?_|refine AD (h2) ?_)<;>conv=>whnf))
 exact AW rfl (C4 _)
theorem Qr {Z:List (List Rat)} {T:Rat} (h:Z≠[]) : ¬ HE (.agg (QS Z T)):=by
 intro hf;have h1:=hf (.sl false (eM Z)) (by simp);cases Z with
 | nil=>exact h rfl
 | cons r Z =>
  have h2:=h1 [.sl false (r.map eQ)] (by simp) (.sl false (r.map eQ)) (by simp);simp [Z2]at h2
theorem cK {n k j:Nat} (hn:n<=4) (hj:j<=128):QH n k j<=5*k+128*(17*k+4):=by
 have h1:n*n<=4*4:=Nat.mul_le_mul hn hn;have h2:n*n*k<=16*k:=Nat.mul_le_mul_right k h1;have h3:n*k<=4*k:=Nat.mul_le_mul_right k hn;have h4:j*((k+n*n*k)+n)<=128*(17*k+4):=Nat.mul_le_mul hj (by omega);rw[QH];omega
theorem Y2 (b:List Rat):[b].flatten=b:=by simp
theorem iV (N:n7 L) (S:CR) (n k:Nat) (hS:S.Ok n k) (hn:n<=4) (hk:k<=1000) :
  ∃ v,Ev L 307 [.agg (eS S)] v/\((∃ i,i<=6/\HY n S.a i/\v = .j5 [.agg (eQ (GK S (2^i))),.int .i64 0])\/((∀ j,j<=6->DF (BU n S.a j)=false)/\v = .j5 [.agg [.bool false,.sl false [],.sl false []],.int .i64 14])):=by
 have Aq:=YI N.too4 S n k hS (by omega);have tc:=hS.la;have Cc:=hS.lb;have de:=hS.lc;have mw:Sq n S.a:=⟨hS.la,hS.lr⟩;obtain ⟨v,Dq,hv⟩:=zQ N false false S.a n k mw hS.ba hn (by omega);have oa:=YN N true false [S.b] k (λ r hr=>by obtain rfl:=List.mem_singleton.1 hr;exact hS.bb) (by rw[Y2];omega) (by simp) (by omega);have uh:=YN N true false [S.c] k (λ r hr=>by obtain rfl:=List.mem_singleton.1 hr;exact hS.bc) (by rw[Y2];omega) (by simp) (by omega);rw[Y2]at oa uh;refine Ev.xE N.KL rfl rfl ?_;rcases hv with ⟨i,h1,h2,rfl⟩|⟨h1,rfl⟩
 ·obtain ⟨D,eD,d1,d2,d3⟩:=bH mw hS.ba
  obtain ⟨E,eE,e1,e2,e3⟩:=ZN hS.lb hS.bb;obtain ⟨O,Gz,o1,o2,o3⟩:=ZN hS.lc hS.bc;obtain ⟨g1,_,g3⟩:=RB h1;have Eu:n*n<=4*4:=Nat.mul_le_mul hn hn;have Et:n*n*k<=16*k:=Nat.mul_le_mul_right k Eu;have Vu:n*k<=4*k:=Nat.mul_le_mul_right k hn;have bD:Bt 16000 (D:Rat):=(VT d2).le (by omega);have bE:Bt 4000 (E:Rat):=(VT e2).le (by omega);have bO:Bt 4000 (O:Rat):=(VT o2).le (by omega);have pD:=VU d1;have pE:=VU e1;have pO:=VU o1;have Ix:=cL mw d3 e3;have fv : ∀ j,j<=128->Bs 3000000 (DR S.a S.b (D:Rat) (E:Rat) j):=λ j hj x hx=>((Ix j x hx).le (by have:=cK (n:=n) (k:=k) hn hj;omega)).bt
  have lf:Bs 5000 (S.c.map (· * (O:Rat))):=λ x hx=>((o3 x hx).le (by omega)).bt
  have Bo:Ms 17000 (B7 (D:Rat) S.a):=λ r hr x hx=>((d3 r hr x hx).le (by omega)).bt
  have rn:=Qy (S:=S) (p:=2^i) g3 pD pE pO;have As:GK S (2^i)=BM S.d+(B8 (EY S.a S.b S.c) (2^i+2^i)+A8 S.c*B8 (λ j=>E3 S.a S.b (2^i+j)) (2^i)):=rfl;rw[<-rn]at As;rw[eD]at Dq;rw[eE]at oa;rw[Gz]at uh;clear eD eE Gz Ix d1 d2 d3 e1 e2 e3 o1 o2 o3 rn;generalize (D:Rat)=D at *;generalize (E:Rat)=E at *;generalize (O:Rat)=O at *;have Tz:=λ q=>YO N q S.c O k 4000 hS.bc bO (by omega) (by omega) (by omega)
  have Tx:=λ q=>YO N q S.b E k 4000 hS.bb bE (by omega) (by omega) (by omega)
  have ua : ∀ j,(DR S.a S.b D E j).length=n:=λ j=>by rw[DR,List.length_map,WX tc Cc]
  have hW:=zR N false (B7 D S.a) D (D^(2^i+2^i-1)) (DR S.a S.b D E) n (2^i) 17000 16000 3000000 (nR _ mw) Bo bD fv ua (pL S.a S.b D E) hn ⟨g3,g1⟩ (by omega) (by omega) (by omega);rw[pM]at hW;have bt:Bt 200000000 (D6 D (λ m=>B3 (DR S.a S.b D E (2^i+m))) (2^i)):=(S0 bD _ λ j hj=>NP (fv (2^i+j) (by omega))).le (by
   have:=Nat.mul_le_mul_right (16000+3000000+1) g1
   omega)
  have hG:=λ q=>zN N false q (B7 D S.a) D (D6 D (λ m=>B3 (DR S.a S.b D E (2^i+m))) (2^i)) (D^(2^i+2^i-1)) ((2^i:Nat):Int) (S.c.map (· * O)) (DR S.a S.b D E) n (2^i+2^i) 16000 5000 3000000 200000000 bD lf (by rw[List.length_map];exact de) fv ua bt hn (by omega) (by omega) (by omega) (by omega) (by omega)
  have ud:Bt 3000000000 (D6 D (λ j=>BM (A6 (S.c.map (· * O)) (DR S.a S.b D E j))) (2^i+2^i)+A8 (S.c.map (· * O))*D6 D (λ m=>B3 (DR S.a S.b D E (2^i+m))) (2^i)):=by
   have q1 : ∀ j,j<2^i+2^i->Bt (4*(5000+3000000+1)) (BM (A6 (S.c.map (· * O)) (DR S.a S.b D E j))):=λ j hj=>HG ((lf.dot (fv j (by omega))).le (Nat.mul_le_mul_right _ (by rw[List.length_map];omega)))
   have q2:=(S0 bD (2^i+2^i) q1).le (Nat.mul_le_mul_right _ (show 2^i+2^i<=128 by omega));have q3:Bt (4*(5000+1)) (A8 (S.c.map (· * O))):=(M5 lf).le (Nat.mul_le_mul_right _ (by rw[List.length_map];omega));exact (q2.add (q3.mul bt)).le (by omega)
  have blast:Bt 2100000 (D^(2^i+2^i-1)):=(aD bD _).le (by
   have:=Nat.mul_le_mul_right 16000 (show 2^i+2^i-1<=127 by omega)
   omega)
  have dj:=I7 N.toa7 bE bO (by omega) (by omega);have fo:=I7 N.toa7 blast (bE.mul bO) (by omega) (by omega);have k8:D^(2^i+2^i-1)*(E*O)≠0:=by
   have Ah : ∀ j:Nat,0<D^j:=λ j=>by
    induction j with
    | zero=>rw[Rat.pow_zero];decide
    | succ j ih=>rw[Rat.pow_succ];exact Rat.mul_pos ih pD
   have:=Rat.mul_pos (Ah (2^i+2^i-1)) (Rat.mul_pos pE pO)
   grind
  have Di:=iH N.toa7 ud (blast.mul (bE.mul bO)) (by omega) (by omega) k8;have Tj:=VE N.tou5 hS.bd (by omega);have Bl:=MX N.toa7 (HG hS.bd) (ud.yj (blast.mul (bE.mul bO))) (by omega) (by omega);rw[<-As]at Bl;have zm : ¬ HE (.agg (QS ((List.range (2^i+2^i)).map (DR S.a S.b D E)) (D6 D (λ m=>B3 (DR S.a S.b D E (2^i+m))) (2^i)))):=Qr (by
   intro e;have:=congrArg List.length e
   simp at this)
  have Vm:=Ni ((List.range (2^i+2^i)).map (DR S.a S.b D E)) (D6 D (λ m=>B3 (DR S.a S.b D E (2^i+m))) (2^i));have ae : ∀ r:AV,r = .j5 [.agg (eQ (GK S (2^i))),.int .i64 0]->((∃ i,i<=6/\HY n S.a i/\r = .j5 [.agg (eQ (GK S (2^i))),.int .i64 0])\/((∀ j,j<=6->DF (BU n S.a j)=false)/\r = .j5 [.agg [.bool false,.sl false [],.sl false []],.int .i64 14])):=λ r hr=>Or.inl ⟨i,h1,h2,hr⟩
  clear As ud blast bt k8 fv lf Bo pD pE pO;generalize GK S (2^i)=W at *;generalize D6 D (λ j=>BM (A6 (S.c.map (· * O)) (DR S.a S.b D E j))) (2^i+2^i)+A8 (S.c.map (· * O))*D6 D (λ m=>B3 (DR S.a S.b D E (2^i+m))) (2^i)=U at *;generalize D6 D (λ m=>B3 (DR S.a S.b D E (2^i+m))) (2^i)=T at *;generalize (List.range (2^i+2^i)).map (DR S.a S.b D E)=Z at *;generalize D^(2^i+2^i-1)=P at *;generalize 2^i=p at *;(repeat' ((first|(apply AG<;>intro hc<;>try (exfalso;omega))|apply AR|refine H1 rfl ?_|apply AE|refine AD (Aq) ?_|refine AD (Dq) ?_|refine AD (oa) ?_|refine AD (uh) ?_|refine AD (Tz _) ?_|refine AD (Tx _) ?_|refine AD (hW) ?_)<;>conv=>whnf))
  refine qX zm trivial ?_;rw[Vm];(conv=>whnf)
  (repeat' ((first|refine AD (hG _) ?_|refine AD (dj) ?_|refine AD (fo) ?_|refine AD (Di) ?_|refine AD (Tj) ?_|refine AD (Bl) ?_)<;>conv=>whnf))
  exact ⟨_,AW rfl (XT _ 0),ae _ rfl⟩
 ·(repeat' ((first|(apply AG<;>intro hc<;>try (exfalso;omega))|apply AR|apply AE|refine AD (Aq) ?_|refine AD (Dq) ?_)<;>conv=>whnf))
  exact ⟨_,AW rfl (by simp [A1,CQ,FM]),Or.inr ⟨h1,rfl⟩⟩
theorem TS {k:Nat} {f:Nat->Rat} : ∀ m,(∀ j,j<m->Bt k (f j))->Bt (m*(k+1)) (B8 f m)
 | 0,_=>Bt.zero _
 | m+1,h=>by
  have h1:=TS m λ j hj=>h j (by omega)
  refine (h1.add (h m (by omega))).le ?_;rw[Nat.succ_mul];omega
def IC (S:CR) (p k:Nat):Rat:=BM S.d+(B8 (EY S.a S.b S.c) k+A8 S.c*B8 (λ j=>E3 S.a S.b (p+j)) (k-p))
theorem Sx {S:CR} {p k:Nat} (h:k<p):IC S p k+EY S.a S.b S.c k=IC S p (k+1):=by
 rw[IC,IC,show k+1-p=0 by omega,show k-p=0 by omega];simp only[B8];grind
theorem Sw {S:CR} {p k:Nat} (h:p<=k):IC S p k+EY S.a S.b S.c k+A8 S.c*B3 (ED S.a S.b k)=IC S p (k+1):=by
 rw[IC,IC,show k+1-p=(k-p)+1 by omega];have e:E3 S.a S.b (p+(k-p))=B3 (ED S.a S.b k):=by rw[show p+(k-p)=k by omega];rfl
 simp only[B8,e];grind
theorem Sv (S:CR) (p:Nat):IC S p (p+p)=GK S p:=by rw[IC,GK,show p+p-p=p by omega]
theorem Ln (N:v3 L) (S:CR) (n k:Nat) (hS:S.Ok n k) (hn:n<=4) (hk:k<=100) :
  ∃ v,Ev L 315 [.agg (eS S)] v/\((∃ i,i<=6/\HY n S.a i/\v = .j5 [.agg (eQ (GK S (2^i))),.int .i64 0])\/((∀ j,j<=6->DF (BU n S.a j)=false)/\v = .j5 [.agg [.bool false,.sl false [],.sl false []],.int .i64 14])):=by
 have Aq:=yS N.too4 S n k hS (by omega);have tc:=hS.la;have Cc:=hS.lb;have de:=hS.lc;have mw:Sq n S.a:=⟨hS.la,hS.lr⟩;obtain ⟨v,hP,hv⟩:=Lk N false false S.a n k mw hS.ba hn hk;refine Ev.xE N.L7 rfl rfl ?_;rcases hv with ⟨i,h1,h2,rfl⟩|⟨h1,rfl⟩
 ·obtain ⟨g1,_,g3⟩:=RB h1
  have Bl:=VH N hS.bd (by omega);have ae : ∀ r:AV,r = .j5 [.agg (eQ (GK S (2^i))),.int .i64 0]->((∃ i,i<=6/\HY n S.a i/\r = .j5 [.agg (eQ (GK S (2^i))),.int .i64 0])\/((∀ j,j<=6->DF (BU n S.a j)=false)/\r = .j5 [.agg [.bool false,.sl false [],.sl false []],.int .i64 14])):=λ r hr=>Or.inl ⟨i,h1,h2,hr⟩
  have jx:=Sv S (2^i);generalize 2^i=p at *;have nj : ∀ j,j<=128->Bs 300000 (ED S.a S.b j):=λ j hj=>(pF mw hS.lb hS.ba hS.bb j).le (by have:=cK (n:=n) (k:=k) hn hj;omega)
  have gv : ∀ j,(ED S.a S.b j).length=n:=WX tc Cc;have v5 : ∀ j,j<=128->Bt (4*(k+300000+1)) (A6 S.c (ED S.a S.b j)):=λ j hj=>(hS.bc.dot (nj j hj)).le (Nat.mul_le_mul_right _ (by omega))
  have fv:Bt (4*(k+1)) (A8 S.c):=(M5 hS.bc).le (Nat.mul_le_mul_right _ (by omega));have He : ∀ j,j<=128->Bt 1000000000 (IC S p j):=λ j hj=>by
   have q1:=(TS (f:=EY S.a S.b S.c) (k:=1300000) j λ t ht=>(HG (v5 t (by omega))).le (by omega)).le (Nat.mul_le_mul_right _ hj);have q2:=(TS (f:=λ t=>E3 S.a S.b (p+t)) (k:=300000) (j-p) λ t ht=>NP (nj (p+t) (by omega))).le (Nat.mul_le_mul_right _ (show j-p<=128 by omega));exact ((HG hS.bd).add (q1.add (fv.mul q2))).le (by omega)
  have yv:=λ q=>YU N q S.c k hS.bc (by omega) (by omega)
  have om:IC S p 0=BM S.d:=by rw[IC,show 0-p=0 by omega];simp only[B8];grind
  (repeat' ((first|(apply AG<;>intro hc<;>try (exfalso;omega))|apply AR|apply AE|refine AD (Aq) ?_|refine AD (hP) ?_|refine AD (Bl) ?_)<;>conv=>whnf))
  refine CK (λ j=>p+p-j) (λ(j:Nat)=>j<=p+p) (λ j=>[(8,.int .i64 j),(7,.sl false ((ED S.a S.b j).map eQ))]) (λ j=>[(6,6,.bx (eQ (IC S p j)))]) [] [] 0 (by rw[om];exact (by (conv=>whnf);exact ⟨rfl,rfl,rfl⟩)) (by omega) ?_;intro j t1 jh;by_cases hj:j<p+p
  ·have hI:=λ q q'=>iF N.too4 S.c (ED S.a S.b j) q q' k 300000 (by rw[gv];exact de) hS.bc (nj j (by omega)) (by rw[de];have:=Nat.mul_le_mul_right (k+300000+1) hn;omega) (by omega)
   have hA:=VH N (v5 j (by omega)) (by omega);have Dk:=QW N.toa8 (He j (by omega)) (HG (v5 j (by omega))) (by omega) (by omega);have hT:=λ q1 q2 q3=>yT N.too4 S.a (ED S.a S.b j) q1 q2 q3 n k 300000 mw (gv j) hS.ba (nj j (by omega)) hn (by omega)
   have Hj : ∀ q1 q2 q3,Ev L 138 [.sl q1 (G5 q3 S.a),.sl q2 ((ED S.a S.b j).map eQ)] (.sl false ((ED S.a S.b (j+1)).map eQ)):=hT;clear hT;by_cases Em:p<=j
   ·have hG:=λ q=>Lj N q (ED S.a S.b j) 300000 (nj j (by omega)) (by rw[gv];omega) (by omega)
    have hM:=SP N.toa8 fv (NP (nj j (by omega))) (by omega) (by omega);have hs:=Sw (S:=S) Em;have hf:EY S.a S.b S.c j=BM (A6 S.c (ED S.a S.b j)):=rfl;rw[hf]at hs;have wm:=QW N.toa8 ((He j (by omega)).add (HG (v5 j (by omega)))) (fv.mul (NP (nj j (by omega)))) (by omega) (by omega);rw[hs]at wm;(repeat' ((first|(apply AG<;>intro hc<;>try (exfalso;omega))|(apply AY;omega)|(apply D5;omega)|apply AE|refine AD (hI _ _) ?_|refine AD (hA) ?_|refine AD (Dk) ?_|refine AD (yv _) ?_|refine AD (hG _) ?_|refine AD (hM) ?_|refine AD (wm) ?_|refine AD (Hj _ _ _) ?_)<;>conv=>whnf))
    exact BQ [] (jh (j+1) (by omega) (by omega))
   ·have hs:=Sx (S:=S) (p:=p) (k:=j) (by omega)
    have hf:EY S.a S.b S.c j=BM (A6 S.c (ED S.a S.b j)):=rfl;rw[hf]at hs;rw[hs]at Dk;(repeat' ((first|(apply AG<;>intro hc<;>try (exfalso;omega))|(apply AY;omega)|(apply D5;omega)|apply AE|refine AD (hI _ _) ?_|refine AD (hA) ?_|refine AD (Dk) ?_|refine AD (Hj _ _ _) ?_)<;>conv=>whnf))
    exact BQ [] (jh (j+1) (by omega) (by omega))
  have ej:j=p+p:=by omega
  clear jh;rw[ej,jx];(repeat' ((first|(apply AG<;>intro hc<;>try (exfalso;omega))|(apply D5;omega)|apply AE)<;>conv=>whnf))
  exact ⟨_,AW rfl (XT _ 0),ae _ rfl⟩
 ·(repeat' ((first|(apply AG<;>intro hc<;>try (exfalso;omega))|apply AR|apply AE|refine AD (Aq) ?_|refine AD (hP) ?_)<;>conv=>whnf))
  exact ⟨_,AW rfl (by simp [A1,CQ,FM]),Or.inr ⟨h1,rfl⟩⟩
theorem Bt.ng {k:Nat} {x:Rat} (h:Bt k x):Bt k (-x):=⟨by simpa using h.1,by simpa using h.2⟩
theorem vB {B A:List Rat} {n:Nat} (hB:Bs 4 B) (hA:Bs 4 A):(D8 B A n).Ok n 80:=by
 have hs : ∀ i,Bt 80 (B.getD i 0-B.getD 0 0*A.getD i 0):=λ i=>by
  rw[Rat.sub_eq_add_neg];exact ((MZ hB i).add ((MZ hB 0).mul (MZ hA i)).ng).le (by omega)
 have hu : ∀ j,Bs 80 (HD n j):=λ j x hx=>by
  simp only[HD,List.mem_map]at hx;obtain ⟨i,_,rfl⟩:=hx;split
  ·exact Bt.one _
  ·exact Bt.zero _
 refine ⟨fJ B A n,vC,cF _ _,fO B A n,?_,hu 0,?_,(MZ hB 0).le (by omega)⟩
 ·intro r hr
  simp only[D8,List.mem_map]at hr;obtain ⟨i,_,rfl⟩:=hr;split
  ·intro x hx
   obtain ⟨j,_,rfl⟩:=List.mem_map.1 hx;exact (MZ hA _).ng.le (by omega)
  ·exact hu _
 ·intro x hx
  simp only[D8,List.mem_map]at hx;obtain ⟨i,_,rfl⟩:=hx;exact hs _
theorem Kr:Bt 4 (Rat.divInt 1 2):=(Bt.mk (k:=4) (z:=1) (d:=2) (by decide) (by decide))
theorem uA (n:Nat) (hn:n<=3):Bt 6 (OE n):=by
 rw[OE,show (16*n:Int)=((16*n:Nat):Int) by omega,Rat.divInt_ofNat];refine Bt.mk (by decide) ?_;show _<=64;omega
theorem uB (l:List Int) (n:Nat) (hn:n<=3):(R4 l n).Ok n 10:=by
 have h:=Qz l n;refine ⟨by rw[R4,bF];exact h.la,WG _ h.lr,h.lb,h.lc,?_,h.bb.le (by omega),h.bc.le (by omega),h.bd.le (by omega)⟩;intro r hr x hx;obtain ⟨s,hs,rfl⟩:=List.mem_map.1 hr;obtain ⟨y,hy,rfl⟩:=List.mem_map.1 hx;exact (h.ba s hs y hy).mul (uA n hn)
theorem yY (N:fy L):Ev L 318 [] (.bool true):=by
 have A:o0 L:=N.ton7.tou5.too0;have hO:=QY A.toa8 1 (by omega);have Tr:=QY A.toa8 2 (by omega);have hF:=VG A.toa8 1 2 (by omega) (by omega);have hh:=Kr;have k8 : -(Rat.divInt 1 2)≠0:=by decide
 have zh:DF (BU 1 [[Rat.divInt 1 2]] 0)=true:=by decide +kernel
 have hval:GK ⟨[[Rat.divInt 1 2]],[1],[Rat.divInt 1 2],1⟩ (2^0)=((2:Int):Rat):=by decide +kernel
 generalize Rat.divInt 1 2=h at *;have hN:=zI A.todi hh (by omega);have hA:Bs 4 [1,-h]:=λ x hx=>by
  rcases List.mem_cons.1 hx with rfl|hx
  ·exact Bt.one 4
  ·obtain rfl:=List.mem_singleton.1 hx
   exact hh.ng
 have hB:Bs 4 [(1:Rat)]:=λ x hx=>by
  obtain rfl:=List.mem_singleton.1 hx;exact Bt.one 4
 have tB:M7 [(1:Rat)]=[1]:=by decide
 have tA:M7 [1,-h]=[1,-h]:=by
  show List.take (if -h=0 then _ else 2) [1,-h]=_;rw[if_neg k8];rfl
 have hC:=yN A true true [1] [1,-h] 1 4 tB tA hB hA (by simp) (by simp) rfl rfl (by omega);have g8:(D8 [1] [1,-h] 1).Ok 1 80:=vB hB hA;have e:D8 [1] [1,-h] 1=⟨[[h]],[1],[h],1⟩:=by
  have:D8 [1] [1,-h] 1=⟨[[- -h]],[1],[0-1 * -h],1⟩:=rfl
  rw[this,Rat.neg_neg,show 0-1 * -h=h by grind]
 rw[e]at hC g8;obtain ⟨v,hS,hv⟩:=iV N.ton7 ⟨[[h]],[1],[h],1⟩ 1 80 g8 (by omega) (by omega);rcases hv with ⟨i,_,h2,rfl⟩|⟨h1,rfl⟩
 ·obtain rfl:i=0:=h2.uniq ⟨zh,λ j hj=>absurd hj (by omega)⟩
  rw[hval]at hS;have Ha:Bt 2 ((2:Int):Rat):=⟨by decide,by decide⟩;have wj:=SM A.toa8 Ha Ha (by omega) (by omega);rw[aX.2 rfl]at wj;refine Ev.x N.JT rfl rfl ?_;(repeat' ((first|(apply AG<;>intro hc<;>try (exfalso;omega))|refine H1 rfl ?_|refine RW rfl rfl ?_|apply AE|refine AD (hO) ?_|refine AD (hF) ?_|refine AD (hN) ?_|refine AD (hC) ?_|refine AD (hS) ?_|refine AD (Tr) ?_|refine AD (wj) ?_)<;>conv=>whnf))
  exact JG rfl
 ·have:=h1 0 (by omega)
  rw[zh]at this;cases this
theorem cI (S:CR) : ∀ j,wQ S j=ED S.a S.b j
 | 0=>rfl
 | j+1=>by rw[wQ,ED,cI S j]
theorem Nu {S:CR} {n:Nat} (h:S.a.length=S.b.length) : ∀ c,A8 (S.outs (List.replicate n 0) (E5 (c+1)))=BM S.d+B8 (EY S.a S.b S.c) c:=λ c=>by
 have key : ∀ m,m<=c+1->A8 ((S.outs (List.replicate n 0) (E5 (c+1))).take m)=match m with
   | 0=>0
   | j+1=>BM S.d+B8 (EY S.a S.b S.c) j:=by
  intro m;induction m with
  | zero=>intro _;rfl
  | succ j ih =>
   intro hj;have hx:=kH (S:=S) (n:=n) h (show j<c+1 by omega);rw[bC hx,ih (by omega)];cases j with
   | zero=>simp only[hQ,B8];grind
   | succ t =>
    simp only[hQ,B8,EY,cI];grind
 have hl:(S.outs (List.replicate n 0) (E5 (c+1))).length=c+1:=by rw[V0,S1]
 have:=key (c+1) (Nat.le_refl _)
 rwa [List.take_of_length_le (by omega)]at this
theorem Pq : ∀ n,n<4 -> ∀ i,i<20->NX n 10 0 i<1099511627776:=by decide +kernel
theorem yZ (N:fy L) (l:List Int) (size count:Int) (q:Bool) (hl : ∀ v∈l,HZ v) (hs:HZ size) (hc:HZ count) :
  Ev L 320 [.sl q (l.map QT),.int .i64 size,.int .i64 count] (.bool true):=by
 have C:z7 L:=N.toz7;have W:s8 L:=C.toz8.tos8;have A:o0 L:=N.ton7.tou5.too0;have Ib:=yY N;obtain ⟨g1,g2⟩:=pI (v:=size) (m:=4) (by omega);obtain ⟨g3,g4⟩:=pI (v:=count) (m:=20) (by omega);have Hm:=YY W size 4 hs (by omega);have Uc:=YY W count 20 hc (by omega);generalize FU size 4=z1 at *;generalize FU count 20=z2 at *;obtain ⟨n,rfl⟩:=Int.eq_ofNat_of_zero_le g1;obtain ⟨c,rfl⟩:=Int.eq_ofNat_of_zero_le g3;have oc:=λ q=>yK C l q n hl (by omega)
 have g8:=uB l n (by omega);generalize R4 l n=S at *;have mw:Sq n S.a:=⟨g8.la,g8.lr⟩;obtain ⟨v,h1,hv⟩:=iV N.ton7 S n 10 g8 (by omega) (by omega);obtain ⟨w,h2,hw⟩:=Ln N.tov3 S n 10 g8 (by omega) (by omega);rcases hv with ⟨i,i1,i2,rfl⟩|⟨i1,rfl⟩
 ·rcases hw with ⟨j,_,j2,rfl⟩|⟨j1,rfl⟩
  ·obtain rfl:=i2.uniq j2
   have hI:=yO A.too4 S n 10 c g8 (by omega) (by omega) (λ i hi=>Pq n (by omega) i (by omega)) (by omega);have zu:S.a.length=S.b.length:=by rw[g8.la,g8.lb]
   have Tt:(S.outs (List.replicate n 0) (E5 c)).length=c:=by rw[V0,S1]
   have nj : ∀ j,j<=128->Bs 300000 (ED S.a S.b j):=λ j hj=>(pF mw g8.lb g8.ba g8.bb j).le (by have:=cK (n:=n) (k:=10) (by omega) hj;omega)
   have Dl:Bs 2000000 (S.outs (List.replicate n 0) (E5 c)):=λ x hx=>by
    obtain ⟨t,ht⟩:=List.getElem?_of_mem hx;have im:=(zS ht).1;have:=kH (S:=S) (n:=n) zu (show t<c by omega)
    rw[this]at ht;obtain rfl:=Option.some.inj ht;cases t with
    | zero=>exact g8.bd.le (by omega)
    | succ t =>
     show Bt _ (A6 S.c (wQ S t));rw[cI];refine (g8.bc.dot (nj t (by omega))).le ?_;rw[g8.lc];have:=Nat.mul_le_mul_right (10+300000+1) (show n<=4 by omega)
     omega
   have hle:A8 (S.outs (List.replicate n 0) (E5 c))<=GK S (2^i):=by
    cases c with
    | zero =>
     have e0:S.outs (List.replicate n 0) (E5 0)=[]:=rfl;rw[e0];have h3:=kI (S:=S) mw g8.lb i2.1 0;have h4:=UN S.d;simp only[B8,A8]at h3 ⊢;grind
    | succ c =>
     rw[Nu zu];exact kI mw g8.lb i2.1 c
   have hZ:=λ q=>YU N.tov3 q (S.outs (List.replicate n 0) (E5 c)) 2000000 Dl (by omega) (by omega)
   have fv:Bt 2000000000 (A8 (S.outs (List.replicate n 0) (E5 c))):=(M5 Dl).le (by
    rw[Tt];have:=Nat.mul_le_mul_right (2000000+1) (show c<=20 by omega)
    omega)
   obtain ⟨Xy,_,_⟩:=RB i1;have Ci:Bt 1000000000 (GK S (2^i)):=by
    have hd : ∀ j,j<=128->Bt 1300000 (A6 S.c (ED S.a S.b j)):=λ j hj=>(g8.bc.dot (nj j hj)).le (by
     rw[g8.lc];have:=Nat.mul_le_mul_right (10+300000+1) (show n<=4 by omega)
     omega)
    have q1:=(TS (f:=EY S.a S.b S.c) (k:=1300000) (2^i+2^i) λ t ht=>HG (hd t (by omega))).le (Nat.mul_le_mul_right _ (show 2^i+2^i<=128 by omega));have q2:=(TS (f:=λ t=>E3 S.a S.b (2^i+t)) (k:=300000) (2^i) λ t ht=>NP (nj (2^i+t) (by omega))).le (Nat.mul_le_mul_right _ (show 2^i<=128 by omega));have q3:Bt (4*(10+1)) (A8 S.c):=(M5 g8.bc).le (Nat.mul_le_mul_right _ (by rw[g8.lc];omega));exact ((HG g8.bd).add (q1.add (q3.mul q2))).le (by omega)
   have ia:=SM A.toa8 Ci Ci (by omega) (by omega);rw[aX.2 rfl]at ia;have Df:=SM A.toa8 fv Ci (by omega) (by omega);have hg : ¬ 0<o5 (A8 (S.outs (List.replicate n 0) (E5 c))-GK S (2^i)).num:=λ h=>by
    have:=RH.1 h
    grind
   clear hle fv Ci Dl nj;generalize o5 (A8 (S.outs (List.replicate n 0) (E5 c))-GK S (2^i)).num=g at *;generalize GK S (2^i)=V at *;generalize A8 (S.outs (List.replicate n 0) (E5 c))=Z at *;generalize S.outs (List.replicate n 0) (E5 c)=P at *;refine Ev.x N.IJ rfl rfl ?_;(repeat' ((first|(apply AG<;>intro hc<;>try (exfalso;omega))|apply AE|refine AD (Hm) ?_|refine AD (Uc) ?_|refine AD (oc _) ?_|refine AD (h1) ?_|refine AD (h2) ?_|refine AD (hI) ?_|refine AD (hZ _) ?_|refine AD (ia) ?_|refine AD (Df) ?_|refine AD (Ib) ?_)<;>conv=>whnf))
   exact JG rfl
  ·have:=j1 i i1
   rw[i2.1]at this;cases this
 ·rcases hw with ⟨j,j1,j2,rfl⟩|⟨j1,rfl⟩
  ·have:=i1 j j1
   rw[j2.1]at this;cases this
  ·refine Ev.x N.IJ rfl rfl ?_
   (repeat' ((first|(apply AG<;>intro hc<;>try (exfalso;omega))|apply AE|refine AD (Hm) ?_|refine AD (oc _) ?_|refine AD (h1) ?_|refine AD (h2) ?_|refine AD (Ib) ?_)<;>conv=>whnf))
   exact JG rfl
end Go.c4
