/-
  Powers and sums (layer 29): the reference's Power.
-/
import Derived.Test.YtpafclijakpknaaGreatB12
import Derived.Test.YtpafclijakpknaaGreatB7
import Derived.Test.YtpafclijakpknaaGreatB11
import Derived.Test.YtpafclijakpknaaGreatB2
import Derived.Test.YtpafclijakpknaaGreatB9
import Derived.Test.YtpafclijakpknaaGreatB8
import Derived.Test.YtpafclijakpknaaGreatB10
set_option linter.unusedSimpArgs false
set_option linter.unusedVariables false
set_option linter.unnecessarySimpa false
namespace Go.b8
open F
attribute [local irreducible] AJ A3 BU AU FE BR C1 CK DS DE FA G7 DR B2 EH E5 AL CQ BC pw FM E2 F7 G8 GX EG FK EE FZ
variable {L:Lib}
set_option maxHeartbeats 16000000
set_option maxRecDepth 8000
theorem AmR (N:cb L) (q q':Bool) (a:List (List Rat)) (n kk:Nat) (hs:Sq n a) (ha:Ms kk a) (hn:n<=4) (hk:kk<=1000000000):Ev L 313 [.sl q (MH q' a)] (.sl false (eM (K7 a a n))):=by
 have gq:=hs.l;have Ke:Sq n (K7 a a n):=Sq.mul hs.l a;have So : ∀ (i:Nat) (r:List Rat),a[i]? = some r->(K7 a a n)[i]? = some (IC r a n):=λ i r hr=>by rw[K7,List.getElem?_map,hr];rfl
 have Ns : ∀ (j:Nat) (r:List Rat),j<n->(IC r a n)[j]? = some (CI r (GK a j)):=λ j r hj=>by rw[IC,List.getElem?_map,List.getElem?_range hj];rfl
 have Ez:=Ke.l;have Nr:=Ke.r;have hO:=O6 N.toa6 0 (by omega);rw[show ((0:Int):Rat)=0 from rfl]at hO;generalize K7 a a n=Q at *;refine Ev.x N.V1 rfl rfl ?_;(repeat' ((first|apply BT|apply A2)<;>conv=>whnf))
 unfold GX;refine ⟨⟨by omega,by omega,by simp only[I3];omega,by omega⟩,?_⟩;rw[Int.toNat_natCast,gq];(conv=>whnf)
 skip
 refine G6 (λ i=>n-i) (λ(i:Nat)=>i<=n) (λ i=>[(4,.int .i64 i)]) (λ i=>[(10,10,.mx (mz Q n i))]) [] [] 0 (by first|exact (by (conv=>whnf);exact ⟨rfl,rfl,rfl⟩)|(rw[<-xQ Q];exact (by (conv=>whnf);exact ⟨rfl,rfl,rfl⟩))) (by omega) ?_;intro i p1 ih;have Da:=xO (Q:=Q) p1;by_cases hi:i<n
 ·obtain ⟨rr,hr⟩ : ∃ r,a[i]? = some r:=⟨_,zE (by omega)⟩
  have vg:a[(i:Int).toNat]? = some rr:=hr;have gj:=hs.at hr;have sn:=ha.at hr;have hq:=So i rr hr;have j8:=xP hq hi;have zt:(mz Q n i)[i]? = some none:=Ape Ez hi;have Wc:(IC rr a n).length=n:=Nr _ (zM hq);have zw:(IC rr a n).take 1=[CI rr (GK a 0)]:=by
   rw[OG (Ns 0 rr (by omega))];rfl
  have hqj : ∀ j,j<n->(IC rr a n).take (j+1)=(IC rr a n).take j++[CI rr (GK a j)]:=λ j hj=>OG (Ns j rr hj)
  generalize mz Q n i=R0 at *;generalize IC rr a n=qr at *;(repeat' ((first|(apply A9<;>intro hc<;>try omega)|apply BT|apply A2)<;>conv=>whnf))
  refine JN ?_;(repeat' ((first|(apply A9<;>intro hc<;>try omega)|apply BT|apply A2|refine AP (hO) ?_)<;>conv=>whnf))
  refine G6 (λ k=>n-k) (λ(k:Nat)=>k<=n) (λ k=>[(7,.int .i64 k)]) (λ k=>[(6,6,.bx (eQ (CI (rr.take k) ((GK a 0).take k))))]) [] [] 0 (by rw[show CI (rr.take 0) ((GK a 0).take 0)=0 from rfl];exact (by (conv=>whnf);exact ⟨rfl,rfl,rfl⟩)) (by omega) ?_;intro k t1 kh;by_cases np:k<n
  ·obtain ⟨x,hx⟩ : ∃ x,rr[k]? = some x:=⟨_,zE (by omega)⟩
   obtain ⟨s,jk⟩ : ∃ s,a[k]? = some s:=⟨_,zE (by omega)⟩;have Ml:=hs.at jk;obtain ⟨y,hy⟩ : ∃ y,s[0]? = some y:=⟨_,zE (by omega)⟩;have nr:rr[(k:Int).toNat]? = some x:=hx;have xj:a[(k:Int).toNat]? = some s:=jk;have Ai:s[((0:Nat):Int).toNat]? = some y:=hy;have Tu:=Zs jk hy;have hM:=bQ N.toa6 (sn.at hx) ((ha.at jk).at hy) (by omega) (by omega);have hd:Bt (4*(kk+kk+1)) (CI (rr.take k) ((GK a 0).take k)):=((sn.take k).dot ((Ms.Rk ha 0).take k)).le (zR _ (by rw[List.length_take];omega));have hA:=YK N.toa6 hd ((sn.at hx).mul ((ha.at jk).at hy)) (by omega) (by omega);rw[<-eI hx Tu]at hA;generalize CI (rr.take k) ((GK a 0).take k)=w at *;generalize x*y=p at *;(repeat' ((first|(apply A9<;>intro hc<;>try omega)|(apply BG;omega)|apply BT|(refine CN (by assumption) ?_ rfl ?_;omega)|apply A2|refine AP (hM) ?_|refine AP (hA) ?_)<;>conv=>whnf))
   exact CZ [] (kh (k+1) (by omega) (by omega))
  have ek:k=n:=by omega
  clear kh;rw[ek,jN gj];generalize CI rr (GK a 0)=y0 at *;(repeat' ((first|(apply A9<;>intro hc<;>try omega)|(apply B5;omega)|apply BT|apply A2)<;>conv=>whnf))
  refine mO (r:=none) (by rw[Nat.zero_add,Int.toNat_natCast];exact zt) ?_;(conv=>whnf)
  (repeat' (apply GY<;>conv=>whnf))
  refine ZF (enc:=eQ) y0 rfl rfl (by omega) ?_;(conv=>whnf)
  (repeat' ((first|(apply B5;omega)|fail)<;>conv=>whnf))
  refine B5 rfl ?_;refine iU (i:=i) (by omega) (by omega) ?_;(conv=>whnf)
  (repeat' ((first|(apply BG;omega)|fail)<;>conv=>whnf))
  refine G6 (λ j=>n-j) (λ(j:Nat)=>1<=j/\j<=n) (λ j=>[(5,.int .i64 j)]) (λ j=>[(10,10,.mx (R0.set i (some (3,(qr.take j).map eQ))))]) [] [] 1 (by first|exact (by (conv=>whnf);exact ⟨rfl,rfl,rfl⟩)|(rw[zw];exact (by (conv=>whnf);exact ⟨rfl,rfl,rfl⟩))) (by omega) ?_;intro j ⟨r1,r2⟩ jh;have htj:(qr.take j).length=j:=by rw[List.length_take];omega
  by_cases hj:j<n
  ·have Cj:=hqj j hj
   have Hc:(qr.take (j+1)).length=j+1:=by rw[List.length_take];omega
   generalize qr.take j=W at *;(repeat' ((first|(apply A9<;>intro hc<;>try omega)|apply BT|apply A2|refine AP (hO) ?_)<;>conv=>whnf))
   refine G6 (λ k=>n-k) (λ(k:Nat)=>k<=n) (λ k=>[(7,.int .i64 k)]) (λ k=>[(6+1000000,6,.bx (eQ (CI (rr.take k) ((GK a j).take k))))]) [] [] 0 (by rw[show CI (rr.take 0) ((GK a j).take 0)=0 from rfl];exact (by (conv=>whnf);exact ⟨rfl,rfl,rfl⟩)) (by omega) ?_;intro k t1 kh;by_cases np:k<n
   ·obtain ⟨x,hx⟩ : ∃ x,rr[k]? = some x:=⟨_,zE (by omega)⟩
    obtain ⟨s,jk⟩ : ∃ s,a[k]? = some s:=⟨_,zE (by omega)⟩;have Ml:=hs.at jk;obtain ⟨y,hy⟩ : ∃ y,s[j]? = some y:=⟨_,zE (by omega)⟩;have nr:rr[(k:Int).toNat]? = some x:=hx;have xj:a[(k:Int).toNat]? = some s:=jk;have Ai:s[((j:Nat):Int).toNat]? = some y:=hy;have Tu:=Zs jk hy;have hM:=bQ N.toa6 (sn.at hx) ((ha.at jk).at hy) (by omega) (by omega);have hd:Bt (4*(kk+kk+1)) (CI (rr.take k) ((GK a j).take k)):=((sn.take k).dot ((Ms.Rk ha j).take k)).le (zR _ (by rw[List.length_take];omega));have hA:=YK N.toa6 hd ((sn.at hx).mul ((ha.at jk).at hy)) (by omega) (by omega);rw[<-eI hx Tu]at hA;generalize CI (rr.take k) ((GK a j).take k)=w at *;generalize x*y=p at *;(repeat' ((first|(apply A9<;>intro hc<;>try omega)|(apply BG;omega)|apply BT|(refine CN (by assumption) ?_ rfl ?_;omega)|apply A2|refine AP (hM) ?_|refine AP (hA) ?_)<;>conv=>whnf))
    exact CZ [] (kh (k+1) (by omega) (by omega))
   have ek:k=n:=by omega
   clear kh;rw[ek,jN gj];generalize CI rr (GK a j)=y0 at *;(repeat' ((first|(apply A9<;>intro hc<;>try omega)|(apply B5;omega)|apply BT|apply A2)<;>conv=>whnf))
   refine Yl (by omega) (by omega) ?_;(conv=>whnf)
   (repeat' (apply GY<;>conv=>whnf))
   refine Yj (by omega) (by omega) ?_;(conv=>whnf)
   refine H8 (enc:=eQ) y0 rfl (by rw[List.length_map]) rfl (by omega) (by omega) ?_;intro s' v;rw[<-Cj,Hc];(conv=>whnf)
   (repeat' ((first|(apply B5;omega)|fail)<;>conv=>whnf))
   refine B5 ⟨rfl,by rw[List.length_map];omega⟩ ?_;refine iU (i:=i) (by omega) (by rw[List.length_set,List.length_set];omega) ?_;rw[show 0+((i:Int)).toNat=i by omega,List.set_set,List.set_set];(conv=>whnf)
   (repeat' ((first|(apply BG;omega)|fail)<;>conv=>whnf))
   exact CZ [] (jh (j+1) (by omega) (by omega))
  have ej:j=n:=by omega
  clear jh;rw[ej,zT (by omega),j8];(repeat' ((first|(apply A9<;>intro hc<;>try omega)|(apply BG;omega)|apply BT|apply A2)<;>conv=>whnf))
  exact CZ [] (ih (i+1) (by omega) (by omega))
 have ei:i=n:=by omega
 clear ih;rw[ei,xN (by omega)];(repeat' ((first|(apply A9<;>intro hc<;>try omega)|apply BT|apply A2)<;>conv=>whnf))
 refine WX (λ_=>rfl) rfl (by omega) ?_;(conv=>whnf)
 exact BV rfl (Abn Q)
theorem AqL {n k:Nat} {a:List (List Rat)} (hs:Sq n a) (ha:Ms k a) (hn:n<=4) (hk:k<=100000) (i:Nat) (hi:i<=7):Ms 300000000 (EJ n a i):=by
 obtain ⟨D,_,d1,d2,d3⟩:=lN hs ha;have Cf:n*n<=4*4:=Nat.mul_le_mul hn hn;have Gl:n*n*k<=16*k:=zR k Cf;have hw:=rH hs hn d3 i;have hwk:=Ahi (k:=k) i hi;have h2:2^i<=2^7:=Nat.pow_le_pow_right (by omega) hi;have hdd:D^2^i<=2^(2^i*(16*k)):=by
  have h3:D<=2^(16*k):=Nat.le_trans d2 (Nat.pow_le_pow_right (by omega) Gl);have:=Nat.pow_le_pow_left h3 (2^i)
  rwa [<-Nat.pow_mul,Nat.mul_comm]at this
 have h4:2^i*(16*k)<=300000000:=Nat.le_trans (zR (16*k) h2) (by omega);have h5:JF k i<=300000000:=by omega
 intro r hr x hx;generalize 300000000=K at *;refine Abd (S:=D^2^i) (Nat.pow_pos d1) (Nat.le_trans hdd (Nat.pow_le_pow_right (by omega) h4)) ?_;have:=hw (r.map (· * HE (D:Rat) i)) (List.mem_map.2 ⟨r,hr,rfl⟩) _ (List.mem_map.2 ⟨x,hx,rfl⟩)
 rw[AbX]at this;exact this.le h5
theorem Ac2 (N:cb L) (q q':Bool) (a:List (List Rat)) (n k:Nat) (hs:Sq n a) (ha:Ms k a) (hn:n<=4) (hk:k<=100000) :
  ∃ v,Ev L 314 [.sl q (MH q' a)] v/\((∃ i,i<=6/\LG n a i/\v = .g8 [.int .i64 ((2^i:Nat):Int),.int .i64 0])\/((∀ j,j<=6->G0 (EJ n a j)=false)/\v = .g8 [.int .i64 0,.int .i64 14])):=by
 have gq:=hs.l;have hq:=AmQ N q q' a n hs (by omega);have hF:=oP N.toa6 1 2 (by omega) (by omega);have hb : ∀ i,i<=7->Ms 300000000 (EJ n a i):=λ i hi=>AqL hs ha hn hk i hi
 have hZ:=λ(i:Nat) (q q':Bool) (hi:i<=6)=>AmR N q q' (EJ n a i) n 300000000 (aH hs i) (hb i (by omega)) hn (by omega)
 have hh:Bt 2 (Rat.divInt 1 2):=Bt.mk (k:=2) (z:=1) (d:=2) (by decide) (by decide);have Ur:Rat.divInt 1 2=1/2:=by decide +kernel
 have hC : ∀ i r,i<=6->r∈EJ n a i->Ev L 127 [.agg (eQ (DB r)),.agg (eQ (Rat.divInt 1 2))] (.int .i64 (v9 (DB r-1/2).num)):=λ i r hi hr=>by
  have hz:Bt (4*(300000000+1)) (DB r):=(XW (hb i (by omega) r hr)).le (zR _ (by rw[(aH hs i).r r hr];exact hn));have:=oL N.toa6 hz hh (by omega) (by omega)
  rwa [Ur]at this ⊢
 refine Ev.xE N.VV rfl rfl ?_;(repeat' ((first|apply A2|refine AP (hq) ?_)<;>conv=>whnf))
 refine IX (λ i _=>7-i) (λ(i:Nat) (fl:Bool)=>i<=7/\(fl=true->i=0) /\ ∀ j,j<i->G0 (EJ n a j)=false) (λ i fl=>[(4,.int .i64 ((2^i:Nat):Int)),(0,bif fl then .sl q (MH q' a) else .sl false (eM (EJ n a i)))]) (λ_ _=>[]) 0 true ⟨by omega,λ_=>rfl,λ j hj=>absurd hj (by omega)⟩ ?_;intro i fl ⟨p1,p2,p3⟩ ih;by_cases h7:i=7
 ·have e7:((2^i:Nat):Int)=128:=by rw[h7];rfl
  rw[e7];have tv : ∀ j,j<=6->G0 (EJ n a j)=false:=λ j hj=>p3 j (by omega)
  (repeat' ((first|(apply A9<;>intro hc<;>try omega)|apply A2)<;>conv=>whnf))
  exact ⟨_,BV rfl (by simp [B3,EC]),Or.inr ⟨tv,rfl⟩⟩
 obtain ⟨g1,g2,g3⟩:=YY (i:=i) (by omega);have xb:((2^(i+1):Nat):Int)=2*((2^i:Nat):Int):=by rw[Nat.pow_succ];omega
 have Ml:=(aH hs i).l;have zh:G0 (EJ n a i)=true->LG n a i:=λ h=>⟨h,p3⟩
 have fm:G0 (EJ n a i)=false -> ∀ j,j<i+1->G0 (EJ n a j)=false:=λ h j hj=>by
  by_cases e:j=i
  ·rw[e];exact h
  ·exact p3 j (by omega)
 have Rs:=λ r=>hC i r (by omega)
 have Te:=λ q q'=>hZ i q q' (by omega)
 have Kj:=λ q r (hr:r∈EJ n a i)=>Ac3 N q r 300000000 (hb i (by omega) r hr) (by rw[(aH hs i).r r hr];omega) (by omega)
 have z0 : ∀ r:AV,LG n a i->r = .g8 [.int .i64 ((2^i:Nat):Int),.int .i64 0]->((∃ i,i<=6/\LG n a i/\r = .g8 [.int .i64 ((2^i:Nat):Int),.int .i64 0])\/((∀ j,j<=6->G0 (EJ n a j)=false)/\r = .g8 [.int .i64 0,.int .i64 14])):=λ r h hr=>Or.inl ⟨i,by omega,h,hr⟩
 have sj : ∀ (m:Nat) (r:List Rat),(EJ n a i)[m]? = some r->G0 ((EJ n a i).take (m+1))=(G0 ((EJ n a i).take m)&&decide (DB r<=1/2)):=λ m r hr=>by
  rw[OG hr,G0,G0,List.all_append];simp
 cases fl
 ·skip
  generalize 2^i=P at *;(repeat' ((first|(apply A9<;>intro hc<;>try omega)|apply A2)<;>conv=>whnf))
  refine IX (λ m _=>n-m) (λ(m:Nat) (b:Bool)=>m<=n/\b=G0 ((EJ n a i).take m)) (λ m b=>[(6,.int .i64 m),(5,.bool b)]) (λ_ _=>[]) 0 true ⟨by omega,rfl⟩ ?_;intro m b ⟨r1,r2⟩ mh;by_cases hm:m<n
  ·obtain ⟨r,hr⟩ : ∃ r,(EJ n a i)[m]? = some r:=⟨_,zE (by omega)⟩
   have vg:(EJ n a i)[(m:Int).toNat]? = some r:=hr;have oa:=zM hr;have ht:=sj m r hr;rw[<-r2]at ht;cases b
   ·(repeat' ((first|(apply A9<;>intro hc<;>try omega)|(apply BG;omega)|apply BT|apply A2)<;>conv=>whnf))
    exact CZ [] (mh (m+1) false (by omega) ⟨by omega,by rw[ht];rfl⟩)
   ·have ur:=λ q=>Kj q r oa
    have uo:=Rs r oa;have hg:=XV (x:=DB r) (y:=1/2);by_cases h:DB r<=1/2
    ·have h1 : ¬ 0<v9 (DB r-1/2).num:=λ e=>by have:=hg.1 e;grind
     rw[decide_eq_true h]at ht;clear hg;generalize v9 (DB r-1/2).num=g at *;(repeat' ((first|(apply A9<;>intro hc<;>try omega)|(apply BG;omega)|apply BT|(refine CN (by assumption) ?_ rfl ?_;omega)|apply A2|refine AP (ur _) ?_|refine AP (hF) ?_|refine AP (uo) ?_)<;>conv=>whnf))
     exact CZ [] (mh (m+1) true (by omega) ⟨by omega,by rw[ht];rfl⟩)
    ·have h1:0<v9 (DB r-1/2).num:=hg.2 (by grind)
     rw[decide_eq_false h]at ht;clear hg;generalize v9 (DB r-1/2).num=g at *;(repeat' ((first|(apply A9<;>intro hc<;>try omega)|(apply BG;omega)|apply BT|(refine CN (by assumption) ?_ rfl ?_;omega)|apply A2|refine AP (ur _) ?_|refine AP (hF) ?_|refine AP (uo) ?_)<;>conv=>whnf))
     exact CZ [] (mh (m+1) false (by omega) ⟨by omega,by rw[ht];rfl⟩)
  have em:m=n:=by omega
  clear mh;rw[em,zT (by omega)]at r2;cases b
  ·(repeat' ((first|(apply A9<;>intro hc<;>try omega)|(apply I8;omega)|apply BT|apply A2|refine AP (Te _ _) ?_)<;>conv=>whnf))
   rw[<-xb];exact CZ [] (ih (i+1) false (by omega) ⟨by omega,(λ h=>by cases h),fm r2.symm⟩)
  ·(repeat' ((first|(apply A9<;>intro hc<;>try omega)|apply BT|apply A2)<;>conv=>whnf))
   exact ⟨_,BV rfl (by simp [B3,EC]),z0 _ (zh r2.symm) rfl⟩
 ·obtain rfl:=p2 rfl
  have e0:EJ n a 0=a:=rfl;rw[e0]at zh fm Rs Te Kj sj Ml;generalize 2^0=P at *;(repeat' ((first|(apply A9<;>intro hc<;>try omega)|apply A2)<;>conv=>whnf))
  refine IX (λ m _=>n-m) (λ(m:Nat) (b:Bool)=>m<=n/\b=G0 (a.take m)) (λ m b=>[(6,.int .i64 m),(5,.bool b)]) (λ_ _=>[]) 0 true ⟨by omega,rfl⟩ ?_;intro m b ⟨r1,r2⟩ mh;by_cases hm:m<n
  ·obtain ⟨r,hr⟩ : ∃ r,a[m]? = some r:=⟨_,zE (by omega)⟩
   have vg:a[(m:Int).toNat]? = some r:=hr;have oa:=zM hr;have ht:=sj m r hr;rw[<-r2]at ht;cases b
   ·(repeat' ((first|(apply A9<;>intro hc<;>try omega)|(apply BG;omega)|apply BT|apply A2)<;>conv=>whnf))
    exact CZ [] (mh (m+1) false (by omega) ⟨by omega,by rw[ht];rfl⟩)
   ·have ur:=λ q=>Kj q r oa
    have uo:=Rs r oa;have hg:=XV (x:=DB r) (y:=1/2);by_cases h:DB r<=1/2
    ·have h1 : ¬ 0<v9 (DB r-1/2).num:=λ e=>by have:=hg.1 e;grind
     rw[decide_eq_true h]at ht;clear hg;generalize v9 (DB r-1/2).num=g at *;(repeat' ((first|(apply A9<;>intro hc<;>try omega)|(apply BG;omega)|apply BT|(refine CN (by assumption) ?_ rfl ?_;omega)|apply A2|refine AP (ur _) ?_|refine AP (hF) ?_|refine AP (uo) ?_)<;>conv=>whnf))
     exact CZ [] (mh (m+1) true (by omega) ⟨by omega,by rw[ht];rfl⟩)
    ·have h1:0<v9 (DB r-1/2).num:=hg.2 (by grind)
     rw[decide_eq_false h]at ht;clear hg;generalize v9 (DB r-1/2).num=g at *;(repeat' ((first|(apply A9<;>intro hc<;>try omega)|(apply BG;omega)|apply BT|(refine CN (by assumption) ?_ rfl ?_;omega)|apply A2|refine AP (ur _) ?_|refine AP (hF) ?_|refine AP (uo) ?_)<;>conv=>whnf))
     exact CZ [] (mh (m+1) false (by omega) ⟨by omega,by rw[ht];rfl⟩)
  have em:m=n:=by omega
  clear mh;rw[em,zT (by omega)]at r2;cases b
  ·(repeat' ((first|(apply A9<;>intro hc<;>try omega)|(apply I8;omega)|apply BT|apply A2|refine AP (Te _ _) ?_)<;>conv=>whnf))
   rw[<-xb];exact CZ [] (ih (0+1) false (by omega) ⟨by omega,(λ h=>by cases h),fm r2.symm⟩)
  ·(repeat' ((first|(apply A9<;>intro hc<;>try omega)|apply BT|apply A2)<;>conv=>whnf))
   exact ⟨_,BV rfl (by simp [B3,EC]),z0 _ (zh r2.symm) rfl⟩
theorem lW {k:Nat} {f:Nat->Rat} : ∀ m,(∀ j,j<m->Bt k (f j))->Bt (m*(k+1)) (ES f m)
 | 0,_=>Bt.zero _
 | m+1,h=>by
  have h1:=lW m λ j hj=>h j (by omega)
  refine (h1.add (h m (by omega))).le ?_;rw[Nat.succ_mul];omega
def O0 (S:FQ) (p k:Nat):Rat:=CU S.d+(ES (KF S.a S.b S.c) k+DB S.c*ES (λ j=>JY S.a S.b (p+j)) (k-p))
theorem Aq3 {S:FQ} {p k:Nat} (h:k<p):O0 S p k+KF S.a S.b S.c k=O0 S p (k+1):=by
 rw[O0,O0,show k+1-p=0 by omega,show k-p=0 by omega];simp only[ES];grind
theorem Aq2 {S:FQ} {p k:Nat} (h:p<=k):O0 S p k+KF S.a S.b S.c k+DB S.c*E6 (GH S.a S.b k)=O0 S p (k+1):=by
 rw[O0,O0,show k+1-p=(k-p)+1 by omega];have e:JY S.a S.b (p+(k-p))=E6 (GH S.a S.b k):=by rw[show p+(k-p)=k by omega];rfl
 simp only[ES,e];grind
theorem Aq1 (S:FQ) (p:Nat):O0 S p (p+p)=H3 S p:=by rw[O0,H3,show p+p-p=p by omega]
theorem AmS (N:cb L) (S:FQ) (n k:Nat) (hS:S.Ok n k) (hn:n<=4) (hk:k<=40000) :
  ∃ v,Ev L 315 [.agg (eS S)] v/\((∃ i,i<=6/\LG n S.a i/\v = .g8 [.agg (eQ (H3 S (2^i))),.int .i64 0])\/((∀ j,j<=6->G0 (EJ n S.a j)=false)/\v = .g8 [.agg [.bool false,.sl false [],.sl false []],.int .i64 14])):=by
 have Mk:=AlU N.ton7 S n k hS (by omega);have Ay:=hS.la;have Ga:=hS.lb;have ke:=hS.lc;have Ar:Sq n S.a:=⟨hS.la,hS.lr⟩;obtain ⟨v,hP,hv⟩:=Ac2 N false false S.a n k Ar hS.ba hn (by omega);refine Ev.xE N.VY rfl rfl ?_;rcases hv with ⟨i,h1,h2,rfl⟩|⟨h1,rfl⟩
 ·obtain ⟨g1,_,g3⟩:=YY h1
  have Nm:=oQ N hS.bd (by omega);have z0 : ∀ r:AV,r = .g8 [.agg (eQ (H3 S (2^i))),.int .i64 0]->((∃ i,i<=6/\LG n S.a i/\r = .g8 [.agg (eQ (H3 S (2^i))),.int .i64 0])\/((∀ j,j<=6->G0 (EJ n S.a j)=false)/\r = .g8 [.agg [.bool false,.sl false [],.sl false []],.int .i64 14])):=λ r hr=>Or.inl ⟨i,h1,h2,hr⟩
  have uc:=Aq1 S (2^i);generalize 2^i=p at *;have Ba : ∀ j,j<=128->Bs 90000000 (GH S.a S.b j):=λ j hj=>(Ag1 Ar hS.lb hS.ba hS.bb j).le (by have:=Qz (n:=n) (k:=k) hn hj;omega)
  have iw : ∀ j,(GH S.a S.b j).length=n:=iG Ay Ga;have br : ∀ j,j<=128->Bt (4*(k+90000000+1)) (CI S.c (GH S.a S.b j)):=λ j hj=>(hS.bc.dot (Ba j hj)).le (zR _ (by omega))
  have kn:Bt (4*(k+1)) (DB S.c):=(XW hS.bc).le (zR _ (by omega));have hKb : ∀ j,j<=128->Bt 100000000000 (O0 S p j):=λ j hj=>by
   have q1:=(lW (f:=KF S.a S.b S.c) (k:=370000000) j λ t ht=>(ME (br t (by omega))).le (by omega)).le (zR _ hj);have q2:=(lW (f:=λ t=>JY S.a S.b (p+t)) (k:=90000000) (j-p) λ t ht=>XG (Ba (p+t) (by omega))).le (zR _ (show j-p<=128 by omega));exact ((ME hS.bd).add (q1.add (kn.mul q2))).le (by omega)
  have Kj:=λ q=>Ac3 N q S.c k hS.bc (by omega) (by omega)
  have uz:O0 S p 0=CU S.d:=by rw[O0,show 0-p=0 by omega];simp only[ES];grind
  (repeat' ((first|(apply A9<;>intro hc<;>try omega)|apply BT|apply A2|refine AP (Mk) ?_|refine AP (hP) ?_|refine AP (Nm) ?_)<;>conv=>whnf))
  refine G6 (λ j=>p+p-j) (λ(j:Nat)=>j<=p+p) (λ j=>[(8,.int .i64 j),(7,.sl false ((GH S.a S.b j).map eQ))]) (λ j=>[(6,6,.bx (eQ (O0 S p j)))]) [] [] 0 (by rw[uz];exact (by (conv=>whnf);exact ⟨rfl,rfl,rfl⟩)) (by omega) ?_;intro j t1 jh;by_cases hj:j<p+p
  ·have hI:=λ q q'=>Acw N.ton7 S.c (GH S.a S.b j) q q' k 90000000 (by rw[iw];exact ke) hS.bc (Ba j (by omega)) (by rw[ke];have:=zR (k+90000000+1) hn;omega) (by omega)
   have hA:=oQ N (br j (by omega)) (by omega);have Sl:=YK N.toa6 (hKb j (by omega)) (ME (br j (by omega))) (by omega) (by omega);have hT:=λ q1 q2 q3=>AlV N.ton7 S.a (GH S.a S.b j) q1 q2 q3 n k 90000000 Ar (iw j) hS.ba (Ba j (by omega)) hn (by omega)
   have hT' : ∀ q1 q2 q3,Ev L 138 [.sl q1 (MH q3 S.a),.sl q2 ((GH S.a S.b j).map eQ)] (.sl false ((GH S.a S.b (j+1)).map eQ)):=hT;clear hT;by_cases Uz:p<=j
   ·have hG:=λ q=>AmK N q (GH S.a S.b j) 90000000 (Ba j (by omega)) (by rw[iw];omega) (by omega)
    have hM:=bQ N.toa6 kn (XG (Ba j (by omega))) (by omega) (by omega);have hs:=Aq2 (S:=S) Uz;have hf:KF S.a S.b S.c j=CU (CI S.c (GH S.a S.b j)):=rfl;rw[hf]at hs;have Hs:=YK N.toa6 ((hKb j (by omega)).add (ME (br j (by omega)))) (kn.mul (XG (Ba j (by omega)))) (by omega) (by omega);rw[hs]at Hs;(repeat' ((first|(apply A9<;>intro hc<;>try omega)|(apply BG;omega)|(apply I8;omega)|apply A2|refine AP (hI _ _) ?_|refine AP (hA) ?_|refine AP (Sl) ?_|refine AP (Kj _) ?_|refine AP (hG _) ?_|refine AP (hM) ?_|refine AP (Hs) ?_|refine AP (hT' _ _ _) ?_)<;>conv=>whnf))
    exact CZ [] (jh (j+1) (by omega) (by omega))
   ·have hs:=Aq3 (S:=S) (p:=p) (k:=j) (by omega)
    have hf:KF S.a S.b S.c j=CU (CI S.c (GH S.a S.b j)):=rfl;rw[hf]at hs;rw[hs]at Sl;(repeat' ((first|(apply A9<;>intro hc<;>try omega)|(apply BG;omega)|(apply I8;omega)|apply A2|refine AP (hI _ _) ?_|refine AP (hA) ?_|refine AP (Sl) ?_|refine AP (hT' _ _ _) ?_)<;>conv=>whnf))
    exact CZ [] (jh (j+1) (by omega) (by omega))
  have ej:j=p+p:=by omega
  clear jh;rw[ej,uc];(repeat' ((first|(apply A9<;>intro hc<;>try omega)|(apply I8;omega)|apply A2)<;>conv=>whnf))
  exact ⟨_,BV rfl (jB _ 0),z0 _ rfl⟩
 ·(repeat' ((first|(apply A9<;>intro hc<;>try omega)|apply BT|apply A2|refine AP (Mk) ?_|refine AP (hP) ?_)<;>conv=>whnf))
  exact ⟨_,BV rfl (by simp [B3,EC,IH]),Or.inr ⟨h1,rfl⟩⟩
end Go.b8
namespace Go.b8
theorem QD {es:List (List AV)} {i j n:Nat} {K:List AV->Prop} {cs ds:List AV} (h:es[i]? = some cs) (hp:part cs j n=some ds) (hk:K ds):C1 es i j n K:=by
 unfold C1;exact ⟨cs,ds,h,hp,hk⟩
theorem ZL {es:List (List AV)} {i j:Nat} {vs cs:List AV} {K:List (List AV)->Prop} (h:es[i]? = some cs) (hl:Nat.ble (j+vs.length) cs.length=true) (hk:K (es.set i (splice cs j vs))):CK es i j vs K:=by
 unfold CK;exact ⟨cs,h,Nat.le_of_ble_eq_true hl,hk⟩
theorem WY {es:List (List AV)} {off len:Nat} {K:List (List AV)->Prop} (h:Nat.ble (off+len) es.length=true) (hz:es.all J0=true) (hk:K ((es.drop off).take len)):B2 es off len K :=
 iV (Nat.le_of_ble_eq_true h) (λ e he=>List.all_eq_true.1 hz e he) hk
theorem sF {es:List (List AV)} {K:Nat->Prop} (n:Nat) (hn:es.length=n) (h:K n):BK es K:=⟨hn ▸ h⟩
theorem IE {rows:List (Option (Nat × List (List AV)))} {len bytes:Nat} {r:Option (Nat × List (List AV))} {K:List (Option (Nat × List (List AV)))->Nat->Prop} (n:Nat) (hn:n=len+1) (hl:len=rows.length) (hr:Nat.ble (n*bytes) 140737488355328=true) (ct:Nat.ble n 9223372036854775807=true) (h:K (rows++[r]) n):EG rows len r bytes K:=by
 subst hn;exact ⟨hl,by simpa [I3] using Nat.le_of_ble_eq_true hr,Nat.le_of_ble_eq_true ct,h⟩
theorem M7 {es ys:List (List AV)} {len z bytes:Nat} {K:List (List AV)->Nat->Prop} (n:Nat) (hn:n=len+ys.length) (hl:Nat.ble len es.length=true) (hz:ys.all (λ e=>Nat.beq e.length z)=true) (hr:Nat.ble (n*bytes) 140737488355328=true) (ct:Nat.ble n 9223372036854775807=true) (h:K (es.take len++ys) n):DE es len ys z bytes K:=by
 subst hn;exact ⟨Nat.le_of_ble_eq_true hl,λ e he=>Nat.eq_of_beq_eq_true (List.all_eq_true.1 hz e he),by simpa [I3] using Nat.le_of_ble_eq_true hr,Nat.le_of_ble_eq_true ct,h⟩
theorem Yy {β:Type} {rows:List (Option (Nat × List (List AV)))} {z:Nat} {en:β->List AV} {q:Bool} {off len:Nat} {K:List (List AV)->Prop} (ll:List (List β)) (hr:rows=HA z en ll) (hz : ∀ x,J0 (en x)=true) (ho:off=0) (hl:len=ll.length) (h:K (ll.map λ r=>[AV.sl q (r.map en)])):FK q rows off len K:=by
 subst hr;exact WX hz ho hl h
theorem J3 {es:List (List AV)} {a:Int} {z:Nat} {K:List AV->Prop} {cs:List AV} (i:Nat) (ha:a=i) (h:es[i]? = some cs) (hz:cs.length=z) (hk:K cs):BR es a z K:=by
 subst ha;unfold BR;exact ⟨by omega,cs,h,hz,hk⟩
end Go.b8

namespace Go.b8
open F
attribute [local irreducible] AJ A3 BU AU FE BR C1 CK DS DE FA G7 DR B2 EH E5 AL CQ BC pw FM E2 F7 G8 GX EG FK EE FZ
variable {L:Lib}
set_option maxHeartbeats 8000000
set_option maxRecDepth 8000
theorem Amb (I:c5 L) (N:bp L) (k v:List Int) (q1 q2:Bool) (c:Wd) (hc:WV c) (l1:k.length<=8) (l2:v.length=k.length+1) (hv : ∀ x∈v,FT c x) (hk : ∀ x∈k,FT c x/\FT c (-x)) (hu : ∀ x∈k,-pw c.f<x/\x<pw c.f) :
  Ev L 345 [.sl q1 (k.map DT),.sl q2 (v.map DT),.agg (JP c)] (.int .i64 0):=by
 have Ii : ∀ x∈k,-16777216<=x/\x<=16777216:=λ x hx=>by
  obtain ⟨_,e1,e2⟩:=(hk x hx).1;obtain ⟨h1,h2,h3,h4⟩:=RQ hc;omega
 have y5:=hc;unfold WV at y5;have Pk:=PC (n:=c.f) (m:=23) (by omega);have zu:pw 23=8388608:=by unfold pw;rfl
 have xb:=HY c.f;refine Ev.x N.RM rfl rfl ?_;(repeat' ((first|(apply A9<;>intro hc<;>try omega)|(apply BG;omega)|apply BT|apply A2|refine HV (XD ⟨_,_,_,_⟩ I) (λ hf => ?_) (λ hf => ?_))<;>conv=>whnf))
 all_goals try (exact absurd hc (by assumption))
 refine G5 (λ i=>v.length-i) (λ(i:Nat)=>i<=v.length) (λ i=>[(29,.int .i64 i)]) (λ_=>[]) 0 (by omega) ?_;intro i p1 ih;(repeat' ((first|(apply A9<;>intro hc<;>try omega)|(apply BG;omega)|apply BT|(refine MD ?_ (λ_=>rfl) (λ e he => ?_);omega)|apply A2|refine HV (XC ⟨_,_,_,_⟩ I _) (λ hf => ?_) (λ hf => ?_))<;>conv=>whnf))
 ·exact CZ [] (ih (i+1) (by omega) (by omega))
 ·exact absurd (hv _ (zM he)) hf
 refine G5 (λ i=>k.length-i) (λ(i:Nat)=>i<=k.length) (λ i=>[(40,.int .i64 i)]) (λ_=>[]) 0 (by omega) ?_;intro i p1 ih;(repeat' ((first|(apply A9<;>intro hc<;>try omega)|apply BT|(refine MD ?_ (λ_=>rfl) (λ e he => ?_);omega)|apply A2|refine HV (XC ⟨_,_,_,_⟩ I _) (λ hf => ?_) (λ hf => ?_))<;>conv=>whnf))
 ·have hfe:=Ii _ (zM he)
  (repeat' ((first|(apply BG;omega)|(apply FE.neg;omega)|refine HV (XC ⟨_,_,_,_⟩ I _) (λ hf => ?_) (λ hf => ?_))<;>conv=>whnf))
  ·exact CZ [] (ih (i+1) (by omega) (by omega))
  ·exact absurd (hk _ (zM he)).2 hf
 ·exact absurd (hk _ (zM he)).1 hf
 refine G5 (λ i=>k.length-i) (λ(i:Nat)=>i<=k.length) (λ i=>[(58,.int .i64 i)]) (λ_=>[]) 0 (by omega) ?_;intro i p1 ih;by_cases hi:i<k.length
 ·obtain ⟨x,hx⟩ : ∃ x,k[i]? = some x:=⟨_,zE hi⟩
  have nr:k[(i:Int).toNat]? = some x:=hx;have hfe:=Ii _ (zM hx);have hue:=hu _ (zM hx);(repeat' ((first|(apply A9<;>intro hc<;>try omega)|(apply BG;omega)|(refine IY ?_ (λ_ _ => ?_);omega)|(apply FE.neg;omega)|(refine CN (by assumption) ?_ rfl ?_;omega)|apply A2)<;>conv=>whnf))
  all_goals exact CZ [] (ih (i+1) (by omega) (by omega))
 ·(repeat' ((first|(apply A9<;>intro hc<;>try omega)|apply A2)<;>conv=>whnf))
  exact ET rfl
def I2 (k v:List Int) (d c:Wd):Nt :=
 ⟨d,c,(k.length:Int),false,match k with
  | [x]=>[⟨false,[(0,pw c.f),(1,-x)]⟩,⟨false,[(2,x),(1,pw c.f)]⟩,⟨false,[(2,v.getD 0 0),(3,v.getD 1 0)]⟩]
  | [x,y]=>[⟨false,[(0,pw c.f),(2,-y)]⟩,⟨false,[(3,pw c.f),(1,-x)]⟩,⟨false,[(4,x),(1,pw c.f)]⟩,⟨false,[(3,y),(2,pw c.f)]⟩,⟨false,[(4,v.getD 0 0),(5,v.getD 1 0),(6,v.getD 2 0)]⟩]
  | _=>[⟨false,[(0,v.getD 0 0)]⟩],false,match k with
  | [_]=>[2]
  | [_,_]=>[4,5]
  | _=>[],3*(k.length:Int)+1⟩
theorem Ama (I:c5 L) (N:bp L) (k v:List Int) (q1 q2:Bool) (d c:Wd) (hd:WV d) (hc:WV c) (l1:k.length<=2) (l2:v.length=k.length+1) (hv : ∀ x∈v,FT c x) (hk : ∀ x∈k,FT c x/\FT c (-x)) (hu : ∀ x∈k,-pw c.f<x/\x<pw c.f) :
  Ev L 346 [.sl q1 (k.map DT),.sl q2 (v.map DT),.agg (JP d),.agg (JP c)] (.g8 [.agg (FS (I2 k v d c)),.int .i64 0]):=by
 have hw:=λ q q'=>Amb I N k v q q' c hc (by omega) l2 hv hk hu
 have y5:=hc;unfold WV at y5;have Pk:=PC (n:=c.f) (m:=23) (by omega);have zu:pw 23=8388608:=by unfold pw;rfl
 have xb:=HY c.f;have Ii : ∀ x∈k,-16777216<=x/\x<=16777216:=λ x hx=>by
  obtain ⟨_,e1,e2⟩:=(hk x hx).1;obtain ⟨h1,h2,h3,h4⟩:=RQ hc;omega
 refine Ev.x N.RL rfl rfl ?_;rcases k with _|⟨x,_|⟨y,_|⟨z,k⟩⟩⟩
 ·rcases v with _|⟨a,_|⟨b,v⟩⟩
  ·simp at l2
  ·simp only[List.map_cons,List.map_nil]at hw ⊢
   (repeat' ((first|(apply A9<;>intro hc<;>try omega)|apply A2|refine HV (XD ⟨_,_,_,_⟩ I) (λ hf => ?_) (λ hf => ?_)|refine AP (hw _ _) ?_)<;>conv=>whnf))
   all_goals try (exact absurd hd (by assumption))
   refine sF 0 rfl ?_;(conv=>whnf)
   (repeat' ((first|(refine IY ?_ (λ_ _ => ?_);omega)|fail)<;>conv=>whnf))
   refine GJ (enc:=DT) 0 0 rfl (by omega) (by omega) ?_;(conv=>whnf)
   (repeat' ((first|(apply BG;omega)|(apply I8;omega))<;>conv=>whnf))
   refine GJ (enc:=DT) 0 1 rfl (by omega) (by omega) ?_;(conv=>whnf)
   skip
   refine JN ?_;(repeat' ((first|(apply A9<;>intro hc<;>try omega)|(apply BG;omega)|apply A2)<;>conv=>whnf))
   refine GJ (enc:=DT) 0 1 rfl (by omega) (by omega) ?_;(conv=>whnf)
   (repeat' ((first|(apply B5;omega)|fail)<;>conv=>whnf))
   repeat (
    (repeat' ((first|(apply A9<;>intro hc<;>try omega)|(apply B5;omega)|apply A2)<;>conv=>whnf))
    (first|refine QD rfl rfl ?_|refine ZL rfl rfl ?_|refine J3 0 (by omega) rfl rfl ?_|refine J3 1 (by omega) rfl rfl ?_|refine J3 2 (by omega) rfl rfl ?_|refine IE 2 rfl rfl rfl rfl ?_|refine IE 3 rfl rfl rfl rfl ?_|refine IE 4 rfl rfl rfl rfl ?_|refine IE 5 rfl rfl rfl rfl ?_|refine M7 2 rfl rfl rfl rfl rfl ?_|refine M7 3 rfl rfl rfl rfl rfl ?_|refine B5 rfl ?_|refine B5 ⟨rfl,by decide⟩ ?_|refine WY rfl rfl ?_|refine JN ?_)
    (conv=>whnf))
   skip
   refine WX (z:=2) (en:=MI) (ll:=[[(0,a)]]) (λ_=>rfl) rfl rfl ?_;(conv=>whnf)
   repeat (
    (repeat' ((refine FO (λ_=>rfl) rfl ?_ ?_;(first|rfl|simp))<;>conv=>whnf))
    (first|refine QD rfl rfl ?_|refine ZL rfl rfl ?_|refine J3 0 (by omega) rfl rfl ?_|refine J3 1 (by omega) rfl rfl ?_|refine J3 2 (by omega) rfl rfl ?_|refine IE 2 rfl rfl rfl rfl ?_|refine IE 3 rfl rfl rfl rfl ?_|refine IE 4 rfl rfl rfl rfl ?_|refine IE 5 rfl rfl rfl rfl ?_|refine M7 2 rfl rfl rfl rfl rfl ?_|refine M7 3 rfl rfl rfl rfl rfl ?_|refine B5 rfl ?_|refine B5 ⟨rfl,by decide⟩ ?_|refine WY rfl rfl ?_|refine JN ?_)
    (conv=>whnf))
   (repeat' ((refine FO (λ_=>rfl) rfl ?_ ?_;(first|rfl|simp))<;>conv=>whnf))
   exact BV rfl (gC (I2 [] [a] d c) rfl rfl (by simp [I2]))
  ·simp at l2
 ·rcases v with _|⟨a,_|⟨b,_|⟨e,v⟩⟩⟩
  ·simp at l2
  ·simp at l2
  ·have hx:=Ii x (by simp)
   simp only[List.map_cons,List.map_nil]at hw ⊢;(repeat' ((first|(apply A9<;>intro hc<;>try omega)|apply A2|refine HV (XD ⟨_,_,_,_⟩ I) (λ hf => ?_) (λ hf => ?_)|refine AP (hw _ _) ?_)<;>conv=>whnf))
   all_goals try (exact absurd hd (by assumption))
   refine sF 1 rfl ?_;(conv=>whnf)
   (repeat' ((first|(refine IY ?_ (λ_ _ => ?_);omega)|fail)<;>conv=>whnf))
   refine GJ (enc:=DT) 0 1 rfl (by omega) (by omega) ?_;(conv=>whnf)
   (repeat' ((first|(apply BG;omega)|(apply I8;omega))<;>conv=>whnf))
   refine GJ (enc:=DT) 0 2 rfl (by omega) (by omega) ?_;(conv=>whnf)
   skip
   repeat (
    (repeat' ((first|(apply A9<;>intro hc<;>try omega)|(apply B5;omega)|(apply BG;omega)|(apply DQ;omega)|(apply FE.neg;omega)|apply A2)<;>conv=>whnf))
    (first|refine QD rfl rfl ?_|refine ZL rfl rfl ?_|refine J3 0 (by omega) rfl rfl ?_|refine J3 1 (by omega) rfl rfl ?_|refine J3 2 (by omega) rfl rfl ?_|refine IE 2 rfl rfl rfl rfl ?_|refine IE 3 rfl rfl rfl rfl ?_|refine IE 4 rfl rfl rfl rfl ?_|refine IE 5 rfl rfl rfl rfl ?_|refine M7 2 rfl rfl rfl rfl rfl ?_|refine M7 3 rfl rfl rfl rfl rfl ?_|refine B5 rfl ?_|refine B5 ⟨rfl,by decide⟩ ?_|refine WY rfl rfl ?_|refine JN ?_)
    (conv=>whnf))
   (repeat' ((first|(apply A9<;>intro hc<;>try omega)|(apply BG;omega)|apply A2)<;>conv=>whnf))
   refine GJ (enc:=DT) 0 2 rfl (by omega) (by omega) ?_;(conv=>whnf)
   repeat (
    (repeat' ((first|(apply A9<;>intro hc<;>try omega)|(apply B5;omega)|(apply BG;omega)|(apply DQ;omega)|(apply I8;omega)|apply GY|apply A2)<;>conv=>whnf))
    (first|refine QD rfl rfl ?_|refine ZL rfl rfl ?_|refine J3 0 (by omega) rfl rfl ?_|refine J3 1 (by omega) rfl rfl ?_|refine J3 2 (by omega) rfl rfl ?_|refine IE 2 rfl rfl rfl rfl ?_|refine IE 3 rfl rfl rfl rfl ?_|refine IE 4 rfl rfl rfl rfl ?_|refine IE 5 rfl rfl rfl rfl ?_|refine M7 2 rfl rfl rfl rfl rfl ?_|refine M7 3 rfl rfl rfl rfl rfl ?_|refine B5 rfl ?_|refine B5 ⟨rfl,by decide⟩ ?_|refine WY rfl rfl ?_|refine JN ?_)
    (conv=>whnf))
   skip
   refine WX (z:=2) (en:=MI) (ll:=[[(0,pw c.f),(1,-x)],[(2,x),(1,pw c.f)],[(2,a),(3,b)]]) (λ_=>rfl) rfl rfl ?_;(conv=>whnf)
   repeat (
    (repeat' (refine J4 rfl ?_<;>conv=>whnf))
    (first|refine QD rfl rfl ?_|refine ZL rfl rfl ?_|refine J3 0 (by omega) rfl rfl ?_|refine J3 1 (by omega) rfl rfl ?_|refine J3 2 (by omega) rfl rfl ?_|refine IE 2 rfl rfl rfl rfl ?_|refine IE 3 rfl rfl rfl rfl ?_|refine IE 4 rfl rfl rfl rfl ?_|refine IE 5 rfl rfl rfl rfl ?_|refine M7 2 rfl rfl rfl rfl rfl ?_|refine M7 3 rfl rfl rfl rfl rfl ?_|refine B5 rfl ?_|refine B5 ⟨rfl,by decide⟩ ?_|refine WY rfl rfl ?_|refine JN ?_)
    (conv=>whnf))
   (repeat' (refine J4 rfl ?_<;>conv=>whnf))
   exact BV rfl (gC (I2 [x] [a,b] d c) rfl rfl (by simp [I2]))
  ·simp at l2
 ·rcases v with _|⟨a,_|⟨b,_|⟨e,_|⟨g,v⟩⟩⟩⟩
  ·simp at l2
  ·simp at l2
  ·simp at l2
  ·have hx:=Ii x (by simp)
   have hy:=Ii y (by simp);simp only[List.map_cons,List.map_nil]at hw ⊢;(repeat' ((first|(apply A9<;>intro hc<;>try omega)|apply A2|refine HV (XD ⟨_,_,_,_⟩ I) (λ hf => ?_) (λ hf => ?_)|refine AP (hw _ _) ?_)<;>conv=>whnf))
   all_goals try (exact absurd hd (by assumption))
   refine sF 2 rfl ?_;(conv=>whnf)
   (repeat' ((first|(refine IY ?_ (λ_ _ => ?_);omega)|fail)<;>conv=>whnf))
   refine GJ (enc:=DT) 0 2 rfl (by omega) (by omega) ?_;(conv=>whnf)
   (repeat' ((first|(apply BG;omega)|(apply I8;omega))<;>conv=>whnf))
   refine GJ (enc:=DT) 0 3 rfl (by omega) (by omega) ?_;(conv=>whnf)
   skip
   repeat (
    (repeat' ((first|(apply A9<;>intro hc<;>try omega)|(apply B5;omega)|(apply BG;omega)|(apply DQ;omega)|(apply FE.neg;omega)|apply A2)<;>conv=>whnf))
    (first|refine QD rfl rfl ?_|refine ZL rfl rfl ?_|refine J3 0 (by omega) rfl rfl ?_|refine J3 1 (by omega) rfl rfl ?_|refine J3 2 (by omega) rfl rfl ?_|refine IE 2 rfl rfl rfl rfl ?_|refine IE 3 rfl rfl rfl rfl ?_|refine IE 4 rfl rfl rfl rfl ?_|refine IE 5 rfl rfl rfl rfl ?_|refine M7 2 rfl rfl rfl rfl rfl ?_|refine M7 3 rfl rfl rfl rfl rfl ?_|refine B5 rfl ?_|refine B5 ⟨rfl,by decide⟩ ?_|refine WY rfl rfl ?_|refine JN ?_)
    (conv=>whnf))
   (repeat' ((first|(apply A9<;>intro hc<;>try omega)|(apply BG;omega)|apply A2)<;>conv=>whnf))
   refine GJ (enc:=DT) 0 3 rfl (by omega) (by omega) ?_;(conv=>whnf)
   repeat (
    (repeat' ((first|(apply A9<;>intro hc<;>try omega)|(apply B5;omega)|(apply BG;omega)|(apply DQ;omega)|(apply I8;omega)|apply GY|apply A2)<;>conv=>whnf))
    (first|refine QD rfl rfl ?_|refine ZL rfl rfl ?_|refine J3 0 (by omega) rfl rfl ?_|refine J3 1 (by omega) rfl rfl ?_|refine J3 2 (by omega) rfl rfl ?_|refine IE 2 rfl rfl rfl rfl ?_|refine IE 3 rfl rfl rfl rfl ?_|refine IE 4 rfl rfl rfl rfl ?_|refine IE 5 rfl rfl rfl rfl ?_|refine M7 2 rfl rfl rfl rfl rfl ?_|refine M7 3 rfl rfl rfl rfl rfl ?_|refine B5 rfl ?_|refine B5 ⟨rfl,by decide⟩ ?_|refine WY rfl rfl ?_|refine JN ?_)
    (conv=>whnf))
   skip
   refine Yy (z:=2) (en:=MI) [[(0,pw c.f),(2,-y)],[(3,pw c.f),(1,-x)],[(4,x),(1,pw c.f)],[(3,y),(2,pw c.f)],[(4,a),(5,b),(6,e)]] (by simp [HA]) (λ_=>rfl) rfl rfl ?_;(conv=>whnf)
   repeat (
    (repeat' (refine ON rfl rfl ?_<;>conv=>whnf))
    (first|refine QD rfl rfl ?_|refine ZL rfl rfl ?_|refine J3 0 (by omega) rfl rfl ?_|refine J3 1 (by omega) rfl rfl ?_|refine J3 2 (by omega) rfl rfl ?_|refine IE 2 rfl rfl rfl rfl ?_|refine IE 3 rfl rfl rfl rfl ?_|refine IE 4 rfl rfl rfl rfl ?_|refine IE 5 rfl rfl rfl rfl ?_|refine M7 2 rfl rfl rfl rfl rfl ?_|refine M7 3 rfl rfl rfl rfl rfl ?_|refine B5 rfl ?_|refine B5 ⟨rfl,by decide⟩ ?_|refine WY rfl rfl ?_|refine JN ?_)
    (conv=>whnf))
   (repeat' (refine ON rfl rfl ?_<;>conv=>whnf))
   exact BV rfl (gC (I2 [x,y] [a,b,e] d c) rfl rfl (by simp [I2]))
  ·simp at l2
 ·simp at l1
theorem AlJ (N:w9 L) {h:Rat} (hh:Bt 4 (-h)) (m7 : -h≠0):Ev L 207 [.agg [.sl true ([(1:Rat)].map eQ),.sl true ([1,-h].map eQ)]] (.g8 [.agg (eS ⟨[[h]],[1],[h],1⟩),.int .i64 0]):=by
 have hA:Bs 4 [1,-h]:=λ x hx=>by
  rcases List.mem_cons.1 hx with rfl|hx
  ·exact Bt.one 4
  ·obtain rfl:=List.mem_singleton.1 hx
   exact hh
 have hB:Bs 4 [(1:Rat)]:=λ x hx=>by
  obtain rfl:=List.mem_singleton.1 hx;exact Bt.one 4
 have tB:aI [(1:Rat)]=[1]:=by decide
 have tA:aI [1,-h]=[1,-h]:=by
  show List.take (if -h=0 then _ else 2) [1,-h]=_;rw[if_neg m7];rfl
 have hV:=AmT N true true [1] [1,-h] 4 hB hA (by first|omega|simp) (by first|omega|simp) (by first|omega|simp) rfl;have yh:Ev L 204 [.sl true ([(1:Rat)].map eQ)] (.int .i64 0):=Ada N true [1] 4 tB hB (by omega) (by simp);have ny:Ev L 204 [.sl true ([1,-h].map eQ)] (.int .i64 1):=Ada N true [1,-h] 4 tA hA (by omega) (by simp);have hO:=IV N.toa5 1 (by omega);have Hn:Ev L 205 [.sl true ([(1:Rat)].map eQ),.int .i64 0] (.agg (eQ 1)):=vI N true [1] 0 4 (by omega) hB (by omega) (by simp);have hB1:Ev L 205 [.sl true ([(1:Rat)].map eQ),.int .i64 (0+1)] (.agg (eQ 0)):=vI N true [1] (0+1) 4 (by omega) hB (by omega) (by simp);have Dk:Ev L 205 [.sl true ([1,-h].map eQ),.int .i64 (0+1)] (.agg (eQ (-h))):=vI N true [1,-h] (0+1) 4 (by omega) hA (by omega) (by simp);have hM:=LL N.toa5 (Bt.one 4) hh (by omega) (by omega);have hS:=Am2 N.toax (Bt.zero 4) ((Bt.one 4).mul hh) (by omega) (by omega);have hN:=Amm N hh (by omega);rw[show (0:Rat)-1 * -h=h by grind]at hS;rw[Rat.neg_neg]at hN;rw[show ((1:Int):Rat)=1 from rfl]at hO;have hZ:=AmY N 1 (by omega);have z0:=AjH ⟨[[h]],[1],[h],1⟩ 0;generalize -h=g at *;refine Ev.x N.V8 rfl rfl ?_;(repeat' ((first|(apply A9<;>intro hc<;>try omega)|apply A2|refine AP (hV) ?_|refine AP (yh) ?_|refine AP (ny) ?_|refine AP (Hn) ?_)<;>conv=>whnf))
 refine WR (enc:=eQ) 1 hZ rfl ?_;(conv=>whnf)
 (repeat' ((first|(apply A9<;>intro hc<;>try omega)|(apply B5;omega)|refine AP (hO) ?_)<;>conv=>whnf))
 refine NA (enc:=eQ) 0 1 rfl rfl (λ_=>rfl) (by simp) ?_;(conv=>whnf)
 skip
 refine JN ?_;(repeat' ((first|(apply A9<;>intro hc<;>try omega)|apply A2)<;>conv=>whnf))
 refine WR (enc:=eQ) 1 hZ rfl ?_;(conv=>whnf)
 (repeat' ((first|(apply A9<;>intro hc<;>try omega)|fail)<;>conv=>whnf))
 refine JN ?_;(repeat' ((first|(apply A9<;>intro hc<;>try omega)|(apply B5;omega)|(apply BG;omega)|apply A2|refine AP (Dk) ?_|refine AP (hN) ?_)<;>conv=>whnf))
 refine NA (enc:=eQ) 0 h rfl rfl (λ_=>rfl) (by simp) ?_;(conv=>whnf)
 (repeat' ((first|(apply BG;omega)|fail)<;>conv=>whnf))
 refine JN ?_;(repeat' ((first|(apply A9<;>intro hc<;>try omega)|apply A2)<;>conv=>whnf))
 refine B5 ⟨rfl,by omega⟩ ?_;(conv=>whnf)
 (repeat' ((first|(apply BG;omega)|apply GY|refine AP (Hn) ?_|refine AP (hB1) ?_|refine AP (Dk) ?_|refine AP (hM) ?_|refine AP (hS) ?_)<;>conv=>whnf))
 refine ZF (enc:=eQ) h rfl rfl (by omega) ?_;(conv=>whnf)
 (repeat' ((first|(apply BG;omega)|fail)<;>conv=>whnf))
 refine JN ?_;(repeat' ((first|(apply A9<;>intro hc<;>try omega)|apply A2)<;>conv=>whnf))
 refine Yy (en:=eQ) [[h]] rfl (λ_=>rfl) rfl rfl ?_;(conv=>whnf)
 refine WY rfl rfl ?_;(conv=>whnf)
 refine WY rfl rfl ?_;(conv=>whnf)
 exact BV rfl z0
theorem Bt.ngK {k:Nat} {x:Rat} (h:Bt k x):Bt k (-x):=⟨by simpa using h.1,by simpa using h.2⟩
theorem AnG:Bt 4 (Rat.divInt 1 2):=(Bt.mk (k:=4) (z:=1) (d:=2) (by decide) (by decide))
theorem Al9 (N:lf L):Ev L 318 [] (.bool true):=by
 have A:w9 L:=N.ton8.tobq.tow9;have hO:=O6 A.toa6 1 (by omega);have hO2:=O6 A.toa6 2 (by omega);have hF:=oP A.toa6 1 2 (by omega) (by omega);have hh:=AnG;have m7 : -(Rat.divInt 1 2)≠0:=by decide
 have Kx:G0 (EJ 1 [[Rat.divInt 1 2]] 0)=true:=by decide +kernel
 have hval:H3 ⟨[[Rat.divInt 1 2]],[1],[Rat.divInt 1 2],1⟩ (2^0)=((2:Int):Rat):=by decide +kernel
 generalize Rat.divInt 1 2=h at *;have hN:=Aml A.tode hh (by omega);have hC:=AlJ A hh.ngK m7;have hB:Bs 4 [(1:Rat)]:=λ x hx=>by
  obtain rfl:=List.mem_singleton.1 hx;exact Bt.one 4
 have k6:(⟨[[h]],[1],[h],1⟩:FQ).Ok 1 80:=by
  refine ⟨rfl,λ r hr=>by obtain rfl:=List.mem_singleton.1 hr;rfl,rfl,rfl,λ r hr => ?_,hB.le (by omega),λ x hx => ?_,Bt.one 80⟩
  ·obtain rfl:=List.mem_singleton.1 hr
   intro x hx;obtain rfl:=List.mem_singleton.1 hx;exact hh.le (by omega)
  ·obtain rfl:=List.mem_singleton.1 hx
   exact hh.le (by omega)
 obtain ⟨v,hS,hv⟩:=Amw N.ton8 ⟨[[h]],[1],[h],1⟩ 1 80 k6 (by omega) (by omega);rcases hv with ⟨i,_,h2,rfl⟩|⟨h1,rfl⟩
 ·obtain rfl:i=0:=h2.uniq ⟨Kx,λ j hj=>absurd hj (by omega)⟩
  rw[hval]at hS;have h2b:Bt 2 ((2:Int):Rat):=⟨by decide,by decide⟩;have rq:=oL A.toa6 h2b h2b (by omega) (by omega);rw[AfP.2 rfl]at rq;refine Ev.x N.RO rfl rfl ?_;(repeat' ((first|(apply A9<;>intro hc<;>try omega)|refine J4 rfl ?_|refine ON rfl rfl ?_|apply A2|refine AP (hO) ?_|refine AP (hF) ?_|refine AP (hN) ?_|refine AP (hC) ?_|refine AP (hS) ?_|refine AP (hO2) ?_|refine AP (rq) ?_)<;>conv=>whnf))
  exact JO rfl
 ·have:=h1 0 (by omega)
  rw[Kx]at this;cases this
end Go.b8

namespace Go.b8
open F
attribute [local irreducible] AJ A3 BU AU FE BR C1 CK DS DE FA G7 DR B2 EH E5 AL CQ BC pw FM E2 F7 G8 GX EG FK EE FZ
variable {L:Lib} {b a:List Int} {d c:Wd}
set_option maxHeartbeats 16000000
theorem Afx (x fr:Int):HZ [x] 1 fr=[(fr,x)]:=by simp [HZ]
def tK (b a:List Int) (c:Wd) (mx k:Nat):List (Int × Int):=(if k<b.length then [(0,b.getD k 0)] else [])++(if 1<=k/\k<=a.length then [((1:Int)+mx,-a.getD (k-1) 0)] else [])++(if k<mx then [((k:Int)+1,pw c.f)] else [])
theorem Ap3 (x fr:Int):HZ [x] (-1) fr=[(fr,-x)]:=by simp [HZ]
theorem AgB {l:List Int} {k:Nat} (h:k<l.length):(l.take (k+1)).drop k=[l.getD k 0]:=by
 have hg:l[k]? = some l[k]:=zE h;rw[List.take_add_one,hg,Option.toList_some,List.drop_append_of_le_length (by rw[List.length_take];omega),List.drop_of_length_le (by rw[List.length_take];omega),List.nil_append,List.getD_eq_getElem?_getD,hg];rfl
theorem Qt (b a:List Int) (c:Wd) (mx k:Nat):X3 b a c mx k=tK b a c mx k:=by
 unfold X3 tK;congr 1
 ·congr 1
  ·by_cases h:k<b.length
   ·rw[if_pos h,if_pos h,AgB h,Afx]
   ·rw[if_neg h,if_neg h]
  ·by_cases h:1<=k/\k<=a.length
   ·rw[if_pos h,if_pos h]
    obtain ⟨j,rfl⟩ : ∃ j,k=j+1:=⟨k-1,by omega⟩;rw[Nat.add_sub_cancel,AgB (by omega),Ap3,Int.add_comm 1 (mx:Int)]
   ·rw[if_neg h,if_neg h]
 ·by_cases h:k<mx
  ·rw[if_pos h,if_pos h,Afx]
  ·rw[if_neg h,if_neg h]
end Go.b8

namespace Go.b8
open F
attribute [local irreducible] AJ A3 BU AU FE BR C1 CK DS DE FA G7 DR B2 EH E5 AL CQ BC pw FM E2 F7 G8 GX EG FK EE FZ
variable {L:Lib} {d c:Wd} {p:List Int}
set_option maxHeartbeats 1000000
theorem Arc {s:Int} {k:Nat} {fr:Int} (h:0<=fr/\fr<=s+k) : ∀ t∈HZ [pw c.f] 1 fr,I6 c s k t=true:=by
 intro t ht;obtain ⟨i,v,hv,hi,rfl⟩:=cE ht;simp only[List.mem_singleton]at hv;simp only[List.length_cons,List.length_nil]at hi;subst hv;exact decide_eq_true ⟨by simp only;omega,by simp only;omega,Or.inl (by simp)⟩
theorem AgD {s:Int} {k:Nat} {fr:Int} {l:List Int} (hl : ∀ v∈l,FT c v) (h:0<=fr/\fr+l.length<=s+k+1) : ∀ t∈HZ l 1 fr,I6 c s k t=true:=by
 intro t ht;obtain ⟨i,v,hv,hi,rfl⟩:=cE ht;exact decide_eq_true ⟨by simp only;omega,by simp only;omega,Or.inr (by simpa using hl v hv)⟩
theorem AeV {s:Int} {f:Nat->Nd} : ∀ (m k:Nat),(∀ i,k<=i->i<k+m->(f i).ts.length<=64 /\ ∀ t∈(f i).ts,I6 c s i t=true)->JZ c s k ((List.range' k m).map f)=true
 | 0,_,_=>rfl
 | m+1,k,h=>by
  rw[List.range'_succ,List.map_cons,JZ,AeV m (k+1) λ i h1 h2=>h i (by omega) (by omega)];have:=h k (by omega) (by omega)
  simp only[Bool.and_true,Bool.and_eq_true,decide_eq_true_eq,List.all_eq_true];exact this
end Go.b8

namespace Go.b8
open F
attribute [local irreducible] AJ A3 BU AU FE BR C1 CK DS DE FA G7 DR B2 EH E5 AL CQ BC pw FM E2 F7 G8 GX EG FK EE FZ
set_option maxHeartbeats 8000000
variable {L:Lib}
section
variable {b a:List Int} {d c:Wd}
theorem Arb {s:Int} {k:Nat} {fr:Int} {l:List Int} (hl : ∀ v∈l,FT c (-v)) (h:0<=fr/\fr+l.length<=s+k+1) : ∀ t∈HZ l (-1) fr,I6 c s k t=true:=by
 intro t ht;obtain ⟨i,v,hv,hi,rfl⟩:=cE ht;exact decide_eq_true ⟨by simp only;omega,by simp only;omega,Or.inr (by simpa using hl v hv)⟩
theorem Arj (hd:WV d) (hc:WV c) (l1:1<=b.length/\b.length<=49) (l2:a.length<=8) (hb : ∀ v∈b,FT c v) (ha : ∀ v∈a,FT c v/\FT c (-v)):HD (KI b a d c)=true:=by
 have ki:b.length-1<=E7 b a:=Nat.le_max_left _ _;have er:a.length<=E7 b a:=Nat.le_max_right _ _;have hm3:E7 b a<=48:=by unfold E7;omega
 rw[F5];refine ⟨hd,hc,⟨by simp only[KI];omega,by simp only[KI];omega,by simp [KI],by simp [KI,MF]⟩,?_,?_,by simp only[KI];omega,by simp only[KI,List.length_cons,List.length_nil];omega⟩
 ·simp only[KI,JZ,Bool.and_true,Bool.and_eq_true,decide_eq_true_eq,List.all_eq_true]
  refine ⟨⟨by simp [PK];omega,λ t ht => ?_⟩,by simp [PK];omega,λ t ht => ?_⟩
  ·rcases List.mem_append.1 ht with h|h
   ·exact Arc (by omega) t h
   ·exact Arb (λ v hv=>(ha v hv).2) (by omega) t h
  ·rcases List.mem_append.1 ht with h|h
   ·exact AgD (λ v hv=>hb v (List.mem_of_mem_take hv)) (by simp only[List.length_take];omega) t h
   ·exact AgD (λ v hv=>hb v (List.mem_of_mem_drop hv)) (by simp only[List.length_drop];omega) t h
 ·simp only[KI,MW,List.all_eq_true,decide_eq_true_eq,List.length_cons,List.length_nil]
  intro k hk;rcases AeA hk with rfl|⟨i,h1,h2,rfl⟩<;>(first|omega|(refine decide_eq_true ?_;omega))
theorem AgA {mx k:Nat} {t:Int × Int} (h:t∈tK b a c mx k):(k<b.length/\t.1=0/\t.2∈b)\/(1<=k/\k<=a.length/\t.1=1+(mx:Int) /\ -t.2∈a)\/(k<mx/\t.1=(k:Int)+1/\t.2=pw c.f):=by
 unfold tK at h;rcases List.mem_append.1 h with h|h
 ·rcases List.mem_append.1 h with h|h
  ·split at h
   ·rename_i hk
    obtain rfl:=List.mem_singleton.1 h;refine Or.inl ⟨hk,rfl,?_⟩;show b.getD k 0∈b;rw[List.getD_eq_getElem?_getD,zE hk];exact List.getElem_mem hk
   ·cases h
  ·split at h
   ·rename_i hk
    obtain rfl:=List.mem_singleton.1 h;refine Or.inr (Or.inl ⟨hk.1,hk.2,rfl,?_⟩);show - -(a.getD (k-1) 0)∈a;rw[Int.neg_neg,List.getD_eq_getElem?_getD,zE (show k-1<a.length by omega)];exact List.getElem_mem _
   ·cases h
 ·split at h
  ·rename_i hk
   obtain rfl:=List.mem_singleton.1 h;exact Or.inr (Or.inr ⟨hk,rfl,rfl⟩)
  ·cases h
theorem Qm (mx k:Nat):(tK b a c mx k).length<=3:=by
 unfold tK;split<;>split<;>split<;>simp
theorem Arg (hd:WV d) (hc:WV c) (l1:1<=b.length/\b.length<=49) (l2:a.length<=8) (hb : ∀ v∈b,FT c v) (ha : ∀ v∈a,FT c v/\FT c (-v)):HD (KP b a d c)=true:=by
 have ki:b.length-1<=E7 b a:=Nat.le_max_left _ _;have er:a.length<=E7 b a:=Nat.le_max_right _ _;have hm3:E7 b a<=48:=by unfold E7;omega
 rw[F5];refine ⟨hd,hc,⟨by simp only[KP];omega,by simp only[KP];omega,by simp [KP,NL];omega,by simp [KP]⟩,?_,?_,by simp only[KP];omega,by simp [KP,NL];omega⟩
 ·simp only[KP,NL]
  rw[ApU];refine AeV _ _ λ i _ hi => ?_
  simp only[Qt];refine ⟨by have:=Qm (b:=b) (a:=a) (c:=c) (E7 b a) i;omega,λ t ht => ?_⟩;refine decide_eq_true ?_;rcases AgA ht with ⟨h1,h2,h3⟩|⟨h1,h2,h3,h4⟩|⟨h1,h2,h3⟩
  ·exact ⟨by omega,by omega,Or.inr (hb _ h3)⟩
  ·exact ⟨by omega,by omega,Or.inr (by simpa using (ha _ h4).2)⟩
  ·exact ⟨by omega,by omega,Or.inl h3⟩
 ·simp only[KP,NL,MW,List.all_eq_true,decide_eq_true_eq,List.mem_map,List.mem_range,List.length_map,List.length_range]
  rintro k ⟨i,hi,rfl⟩
  omega
theorem yJ (hc:WV c):(pw c.f).natAbs<=2^24:=by
 unfold WV at hc;have Pk:=PC (n:=c.f) (m:=23) (by omega);have zu:pw 23=8388608:=by unfold pw;rfl
 have:=HY c.f
 show _<=16777216;omega
theorem lI {l:List Int} {sg fr:Int} (hs:sg=1\/sg = -1) (hl : ∀ v∈l,FT c v) : ∀ t∈HZ l sg fr,t.2.natAbs<=2^24:=by
 intro t ht;obtain ⟨i,v,hv,hi,rfl⟩:=cE ht;have:=iL (hl v hv)
 show (sg*v).natAbs<=16777216;rcases hs with rfl|rfl<;>omega
theorem Arr (hc:WV c) {fr:Int} : ∀ t∈HZ [pw c.f] 1 fr,t.2.natAbs<=2^24:=by
 intro t ht;obtain ⟨i,v,hv,hi,rfl⟩:=cE ht;obtain rfl:=List.mem_singleton.1 hv;show (1*pw c.f).natAbs<=_;rw[Int.one_mul];exact yJ hc
theorem Apr (l1:b.length<=3) (l2:a.length<=2) (hb : ∀ v∈b,FT c v) (ha : ∀ v∈a,FT c v/\FT c (-v)):PU (DC (KH b a d c)):=by
 constructor
 ·intro ts h
  simp only[DC,KH,List.map_cons,List.map_nil,List.mem_singleton]at h;subst h;simp only[List.length_append,PK];omega
 ·intro ts h
  simp only[DC,KH,List.map_cons,List.map_nil,List.mem_singleton]at h;subst h;intro t ht;rcases List.mem_append.1 ht with h|h
  ·exact lI (Or.inl rfl) hb t h
  ·exact lI (Or.inr rfl) (λ v hv=>(ha v hv).1) t h
theorem Ark (hc:WV c) (l1:b.length<=3) (l2:a.length<=2) (hb : ∀ v∈b,FT c v) (ha : ∀ v∈a,FT c v/\FT c (-v)):PU (DC (KI b a d c)):=by
 constructor
 ·intro ts h
  simp only[DC,KI,List.map_cons,List.map_nil,List.mem_cons,List.not_mem_nil,or_false]at h;rcases h with rfl|rfl
  all_goals simp only[List.length_append,PK,List.length_take,List.length_drop,List.length_cons,List.length_nil];omega
 ·intro ts h
  simp only[DC,KI,List.map_cons,List.map_nil,List.mem_cons,List.not_mem_nil,or_false]at h;intro t ht;rcases h with rfl|rfl
  ·rcases List.mem_append.1 ht with h|h
   ·exact Arr hc t h
   ·exact lI (Or.inr rfl) (λ v hv=>(ha v hv).1) t h
  ·rcases List.mem_append.1 ht with h|h
   ·exact lI (Or.inl rfl) (λ v hv=>hb v (List.mem_of_mem_take hv)) t h
   ·exact lI (Or.inl rfl) (λ v hv=>hb v (List.mem_of_mem_drop hv)) t h
theorem Arh (hc:WV c) (hb : ∀ v∈b,FT c v) (ha : ∀ v∈a,FT c v/\FT c (-v)):PU (DC (KP b a d c)):=by
 have key : ∀ ts∈DC (KP b a d c),∃ i,ts=tK b a c (E7 b a) i:=by
  intro ts h;simp only[DC,KP,NL,List.map_map,List.mem_map]at h;obtain ⟨i,_,rfl⟩:=h;exact ⟨i,Qt _ _ _ _ _⟩
 constructor
 ·intro ts h
  obtain ⟨i,rfl⟩:=key ts h;have:=Qm (b:=b) (a:=a) (c:=c) (E7 b a) i
  omega
 ·intro ts h t ht
  obtain ⟨i,rfl⟩:=key ts h;rcases AgA ht with ⟨h1,h2,h3⟩|⟨h1,h2,h3,h4⟩|⟨h1,h2,h3⟩
  ·have:=iL (hb _ h3)
   show _<=16777216;omega
  ·have:=iL (ha _ h4).1
   show _<=16777216;omega
  ·rw[h3];exact yJ hc
end
end Go.b8

namespace Go.b8
open F
attribute [local irreducible] AJ A3 BU AU FE BR C1 CK DS DE FA G7 DR B2 EH E5 AL CQ BC pw FM E2 F7 G8 GX EG FK EE FZ
set_option maxHeartbeats 8000000
set_option maxRecDepth 8000
variable {L:Lib}
structure F4 (n:Nt):Prop where
 dj:HD n=true
 st:n.s<=4
 nl:n.nodes.length<=5
 cf : ∀ d∈n.nodes,∀ t∈d.ts,t.2.natAbs<=2^24
 tl:(∀ d∈n.nodes,d.ts.length<=3)\/(n.nodes.length<=1 /\ ∀ d∈n.nodes,d.ts.length<=5)
theorem pN {n:Nt} {d:Nd} (h:d∈n.nodes):d.ts∈DC n:=List.mem_map.2 ⟨d,h,rfl⟩
section
variable {b a:List Int} {d c:Wd}
theorem Apx (hd:WV d) (hc:WV c) (l1:1<=b.length/\b.length<=3) (l2:a.length<=2) (hb : ∀ v∈b,FT c v) (ha : ∀ v∈a,FT c v/\FT c (-v)):F4 (KH b a d c):=by
 have hs:=Apr (d:=d) (by omega) l2 hb ha;refine ⟨Anj hd hc (by omega) (by omega) hb ha,by simp only[KH];omega,by simp [KH],λ x hx=>hs.cf _ (pN hx),Or.inr ⟨by simp [KH],λ x hx=>hs.len _ (pN hx)⟩⟩
theorem Apz (hd:WV d) (hc:WV c) (l1:1<=b.length/\b.length<=3) (l2:a.length<=2) (hb : ∀ v∈b,FT c v) (ha : ∀ v∈a,FT c v/\FT c (-v)):F4 (KI b a d c):=by
 have hs:=Ark (d:=d) hc (by omega) l2 hb ha;have hm:E7 b a<=2:=by unfold E7;omega
 refine ⟨Arj hd hc (by omega) (by omega) hb ha,by simp only[KI];omega,by simp [KI],λ x hx=>hs.cf _ (pN hx),Or.inl λ x hx => ?_⟩;simp only[KI,List.mem_cons,List.not_mem_nil,or_false]at hx;rcases hx with rfl|rfl
 all_goals simp only[List.length_append,PK,List.length_take,List.length_drop,List.length_cons,List.length_nil];omega
theorem Apy (hd:WV d) (hc:WV c) (l1:1<=b.length/\b.length<=3) (l2:a.length<=2) (hb : ∀ v∈b,FT c v) (ha : ∀ v∈a,FT c v/\FT c (-v)):F4 (KP b a d c):=by
 have hs:=Arh (d:=d) hc hb ha;have hm:E7 b a<=2:=by unfold E7;omega
 refine ⟨Arg hd hc (by omega) (by omega) hb ha,by simp only[KP];omega,by simp [KP,NL];omega,λ x hx=>hs.cf _ (pN hx),Or.inl λ x hx => ?_⟩;simp only[KP,NL,List.mem_map]at hx;obtain ⟨i,_,rfl⟩:=hx;simp only[Qt];exact Qm _ _
theorem Apw {k v:List Int} (hd:WV d) (hc:WV c) (l1:k.length<=2) (l2:v.length=k.length+1) (hv : ∀ x∈v,FT c x) (hk : ∀ x∈k,FT c x/\FT c (-x)):F4 (I2 k v d c):=by
 have hp:=yJ hc;have sm : ∀ x,FT c x->x.natAbs<=16777216:=λ x hx=>by have:=iL hx;omega
 have Vr:(pw c.f).natAbs<=16777216:=hp;rcases k with _|⟨x,_|⟨y,_|⟨z,k⟩⟩⟩
 ·rcases v with _|⟨a,_|⟨b,v⟩⟩
  ·simp at l2
  ·have h1:=hv a (by simp)
   have s1:=sm a h1;refine ⟨?_,by simp [I2],by simp [I2],?_,Or.inl ?_⟩
   ·simp [HD,I2,JZ,MW,I6,hd,hc,h1]
   ·simp [I2];exact s1
   ·simp [I2]
  ·simp at l2
 ·rcases v with _|⟨a,_|⟨b,_|⟨e,v⟩⟩⟩
  ·simp at l2
  ·simp at l2
  ·have h1:=hv a (by simp)
   have h2:=hv b (by simp);obtain ⟨h3,h4⟩:=hk x (by simp);have s1:=sm a h1;have s2:=sm b h2;have s3:=sm x h3;refine ⟨?_,by simp [I2],by simp [I2],?_,Or.inl ?_⟩
   ·simp [HD,I2,JZ,MW,I6,hd,hc,h1,h2,h3,h4]
   ·simp [I2]
    refine ⟨?_,?_,?_⟩<;>intro _ _ hh<;>omega
   ·simp [I2]
  ·simp at l2
 ·rcases v with _|⟨a,_|⟨b,_|⟨e,_|⟨g,v⟩⟩⟩⟩
  ·simp at l2
  ·simp at l2
  ·simp at l2
  ·have h1:=hv a (by simp)
   have h2:=hv b (by simp);have h5:=hv e (by simp);obtain ⟨h3,h4⟩:=hk x (by simp);obtain ⟨h6,h7⟩:=hk y (by simp);have s1:=sm a h1;have s2:=sm b h2;have s3:=sm x h3;have s4:=sm y h6;have s5:=sm e h5;refine ⟨?_,by simp [I2],by simp [I2],?_,Or.inl ?_⟩
   ·simp [HD,I2,JZ,MW,I6,hd,hc,h1,h2,h3,h4,h5,h6,h7]
   ·simp [I2]
    refine ⟨?_,?_,?_,?_,?_⟩<;>intro _ _ hh<;>omega
   ·simp [I2]
  ·simp at l2
 ·simp at l1
end
theorem ApA {ck:Int} (l:List Int):(gJ (E1 ck) l).length<=2 /\ ∀ v∈gJ (E1 ck) l,FT (E1 ck) v/\FT (E1 ck) (-v):=by
 obtain ⟨hc,_,_⟩:=Zp ck;have hf:=Abz ck;obtain ⟨h1,h2,h3,h4⟩:=RQ hc;have y5:=hc;unfold WV at y5;have hp:=HY (E1 ck).f;have e1:=PC (n:=(E1 ck).f+1) (m:=(E1 ck).b-1) (by omega);have e2:pw ((E1 ck).f+1)=2*pw (E1 ck).f:=by
  unfold pw;rw[show ((E1 ck).f+1).toNat=(E1 ck).f.toNat+1 by omega,Int.pow_succ];omega
 have key : ∀ v:Int,-pw (E1 ck).f<v/\v<pw (E1 ck).f->FT (E1 ck) v/\FT (E1 ck) (-v):=λ v hv=>⟨⟨hc,by omega,by omega⟩,⟨hc,by omega,by omega⟩⟩
 have t1:=iC (b:=pw (E1 ck).f*3/4) (by omega) (I9 l 1);have t2:=iC (b:=pw (E1 ck).f/2) (by omega) (I9 l 1);have t3:=iC (b:=(pw (E1 ck).f+QC (pw (E1 ck).f/2) (I9 l 1))/2) (by omega) (I9 l 2);unfold gJ;split
 ·simp
 split
 ·refine ⟨by simp,λ v hv => ?_⟩
  obtain rfl:=List.mem_singleton.1 hv;exact key _ (by omega)
 ·refine ⟨by simp,λ v hv => ?_⟩
  simp only[List.mem_cons,List.not_mem_nil,or_false]at hv;rcases hv with rfl|rfl
  ·exact key _ (by omega)
  ·exact key _ (by omega)
theorem Aoz {k v:List Int} {d c:Wd} (l1:k.length<=2) : ∀ m∈(I2 k v d c).nodes,m.q=false:=by
 rcases k with _|⟨x,_|⟨y,_|⟨z,k⟩⟩⟩
 ·simp [I2]
 ·simp [I2]
 ·simp [I2]
 ·simp at l1
theorem pV (n:Nt) (h1:n.qn=false) (h2:n.qx=false) (h3 : ∀ m∈n.nodes,m.q=false):B3 (.g8 [.agg (FS n),.bool true]):=by
 have h:=Acm n h1 h2 h3;simp only[B3,EC,and_true,true_and]at h ⊢;exact h
theorem AlS (I:c5 L) (W:x6 L) (N:bp L) (kd dk ck:Int) (h0:GW kd) (h1:GW dk) (h2:GW ck) (b a:List Int) (q1 q2:Bool) (lb:b.length<9223372036854775808) (la:a.length<9223372036854775808) (gq : ∀ v∈a,GW v) :
  ∃ n:Nt,F4 n/\Ev L 348 [.agg [.int .i64 kd,.int .i64 dk,.int .i64 ck,.sl q1 (b.map DT),.sl q2 (a.map DT)]] (.g8 [.agg (FS n),.bool true]):=by
 have D:l8 L:=N.tol8;obtain ⟨Dv,qi,va⟩:=Akm dk;obtain ⟨ox,Bu,yo⟩:=Zp ck;have hk1:=WE (v:=(b.length:Int)) (m:=3) (by omega);have np:=WE (v:=(a.length:Int)) (m:=3) (by omega);have Oy:=WE (v:=kd) (m:=4) (by omega);have hl:=RQ ox;have hf:=Abz ck;have y5:=ox;unfold WV at y5;have hp:=HY (E1 ck).f;have e1:=PC (n:=(E1 ck).f+1) (m:=(E1 ck).b-1) (by omega);have e2:pw ((E1 ck).f+1)=2*pw (E1 ck).f:=by
  unfold pw;rw[show ((E1 ck).f+1).toNat=(E1 ck).f.toNat+1 by omega,Int.pow_succ];omega
 have eb:=λ q=>oW W (pw ((E1 ck).b-1)-1) (by omega) b q (1+G4 b.length 3).toNat (by omega)
 have ek:=λ q=>oW W (pw (E1 ck).f*3/4) (by omega) a q (G4 a.length 3).toNat (by omega)
 have ev:=λ q=>oW W (pw ((E1 ck).b-1)-1) (by omega) b q ((G4 a.length 3).toNat+1) (by omega)
 have eP:=λ q=>Am6 W N (E1 ck) ox a q gq
 obtain ⟨Ez,hQ⟩:=ApA (ck:=ck) a;rw[Int.toNat_of_nonneg (by omega)]at eb ek;have ev':((((G4 a.length 3).toNat+1:Nat)):Int)=G4 a.length 3+1:=by omega
 rw[ev']at ev;have w1:=Z1 W b.length 3 (by unfold GW;omega) (by omega);have w2:=Z1 W a.length 3 (by unfold GW;omega) (by omega);have w0:=Z1 W kd 4 h0 (by omega);have hU:=Am7 W (E1 ck) ox;have lP:(MP (pw ((E1 ck).b-1)-1) b (1+G4 b.length 3).toNat).length=(1+G4 b.length 3).toNat:=sY _ _ _;have lV:(MP (pw ((E1 ck).b-1)-1) b ((G4 a.length 3).toNat+1)).length=(G4 a.length 3).toNat+1:=sY _ _ _;have lK:(MP (pw (E1 ck).f*3/4) a (G4 a.length 3).toNat).length=(G4 a.length 3).toNat:=sY _ _ _;have hP:=Ya ox b (1+G4 b.length 3).toNat;have hV:=Ya ox b ((G4 a.length 3).toNat+1);have hK : ∀ v∈MP (pw (E1 ck).f*3/4) a (G4 a.length 3).toNat,-pw (E1 ck).f<v/\v<pw (E1 ck).f:=by
  intro v hv;simp only[MP,List.mem_map]at hv;obtain ⟨i,_,rfl⟩:=hv;have:=iC (b:=pw (E1 ck).f*3/4) (by omega) (I9 a i)
  omega
 have hKF : ∀ v∈MP (pw (E1 ck).f*3/4) a (G4 a.length 3).toNat,FT (E1 ck) v/\FT (E1 ck) (-v):=λ v hv=>by
  have:=hK v hv
  exact ⟨⟨ox,by omega,by omega⟩,⟨ox,by omega,by omega⟩⟩
 generalize MP (pw ((E1 ck).b-1)-1) b (1+G4 b.length 3).toNat=P at *;generalize MP (pw ((E1 ck).b-1)-1) b ((G4 a.length 3).toNat+1)=V at *;generalize MP (pw (E1 ck).f*3/4) a (G4 a.length 3).toNat=K at *;generalize gJ (E1 ck) a=Q at *;have f1:=λ q q'=>AlY I D P Q q q' (LI dk) (E1 ck) Dv ox (by omega) (by omega) (λ v h=>(hP v h).1) hQ
 have f2:=λ q q'=>AlZ I D P Q q q' (LI dk) (E1 ck) Dv ox (by omega) (by omega) (λ v h=>(hP v h).1) hQ
 have f3:=λ q q'=>Al0 I D P Q q q' (LI dk) (E1 ck) Dv ox (by omega) (by omega) (λ v h=>(hP v h).1) hQ
 have f4:=λ q q'=>Ama I N K V q q' (LI dk) (E1 ck) Dv ox (by omega) (by omega) (λ v h=>(hV v h).1) hKF hK
 have g1:=Apx (d:=LI dk) Dv ox (by omega) Ez (λ v h=>(hP v h).1) hQ;have g2:=Apz (d:=LI dk) Dv ox (by omega) Ez (λ v h=>(hP v h).1) hQ;have g3:=Apy (d:=LI dk) Dv ox (by omega) Ez (λ v h=>(hP v h).1) hQ;have g4:=Apw (d:=LI dk) (k:=K) (v:=V) Dv ox (by omega) (by omega) (λ v h=>(hV v h).1) hKF;have eD:=Am5 W dk h1;have eC:=Am4 W ck h2;have hlK:((K.length:Nat):Int)+1=G4 a.length 3+1:=by omega
 by_cases k0:G4 kd 4=0
 ·refine ⟨_,g1,?_⟩
  have z0:=pV (KH P Q (LI dk) (E1 ck)) rfl rfl (by simp [KH]);generalize KH P Q (LI dk) (E1 ck)=n at *;refine Ev.x N.MU rfl rfl ?_;(repeat' ((first|(apply A9<;>intro hc<;>try omega)|(apply BG;omega)|(apply DQ;omega)|(refine IY ?_ (λ_ _ => ?_);omega)|(apply EM;omega)|apply BT|apply A2|refine AP (eD) ?_|refine AP (eC) ?_|refine AP (w1) ?_|refine AP (eb _) ?_|refine AP (eP _) ?_|refine AP (w0) ?_|refine AP (f1 _ _) ?_)<;>conv=>whnf))
  exact BV rfl z0
 by_cases k1:G4 kd 4=1
 ·refine ⟨_,g2,?_⟩
  have z0:=pV (KI P Q (LI dk) (E1 ck)) rfl rfl (by simp [KI]);generalize KI P Q (LI dk) (E1 ck)=n at *;refine Ev.x N.MU rfl rfl ?_;(repeat' ((first|(apply A9<;>intro hc<;>try omega)|(apply BG;omega)|(apply DQ;omega)|(refine IY ?_ (λ_ _ => ?_);omega)|(apply EM;omega)|apply BT|apply A2|refine AP (eD) ?_|refine AP (eC) ?_|refine AP (w1) ?_|refine AP (eb _) ?_|refine AP (eP _) ?_|refine AP (w0) ?_|refine AP (f2 _ _) ?_)<;>conv=>whnf))
  exact BV rfl z0
 by_cases k2:G4 kd 4=2
 ·refine ⟨_,g3,?_⟩
  have z0:=pV (KP P Q (LI dk) (E1 ck)) rfl rfl (by simp [KP,NL]);generalize KP P Q (LI dk) (E1 ck)=n at *;refine Ev.x N.MU rfl rfl ?_;(repeat' ((first|(apply A9<;>intro hc<;>try omega)|(apply BG;omega)|(apply DQ;omega)|(refine IY ?_ (λ_ _ => ?_);omega)|(apply EM;omega)|apply BT|apply A2|refine AP (eD) ?_|refine AP (eC) ?_|refine AP (w1) ?_|refine AP (eb _) ?_|refine AP (eP _) ?_|refine AP (w0) ?_|refine AP (f3 _ _) ?_)<;>conv=>whnf))
  exact BV rfl z0
 ·refine ⟨_,g4,?_⟩
  have z0:=pV (I2 K V (LI dk) (E1 ck)) rfl rfl (Aoz (by omega));rw[<-hlK]at ev;generalize I2 K V (LI dk) (E1 ck)=n at *;refine Ev.x N.MU rfl rfl ?_;(repeat' ((first|(apply A9<;>intro hc<;>try omega)|(apply BG;omega)|(apply DQ;omega)|(apply I8;omega)|(refine IY ?_ (λ_ _ => ?_);omega)|(refine PT ?_ ?_ (λ_ => ?_) (λ_ _ => ?_);omega;omega;all_goals try omega)|(apply EM;omega)|apply BT|apply A2|refine AP (eD) ?_|refine AP (eC) ?_|refine AP (w1) ?_|refine AP (w2) ?_|refine AP (eb _) ?_|refine AP (eP _) ?_|refine AP (w0) ?_|refine AP (hU) ?_|refine AP (ek _) ?_|refine AP (ev _) ?_|refine AP (f4 _ _) ?_)<;>conv=>whnf))
  exact BV rfl z0
end Go.b8

namespace Go.b8
open F
attribute [local irreducible] AJ A3 BU AU FE BR C1 CK DS DE FA G7 DR B2 EH E5 AL CQ BC pw FM E2 F7 G8 GX EG FK EE FZ
variable {L:Lib}
set_option maxHeartbeats 8000000
set_option maxRecDepth 8000
def KJ (n:Nt) (fr:Nat):List Rat:=JQ (Rat.divInt 1 (pw n.c.f)) ((fr:Int)-(n.s+1)) 0 (EU (n.s+1).toNat fr) (DC n)
theorem Ang {l:List Rat} {m p:Nat} {x:Rat} (h:l[p]? = some x):(GU l m)[p]? = some (some x):=by
 have hi:=(zS h).1;rw[GU,List.getElem?_append_left (by rw[List.length_map];exact hi),List.getElem?_map,h];rfl
theorem Adr {l:List Rat} {m p:Nat} {x:Rat} (h:p<l.length):(GU l m).set p (some x)=GU (l.set p x) m:=by
 simp only[GU,List.length_set];rw[List.set_append,if_pos (by rw[List.length_map];exact h),List.map_set]
theorem Aro {m:Nat} {p:Int} (h:(m:Int)<=p):EU m p=List.replicate m 0:=by
 refine List.ext_getElem? λ i => ?_
 simp only[EU,List.getElem?_map,List.getElem?_replicate];by_cases hi:i<m
 ·rw[List.getElem?_range hi,if_pos hi]
  simp only[Option.map_some];rw[if_neg (by omega)]
 ·rw[List.getElem?_eq_none (by simpa using hi),if_neg hi];rfl
theorem AdB {n:Nt} (hn:F4 n) {u:Rat} (hu:Bt 24 u) {ex:Int} {w:List Rat} (hw:Bs 0 w) : ∀ j,j<=n.nodes.length->Bs 40000 (JQ u ex 0 w ((DC n).take j)):=by
 intro j hj;have eu:=hn.nl;have l7:(DC n).length=n.nodes.length:=by simp [DC]
 have e:0+((DC n).take j).length=j:=by rw[List.length_take,l7];omega
 have mem : ∀ ts∈(DC n).take j,∃ d∈n.nodes,d.ts=ts:=λ ts h=>List.mem_map.1 (List.mem_of_mem_take h)
 rcases hn.tl with h|⟨h0,h⟩
 ·have h1:=vZ (ex:=ex) (m:=3) hu ((DC n).take j) 0 w (λ ts ht=>by obtain ⟨d,hd,rfl⟩:=mem ts ht;exact h d hd) (λ ts ht=>by obtain ⟨d,hd,rfl⟩:=mem ts ht;exact hn.cf d hd) hw
  rw[e]at h1;intro x hx;refine (h1 x hx).le ?_;have:j<=5:=by omega
  rcases j with _|_|_|_|_|_|j
  all_goals first|decide|omega
 ·have h1:=vZ (ex:=ex) (m:=5) hu ((DC n).take j) 0 w (λ ts ht=>by obtain ⟨d,hd,rfl⟩:=mem ts ht;exact h d hd) (λ ts ht=>by obtain ⟨d,hd,rfl⟩:=mem ts ht;exact hn.cf d hd) hw
  rw[e]at h1;intro x hx;refine (h1 x hx).le ?_;have:j<=1:=by omega
  rcases j with _|_|j
  all_goals first|decide|omega
theorem AdD (N:w7 L) (n:Nt) (fr:Nat) (hn:F4 n) (hf:(fr:Int)<=n.s+n.nodes.length):AJ L [.code F.L4.body] (FV 0 [.agg (FS n),.int .i64 (fr:Int)]) [] (λ tm M=>sL F.L4 3 ((KJ n fr).map eQ) tm M/\YB F.L4 (.sl false ((KJ n fr).map eQ)) tm M):=by
 obtain ⟨h1,h2,⟨h3a,h3b,h3c,h3d⟩,h4,h5,h6⟩:=(F5 n).1 hn.dj;have Di:=h2;unfold WV at Di;have j8:=hn.st;have eu:=hn.nl;obtain ⟨S,hS⟩ : ∃ S:Nat,n.s=(S:Int):=⟨n.s.toNat,by omega⟩;obtain ⟨T,hT⟩ : ∃ T:Nat,T=S+1+n.nodes.length:=⟨_,rfl⟩;have wu:=IV N.toa5 0 (by omega);have wv:=IV N.toa5 1 (by omega);rw[show ((0:Int):Rat)=0 from rfl]at wu;rw[show ((1:Int):Rat)=1 from rfl]at wv;have hF:=Acv N.toax 1 (pw n.c.f) (by omega) (by have:=HY n.c.f;have:=kZ (n:=n.c.f) (by omega);omega) (by have:=HY n.c.f;omega);have hu:Bt 24 (Rat.divInt 1 (pw n.c.f)):=by
  have e1:=HY n.c.f;have e2:=PC (n:=n.c.f) (m:=23) (by omega);have e3:pw 23=8388608:=by unfold pw;rfl
  obtain ⟨e,he⟩:=Int.eq_ofNat_of_zero_le (show 0<=pw n.c.f by omega);rw[he]at e2 ⊢;rw[Rat.divInt_ofNat];refine Bt.mk (by decide) ?_;show _<=16777216;omega
 have l7:(DC n).length=n.nodes.length:=by simp [DC]
 have hlen : ∀ d∈n.nodes,d.ts.length<=5:=λ d hd=>by
  rcases hn.tl with h|⟨_,h⟩
  ·have:=h d hd;omega
  ·exact h d hd
 obtain ⟨ex,hex⟩ : ∃ ex:Int,ex=(fr:Int)-(n.s+1):=⟨_,rfl⟩;have hw:(EU (S+1) fr).length=S+1:=Y5 _ _;have Ah : ∀ j,j<=n.nodes.length->Bs 40000 (JQ (Rat.divInt 1 (pw n.c.f)) ex 0 (EU (S+1) fr) ((DC n).take j)):=AdB hn hu (Bs.unit _ _ _);have iw : ∀ j,j<=n.nodes.length->(JQ (Rat.divInt 1 (pw n.c.f)) ex 0 (EU (S+1) fr) ((DC n).take j)).length=S+1+j:=λ j hj=>by
  rw[wB,Y5,List.length_take,l7];omega
 have se:=Ans (Rat.divInt 1 (pw n.c.f)) ex (EU (S+1) fr) (DC n);have z0:KJ n fr=JQ (Rat.divInt 1 (pw n.c.f)) ex 0 (EU (S+1) fr) ((DC n).take n.nodes.length):=by
  rw[KJ,hex,<-l7,List.take_length,hS];rfl
 rw[z0];clear z0;generalize Rat.divInt 1 (pw n.c.f)=u at *;refine id ?_;(repeat' ((first|(apply BG;omega)|apply BT|apply A2)<;>conv=>whnf))
 refine GJ (enc:=eO) none T rfl (by omega) (by omega) ?_;(conv=>whnf)
 skip
 refine G6 (λ i=>S+1-i) (λ(i:Nat)=>i<=S+1) (λ i=>[(24,.int .i64 i)]) (λ i=>[(22,22,.rw 3 ((GU (List.replicate i (0:Rat)) T).map eO))]) [] [] 0 (by rw[List.replicate_zero,QY];exact (by (conv=>whnf);exact ⟨rfl,rfl,rfl⟩)) (by omega) ?_;intro i p1 ih;by_cases hi:i<S+1
 ·have hs:=PZ (l:=List.replicate i (0:Rat)) (m:=T) (x:=0) (by rw[List.length_replicate];omega)
  have Pb:=OU (l:=List.replicate i (0:Rat)) (m:=T) (by rw[List.length_replicate];omega);rw[List.length_replicate,<-List.replicate_succ']at hs;generalize GU (List.replicate i (0:Rat)) T=F0 at *;(repeat' ((first|(apply A9<;>intro hc<;>try omega)|(apply B5;omega)|apply A2|refine AP (wu) ?_)<;>conv=>whnf))
  refine KS (enc:=eO) (some 0) rfl (λ e=>by cases e<;>rfl) (by omega) ?_;(conv=>whnf)
  rw[hs];(repeat' ((first|(apply BG;omega)|fail)<;>conv=>whnf))
  exact CZ [] (ih (i+1) (by omega) (by omega))
 have ei:i=S+1:=by omega
 clear ih;rw[ei];have Pb:=OU (l:=List.replicate (S+1) (0:Rat)) (m:=T) (by rw[List.length_replicate];omega);by_cases hfr:fr<S+1;focus
  have Ed:=Adr (l:=List.replicate (S+1) (0:Rat)) (m:=T) (x:=1) (p:=fr) (by rw[List.length_replicate];exact hfr);rw[AgO]at Ed;generalize GU (List.replicate (S+1) (0:Rat)) T=F0 at *;(repeat' ((first|(apply A9<;>intro hc<;>try omega)|(apply B5;omega)|apply A2|refine AP (wv) ?_)<;>conv=>whnf))
  refine KS (enc:=eO) (some 1) rfl (λ e=>by cases e<;>rfl) (by omega) ?_;(conv=>whnf)
  rw[Ed]
 rotate_left
 focus
  rw[<-Aro (m:=S+1) (p:=fr) (by omega)]
 all_goals
  generalize EU (S+1) fr=w at *;(repeat' ((first|(apply A9<;>intro hc<;>try omega)|(refine IY ?_ (λ_ _ => ?_);omega)|apply BT|apply A2|refine AP (hF) ?_)<;>conv=>whnf))
  refine G5 (λ j=>n.nodes.length-j) (λ(j:Nat)=>j<=n.nodes.length) (λ j=>[(47,.int .i64 j)]) (λ j=>[(22,22,.rw 3 ((GU (JQ u ex 0 w ((DC n).take j)) T).map eO))]) 0 (by omega) ?_;clear p1;intro j p1 ih;by_cases hj:j<n.nodes.length
  ·obtain ⟨nd,hnd⟩ : ∃ nd,n.nodes[j]? = some nd:=⟨_,zE hj⟩
   have zp:n.nodes[(j:Int).toNat]? = some nd:=hnd;have fc:(DC n)[j]? = some nd.ts:=by simp [DC,hnd]
   have Ku:=Ah j p1;have ib:=iw j p1;have mg:=se j nd.ts fc;have Ej:=gF h4 hnd;have hL:nd.ts.length<=5:=hlen _ (zM hnd);have hC:=hn.cf _ (zM hnd);generalize hV:JQ u ex 0 w ((DC n).take j)=V at *;have Bn:=OU (l:=V) (m:=T) (by omega);have Ry : ∀ (p:Nat) (x:Rat),V[p]? = some x->(GU V T)[p]? = some (some x):=λ p x h=>Ang h
   have hFs : ∀ x:Rat,(GU V T).set (S+1+j) (some x)=GU (V++[x]) T:=λ x=>by rw[<-ib];exact PZ (by omega)
   have Sb : ∀ x y:Rat,(GU (V++[x]) T).set (S+1+j) (some y)=GU (V++[y]) T:=λ x y=>by
    rw[Adr (by rw[List.length_append,List.length_singleton];omega),<-ib,List.set_append,if_neg (by omega),Nat.sub_self];rfl
   have Sa : ∀ x:Rat,(GU (V++[x]) T).length=T:=λ x=>OU (by rw[List.length_append,List.length_singleton];omega)
   (repeat' ((first|(apply A9<;>intro hc<;>try omega)|apply BT|(refine CN (by assumption) ?_ rfl ?_;omega)|apply A2|refine AP (wu) ?_)<;>conv=>whnf))
   refine IX (λ t _=>nd.ts.length-t) (λ(t:Nat) (acc:Rat)=>t<=nd.ts.length/\acc=EX V (nd.ts.take t)) (λ t acc=>[(56,.int .i64 t)]) (λ t acc=>[(11,11,.bx (eQ acc))]) 0 (0:Rat) ⟨by omega,rfl⟩ ?_;intro t acc ⟨p3,p4⟩ jh;have mi:Bt 200125 acc:=by
    rw[p4];have a1:=Ku.sum (nd.ts.take t) (j:=24) (λ e he=>Bt.ofInt (hC e (List.mem_of_mem_take he)));refine a1.le (Nat.le_trans (zR _ (show (nd.ts.take t).length<=5 by rw[List.length_take];omega)) (by decide))
   by_cases ht:t<nd.ts.length
   ·obtain ⟨e,he⟩ : ∃ e,nd.ts[t]? = some e:=⟨_,zE ht⟩
    have jy:nd.ts[(t:Int).toNat]? = some e:=he;have Eb:=zM he;have k6:=List.all_eq_true.1 Ej e Eb;simp only[I6,decide_eq_true_eq]at k6;have Fm:=hC e Eb;obtain ⟨x,hx⟩ : ∃ x,V[e.1.toNat]? = some x:=⟨_,zE (by omega)⟩;have Co:=Ry _ _ hx;have Mt:((GU V T).map eO)[0+e.1.toNat]? = some (eO (some x)):=by rw[Nat.zero_add,List.getElem?_map,Co];rfl
    have vj:V.getD e.1.toNat 0=x:=by rw[List.getD_eq_getElem?_getD,hx];rfl
    have vu:=Ku.at hx;have qy:=Qh (vals:=V) he;rw[vj]at qy;have Ds:=YO N.toa5 vu (by omega);have hE:=IV N.toa5 e.2 (by have:(2:Nat)^24=16777216:=rfl;omega);have hM:=LL N.toa5 vu (Bt.ofInt Fm) (by omega) (by omega);have hA:=LK N.toa5 mi (vu.mul (Bt.ofInt Fm)) (by omega) (by omega);have z1:=V6 (x:=x);generalize v9 x.num=sx at *;generalize GU V T=F0 at *;by_cases q2:sx=0
    ·have oi:=z1.1 q2
     (repeat' ((first|(apply A9<;>intro hc<;>try omega)|(apply B5;omega)|(refine CN (by assumption) ?_ rfl ?_;omega)|apply A2)<;>conv=>whnf))
     refine QD Mt rfl ?_;(conv=>whnf)
     (repeat' ((first|(apply A9<;>intro hc<;>try omega)|(apply BG;omega)|refine AP (Ds) ?_)<;>conv=>whnf))
     have Ih:=jh (t+1) acc (by omega) ⟨by omega,by rw[qy,oi,Rat.mul_zero,Rat.add_zero];exact p4⟩;exact DP [] (by (conv=>whnf);exact ⟨rfl,rfl,rfl⟩) Ih
    ·(repeat' ((first|(apply A9<;>intro hc<;>try omega)|(apply B5;omega)|(refine CN (by assumption) ?_ rfl ?_;omega)|apply A2)<;>conv=>whnf))
     refine QD Mt rfl ?_;(conv=>whnf)
     (repeat' ((first|(apply A9<;>intro hc<;>try omega)|(apply B5;omega)|refine AP (Ds) ?_)<;>conv=>whnf))
     refine QD Mt rfl ?_;(conv=>whnf)
     (repeat' ((first|(apply BG;omega)|refine AP (hE) ?_|refine AP (hM) ?_|refine AP (hA) ?_)<;>conv=>whnf))
     have Ih:=jh (t+1) (acc+x*((e.2:Int):Rat)) (by omega) ⟨by omega,by rw[qy,<-p4,Rat.mul_comm]⟩;exact DP [] (by (conv=>whnf);exact ⟨rfl,rfl,rfl⟩) Ih
   ·obtain rfl:t=nd.ts.length:=by omega
    clear jh;rw[List.take_length]at p4;have hMu:=LL N.toa5 mi hu (by omega) (by omega);rw[<-p4]at mg;have s1:=hFs (acc*u);have s2:=Sb (acc*u) 1;have l2:=Sa (acc*u);generalize GU V T=F0 at *;by_cases q5:(j:Int)=ex
    ·have q7:=q5
     first
     | (exfalso;omega)
     |(rw[if_pos q5]at mg
       (repeat' ((first|(apply A9<;>intro hc<;>try omega)|(apply B5;omega)|(apply BG;omega)|apply A2|refine AP (hMu) ?_)<;>conv=>whnf))
       refine NA (enc:=eO) (S+1+j) (some (acc*u)) (by omega) rfl (λ e=>by cases e<;>rfl) (by omega) ?_;rw[s1];generalize GU (V++[acc*u]) T=F1 at *;(conv=>whnf)
       (repeat' ((first|(apply A9<;>intro hc<;>try omega)|(apply B5;omega)|(apply BG;omega)|refine AP (wv) ?_)<;>conv=>whnf))
       refine NA (enc:=eO) (S+1+j) (some 1) (by omega) rfl (λ e=>by cases e<;>rfl) (by omega) ?_;rw[s2,<-mg];(conv=>whnf)
       (repeat' ((first|(apply BG;omega)|fail)<;>conv=>whnf))
       exact CZ [] (ih (j+1) (by omega) (by omega)))
    ·rw[if_neg q5]at mg
     (repeat' ((first|(apply A9<;>intro hc<;>try omega)|(apply B5;omega)|(apply BG;omega)|apply A2|refine AP (hMu) ?_)<;>conv=>whnf))
     refine NA (enc:=eO) (S+1+j) (some (acc*u)) (by omega) rfl (λ e=>by cases e<;>rfl) (by omega) ?_;rw[s1,<-mg];(conv=>whnf)
     (repeat' ((first|(apply A9<;>intro hc<;>try omega)|(apply BG;omega))<;>conv=>whnf))
     exact CZ [] (ih (j+1) (by omega) (by omega))
  ·obtain rfl:j=n.nodes.length:=by omega
   clear ih;have ib:=iw n.nodes.length p1;rw[QX (by omega)];(repeat' ((first|(apply A9<;>intro hc<;>try omega)|apply A2)<;>conv=>whnf))
   refine ⟨⟨rfl,rfl,by rw[List.length_map];omega,rfl,LW _⟩,?_⟩;(conv=>whnf)
   refine FO (enc:=eQ) (λ_=>rfl) rfl (by omega) ?_;(conv=>whnf)
   exact BV rfl (by simp only[B3,true_and];exact LW _)
theorem Al5 (N:w7 L) (n:Nt) (fr:Nat) (hn:F4 n) (hf:(fr:Int)<=n.s+n.nodes.length):NM L 351 [.agg (FS n),.int .i64 (fr:Int)] 3 ((KJ n fr).map eQ):=NM.x N.L4 rfl rfl (Zc (AdD N n fr hn hf) λ_ _ h=>h.1)
theorem AcC (N:w7 L) (n:Nt) (fr:Nat) (hn:F4 n) (hf:(fr:Int)<=n.s+n.nodes.length):Ev L 351 [.agg (FS n),.int .i64 (fr:Int)] (.sl false ((KJ n fr).map eQ)):=Ev.x N.L4 rfl rfl (Zc (AdD N n fr hn hf) λ_ _ h=>h.2)
theorem Am3 (I:c5 L) (N:w7 L) (n:Nt) (hn:F4 n):Ev L 349 [.agg (FS n)] (.bool true):=by
 have hV:=vC n I N.toy6;rw[hn.dj]at hV;have:=hn.st
 refine Ev.x N.TP rfl rfl ?_;(repeat' ((first|(apply A9<;>intro hc<;>try omega)|apply A2|refine AP (hV) ?_)<;>conv=>whnf))
 exact JO rfl
theorem AlX (N:w7 L) (a b:Rat) (v:Int) (k:Nat) (ha:Bt k a) (hb:Bt k b) (hk:k<=1000000000000) (hv:v.natAbs<=2^24):Ev L 353 [.agg (eQ a++eQ b),.int .i64 v] (.agg (eQ (a*(v:Rat)+b))):=by
 have hO:=IV N.toa5 v (by have:(2:Nat)^24=16777216:=rfl;omega);have hM:=LL N.toa5 ha (Bt.ofInt hv) (by omega) (by omega);have hA:=LK N.toa5 (ha.mul (Bt.ofInt hv)) hb (by omega) (by omega);refine Ev.x N.S5 rfl rfl ?_;(repeat' ((first|apply A2|refine AP (hO) ?_|refine AP (hM) ?_|refine AP (hA) ?_)<;>conv=>whnf))
 exact BV rfl (GD _)
def IL (C:List (List Rat)) (v:Nat):List Rat:=C.map λ c=>c.getD v 0
theorem AcR (N:w7 L) (q q':Bool) (C:List (List Rat)) (v:Nat) (hl:C.length<=1000000) (hv : ∀ c∈C,v<c.length):Ev L 352 [.sl q (MH q' C),.int .i64 (v:Int)] (.sl false ((IL C v).map eQ)):=by
 refine Ev.x N.TI rfl rfl ?_;(repeat' ((first|apply BT|apply A2)<;>conv=>whnf))
 refine GJ (enc:=eO) none C.length rfl rfl (by omega) ?_;(conv=>whnf)
 (repeat' (apply BT<;>conv=>whnf))
 refine G6 (λ i=>C.length-i) (λ(i:Nat)=>i<=C.length) (λ i=>[(12,.int .i64 i)]) (λ i=>[(9,9,.rw 3 ((GU ((IL C v).take i) C.length).map eO))]) [] [] 0 (by rw[List.take_zero,QY];exact (by (conv=>whnf);exact ⟨rfl,rfl,rfl⟩)) (by omega) ?_;intro i p1 ih;have gj:(IL C v).length=C.length:=List.length_map _;have kp:((IL C v).take i).length=i:=by rw[List.length_take,gj];omega
 have Pb:=OU (l:=(IL C v).take i) (m:=C.length) (by omega);by_cases hi:i<C.length
 ·obtain ⟨c,hc⟩ : ∃ c,C[i]? = some c:=⟨_,zE hi⟩
  have y5:C[(i:Int).toNat]? = some c:=hc;have ae:=hv c (zM hc);obtain ⟨x,hx⟩ : ∃ x,c[v]? = some x:=⟨_,zE ae⟩;have nr:c[(v:Int).toNat]? = some x:=hx;have hy:(IL C v)[i]? = some x:=by rw[IL,List.getElem?_map,hc,Option.map_some,List.getD_eq_getElem?_getD,hx];rfl
  have hs:=PZ (l:=(IL C v).take i) (m:=C.length) (x:=x) (by omega);rw[kp,<-OG hy]at hs;generalize GU ((IL C v).take i) C.length=F0 at *;(repeat' ((first|(apply A9<;>intro hc<;>try omega)|(apply B5;omega)|(refine CN (by assumption) ?_ rfl ?_;omega)|apply A2)<;>conv=>whnf))
  refine KS (enc:=eO) (some x) rfl (λ e=>by cases e<;>rfl) (by omega) ?_;(conv=>whnf)
  rw[hs];(repeat' ((first|(apply BG;omega)|fail)<;>conv=>whnf))
  exact CZ [] (ih (i+1) (by omega) (by omega))
 obtain rfl:i=C.length:=by omega
 clear ih;rw[zT (by omega),QX gj];(repeat' ((first|(apply A9<;>intro hc<;>try omega)|apply A2)<;>conv=>whnf))
 refine FO (enc:=eQ) (λ_=>rfl) rfl (by omega) ?_;(conv=>whnf)
 skip
 exact BV rfl (by simp only[B3,true_and];exact LW _)
def X4 (n:Nt) (ts:List (Int × Int)):Bool:=ts.all λ t=>decide (t.2%pw n.c.f=0)
def HG (n:Nt) (nd:Nd):Rat:=if X4 n nd.ts=true then 0 else if n.d.r=2 then Rat.divInt 1 2 else 1
theorem Ahd {n:Nt} {ts:List (Int × Int)} {i:Nat} {t:Int × Int} (h:ts[i]? = some t):X4 n (ts.take (i+1))=(X4 n (ts.take i)&&decide (t.2%pw n.c.f=0)):=by
 rw[List.take_add_one,h,Option.toList_some,X4,List.all_append];simp [X4]
theorem Amd (N:w7 L) (n:Nt) (hn:F4 n) (k:Nat) (nd:Nd) (hnd:n.nodes[k]? = some nd):Ev L 350 [.agg (FS n),.int .i64 (k:Int)] (.agg (eQ (HG n nd))):=by
 obtain ⟨h1,h2,⟨h3a,h3b,h3c,h3d⟩,h4,h5,h6⟩:=(F5 n).1 hn.dj;have Di:=h2;unfold WV at Di;have zp:n.nodes[(k:Int).toNat]? = some nd:=hnd;have wu:=IV N.toa5 0 (by omega);have wv:=IV N.toa5 1 (by omega);have hF:=Acv N.toax 1 2 (by omega) (by omega) (by omega);rw[show ((0:Int):Rat)=0 from rfl]at wu;rw[show ((1:Int):Rat)=1 from rfl]at wv;have xb:=HY n.c.f;have hC:=hn.cf _ (zM hnd);have Oz:=(zS hnd).1;have hL:nd.ts.length<=5:=by
  rcases hn.tl with h|⟨_,h⟩
  ·have:=h _ (zM hnd);omega
  ·exact h _ (zM hnd)
 refine Ev.x N.TH rfl rfl ?_;(repeat' ((first|(refine IY ?_ (λ_ _ => ?_);omega)|apply BT|(refine CN (by assumption) ?_ rfl ?_;omega)|apply A2)<;>conv=>whnf))
 refine IX (λ i _=>nd.ts.length-i) (λ(i:Nat) (b:Bool)=>i<=nd.ts.length/\b=X4 n (nd.ts.take i)) (λ i b=>[(20,.int .i64 i),(6,.bool b)]) (λ_ _=>[]) 0 true ⟨by omega,by simp [X4]⟩ ?_;intro i b ⟨p1,p2⟩ ih;by_cases hi:i<nd.ts.length
 ·obtain ⟨t,ht⟩ : ∃ t,nd.ts[i]? = some t:=⟨_,zE hi⟩
  have pd:nd.ts[(i:Int).toNat]? = some t:=ht;have hw:=Ahd (n:=n) ht;rw[<-p2]at hw;by_cases hz:t.2%pw n.c.f=0
  ·rw[decide_eq_true hz,Bool.and_true]at hw
   (repeat' ((first|(apply A9<;>intro hc<;>try omega)|(apply BG;omega)|(refine WW ?_ (λ_ _ _ => ?_) (λ_ _ _ _ => ?_);omega;all_goals try omega)|(refine CN (by assumption) ?_ rfl ?_;omega)|apply A2)<;>conv=>whnf))
   exact CZ [] (ih (i+1) b (by omega) ⟨by omega,hw.symm⟩)
  ·rw[decide_eq_false hz,Bool.and_false]at hw
   (repeat' ((first|(apply A9<;>intro hc<;>try omega)|(apply BG;omega)|(refine WW ?_ (λ_ _ _ => ?_) (λ_ _ _ _ => ?_);omega;all_goals try omega)|(refine CN (by assumption) ?_ rfl ?_;omega)|apply A2)<;>conv=>whnf))
   all_goals exact CZ [] (ih (i+1) false (by omega) ⟨by omega,hw.symm⟩)
 have ei:i=nd.ts.length:=by omega
 clear ih;rw[ei,List.take_length]at p2;cases b
 ·by_cases hr:n.d.r=2
  ·have e:HG n nd=Rat.divInt 1 2:=by rw[HG,<-p2,if_neg (by decide),if_pos hr]
   rw[e];(repeat' ((first|(apply A9<;>intro hc<;>try omega)|apply A2|refine AP (hF) ?_)<;>conv=>whnf))
   exact BV rfl (GD _)
  ·have e:HG n nd=1:=by rw[HG,<-p2,if_neg (by decide),if_neg hr]
   rw[e];(repeat' ((first|(apply A9<;>intro hc<;>try omega)|apply A2|refine AP (wv) ?_)<;>conv=>whnf))
   exact BV rfl (GD _)
 ·have e:HG n nd=0:=by rw[HG,<-p2,if_pos rfl]
  rw[e];(repeat' ((first|(apply A9<;>intro hc<;>try omega)|apply A2|refine AP (wu) ?_)<;>conv=>whnf))
  exact BV rfl (GD _)
end Go.b8

namespace Go.b8
set_option maxHeartbeats 2000000
structure E8 where
 g:List Rat
 l:Rat
 b:List Rat
def I1 (n:Nt):List (List Rat):=(List.range n.s.toNat).map λ j=>KJ n (1+j)
def aN (n:Nt):List (List Rat):=n.next.map λ v=>IL (I1 n) v.toNat
def dX (n:Nt) (g:List Rat):List Rat:=n.next.map λ v=>g.getD v.toNat 0
def IP (n:Nt) (i:Nat) (l:Rat):E8:=⟨KJ n i,l,dX n (KJ n i)⟩
def gR (n:Nt) (k:Nat):Option E8:=match n.nodes[k]? with
 | some nd=>if 0<HG n nd then some (IP n (1+n.s.toNat+k) (HG n nd)) else none
 | none=>none
def HB (n:Nt) (k:Nat):List E8:=(List.range k).filterMap (gR n)
def x7 (n:Nt):List E8:=IP n 0 1::HB n n.nodes.length
theorem zW (n:Nt) (k:Nat):HB n (k+1)=HB n k++(gR n k).toList:=by
 rw[HB,List.range_succ,List.filterMap_append];congr 1
theorem rI (n:Nt) : ∀ k,(HB n k).length<=k
 | 0=>by simp [HB]
 | k+1=>by
  rw[zW,List.length_append];have:=rI n k
  cases gR n k<;>simp<;>omega
theorem AoD (n:Nt) (nd:Nd):HG n nd=0\/HG n nd=Rat.divInt 1 2\/HG n nd=1:=by
 unfold HG;split
 ·exact Or.inl rfl
 ·split
  ·exact Or.inr (Or.inl rfl)
  ·exact Or.inr (Or.inr rfl)
theorem Z8 (n:Nt) (nd:Nd):Bt 1 (HG n nd)/\0<=HG n nd:=by
 rcases AoD n nd with h|h|h<;>rw[h]<;>exact ⟨⟨by decide,by decide⟩,by decide⟩
theorem pF {n:Nt} (hn:F4 n) (fr:Nat):(KJ n fr).length=n.s.toNat+1+n.nodes.length:=by
 obtain ⟨_,_,⟨h,_⟩,_⟩:=(F5 n).1 hn.dj;rw[KJ,wB,Y5];simp [DC];omega
theorem AdA {n:Nt} (hn:F4 n) (fr:Nat):Bs 40000 (KJ n fr):=by
 obtain ⟨_,h2,⟨h,_⟩,_⟩:=(F5 n).1 hn.dj;unfold WV at h2;have hu:Bt 24 (Rat.divInt 1 (pw n.c.f)):=by
  have e1:=HY n.c.f;have e2:=PC (n:=n.c.f) (m:=23) (by omega);have e3:pw 23=8388608:=by unfold pw;rfl
  obtain ⟨e,he⟩:=Int.eq_ofNat_of_zero_le (show 0<=pw n.c.f by omega);rw[he]at e2 ⊢;rw[Rat.divInt_ofNat];refine Bt.mk (by decide) ?_;show _<=16777216;omega
 have l7:(DC n).length=n.nodes.length:=by simp [DC]
 have:=AdB hn hu (ex:=(fr:Int)-(n.s+1)) (w:=EU (n.s+1).toNat fr) (Bs.unit _ _ _) n.nodes.length (Nat.le_refl _)
 rwa [<-l7,List.take_length]at this
structure WZ (n:Nt) (s:E8):Prop where
 gl:s.g.length=n.s.toNat+1+n.nodes.length
 gb:Bs 40000 s.g
 lb:Bt 1 s.l
 l0:0<=s.l
 b:s.b=dX n s.g
theorem zV {n:Nt} (hn:F4 n) (i:Nat) {l:Rat} (hl:Bt 1 l) (h0:0<=l):WZ n (IP n i l):=⟨pF hn i,AdA hn i,hl,h0,rfl⟩
theorem AqM {n:Nt} (hn:F4 n) {k:Nat} : ∀ s∈HB n k,WZ n s:=by
 intro s hs;simp only[HB,List.mem_filterMap,gR]at hs;obtain ⟨j,_,hj⟩:=hs;cases h:n.nodes[j]? with
 | none=>rw[h]at hj;cases hj
 | some nd =>
  simp only[h]at hj;by_cases hp:0<HG n nd
  ·rw[if_pos hp,Option.some.injEq]at hj
   rw[<-hj];exact zV hn _ (Z8 n nd).1 (Z8 n nd).2
  ·rw[if_neg hp]at hj;cases hj
theorem Aga {n:Nt} (hn:F4 n):WZ n (IP n 0 1):=zV hn 0 ⟨by decide,by decide⟩ (by decide)
theorem gU {n:Nt} (hn:F4 n) : ∀ s∈x7 n,WZ n s:=by
 intro s hs;rcases List.mem_cons.1 hs with rfl|hs
 ·exact Aga hn
 ·exact AqM hn s hs
theorem Agb {n:Nt} (hn:F4 n):1<=(x7 n).length/\(x7 n).length<=6:=by
 have:=rI n n.nodes.length
 have:=hn.nl
 simp only[x7,List.length_cons];omega
theorem fI {k:Nat} {l:List Rat} (h:Bs k l) (i:Nat):Bt k (l.getD i 0):=by
 rw[List.getD_eq_getElem?_getD];cases e:l[i]? with
 | none=>exact Bt.zero k
 | some x=>exact h.at e
theorem gE {n:Nt} (hn:F4 n):n.next.length=n.s.toNat /\ ∀ v∈n.next,0<=v/\v.toNat<n.s.toNat+1+n.nodes.length:=by
 obtain ⟨_,_,⟨h1,h2,h3,h4⟩,_,h5,_⟩:=(F5 n).1 hn.dj;refine ⟨by omega,λ v hv => ?_⟩;have:=of_decide_eq_true (List.all_eq_true.1 h5 v hv)
 omega
theorem Ajq {n:Nt} (hn:F4 n) (g:List Rat):(dX n g).length=n.s.toNat:=by
 rw[dX,List.length_map];exact (gE hn).1
theorem Ajp {n:Nt} {k:Nat} {g:List Rat} (hg:Bs k g):Bs k (dX n g):=by
 intro x hx;obtain ⟨v,_,rfl⟩:=List.mem_map.1 hx;exact fI hg _
theorem WZ.bl {n:Nt} {s:E8} (hn:F4 n) (h:WZ n s):s.b.length=n.s.toNat:=by rw[h.b];exact Ajq hn _
theorem WZ.bb {n:Nt} {s:E8} (h:WZ n s):Bs 40000 s.b:=by rw[h.b];exact Ajp h.gb
theorem nU (n:Nt):(I1 n).length=n.s.toNat:=by simp [I1]
theorem Aj4 {n:Nt} {j:Nat} (h:j<n.s.toNat):(I1 n)[j]? = some (KJ n (1+j)):=by
 rw[I1,List.getElem?_map,List.getElem?_range h];rfl
theorem Zt {n:Nt} (hn:F4 n) : ∀ c∈I1 n,c.length=n.s.toNat+1+n.nodes.length:=by
 intro c hc;obtain ⟨j,_,rfl⟩:=List.mem_map.1 hc;exact pF hn _
theorem yW (n:Nt) (v:Nat):(IL (I1 n) v).length=n.s.toNat:=by rw[IL,List.length_map,nU]
theorem yV {n:Nt} (hn:F4 n) (v:Nat):Bs 40000 (IL (I1 n) v):=by
 intro x hx;obtain ⟨c,hc,rfl⟩:=List.mem_map.1 hx;obtain ⟨j,_,rfl⟩:=List.mem_map.1 hc;exact fI (AdA hn _) _
theorem W1 {n:Nt} (hn:F4 n):Sq n.s.toNat (aN n):=by
 refine ⟨by rw[aN,List.length_map];exact (gE hn).1,λ r hr => ?_⟩;obtain ⟨v,_,rfl⟩:=List.mem_map.1 hr;exact yW n _
theorem nF {n:Nt} (hn:F4 n):Ms 40000 (aN n):=by
 intro r hr;obtain ⟨v,_,rfl⟩:=List.mem_map.1 hr;exact yV hn _
theorem Ahm {n kA kB:Nat} {a:List (List Rat)} {b:List Rat} {D E:Rat} (hs:Sq n a) (hA : ∀ r∈EW D a,∀ x∈r,Wh kA x) (hB : ∀ x∈b.map (· * E),Wh kB x) : ∀ j,∀ x∈GQ a b D E j,Wh (kB+j*(kA+n)) x
 | 0=>by
  rw[rW];intro x hx;exact (hB x hx).le (by omega)
 | j+1=>by
  rw[rV];intro x hx;refine (Ag8 hA (qY _ hs.r) (Ahm hs hA hB j) x hx).le ?_;simp only[Nat.succ_mul];omega
theorem vR {n:Nat} : ∀ {ls:List (List Rat)},(∀ r∈ls,r.length=n)->ls.flatten.length=ls.length*n
 | [],_=>by simp
 | r::l,h=>by
  rw[List.flatten_cons,List.length_append,vR λ x hx=>h x (List.mem_cons_of_mem _ hx),h r List.mem_cons_self,List.length_cons,Nat.succ_mul,Nat.add_comm]
def jG (n:Nt):Rat:=LA ((x7 n).map (·.b)).flatten
theorem Aj5 {n:Nt} (hn:F4 n) : ∃ E:Nat,jG n=(E:Rat)/\0<E/\Bt 960000 (E:Rat) /\ ∀ s∈x7 n,∀ x∈s.b.map (· * (E:Rat)),Wh 1000000 x:=by
 have hl:((x7 n).map (·.b)).flatten.length<=24:=by
  have h1:=(Agb hn).2;have h2:=hn.st;rw[vR (n:=n.s.toNat) (λ r hr=>by obtain ⟨s,hs,rfl⟩:=List.mem_map.1 hr;exact (gU hn s hs).bl hn),List.length_map];exact Nat.le_trans (Nat.mul_le_mul h1 (show n.s.toNat<=4 by omega)) (by omega)
 have hb:Bs 40000 ((x7 n).map (·.b)).flatten:=by
  intro x hx;obtain ⟨r,hr,hx⟩:=List.mem_flatten.1 hx;obtain ⟨s,hs,rfl⟩:=List.mem_map.1 hr;exact (gU hn s hs).bb x hx
 obtain ⟨E,e1,e2,e3,e4⟩:=kL rfl hb;refine ⟨E,e1,e2,(cI e3).le (by omega),λ s hs x hx => ?_⟩;obtain ⟨y,hy,rfl⟩:=List.mem_map.1 hx;exact (e4 _ (List.mem_map.2 ⟨y,List.mem_flatten.2 ⟨s.b,List.mem_map.2 ⟨s,hs,rfl⟩,hy⟩,rfl⟩)).le (by omega)
theorem AfU {n:Nt} (hn:F4 n) : ∃ D E:Nat,LA (aN n).flatten=(D:Rat)/\jG n=(E:Rat)/\0<D/\0<E/\Bt 640000 (D:Rat)/\Bt 960000 (E:Rat)/\Ms 680000 (EW (D:Rat) (aN n)) /\ ∀ s∈x7 n,∀ j,j<=128->Bs 90000000 (GQ (aN n) s.b (D:Rat) (E:Rat) j):=by
 obtain ⟨D,d1,d2,d3,d4⟩:=lN (W1 hn) (nF hn);obtain ⟨E,e1,e2,e3,e4⟩:=Aj5 hn;have j8:=hn.st;have Cf:n.s.toNat*n.s.toNat<=4*4:=Nat.mul_le_mul (by omega) (by omega);have Gl:n.s.toNat*n.s.toNat*40000<=640000:=Nat.le_trans (zR 40000 Cf) (by omega);refine ⟨D,E,d1,e1,d2,e2,(cI d3).le Gl,e3,λ r hr x hx=>((d4 r hr x hx).le (by omega)).bt,λ s hs j hj x hx => ?_⟩;have hA : ∀ r∈EW (D:Rat) (aN n),∀ x∈r,Wh 680000 x:=λ r hr x hx=>(d4 r hr x hx).le (by omega)
 refine ((Ahm (W1 hn) hA (e4 s hs) j x hx).le ?_).bt;have:=Nat.mul_le_mul hj (show 680000+n.s.toNat<=680004 by omega)
 omega
def bj (f:E8->Rat) (l:List E8):Rat:=l.foldl (λ a s=>a+f s) 0
theorem Aex (f:E8->Rat) (l:List E8) (s:E8):bj f (l++[s])=bj f l+f s:=by rw[bj,List.foldl_append];rfl
theorem pL {f:E8->Rat} {l:List E8} {i:Nat} {s:E8} (h:l[i]? = some s):bj f (l.take (i+1))=bj f (l.take i)+f s:=by
 rw[List.take_add_one,h,Option.toList_some,Aex]
theorem AoN {f g:E8->Rat} {l:List E8} (h : ∀ s∈l,f s=g s):bj f l=bj g l:=by
 have : ∀ (l:List E8) (a:Rat),(∀ s∈l,f s=g s)->l.foldl (λ a s=>a+f s) a=l.foldl (λ a s=>a+g s) a:=by
  intro l;induction l with
  | nil=>intro a _;rfl
  | cons s l ih =>
   intro a h;rw[List.foldl_cons,List.foldl_cons,h s List.mem_cons_self];exact ih _ λ x hx=>h x (List.mem_cons_of_mem _ hx)
 exact this l 0 h
theorem AoO (f g:E8->Rat) (l:List E8) (d:Rat):bj f l+bj g l/d=bj (λ s=>f s+g s/d) l:=by
 have : ∀ (l:List E8) (a b c:Rat),a+b/d=c->l.foldl (λ a s=>a+f s) a+l.foldl (λ a s=>a+g s) b/d=l.foldl (λ a s=>a+(f s+g s/d)) c:=by
  intro l;induction l with
  | nil=>intro a b c h;exact h
  | cons s l ih =>
   intro a b c h;refine ih _ _ _ ?_;show a+f s+(b+g s)/d=c+(f s+g s/d);rw[<-h,Rat.div_def,Rat.div_def,Rat.div_def,Rat.add_mul];grind
 exact this l 0 0 0 (by rw[Rat.div_def,Rat.zero_mul,Rat.add_zero])
theorem Aew {f:E8->Rat} {k:Nat} {l:List E8} (h : ∀ s∈l,Bt k (f s)):Bt (l.length*(k+1)) (bj f l):=by
 have : ∀ (l:List E8) (a:Rat) (m:Nat),(∀ s∈l,Bt k (f s))->Bt m a->Bt (m+l.length*(k+1)) (l.foldl (λ a s=>a+f s) a):=by
  intro l;induction l with
  | nil=>intro a m _ h;simpa using h
  | cons s l ih =>
   intro a m h1 h2;have:=ih (a+f s) (m+k+1) (λ x hx=>h1 x (List.mem_cons_of_mem _ hx)) (h2.add (h1 s List.mem_cons_self))
   exact this.le (by rw[List.length_cons,Nat.succ_mul];omega)
 have:=this l 0 0 h (Bt.zero 0)
 rwa [Nat.zero_add]at this
def NK (n:Nt) (s:E8) (v:Nat):FQ:=⟨aN n,s.b,IL (I1 n) v,s.g.getD v 0⟩
def OV (n:Nt) (p v:Nat):Rat:=H3 (NK n (IP n 0 1) v) p
def N8 (n:Nt) (p v:Nat):Rat:=bj (λ s=>s.l*H3 (NK n s v) p) (HB n n.nodes.length)
theorem Aq5 (S:FQ) (p:Nat):0<=H3 S p:=by
 have h1:=ZN S.d;have h2:=rN (f:=KF S.a S.b S.c) (λ j=>ZN _) (p+p);have h3:=rN (f:=λ j=>JY S.a S.b (p+j)) (λ j=>fO _) p;have h4:=Rat.mul_nonneg (qW S.c) h3;rw[H3];grind
theorem ApV (n:Nt) (p v:Nat):0<=OV n p v:=Aq5 _ _
end Go.b8

namespace Go.b8
set_option maxHeartbeats 2000000
theorem AbU (f:Int):Rat.divInt 1 (pw f)=1/((pw f:Int):Rat):=by
 have h:((pw f:Int):Rat)≠0:=by
  intro e;have:pw f=0:=by exact_mod_cast e
  have:=HY f
  omega
 rw[Rat.divInt_eq_div,show ((1:Int):Rat)=1 from rfl]
theorem AdJ (u:Rat) {ex:Int} (hx:ex<0) : ∀ (l:List (List (Int × Int))) (k:Nat) (vals:List Rat),JQ (1/u) ex k vals l=GT u (-1) k vals l
 | [],_,_=>rfl
 | ts::r,k,vals=>by
  rw[JQ,GT,if_neg (by omega),if_neg (by omega),AdJ u hx r,Rat.add_zero];rw[Rat.div_def,Rat.div_def,Rat.one_mul]
theorem Qk {vals:List Rat} (h : ∀ v∈vals,v=0) : ∀ ts,EX vals ts=0
 | []=>rfl
 | t::ts=>by
  have:vals.getD t.1.toNat 0=0:=by
   rw[List.getD_eq_getElem?_getD];cases e:vals[t.1.toNat]? with
   | none=>rfl
   | some x=>exact h x (zM e)
  rw[EX,Qk h ts,this];grind
theorem wD (u:Rat) (k0:Nat) : ∀ (l:List (List (Int × Int))) (k:Nat) (vals:List Rat),(k<=k0 -> ∀ v∈vals,v=0)->JQ (1/u) (k0:Int) k vals l=GT u (k0:Int) k vals l
 | [],_,_,_=>rfl
 | ts::r,k,vals,h=>by
  rw[JQ,GT];by_cases e:k=k0
  ·subst e
   rw[if_pos rfl,if_pos rfl,Qk (h (Nat.le_refl _)),wD u k r (k+1) _ (λ h2=>absurd h2 (by omega))];rw[Rat.div_def,Rat.zero_mul,Rat.zero_add]
  ·rw[if_neg (by omega),if_neg (by omega),Rat.add_zero,show EX vals ts*(1/u)=EX vals ts/u by rw[Rat.div_def,Rat.div_def,Rat.one_mul]]
   refine wD u k0 r (k+1) _ λ h2 v hv => ?_
   have hz:=h (by omega);rcases List.mem_append.1 hv with hv|hv
   ·exact hz v hv
   ·rw[List.mem_singleton.1 hv,Qk hz,Rat.div_def,Rat.zero_mul]
theorem Arl {m:Nat} {p q:Int} (hp:p<0\/(m:Int)<=p) (hq:q<0\/(m:Int)<=q):EU m p=EU m q:=by
 simp only[EU];refine List.map_congr_left λ j hj => ?_
 have:=List.mem_range.1 hj
 rw[if_neg (by omega),if_neg (by omega)]
variable {n:Nt}
theorem AdC (hb:HD n=true) {j:Nat} (hj:j<=n.s.toNat):KJ n j=ER n (j:Int) (-1):=by
 obtain ⟨_,_,⟨h0,_⟩,_⟩:=(F5 n).1 hb;rw[KJ,ER,AbU,AdJ _ (by omega),show (n.s+1).toNat=(1+n.s).toNat by omega]
theorem Ano (hb:HD n=true) (k:Nat):KJ n (1+n.s.toNat+k)=ER n (-1) (k:Int):=by
 obtain ⟨_,_,⟨h0,_⟩,_⟩:=(F5 n).1 hb;rw[KJ,ER,AbU,show ((1+n.s.toNat+k:Nat):Int)-(n.s+1)=(k:Int) by omega,show (n.s+1).toNat=(1+n.s).toNat by omega,Arl (q := -1) (by omega) (by omega)];refine wD _ k _ 0 _ λ_ v hv => ?_
 simp only[EU,List.mem_map,List.mem_range]at hv;obtain ⟨i,_,rfl⟩:=hv;rw[if_neg (by omega)]
theorem tQ (hb:HD n=true) (e:Int):IL (I1 n) e.toNat=fA n e:=by
 rw[IL,I1,fA,List.map_map];refine List.map_congr_left λ j hj => ?_
 have:=List.mem_range.1 hj
 show (KJ n (1+j)).getD e.toNat 0=_;rw[AdC hb (by omega),show ((1+j:Nat):Int)=(j:Int)+1 by omega]
theorem Adz (hb:HD n=true) (e:Int):(KJ n 0).getD e.toNat 0=gX n e:=by rw[AdC hb (by omega)];rfl
theorem Ady (hb:HD n=true) (k:Nat) (e:Int):(KJ n (1+n.s.toNat+k)).getD e.toNat 0=gK n k e:=by rw[Ano hb];rfl
theorem YC (hb:HD n=true):aN n=n.next.map (fA n):=List.map_congr_left λ e _=>tQ hb e
abbrev GN (n:Nt) (v:Nat):Nt:={ n with out:=(v:Int) }
theorem Agz (hb:HD n=true) (v:Nat):NK n (IP n 0 1) v=EN (GN n v):=by
 have e1:aN n=(EN (GN n v)).a:=YC hb;have e2:(IP n 0 1).b=(EN (GN n v)).b:=List.map_congr_left λ e _=>Adz hb e
 have e3:IL (I1 n) v=(EN (GN n v)).c:=tQ hb (v:Int);have e4:(IP n 0 1).g.getD v 0=(EN (GN n v)).d:=Adz hb (v:Int);rw[NK,e1,e2,e3,e4]
theorem Agy (hb:HD n=true) (k:Nat) (l:Rat) (v:Nat):NK n (IP n (1+n.s.toNat+k) l) v=K5 (GN n v) (k:Int):=by
 have e1:aN n=(K5 (GN n v) (k:Int)).a:=YC hb;have e2:(IP n (1+n.s.toNat+k) l).b=(K5 (GN n v) (k:Int)).b:=List.map_congr_left λ e _=>Ady hb k e
 have e3:IL (I1 n) v=(K5 (GN n v) (k:Int)).c:=tQ hb (v:Int);have e4:(IP n (1+n.s.toNat+k) l).g.getD v 0=(K5 (GN n v) (k:Int)).d:=Ady hb k (v:Int);rw[NK,e1,e2,e3,e4]
def KL (n:Nt) (k:Nat):Rat:=match n.nodes[k]? with
 | some nd=>HG n nd
 | none=>0
theorem Aef (k:Nat):0<=KL n k:=by
 unfold KL;cases n.nodes[k]? with
 | none=>exact Rat.le_refl
 | some nd=>exact (Z8 n nd).2
theorem AfF (hb:HD n=true) (p v:Nat) : ∀ K,bj (λ s=>s.l*H3 (NK n s v) p) (HB n K)=o0 (KL n) (λ k=>H3 (K5 (GN n v) (k:Int)) p) K
 | 0=>rfl
 | K+1=>by
  rw[zW,o0,<-AfF hb p v K,gR,KL];cases h:n.nodes[K]? with
  | none =>
   show bj _ (HB n K++[])=_+0*_;rw[List.append_nil,Rat.zero_mul,Rat.add_zero]
  | some nd =>
   show bj _ (HB n K++(if 0<HG n nd then some (IP n (1+n.s.toNat+K) (HG n nd)) else none).toList)=_+HG n nd*_;by_cases hp:0<HG n nd
   ·rw[if_pos hp,Option.toList_some,Aex,Agy hb];rfl
   ·have h0:HG n nd=0:=by have:=(Z8 n nd).2;grind
    rw[if_neg hp,h0,Rat.zero_mul,Rat.add_zero,Option.toList_none,List.append_nil]
theorem AfE (hb:HD n=true) (p v:Nat):N8 n p v=o0 (KL n) (λ k=>H3 (K5 (GN n v) (k:Int)) p) n.nodes.length:=AfF hb p v _
theorem Afr (hb:HD n=true) (p v:Nat):OV n p v=H3 (EN (GN n v)) p:=by rw[OV,Agz hb]
end Go.b8

namespace Go.b8
open F
set_option maxHeartbeats 8000000
variable {L:Lib}
def aV (M:Mem):Mem->Prop
 | []=>True
 | (k,s,c)::r=>c4 M k=some (s,c)/\aV M r
theorem aV.get {M:Mem} : ∀ {M0:Mem},aV M M0 -> ∀ k s c,c4 M0 k=some (s,c)->c4 M k=some (s,c)
 | [],_,_,_,_,e=>by cases e
 | (i,s0,c0)::r,h,k,s,c,e=>by
  simp only[c4]at e;cases hb:Nat.beq k i<;>simp only[hb,cond_true,cond_false]at e
  ·exact aV.get h.2 k s c e
  ·rw[EF.1 hb,<-e];exact h.1
theorem NP.sub {σ:JX} {own:BD} {M M0:Mem} (h:NP σ own M) (hm:aV M M0):NP σ own M0:=by
 have hr : ∀ k t c,b9 M0 k t=some c->b9 M k t=some c:=λ k t c e=>by
  obtain ⟨s,c0,g,_⟩:=NE e;have g2:=hm.get k s c0 g;unfold b9 at e ⊢;rw[g]at e;rw[g2];exact e
 exact ⟨λ k s c e=>h.site k s c (hm.get k s c e),λ k t c e=>h.c9 k t c (hr k t c e),λ k t c e=>h.old k t c (hr k t c e),λ k t k' t' c c' e e'=>h.inj k t k' t' c c' (hr k t c e) (hr k' t' c' e'),λ k t c e=>h.low k t c (hr k t c e)⟩
theorem sA {f:Nat} {vs:List AV} {tm:Tm} {M:Mem} {K:AV->Mem->Prop} (h:CQ L f vs tm M λ r M' => ∃ M1,aV M' M1/\K r M1):CQ L f vs tm M K:=by
 intro σ own hs;obtain ⟨r,n6,σ',M',h1,h2,h3,M1,h4,h5⟩:=h σ own hs;exact ⟨r,n6,σ',M1,h1,h2.sub h4,h3,h5⟩
def qB (ks:List Nat):AV->Bool
 | .row k t _ _ _=>Nat.beq t 0&&O9 k ks
 | .ptr k t _ _=>Nat.beq t 0&&O9 k ks
 | _=>true
def kU (ks:List Nat):List AV->Bool
 | []=>true
 | v::r=>qB ks v&&kU ks r
def xZ (ks:List Nat):AV->Bool
 | .agg cs=>kU ks cs
 | .fn _ _ _ cs=>kU ks cs
 | v=>qB ks v
def qC (ks:List Nat):List AV->Bool
 | []=>true
 | v::r=>xZ ks v&&qC ks r
def yA (ks:List Nat):AV->Bool
 | .g8 vs=>qC ks vs
 | v=>xZ ks v
def qD (ks:List Nat):Tm->Bool
 | []=>true
 | (_,v)::r=>yA ks v&&qD ks r
theorem Aez {k:Nat} : ∀ {l:List Nat},O9 k l=true->k∈l
 | [],h=>by cases h
 | j::r,h=>by
  simp only[O9]at h;cases hb:Nat.beq k j<;>simp only[hb,cond_true,cond_false]at h
  ·exact List.mem_cons_of_mem _ (Aez h)
  ·rw[EF.1 hb];exact List.mem_cons_self
section
variable {ks:List Nat} {σ σ':JX} (hs : ∀ k∈ks,σ' k 0=σ k 0)
include hs
theorem lS {v:AV} (h:qB ks v=true):C2 σ' v=C2 σ v:=by
 cases v<;>try rfl
 all_goals
  simp only[qB,Bool.and_eq_true]at h;have h1:=EF.1 h.1;have h2:=hs _ (Aez h.2);subst h1;simp only[C2,h2]
theorem Qe : ∀ {l:List AV},kU ks l=true->l.map (C2 σ')=l.map (C2 σ)
 | [],_=>rfl
 | v::r,h=>by
  simp only[kU,Bool.and_eq_true]at h;rw[List.map_cons,List.map_cons,lS hs h.1,Qe h.2]
theorem Qc {v:AV} (h:xZ ks v=true):DK σ' v=DK σ v:=by
 cases v with
 | agg cs=>simp only[DK];rw[Qe hs h]
 | fn p f g cs=>simp only[DK];rw[Qe hs h]
 | row k t z o n=>exact lS hs (v := .row k t z o n) h
 | ptr k t i j=>exact lS hs (v := .ptr k t i j) h
 | _=>rfl
theorem Age : ∀ {l:List AV},qC ks l=true->l.map (DK σ')=l.map (DK σ)
 | [],_=>rfl
 | v::r,h=>by
  simp only[qC,Bool.and_eq_true]at h;rw[List.map_cons,List.map_cons,Qc hs h.1,Age h.2]
theorem AqO {v:AV} (h:yA ks v=true):C8 σ' v=C8 σ v:=by
 cases v with
 | g8 vs=>simp only[C8];rw[Age hs h]
 | agg cs=>exact Qc hs (v := .agg cs) h
 | fn p f g cs=>exact Qc hs (v := .fn p f g cs) h
 | row k t z o n=>exact lS hs (v := .row k t z o n) h
 | ptr k t i j=>exact lS hs (v := .ptr k t i j) h
 | _=>rfl
end
theorem Ae4 {ks:List Nat} : ∀ {tm:Tm},qD ks tm=true -> ∀ j,yA ks (tg tm j)=true
 | [],_,_=>rfl
 | (i,v)::r,h,j=>by
  simp only[qD,Bool.and_eq_true]at h;simp only[tg];cases hb:Nat.beq j i<;>simp only[cond_true,cond_false]
  ·exact Ae4 h.2 j
  ·exact h.1
def mF:Nat->List Nat->Tm
 | _,[]=>[]
 | i,k::r=>(i,.ptr k 0 0 0)::mF (i+1) r
abbrev mH (ks:List Nat):Tm:=mF 0 ks
theorem AgE : ∀ {ks:List Nat} {i k:Nat},k∈ks -> ∃ j,i<=j/\tg (mF i ks) j = .ptr k 0 0 0
 | [],_,_,h=>by cases h
 | j::r,i,k,h=>by
  rcases List.mem_cons.1 h with rfl|e
  ·exact ⟨i,Nat.le_refl _,by simp [mF,tg]⟩
  ·obtain ⟨a,h1,h2⟩:=AgE (i:=i+1) e
   refine ⟨a,by omega,?_⟩;simp only[mF,tg];rw[J6.2 (show a≠i by omega),cond_false];exact h2
theorem sB {f:Nat} {vs:List AV} {tm:Tm} {M:Mem} {K:AV->Mem->Prop} (ks:List Nat) (M0:Mem) (hm:aV M M0) (ht:qD ks tm=true) (h:CQ L f vs (mH ks) M0 K):CQ L f vs tm M K:=by
 intro σ own hs;obtain ⟨r,n6,σ',M',h1,h2,h3,h4⟩:=h σ own (hs.sub hm);refine ⟨r,n6,σ',M',h1,h2,λ j => ?_,h4⟩;refine AqO (λ k hk => ?_) (Ae4 ht j);obtain ⟨j,_,hj⟩:=AgE (i:=0) hk;have:=h3 j
 rw[show tg (mH ks) j=_ from hj]at this;simp only[C8,DK,C2,AV.ptr.injEq]at this;exact Prod.ext this.1 this.2.1
abbrev OT (w:Bool) (P:E8->List (List Rat) × Rat) (s:E8):List AV :=
 .sl false (s.g.map eQ) :: .bool (decide (s.l.num<0)) :: .sl false ((dg s.l.num.natAbs).map BF) :: .sl false ((dg s.l.den).map BF)::(bif w then .sl true (YI (P s).1)::NX true (P s).2 else [.nil,.bool false,.nil,.nil])
def PA (ss:List E8) (P:E8->List (List Rat) × Rat) (i:Nat):List (List AV):=(ss.take i).map (OT true P)++(ss.drop i).map (OT false P)
theorem AoU (ss:List E8) (P:E8->List (List Rat) × Rat):PA ss P 0=ss.map (OT false P):=by simp [PA]
theorem AoT (ss:List E8) (P:E8->List (List Rat) × Rat):PA ss P ss.length=ss.map (OT true P):=by simp [PA]
theorem AiA {ss:List E8} {P:E8->List (List Rat) × Rat} {i:Nat} {s:E8} {K:List (List AV)->Prop} (hs:ss[i]? = some s) (hk:K (PA ss P (i+1))):CK (PA ss P i) (0+((i:Int)).toNat) 4 (.sl true (YI (P s).1)::NX true (P s).2) K:=by
 have hi:=(zS hs).1;have hl:((ss.take i).map (OT true P)).length=i:=by rw[List.length_map,List.length_take];omega
 have hg:(PA ss P i)[i]? = some (OT false P s):=by
  rw[PA,List.getElem?_append_right (by rw[hl];omega),hl,Nat.sub_self,List.getElem?_map,List.getElem?_drop,Nat.add_zero,hs];rfl
 rw[Nat.zero_add,Int.toNat_natCast];refine ⟨_,hg,Nat.le_refl 8,?_⟩;have:(PA ss P i).set i (splice (OT false P s) 4 (.sl true (YI (P s).1)::NX true (P s).2))=PA ss P (i+1):=by
  have e1:splice (OT false P s) 4 (.sl true (YI (P s).1)::NX true (P s).2)=OT true P s:=rfl;rw[e1,PA,PA,List.set_append_right _ _ (by rw[hl];omega),hl,Nat.sub_self,List.take_add_one,hs,List.map_append,List.append_assoc];congr 1;rw[List.drop_eq_getElem_cons hi,List.map_cons,List.set_cons_zero];have:ss[i]=s:=(zS hs).2
  rw[<-this];rfl
 rw[this];exact hk
def KD (S:Nat) (T:List (List Rat)) (i:Nat):List (Option (Nat × List (List AV))):=if S=0 then List.replicate T.length none else mz T T.length i
theorem Ajo (S:Nat) (T:List (List Rat)):KD S T 0=List.replicate T.length none:=by
 unfold KD;split
 ·rfl
 ·exact xQ T _
theorem Ajj {S:Nat} {T:List (List Rat)} {i:Nat} (hi:i<=T.length):(KD S T i).length=T.length:=by
 unfold KD;split
 ·exact List.length_replicate
 ·exact xO hi
theorem Ajl {S:Nat} {T:List (List Rat)} {i:Nat} (hi:i<T.length):(KD S T i)[i]? = some none:=by
 unfold KD;split
 ·rw[List.getElem?_replicate,if_pos hi]
 ·have hl:(HA 3 eQ (T.take i)).length=i:=by simp only[HA,List.length_map,List.length_take];omega
  have:=vY (z:=(none:Option (Nat × List (List AV)))) (l:=HA 3 eQ (T.take i)) (m:=T.length) (by omega)
  rw[hl]at this;exact this
theorem Ajn {S:Nat} {T:List (List Rat)} {i:Nat} {r:List Rat} (h0:S≠0) (h:T[i]? = some r):(KD S T i).set i (some (3,r.map eQ))=KD S T (i+1):=by
 rw[KD,if_neg h0,KD,if_neg h0];exact xP h (zS h).1
theorem Ajm {T:List (List Rat)} (i j:Nat):KD 0 T i=KD 0 T j:=by rw[KD,KD,if_pos rfl,if_pos rfl]
theorem Aji {S:Nat} {T:List (List Rat)} (h0:S≠0):KD S T T.length=HA 3 eQ T:=by rw[KD,if_neg h0];exact xN rfl
theorem Ajk (T:List (List Rat)) (i:Nat):KD 0 T i=List.replicate T.length none:=by rw[KD,if_pos rfl]
theorem AfC (q:Bool) : ∀ n:Nat,XT q (List.replicate n none)=List.replicate n [.sl false []]
 | 0=>rfl
 | n+1=>by rw[List.replicate_succ,List.replicate_succ];simp only[XT];rw[AfC q n]
theorem Aiy {q:Bool} {n off len:Nat} {K:List (List AV)->Prop} (ho:off=0) (hl:len=n) (h:K (List.replicate n [.sl false []])):FK q (List.replicate n none) off len K:=by
 refine ⟨ho,by rw[List.length_replicate];exact hl,λ z es hm => ?_,by rw[AfC];exact h⟩;have:=List.eq_of_mem_replicate hm
 cases this
theorem Alm (q:Bool) {T:List (List Rat)} (h : ∀ r∈T,r=[]):MH q T=List.replicate T.length [.sl q []]:=by
 refine List.eq_replicate_iff.2 ⟨by rw[List.length_map],λ x hx => ?_⟩;obtain ⟨r,hr,rfl⟩:=List.mem_map.1 hx;rw[h r hr];rfl
end Go.b8

namespace Go.b8
open F
attribute [local irreducible] AJ A3 BU AU FE BR C1 CK DS DE FA G7 DR B2 EH E5 AL CQ BC pw FM E2 F7 G8 GX EG FK EE FZ
variable {L:Lib}
set_option maxHeartbeats 16000000
set_option maxRecDepth 8000
def mM (n:Nt) (sc:Nat) (X:Mem) (ks:List Nat):Prop:=(X=[(1,sc,.bx (FS n))]/\ks=[1])\/(X=[(2,sc,.bx (FS n))]/\ks=[2])\/X=[(3,sc,.bx (FS n)),(6,6,.bx [.bool false,.nil,.nil])]/\ks=[3,6]
abbrev Aey (X:Mem) (S m:Nat) (n:Nt) (eng:List AV) (C:List (List Rat)) (row:List (List AV)):Mem :=
 X++[(356001,356001,.bx (FS n)),(356004,356004,.bx [.row 356017 0 1 0 S]),(356017,356017,.mx (HA 3 eQ C)),(356009,356009,.bx eng),(356011,356011,.bx [.row 356057 0 8 0 m]),(356057,356057,.rw 8 row)]
theorem AjA (N:w7 L) (n:Nt) (hn:F4 n) (X:Mem) (ks:List Nat) (sc:Nat) (hX:mM n sc X ks) (R:List (List Rat)) (D U E:Rat) (p:Nat) (C:List (List Rat)) (ss:List E8) (P:E8->List (List Rat) × Rat) (hs : ∀ s∈ss,WZ n s) (hm:ss.length<=6)
  (hE:E=LA (ss.map (·.b)).flatten) (Dn:Bt 960000 E)
  (hW : ∀ s∈ss,Ev L 304 [.agg (MG false R D (p:Int) U),.sl false ((s.b.map (· * E)).map eQ)] (.agg (ZW (P s).1 (P s).2))) (hP : ∀ s,(P s).1≠[]) (K:AV->Mem->Prop)
  (hK:K (.agg (eQ E)) (Aey X n.s.toNat ss.length n (MG false R D (p:Int) U) C (ss.map (OT true P)))) :
  CQ L 355 [.agg (MG false R D (p:Int) U),.agg (FS n),.row 356057 0 8 0 ss.length] (mH (ks++[356001,356004,356009,356011,356057])) (Aey X n.s.toNat ss.length n (MG false R D (p:Int) U) C (ss.map (OT false P))) K:=by
 obtain ⟨eu,si⟩:=gE hn;have j8:=hn.st;have zs:=hn.nl;obtain ⟨S,hS⟩ : ∃ S:Nat,n.s.toNat=S:=⟨_,rfl⟩;rw[hS]at eu si;obtain ⟨T,hT⟩ : ∃ T:List (List Rat),T=ss.map (·.b):=⟨_,rfl⟩;have Oa:T.length=ss.length:=by rw[hT,List.length_map]
 have Kk : ∀ (i:Nat) (s:E8),ss[i]? = some s->T[i]? = some s.b:=λ i s h=>by rw[hT,List.getElem?_map,h];rfl
 have hTr : ∀ r∈T,r.length=S:=λ r hr=>by
  rw[hT]at hr;obtain ⟨s,h,rfl⟩:=List.mem_map.1 hr;rw[(hs s h).bl hn,hS]
 have Su:Ms 40000 T:=λ r hr=>by
  rw[hT]at hr;obtain ⟨s,h,rfl⟩:=List.mem_map.1 hr;exact (hs s h).bb
 have rq:=λ q q'=>jX N.ton8 q q' T 40000 Su (by rw[vR hTr,Oa];have:=Nat.mul_le_mul hm (show S<=4 by omega);omega) (by omega) (by omega)
 rw[<-hT]at hE;rw[<-hE]at rq;have Ob:=λ(s:E8) (xj:s∈ss) (q:Bool)=>jY N.ton8 q s.b E 40000 960000 (hs s xj).bb Dn (by omega) (by omega) (by have:=(hs s xj).bl hn;omega)
 have nf : ∀ s∈ss,s.b.length=S:=λ s h=>by rw[(hs s h).bl hn,hS]
 have Tq : ∀ s∈ss,∀ (j:Nat) (v:Int),n.next[j]? = some v->s.b[j]? = some (s.g.getD v.toNat 0):=λ s h j v hv=>by
  rw[(hs s h).b,dX,List.getElem?_map,hv];rfl
 have Fx : ∀ s∈ss,s.g.length=S+1+n.nodes.length:=λ s h=>by rw[(hs s h).gl,hS]
 have hmz:=AoU ss P;have hmf:=AoT ss P;rw[hS]at hK ⊢;refine sA ?_;unfold mM at hX;rcases hX with ⟨rfl,rfl⟩|⟨rfl,rfl⟩|⟨rfl,rfl⟩
 all_goals
  refine JV 1000 N.TF rfl rfl ?_;(repeat' (apply A2<;>conv=>whnf))
  unfold GX;refine ⟨⟨by omega,by omega,by simp only[I3];omega,by omega⟩,?_⟩;rw[Int.toNat_natCast];(conv=>whnf)
  skip
  refine G6 (λ i=>ss.length-i) (λ(i:Nat)=>i<=ss.length) (λ i=>[(19,.int .i64 i)]) (λ i=>[(355016,355016,.mx (KD S T i))]) [] [] 0 (by rw[Ajo,Oa];exact (by (conv=>whnf);exact ⟨rfl,rfl,rfl⟩)) (by omega) ?_;intro i p1 ih;have gj:=Ajj (S:=S) (T:=T) (i:=i) (by omega);by_cases hi:i<ss.length
  ·obtain ⟨s,Cm⟩ : ∃ s,ss[i]? = some s:=⟨_,zE hi⟩
   have cq:=zM Cm;have xp:=Kk i s Cm;have AI3:=nf s cq;have AJk:=Fx s cq;have Kr:=Tq s cq;have iu:=Ajl (S:=S) (T:=T) (i:=i) (by omega);have jl:=λ h0:S≠0=>Ajn h0 xp
   have qt:S=0->KD S T i=KD S T (i+1):=λ h=>by subst h;exact Ajm _ _
   generalize KD S T i=R0 at *;(repeat' ((first|(apply A9<;>intro hc<;>try omega)|(apply B5;omega)|apply BT|(refine dT ?_ (λ_=>rfl) (λ v hv => ?_);omega)|apply A2)<;>conv=>whnf))
   cases Cm.symm.trans hv;skip
   rcases Nat.eq_zero_or_pos S with h0|h0
   ·have Wn:=qt h0
    refine JN ?_;(repeat' ((first|(apply A9<;>intro hc<;>try omega)|(apply BG;omega)|apply A2)<;>conv=>whnf))
    rw[Wn];exact CZ [] (ih (i+1) (by omega) (by omega))
   ·have jl:=jl (by omega)
    have nm : ∀ j,j<S -> ∃ (v:Int) (x:Rat),n.next[j]? = some v/\n.next[(j:Int).toNat]? = some v/\0<=v/\s.g[v.toNat]? = some x/\s.b[j]? = some x:=λ j hj=>by
     obtain ⟨v,hv⟩ : ∃ v,n.next[j]? = some v:=⟨_,zE (by omega)⟩
     obtain ⟨h1,h2⟩:=si v (zM hv);obtain ⟨x,hx⟩ : ∃ x,s.g[v.toNat]? = some x:=⟨_,zE (by omega)⟩;exact ⟨v,x,hv,hv,h1,hx,by rw[Kr j v hv,kI hx]⟩
    obtain ⟨v0,x0,q1,q2,q3,q4,q5⟩:=nm 0 h0;have Br:s.b.take 1=[x0]:=by rw[List.take_add_one,q5];rfl
    clear qt Kr;refine JN ?_;(repeat' ((first|(apply A9<;>intro hc<;>try omega)|(apply B5;omega)|(refine CN (by assumption) ?_ rfl ?_;omega)|apply A2)<;>conv=>whnf))
    refine mO (r:=none) (by rw[Nat.zero_add,Int.toNat_natCast];exact iu) ?_;(conv=>whnf)
    (repeat' ((first|(refine CN (by assumption) ?_ rfl ?_;omega)|apply GY)<;>conv=>whnf))
    refine ZF (enc:=eQ) x0 rfl rfl (by omega) ?_;(conv=>whnf)
    (repeat' ((first|(apply B5;omega)|fail)<;>conv=>whnf))
    refine B5 rfl ?_;refine iU (i:=i) (by omega) (by omega) ?_;(conv=>whnf)
    (repeat' ((first|(apply BG;omega)|fail)<;>conv=>whnf))
    refine G6 (λ j=>S-j) (λ(j:Nat)=>1<=j/\j<=S) (λ j=>[(27,.int .i64 j)]) (λ j=>[(355016,355016,.mx (R0.set i (some (3,(s.b.take j).map eQ))))]) [] [] 1 (by first|exact (by (conv=>whnf);exact ⟨rfl,rfl,rfl⟩)|(rw[Br];exact (by (conv=>whnf);exact ⟨rfl,rfl,rfl⟩))) (by omega) ?_;intro j ⟨r1,r2⟩ jh;by_cases hj:j<S
    ·obtain ⟨v1,x1,e1,e2,e3,e4,e5⟩:=nm j hj
     have j8:=OG e5;have htj:(s.b.take j).length=j:=by rw[List.length_take];omega
     have Hc:(s.b.take (j+1)).length=j+1:=by rw[List.length_take];omega
     generalize s.b.take j=W at *;(repeat' ((first|(apply A9<;>intro hc<;>try omega)|(apply B5;omega)|(refine CN (by assumption) ?_ rfl ?_;omega)|apply A2)<;>conv=>whnf))
     refine Yl (by omega) (by omega) ?_;(conv=>whnf)
     (repeat' ((first|(refine CN (by assumption) ?_ rfl ?_;omega)|apply GY)<;>conv=>whnf))
     refine Yj (by omega) (by omega) ?_;(conv=>whnf)
     refine H8 (enc:=eQ) x1 rfl (by rw[List.length_map]) rfl (by omega) (by omega) ?_;intro s' v;rw[<-j8,Hc];(conv=>whnf)
     (repeat' ((first|(apply B5;omega)|fail)<;>conv=>whnf))
     refine B5 ⟨rfl,by rw[List.length_map];omega⟩ ?_;refine iU (i:=i) (by omega) (by rw[List.length_set,List.length_set];omega) ?_;rw[show 0+((i:Int)).toNat=i by omega,List.set_set,List.set_set];(conv=>whnf)
     (repeat' ((first|(apply BG;omega)|fail)<;>conv=>whnf))
     exact CZ [] (jh (j+1) (by omega) (by omega))
    have ej:j=S:=by omega
    clear jh;rw[ej,zT (by omega),jl];(repeat' ((first|(apply A9<;>intro hc<;>try omega)|(apply BG;omega)|apply A2)<;>conv=>whnf))
    exact CZ [] (ih (i+1) (by omega) (by omega))
  have ei:i=T.length:=by omega
  clear ih gj;rw[ei];rcases Nat.eq_zero_or_pos S with h0|h0
  focus
   have hTe : ∀ r∈T,r=[]:=λ r hr=>List.length_eq_zero_iff.1 ((hTr r hr).trans h0)
   have vp : ∀ q,Ev L 295 [.sl q (List.replicate T.length [.sl false []])] (.agg (eQ E)):=λ q=>by
    have:=rq q false
    rwa [Alm false hTe]at this
   rw[show KD S T T.length=List.replicate T.length none by rw[h0,Ajk]];(repeat' ((first|(apply A9<;>intro hc<;>try omega)|apply A2)<;>conv=>whnf))
   refine Aiy rfl (by omega) ?_;(conv=>whnf)
   (repeat' (refine AP (vp _) ?_<;>conv=>whnf))
  rotate_left
  focus
   rw[Aji (by omega)];(repeat' ((first|(apply A9<;>intro hc<;>try omega)|apply A2)<;>conv=>whnf))
   refine WX (λ_=>rfl) rfl Oa.symm ?_;(conv=>whnf)
   (repeat' (refine AP (rq _ _) ?_<;>conv=>whnf))
  all_goals
   refine G6 (λ i=>ss.length-i) (λ(i:Nat)=>i<=ss.length) (λ i=>[(51,.int .i64 i)]) (λ i=>[(356057,356057,.rw 8 (PA ss P i))]) [] [] 0 (by rw[hmz];exact (by (conv=>whnf);exact ⟨rfl,rfl,rfl⟩)) (by omega) ?_;intro i p1 ih;by_cases hi:i<ss.length
   ·obtain ⟨s,Cm⟩ : ∃ s,ss[i]? = some s:=⟨_,zE hi⟩
    have cq:=zM Cm;have xp:=Kk i s Cm;have hW':=hW s cq;have hP':=hP s;have Ge:=Aet (P s).1 (P s).2;have On:=Afg (T:=(P s).2) hP';have Fe:=Ob s cq;have qu:=λ(K:List (List AV)->Prop)=>AiA (P:=P) (K:=K) Cm
    first
    |(have Tr:s.b=[]:=List.length_eq_zero_iff.1 ((nf s cq).trans (by omega))
      rw[Tr]at hW' Fe;have hTn : ∀ q,Ev L 296 [.sl q [],.agg (eQ E)] (.sl false ((([]:List Rat).map (· * E)).map eQ)):=Fe;(repeat' ((first|(apply A9<;>intro hc<;>try omega)|(apply B5;omega)|apply A2)<;>conv=>whnf))
      refine mO (r:=none) (by rw[Nat.zero_add,Int.toNat_natCast,List.getElem?_replicate,if_pos (by omega)]) ?_;(conv=>whnf)
      (repeat' ((first|refine AP (hTn _) ?_|refine AP (hW') ?_)<;>conv=>whnf)))
    |((repeat' ((first|(apply A9<;>intro hc<;>try omega)|(apply B5;omega)|(refine FO (λ_=>rfl) rfl ?_ ?_;(first|rfl|simp))|(refine Yk ?_ (λ r hr => ?_);omega)|refine Yi (by assumption) ?_|apply A2)<;>conv=>whnf))
      cases xp.symm.trans hr;(repeat' ((first|refine AP (Fe _) ?_|refine AP (hW') ?_)<;>conv=>whnf)))
    refine Yf On trivial ?_;rw[Ge];(conv=>whnf)
    refine B5 (by omega) ?_;(conv=>whnf)
    refine qu _ ?_;(conv=>whnf)
    (repeat' ((first|(apply BG;omega)|fail)<;>conv=>whnf))
    exact CZ [] (ih (i+1) (by omega) (by omega))
   have ei:i=ss.length:=by omega
   clear ih;rw[ei,hmf];(repeat' ((first|(apply A9<;>intro hc<;>try omega)|apply A2)<;>conv=>whnf))
   refine ⟨rfl,?_⟩;(conv=>whnf)
   refine ⟨_,?_,hK⟩;first|exact ⟨rfl,rfl,rfl,rfl,rfl,rfl,rfl,trivial⟩|exact ⟨rfl,rfl,rfl,rfl,rfl,rfl,rfl,rfl,trivial⟩
end Go.b8
