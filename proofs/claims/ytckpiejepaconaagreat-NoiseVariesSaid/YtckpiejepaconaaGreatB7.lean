/-
  Powers and sums (layer 29): the reference's Power.
-/
import Derived.Test.YtckpiejepaconaaGreatB6
import Derived.Test.YtckpiejepaconaaGreatB5
import Derived.Test.YtckpiejepaconaaGreatB1
import Derived.Test.YtckpiejepaconaaGreatB4
set_option linter.unusedSimpArgs false
set_option linter.unusedVariables false
set_option linter.unnecessarySimpa false
set_option maxHeartbeats 32000000
open Bool renaming and_true->tb,and_false->Nb
open Int renaming toNat_natCast->Ra
open List renaming mem_map->xa,length_map->va,getD_eq_getElem?_getD->ua,replicate->sa,length_take->qa,mem_singleton->ga,getElem?_map->ea,length_set->Qa,range->Ka,getElem?_range->Ja,set_set->Ia,length_append->Ca,map_map->zb,map_append->ub,length_eq_zero_iff->qb,getElem?_of_mem->ib,map_congr_left->gb,length_cons->db,mem_append->Rb
open Nat renaming pow_le_pow_right->Pa,mul_le_mul->Oa,le_trans->La,zero_add->Ha,pow_succ->Ga,pow_le_pow_left->Fa,mul_comm->xb,min_eq_left->Pb,max_eq_left->Ob,pow_pos->Lb
open Option renaming some.inj->vb
open Rat renaming divInt->za,sub_eq_add_neg->Ba,mul_comm->yb,mul_zero->ob,add_zero->nb,natCast_mul->Qb,neg_zero->Mb
namespace Go.c6
open F
attribute [local irreducible] AA AF AL AC CQ AW BA A8 B3 BL CN D4 BP A1 B6 CF AB BG AH pw BV BO CS CY C2 BX CG BU CX
variable {L:Lib}
set_option maxRecDepth 8000
theorem AiB (N:bn L) (q q':Bool) (a:J') (n kk:Nat) (hs:Sq n a) (ha:Ms kk a) (hn:n<=4) (hk:kk<=1000000000):Ev L 313 [.sl q (DC q' a)] (.sl false (eM (HB a a n))):=by
 have y9:=hs.l;have Bl:Sq n (HB a a n):=Sq.mul hs.l a;have Gx : ∀ (i:Nat) (r:K'),a[i]? = some r->(HB a a n)[i]? = some (EX r a n):=λ i r hr=>by rw[HB,ea,hr];rfl
 have yq : ∀ (j:Nat) (r:K'),j<n->(EX r a n)[j]? = some (AZ r (DI a j)):=λ j r hj=>by rw[EX,ea,Ja hj];rfl
 have uy:=Bl.l;have Ey:=Bl.r;have hO:=KE N.toa6 0 O';rw[show ((0:Int):Rat)=0 from rfl]at hO;generalize HB a a n=Q at *;refine Ev.x N.KQ rfl rfl ?_;repeat' (first|apply AR|apply AE)<;>conv=>whnf
 unfold C2;refine ⟨⟨O',O',by simp only[DX];omega,O'⟩,?_⟩;rw[Ra,y9];conv=>whnf
 skip
 refine DF (λ i=>n-i) (λ(i:Nat)=>i<=n) (λ i=>[(4,.int .i64 i)]) (λ i=>[(10,10,.mx (mz Q n i))]) [] [] 0 (by first|exact B'|(rw[<-gO Q];exact B')) O' ?_;intro i p1 ih;have Ro:=gL (Q:=Q) p1;by_cases hi:i<n
 ·obtain ⟨rr,hr⟩:=H' a i
  have ja:a[(i:Int).toNat]? = some rr:=hr;have bh:=hs.at hr;have jg:=ha.at hr;have hq:=Gx i rr hr;have g9:=gN hq hi;have jv:(mz Q n i)[i]? = some none:=pD uy hi;have xn:(EX rr a n).length=n:=Ey _ (zM hq);have fb:(EX rr a n).take 1=[AZ rr (DI a 0)]:=by
   rw[P6 (yq 0 rr O')];rfl
  have Iu : ∀ j,j<n->(EX rr a n).take (j+1)=(EX rr a n).take j++[AZ rr (DI a j)]:=λ j hj=>P6 (yq j rr hj)
  generalize mz Q n i=R0 at *;generalize EX rr a n=qr at *;repeat' (first|(apply AG<;>intro hc<;>try omega)|apply AR|apply AE)<;>conv=>whnf
  refine F8 ?_;repeat' (first|(apply AG<;>intro hc<;>try omega)|apply AR|apply AE|refine AD (hO) ?_)<;>conv=>whnf
  refine DF (λ k=>n-k) (λ(k:Nat)=>k<=n) (λ k=>[(7,.int .i64 k)]) (λ k=>[(6,6,.bx (eQ (AZ (rr.take k) ((DI a 0).take k))))]) [] [] 0 (by rw[show AZ (rr.take 0) ((DI a 0).take 0)=0 from rfl];exact B') O' ?_;intro k t1 kh;by_cases ic:k<n
  ·obtain ⟨x,hx⟩:=H' rr k
   obtain ⟨s,br⟩:=H' a k;have xq:=hs.at br;obtain ⟨y,hy⟩:=H' s 0;have dv:rr[(k:Int).toNat]? = some x:=hx;have uj:a[(k:Int).toNat]? = some s:=br;have vl:s[((0:Nat):Int).toNat]? = some y:=hy;have Nx:=uV br hy;have hM:=ON N.toa6 (jg.at hx) ((ha.at br).at hy) O' O';have hd:Bt (4*(kk+kk+1)) (AZ (rr.take k) ((DI a 0).take k)):=((jg.take k).dot ((Ms.Lu ha 0).take k)).le (zR _ F');have hA:=QN N.toa6 hd ((jg.at hx).mul ((ha.at br).at hy)) O' O';rw[<-YA hx Nx]at hA;generalize AZ (rr.take k) ((DI a 0).take k)=w at *;generalize x*y=p at *;repeat' (first|(apply AG<;>intro hc<;>try omega)|(apply AP;omega)|apply AR|(refine A4 V' ?_ rfl ?_;omega)|apply AE|refine AD (hM) ?_|refine AD (hA) ?_)<;>conv=>whnf
   exact A9 [] (kh (k+1) O' O')
  have ek:k=n:=O'
  clear kh;rw[ek,V9 bh];generalize AZ rr (DI a 0)=y0 at *;repeat' (first|(apply AG<;>intro hc<;>try omega)|(apply AX;omega)|apply AR|apply AE)<;>conv=>whnf
  refine cS (r:=none) (by rw[Ha,Ra];exact jv) ?_;conv=>whnf
  (repeat' (apply DG<;>conv=>whnf))
  refine RR (enc:=eQ) y0 rfl rfl O' ?_;conv=>whnf
  repeat' (first|(apply AX;omega)|fail)<;>conv=>whnf
  refine AX rfl ?_;refine R3 (i:=i) O' O' ?_;conv=>whnf
  repeat' (first|(apply AP;omega)|fail)<;>conv=>whnf
  refine DF (λ j=>n-j) (λ(j:Nat)=>1<=j/\j<=n) (λ j=>[(5,.int .i64 j)]) (λ j=>[(10,10,.mx (R0.set i (some (3,(qr.take j).map eQ))))]) [] [] 1 (by first|exact B'|(rw[fb];exact B')) O' ?_;intro j ⟨r1,r2⟩ jh;have Ch:(qr.take j).length=j:=by rw[qa];omega
  by_cases hj:j<n
  ·have ox:=Iu j hj
   have ya:(qr.take (j+1)).length=j+1:=by rw[qa];omega
   generalize qr.take j=W at *;repeat' (first|(apply AG<;>intro hc<;>try omega)|apply AR|apply AE|refine AD (hO) ?_)<;>conv=>whnf
   refine DF (λ k=>n-k) (λ(k:Nat)=>k<=n) (λ k=>[(7,.int .i64 k)]) (λ k=>[(6+1000000,6,.bx (eQ (AZ (rr.take k) ((DI a j).take k))))]) [] [] 0 (by rw[show AZ (rr.take 0) ((DI a j).take 0)=0 from rfl];exact B') O' ?_;intro k t1 kh;by_cases ic:k<n
   ·obtain ⟨x,hx⟩:=H' rr k
    obtain ⟨s,br⟩:=H' a k;have xq:=hs.at br;obtain ⟨y,hy⟩:=H' s j;have dv:rr[(k:Int).toNat]? = some x:=hx;have uj:a[(k:Int).toNat]? = some s:=br;have vl:s[((j:Nat):Int).toNat]? = some y:=hy;have Nx:=uV br hy;have hM:=ON N.toa6 (jg.at hx) ((ha.at br).at hy) O' O';have hd:Bt (4*(kk+kk+1)) (AZ (rr.take k) ((DI a j).take k)):=((jg.take k).dot ((Ms.Lu ha j).take k)).le (zR _ F');have hA:=QN N.toa6 hd ((jg.at hx).mul ((ha.at br).at hy)) O' O';rw[<-YA hx Nx]at hA;generalize AZ (rr.take k) ((DI a j).take k)=w at *;generalize x*y=p at *;repeat' (first|(apply AG<;>intro hc<;>try omega)|(apply AP;omega)|apply AR|(refine A4 V' ?_ rfl ?_;omega)|apply AE|refine AD (hM) ?_|refine AD (hA) ?_)<;>conv=>whnf
    exact A9 [] (kh (k+1) O' O')
   have ek:k=n:=O'
   clear kh;rw[ek,V9 bh];generalize AZ rr (DI a j)=y0 at *;repeat' (first|(apply AG<;>intro hc<;>try omega)|(apply AX;omega)|apply AR|apply AE)<;>conv=>whnf
   refine RU O' O' ?_;conv=>whnf
   (repeat' (apply DG<;>conv=>whnf))
   refine N0 O' O' ?_;conv=>whnf
   refine EE (enc:=eQ) y0 rfl (by rw[va]) rfl O' O' ?_;intro s' v;rw[<-ox,ya];conv=>whnf
   repeat' (first|(apply AX;omega)|fail)<;>conv=>whnf
   refine AX ⟨rfl,by rw[va];omega⟩ ?_;refine R3 (i:=i) O' (by rw[Qa,Qa];omega) ?_;rw[show 0+((i:Int)).toNat=i by omega,Ia,Ia];conv=>whnf
   repeat' (first|(apply AP;omega)|fail)<;>conv=>whnf
   exact A9 [] (jh (j+1) O' O')
  have ej:j=n:=O'
  clear jh;rw[ej,zT O',g9];repeat' (first|(apply AG<;>intro hc<;>try omega)|(apply AP;omega)|apply AR|apply AE)<;>conv=>whnf
  exact A9 [] (ih (i+1) O' O')
 have ei:i=n:=O'
 clear ih;rw[ei,gK O'];repeat' (first|(apply AG<;>intro hc<;>try omega)|apply AR|apply AE)<;>conv=>whnf
 refine H1 (λ_=>rfl) rfl O' ?_;conv=>whnf
 exact AY rfl (uE Q)
theorem AmU {n k:Nat} {a:J'} (hs:Sq n a) (ha:Ms k a) (hn:n<=4) (hk:k<=100000) (i:Nat) (hi:i<=7):Ms 300000000 (B8 n a i):=by
 obtain ⟨D,_,d1,d2,d3⟩:=Yx hs ha;have Ps:n*n<=4*4:=Oa hn hn;have Ky:n*n*k<=16*k:=zR k Ps;have hw:=jA hs hn d3 i;have hwk:=Zz (k:=k) i hi;have h2:2^i<=2^7:=Pa O' hi;have hdd:D^2^i<=2^(2^i*(16*k)):=by
  have h3:D<=2^(16*k):=La d2 (Pa O' Ky);have:=Fa h3 (2^i)
  rwa [<-Nat.pow_mul,xb]at this
 have h4:2^i*(16*k)<=300000000:=La (zR (16*k) h2) O';have h5:FS k i<=300000000:=O'
 intro r hr x hx;generalize 300000000=K at *;refine kQ (S:=D^2^i) (Lb d1) (La hdd (Pa O' h4)) ?_;have:=hw (r.map (· * DZ (D:Rat) i)) (xa.2 ⟨r,hr,rfl⟩) _ (xa.2 ⟨x,hx,rfl⟩)
 rw[vN]at this;exact this.le h5
theorem Aiy (N:bn L) (q q':Bool) (a:J') (n k:Nat) (hs:Sq n a) (ha:Ms k a) (hn:n<=4) (hk:k<=100000) :
  ∃ v,Ev L 314 [.sl q (DC q' a)] v/\((∃ i,i<=6/\IY n a i/\v = .c5 [.int .i64 ((2^i:Nat):Int),.int .i64 0])\/((∀ j,j<=6->DH (B8 n a j)=false)/\v = .c5 [.int .i64 0,.int .i64 14])):=by
 have y9:=hs.l;have hq:=AiA N q q' a n hs O';have hF:=YH N.toa6 1 2 O' O';have hb : ∀ i,i<=7->Ms 300000000 (B8 n a i):=λ i hi=>AmU hs ha hn hk i hi
 have hZ:=λ(i:Nat) (q q':Bool) (hi:i<=6)=>AiB N q q' (B8 n a i) n 300000000 (VG hs i) (hb i O') hn O'
 have hh:Bt 2 (za 1 2):=Bt.mk (k:=2) (z:=1) (d:=2) Y' Y';have hhe:za 1 2=1/2:=by decide +kernel
 have hC : ∀ i r,i<=6->r∈B8 n a i->Ev L 127 [.agg (eQ (BQ r)),.agg (eQ (za 1 2))] (.int .i64 (o3 (BQ r-1/2).num)):=λ i r hi hr=>by
  have hz:Bt (4*(300000000+1)) (BQ r):=(bU (hb i O' r hr)).le (zR _ (by rw[(VG hs i).r r hr];exact hn));have:=eK N.toa6 hz hh O' O'
  rwa [hhe]at this ⊢
 refine Ev.xE N.MS rfl rfl ?_;repeat' (first|apply AE|refine AD (hq) ?_)<;>conv=>whnf
 refine FJ (λ i _=>7-i) (λ(i:Nat) (fl:Bool)=>i<=7/\(fl=true->i=0) /\ ∀ j,j<i->DH (B8 n a j)=false) (λ i fl=>[(4,.int .i64 ((2^i:Nat):Int)),(0,bif fl then .sl q (DC q' a) else .sl false (eM (B8 n a i)))]) (λ_ _=>[]) 0 true ⟨O',λ_=>rfl,λ j hj=>absurd hj O'⟩ ?_;intro i fl ⟨p1,p2,p3⟩ ih;by_cases h7:i=7
 ·have e7:((2^i:Nat):Int)=128:=by rw[h7];rfl
  rw[e7];have kj : ∀ j,j<=6->DH (B8 n a j)=false:=λ j hj=>p3 j O'
  repeat' (first|(apply AG<;>intro hc<;>try omega)|apply AE)<;>conv=>whnf
  exact ⟨_,AY rfl (by simp [A3,B7]),Or.inr ⟨kj,rfl⟩⟩
 obtain ⟨g1,g2,g3⟩:=pN (i:=i) O';have vd:((2^(i+1):Nat):Int)=2*((2^i:Nat):Int):=by rw[Ga];omega
 have xq:=(VG hs i).l;have mg:DH (B8 n a i)=true->IY n a i:=λ h=>⟨h,p3⟩
 have y7:DH (B8 n a i)=false -> ∀ j,j<i+1->DH (B8 n a j)=false:=λ h j hj=>by
  by_cases e:j=i
  ·rw[e];exact h
  ·exact p3 j O'
 have Ma:=λ r=>hC i r O'
 have Nh:=λ q q'=>hZ i q q' O'
 have Mw:=λ q r (hr:r∈B8 n a i)=>Aiz N q r 300000000 (hb i O' r hr) (by rw[(VG hs i).r r hr];omega) O'
 have n8 : ∀ r:AV,IY n a i->r = .c5 [.int .i64 ((2^i:Nat):Int),.int .i64 0]->((∃ i,i<=6/\IY n a i/\r = .c5 [.int .i64 ((2^i:Nat):Int),.int .i64 0])\/((∀ j,j<=6->DH (B8 n a j)=false)/\r = .c5 [.int .i64 0,.int .i64 14])):=λ r h hr=>Or.inl ⟨i,O',h,hr⟩
 have s8 : ∀ (m:Nat) (r:K'),(B8 n a i)[m]? = some r->DH ((B8 n a i).take (m+1))=(DH ((B8 n a i).take m)&&decide (BQ r<=1/2)):=λ m r hr=>by
  rw[P6 hr,DH,DH,List.all_append];simp
 cases fl
 ·skip
  generalize 2^i=P at *;repeat' (first|(apply AG<;>intro hc<;>try omega)|apply AE)<;>conv=>whnf
  refine FJ (λ m _=>n-m) (λ(m:Nat) (b:Bool)=>m<=n/\b=DH ((B8 n a i).take m)) (λ m b=>[(6,.int .i64 m),(5,.bool b)]) (λ_ _=>[]) 0 true ⟨O',rfl⟩ ?_;intro m b ⟨r1,r2⟩ mh;by_cases hm:m<n
  ·obtain ⟨r,hr⟩:=H' (B8 n a i) m
   have ja:(B8 n a i)[(m:Int).toNat]? = some r:=hr;have ew:=zM hr;have ht:=s8 m r hr;rw[<-r2]at ht;cases b
   ·repeat' (first|(apply AG<;>intro hc<;>try omega)|(apply AP;omega)|apply AR|apply AE)<;>conv=>whnf
    exact A9 [] (mh (m+1) false O' ⟨O',by rw[ht];rfl⟩)
   ·have su:=λ q=>Mw q r ew
    have nc:=Ma r ew;have hg:=bT (x:=BQ r) (y:=1/2);by_cases h:BQ r<=1/2
    ·have h1 : ¬ 0<o3 (BQ r-1/2).num:=λ e=>by have:=hg.1 e;grind
     rw[decide_eq_true h]at ht;clear hg;generalize o3 (BQ r-1/2).num=g at *;repeat' (first|(apply AG<;>intro hc<;>try omega)|(apply AP;omega)|apply AR|(refine A4 V' ?_ rfl ?_;omega)|apply AE|refine AD (su _) ?_|refine AD (hF) ?_|refine AD (nc) ?_)<;>conv=>whnf
     exact A9 [] (mh (m+1) true O' ⟨O',by rw[ht];rfl⟩)
    ·have h1:0<o3 (BQ r-1/2).num:=hg.2 A'
     rw[decide_eq_false h]at ht;clear hg;generalize o3 (BQ r-1/2).num=g at *;repeat' (first|(apply AG<;>intro hc<;>try omega)|(apply AP;omega)|apply AR|(refine A4 V' ?_ rfl ?_;omega)|apply AE|refine AD (su _) ?_|refine AD (hF) ?_|refine AD (nc) ?_)<;>conv=>whnf
     exact A9 [] (mh (m+1) false O' ⟨O',by rw[ht];rfl⟩)
  have em:m=n:=O'
  clear mh;rw[em,zT O']at r2;cases b
  ·repeat' (first|(apply AG<;>intro hc<;>try omega)|(apply FL;omega)|apply AR|apply AE|refine AD (Nh _ _) ?_)<;>conv=>whnf
   rw[<-vd];exact A9 [] (ih (i+1) false O' ⟨O',(λ h=>by cases h),y7 r2.symm⟩)
  ·repeat' (first|(apply AG<;>intro hc<;>try omega)|apply AR|apply AE)<;>conv=>whnf
   exact ⟨_,AY rfl (by simp [A3,B7]),n8 _ (mg r2.symm) rfl⟩
 ·obtain rfl:=p2 rfl
  have e0:B8 n a 0=a:=rfl;rw[e0]at mg y7 Ma Nh Mw s8 xq;generalize 2^0=P at *;repeat' (first|(apply AG<;>intro hc<;>try omega)|apply AE)<;>conv=>whnf
  refine FJ (λ m _=>n-m) (λ(m:Nat) (b:Bool)=>m<=n/\b=DH (a.take m)) (λ m b=>[(6,.int .i64 m),(5,.bool b)]) (λ_ _=>[]) 0 true ⟨O',rfl⟩ ?_;intro m b ⟨r1,r2⟩ mh;by_cases hm:m<n
  ·obtain ⟨r,hr⟩:=H' a m
   have ja:a[(m:Int).toNat]? = some r:=hr;have ew:=zM hr;have ht:=s8 m r hr;rw[<-r2]at ht;cases b
   ·repeat' (first|(apply AG<;>intro hc<;>try omega)|(apply AP;omega)|apply AR|apply AE)<;>conv=>whnf
    exact A9 [] (mh (m+1) false O' ⟨O',by rw[ht];rfl⟩)
   ·have su:=λ q=>Mw q r ew
    have nc:=Ma r ew;have hg:=bT (x:=BQ r) (y:=1/2);by_cases h:BQ r<=1/2
    ·have h1 : ¬ 0<o3 (BQ r-1/2).num:=λ e=>by have:=hg.1 e;grind
     rw[decide_eq_true h]at ht;clear hg;generalize o3 (BQ r-1/2).num=g at *;repeat' (first|(apply AG<;>intro hc<;>try omega)|(apply AP;omega)|apply AR|(refine A4 V' ?_ rfl ?_;omega)|apply AE|refine AD (su _) ?_|refine AD (hF) ?_|refine AD (nc) ?_)<;>conv=>whnf
     exact A9 [] (mh (m+1) true O' ⟨O',by rw[ht];rfl⟩)
    ·have h1:0<o3 (BQ r-1/2).num:=hg.2 A'
     rw[decide_eq_false h]at ht;clear hg;generalize o3 (BQ r-1/2).num=g at *;repeat' (first|(apply AG<;>intro hc<;>try omega)|(apply AP;omega)|apply AR|(refine A4 V' ?_ rfl ?_;omega)|apply AE|refine AD (su _) ?_|refine AD (hF) ?_|refine AD (nc) ?_)<;>conv=>whnf
     exact A9 [] (mh (m+1) false O' ⟨O',by rw[ht];rfl⟩)
  have em:m=n:=O'
  clear mh;rw[em,zT O']at r2;cases b
  ·repeat' (first|(apply AG<;>intro hc<;>try omega)|(apply FL;omega)|apply AR|apply AE|refine AD (Nh _ _) ?_)<;>conv=>whnf
   rw[<-vd];exact A9 [] (ih (0+1) false O' ⟨O',(λ h=>by cases h),y7 r2.symm⟩)
  ·repeat' (first|(apply AG<;>intro hc<;>try omega)|apply AR|apply AE)<;>conv=>whnf
   exact ⟨_,AY rfl (by simp [A3,B7]),n8 _ (mg r2.symm) rfl⟩
end Go.c6
namespace Go.c6
theorem Akz (n:Nt) (nd:Nd):ER n nd=0\/ER n nd=za 1 2\/ER n nd=1:=by
 unfold ER;split
 ·exact Or.inl rfl
 ·split
  ·exact Or.inr (Or.inl rfl)
  ·exact Or.inr (Or.inr rfl)
theorem fZ (n:Nt) (nd:Nd):Bt 1 (ER n nd)/\0<=ER n nd:=by
 rcases Akz n nd with h|h|h<;>rw[h]<;>exact ⟨⟨Y',Y'⟩,Y'⟩
end Go.c6

namespace Go.c6
variable {n:Nt}
def D9 (n:Nt) (k:Nat):Rat:=match n.nodes[k]? with
 | some nd=>ER n nd
 | none=>0
theorem Aky (k:Nat):0<=D9 n k:=by
 unfold D9;cases n.nodes[k]? with
 | none=>exact Rat.le_refl
 | some nd=>exact (fZ n nd).2
end Go.c6

namespace Go.c6
open F
variable {L:Lib}
section
variable {ks:N'} {σ σ':GA} (hs : ∀ k∈ks,σ' k 0=σ k 0)
include hs
end
end Go.c6

namespace Go.c6
open F
attribute [local irreducible] AA AF AL AC CQ AW BA A8 B3 BL CN D4 BP A1 B6 CF AB BG AH pw BV BO CS CY C2 BX CG BU CX
variable {L:Lib}
set_option maxRecDepth 8000
theorem Yp {x:Rat} (h:0<x):0<o3 x.num:=by
 have:=(bT (x:=x) (y:=0)).2 h
 rwa [Ba,Mb,nb]at this
theorem Acc {x:Rat} (h : ¬ 0<x):o3 x.num<=0:=by
 refine Int.not_lt.1 λ h2=>h ((bT (x:=x) (y:=0)).1 ?_)
 rwa [Ba,Mb,nb]
theorem TU {n:Nt} (hn:N3 n):K3 (CR n):=by
 refine ⟨λ ts h => ?_,λ ts h => ?_⟩;all_goals
  obtain ⟨d,hd,rfl⟩:=xa.1 h
 ·rcases hn.tl with h|⟨_,h⟩
  ·have:=h d hd;omega
  ·exact h d hd
 ·exact hn.cf d hd
theorem yF (I:e8 L) (N:df L) (n:Nt) (hn:N3 n) (k:Nat) (nd:Nd) (hnd:n.nodes[k]? = some nd):Ev L 362 [.agg (FG n),.int .i64 (k:Int)] (.c5 [.agg (eQ (ER n nd)),.int .i64 0]):=by
 obtain ⟨h1,h2,⟨h3a,h3b,h3c,h3d⟩,h4,h5,h6⟩:=(E7 n).1 hn.np;have Lw:=h2;unfold WV at Lw;have hV:=aI n I N.tow6;rw[hn.np]at hV;have Ea:n.nodes[(k:Int).toNat]? = some nd:=hnd;have Ff:=(zS hnd).1;have hIn:=WJ I k 0 ((n.nodes.length:Int)-1);rw[decide_eq_true O']at hIn;have Gq:=KE N.toa6 0 O';have Gr:=KE N.toa6 1 O';have hF:=YH N.toa6 1 2 O' O';rw[show ((0:Int):Rat)=0 from rfl]at Gq;rw[show ((1:Int):Rat)=1 from rfl]at Gr;have vd:=HF n.c.f;have hC:=hn.cf _ (zM hnd);have hL:nd.ts.length<=5:=(TU hn).len _ (xa.2 ⟨nd,zM hnd,rfl⟩);have n8 : ∀ x:Rat,A3 (.c5 [.agg (eQ x),.int .i64 0]):=λ x=>Z4 x 0
 refine Ev.x N.PW rfl rfl ?_;repeat' (first|(apply BS;omega)|apply AR|apply AE|refine AD (hV) ?_|refine AD (hIn) ?_)<;>conv=>whnf
 refine FJ (λ i _=>nd.ts.length-i) (λ(i:Nat) (b:Bool)=>i<=nd.ts.length/\b=RN n (nd.ts.take i)) (λ i b=>[(7,.int .i64 i),(6,.bool b)]) (λ_ _=>[]) 0 true ⟨O',by simp [RN]⟩ ?_;intro i b ⟨p1,p2⟩ ih;by_cases hi:i<nd.ts.length
 ·obtain ⟨t,ht⟩:=H' nd.ts i hi
  have nm:nd.ts[(i:Int).toNat]? = some t:=ht;have hw:=Zu (n:=n) ht;rw[<-p2]at hw;by_cases hz:t.2%pw n.c.f=0
  ·rw[decide_eq_true hz,tb]at hw
   cases b
   ·repeat' (first|(apply AG<;>intro hc<;>try omega)|(apply AP;omega)|apply AR|(refine A4 V' ?_ rfl ?_;omega)|apply AE)<;>conv=>whnf
    exact A9 [] (ih (i+1) false O' ⟨O',hw.symm⟩)
   ·repeat' (first|(apply AG<;>intro hc<;>try omega)|(apply AP;omega)|(refine F3 ?_ (λ_ _ => ?_);omega)|(refine N2 ?_ (λ_ _ _ => ?_) (λ_ _ _ _ => ?_);omega;all_goals try omega)|(apply CD;omega)|apply AR|(refine A4 V' ?_ rfl ?_;omega)|apply AE)<;>conv=>whnf
    all_goals exact A9 [] (ih (i+1) true O' ⟨O',hw.symm⟩)
  ·rw[decide_eq_false hz,Nb]at hw
   cases b
   ·repeat' (first|(apply AG<;>intro hc<;>try omega)|(apply AP;omega)|apply AR|(refine A4 V' ?_ rfl ?_;omega)|apply AE)<;>conv=>whnf
    exact A9 [] (ih (i+1) false O' ⟨O',hw.symm⟩)
   ·repeat' (first|(apply AG<;>intro hc<;>try omega)|(apply AP;omega)|(refine F3 ?_ (λ_ _ => ?_);omega)|(refine N2 ?_ (λ_ _ _ => ?_) (λ_ _ _ _ => ?_);omega;all_goals try omega)|(apply CD;omega)|apply AR|(refine A4 V' ?_ rfl ?_;omega)|apply AE)<;>conv=>whnf
    all_goals exact A9 [] (ih (i+1) false O' ⟨O',hw.symm⟩)
 have ei:i=nd.ts.length:=O'
 clear ih;rw[ei,List.take_length]at p2;cases b
 ·by_cases hr:n.d.r=2
  ·have e:ER n nd=za 1 2:=by rw[ER,<-p2,if_neg Y',if_pos hr]
   rw[e];repeat' (first|(apply AG<;>intro hc<;>try omega)|apply AR|(refine A4 V' ?_ rfl ?_;omega)|apply AE|refine AD (hF) ?_)<;>conv=>whnf
   exact AY rfl (n8 _)
  ·have e:ER n nd=1:=by rw[ER,<-p2,if_neg Y',if_neg hr]
   rw[e];repeat' (first|(apply AG<;>intro hc<;>try omega)|apply AR|(refine A4 V' ?_ rfl ?_;omega)|apply AE|refine AD (Gr) ?_)<;>conv=>whnf
   exact AY rfl (n8 _)
 ·have e:ER n nd=0:=by rw[ER,<-p2,if_pos rfl]
  rw[e];repeat' (first|(apply AG<;>intro hc<;>try omega)|apply AR|(refine A4 V' ?_ rfl ?_;omega)|apply AE|refine AD (Gq) ?_)<;>conv=>whnf
  exact AY rfl (n8 _)
abbrev rz:AV := .agg [.bool false,.sl false [],.sl false []]
theorem Afu (e:Int):A3 (.c5 [rz,.int .i64 e]):=by simp [A3,B7,EZ]
theorem eU (N:k9 L) {x:Rat} {k:Nat} (hx:Bt k x) (hk:k<2199023255552):Ev L 155 [.agg (eQ x)] (.int .i64 (o3 x.num)):=by
 have hm:=hx.gf hk;obtain ⟨n',m',d',hp,s1,s2,s3,s4⟩:=NB N.toa6 (decide (x.num<0)) false (dg x.num.natAbs) (dg x.den) 274877906943 O' (hm.1.le O') (hm.2.le O');have hS:=λ q=>YG N.toa6 n' q m' (s1.le O')
 rw[EL]at s4;have hz:o3 (zv n' m')=o3 x.num:=by rw[s4];exact (pA s3).symm
 rw[hz]at hS;refine Ev.x N.PN rfl rfl ?_;repeat' (first|apply VX|apply AE|refine AD (hp) ?_|refine AD (hS _) ?_)<;>conv=>whnf
 exact CJ rfl
end Go.c6

namespace Go.c6
open F
attribute [local irreducible] AA AF AL AC CQ AW BA A8 B3 BL CN D4 BP A1 B6 CF AB BG AH pw BV BO CS CY C2 BX CG BU CX
attribute [local irreducible] NY
variable {L:Lib}
set_option maxRecDepth 8000
theorem AiV {M:List (List (Option Rat))} {i j:Nat} {x:Rat} {r s:List (Option Rat)} (hr:M[i]? = some r) (hs:(M.set i (r.set j (some x)))[j]? = some s):WN M i j x=(M.set i (r.set j (some x))).set j (s.set i (some x)):=by
 have h1:M.getD i []=r:=by rw[ua,hr];rfl
 have h2:(M.set i (r.set j (some x))).getD j []=s:=by rw[ua,hs];rfl
 rw[WN,h1,h2]
theorem yZ {X:K'} {n:Nat} : ∀ u,u<=(BC n n).length->(NC X n u).length=n /\ ∀ r∈NC X n u,r.length=n
 | 0,_=>⟨by simp [NC],λ r hr=>by rw[List.eq_of_mem_replicate hr];simp⟩
 | u+1,h=>by
  have ih:=yZ (X:=X) (n:=n) u O';obtain ⟨⟨i,j⟩,fm⟩:=H' (BC n n) u;obtain ⟨g1,g2,g3⟩:=iB fm;have e:(BC n n).getD u (0,0)=(i,j):=by rw[ua,fm];rfl
  rw[NC,e];exact AiW ih g1 g2
theorem AiU {X:K'} {n u i j:Nat} {x:Rat} (fm:(BC n n)[u]? = some (i,j)) (hx:X[u]? = some x):WN (NC X n u) i j x=NC X n (u+1):=by
 rw[NC,show (BC n n).getD u (0,0)=(i,j) by rw[ua,fm];rfl,show X.getD u 0=x by rw[ua,hx];rfl]
theorem Ak5 (m:J'):BJ 3 eO (m.map (·.map some))=BJ 3 eQ m:=by
 rw[BJ,BJ,zb];refine gb λ r _ => ?_
 show some (3,(r.map some).map eO)=_;rw[zb];rfl
structure NZ (A:J') (B:K') (n k:Nat):Prop where
 sq:Sq n A
 lb:B.length=n
 ba:Ms k A
 bb:Bs k B
 mb:Ms 180 (gM A n)
 rb:Bs 180 (gR B n)
 sc : ∀ r∈C1 (gM A n) ((gR B n).map λ x=>[x]),∀ j,Bt 180 (C7 (r.take j))
 wh:Ms 180 (whole (C1 (gM A n) ((gR B n).map λ x=>[x])))
 qs:NS (BC n n).length (gM A n) -> ∀ X:K',HZ A B X n->Bs 380000 X
theorem Afa {m:Nat} (h:1<=m/\m<=10):6^m*180<=1000000000000/\3*(6^m*180)+m*(2*(6^m*180)+380000+1)<=1000000000000:=by
 rcases (show m=1\/m=2\/m=3\/m=4\/m=5\/m=6\/m=7\/m=8\/m=9\/m=10 by omega) with rfl|rfl|rfl|rfl|rfl|rfl|rfl|rfl|rfl|rfl<;>decide
theorem xG (N:o9 L) (A:J') (B:K') (n k:Nat) (h:NZ A B n k) (hk:k<=1000) (hn:n<=4) (q1 q2 q3:Bool) :
  ∃ v,Ev L 323 [.agg [.sl q1 (DC q2 A),.sl q3 (B.map eQ)]] v/\((¬ NS (BC n n).length (gM A n)/\v = .c5 [.sl false [],.int .i64 11])\/(NS (BC n n).length (gM A n) /\ ∃ X:K',HZ A B X n/\Bs 380000 X/\v = .c5 [.sl false (eM (kM X n)),.int .i64 0])):=by
 have hlen:=iC hn;have y9:=h.sq.l;have hP:=λ q1 q2 q3=>xV N q1 q2 q3 A B n y9 hn
 have hE:=λ q1 q2 q3 p1 p2 h1 h2=>AhK N q1 q2 q3 A B n k p1 p2 h.sq h.lb h.ba h.bb O' hn h1 h2
 refine Ev.xE N.KJ rfl rfl ?_;repeat' (first|apply AR|apply AE)<;>conv=>whnf
 unfold C2;refine ⟨⟨O',O',by simp only[DX];omega,O'⟩,?_⟩;rw[Ra,y9];conv=>whnf
 skip
 refine DF (λ i=>n-i) (λ(i:Nat)=>i<=n) (λ i=>[(24,.int .i64 i)]) (λ i=>[(21,21,.mx (fz none ((BJ 3 eO (sa n (sa n none))).take i) n))]) [] [] 0 (by first|exact B'|(rw[List.take_zero,show fz (none:P') [] n=sa n none by simp [fz]];exact B')) O' ?_;intro i p1 ih;have cq:(BJ 3 eO (sa n (sa n (none:Option Rat)))).length=n:=by simp [BJ]
 have ct:((BJ 3 eO (sa n (sa n (none:Option Rat)))).take i).length=i:=by rw[qa];omega
 have dp:=K9 (z:=(none:P')) (l:=(BJ 3 eO (sa n (sa n (none:Option Rat)))).take i) (m:=n) O';by_cases hi:i<n
 ·have iu:=LA (z:=(none:P')) (x:=some (3,(sa n (none:Option Rat)).map eO)) (l:=(BJ 3 eO (sa n (sa n (none:Option Rat)))).take i) (m:=n) O'
  rw[ct,<-P5 (show (BJ 3 eO (sa n (sa n (none:Option Rat))))[i]? = some (some (3,(sa n (none:Option Rat)).map eO)) by
   rw[BJ,ea,List.getElem?_replicate,if_pos hi];rfl)]at iu
  generalize fz (none:P') ((BJ 3 eO (sa n (sa n (none:Option Rat)))).take i) n=J at *;repeat' (first|(apply AG<;>intro hc<;>try omega)|apply AR|apply AE)<;>conv=>whnf
  refine DW (enc:=eO) none n rfl O' O' ?_;conv=>whnf
  repeat' (first|(apply AX;omega)|fail)<;>conv=>whnf
  unfold AL CS;refine ⟨Z',O',?_⟩;conv=>whnf
  rw[show 0+((i:Int)).toNat=i by omega,iu];repeat' (first|(apply AP;omega)|fail)<;>conv=>whnf
  exact A9 [] (ih (i+1) O' O')
 have ei:i=n:=O'
 clear ih dp;rw[ei,zT O',K8 O'];clear ct cq ei p1 hi i;by_cases Ao:n=0
 ·subst Ao
  have hz:(BC 0 0).length=0:=rfl;repeat' (first|(apply AG<;>intro hc<;>try omega)|apply AR|apply AE|refine AD (hP _ _ _) ?_)<;>conv=>whnf
  refine ⟨.c5 [.sl false [],.int .i64 0],?_,Or.inr ⟨λ X hX _ j=>by rw[qb.1 hX];rfl,[],⟨rfl,λ i r s hr=>by cases hr⟩,⟨(λ x hx=>by cases hx),rfl⟩⟩⟩;conv=>whnf
  refine H1 (z:=3) (en:=eQ) (ll:=([]:J')) (λ_=>rfl) rfl rfl ?_;conv=>whnf
  exact AY rfl (JO [] 0)
 have ug:1<=(BC n n).length:=by
  rcases QV hn with rfl|rfl|rfl|rfl|rfl<;>first|omega|decide
 repeat' (first|(apply AG<;>intro hc<;>try omega)|apply AR|apply AE|refine AD (hP _ _ _) ?_)<;>conv=>whnf
 refine CE (λ u=>(BC n n).length-u) (λ(u:Nat)=>u<=(BC n n).length) (λ u=>[(45,.int .i64 u),(8,.row 8 0 1 0 u),(9,.row 9 0 3 0 u)]) (λ u=>[(8,8,.rw 1 (eM ((gM A n).take u))),(9,9,.rw 3 (((gR B n).take u).map eQ))]) 0 O' ?_;intro u u1 uh;have Me:(gM A n).length=(BC n n).length:=(SY A).l;have yv:=aP B n;by_cases hu:u<(BC n n).length
 ·obtain ⟨⟨i,j⟩,fm⟩:=H' (BC n n) u hu
  have Hv:(BC n n)[((u:Nat):Int).toNat]? = some (i,j):=fm;obtain ⟨g1,g2,g3⟩:=iB fm;have mn:(gM A n)[u]? = some (D7 A n (i,j)):=by rw[gM,ea,fm];rfl
  have hrg:(gR B n)[u]? = some (bQ B i*bQ B j):=by rw[gR,ea,fm];rfl
  have Eh:=P5 mn;have ox:=P5 hrg;have Ld:((gM A n).take u).length=u:=by rw[qa];omega
  have Qv:((gR B n).take u).length=u:=by rw[qa];omega
  have Mc:=λ q1 q2 q3=>hE q1 q2 q3 i j g1 g2
  clear hE;generalize (gM A n).take u=G0 at *;generalize (gR B n).take u=R0 at *;generalize D7 A n (i,j)=gr at *;generalize bQ B i*bQ B j=gy at *;repeat' (first|(apply AG<;>intro hc<;>try omega)|(apply AX;omega)|(refine A4 V' ?_ rfl ?_;omega)|apply DG|apply AE|refine AD (Mc _ _ _) ?_)<;>conv=>whnf
  refine EE (enc:=λ r:K'=>[AV.sl false (r.map eQ)]) gr rfl Ld.symm rfl O' O' ?_;conv=>whnf
  (repeat' (apply DG<;>conv=>whnf))
  refine EE (enc:=eQ) gy rfl Qv.symm rfl O' O' ?_;conv=>whnf
  rw[<-Eh,<-ox,show ((gM A n).take (u+1)).length=u+1 by rw[qa];omega,show ((gR B n).take (u+1)).length=u+1 by rw[qa];omega];repeat' (first|(apply AP;omega)|fail)<;>conv=>whnf
  exact A9 [(8,58),(9,62)] (uh (u+1) O' O')
 have eu:u=(BC n n).length:=O'
 clear uh hE;rw[eu,zT O',zT O'];clear eu u1 hu u;obtain ⟨d1,d2⟩:=Afa (m:=(BC n n).length) ⟨ug,hlen⟩;have Mu:=λ q q1 q2=>Ahx N.tou9 q q1 q2 (gM A n) (gR B n) (BC n n).length 180 180 (SY A).l (SY A).r yv O' O' O' h.mb h.rb h.sc h.wh d1 (X0.Rw (λ z9 c hc X hX hs=>h.qs z9 X ⟨hX,λ i r s h1 h2=>by
  obtain rfl:c=0:=O'
  exact hs i r [s] h1 (by rw[ea,h2];rfl)⟩) d2 ug)
 have hGS : ∀ y:K',y.length=(BC n n).length->(∀ (i:Nat) (r:K') (s:Rat),(gM A n)[i]? = some r->(gR B n)[i]? = some s->AZ r y=s)->HZ A B y n:=λ y h1 h2=>⟨h1,h2⟩
 generalize gM A n=G at *;generalize gR B n=R at *;repeat' (first|(apply AG<;>intro hc<;>try omega)|apply AE)<;>conv=>whnf
 refine C8 (enc:=λ r:K'=>[AV.sl false (r.map eQ)]) (λ_=>rfl) rfl Me.symm ?_;conv=>whnf
 refine C8 (enc:=eQ) (λ_=>rfl) rfl yv.symm ?_;conv=>whnf
 obtain ⟨v,hv,z8⟩:=Mu true false true;rcases z8 with ⟨z9,rfl⟩|⟨z9,X,rfl,zd,qh,hX⟩
 ·repeat' (first|(apply AG<;>intro hc<;>try omega)|refine AD (hv) ?_)<;>conv=>whnf
  refine ⟨.c5 [.sl false [],.int .i64 11],?_,Or.inl ⟨z9,rfl⟩⟩;conv=>whnf
  exact AY rfl (JO [] 11)
 ·have Ht:=hGS X zd hX
  clear hGS hX;repeat' (first|(apply AG<;>intro hc<;>try omega)|apply AR|refine AD (hv) ?_)<;>conv=>whnf
  refine CE (λ u=>(BC n n).length-u) (λ(u:Nat)=>u<=(BC n n).length) (λ u=>[(75,.int .i64 u)]) (λ u=>[(21,21,.mx (BJ 3 eO (NC X n u)))]) 0 O' ?_;intro u u1 uh;by_cases hu:u<(BC n n).length
  ·obtain ⟨⟨i,j⟩,fm⟩:=H' (BC n n) u hu
   have Hv:(BC n n)[((u:Nat):Int).toNat]? = some (i,j):=fm;obtain ⟨g1,g2,g3⟩:=iB fm;obtain ⟨x,hx⟩:=H' X u;have dv:X[((u:Nat):Int).toNat]? = some x:=hx;have hT:=K7 N.toa5 (qh.at hx) O';have ml:=AiU fm hx;obtain ⟨f1,f2⟩:=yZ (X:=X) (n:=n) u O';generalize NC X n u=M0 at *;obtain ⟨r0,s8⟩:=H' M0 i;have bh:=f2 r0 (zM s8);obtain ⟨s0,br⟩ : ∃ s,(M0.set i (r0.set j (some x)))[j]? = some s:=⟨_,zE (by rw[Qa];omega)⟩;have xq:s0.length=n:=by
    rcases List.mem_or_eq_of_mem_set (zM br) with hs|rfl
    ·exact f2 s0 hs
    ·rw[Qa];exact bh
   rw[AiV s8 br]at ml;have dd:(M0.set i (r0.set j (some x))).length=n:=by rw[Qa];exact f1
   repeat' (first|(apply AG<;>intro hc<;>try omega)|(apply AX;omega)|(refine A4 V' ?_ rfl ?_;omega)|(refine GG ?_ (λ r hr => ?_);omega)|apply AE)<;>conv=>whnf
   cases s8.symm.trans hr;(repeat' (refine AD (hT) ?_<;>conv=>whnf))
   refine AX (by rw[va];exact O') ?_;conv=>whnf
   repeat' (first|refine GX V' ?_|fail)<;>conv=>whnf
   refine E5 (enc:=eO) (some x) rfl (λ e=>by cases e<;>rfl) O' ?_;conv=>whnf
   refine ZQ (by rw[Qa]) ?_;conv=>whnf
   generalize M0.set i (r0.set j (some x))=M1 at *;repeat' (first|(apply AX;omega)|(refine A4 V' ?_ rfl ?_;omega)|(refine GG ?_ (λ r hr => ?_);omega))<;>conv=>whnf
   cases br.symm.trans hr;(repeat' (refine AD (hT) ?_<;>conv=>whnf))
   refine AX (by rw[va];exact O') ?_;conv=>whnf
   repeat' (first|refine GX V' ?_|fail)<;>conv=>whnf
   refine E5 (enc:=eO) (some x) rfl (λ e=>by cases e<;>rfl) O' ?_;conv=>whnf
   refine ZQ (by rw[Qa]) ?_;rw[ml];conv=>whnf
   repeat' (first|(apply AP;omega)|fail)<;>conv=>whnf
   exact A9 [] (uh (u+1) O' O')
  ·have eu:u=(BC n n).length:=O'
   clear uh;have uy:=(TC X n).l;rw[eu,AiT hn Ht.1,Ak5];generalize hQ:kM X n=Q at *;repeat' (first|(apply AG<;>intro hc<;>try omega)|apply AE)<;>conv=>whnf
   refine ⟨.c5 [.sl false (eM Q),.int .i64 0],?_,Or.inr ⟨z9,X,Ht,qh,by rw[hQ]⟩⟩;conv=>whnf
   refine H1 (λ_=>rfl) rfl uy.symm ?_;conv=>whnf
   exact AY rfl (JO Q 0)
theorem Ahq (N:o9 L) (A:J') (B:K') (n k:Nat) (h:NZ A B n k) (hk:k<=1000) (hn:n<=4) (q1 q2 q3:Bool) :
  ∃ v,Ev L 324 [.sl q1 (DC q2 A),.sl q3 (B.map eQ)] v/\(((∀ j,j<=6->DH (B8 n A j)=false)/\v = .c5 [.sl false [],.int .i64 14])\/((∃ i,i<=6/\IY n A i)/\((¬ NS (BC n n).length (gM A n)/\v = .c5 [.sl false [],.int .i64 11])\/(NS (BC n n).length (gM A n) /\ ∃ X:K',HZ A B X n/\v = .c5 [.sl false (eM (kM X n)),.int .i64 0])))):=by
 have y9:=h.sq.l;have da:=h.lb;obtain ⟨v,yp,z8⟩:=xT N.tov7 q1 q2 A n k h.sq h.ba O' O';obtain ⟨w,hF,Ec⟩:=xG N A B n k h hk hn q1 q2 q3;refine Ev.xE N.O4 rfl rfl ?_;repeat' (first|(apply AG<;>intro hc<;>try omega)|apply AR|apply AE)<;>conv=>whnf
 refine CE (λ i=>n-i) (λ(i:Nat)=>i<=n) (λ i=>[(22,.int .i64 i)]) (λ_=>[]) 0 O' ?_;intro i p1 ih;by_cases hi:i<n
 ·obtain ⟨r,s8⟩:=H' A i
  have ja:A[((i:Nat):Int).toNat]? = some r:=s8;have bh:=h.sq.at s8;repeat' (first|(apply AG<;>intro hc<;>try omega)|(apply AP;omega)|apply AR|(refine A4 V' ?_ rfl ?_;omega)|apply AE)<;>conv=>whnf
  exact A9 [] (ih (i+1) O' O')
 have ei:i=n:=O'
 clear ih;rw[ei];rcases z8 with ⟨i0,i1,i2,rfl⟩|⟨i1,rfl⟩
 ·rcases Ec with ⟨z9,rfl⟩|⟨z9,X,hX,_,rfl⟩
  ·repeat' (first|(apply AG<;>intro hc<;>try omega)|apply AE|refine AD (yp) ?_|refine AD (hF) ?_)<;>conv=>whnf
   exact ⟨_,AY rfl (JO [] 11),Or.inr ⟨⟨i0,i1,i2⟩,Or.inl ⟨z9,rfl⟩⟩⟩
  ·generalize hQ:kM X n=Q at *
   repeat' (first|(apply AG<;>intro hc<;>try omega)|apply AE|refine AD (yp) ?_|refine AD (hF) ?_)<;>conv=>whnf
   exact ⟨_,AY rfl (JO Q 0),Or.inr ⟨⟨i0,i1,i2⟩,Or.inr ⟨z9,X,hX,by rw[hQ]⟩⟩⟩
 ·repeat' (first|(apply AG<;>intro hc<;>try omega)|apply AE|refine AD (yp) ?_)<;>conv=>whnf
  exact ⟨_,AY rfl (JO [] 14),Or.inl ⟨i1,rfl⟩⟩
end Go.c6

namespace Go.c6
open F
attribute [local irreducible] AA AF AL AC CQ AW BA A8 B3 BL CN D4 BP A1 B6 CF AB BG AH pw BV BO CS CY C2 BX CG BU CX
variable {L:Lib}
set_option maxRecDepth 8000
theorem AlY {T:J'} {b:K'} {n K:Nat} {m:J'} (h:E1 T (b.map λ x=>[x]) n 1 m n n) (hM:Ms K m):m.map (·.drop n)=(m.map λ r=>r.getD n 0).map (λ x=>[x])/\(m.map λ r=>r.getD n 0).length=n/\Bs K (m.map λ r=>r.getD n 0):=by
 refine ⟨?_,by rw[va];exact h.len,λ x hx => ?_⟩
 ·rw[zb]
  refine gb λ r hr => ?_
  have hl:=h.wid r hr;show r.drop n=[r.getD n 0];rw[List.drop_eq_getElem_cons O',List.drop_of_length_le O',ua,zE O'];rfl
 ·obtain ⟨r,hr,rfl⟩:=xa.1 hx
  exact Bs.getD (hM r hr) n
theorem Aiu (N:o9 L) (q1 q2 q3:Bool) (a:J') (b:K') (n k:Nat) (hT:Sq n a) (da:b.length=n) (jq:Bs k b) (hn:1<=n/\n<=10) (bq:Ms k a) (hk:k<=1000) (hB:10*F6 k n<=100000000000) :
  ∃ v,Ev L 327 [.sl q1 (DC q2 a),.sl q3 (b.map eQ)] v/\((¬ NS n a/\v = .c5 [.sl false [],.int .i64 11])\/(NS n a /\ ∃ y:K',v = .c5 [.sl false (y.map eQ),.int .i64 0]/\y.length=n/\Bs (F6 k n) y /\ ∀ (i:Nat) (r:K') (s:Rat),a[i]? = some r->b[i]? = some s->AZ r y=s)):=by
 have y9:=hT.l;have hV:=Aiv N.tojd q1 q2 a n n y9 hT.r O' O';obtain ⟨r0,s8⟩:=H' a 0;have Ar:a[(0:Int).toNat]? = some r0:=s8;have jf:=hT.at s8;have qk : ∀ r∈b.map (λ x=>[x]),r.length=1:=λ r hr=>by obtain ⟨x,_,rfl⟩:=xa.1 hr;rfl
 have hbm:Ms k (b.map λ x=>[x]):=λ r hr=>by
  obtain ⟨x,hx,rfl⟩:=xa.1 hr;intro z hz;obtain rfl:=ga.1 hz;exact jq z hx
 obtain ⟨v,wc,z8⟩:=AhE N.toaj q1 q2 true true a (b.map λ x=>[x]) n 1 k hT (by rw[va];exact da) qk hbm hn O' bq hk hB;refine Ev.xE N.MQ rfl rfl ?_;repeat' (first|(apply AG<;>intro hc<;>try omega)|apply AR|(refine A4 V' ?_ rfl ?_;omega)|apply AE|refine AD (hV) ?_)<;>conv=>whnf
 refine ZJ 6 6 rfl ?_;refine CE (λ i=>n-i) (λ(i:Nat)=>i<=n) (λ i=>[(35,.int .i64 i),(6,.row 6 0 1 0 i)]) (λ i=>[(6,6,.mx (BJ 3 eQ ((b.take i).map λ x=>[x])))]) 0 O' ?_;intro i p1 ih;have ct:((b.take i).map λ x=>[x]).length=i:=by rw[va,qa];omega
 by_cases hi:i<n
 ·obtain ⟨x,hx⟩:=H' b i
  have dv:b[(i:Int).toNat]? = some x:=hx;have hs:(b.take (i+1)).map (λ x=>[x])=(b.take i).map (λ x=>[x])++[[x]]:=by rw[P5 hx,ub];rfl
  have Ek:((b.take (i+1)).map λ x=>[x]).length=i+1:=by rw[va,qa];omega
  generalize (b.take i).map (λ x=>[x])=R0 at *;repeat' (first|(apply AG<;>intro hc<;>try omega)|(refine A4 V' ?_ rfl ?_;omega)|apply AE)<;>conv=>whnf
  refine AX rfl ?_;refine RP (r:=[x]) (en:=eQ) ct.symm O' O' ?_;rw[<-hs,Ek];conv=>whnf
  repeat' (first|(apply AP;omega)|fail)<;>conv=>whnf
  exact A9 [(6,43)] (ih (i+1) O' O')
 have ei:i=n:=O'
 clear ih;rw[ei,zT O'];repeat' (first|(apply AG<;>intro hc<;>try omega)|(refine H1 (λ_=>rfl) rfl ?_ ?_;(first|rfl|simp))|apply AE)<;>conv=>whnf
 ·exact da.symm
 (conv=>whnf)
 rcases z8 with ⟨z9,rfl⟩|⟨z9,m,rfl,hR,hM⟩
 ·(repeat' (refine AD (wc) ?_<;>conv=>whnf))
  refine AR (l:=([]:K')) (enc:=eQ) ?_;rw[show ([]:K').length=0 from rfl];conv=>whnf
  refine F8 ?_;repeat' (first|(apply AG<;>intro hc<;>try omega)|apply AE)<;>conv=>whnf
  refine ⟨.c5 [.sl false [],.int .i64 11],?_,Or.inl ⟨z9,rfl⟩⟩;conv=>whnf
  refine Aep ?_;conv=>whnf
  exact AY rfl (JO [] 11)
 ·obtain ⟨c1,c2,c3⟩:=AlY hR hM
  have Qr:=hR.Rw hT da;rw[c1]at wc;generalize (m.map λ r=>r.getD n 0)=y at *;have hYl:(y.map λ x=>[x]).length=n:=by rw[va];exact c2
  have Ng : ∀ (i:Nat) (x:Rat),y[i]? = some x->(y.map λ x=>[x])[((i:Nat):Int).toNat]? = some [x]:=λ i x hx=>by
   rw[Ra,ea,hx];rfl
  have hY1 : ∀ x:Rat,([x]:K')[(0:Int).toNat]? = some x:=λ x=>rfl
  generalize (y.map λ x=>[x])=Y at *;repeat' (first|apply AR|refine AD (wc) ?_)<;>conv=>whnf
  refine CE (λ i=>n-i) (λ(i:Nat)=>i<=n) (λ i=>[(53,.int .i64 i),(11,.row 11 0 3 0 i)]) (λ i=>[(11,11,.rw 3 ((y.take i).map eQ))]) 0 O' ?_;intro i p1 ih;have ct:(y.take i).length=i:=by rw[qa];omega
  by_cases hi:i<n
  ·obtain ⟨x,hx⟩:=H' y i
   have dv:=Ng i x hx;have Rf:=hY1 x;have hs:=P5 hx;have Ek:(y.take (i+1)).length=i+1:=by rw[qa];omega
   generalize y.take i=R0 at *;repeat' (first|(apply AG<;>intro hc<;>try omega)|(refine A4 V' ?_ rfl ?_;omega)|apply DG|apply AE)<;>conv=>whnf
   refine EE (enc:=eQ) x rfl ct.symm rfl O' O' ?_;rw[<-hs,Ek];conv=>whnf
   repeat' (first|(apply AP;omega)|fail)<;>conv=>whnf
   exact A9 [(11,62)] (ih (i+1) O' O')
  have ei:i=n:=O'
  clear ih;rw[ei,zT O'];repeat' (first|(apply AG<;>intro hc<;>try omega)|apply AE)<;>conv=>whnf
  refine ⟨.c5 [.sl false (y.map eQ),.int .i64 0],?_,Or.inr ⟨z9,y,rfl,c2,c3,Qr⟩⟩;conv=>whnf
  refine C8 (enc:=eQ) (λ_=>rfl) rfl O' ?_;conv=>whnf
  exact AY rfl (uD y 0)
abbrev eP:Option Rat->u_
 | none=>[.bool false,.sl false [],.sl false []]
 | some x=>eQ x
theorem AiN (N:k9 L) {o:Option Rat} {y:Rat} {k l:Nat} (hx:Bt k (o.getD 0)) (hy:Bt l y) (hk:k<2199023255552) (hl:l<2199023255552):Ev L 153 [.agg (eP o),.agg (eQ y)] (.agg (eQ (o.getD 0-y))):=by
 cases o with
 | some x=>exact yM N hx hy hk hl
 | none =>
  have hn:Bt l (-y):=⟨by rw[Rat.neg_num,Int.natAbs_neg];exact hy.1,by rw[Rat.neg_den];exact hy.2⟩;have hN:=eN N hy hl;have hA:=yB (q1:=false) (q3:=false) N.toa6 68719476736 O' false (decide ((-y).num<0)) false false [] [] (dg (-y).num.natAbs) (dg (-y).den) (VE _) (VE _) (hn.gf hl).1 (hn.gf hl).2;rw[EL,show qv false [] []=0 from Y',<-Ba]at hA;refine Ev.x N.PO rfl rfl ?_;repeat' (first|apply AE|refine AD (hN) ?_|refine AD (hA) ?_)<;>conv=>whnf
  exact AY rfl (DK _)
theorem Aij (N:o9 L) (n i j:Nat) (hn:n<=4) (fm:i<=j) (hj:j<n):Ev L 325 [.int .i64 (i:Int),.int .i64 (j:Int),.int .i64 (n:Int)] (.int .i64 ((dc n i j:Nat):Int)):=by
 rcases QV hn with rfl|rfl|rfl|rfl|rfl
 ·omega
 ·obtain ⟨rfl,rfl⟩:i=0/\j=0:=O'
  refine Ev.x N.KR rfl rfl ?_;repeat' (first|(apply AP;omega)|(apply BS;omega)|(apply FL;omega)|(refine IZ ?_ ?_ (λ_ => ?_) (λ_ _ => ?_);omega;omega;all_goals try omega)|apply AE)<;>conv=>whnf
  exact CJ rfl
 ·obtain ⟨rfl,rfl⟩|⟨rfl,rfl⟩|⟨rfl,rfl⟩:(i=0/\j=0)\/(i=0/\j=1)\/(i=1/\j=1):=O'
  all_goals
   refine Ev.x N.KR rfl rfl ?_;repeat' (first|(apply AP;omega)|(apply BS;omega)|(apply FL;omega)|(refine IZ ?_ ?_ (λ_ => ?_) (λ_ _ => ?_);omega;omega;all_goals try omega)|apply AE)<;>conv=>whnf
   exact CJ rfl
 ·obtain ⟨rfl,rfl⟩|⟨rfl,rfl⟩|⟨rfl,rfl⟩|⟨rfl,rfl⟩|⟨rfl,rfl⟩|⟨rfl,rfl⟩:(i=0/\j=0)\/(i=0/\j=1)\/(i=0/\j=2)\/(i=1/\j=1)\/(i=1/\j=2)\/(i=2/\j=2):=O'
  all_goals
   refine Ev.x N.KR rfl rfl ?_;repeat' (first|(apply AP;omega)|(apply BS;omega)|(apply FL;omega)|(refine IZ ?_ ?_ (λ_ => ?_) (λ_ _ => ?_);omega;omega;all_goals try omega)|apply AE)<;>conv=>whnf
   exact CJ rfl
 ·obtain ⟨rfl,rfl⟩|⟨rfl,rfl⟩|⟨rfl,rfl⟩|⟨rfl,rfl⟩|⟨rfl,rfl⟩|⟨rfl,rfl⟩|⟨rfl,rfl⟩|⟨rfl,rfl⟩|⟨rfl,rfl⟩|⟨rfl,rfl⟩:(i=0/\j=0)\/(i=0/\j=1)\/(i=0/\j=2)\/(i=0/\j=3)\/(i=1/\j=1)\/(i=1/\j=2)\/(i=1/\j=3)\/(i=2/\j=2)\/(i=2/\j=3)\/(i=3/\j=3):=O'
  all_goals
   refine Ev.x N.KR rfl rfl ?_;repeat' (first|(apply AP;omega)|(apply BS;omega)|(apply FL;omega)|(refine IZ ?_ ?_ (λ_ => ?_) (λ_ _ => ?_);omega;omega;all_goals try omega)|apply AE)<;>conv=>whnf
   exact CJ rfl
theorem AmS (r:K'):(r.map some).map eO=r.map eQ:=by rw[zb];rfl
theorem Ank {n:Nat} (hn:n<=4):(0<=(n:Int)*((n:Int)+1)/\(n:Int)*((n:Int)+1)<=20)/\((n:Int)*((n:Int)+1))/2=((n*(n+1)/2:Nat):Int)/\n*(n+1)/2<=10:=by
 rcases QV hn with rfl|rfl|rfl|rfl|rfl<;>decide
theorem AlX {k m:Nat} (hk:k<=242) (hm:m<=10):10*F6 k m<=100000000000:=by
 rcases (show m=0\/m=1\/m=2\/m=3\/m=4\/m=5\/m=6\/m=7\/m=8\/m=9\/m=10 by omega) with rfl|rfl|rfl|rfl|rfl|rfl|rfl|rfl|rfl|rfl|rfl<;>simp only[F6]<;>omega
theorem Akq {X:K'} {n i:Nat} (hi:i<n):(kM X n)[i]? = some ((Ka n).map λ j=>X.getD (dc n (min i j) (max i j)) 0):=by rw[kM,ea,Ja hi];rfl
theorem yE (N:o9 L) (A:J') (B:K') (n k:Nat) (hA:Sq n A) (hB:B.length=n) (me:Ms k A) (Bj:Bs k B) (hk:k<=60) (hn:n<=4) (q1 q2 q3:Bool) :
  ∃ v,Ev L 326 [.sl q1 (DC q2 A),.sl q3 (B.map eQ)] v/\(((∀ j,j<=6->DH (B8 n A j)=false)/\v = .c5 [.sl false [],.int .i64 14])\/((∃ i,i<=6/\IY n A i)/\((¬ NS (BC n n).length (gM A n)/\v = .c5 [.sl false [],.int .i64 11])\/(NS (BC n n).length (gM A n) /\ ∃ X:K',HZ A B X n/\Bs (F6 (4*k+2) (BC n n).length) X/\v = .c5 [.sl false (eM (kM X n)),.int .i64 0])))):=by
 have y9:=hA.l;obtain ⟨v,yp,z8⟩:=Aiy N.tobn q1 q2 A n k hA me O' O';refine Ev.xE N.HG rfl rfl ?_;rcases z8 with ⟨i0,i1,i2,rfl⟩|⟨i1,rfl⟩
 rotate_left
 ·repeat' (first|(apply AG<;>intro hc<;>try omega)|apply AR|apply AE|refine AD (yp) ?_)<;>conv=>whnf
  exact ⟨_,AY rfl (JO [] 14),Or.inl ⟨i1,rfl⟩⟩
 have mg : ∃ i,i<=6/\IY n A i:=⟨i0,i1,i2⟩;clear i1 i2;generalize ((2^i0:Nat):Int)=pw0 at *;clear i0;by_cases Ao:n=0
 ·subst Ao
  repeat' (first|(apply AG<;>intro hc<;>try omega)|apply AR|apply AE|refine AD (yp) ?_)<;>conv=>whnf
  refine ⟨_,AY rfl (JO [] 0),Or.inr ⟨mg,Or.inr ⟨λ X hX _ j => ?_,[],⟨rfl,λ i r s hr=>by cases hr⟩,(λ x hx=>by cases hx),rfl⟩⟩⟩;rw[qb.1 hX];rfl
 obtain ⟨⟨t1,t2⟩,t3,t4⟩:=Ank hn;have Ie:=Alu hn;have ug:1<=(BC n n).length:=by
  rcases QV hn with rfl|rfl|rfl|rfl|rfl<;>first|omega|decide
 have hO:=KE N.toa6 1 O';have Da:=λ i j h1 h2=>Aij N n i j hn h1 h2
 repeat' (first|(apply AG<;>intro hc<;>try omega)|apply AR|apply AE|refine AD (yp) ?_)<;>conv=>whnf
 rw[y9];refine ZJ 9 9 rfl ?_;refine CE (λ i=>n-i) (λ(i:Nat)=>i<=n) (λ i=>[(11,.int .i64 i),(9,.row 9 0 1 0 (BC n i).length),(10,.row 10 0 3 0 (BC n i).length)]) (λ i=>[(9,9,.mx (BJ 3 eQ ((BC n i).map (D7 A n)))),(10,10,.rw 3 (((BC n i).map λ p=>bQ B p.1*bQ B p.2).map eQ))]) 0 O' ?_;intro i p1 ih;by_cases hi:i<n
 ·have hS:=Xb hi
  obtain ⟨r1,z0,iv,tv⟩:=Y7 hA hi;have Iw:A[((i:Nat):Int).toNat]? = some r1:=z0;have Dz:=iD n (i:=i+1) (n-(i+1));rw[show i+1+(n-(i+1))=n by omega]at Dz;have Ai:B[((i:Nat):Int).toNat]? = some (bQ B i):=N8 hB hi;repeat' (first|(apply AG<;>intro hc<;>try omega)|apply AE)<;>conv=>whnf
  refine DF (λ t=>n-i-t) (λ(t:Nat)=>t<=n-i) (λ t=>[(12,.int .i64 ((i+t:Nat):Int)),(9,.row 9 0 1 0 ((BC n i).length+t)),(10,.row 10 0 3 0 ((BC n i).length+t))]) (λ t=>[(9,9,.mx (BJ 3 eQ ((BC n i++DT i t).map (D7 A n)))),(10,10,.rw 3 (((BC n i++DT i t).map λ p=>bQ B p.1*bQ B p.2).map eQ))]) [] [] 0 (by first|exact B'|(rw[show DT i 0=[] from rfl,List.append_nil];exact B')) O' ?_;intro t u1 th;by_cases ht:t<n-i
  ·obtain ⟨r2,au,eo,qi⟩:=Y7 hA (show i+t<n by omega)
   have Qe:A[((i+t:Nat):Int).toNat]? = some r2:=au;have Nn:B[((i+t:Nat):Int).toNat]? = some (bQ B (i+t)):=N8 hB O';have Mk:=ON N.toa6 (Bs.at Bj (N8 hB hi)) (Bs.at Bj (N8 hB (show i+t<n by omega))) O' O';have uz:BC n i++DT i (t+1)=(BC n i++DT i t)++[(i,i+t)]:=by rw[Uz,List.append_assoc]
   have Hi:(BC n i++DT i t).length=(BC n i).length+t:=by rw[Ca,Y1]
   have Ak:(BC n i++DT i (t+1)).map (D7 A n)=(BC n i++DT i t).map (D7 A n)++[D7 A n (i,i+t)]:=by rw[uz,ub];rfl
   have ke:((BC n i++DT i (t+1)).map λ p=>bQ B p.1*bQ B p.2)=((BC n i++DT i t).map λ p=>bQ B p.1*bQ B p.2)++[bQ B i*bQ B (i+t)]:=by rw[uz,ub];rfl
   have Oq:((BC n i++DT i t).map (D7 A n)).length=(BC n i).length+t:=by rw[va];exact Hi
   have Ot:((BC n i++DT i t).map λ p=>bQ B p.1*bQ B p.2).length=(BC n i).length+t:=by rw[va];exact Hi
   have On:((BC n i++DT i (t+1)).map (D7 A n)).length=(BC n i).length+(t+1):=by rw[va,Ca,Y1]
   have Oo:((BC n i++DT i (t+1)).map λ p=>bQ B p.1*bQ B p.2).length=(BC n i).length+(t+1):=by rw[va,Ca,Y1]
   have Ml:=Da i (i+t) O' O';have ov:=iE hn hi (show i+t<n by omega);rw[show min i (i+t)=i by omega,show max i (i+t)=i+t by omega]at ov;have w4:P0 n i (i+t)=(sa (n*(n+1)/2) none).set (dc n i (i+t)) (some 1):=rfl;have gl:=Al0 (A:=A) hn (show i<=i+t by omega) (show i+t<n by omega);have Qi:(P0 n i (i+t)).length=n*(n+1)/2:=by simp [P0]
   have hob:=Al1 n i (i+t);generalize (BC n i++DT i t).map (D7 A n)=G0 at *;generalize ((BC n i++DT i t).map λ p=>bQ B p.1*bQ B p.2)=R0 at *;have AAl:(D7 A n (i,i+t)).length=n*(n+1)/2:=by rw[D7,va,Ie]
   generalize D7 A n (i,i+t)=gr at *;generalize bQ B i*bQ B (i+t)=gy at *;repeat' (first|(apply AG<;>intro hc<;>try omega)|(apply AP;omega)|(apply FL;omega)|(refine IZ ?_ ?_ (λ_ => ?_) (λ_ _ => ?_);omega;omega;all_goals try omega)|apply AE)<;>conv=>whnf
   refine DW (enc:=eO) none (n*(n+1)/2) rfl t3 (by rw[t3];omega) ?_;conv=>whnf
   repeat' (first|(apply AX;omega)|refine AD (Ml) ?_|refine AD (hO) ?_)<;>conv=>whnf
   refine E5 (enc:=eO) (some 1) rfl (λ e=>by cases e<;>rfl) (by rw[List.length_replicate];exact ov) ?_;conv=>whnf
   rw[<-w4];generalize P0 n i (i+t)=S0 at *;skip
   refine CE (λ k=>n-k) (λ(k:Nat)=>k<=n) (λ k=>[(14,.int .i64 k)]) (λ k=>[(58,58,.rw 3 ((JY n S0 (λ k h=>A2 A i k*A2 A (i+t) h) k).map eO))]) 0 O' ?_;intro kk k1 kh;by_cases fo:kk<n
   ·have Rf:=tv kk fo
    have ABa:r1[((kk:Nat):Int).toNat]? = some (A2 A i kk):=Rf;have Pw:=Vp (n:=n) hob (λ a b=>(GC me i a).mul (GC me (i+t) b)) kk;have Jc:=Vo n S0 (λ k h=>A2 A i k*A2 A (i+t) h) kk;rw[Qi]at Jc;have hKn:JY n S0 (λ k h=>A2 A i k*A2 A (i+t) h) (kk+1)=JC n (JY n S0 (λ k h=>A2 A i k*A2 A (i+t) h) kk) kk (λ h=>A2 A i kk*A2 A (i+t) h) n:=rfl;have Ku:kk*(n*(k+k+1))<=2000:=by
     have h1:n*(k+k+1)<=4*121:=Oa hn O';have h2:kk*(n*(k+k+1))<=4*(4*121):=Oa O' h1;omega
    repeat' (first|(apply AG<;>intro hc<;>try omega)|apply AE)<;>conv=>whnf
    refine CE (λ h=>n-h) (λ(h:Nat)=>h<=n) (λ h=>[(15,.int .i64 h)]) (λ h=>[(58,58,.rw 3 ((JC n (JY n S0 (λ k h=>A2 A i k*A2 A (i+t) h) kk) kk (λ h=>A2 A i kk*A2 A (i+t) h) h).map eO))]) 0 O' ?_;intro hh h1 hhh;generalize JY n S0 (λ k h=>A2 A i k*A2 A (i+t) h) kk=K0 at *;by_cases hhn:hh<n
    ·have Rg:=qi hh hhn
     have ABb:r2[((hh:Nat):Int).toNat]? = some (A2 A (i+t) hh):=Rg;have hM:=ON N.toa6 (GC me i kk) (GC me (i+t) hh) O' O';have sn:=Da (min kk hh) (max kk hh) O' O';have hpm:=iE hn fo hhn;have Pv:=pU (n:=n) (a:=kk) Pw (λ h=>(GC me i kk).mul (GC me (i+t) h)) hh;have hlh:=pT n K0 kk (λ h=>A2 A i kk*A2 A (i+t) h) hh;rw[Jc]at hlh;have hHn:JC n K0 kk (λ h=>A2 A i kk*A2 A (i+t) h) (hh+1)=RB n (JC n K0 kk (λ h=>A2 A i kk*A2 A (i+t) h) hh) kk hh (A2 A i kk*A2 A (i+t) hh):=rfl;generalize JC n K0 kk (λ h=>A2 A i kk*A2 A (i+t) h) hh=H0 at *;obtain ⟨o,ho⟩:=H' H0 (dc n (min kk hh) (max kk hh));have hbo:=Pv.at (dc n (min kk hh) (max kk hh));rw[RB,ho]at hHn;rw[ho]at hbo;have hhb:hh*(k+k+1)<=484:=Oa (show hh<=4 by omega) (show k+k+1<=121 by omega);have hSb:Ev L 153 [.agg (eP o),.agg (eQ (A2 A i kk*A2 A (i+t) hh))] (.agg (eQ (o.getD 0-A2 A i kk*A2 A (i+t) hh))):=AiN N.tok9 hbo ((GC me i kk).mul (GC me (i+t) hh)) O' O';generalize dc n (min kk hh) (max kk hh)=pp at *;generalize A2 A i kk*A2 A (i+t) hh=yy at *;have Mm:(hh<kk/\Ev L 325 [.int .i64 (hh:Int),.int .i64 (kk:Int),.int .i64 (n:Int)] (.int .i64 (pp:Int)))\/(kk<hh/\Ev L 325 [.int .i64 (kk:Int),.int .i64 (hh:Int),.int .i64 (n:Int)] (.int .i64 (pp:Int)))\/(kk=hh/\Ev L 325 [.int .i64 (kk:Int),.int .i64 (kk:Int),.int .i64 (n:Int)] (.int .i64 (pp:Int))):=by
      rcases Nat.lt_trichotomy hh kk with j9|mi|mi
      ·rw[Nat.min_eq_right O',Ob O']at sn
       exact Or.inl ⟨j9,sn⟩
      ·rw[Pb O',Ob O']at sn
       exact Or.inr (Or.inr ⟨mi.symm,sn⟩)
      ·rw[Pb O',Nat.max_eq_right O']at sn
       exact Or.inr (Or.inl ⟨mi,sn⟩)
     clear sn;have hHs:H0.set pp (some (o.getD 0-yy))=JC n K0 kk (λ h=>A2 A i kk*A2 A (i+t) h) (hh+1):=hHn.symm;generalize o.getD 0-yy=zz at *;rcases Mm with ⟨j9,sn⟩|⟨j9,sn⟩|⟨j9,sn⟩
     all_goals cases o
     all_goals
      repeat' (first|(apply AG<;>intro hc<;>try omega)|(apply AX;omega)|apply AE|refine AD (sn) ?_)<;>conv=>whnf
      refine XZ (l:=H0) (enc:=eO) (by rw[Ha,Ra];exact ho) rfl ?_;conv=>whnf
      repeat' (first|(apply AX;omega)|(refine A4 V' ?_ rfl ?_;omega)|refine AD (hM) ?_|refine AD (hSb) ?_)<;>conv=>whnf
      refine E5 (enc:=eO) (some zz) rfl (λ e=>by cases e<;>rfl) O' ?_;conv=>whnf
      rw[hHs];repeat' (first|(apply AP;omega)|fail)<;>conv=>whnf
      exact A9 [] (hhh (hh+1) O' O')
    ·have eh:hh=n:=O'
     clear hhh;rw[eh,<-hKn];repeat' (first|(apply AG<;>intro hc<;>try omega)|(apply AP;omega)|apply AE)<;>conv=>whnf
     exact A9 [] (kh (kk+1) O' O')
   ·have ek:kk=n:=O'
    clear kh;rw[ek,gl,AmS];repeat' (first|(apply AG<;>intro hc<;>try omega)|apply AE)<;>conv=>whnf
    refine AX E' ?_;refine RP (r:=gr) (en:=eQ) Oq.symm O' O' ?_;conv=>whnf
    rw[<-Ak,On];repeat' (first|(refine A4 V' ?_ rfl ?_;omega)|apply DG|refine AD (Mk) ?_)<;>conv=>whnf
    refine EE (enc:=eQ) gy rfl Ot.symm rfl O' O' ?_;conv=>whnf
    rw[<-ke,Oo];repeat' (first|(apply AP;omega)|fail)<;>conv=>whnf
    exact A9 [(9,110),(10,122)] (th (t+1) O' O')
  ·have et:t=n-i:=O'
   clear th;have e1:BC n i++DT i t=BC n (i+1):=by rw[et];rfl
   have e2:(BC n i).length+t=(BC n (i+1)).length:=by rw[hS,et]
   rw[e1,e2];repeat' (first|(apply AG<;>intro hc<;>try omega)|(apply AP;omega)|apply AE)<;>conv=>whnf
   exact A9 [] (ih (i+1) O' O')
 have ei:i=n:=O'
 clear ih;rw[ei];clear ei p1 hi i;obtain ⟨v,hSv,z8⟩:=Aiu N true true true (gM A n) (gR B n) (BC n n).length (4*k+2) (SY A) (aP B n) (Ai7 Bj n) ⟨ug,O'⟩ (Ai6 me n) O' (AlX O' O');have Me:(gM A n).length=(BC n n).length:=(SY A).l;have yv:=aP B n;have Ht : ∀ y:K',y.length=(BC n n).length->(∀ (i:Nat) (r:K') (s:Rat),(gM A n)[i]? = some r->(gR B n)[i]? = some s->AZ r y=s)->HZ A B y n:=λ y h1 h2=>⟨h1,h2⟩
 rw[show (BC n n).map (D7 A n)=gM A n from rfl,show ((BC n n).map λ p=>bQ B p.1*bQ B p.2)=gR B n from rfl];generalize gM A n=G at *;generalize gR B n=R at *;repeat' (first|(apply AG<;>intro hc<;>try omega)|apply AE)<;>conv=>whnf
 refine H1 (λ_=>rfl) rfl Me.symm ?_;conv=>whnf
 refine C8 (enc:=eQ) (λ_=>rfl) rfl yv.symm ?_;conv=>whnf
 rcases z8 with ⟨z9,rfl⟩|⟨z9,X,rfl,zd,qh,hX⟩
 ·repeat' (first|(apply AG<;>intro hc<;>try omega)|refine AD (hSv) ?_)<;>conv=>whnf
  exact ⟨_,AY rfl (JO [] 11),Or.inr ⟨mg,Or.inl ⟨z9,rfl⟩⟩⟩
 have hgX:=Ht X zd hX;clear Ht hX;have Bl:=TC X n;have uy:=Bl.l;have Ey:=Bl.r;have Gx : ∀ i,i<n->(kM X n)[i]? = some ((Ka n).map λ j=>X.getD (dc n (min i j) (max i j)) 0):=λ i hi=>Akq hi
 have yq : ∀ i j,j<n->((Ka n).map λ j=>X.getD (dc n (min i j) (max i j)) 0)[j]? = some (X.getD (dc n (min i j) (max i j)) 0):=λ i j hj=>by rw[ea,Ja hj];rfl
 have hXa : ∀ i j,i<n->j<n->X[(((dc n (min i j) (max i j)):Nat):Int).toNat]? = some (X.getD (dc n (min i j) (max i j)) 0):=λ i j hi hj=>by
  have:=iE hn hi hj
  rw[Ra,ua,zE O'];rfl
 generalize hQQ:kM X n=Q at *;repeat' (first|(apply AG<;>intro hc<;>try omega)|refine AD (hSv) ?_)<;>conv=>whnf
 unfold C2;refine ⟨⟨O',O',by simp only[DX];omega,O'⟩,?_⟩;rw[Ra];conv=>whnf
 skip
 refine DF (λ i=>n-i) (λ(i:Nat)=>i<=n) (λ i=>[(20,.int .i64 i)]) (λ i=>[(133,133,.mx (mz Q n i))]) [] [] 0 (by first|exact B'|(rw[<-gO Q];exact B')) O' ?_;intro i p1 ih;have Ro:=gL (Q:=Q) p1;by_cases hi:i<n
 ·have hq:=Gx i hi
  have g9:=gN hq hi;have jv:(mz Q n i)[i]? = some none:=pD uy hi;have xn:=Ey _ (zM hq);have fb:((Ka n).map λ j=>X.getD (dc n (min i j) (max i j)) 0).take 1=[X.getD (dc n (min i 0) (max i 0)) 0]:=by
   rw[P5 (yq i 0 O')];rfl
  have Iu : ∀ j,j<n->((Ka n).map λ j=>X.getD (dc n (min i j) (max i j)) 0).take (j+1)=((Ka n).map λ j=>X.getD (dc n (min i j) (max i j)) 0).take j++[X.getD (dc n (min i j) (max i j)) 0]:=λ j hj=>P5 (yq i j hj)
  have sn : ∀ j,j<n -> ∀ a b:Int,a=((min i j:Nat):Int)/\b=((max i j:Nat):Int)->Ev L 325 [.int .i64 a,.int .i64 b,.int .i64 (n:Int)] (.int .i64 ((dc n (min i j) (max i j):Nat):Int)):=λ j hj a b h=>by
   rw[h.1,h.2];exact Da (min i j) (max i j) O' O'
  have hpc:=λ j (hj:j<n)=>iE hn hi hj
  generalize mz Q n i=Z0 at *;generalize ((Ka n).map λ j=>X.getD (dc n (min i j) (max i j)) 0)=qr at *;have Kc:=sn 0 O';have yz:=hXa i 0 hi O';have Fj:=hpc 0 O';generalize X.getD (dc n (min i 0) (max i 0)) 0=y0 at *;generalize dc n (min i 0) (max i 0)=pp at *;repeat' (first|(apply AG<;>intro hc<;>try omega)|apply AE)<;>conv=>whnf
  refine F8 ?_;repeat' (first|(apply AG<;>intro hc<;>try omega)|(apply AX;omega)|apply AE)<;>conv=>whnf
  refine cS (r:=none) (by rw[Ha,Ra];exact jv) ?_;conv=>whnf
  repeat' (first|(apply AG<;>intro hc<;>try omega)|(refine A4 V' ?_ rfl ?_;omega)|apply DG|refine AD (Kc _ _ O') ?_)<;>conv=>whnf
  all_goals
   refine RR (enc:=eQ) y0 rfl rfl O' ?_;conv=>whnf
   repeat' (first|(apply AX;omega)|fail)<;>conv=>whnf
   refine AX rfl ?_;refine R3 (i:=i) O' O' ?_;conv=>whnf
   repeat' (first|(apply AP;omega)|fail)<;>conv=>whnf
   refine DF (λ j=>n-j) (λ(j:Nat)=>1<=j/\j<=n) (λ j=>[(21,.int .i64 j)]) (λ j=>[(133,133,.mx (Z0.set i (some (3,(qr.take j).map eQ))))]) [] [] 1 (by first|exact B'|(rw[fb];exact B')) O' ?_;intro j ⟨r1,r2⟩ jh;have Ch:(qr.take j).length=j:=by rw[qa];omega
   by_cases hj:j<n
   ·have ox:=Iu j hj
    have ya:(qr.take (j+1)).length=j+1:=by rw[qa];omega
    have hPj:=sn j hj;have Kk:=hXa i j hi hj;have hpj:=hpc j hj;generalize X.getD (dc n (min i j) (max i j)) 0=yj at *;generalize dc n (min i j) (max i j)=pj at *;generalize qr.take j=W at *;repeat' (first|(apply AG<;>intro hc<;>try omega)|(apply AX;omega)|apply AE)<;>conv=>whnf
    refine RU O' O' ?_;conv=>whnf
    repeat' (first|(apply AG<;>intro hc<;>try omega)|(refine A4 V' ?_ rfl ?_;omega)|apply DG|refine AD (hPj _ _ O') ?_)<;>conv=>whnf
    all_goals
     refine N0 O' O' ?_;conv=>whnf
     refine EE (enc:=eQ) yj rfl (by rw[va]) rfl O' O' ?_;intro s' v;rw[<-ox,ya];conv=>whnf
     repeat' (first|(apply AX;omega)|fail)<;>conv=>whnf
     refine AX ⟨rfl,by rw[va];omega⟩ ?_;refine R3 (i:=i) O' (by rw[Qa,Qa];omega) ?_;rw[show 0+((i:Int)).toNat=i by omega,Ia,Ia];conv=>whnf
     repeat' (first|(apply AP;omega)|fail)<;>conv=>whnf
     exact A9 [] (jh (j+1) O' O')
   ·have ej:j=n:=O'
    clear jh;rw[ej,zT O',g9];repeat' (first|(apply AG<;>intro hc<;>try omega)|(apply AP;omega)|apply AE)<;>conv=>whnf
    exact A9 [] (ih (i+1) O' O')
 have ei:i=n:=O'
 clear ih;rw[ei,gK O'];repeat' (first|(apply AG<;>intro hc<;>try omega)|apply AE)<;>conv=>whnf
 refine ⟨.c5 [.sl false (eM Q),.int .i64 0],?_,Or.inr ⟨mg,Or.inr ⟨z9,X,hgX,qh,by rw[hQQ]⟩⟩⟩;conv=>whnf
 refine H1 (λ_=>rfl) rfl uy.symm ?_;conv=>whnf
 exact AY rfl (JO Q 0)
theorem xR (N:l8 L) (S:G7) (n k:Nat) (h:S.Ok n k) (hn:n<=8):Ev L 328 [.agg (eS S)] (.bool true):=by
 have Mr:=Ahy N.too4 S n k h O';have Pk:=h.la;refine Ev.x N.TP rfl rfl ?_;repeat' (first|(apply AG<;>intro hc<;>try omega)|apply AR|apply AE|refine AD (Mr) ?_)<;>conv=>whnf
 exact FB rfl
theorem yJ (N:l8 L) (S:G7) (n k:Nat) (h:S.Ok n k) (hn:n<=8):Ev L 333 [.agg (eS S)] (.bool true):=by
 have Mr:=Ahz N.too4 S n k h O';have Pk:=h.la;refine Ev.x N.U6 rfl rfl ?_;repeat' (first|(apply AG<;>intro hc<;>try omega)|apply AR|apply AE|refine AD (Mr) ?_)<;>conv=>whnf
 exact FB rfl
theorem mR (N:l8 L) (q1 q2 q3:Bool) (K:J') (v:K') (n k l:Nat) (hK:Sq n K) (hv:v.length=n) (jl:Ms k K) (ji:Bs l v) (hn:n<=4) (hk:k<=1000000000) (hl:l<=1000000000) :
  Ev L 329 [.sl q1 (DC q2 K),.sl q3 (v.map eQ)] (.agg (eQ (FD K v n))):=by
 have hO:=GZ N.toa5 0 O';rw[show ((0:Int):Rat)=0 from rfl]at hO;have y9:=hK.l;have jg : ∀ i,Bt (n*((k+(l+l))+1)) (A6 (λ j=>A2 K i j*(bQ v i*bQ v j)) n):=λ i=>MZ (λ j=>(GC jl i j).mul ((H3 ji i).mul (H3 ji j))) n
 have hB1:n*((k+(l+l))+1)<=4*((k+(l+l))+1):=zR _ hn;refine Ev.x N.MH rfl rfl ?_;repeat' (first|apply AR|apply AE|refine AD (hO) ?_)<;>conv=>whnf
 refine CE (λ i=>n-i) (λ(i:Nat)=>i<=n) (λ i=>[(11,.int .i64 i)]) (λ i=>[(5,5,.bx (eQ (A6 (λ i=>A6 (λ j=>A2 K i j*(bQ v i*bQ v j)) n) i)))]) 0 O' ?_;intro i p1 ih;have Ks:=MZ jg i;have hB2:i*(n*((k+(l+l))+1)+1)<=4*(4*((k+(l+l))+1)+1):=Oa O' O';by_cases hi:i<n
 ·obtain ⟨r1,z0,iv,tv⟩:=Y7 hK hi
  have Iw:K[((i:Nat):Int).toNat]? = some r1:=z0;have Fq:v[((i:Nat):Int).toNat]? = some (bQ v i):=N8 hv hi;have Qs:A6 (λ i=>A6 (λ j=>A2 K i j*(bQ v i*bQ v j)) n) (i+1)=A6 (λ i=>A6 (λ j=>A2 K i j*(bQ v i*bQ v j)) n) i+A6 (λ j=>A2 K i j*(bQ v i*bQ v j)) n:=rfl;generalize A6 (λ i=>A6 (λ j=>A2 K i j*(bQ v i*bQ v j)) n) i=s0 at *;repeat' (first|(apply AG<;>intro hc<;>try omega)|apply AR|(refine A4 V' ?_ rfl ?_;omega)|apply AE)<;>conv=>whnf
  refine DF (λ j=>n-j) (λ(j:Nat)=>j<=n) (λ j=>[(19,.int .i64 j)]) (λ j=>[(5,5,.bx (eQ (s0+A6 (λ j=>A2 K i j*(bQ v i*bQ v j)) j)))]) [] [] 0 (by first|exact B'|(rw[show s0+A6 (λ j=>A2 K i j*(bQ v i*bQ v j)) 0=s0 from nb s0];exact B')) O' ?_;intro j j1 jh;have Hx:=Ks.add (MZ (λ j=>(GC jl i j).mul ((H3 ji i).mul (H3 ji j))) j);have hB3:j*((k+(l+l))+1)<=4*((k+(l+l))+1):=zR _ O';by_cases hj:j<n
  ·have dv:r1[((j:Nat):Int).toNat]? = some (A2 K i j):=tv j hj
   have Rc:v[((j:Nat):Int).toNat]? = some (bQ v j):=N8 hv hj;have dd:=H7 N.toa5 (H3 ji i) (H3 ji j) O' O';have de:=H7 N.toa5 (GC jl i j) ((H3 ji i).mul (H3 ji j)) O' O';have hA:=NA N.toa5 Hx ((GC jl i j).mul ((H3 ji i).mul (H3 ji j))) O' O';have Jh:s0+A6 (λ j=>A2 K i j*(bQ v i*bQ v j)) j+A2 K i j*(bQ v i*bQ v j)=s0+A6 (λ j=>A2 K i j*(bQ v i*bQ v j)) (j+1):=Rat.add_assoc _ _ _;rw[Jh]at hA;generalize s0+A6 (λ j=>A2 K i j*(bQ v i*bQ v j)) j=s1 at *;generalize A2 K i j*(bQ v i*bQ v j)=p2 at *;generalize bQ v i*bQ v j=p3 at *;repeat' (first|(apply AG<;>intro hc<;>try omega)|(apply AP;omega)|(refine A4 V' ?_ rfl ?_;omega)|apply AE|refine AD (dd) ?_|refine AD (de) ?_|refine AD (hA) ?_)<;>conv=>whnf
   exact A9 [] (jh (j+1) O' O')
  ·have ej:j=n:=O'
   clear jh;rw[ej,<-Qs];repeat' (first|(apply AG<;>intro hc<;>try omega)|(apply AP;omega)|apply AE)<;>conv=>whnf
   exact A9 [] (ih (i+1) O' O')
 ·have ei:i=n:=O'
  clear ih;rw[ei,show A6 (λ i=>A6 (λ j=>A2 K i j*(bQ v i*bQ v j)) n) n=FD K v n from rfl];generalize FD K v n=y at *;repeat' (first|(apply AG<;>intro hc<;>try omega)|apply AE)<;>conv=>whnf
  exact AY rfl (DK _)
def sE (A:J') (B:K') (n:Nat) (v:AV):Prop :=
 (((∀ j,j<=6->DH (B8 n A j)=false) \/ ¬ NS (BC n n).length (gM A n)) /\ ∃ e:Int,e≠0/\v = .c5 [.sl false [],.int .i64 e])\/((∃ i,DH (B8 n A i)=true)/\NS (BC n n).length (gM A n) /\ ∃ X:K',HZ A B X n/\Bs 380000 X/\v = .c5 [.sl false (eM (kM X n)),.int .i64 0])
theorem nT (N:o9 L) (A:J') (B:K') (n:Nat) {k:Nat} (h:NZ A B n k) (hk:k<=60) (hn:n<=4) :
  ∃ v,Ev L 324 [.sl false (DC false A),.sl false (B.map eQ)] v/\Ev L 326 [.sl false (DC false A),.sl false (B.map eQ)] v/\sE A B n v:=by
 obtain ⟨v,h1,o1⟩:=Ahq N A B n k h O' hn false false false;obtain ⟨w,h2,o2⟩:=yE N A B n k h.sq h.lb h.ba h.bb hk hn false false false;rcases o1 with ⟨c1,rfl⟩|⟨⟨i,i1,i2⟩,o1⟩
 ·rcases o2 with ⟨_,rfl⟩|⟨⟨j,j1,j2⟩,_⟩
  ·exact ⟨_,h1,h2,Or.inl ⟨Or.inl c1,14,Y',rfl⟩⟩
  ·have:=c1 j j1
   rw[j2.1]at this;cases this
 ·rcases o2 with ⟨c2,_⟩|⟨_,o2⟩
  ·have:=c2 i i1
   rw[i2.1]at this;cases this
  ·rcases o1 with ⟨n1,rfl⟩|⟨n1,X,g1,rfl⟩
   ·rcases o2 with ⟨_,rfl⟩|⟨n2,_⟩
    ·exact ⟨_,h1,h2,Or.inl ⟨Or.inr n1,11,Y',rfl⟩⟩
    ·exact absurd n2 n1
   ·rcases o2 with ⟨n2,_⟩|⟨n2,Y,g2,hY,rfl⟩
    ·exact absurd n1 n2
    ·obtain rfl:=g1.uniq g2 n1
     exact ⟨_,h1,h2,Or.inr ⟨⟨i,i2.1⟩,n1,X,g1,h.qs n1 X g1,rfl⟩⟩
theorem AhA (N:l8 L) (S:G7) (n:Nat) {k:Nat} (hS:S.Ok n k) (hk:k<=1000) (hn:n<=4) {kk:Nat} (K:J') (hK:Sq n K) (jl:Ms kk K) (fo:kk<=4000000) (hv:Ev L 324 [.sl false (DC false S.a),.sl false (S.b.map eQ)] (.c5 [.sl false (eM K),.int .i64 0])) :
  Ev L 331 [.agg (eS S),.int .i64 0] (.c5 [.agg (eQ (NU S K n 0)),.int .i64 0]):=by
 have Db:=xR N S n k hS O';have hA:Sq n S.a:=⟨hS.la,hS.lr⟩;have hF:=λ q1 q2 q3=>mR N q1 q2 q3 K S.c n kk k hK hS.lc jl hS.bc hn O' O'
 have hM:=H7 N.toa5 hS.bd hS.bd O' O';have wv:Bt (4*(4*(kk+(k+k)+1)+1)) (FD K S.c n):=(MZ (λ i=>(MZ (λ j=>(GC jl i j).mul ((H3 hS.bc i).mul (H3 hS.bc j))) n).le (zR _ hn)) n).le (zR _ hn);have Ly:=NA N.toa5 (hS.bd.mul hS.bd) wv O' O';refine Ev.x N.MG rfl rfl ?_;repeat' (first|(apply AG<;>intro hc<;>try omega)|apply AE|refine AD (Db) ?_|refine AD (hv) ?_|refine AD (hM) ?_|refine AD (hF _ _ _) ?_|refine AD (Ly) ?_)<;>conv=>whnf
 exact AY rfl (by simp only[A3,B7,and_true,true_and];exact ⟨CP _,CP _⟩)
theorem AhB (N:l8 L) (S:G7) (n:Nat) {k:Nat} (hS:S.Ok n k) (hk:k<=1000) (hn:n<=4) {kk:Nat} (K:J') (hK:Sq n K) (jl:Ms kk K) (fo:kk<=4000000) (hv:Ev L 324 [.sl false (DC false S.a),.sl false (S.b.map eQ)] (.c5 [.sl false (eM K),.int .i64 0])) :
  Ev L 331 [.agg (eS S),.int .i64 1] (.c5 [.agg (eQ (NU S K n 1)),.int .i64 0]):=by
 have Db:=xR N S n k hS O';have hF:=λ q1 q2 q3=>mR N q1 q2 q3 K S.c n kk k hK hS.lc jl hS.bc hn O' O'
 rw[show FD K S.c n=NU S K n 1 from rfl]at hF;refine Ev.x N.MG rfl rfl ?_;repeat' (first|(apply AG<;>intro hc<;>try omega)|(apply BS;omega)|apply AE|refine AD (Db) ?_|refine AD (hv) ?_)<;>conv=>whnf
 refine F8 ?_;generalize NU S K n 1=y at *;repeat' (first|(apply AG<;>intro hc<;>try omega)|apply AE|refine AD (hF _ _ _) ?_)<;>conv=>whnf
 exact AY rfl (by simp only[A3,B7,and_true,true_and];exact ⟨CP _,CP _⟩)
theorem wV (N:l8 L) (S:G7) (n:Nat) {k:Nat} (hS:S.Ok n k) (hk:k<=1000) (hn:n<=4) {kk:Nat} (K:J') (hK:Sq n K) (jl:Ms kk K) (fo:kk<=4000000) (hv:Ev L 324 [.sl false (DC false S.a),.sl false (S.b.map eQ)] (.c5 [.sl false (eM K),.int .i64 0])) :
  Ev L 332 [.agg (eS S)] (.c5 [.agg (eQ (NU S K n 0)),.int .i64 0]):=by
 have hT:=AhA N S n hS hk hn K hK jl fo hv;refine Ev.x N.TN rfl rfl ?_;repeat' (first|apply AE|refine AD (hT) ?_)<;>conv=>whnf
 exact AY rfl (by simp only[A3,B7,and_true,true_and];exact ⟨CP _,CP _⟩)
theorem Aix (N:l8 L) (S:G7) (n:Nat) {k:Nat} (hS:S.Ok n k) (hk:k<=1000) (hn:n<=4) (e:Int) (he:e≠0) (hv:Ev L 326 [.sl false (DC false S.a),.sl false (S.b.map eQ)] (.c5 [.sl false [],.int .i64 e])) :
  Ev L 334 [.agg (eS S)] (.c5 [.agg [.bool false,.sl false [],.sl false []],.int .i64 e]):=by
 have Db:=yJ N S n k hS O';refine Ev.x N.PZ rfl rfl ?_;repeat' (first|(apply AG<;>intro hc<;>try omega)|apply AE|refine AD (Db) ?_|refine AD (hv) ?_)<;>conv=>whnf
 exact AY rfl (by simp [A3,B7,EZ])
theorem yD (N:l8 L) (S:G7) (n:Nat) {k:Nat} (hS:S.Ok n k) (hk:k<=1000) (hn:n<=4) {kk:Nat} (K:J') (hK:Sq n K) (jl:Ms kk K) (fo:kk<=4000000) (hv:Ev L 326 [.sl false (DC false S.a),.sl false (S.b.map eQ)] (.c5 [.sl false (eM K),.int .i64 0])) :
  Ev L 334 [.agg (eS S)] (.c5 [.agg (eQ (NU S K n 0)),.int .i64 0]):=by
 have Db:=yJ N S n k hS O';have gd:(EK K S.c).length=n:=by rw[gJ,hK.l]
 have hT:=λ q1 q2 q3=>AhC N.too4 K S.c q1 q2 q3 n kk k hK hS.lc jl hS.bc O' O'
 have ji:Bs 17000000 (EK K S.c):=λ x hx=>by
  obtain ⟨r,hr,rfl⟩:=xa.1 hx;exact ((jl r hr).dot hS.bc).le (by
   rw[hK.r r hr];have:n*(kk+k+1)<=4*(kk+k+1):=zR _ hn
   omega)
 have hI:=λ q1 q2=>wY N.too4 S.c (EK K S.c) q1 q2 k 17000000 (by rw[hS.lc,gd]) hS.bc ji (by
  rw[hS.lc];have:n*(k+17000000+1)<=4*(k+17000000+1):=zR _ hn
  omega) (by rw[hS.lc];omega)
 rw[AiY hK hS.lc]at hI;have hM:=ON N.toa6 hS.bd hS.bd O' O';have wv:Bt (4*(4*(kk+(k+k)+1)+1)) (FD K S.c n):=(MZ (λ i=>(MZ (λ j=>(GC jl i j).mul ((H3 hS.bc i).mul (H3 hS.bc j))) n).le (zR _ hn)) n).le (zR _ hn);have Ly:=QN N.toa6 (hS.bd.mul hS.bd) wv O' O';generalize EK K S.c=kc at *;refine Ev.x N.PZ rfl rfl ?_;repeat' (first|(apply AG<;>intro hc<;>try omega)|apply AE|refine AD (Db) ?_|refine AD (hv) ?_|refine AD (hM) ?_|refine AD (hT _ _ _) ?_|refine AD (hI _ _) ?_|refine AD (Ly) ?_)<;>conv=>whnf
 exact AY rfl (by simp only[A3,B7,and_true,true_and];exact ⟨CP _,CP _⟩)
theorem cJ {A:J'} {k M:Nat} (h : ∀ r∈A,∀ x∈r,Wh k ((M:Rat)*x)) (i j:Nat):Wh k ((M:Rat)*A2 A i j):=by
 have h0:Wh k ((M:Rat)*0):=by rw[ob];exact Wh.zero k
 cases e:A[i]? with
 | none =>
  rw[A2,show A.getD i []=[] by rw[ua,e];rfl];exact h0
 | some r =>
  rw[J9 e,ua];cases e2:r[j]? with
  | none=>exact h0
  | some x=>exact h r (zM e) x (zM e2)
theorem Akt {m:Nat} (h:m<=10):2*KI m 180<=380000:=by
 rcases (show m=0\/m=1\/m=2\/m=3\/m=4\/m=5\/m=6\/m=7\/m=8\/m=9\/m=10 by omega) with rfl|rfl|rfl|rfl|rfl|rfl|rfl|rfl|rfl|rfl|rfl<;>decide
theorem Ajh {A:J'} {B:K'} {n M m l:Nat} (hn:n<=4) (hM:1<=M) (de:M<=2^m) (hm:2*m+2<=180) (hl:2*l<=180)
  (ha : ∀ i j,Wh m ((M:Rat)*A2 A i j)) (hb : ∀ i,Wh l ((M:Rat)*bQ B i)):NS (BC n n).length (gM A n) -> ∀ X:K',HZ A B X n->Bs 380000 X:=by
 have dd:1<=M*M:=Oa hM hM;have hg:=zO (A:=A) ha de (n:=n);have tc : ∀ y∈gR B n,Wh 180 (((M*M:Nat):Rat)*y):=λ y hy=>by
  obtain ⟨p,_,rfl⟩:=xa.1 hy;have:=(hb p.1).mul (hb p.2)
  rw[show (M:Rat)*bQ B p.1*((M:Rat)*bQ B p.2)=((M*M:Nat):Rat)*(bQ B p.1*bQ B p.2) by rw[Qb];grind]at this;exact this.le O'
 intro z9 X hX;have h0:((M*M:Nat):Rat)≠0:=λ e=>by
  have:=Rat.natCast_inj.1 (e.trans (show (0:Rat)=((0:Nat):Rat) from rfl))
  omega
 have cr:=AmP (n:=(BC n n).length) (k:=180) (a:=(gM A n).map λ r=>r.map (((M*M:Nat):Rat) * ·)) (b:=(gR B n).map (((M*M:Nat):Rat) * ·)) (c:=X) (by rw[va];exact (SY A).l) (λ r hr=>by
  obtain ⟨s,hs,rfl⟩:=xa.1 hr;rw[va];exact (SY A).r s hs) (by rw[va];exact aP B n) (λ r hr x hx=>by
  obtain ⟨s,hs,rfl⟩:=xa.1 hr;obtain ⟨y,hy,rfl⟩:=xa.1 hx;exact (hg s hs y hy).le O') (λ x hx=>by
  obtain ⟨y,hy,rfl⟩:=xa.1 hx;exact tc y hy) (λ Y hY hk j=>z9 Y hY (λ r hr=>by
  have:=hk (r.map (((M*M:Nat):Rat) * ·)) (xa.2 ⟨r,hr,rfl⟩)
  rw[X9]at this;rcases Rat.mul_eq_zero.1 this with e|e
  ·exact absurd e h0
  ·exact e) j) hX.1 (λ i r s h1 h2=>by
  rw[ea]at h1 h2;cases e1:(gM A n)[i]? with
  | none=>rw[e1]at h1;cases h1
  | some u =>
   cases e2:(gR B n)[i]? with
   | none=>rw[e2]at h2;cases h2
   | some y =>
    rw[e1]at h1;rw[e2]at h2;obtain rfl:=vb h1;obtain rfl:=vb h2;rw[X9,hX.2 i u y e1 e2])
 exact cr.le (Akt (iC hn))
theorem zW {A:J'} {B:K'} {n k M m l:Nat} (hn:n<=4) (hA:Sq n A) (hB:B.length=n) (me:Ms k A) (Bj:Bs k B) (hM:1<=M) (de:M<=2^m) (hm:2*m+2<=180) (hl:2*l<=180)
  (ha : ∀ i j,Wh m ((M:Rat)*A2 A i j)) (hb : ∀ i,Wh l ((M:Rat)*bQ B i)):NZ A B n k:=by
 have Mj:M*M<=2^(2*m):=by
  rw[Nat.two_mul,Nat.pow_add];exact Oa de de
 have dd:1<=M*M:=Oa hM hM;have hg:=zO (A:=A) ha de (n:=n);have tc : ∀ y∈gR B n,Wh 180 (((M*M:Nat):Rat)*y):=λ y hy=>by
  obtain ⟨p,_,rfl⟩:=xa.1 hy;have:=(hb p.1).mul (hb p.2)
  rw[show (M:Rat)*bQ B p.1*((M:Rat)*bQ B p.2)=((M*M:Nat):Rat)*(bQ B p.1*bQ B p.2) by rw[Qb];grind]at this;exact this.le O'
 have kj : ∀ r∈C1 (gM A n) ((gR B n).map λ x=>[x]),∀ x∈r,Wh 180 (((M*M:Nat):Rat)*x):=by
  intro r hr;obtain ⟨i,hi⟩:=ib hr;rw[C1,List.getElem?_zipWith]at hi;cases e1:(gM A n)[i]? with
  | none=>rw[e1]at hi;cases hi
  | some u =>
   rw[e1,ea]at hi;cases e2:(gR B n)[i]? with
   | none=>rw[e2]at hi;cases hi
   | some y =>
    rw[e2]at hi;obtain rfl:=vb hi;intro x hx;rcases Rb.1 hx with hx|hx
    ·exact (hg u (zM e1) x hx).le O'
    ·obtain rfl:=ga.1 hx
     exact tc _ (zM e2)
 have bt : ∀ x:Rat,Wh 180 (((M*M:Nat):Rat)*x)->Bt 180 x:=λ x hx=>kQ (S:=M*M) O' (La Mj (Pa O' O')) (by rw[yb];exact hx)
 refine ⟨hA,hB,me,Bj,λ r hr x hx=>bt x ((hg r hr x hx).le O'),λ x hx=>bt x (tc x hx),λ r hr j => ?_,λ r hr => ?_,Ajh hn hM de hm hl ha hb⟩
 ·exact ((Yn dd Mj (k:=180) λ x hx=>kj r hr x (List.mem_of_mem_take hx)).1.bt).le O'
 ·obtain ⟨s,hs,rfl⟩:=xa.1 hr
  intro x hx;obtain ⟨y,hy,rfl⟩:=xa.1 hx;exact ((Yn dd Mj (k:=180) λ x hx=>kj s hs x hx).2 y hy).bt
theorem AhS (N:ft L) (tc:NZ [[za 1 2]] [1] 1 10 -> ∃ v,Ev L 324 [.sl false (DC false [[za 1 2]]),.sl false ([(1:Rat)].map eQ)] v/\sE [[za 1 2]] [1] 1 v):Ev L 336 [] (.bool true):=by
 have A:q8 L:=N.tov7.tofw.toq8;have hO:=KE A.toa6 1 O';have hF:=YH A.toa6 1 2 O' O';have Kb:=YH A.toa6 4 3 O' O';have hF3:=YH A.toa6 1 3 O' O';have hh:=Ajr;have k7 : -(za 1 2)≠0:=Y'
 have Nw:DH (B8 1 [[za 1 2]] 0)=true:=by decide +kernel
 have hG:NZ [[za 1 2]] [1] 1 10:=by
  refine zW (M:=2) (m:=16) (l:=30) O' ⟨rfl,λ r hr=>by obtain rfl:=ga.1 hr;rfl⟩ rfl (λ r hr x hx => ?_) (λ x hx => ?_) O' O' O' O' (cJ λ r hr x hx => ?_) λ i => ?_
  ·obtain rfl:=ga.1 hr
   obtain rfl:=ga.1 hx;exact hh.le O'
  ·obtain rfl:=ga.1 hx
   exact Bt.one _
  ·obtain rfl:=ga.1 hr
   obtain rfl:=ga.1 hx;exact ⟨1,by decide +kernel,Y'⟩
  ·cases i with
   | zero=>exact ⟨2,by decide +kernel,Y'⟩
   | succ i=>exact ⟨0,by rw[show bQ [1] (i+1)=0 from rfl,ob];rfl,Y'⟩
 have z9:NS (BC 1 1).length (gM [[za 1 2]] 1):=by
  intro X hX hk j;match X,hX with
  | [x],_ =>
   have h1:=hk (D7 [[za 1 2]] 1 (0,0)) (ga.2 rfl);have h2:(za 3 4)*x+0=0:=by
    have Ac:gC [[za 1 2]] (0,0) (0,0)*x+0=0:=h1;rwa [show gC [[za 1 2]] (0,0) (0,0)=za 3 4 by decide +kernel]at Ac
   have h3:x=0:=by
    have:(za 3 4:Rat)=3/4:=by decide +kernel
    grind
   cases j with
   | zero=>exact h3
   | succ j=>rfl
 have hval : ∀ X:K',HZ [[za 1 2]] [1] X 1->NU ⟨[[za 1 2]],[1],[za 1 2],1⟩ (kM X 1) 1 0=za 4 3/\NU ⟨[[za 1 2]],[1],[za 1 2],1⟩ (kM X 1) 1 1=za 1 3:=by
  intro X hX;have e12:(za 1 2:Rat)=1/2:=by decide +kernel
  have e43:(za 4 3:Rat)=4/3:=by decide +kernel
  have e13:(za 1 3:Rat)=1/3:=by decide +kernel
  have h1:=hX.eq O' 0 0 O' O';have h2:A2 [[za 1 2]] 0 0=za 1 2:=rfl;have h3:bQ [1] 0=1:=rfl;have h4:bQ [za 1 2] 0=za 1 2:=rfl;simp only[H2,A6,h2,h3]at h1;simp only[NU,FD,A6,IW,h4];rw[e12]at h1 ⊢;rw[e43,e13];generalize A2 (kM X 1) 0 0=k at *;constructor<;>grind
 replace tc:=tc hG
 generalize za 1 2=h at *;have hN:=eN A.tok9 hh O';have hC:=Ahp A hh.ng k7;have g6:G7.Ok ⟨[[h]],[1],[h],1⟩ 1 10:=⟨rfl,λ r hr=>by obtain rfl:=ga.1 hr;rfl,rfl,rfl,hG.ba,hG.bb,λ x hx=>by
  obtain rfl:=ga.1 hx;exact hh.le O',Bt.one _⟩
 obtain ⟨v,h1,hv⟩:=tc;rcases hv with ⟨h3|h3,_⟩|⟨_,_,X,hX,qh,rfl⟩
 ·have:=h3 0 O'
  rw[Nw]at this;cases this
 ·exact absurd z9 h3
 obtain ⟨v1,v2⟩:=hval X hX;have hE:=wV N.tol8 ⟨[[h]],[1],[h],1⟩ 1 g6 O' O' (kM X 1) (TC X 1) (TB qh 1) O' h1;have hT:=AhB N.tol8 ⟨[[h]],[1],[h],1⟩ 1 g6 O' O' (kM X 1) (TC X 1) (TB qh 1) O' h1;rw[v1]at hE;rw[v2]at hT;have Ls:Bt 3 (za 4 3):=⟨Y',Y'⟩;have Lr:Bt 3 (za 1 3):=⟨Y',Y'⟩;have Ew:=eK A.toa6 Ls Ls O' O';have Gl:=eK A.toa6 Lr Lr O' O';rw[iT.2 rfl]at Ew Gl;clear v1 v2 hval Ls Lr;generalize za 4 3=x43 at *;generalize za 1 3=x13 at *;refine Ev.x N.TD rfl rfl ?_;repeat' (first|(apply AG<;>intro hc<;>try omega)|refine GS rfl ?_|refine JJ rfl rfl ?_|apply AE|refine AD (hO) ?_|refine AD (hF) ?_|refine AD (Kb) ?_|refine AD (hF3) ?_|refine AD (hN) ?_|refine AD (hC) ?_|refine AD (hE) ?_|refine AD (hT) ?_|refine AD (Ew) ?_|refine AD (Gl) ?_)<;>conv=>whnf
 exact FB rfl
theorem AhR (N:ft L):Ev L 336 [] (.bool true):=AhS N λ hG=>by
 obtain ⟨v,h1,_,hv⟩:=nT N.too9 [[za 1 2]] [1] 1 hG O' O';exact ⟨v,h1,hv⟩
end Go.c6

namespace Go.c6
theorem Yc {D B c:Nat} {vals:K'} (hv : ∀ x∈vals,FC D B x) : ∀ ts:List (Int × Int),(∀ t∈ts,t.2.natAbs<=c)->FC D (ts.length*(c*B)) (E4 vals ts)
 | [],_=>FC.zero _ _
 | t::ts,h=>by
  have h1:=Yc hv ts λ u hu=>h u (by simp [hu])
  have h2:FC D B (vals.getD t.1.toNat 0):=by
   rw[ua];cases e:vals[t.1.toNat]? with
   | none=>exact FC.zero _ _
   | some x=>exact hv x (zM e)
  have h3:FC 1 c ((t.2:Int):Rat):=⟨t.2,by rw[show (((1:Nat):Int):Rat)=1 from rfl,Rat.mul_one],h t Z'⟩;have h4:=h3.mul h2;rw[Nat.one_mul]at h4;rw[E4,db,Nat.succ_mul,Nat.add_comm];exact h4.add h1
theorem yS {u:Nat} (tf:1<=u) (hu:u<=64) (ex:Int) : ∀ (l:List (List (Int × Int))) (k:Nat) (vals:K'),(∀ ts∈l,ts.length<=5 /\ ∀ t∈ts,t.2.natAbs<=64)->(∀ x∈vals,FC (u^k) (512^k) x) -> ∀ x∈GK ((u:Int):Rat) ex k vals l,FC (u^(k+l.length)) (512^(k+l.length)) x
 | [],_,_,_,hv=>hv
 | ts::l,k,vals,hl,hv=>by
  have Jk:((u:Int):Rat)≠0:=λ e=>by
   have:(u:Int)=0:=by exact_mod_cast e
   omega
  have hup:u^k<=512^k:=Fa O' k;obtain ⟨t1,t2⟩:=hl ts Z';have h1:=Yc hv ts t2;have h2:FC (u^(k+1)) (320*512^k) (E4 vals ts/((u:Int):Rat)):=by
   obtain ⟨z,hz,hb⟩:=h1;refine ⟨z,?_,La hb ?_⟩
   ·rw[<-hz,Ga,Int.natCast_mul,Rat.intCast_mul,yb (((u^k:Nat):Int):Rat),<-Rat.mul_assoc,Rat.div_mul_cancel Jk]
   ·rw[show 320*512^k=5*(64*512^k) by omega]
    exact zR _ t1
  have h3:FC (u^(k+1)) (64*512^k) (if (k:Int)=ex then (1:Rat) else 0):=by
   split
   ·refine ⟨((u^(k+1):Nat):Int),by rw[Rat.one_mul],?_⟩
    rw[Int.natAbs_natCast,Ga,xb];exact Oa hu hup
   ·exact FC.zero _ _
  have hB:(512:Nat)^(k+1)=512*512^k:=by rw[Ga,xb]
  have h4:=(h2.add h3).le (N:=512^(k+1)) O';have h5 : ∀ x∈vals,FC (u^(k+1)) (512^(k+1)) x:=λ x hx=>by
   have:=(hv x hx).up u
   rw[<-Ga]at this;refine this.le ?_;rw[hB,xb];exact zR _ O'
  have ih:=yS tf hu ex l (k+1) (vals++[E4 vals ts/((u:Int):Rat)+(if (k:Int)=ex then 1 else 0)]) (λ t ht=>hl t (by simp [ht])) λ x hx=>by
   rcases Rb.1 hx with hx|hx
   ·exact h5 x hx
   ·obtain rfl:=ga.1 hx
    exact h4
  rw[show k+1+l.length=k+(ts::l).length by rw[db];omega]at ih;exact ih
structure G6 (n:Nt):Prop extends N3 n where
 cb:n.c.b<=6
theorem Vb {n:Nt} (h:G6 n):(1<=2^n.c.f.toNat/\2^n.c.f.toNat<=64) /\ ∀ ts∈CR n,ts.length<=5 /\ ∀ t∈ts,t.2.natAbs<=64:=by
 obtain ⟨h1,h2,h3,h4,h5,h6⟩:=(E7 n).1 h.np;have hw:=h2;unfold WV at hw;have zh:=h.cb;have hp:2^n.c.f.toNat<=64:=Pa (i:=n.c.f.toNat) (j:=6) O' O';refine ⟨⟨Nat.one_le_two_pow,hp⟩,λ ts oy=>⟨(TU h.toN3).len ts oy,λ t ht => ?_⟩⟩;obtain ⟨d,hd,rfl⟩:=xa.1 oy;obtain ⟨j,hj⟩:=ib hd;have h7:=List.all_eq_true.1 (gU h4 hj) t ht;have h8:0<=t.1/\t.1<=n.s+((0+j:Nat):Int)/\(t.2=pw n.c.f\/FT n.c t.2):=by simpa only[GF,decide_eq_true_eq] using h7
 rcases h8.2.2 with e|e
 ·rw[e,pw]
  have:((2:Int)^n.c.f.toNat).natAbs=2^n.c.f.toNat:=by rw[Int.natAbs_pow];rfl
  rw[this];exact hp
 ·obtain ⟨_,e1,e2⟩:=e
  obtain ⟨g1,g2,g3,g4⟩:=Q1 h2;have g5:pw (n.c.b-1)<=32:=by
   have:=NL (n:=n.c.b-1) (m:=5) O'
   have h32:pw 5=32:=by unfold pw;rfl
   omega
  omega
def MK (n:Nt):Nat:=(2^n.c.f.toNat)^n.nodes.length
theorem Va {n:Nt} (h:G6 n):1<=MK n/\MK n<=2^45:=by
 obtain ⟨⟨h1,h2⟩,_⟩:=Vb h;refine ⟨Lb h1,?_⟩;have h3:MK n<=64^n.nodes.length:=Fa h2 _;have h4:(64:Nat)^n.nodes.length<=64^5:=Pa O' h.nl;exact La h3 (La h4 Y')
theorem Y9 {n:Nt} (h:G6 n) (src ex:Int) : ∀ x∈BR n src ex,Wh 45 (((MK n:Nat):Rat)*x):=λ x hx=>by
 obtain ⟨⟨h1,h2⟩,h3⟩:=Vb h;have e:((pw n.c.f:Int):Rat)=(((2^n.c.f.toNat:Nat):Int):Rat):=by
  congr 1
 rw[BR,e]at hx;have h4:=yS h1 h2 ex (CR n) 0 (B9 (1+n.s).toNat src) h3 (λ y hy=>by
  obtain ⟨i,_,rfl⟩:=xa.1 hy;split
  ·exact ⟨1,Z',Z'⟩
  ·exact FC.zero _ _) x hx
 rw[Ha,show (CR n).length=n.nodes.length by simp [CR]]at h4;obtain ⟨z,hz,hb⟩:=h4;refine ⟨z,by rw[<-hz,yb];rfl,La hb ?_⟩;have h5:(512:Nat)^n.nodes.length<=512^5:=Pa O' h.nl;exact La h5 Y'
theorem WO {M k:Nat} {l:K'} (h : ∀ x∈l,Wh k ((M:Rat)*x)) (i:Nat):Wh k ((M:Rat)*l.getD i 0):=by
 rw[ua];cases e:l[i]? with
 | none=>show Wh k ((M:Rat)*0);rw[ob];exact Wh.zero k
 | some x=>exact h x (zM e)
theorem XQ {n:Nt} (h:G6 n) {x:Rat} (hx:Wh 45 (((MK n:Nat):Rat)*x)):Bt 45 x:=by
 obtain ⟨h1,h2⟩:=Va h;exact kQ h1 h2 (by rw[yb];exact hx)
theorem gA {n:Nt} (h:G6 n) : ∀ r∈(BD n).a,∀ x∈r,Wh 45 (((MK n:Nat):Rat)*x):=λ r hr x hx=>by
 simp only[BD,xa]at hr;obtain ⟨e,_,rfl⟩:=hr;obtain ⟨j,_,rfl⟩:=xa.1 hx;exact WO (Y9 h _ _) _
theorem Tb {n:Nt} (h:G6 n) : ∀ x∈(BD n).c,Wh 45 (((MK n:Nat):Rat)*x):=λ x hx=>by
 simp only[BD,xa]at hx;obtain ⟨j,_,rfl⟩:=hx;exact WO (Y9 h _ _) _
theorem Ta {n:Nt} (h:G6 n) : ∀ x∈(BD n).b,Wh 45 (((MK n:Nat):Rat)*x):=λ x hx=>by
 simp only[BD,xa]at hx;obtain ⟨e,_,rfl⟩:=hx;exact WO (Y9 h _ _) _
theorem Ua {n:Nt} (h:G6 n) (k:Int) : ∀ x∈(DS n k).b,Wh 45 (((MK n:Nat):Rat)*x):=λ x hx=>by
 simp only[DS,xa]at hx;obtain ⟨e,_,rfl⟩:=hx;exact WO (Y9 h _ _) _
theorem TT {n:Nt} (h:N3 n):n.s.toNat<=4/\n.next.length=n.s.toNat:=by
 obtain ⟨_,_,⟨h1,_,_,h2⟩,_⟩:=(E7 n).1 h.np;have:=h.st
 omega
theorem YQ {n:Nt} (h:G6 n):(BD n).Ok n.s.toNat 45:=by
 obtain ⟨_,h1⟩:=TT h.toN3;exact ⟨by simp [BD,h1],λ r hr=>by
  simp only[BD,xa]at hr;obtain ⟨e,_,rfl⟩:=hr;simp,by simp [BD,h1],by simp [BD],λ r hr x hx=>XQ h (gA h r hr x hx),λ x hx=>XQ h (Ta h x hx),λ x hx=>XQ h (Tb h x hx),XQ h (WO (Y9 h _ _) _)⟩
theorem fS {n:Nt} (h:G6 n) (k:Int):(DS n k).Ok n.s.toNat 45:=by
 obtain ⟨_,h1⟩:=TT h.toN3;have hL:=YQ h;exact ⟨hL.la,hL.lr,by simp [DS,h1],hL.lc,hL.ba,λ x hx=>XQ h (Ua h k x hx),hL.bc,XQ h (WO (Y9 h _ _) _)⟩
theorem nS {n:Nt} (h:G6 n) {A:J'} {B:K'} (hA:Sq n.s.toNat A) (hB:B.length=n.s.toNat) (ha : ∀ i j,Wh 45 (((MK n:Nat):Rat)*A2 A i j)) (me:Ms 45 A) (hb : ∀ x∈B,Wh 45 (((MK n:Nat):Rat)*x)):NZ A B n.s.toNat 45:=by
 obtain ⟨h1,h2⟩:=Va h;exact zW (M:=MK n) (m:=45) (l:=45) (TT h.toN3).1 hA hB me (λ x hx=>XQ h (hb x hx)) h1 h2 O' O' ha λ i=>WO hb i
theorem Ajf {n:Nt} (h:G6 n) (k:Int):NZ (BD n).a (DS n k).b n.s.toNat 45:=by
 have hL:=YQ h;exact nS h ⟨hL.la,hL.lr⟩ (fS h k).lb (cJ (gA h)) hL.ba (Ua h k)
theorem Ajg {n:Nt} (h:G6 n):NZ (BD n).a (BD n).b n.s.toNat 45:=by
 have hL:=YQ h;exact nS h ⟨hL.la,hL.lr⟩ hL.lb (cJ (gA h)) hL.ba (Ta h)
theorem Anh {A:J'} {m k M:Nat} (h : ∀ i j,Wh k ((M:Rat)*A2 A i j)) : ∀ r∈IG A m,∀ x∈r,Wh k ((M:Rat)*x):=λ r hr x hx=>by
 obtain ⟨i,_,rfl⟩:=xa.1 hr;obtain ⟨j,_,rfl⟩:=xa.1 hx;exact h j i
theorem Aji {n:Nt} (h:G6 n):NZ (IG (BD n).a n.s.toNat) (BD n).c n.s.toNat 45:=by
 have hL:=YQ h;exact nS h (Xd _ _) hL.lc (cJ (Anh (cJ (gA h)))) (Ang hL.ba _) (Tb h)
end Go.c6

namespace Go.c6
open F
attribute [local irreducible] AA AF AL AC CQ AW BA A8 B3 BL CN D4 BP A1 B6 CF AB BG AH pw BV BO CS CY C2 BX CG BU CX
variable {L:Lib}
set_option maxRecDepth 8000
theorem AnG (k:Int):(CH k 4 6 1).f<=(CH k 4 6 1).b-2:=by
 have hr:=RO (v:=k) (m:=1099511627776) O';have h1:0<=DU k 1099511627776%(6-4+1):=Int.emod_nonneg _ O';simp only[CH];generalize DU k 1099511627776/(6-4+1)=d;omega
theorem Ahv (I:e8 L) (W:u5 L) (N:fu L) (kd dk ck:Int) (h0:EB kd) (h1:EB dk) (h2:EB ck) (b a:List Int) (q1 q2:Bool) (lb:b.length<9223372036854775808) (la:a.length<9223372036854775808) (y9 : ∀ v∈a,EB v) :
  ∃ n:Nt,G6 n/\n.qn=false/\n.qx=false/\(∀ m∈n.nodes,m.q=false)/\Ev L 421 [.agg [.int .i64 kd,.int .i64 dk,.int .i64 ck,.sl q1 (b.map C0),.sl q2 (a.map C0)]] (.c5 [.agg (FG n),.bool true]):=by
 have D:m6 L:=N.tom6;obtain ⟨Br,oh,oi⟩:=Zw (k:=dk) (least:=5) (most:=8) (above:=1) O';obtain ⟨og,Nq,im⟩:=Zw (k:=ck) (least:=4) (most:=6) (above:=1) O';have hk1:=RO (v:=(b.length:Int)) (m:=3) O';have ic:=RO (v:=(a.length:Int)) (m:=3) O';have Pf:=RO (v:=kd) (m:=4) O';have hl:=Q1 og;have hf:=AnG ck;have o7:=og;unfold WV at o7;have hp:=HF (CH ck 4 6 1).f;have e1:=NL (n:=(CH ck 4 6 1).f+1) (m:=(CH ck 4 6 1).b-1) O';have e2:pw ((CH ck 4 6 1).f+1)=2*pw (CH ck 4 6 1).f:=by
  unfold pw;rw[show ((CH ck 4 6 1).f+1).toNat=(CH ck 4 6 1).f.toNat+1 by omega,Int.pow_succ];omega
 have eb:=λ q=>fE W (pw ((CH ck 4 6 1).b-1)-1) O' b q (1+DU b.length 3).toNat O'
 have ek:=λ q=>fE W (pw (CH ck 4 6 1).f*3/4) O' a q (DU a.length 3).toNat O'
 have ev:=λ q=>fE W (pw ((CH ck 4 6 1).b-1)-1) O' b q ((DU a.length 3).toNat+1) O'
 have eP:=λ q=>AiO W N.tobm (CH ck 4 6 1) og a q y9
 obtain ⟨uy,hQ⟩:=AlA og hf a;rw[Int.toNat_of_nonneg O']at eb ek;have ev':((((DU a.length 3).toNat+1:Nat)):Int)=DU a.length 3+1:=O'
 rw[ev']at ev;have w1:=YI W b.length 3 (by unfold EB;omega) O';have w2:=YI W a.length 3 (by unfold EB;omega) O';have w0:=YI W kd 4 h0 O';have hU:=AiP W (CH ck 4 6 1) og;have lP:(IK (pw ((CH ck 4 6 1).b-1)-1) b (1+DU b.length 3).toNat).length=(1+DU b.length 3).toNat:=kK _ _ _;have lV:(IK (pw ((CH ck 4 6 1).b-1)-1) b ((DU a.length 3).toNat+1)).length=(DU a.length 3).toNat+1:=kK _ _ _;have lK:(IK (pw (CH ck 4 6 1).f*3/4) a (DU a.length 3).toNat).length=(DU a.length 3).toNat:=kK _ _ _;have hP:=tJ og b (1+DU b.length 3).toNat;have hV:=tJ og b ((DU a.length 3).toNat+1);have hK : ∀ v∈IK (pw (CH ck 4 6 1).f*3/4) a (DU a.length 3).toNat,-pw (CH ck 4 6 1).f<v/\v<pw (CH ck 4 6 1).f:=by
  intro v hv;simp only[IK,xa]at hv;obtain ⟨i,_,rfl⟩:=hv;have:=ZD (b:=pw (CH ck 4 6 1).f*3/4) O' (FM a i)
  omega
 have hKF : ∀ v∈IK (pw (CH ck 4 6 1).f*3/4) a (DU a.length 3).toNat,FT (CH ck 4 6 1) v/\FT (CH ck 4 6 1) (-v):=λ v hv=>by
  have:=hK v hv
  exact ⟨⟨og,O',O'⟩,⟨og,O',O'⟩⟩
 generalize IK (pw ((CH ck 4 6 1).b-1)-1) b (1+DU b.length 3).toNat=P at *;generalize IK (pw ((CH ck 4 6 1).b-1)-1) b ((DU a.length 3).toNat+1)=V at *;generalize IK (pw (CH ck 4 6 1).f*3/4) a (DU a.length 3).toNat=K at *;generalize Y2 (CH ck 4 6 1) a=Q at *;have f1:=λ q q'=>AhH I D P Q q q' (CH dk 5 8 1) (CH ck 4 6 1) Br og O' O' (λ v h=>(hP v h).1) hQ
 have f2:=λ q q'=>AhI I D P Q q q' (CH dk 5 8 1) (CH ck 4 6 1) Br og O' O' (λ v h=>(hP v h).1) hQ
 have f3:=λ q q'=>AhJ I D P Q q q' (CH dk 5 8 1) (CH ck 4 6 1) Br og O' O' (λ v h=>(hP v h).1) hQ
 have f4:=λ q q'=>AhV I N.tobm K V q q' (CH dk 5 8 1) (CH ck 4 6 1) Br og O' O' (λ v h=>(hV v h).1) hKF hK
 have g1:=Alx (d:=CH dk 5 8 1) Br og O' uy (λ v h=>(hP v h).1) hQ;have g2:=Alz (d:=CH dk 5 8 1) Br og O' uy (λ v h=>(hP v h).1) hQ;have g3:=Aly (d:=CH dk 5 8 1) Br og O' uy (λ v h=>(hP v h).1) hQ;have g4:=Alw (d:=CH dk 5 8 1) (k:=K) (v:=V) Br og O' O' (λ v h=>(hV v h).1) hKF;have eD:=yP W dk 5 8 1 h1 O';have eC:=yP W ck 4 6 1 h2 O';have hlK:((K.length:Nat):Int)+1=DU a.length 3+1:=O'
 by_cases k0:DU kd 4=0
 ·refine ⟨_,⟨g1,im⟩,rfl,rfl,by simp [GL],?_⟩
  have n8:=gQ (GL P Q (CH dk 5 8 1) (CH ck 4 6 1)) rfl rfl (by simp [GL]);generalize GL P Q (CH dk 5 8 1) (CH ck 4 6 1)=n at *;refine Ev.x N.KG rfl rfl ?_;repeat' (first|(apply AG<;>intro hc<;>try omega)|(apply AP;omega)|(apply BS;omega)|(refine F3 ?_ (λ_ _ => ?_);omega)|(apply CD;omega)|apply AR|apply AE|refine AD (eD) ?_|refine AD (eC) ?_|refine AD (w1) ?_|refine AD (eb _) ?_|refine AD (eP _) ?_|refine AD (w0) ?_|refine AD (f1 _ _) ?_)<;>conv=>whnf
  exact AY rfl n8
 by_cases k1:DU kd 4=1
 ·refine ⟨_,⟨g2,im⟩,rfl,rfl,by simp [GM],?_⟩
  have n8:=gQ (GM P Q (CH dk 5 8 1) (CH ck 4 6 1)) rfl rfl (by simp [GM]);generalize GM P Q (CH dk 5 8 1) (CH ck 4 6 1)=n at *;refine Ev.x N.KG rfl rfl ?_;repeat' (first|(apply AG<;>intro hc<;>try omega)|(apply AP;omega)|(apply BS;omega)|(refine F3 ?_ (λ_ _ => ?_);omega)|(apply CD;omega)|apply AR|apply AE|refine AD (eD) ?_|refine AD (eC) ?_|refine AD (w1) ?_|refine AD (eb _) ?_|refine AD (eP _) ?_|refine AD (w0) ?_|refine AD (f2 _ _) ?_)<;>conv=>whnf
  exact AY rfl n8
 by_cases k2:DU kd 4=2
 ·refine ⟨_,⟨g3,im⟩,rfl,rfl,by simp [GP,IV],?_⟩
  have n8:=gQ (GP P Q (CH dk 5 8 1) (CH ck 4 6 1)) rfl rfl (by simp [GP,IV]);generalize GP P Q (CH dk 5 8 1) (CH ck 4 6 1)=n at *;refine Ev.x N.KG rfl rfl ?_;repeat' (first|(apply AG<;>intro hc<;>try omega)|(apply AP;omega)|(apply BS;omega)|(refine F3 ?_ (λ_ _ => ?_);omega)|(apply CD;omega)|apply AR|apply AE|refine AD (eD) ?_|refine AD (eC) ?_|refine AD (w1) ?_|refine AD (eb _) ?_|refine AD (eP _) ?_|refine AD (w0) ?_|refine AD (f3 _ _) ?_)<;>conv=>whnf
  exact AY rfl n8
 ·refine ⟨_,⟨g4,im⟩,rfl,rfl,Ul O',?_⟩
  have n8:=gQ (FI K V (CH dk 5 8 1) (CH ck 4 6 1)) rfl rfl (Ul O');rw[<-hlK]at ev;generalize FI K V (CH dk 5 8 1) (CH ck 4 6 1)=n at *;refine Ev.x N.KG rfl rfl ?_;repeat' (first|(apply AG<;>intro hc<;>try omega)|(apply AP;omega)|(apply BS;omega)|(apply FL;omega)|(refine F3 ?_ (λ_ _ => ?_);omega)|(refine IZ ?_ ?_ (λ_ => ?_) (λ_ _ => ?_);omega;omega;all_goals try omega)|(apply CD;omega)|apply AR|apply AE|refine AD (eD) ?_|refine AD (eC) ?_|refine AD (w1) ?_|refine AD (w2) ?_|refine AD (eb _) ?_|refine AD (eP _) ?_|refine AD (w0) ?_|refine AD (hU) ?_|refine AD (ek _) ?_|refine AD (ev _) ?_|refine AD (f4 _ _) ?_)<;>conv=>whnf
  exact AY rfl n8
theorem Aht (I:e8 L) (N:mc L) (n:Nt) (hn:N3 n) (k:Nat) (nd:Nd) (hnd:n.nodes[k]? = some nd):Ev L 402 [.agg (FG n),.int .i64 (k:Int)] (.c5 [.agg (eQ (ER n nd)),.int .i64 0]):=by
 have hV:=eR n I N.tow6;rw[hn.np]at hV;have ju:=hn.nl;have Ff:=(zS hnd).1;have h1:=AhY N.tojc n hn k nd hnd;have n8:=Z4 (ER n nd) 0;generalize ER n nd=l at *;refine Ev.x N.TR rfl rfl ?_;repeat' (first|(apply AG<;>intro hc<;>try omega)|apply AR|apply AE|refine AD (hV) ?_|refine AD (h1) ?_)<;>conv=>whnf
 exact AY rfl n8
def DN (n:Nt) (W:J') (k:Nat):Rat:=(DS n (k:Int)).d*(DS n (k:Int)).d+FD W (DS n (k:Int)).b n.s.toNat
theorem mL {n:Nt} (hn:G6 n) {W:J'} (hW:Ms 380000 W) (k:Nat):Bt 6200000 (DN n W k):=by
 have hS:=fS hn (k:Int);have hm:=(TT hn.toN3).1;have wv:Bt (4*(4*(380000+(45+45)+1)+1)) (FD W (DS n (k:Int)).b n.s.toNat):=(MZ (λ i=>(MZ (λ j=>(GC hW i j).mul ((H3 hS.bb i).mul (H3 hS.bb j))) n.s.toNat).le (zR _ hm)) n.s.toNat).le (zR _ hm);exact ((hS.bd.mul hS.bd).add wv).le O'
theorem uH (e:Int):A3 (.c5 [rz,.int .i64 e]):=Afu e
theorem AhD (I:e8 L) (N:aq L) (n:Nt) (hn:G6 n) :
  ∃ v,Ev L 419 [.agg (FG n)] v/\(((∀ j,j<=6->DH (B8 n.s.toNat (BD n).a j)=false)/\v = .c5 [rz,.int .i64 14])\/((∃ i,i<=6/\IY n.s.toNat (BD n).a i) /\ ∃ X:K',HZ (IG (BD n).a n.s.toNat) (BD n).c X n.s.toNat/\Bs 380000 X/\v = .c5 [.agg (eQ (EQ (D9 n) (DN n (kM X n.s.toNat)) n.nodes.length*za 1 12)),.int .i64 0])):=by
 have hV:=eR n I N.tow6;rw[hn.np]at hV;have g9:=hn.st;obtain ⟨lj,ml⟩:=TT hn.toN3;obtain ⟨_,_,⟨br,_,Bz,_⟩,_⟩:=(E7 n).1 hn.np;have tn:=Ahu I N.toak n hn.np (TU hn.toN3) hn.nl;have g6:=YQ hn;obtain ⟨v,yp,z8⟩:=xT N.tov7 false false (BD n).a n.s.toNat 45 ⟨g6.la,g6.lr⟩ g6.ba lj O';rcases z8 with ⟨i0,i1,i2,rfl⟩|⟨i1,rfl⟩
 rotate_left
 ·refine ⟨.c5 [rz,.int .i64 14],?_,Or.inl ⟨i1,rfl⟩⟩
  generalize BD n=S at *;refine Ev.x N.I7 rfl rfl ?_;repeat' (first|(apply AG<;>intro hc<;>try omega)|apply AE|refine AD (hV) ?_|refine AD (tn) ?_|refine AD (yp) ?_)<;>conv=>whnf
  exact AY rfl (uH 14)
 have z9:=Ala lj ⟨g6.la,g6.lr⟩ i2.1;obtain ⟨w,hF,Ec⟩:=xG N.too9 (IG (BD n).a n.s.toNat) (BD n).c n.s.toNat 45 (Aji hn) O' lj true true false;rcases Ec with ⟨h2,_⟩|⟨_,X,hX,qh,rfl⟩
 ·exact absurd z9 h2
 have oa:=λ(k:Nat) (nd:Nd) (h:n.nodes[k]? = some nd)=>Aht I N.tomc n hn.toN3 k nd h
 have qg : ∀ k:Nat,k<n.nodes.length->Ev L 161 [.agg (FG n),.int .i64 (k:Int)] (.c5 [.agg (eS (DS n (k:Int))),.int .i64 0]):=λ k hk=>by
  have:=wX I N.tov3 n (k:Int) hn.np (TU hn.toN3) hn.nl (by unfold EB;omega)
  rwa [LY,if_pos O']at this
 have jl:=TB qh n.s.toNat;have hO:=GZ N.toa5 0 O';rw[show ((0:Int):Rat)=0 from rfl]at hO;have hFr:=wW N.toq9 1 12 O' O' O';have hTl:=(Xd (BD n).a n.s.toNat).l;have Pk:=g6.la;have hTr : ∀ i,i<n.s.toNat->(IG (BD n).a n.s.toNat)[i]? = some ((Ka n.s.toNat).map λ j=>A2 (BD n).a j i):=λ i hi=>Xc _ hi
 have az : ∀ j,j<n.s.toNat -> ∃ r,(BD n).a[((j:Nat):Int).toNat]? = some r/\r.length=n.s.toNat /\ ∀ i,i<n.s.toNat->r[((i:Nat):Int).toNat]? = some (A2 (BD n).a j i):=λ j hj=>Y7 ⟨g6.la,g6.lr⟩ hj
 have yq : ∀ i j,j<n.s.toNat->((Ka n.s.toNat).map λ j=>A2 (BD n).a j i)[j]? = some (A2 (BD n).a j i):=λ i j hj=>by rw[ea,Ja hj];rfl
 have kg : ∀ x:Rat,A3 (.c5 [.agg (eQ x),.int .i64 0]):=λ x=>Z4 x 0
 have wj:=λ k=>mL hn jl k
 have hEd : ∀ k:Nat,DN n (kM X n.s.toNat) k=(DS n (k:Int)).d*(DS n (k:Int)).d+FD (kM X n.s.toNat) (DS n (k:Int)).b n.s.toNat:=λ_=>rfl
 have Mf:=λ k:Nat=>fS hn (k:Int)
 have Gn:=λ(k:Nat) (q1 q2 q3:Bool)=>mR N.tol8 q1 q2 q3 (kM X n.s.toNat) (DS n (k:Int)).b n.s.toNat 380000 45 (TC X n.s.toNat) (Mf k).lb jl (Mf k).bb lj O' O'
 have wm:=λ k=>ZW (mw:=D9 n) (x:=DN n (kM X n.s.toNat)) (k:=6200000) wj k
 refine ⟨.c5 [.agg (eQ (EQ (D9 n) (DN n (kM X n.s.toNat)) n.nodes.length*za 1 12)),.int .i64 0],?_,Or.inr ⟨⟨i0,i1,i2⟩,X,hX,qh,rfl⟩⟩;clear hX z9 i2;generalize Ag:BD n=S at *;generalize hMs:n.s.toNat=ms at *;generalize kM X ms=Q at *;generalize IG S.a ms=T at *;refine Ev.x N.I7 rfl rfl ?_;repeat' (first|(apply AG<;>intro hc<;>try omega)|apply AR|apply AE|refine AD (hV) ?_|refine AD (tn) ?_|refine AD (yp) ?_)<;>conv=>whnf
 unfold C2;refine ⟨⟨O',O',by simp only[DX];omega,O'⟩,?_⟩;rw[Ra,Pk];conv=>whnf
 skip
 refine DF (λ i=>ms-i) (λ(i:Nat)=>i<=ms) (λ i=>[(52,.int .i64 i)]) (λ i=>[(49,49,.mx (mz T ms i))]) [] [] 0 (by first|exact B'|(rw[<-gO T];exact B')) O' ?_;intro i p1 ih;have Ro:=gL (Q:=T) (n:=ms) (i:=i) p1;by_cases hi:i<ms
 ·have hq:=hTr i hi
  have Ei:=gN hq hi;have jv:(mz T ms i)[i]? = some none:=pD hTl hi;have yu:=yq i;have xn:((Ka ms).map λ j=>A2 S.a j i).length=ms:=Z'
  generalize ((Ka ms).map λ j=>A2 S.a j i)=qr at *;have fb:qr.take 1=[A2 S.a 0 i]:=by rw[P5 (yu 0 O')];rfl
  have Iu : ∀ j,j<ms->qr.take (j+1)=qr.take j++[A2 S.a j i]:=λ j hj=>P5 (yu j hj)
  obtain ⟨r0,s8,jf,Hh⟩:=az 0 O';have Ar:S.a[(0:Int).toNat]? = some r0:=s8;have qy:=Hh i hi;generalize mz T ms i=Z0 at *;generalize A2 S.a 0 i=y0 at *;repeat' (first|(apply AG<;>intro hc<;>try omega)|apply AR|apply AE)<;>conv=>whnf
  refine F8 ?_;repeat' (first|(apply AG<;>intro hc<;>try omega)|(apply AX;omega)|apply AE)<;>conv=>whnf
  refine cS (r:=none) (by rw[Ha,Ra];exact jv) ?_;conv=>whnf
  repeat' (first|(refine A4 V' ?_ rfl ?_;omega)|apply DG)<;>conv=>whnf
  refine RR (enc:=eQ) y0 rfl rfl O' ?_;conv=>whnf
  repeat' (first|(apply AX;omega)|fail)<;>conv=>whnf
  refine AX rfl ?_;refine R3 (i:=i) O' O' ?_;conv=>whnf
  repeat' (first|(apply AP;omega)|fail)<;>conv=>whnf
  refine DF (λ j=>ms-j) (λ(j:Nat)=>1<=j/\j<=ms) (λ j=>[(58,.int .i64 j)]) (λ j=>[(49,49,.mx (Z0.set i (some (3,(qr.take j).map eQ))))]) [] [] 1 (by first|exact B'|(rw[fb];exact B')) O' ?_;intro j ⟨r1,r2⟩ jh;have Ch:(qr.take j).length=j:=by rw[qa];omega
  by_cases hj:j<ms
  ·have ox:=Iu j hj
   have ya:(qr.take (j+1)).length=j+1:=by rw[qa];omega
   obtain ⟨rj,hrj,hlj,haj⟩:=az j hj;have kp:=haj i hi;generalize A2 S.a j i=yj at *;generalize qr.take j=W at *;repeat' (first|(apply AG<;>intro hc<;>try omega)|(apply AX;omega)|apply AE)<;>conv=>whnf
   refine RU O' O' ?_;conv=>whnf
   repeat' (first|(refine A4 V' ?_ rfl ?_;omega)|apply DG)<;>conv=>whnf
   refine N0 O' O' ?_;conv=>whnf
   refine EE (enc:=eQ) yj rfl (by rw[va]) rfl O' O' ?_;intro s' v;rw[<-ox,ya];conv=>whnf
   repeat' (first|(apply AX;omega)|fail)<;>conv=>whnf
   refine AX ⟨rfl,by rw[va];omega⟩ ?_;refine R3 (i:=i) O' (by rw[Qa,Qa];omega) ?_;rw[show 0+((i:Int)).toNat=i by omega,Ia,Ia];conv=>whnf
   repeat' (first|(apply AP;omega)|fail)<;>conv=>whnf
   exact A9 [] (jh (j+1) O' O')
  ·have ej:j=ms:=O'
   clear jh;rw[ej,zT O',Ei];repeat' (first|(apply AG<;>intro hc<;>try omega)|(apply AP;omega)|apply AE)<;>conv=>whnf
   exact A9 [] (ih (i+1) O' O')
 have ei:i=ms:=O'
 clear ih az hTr yq;rw[ei,gK O'];repeat' (first|(apply AG<;>intro hc<;>try omega)|apply AE)<;>conv=>whnf
 refine H1 (λ_=>rfl) rfl hTl.symm ?_;conv=>whnf
 repeat' (first|(apply AG<;>intro hc<;>try omega)|apply AR|refine AD (hF) ?_|refine AD (hO) ?_)<;>conv=>whnf
 refine CE (λ k=>n.nodes.length-k) (λ(k:Nat)=>k<=n.nodes.length) (λ k=>[(96,.int .i64 k)]) (λ k=>[(12,12,.bx (eQ (EQ (D9 n) (DN n Q) k)))]) 0 O' ?_;intro k k1 kh;have bq:=wm k;have Ku:k*(6200000+1)<=64*(6200000+1):=zR _ O';by_cases hk:k<n.nodes.length
 ·obtain ⟨nd,hnd⟩:=H' n.nodes k hk
  have hL:=oa k nd hnd;have Ib:=(fZ n nd).1;have nf:=WK N.toa5 Ib O';have Hz:D9 n k=ER n nd:=by rw[D9,hnd]
  have y7:EQ (D9 n) (DN n Q) (k+1)=if 0<ER n nd then EQ (D9 n) (DN n Q) k+DN n Q k else EQ (D9 n) (DN n Q) k:=by rw[EQ,Hz]
  clear oa;generalize ER n nd=l at *;by_cases hp:0<l
  ·rw[if_pos hp]at y7
   have Aw:=Yp hp;generalize o3 l.num=s at *;have hIn:=qg k hk;have hI:=Mf k;have hM:=H7 N.toa5 hI.bd hI.bd O' O';have hFo:=Gn k;have wv:Bt (4*(4*(380000+(45+45)+1)+1)) (FD Q (DS n (k:Int)).b ms):=(MZ (λ i=>(MZ (λ j=>(GC jl i j).mul ((H3 hI.bb i).mul (H3 hI.bb j))) ms).le (zR _ lj)) ms).le (zR _ lj);have hA:=NA N.toa5 (hI.bd.mul hI.bd) wv O' O';have yn:=NA N.toa5 bq (wj k) O' O';rw[<-y7]at yn;rw[<-hEd k]at hA;have zp:=kh (k+1) O' O';clear kh;generalize EQ (D9 n) (DN n Q) k=a0 at *;generalize EQ (D9 n) (DN n Q) (k+1)=a1 at *;generalize DN n Q k=ek at *;generalize FD Q (DS n (k:Int)).b ms=fq at *;generalize DS n (k:Int)=J at *;repeat' (first|(apply AG<;>intro hc<;>try omega)|(apply AP;omega)|apply AE|refine AD (hL) ?_|refine AD (nf) ?_|refine AD (hIn) ?_|refine AD (hM) ?_|refine AD (hFo _ _ _) ?_|refine AD (hA) ?_|refine AD (yn) ?_)<;>conv=>whnf
   exact BN [] B' zp
  ·rw[if_neg hp]at y7
   have Aw:=Acc hp;generalize o3 l.num=s at *;rw[<-y7];repeat' (first|(apply AG<;>intro hc<;>try omega)|(apply AP;omega)|apply AE|refine AD (hL) ?_|refine AD (nf) ?_)<;>conv=>whnf
   exact A9 [] (kh (k+1) O' O')
 have ek:k=n.nodes.length:=O'
 clear kh;rw[ek]at bq ⊢;have Gj:Bt 4 (za 1 12):=⟨Y',Y'⟩;have hM:=H7 N.toa5 bq Gj O' O';have kg:=kg (EQ (D9 n) (DN n Q) n.nodes.length*za 1 12);generalize EQ (D9 n) (DN n Q) n.nodes.length*za 1 12=y at *;generalize EQ (D9 n) (DN n Q) n.nodes.length=a0 at *;generalize za 1 12=x12 at *;repeat' (first|(apply AG<;>intro hc<;>try omega)|apply AE|refine AD (hFr) ?_|refine AD (hM) ?_)<;>conv=>whnf
 exact AY rfl kg
theorem nO {n i:Nat} {A:J'} (h6:i<=6) (hf:IY n A i) (h : ∀ j,j<=6->DH (B8 n A j)=false):False:=by
 have h1:=h i h6;rw[hf.1]at h1;cases h1
theorem mM (N:l8 L) (n:Nt) (hn:G6 n) {i:Nat} (h6:i<=6) (hf:IY n.s.toNat (BD n).a i) {X:K'} (hX:HZ (IG (BD n).a n.s.toNat) (BD n).c X n.s.toNat) (k:Nat) :
  Ev L 332 [.agg (eS (DS n (k:Int)))] (.c5 [.agg (eQ (DN n (kM X n.s.toNat) k)),.int .i64 0])/\Ev L 334 [.agg (eS (DS n (k:Int)))] (.c5 [.agg (eQ (DN n (kM X n.s.toNat) k)),.int .i64 0])/\0<=DN n (kM X n.s.toNat) k:=by
 have lj:=(TT hn.toN3).1;have g6:=fS hn (k:Int);have hA:Sq n.s.toNat (BD n).a:=⟨g6.la,g6.lr⟩;obtain ⟨v,g1,g2,hG⟩:=nT N.too9 (BD n).a (DS n (k:Int)).b n.s.toNat (Ajf hn k) O' lj;rcases hG with ⟨h1|h1,_⟩|⟨_,_,Y,hY,Hf,rfl⟩
 ·exact (nO h6 hf h1).elim
 ·exact absurd (Wf lj hA hf.1) h1
 have hE:=hY.eq lj;have wj:NU (DS n (k:Int)) (kM Y n.s.toNat) n.s.toNat 0=DN n (kM X n.s.toNat) k:=by
  rw[DN,<-AiZ hE (hX.eq lj)];rfl
 have e1:=wV N (DS n (k:Int)) n.s.toNat g6 O' lj (kM Y n.s.toNat) (TC Y n.s.toNat) (TB Hf n.s.toNat) O' g1;have e2:=yD N (DS n (k:Int)) n.s.toNat g6 O' lj (kM Y n.s.toNat) (TC Y n.s.toNat) (TB Hf n.s.toNat) O' g2;rw[wj]at e1 e2;refine ⟨e1,e2,?_⟩;have h1:=Ai1 hA g6.lc hf.1 hE;have h2:=jB (DS n (k:Int)).d;rw[<-wj,NU];exact Rat.add_nonneg h2 h1
theorem Tc (N:l8 L) (n:Nt) (hn:G6 n):((∀ j,j<=6->DH (B8 n.s.toNat (BD n).a j)=false)->Ev L 334 [.agg (eS (BD n))] (.c5 [rz,.int .i64 14]))/\(∀ i,i<=6->IY n.s.toNat (BD n).a i -> ∃ y:Rat,Ev L 334 [.agg (eS (BD n))] (.c5 [.agg (eQ y),.int .i64 0])):=by
 have lj:=(TT hn.toN3).1;have g6:=YQ hn;have hA:Sq n.s.toNat (BD n).a:=⟨g6.la,g6.lr⟩;refine ⟨λ h => ?_,λ i h6 hf => ?_⟩
 ·obtain ⟨v,g1,z8⟩:=yE N.too9 (BD n).a (BD n).b n.s.toNat 45 hA g6.lb g6.ba g6.bb O' lj false false false
  rcases z8 with ⟨_,rfl⟩|⟨⟨i,i1,i2⟩,_⟩
  ·exact Aix N (BD n) n.s.toNat g6 O' lj 14 Y' g1
  ·exact (nO i1 i2 h).elim
 ·obtain ⟨v,g1,g2,hG⟩:=nT N.too9 (BD n).a (BD n).b n.s.toNat (Ajg hn) O' lj
  rcases hG with ⟨h1|h1,_⟩|⟨_,_,Y,hY,Hf,rfl⟩
  ·exact (nO h6 hf h1).elim
  ·exact absurd (Wf lj hA hf.1) h1
  ·exact ⟨_,yD N (BD n) n.s.toNat g6 O' lj (kM Y n.s.toNat) (TC Y n.s.toNat) (TB Hf n.s.toNat) O' g2⟩
theorem AiE (I:e8 L) (N:aq L) (n:Nt) (hn:G6 n) (h : ∀ j,j<=6->DH (B8 n.s.toNat (BD n).a j)=false):Ev L 420 [.agg (FG n)] (.c5 [rz,.int .i64 14]):=by
 have hV:=aI n I N.tow6;rw[hn.np]at hV;have g9:=hn.st;have tn:=xA I N.tov3 n hn.np (TU hn.toN3) hn.nl;have hO:=KE N.toa6 0 O';have hE:=(Tc N.tol8 n hn).1 h;generalize BD n=S at *;refine Ev.x N.MT rfl rfl ?_;repeat' (first|(apply AG<;>intro hc<;>try omega)|apply AE|refine AD (hV) ?_|refine AD (hO) ?_|refine AD (tn) ?_|refine AD (hE) ?_)<;>conv=>whnf
 exact AY rfl (uH 14)
theorem AiD (I:e8 L) (N:aq L) (n:Nt) (hn:G6 n) {i:Nat} (h6:i<=6) (hf:IY n.s.toNat (BD n).a i) {X:K'} (hX:HZ (IG (BD n).a n.s.toNat) (BD n).c X n.s.toNat) (qh:Bs 380000 X):Ev L 420 [.agg (FG n)] (.c5 [.agg (eQ (EQ (D9 n) (DN n (kM X n.s.toNat)) n.nodes.length/12)),.int .i64 0]):=by
 have hV:=aI n I N.tow6;rw[hn.np]at hV;have g9:=hn.st;obtain ⟨lj,ml⟩:=TT hn.toN3;obtain ⟨_,_,⟨br,_,Bz,_⟩,_⟩:=(E7 n).1 hn.np;have tn:=xA I N.tov3 n hn.np (TU hn.toN3) hn.nl;have hO:=KE N.toa6 0 O';have Gt:=KE N.toa6 12 O';rw[show ((0:Int):Rat)=0 from rfl]at hO;rw[show ((12:Int):Rat)=12 from rfl]at Gt;obtain ⟨y,hE⟩:=(Tc N.tol8 n hn).2 i h6 hf;have oa:=λ(k:Nat) (nd:Nd) (h:n.nodes[k]? = some nd)=>yF I N.todf n hn.toN3 k nd h
 have qg : ∀ k:Nat,k<n.nodes.length->Ev L 166 [.agg (FG n),.int .i64 (k:Int)] (.c5 [.agg (eS (DS n (k:Int))),.int .i64 0]):=λ k hk=>by
  have:=Ahr I N.tov3 n (k:Int) hn.np (TU hn.toN3) hn.nl (by unfold EB;omega)
  rwa [LY,if_pos O']at this
 have Gm:=λ k=>(mM N.tol8 n hn h6 hf hX k).2.1
 have jl:=TB qh n.s.toNat;have wj:=λ k=>mL hn jl k
 have wm:=λ k=>ZW (mw:=D9 n) (x:=DN n (kM X n.s.toNat)) (k:=6200000) wj k
 have kg : ∀ x:Rat,A3 (.c5 [.agg (eQ x),.int .i64 0]):=λ x=>Z4 x 0
 clear hX hf;generalize BD n=S at *;generalize kM X n.s.toNat=Q at *;refine Ev.x N.MT rfl rfl ?_;repeat' (first|(apply AG<;>intro hc<;>try omega)|apply AE|refine AD (hV) ?_|refine AD (hO) ?_|refine AD (tn) ?_|refine AD (hE) ?_)<;>conv=>whnf
 refine CE (λ k=>n.nodes.length-k) (λ(k:Nat)=>k<=n.nodes.length) (λ k=>[(9,.int .i64 k)]) (λ k=>[(4,4,.bx (eQ (EQ (D9 n) (DN n Q) k)))]) 0 O' ?_;intro k k1 kh;have bq:=wm k;have Ku:k*(6200000+1)<=64*(6200000+1):=zR _ O';by_cases hk:k<n.nodes.length
 ·obtain ⟨nd,hnd⟩:=H' n.nodes k hk
  have hL:=oa k nd hnd;have Ib:=(fZ n nd).1;have nf:=eU N.tok9 Ib O';have Hz:D9 n k=ER n nd:=by rw[D9,hnd]
  have y7:EQ (D9 n) (DN n Q) (k+1)=if 0<ER n nd then EQ (D9 n) (DN n Q) k+DN n Q k else EQ (D9 n) (DN n Q) k:=by rw[EQ,Hz]
  have hIn:=qg k hk;have Md:=Gm k;clear oa qg Gm;generalize ER n nd=l at *;by_cases hp:0<l
  ·rw[if_pos hp]at y7
   have Aw:=Yp hp;generalize o3 l.num=s at *;have yn:=QN N.toa6 bq (wj k) O' O';rw[<-y7]at yn;have zp:=kh (k+1) O' O';clear kh;generalize EQ (D9 n) (DN n Q) k=a0 at *;generalize EQ (D9 n) (DN n Q) (k+1)=a1 at *;generalize DN n Q k=ek at *;generalize DS n (k:Int)=J at *;repeat' (first|(apply AG<;>intro hc<;>try omega)|(apply AP;omega)|apply AR|apply AE|refine AD (hL) ?_|refine AD (hIn) ?_|refine AD (nf) ?_|refine AD (Md) ?_|refine AD (yn) ?_)<;>conv=>whnf
   exact BN [] B' zp
  ·rw[if_neg hp]at y7
   have Aw:=Acc hp;generalize o3 l.num=s at *;rw[<-y7];repeat' (first|(apply AG<;>intro hc<;>try omega)|(apply AP;omega)|apply AR|apply AE|refine AD (hL) ?_|refine AD (hIn) ?_|refine AD (nf) ?_)<;>conv=>whnf
   exact A9 [] (kh (k+1) O' O')
 have ek:k=n.nodes.length:=O'
 clear kh;rw[ek]at bq ⊢;have Gj:Bt 4 (12:Rat):=⟨Y',Y'⟩;have hD:=xC N.tok9 bq Gj O' O' Y';have kg:=kg (EQ (D9 n) (DN n Q) n.nodes.length/12);generalize EQ (D9 n) (DN n Q) n.nodes.length/12=y at *;generalize EQ (D9 n) (DN n Q) n.nodes.length=a0 at *;generalize (12:Rat)=x12 at *;repeat' (first|(apply AG<;>intro hc<;>try omega)|apply AR|apply AE|refine AD (Gt) ?_|refine AD (hD) ?_)<;>conv=>whnf
 exact AY rfl kg
theorem vJ (x:Rat):x*za 1 12=x/12:=by
 have:(za 1 12:Rat)=1/12:=by decide +kernel
 rw[this];grind
theorem AhF (N:a6 L):Ev L 127 [rz,rz] (.int .i64 0):=by
 have:=yC (q1:=false) (q3:=false) N 1 O' false false false false [] [] [] [] (VE _) (VE _) (VE _) (VE _)
 rw[iT.2 rfl]at this;exact this
def RE (n:Nt) (Q:J') (k:Nat):Bool:=decide (∀ j,j<k->D9 n j=0\/DN n Q j=0)
theorem AmE (n:Nt) (Q:J') (k:Nat):RE n Q (k+1)=(RE n Q k&&(decide (D9 n k=0)||decide (DN n Q k=0))):=by
 rw[RE,RE,<-Bool.decide_or,<-Bool.decide_and];refine decide_eq_decide.2 ⟨λ h=>⟨λ j hj=>h j O',h k O'⟩,λ h j hj => ?_⟩;rcases Nat.lt_succ_iff_lt_or_eq.1 hj with hj|rfl
 ·exact h.1 j hj
 ·exact h.2
theorem AhX (I:e8 L) (W:u5 L) (N:nu L) (kd dk ck:Int) (h0:EB kd) (h1:EB dk) (h2:EB ck) (b a:List Int) (q1 q2:Bool) (lb:b.length<9223372036854775808) (la:a.length<9223372036854775808) (y9 : ∀ v∈a,EB v) :
  Ev L 422 [.agg [.int .i64 kd,.int .i64 dk,.int .i64 ck,.sl q1 (b.map C0),.sl q2 (a.map C0)]] (.bool true):=by
 have Fg:=AhR N.toft;obtain ⟨n,hn,zl,xm,hq3,hP⟩:=Ahv I W N.tofu kd dk ck h0 h1 h2 b a q1 q2 lb la y9;obtain ⟨v,Na,z8⟩:=AhD I N.toaq n hn;rcases z8 with ⟨h1,rfl⟩|⟨⟨i,h6,hf⟩,X,hX,qh,rfl⟩
 ·have hR:=AiE I N.toaq n hn h1
  have hC:=AhF N.toa6;refine Ev.x N.L0 rfl rfl ?_;repeat' (first|(apply AG<;>intro hc<;>try omega)|apply AE|refine AD (hP) ?_|refine AD (Na) ?_|refine AD (hR) ?_|refine AD (hC) ?_)<;>conv=>whnf
  refine F8 ?_;repeat' (first|(apply AG<;>intro hc<;>try omega)|apply AR|apply AE|refine AD (Fg) ?_)<;>conv=>whnf
  all_goals exact FB rfl
 have hR:=AiD I N.toaq n hn h6 hf hX qh;rw[vJ]at Na;obtain ⟨_,_,⟨_,_,Bz,_⟩,_⟩:=(E7 n).1 hn.np;have jl:=TB qh n.s.toNat;have wj:=λ k=>mL hn jl k
 have Gm:=λ k=>(mM N.tol8 n hn h6 hf hX k).1
 have hE0:=λ k=>(mM N.tol8 n hn h6 hf hX k).2.2
 have hz:=tC (mw:=D9 n) (λ k=>Aky k) hE0 n.nodes.length;have bq:=ZW (mw:=D9 n) (x:=DN n (kM X n.s.toNat)) (k:=6200000) wj n.nodes.length;have Ku:n.nodes.length*(6200000+1)<=64*(6200000+1):=zR _ O';have oa:=λ(k:Nat) (nd:Nd) (h:n.nodes[k]? = some nd)=>yF I N.todf n hn.toN3 k nd h
 have qg : ∀ k:Nat,k<n.nodes.length->Ev L 161 [.agg (FG n),.int .i64 (k:Int)] (.c5 [.agg (eS (DS n (k:Int))),.int .i64 0]):=λ k hk=>by
  have:=wX I N.tov3 n (k:Int) hn.np (TU hn.toN3) hn.nl (by unfold EB;omega)
  rwa [LY,if_pos O']at this
 clear hX hf;generalize kM X n.s.toNat=Q at *;have n8 : ∀ y:Rat,y=EQ (D9 n) (DN n Q) n.nodes.length/12->(RE n Q n.nodes.length=decide (o3 y.num=0)):=λ y hy=>by
  refine decide_eq_decide.2 ?_;rw[MV,hy,<-hz];constructor
  ·intro h;rw[h];decide +kernel
  ·intro h;grind
 have Gj:Bt 4 (za 1 12):=⟨Y',Y'⟩;have bg:Bt 400000000 (EQ (D9 n) (DN n Q) n.nodes.length/12):=by
  rw[<-vJ];have hm:=bq.mul Gj;have u4:n.nodes.length*(6200000+1)+4<=400000000:=La (Nat.add_le_add_right Ku 4) Y';exact hm.le u4
 have n8:=n8 _ rfl;generalize EQ (D9 n) (DN n Q) n.nodes.length/12=y at *;have hC:=eK N.toa6 bg bg O' O';rw[iT.2 rfl]at hC;have hSy:=eU N.tok9 bg O';refine Ev.x N.L0 rfl rfl ?_;repeat' (first|(apply AG<;>intro hc<;>try omega)|apply AE|refine AD (hP) ?_|refine AD (Na) ?_|refine AD (hR) ?_|refine AD (hC) ?_)<;>conv=>whnf
 refine FJ (λ k _=>n.nodes.length-k) (λ(k:Nat) (b:Bool)=>k<=n.nodes.length/\b=RE n Q k) (λ k b=>[(10,.int .i64 k),(9,.bool b)]) (λ_ _=>[]) 0 true ⟨O',by simp [RE]⟩ ?_;intro k b ⟨k1,k2⟩ kh;by_cases hk:k<n.nodes.length
 ·obtain ⟨nd,hnd⟩:=H' n.nodes k hk
  have hL:=oa k nd hnd;have Ib:=(fZ n nd).1;have su:=eU N.tok9 Ib O';have yw:=eU N.tok9 (wj k) O';have Hz:D9 n k=ER n nd:=by rw[D9,hnd]
  have hs:=AmE n Q k;rw[Hz,<-k2,show decide (ER n nd=0)=decide (o3 (ER n nd).num=0) from decide_eq_decide.2 MV.symm,show decide (DN n Q k=0)=decide (o3 (DN n Q k).num=0) from decide_eq_decide.2 MV.symm]at hs;have hIn:=qg k hk;have hE:=Gm k;have zp:=λ(b:Bool) (hb:b=RE n Q (k+1))=>kh (k+1) b O' ⟨O',hb⟩
  clear kh oa qg Gm;generalize RE n Q (k+1)=sb at *;generalize ER n nd=l at *;generalize DN n Q k=x at *;generalize o3 l.num=s1 at *;generalize o3 x.num=s2 at *;generalize DS n (k:Int)=J at *;by_cases g1:s1=0
  ·rw[decide_eq_true g1,Bool.true_or,tb]at hs
   cases b
   ·repeat' (first|(apply AG<;>intro hc<;>try omega)|(apply AP;omega)|apply AR|apply AE|refine AD (hL) ?_|refine AD (hIn) ?_|refine AD (hE) ?_)<;>conv=>whnf
    exact BN [] B' (zp false hs.symm)
   ·repeat' (first|(apply AG<;>intro hc<;>try omega)|(apply AP;omega)|apply AR|apply AE|refine AD (hL) ?_|refine AD (hIn) ?_|refine AD (hE) ?_|refine AD (su) ?_)<;>conv=>whnf
    exact BN [] B' (zp true hs.symm)
  ·rw[decide_eq_false g1,Bool.false_or]at hs
   by_cases g2:s2=0
   ·rw[decide_eq_true g2,tb]at hs
    cases b
    ·repeat' (first|(apply AG<;>intro hc<;>try omega)|(apply AP;omega)|apply AR|apply AE|refine AD (hL) ?_|refine AD (hIn) ?_|refine AD (hE) ?_)<;>conv=>whnf
     exact BN [] B' (zp false hs.symm)
    ·repeat' (first|(apply AG<;>intro hc<;>try omega)|(apply AP;omega)|apply AR|apply AE|refine AD (hL) ?_|refine AD (hIn) ?_|refine AD (hE) ?_|refine AD (su) ?_|refine AD (yw) ?_)<;>conv=>whnf
     exact BN [] B' (zp true hs.symm)
   ·rw[decide_eq_false g2,Nb]at hs
    cases b
    ·repeat' (first|(apply AG<;>intro hc<;>try omega)|(apply AP;omega)|apply AR|apply AE|refine AD (hL) ?_|refine AD (hIn) ?_|refine AD (hE) ?_)<;>conv=>whnf
     exact BN [] B' (zp false hs.symm)
    ·repeat' (first|(apply AG<;>intro hc<;>try omega)|(apply AP;omega)|apply AR|apply AE|refine AD (hL) ?_|refine AD (hIn) ?_|refine AD (hE) ?_|refine AD (su) ?_|refine AD (yw) ?_)<;>conv=>whnf
     exact BN [] B' (zp false hs.symm)
 have ek:k=n.nodes.length:=O'
 clear kh;rw[ek]at k2 ⊢;rw[<-k2]at n8;generalize o3 y.num=sy at *;by_cases g1:sy=0
 ·rw[decide_eq_true g1]at n8
  rw[n8];repeat' (first|(apply AG<;>intro hc<;>try omega)|apply AR|apply AE|refine AD (Fg) ?_|refine AD (hSy) ?_)<;>conv=>whnf
  all_goals exact FB rfl
 ·rw[decide_eq_false g1]at n8
  rw[n8];repeat' (first|(apply AG<;>intro hc<;>try omega)|apply AR|apply AE|refine AD (Fg) ?_|refine AD (hSy) ?_)<;>conv=>whnf
  all_goals exact FB rfl
end Go.c6
