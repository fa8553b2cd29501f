/-
  Powers of raw matrices (layer 29): the reference.
-/
import Derived.Test.YtckpiejepaconaaGreatB5
import Derived.Test.YtckpiejepaconaaGreatB4
import Derived.Test.YtckpiejepaconaaGreatB1
import Derived.Test.YtckpiejepaconaaGreatB3
set_option linter.unusedSimpArgs false
set_option linter.unusedVariables false
set_option linter.unnecessarySimpa false
set_option maxHeartbeats 32000000
open Bool renaming and_eq_true->Od
open Function renaming comp_def->fe
open Int renaming toNat_natCast->Nc,natAbs_neg->Sg
open List renaming length_map->Wa,length_take->Sa,getD_eq_getElem?_getD->jb,getElem?_map->Wb,mem_map->Hb,replicate->Cb,length_set->yc,mem_singleton->xc,length_append->oc,mem_cons_of_mem->ec,mem_cons_self->Sc,map_cons->Pc,getElem?_of_mem->Oc,getElem?_set->Cc,getElem?_range->yd,append_nil->xd,length_eq_zero_iff->td,take_zero->cd,map_map->Vd,length_drop->Ud,range->Kd,mem_or_eq_of_mem_set->Gd,mem_cons->Ed,set_set->Dd,map_set->Bd,drop_of_length_le->Ad,nil_append->ye,mem_append->ve,getElem?_zipWith->pe,mem_of_mem_take->ie,sum_cons->Ve,mem_flatten->Ke,map_append->Je,drop_zero->Ee,eq_of_mem_replicate->De,zipWith_cons_cons->uf,map_congr_left->Nf,getElem?_drop->Bf,append_assoc->lg,length_cons->gg
open Nat renaming le_refl->Ub,pow_le_pow_right->Eb,mul_le_mul->Ab,le_trans->uc,pow_add->od,pow_succ->ze,pow_le_pow_left->We,succ_mul->Re,mul_comm->Le,min_eq_left->Ge,zero_add->Vf,beq->Uf,zero_le->Sf,pow_mul->Qf,mul_le_mul_left->Cf,one_le_two_pow->pg,max_eq_left->Tg,mul_assoc->Pg,pow_zero->Lg,add_comm->Kg,two_mul->Eg,pow_pos->ph,mul_one->lh
open Option renaming some.inj->Vc
open Rat renaming divInt->Gb,natCast_mul->te,pow_zero->qf,mul_zero->lf,mul_comm->ef,sub_eq_add_neg->zg,natCast_inj->cg,mul_eq_zero->Ug,add_assoc->Qg,add_zero->Mg,neg_num->Ig,neg_den->Hg
namespace Go.j4
open F
attribute [local irreducible] AJ A5 BZ A0 FH B2 C6 C9 EO EC E0 HH D6 CT EJ E3 AM CZ BH pw EF DP FF FR F5 F7 E6 DQ GN
variable {L:Lib}
set_option maxRecDepth 8000
theorem Aow (N:fg L) {w:BI} {k:Nat} (hf:w.Fit k) (hk:k<2199023255552):Ev L 309 [.agg (eW w)] (.agg (eQ (KC w.v))):=by
 have hT:=zC N.toa8 hf.2 (Ub _);have hx:=hf.1;generalize w.v=x at *;have hs:=hx.qe hk;have hR:=λ q=>K1 N.toa8 (dg x.num.natAbs) q (HM _) (by have:=hs.1.2;omega)
 rw[EH]at hR;have hA : ∀ b q,Ev L 308 [.agg [.bool b,.sl q ((dg x.num.natAbs).map BK)]] (.agg [.bool false,.sl false ((dg x.num.natAbs).map BK)]):=λ b q=>by
  refine Ev.x N.cH rfl rfl ?_;repeat' (first|apply AQ|refine AU (hR _) ?_)<;>conv=>whnf
  exact B1 rfl (AcF _ _)
 have q5:=GD (KC x);rw[Am1]at q5 ⊢;refine Ev.x N.cU rfl rfl ?_;repeat' (first|apply AQ|refine AU (hT) ?_|refine AU (hA _ _) ?_)<;>conv=>whnf
 exact B1 rfl q5
def iF (a:List (List BI)):Bool:=decide (a.length<=16)&&a.all λ r=>decide (r.length=a.length)
theorem AgS {a:List (List BI)}:iF a=true↔a.length<=16 /\ ∀ r∈a,r.length=a.length:=by
 simp [iF]
theorem Aea (N:fg L) (q q':Bool) (a:List (List BI)) (hl:a.length<=9223372036854775807):Ev L 310 [.sl q (FW q' a)] (.bool (iF a)):=by
 refine Ev.x N.YC rfl rfl ?_;(repeat' (apply AQ<;>conv=>whnf))
 refine FP (λ i=>a.length-i) (λ(i:Nat)=>i<=a.length /\ ∀ (j:Nat) (r:List BI),j<i->a[j]? = some r->decide (r.length=a.length)=true) (λ i=>[(3,.int .i64 i)]) (λ_=>[]) 0 ⟨D',λ j x h _=>absurd h D'⟩ ?_;intro i ⟨p1,p2⟩ ih;by_cases hi:i<a.length
 ·obtain ⟨r,hr⟩:=X_ a i hi
  have nh:a[(i:Int).toNat]? = some r:=hr;by_cases ff:r.length=a.length
  ·repeat' (first|(apply A7<;>intro hc<;>try omega)|(apply B5;omega)|apply BW|(refine CU G' ?_ rfl ?_;omega)|apply AQ)<;>conv=>whnf
   exact DB [] (ih (i+1) D' ⟨D',λ j y hj hy=>by
    by_cases e:j=i
    ·subst e;rw[hr]at hy;obtain rfl:=Vc hy;exact decide_eq_true ff
    ·exact p2 j y D' hy⟩)
  ·rw[iF,lT hr (decide_eq_false ff),Bool.and_false]
   clear ih p2;repeat' (first|(apply A7<;>intro hc<;>try omega)|apply BW|(refine CU G' ?_ rfl ?_;omega)|apply AQ)<;>conv=>whnf
   exact HK rfl
 obtain rfl:i=a.length:=D'
 clear ih;rw[iF,lS λ j x hx=>p2 j x (zS hx).1 hx,Bool.and_true];by_cases h:a.length<=16
 ·rw[decide_eq_true h]
  repeat' (first|(apply A7<;>intro hc<;>try omega)|apply BW|apply AQ)<;>conv=>whnf
  exact HK rfl
 ·rw[decide_eq_false h]
  repeat' (first|(apply A7<;>intro hc<;>try omega)|apply BW|apply AQ)<;>conv=>whnf
  exact HK rfl
theorem Ad9 (N:fg L) (q:Bool) (vw:List BI) (k:Nat) (hf:Fs k vw) (hn:vw.length<=4) (hk:k<=100000000000):Ev L 311 [.sl q (vw.map eW)] (.agg (eQ (EM (vw.map BI.v)))):=by
 have hv:=hf.bs;have hlen:vw.length=(vw.map BI.v).length:=(Wa _).symm;have je : ∀ (j:Nat) (x:BI),vw[j]? = some x->(vw.map BI.v)[j]? = some x.v:=λ j x h=>by rw[Wb,h];rfl
 generalize vw.map BI.v=v at *;have hO:=ZB N.toa8 0 D';rw[show ((0:Int):Rat)=0 from rfl]at hO;refine Ev.x N.YB rfl rfl ?_;repeat' (first|apply AQ|refine AU (hO) ?_)<;>conv=>whnf
 refine GV (λ i=>v.length-i) (λ(i:Nat)=>i<=v.length) (λ i=>[(4,.int .i64 i)]) (λ i=>[(3,3,.bx (eQ (EM (v.take i))))]) [] [] 0 (by rw[show EM (v.take 0)=0 from rfl];exact w_) D' ?_;intro i p1 ih;by_cases hi:i<v.length
 ·obtain ⟨xw,ka⟩:=X_ vw i
  have ni:vw[(i:Int).toNat]? = some xw:=ka;have hx:=je i xw ka;have hA:=Aow N (hf.at ka) D';generalize xw.v=x at *;have hz:Bt (4*(k+1)) (EM (v.take i)):=(oQ (hv.take i)).le (zR _ V_);have hP:=Y6 N.toa8 hz (Ach (hv.at hx)) D' D';rw[<-Agz hx]at hP;generalize EM (v.take i)=w at *;generalize KC x=y at *;repeat' (first|(apply A7<;>intro hc<;>try omega)|(apply B5;omega)|apply BW|(refine CU G' ?_ rfl ?_;omega)|apply AQ|refine AU (hA) ?_|refine AU (hP) ?_)<;>conv=>whnf
  exact DB [] (ih (i+1) D' D')
 obtain rfl:i=v.length:=D'
 clear ih;rw[zT (Ub _)];repeat' (first|(apply A7<;>intro hc<;>try omega)|apply BW|apply AQ)<;>conv=>whnf
 exact B1 rfl (GD _)
theorem AoC (N:fg L) (q:Bool) (v:Z_) (k:Nat) (hv:Bs k v) (hn:v.length<=4) (hk:k<=100000000000):Ev L 311 [.sl q (v.map eQ)] (.agg (eQ (EM v))):=by
 have:=Ad9 N q (wR v) k (Fs.of hv D') (by rw[wR,Wa];exact hn) hk
 rwa [V2,RS]at this
theorem Aeb (N:fg L) (q q':Bool) (aw:List (List BI)) (n kk:Nat) (hs:Sq n (vM aw)) (hf:FQ kk aw) (hn:n<=4) (hk:kk<=100000000000):Ev L 313 [.sl q (FW q' aw)] (.sl false (eM (LF (vM aw) (vM aw) n))):=by
 have ha:=hf.ms;have Bw:aw.length=n:=by rw[<-hs.l,vM,Wa]
 have An : ∀ (i:Nat) (r:List BI),aw[i]? = some r->(vM aw)[i]? = some (r.map BI.v):=λ i r h=>J5 h
 generalize vM aw=a at *;have ig:=hs.l;have Jj:Sq n (LF a a n):=Sq.mul hs.l a;have Rt : ∀ (i:Nat) (r:Z_),a[i]? = some r->(LF a a n)[i]? = some (JQ r a n):=λ i r hr=>by rw[LF,Wb,hr];rfl
 have Lj : ∀ (j:Nat) (r:Z_),j<n->(JQ r a n)[j]? = some (B4 r (GI a j)):=λ j r hj=>by rw[JQ,Wb,yd hj];rfl
 have Ji:=Jj.l;have Pm:=Jj.r;have hO:=ZB N.toa8 0 D';rw[show ((0:Int):Rat)=0 from rfl]at hO;generalize LF a a n=Q at *;refine Ev.x N.QY rfl rfl ?_;repeat' (first|apply BW|apply AQ)<;>conv=>whnf
 unfold F5;refine ⟨⟨D',D',by simp only[H8];omega,D'⟩,?_⟩;rw[Nc,Bw];conv=>whnf
 skip
 refine GV (λ i=>n-i) (λ(i:Nat)=>i<=n) (λ i=>[(4,.int .i64 i)]) (λ i=>[(10,10,.mx (mz Q n i))]) [] [] 0 (by first|exact w_|(rw[<-Xn Q];exact w_)) D' ?_;intro i p1 ih;have hzl:=Xl (Q:=Q) p1;by_cases hi:i<n
 ·obtain ⟨ow,rm⟩:=X_ aw i
  have nh:aw[(i:Int).toNat]? = some ow:=rm;have hr:=An i ow rm;have ff:=hs.at hr;have ri:=ha.at hr;have Ct:=hf.ar rm;have Uo:ow.length=n:=by rw[<-ff,Wa]
  have Ip : ∀ (j:Nat) (x:BI),ow[j]? = some x->(ow.map BI.v)[j]? = some x.v:=λ j x h=>by rw[Wb,h];rfl
  generalize ow.map BI.v=rr at *;have hq:=Rt i rr hr;have m4:=Xm hq hi;have yf:(mz Q n i)[i]? = some none:=Afz Ji hi;have Cs:(JQ rr a n).length=n:=Pm _ (zM hq);have mr:(JQ rr a n).take 1=[B4 rr (GI a 0)]:=by
   rw[YN (Lj 0 rr D')];rfl
  have hqj : ∀ j,j<n->(JQ rr a n).take (j+1)=(JQ rr a n).take j++[B4 rr (GI a j)]:=λ j hj=>YN (Lj j rr hj)
  generalize mz Q n i=R0 at *;generalize JQ rr a n=qr at *;repeat' (first|(apply A7<;>intro hc<;>try omega)|apply BW|apply AQ)<;>conv=>whnf
  refine QH ?_;repeat' (first|(apply A7<;>intro hc<;>try omega)|apply BW|apply AQ|refine AU (hO) ?_)<;>conv=>whnf
  refine GV (λ k=>n-k) (λ(k:Nat)=>k<=n) (λ k=>[(7,.int .i64 k)]) (λ k=>[(6,6,.bx (eQ (B4 (rr.take k) ((GI a 0).take k))))]) [] [] 0 (by rw[show B4 (rr.take 0) ((GI a 0).take 0)=0 from rfl];exact w_) D' ?_;intro k t1 kh;by_cases pc:k<n
  ·obtain ⟨xw,ka⟩:=X_ ow k
   obtain ⟨sw,Og⟩:=X_ aw k;have jn:=An k sw Og;have Gf:=hs.at jn;rw[Wa]at Gf;obtain ⟨yw,Ex⟩:=X_ sw 0;have hx:=Ip k xw ka;have hy:(sw.map BI.v)[0]? = some yw.v:=by rw[Wb,Ex];rfl
   have ni:ow[(k:Int).toNat]? = some xw:=ka;have Cd:aw[(k:Int).toNat]? = some sw:=Og;have Cy:sw[((0:Nat):Int).toNat]? = some yw:=Ex;have hcy:=AcW jn hy;have hM:=aQ N.toa8 (Ct.at ka).2 ((hf.ar Og).at Ex).2 (Ub _) (Ub _);have hd:Bt (4*(kk+kk+1)) (B4 (rr.take k) ((GI a 0).take k)):=((ri.take k).dot ((Ms.col ha 0).take k)).le (zR _ V_);have hA:=Y6 N.toa8 hd ((ri.at hx).mul ((ha.at jn).at hy)) D' D';rw[<-fD hx hcy]at hA;generalize B4 (rr.take k) ((GI a 0).take k)=w at *;generalize xw.v*yw.v=p at *;repeat' (first|(apply A7<;>intro hc<;>try omega)|(apply B5;omega)|apply BW|(refine CU G' ?_ rfl ?_;omega)|apply AQ|refine AU (hM) ?_|refine AU (hA) ?_)<;>conv=>whnf
   exact DB [] (kh (k+1) D' D')
  have ek:k=n:=D'
  clear kh;rw[ek,aL ff];generalize B4 rr (GI a 0)=y0 at *;repeat' (first|(apply A7<;>intro hc<;>try omega)|(apply CB;omega)|apply BW|apply AQ)<;>conv=>whnf
  refine vO (r:=none) (by rw[Vf,Nc];exact yf) ?_;conv=>whnf
  (repeat' (apply HL<;>conv=>whnf))
  refine pM (enc:=eQ) y0 rfl rfl D' ?_;conv=>whnf
  repeat' (first|(apply CB;omega)|fail)<;>conv=>whnf
  refine CB rfl ?_;refine iW (i:=i) D' D' ?_;conv=>whnf
  repeat' (first|(apply B5;omega)|fail)<;>conv=>whnf
  refine GV (λ j=>n-j) (λ(j:Nat)=>1<=j/\j<=n) (λ j=>[(5,.int .i64 j)]) (λ j=>[(10,10,.mx (R0.set i (some (3,(qr.take j).map eQ))))]) [] [] 1 (by first|exact w_|(rw[mr];exact w_)) D' ?_;intro j ⟨r1,r2⟩ jh;have Oh:(qr.take j).length=j:=by rw[Sa];omega
  by_cases hj:j<n
  ·have Aj:=hqj j hj
   have Oi:(qr.take (j+1)).length=j+1:=by rw[Sa];omega
   generalize qr.take j=W at *;repeat' (first|(apply A7<;>intro hc<;>try omega)|apply BW|apply AQ|refine AU (hO) ?_)<;>conv=>whnf
   refine GV (λ k=>n-k) (λ(k:Nat)=>k<=n) (λ k=>[(7,.int .i64 k)]) (λ k=>[(6+1000000,6,.bx (eQ (B4 (rr.take k) ((GI a j).take k))))]) [] [] 0 (by rw[show B4 (rr.take 0) ((GI a j).take 0)=0 from rfl];exact w_) D' ?_;intro k t1 kh;by_cases pc:k<n
   ·obtain ⟨xw,ka⟩:=X_ ow k
    obtain ⟨sw,Og⟩:=X_ aw k;have jn:=An k sw Og;have Gf:=hs.at jn;rw[Wa]at Gf;obtain ⟨yw,Ex⟩:=X_ sw j;have hx:=Ip k xw ka;have hy:(sw.map BI.v)[j]? = some yw.v:=by rw[Wb,Ex];rfl
    have ni:ow[(k:Int).toNat]? = some xw:=ka;have Cd:aw[(k:Int).toNat]? = some sw:=Og;have Cy:sw[((j:Nat):Int).toNat]? = some yw:=Ex;have hcy:=AcW jn hy;have hM:=aQ N.toa8 (Ct.at ka).2 ((hf.ar Og).at Ex).2 (Ub _) (Ub _);have hd:Bt (4*(kk+kk+1)) (B4 (rr.take k) ((GI a j).take k)):=((ri.take k).dot ((Ms.col ha j).take k)).le (zR _ V_);have hA:=Y6 N.toa8 hd ((ri.at hx).mul ((ha.at jn).at hy)) D' D';rw[<-fD hx hcy]at hA;generalize B4 (rr.take k) ((GI a j).take k)=w at *;generalize xw.v*yw.v=p at *;repeat' (first|(apply A7<;>intro hc<;>try omega)|(apply B5;omega)|apply BW|(refine CU G' ?_ rfl ?_;omega)|apply AQ|refine AU (hM) ?_|refine AU (hA) ?_)<;>conv=>whnf
    exact DB [] (kh (k+1) D' D')
   have ek:k=n:=D'
   clear kh;rw[ek,aL ff];generalize B4 rr (GI a j)=y0 at *;repeat' (first|(apply A7<;>intro hc<;>try omega)|(apply CB;omega)|apply BW|apply AQ)<;>conv=>whnf
   refine dY D' D' ?_;conv=>whnf
   (repeat' (apply HL<;>conv=>whnf))
   refine YS D' D' ?_;conv=>whnf
   refine H9 (enc:=eQ) y0 rfl (by rw[Wa]) rfl D' D' ?_;intro s' v;rw[<-Aj,Oi];conv=>whnf
   repeat' (first|(apply CB;omega)|fail)<;>conv=>whnf
   refine CB ⟨rfl,by rw[Wa];omega⟩ ?_;refine iW (i:=i) D' (by rw[yc,yc];omega) ?_;rw[show 0+((i:Int)).toNat=i by omega,Dd,Dd];conv=>whnf
   repeat' (first|(apply B5;omega)|fail)<;>conv=>whnf
   exact DB [] (jh (j+1) D' D')
  have ej:j=n:=D'
  clear jh;rw[ej,zT D',m4];repeat' (first|(apply A7<;>intro hc<;>try omega)|(apply B5;omega)|apply BW|apply AQ)<;>conv=>whnf
  exact DB [] (ih (i+1) D' D')
 have ei:i=n:=D'
 clear ih;rw[ei,Xk D'];repeat' (first|(apply A7<;>intro hc<;>try omega)|apply BW|apply AQ)<;>conv=>whnf
 refine RY (λ_=>rfl) rfl D' ?_;conv=>whnf
 exact B1 rfl (AcI Q)
theorem AoD (N:fg L) (q q':Bool) (a:Y_) (n kk:Nat) (hs:Sq n a) (ha:Ms kk a) (hn:n<=4) (hk:kk<=100000000000):Ev L 313 [.sl q (L6 q' a)] (.sl false (eM (LF a a n))):=by
 have:=Aeb N q q' (wM a) n kk (by rw[Z3];exact hs) (FQ.of ha D') hn hk
 rwa [rP,Z3]at this
theorem Asr {n k:Nat} {a:Y_} (hs:Sq n a) (ha:Ms k a) (hn:n<=4) (hk:k<=33554432) (i:Nat) (hi:i<=7):Ms 73100000000 (EU n a i):=by
 obtain ⟨D,_,d1,d2,d3⟩:=AgE hs ha;have hnn:n*n<=4*4:=Ab hn hn;have Wj:n*n*k<=16*k:=zR k hnn;have hw:=uN hs hn d3 i;have hwk:=AhT (k:=k) i hi;have h2:2^i<=2^7:=Eb D' hi;have hdd:D^2^i<=2^(2^i*(16*k)):=by
  have h3:D<=2^(16*k):=uc d2 (Eb D' Wj);have:=We h3 (2^i)
  rwa [<-Qf,Le]at this
 have h4:2^i*(16*k)<=73100000000:=uc (zR (16*k) h2) D';have h5:I1 k i<=73100000000:=D'
 intro r hr x hx;generalize 73100000000=K at *;refine wD (S:=D^2^i) (ph d1) (uc hdd (Eb D' h4)) ?_;have:=hw (r.map (· * G4 (D:Rat) i)) (Hb.2 ⟨r,hr,rfl⟩) _ (Hb.2 ⟨x,hx,rfl⟩)
 rw[Add]at this;exact this.le h5
theorem AoB (N:fg L) (q q':Bool) (aw:List (List BI)) (a:Y_) (ax:vM aw=a) (n k:Nat) (hs:Sq n a) (hf:FQ k aw) (hn:n<=4) (hk:k<=33554432) :
  ∃ v,Ev L 314 [.sl q (FW q' aw)] v/\((∃ i,i<=6/\VW n a i/\v = .e9 [.int .i64 ((2^i:Nat):Int),.int .i64 0])\/((∀ j,j<=6->HP (EU n a j)=false)/\v = .e9 [.int .i64 0,.int .i64 14])):=by
 have ig:=hs.l;have ha:Ms k a:=ax ▸ hf.ms;have Bw:aw.length=n:=by rw[<-ig,<-ax,vM,Wa]
 have An : ∀ (i:Nat) (r:List BI),aw[i]? = some r->a[i]? = some (r.map BI.v):=λ i r h=>ax ▸ J5 h
 have hq:=Aea N q q' aw D';rw[AgS.2 ⟨D',λ r hr=>by
  obtain ⟨i,hi⟩:=Oc hr;have:=hs.at (An i r hi)
  rw[Wa]at this;omega⟩]at hq
 have hZW:=λ(q q':Bool)=>Aeb N q q' aw n k (by rw[ax];exact hs) hf hn D'
 rw[ax]at hZW;have Jm:=λ q (r:List BI) (hr:r∈aw)=>Ad9 N q r k (hf r hr) (by
  obtain ⟨i,hi⟩:=Oc hr;have:=hs.at (An i r hi)
  rw[Wa]at this;omega) D'
 have hF:=rY N.toa8 1 2 D' D';have hb : ∀ i,i<=7->Ms 73100000000 (EU n a i):=λ i hi=>Asr hs ha hn hk i hi
 have hZ:=λ(i:Nat) (q q':Bool) (hi:i<=6)=>AoD N q q' (EU n a i) n 73100000000 (iG hs i) (hb i D') hn D'
 have hh:Bt 2 (Gb 1 2):=Bt.mk (k:=2) (z:=1) (d:=2) o_ o_;have hhe:Gb 1 2=1/2:=by decide +kernel
 have hC : ∀ i r,i<=6->r∈EU n a i->Ev L 127 [.agg (eQ (EM r)),.agg (eQ (Gb 1 2))] (.int .i64 (ah (EM r-1/2).num)):=λ i r hi hr=>by
  have hz:Bt (4*(73100000000+1)) (EM r):=(oQ (hb i D' r hr)).le (zR _ (by rw[(iG hs i).r r hr];exact hn));have:=yL N.toa8 hz hh D' D'
  rwa [hhe]at this ⊢
 refine Ev.xE N.QX rfl rfl ?_;repeat' (first|apply AQ|refine AU (hq) ?_)<;>conv=>whnf
 refine LJ (λ i _=>7-i) (λ(i:Nat) (fl:Bool)=>i<=7/\(fl=true->i=0) /\ ∀ j,j<i->HP (EU n a j)=false) (λ i fl=>[(4,.int .i64 ((2^i:Nat):Int)),(0,bif fl then .sl q (FW q' aw) else .sl false (eM (EU n a i)))]) (λ_ _=>[]) 0 true ⟨D',λ_=>rfl,λ j hj=>absurd hj D'⟩ ?_;intro i fl ⟨p1,p2,p3⟩ ih;by_cases h7:i=7
 ·have e7:((2^i:Nat):Int)=128:=by rw[h7];rfl
  rw[e7];have nn : ∀ j,j<=6->HP (EU n a j)=false:=λ j hj=>p3 j D'
  repeat' (first|(apply A7<;>intro hc<;>try omega)|apply AQ)<;>conv=>whnf
  exact ⟨_,B1 rfl (by simp [CI,ES]),Or.inr ⟨nn,rfl⟩⟩
 obtain ⟨g1,g2,g3⟩:=Ye (i:=i) D';have Qc:((2^(i+1):Nat):Int)=2*((2^i:Nat):Int):=by rw[ze];omega
 have Gf:=(iG hs i).l;have vh:HP (EU n a i)=true->VW n a i:=λ h=>⟨h,p3⟩
 have pf:HP (EU n a i)=false -> ∀ j,j<i+1->HP (EU n a j)=false:=λ h j hj=>by
  by_cases e:j=i
  ·rw[e];exact h
  ·exact p3 j D'
 have hCi:=λ r=>hC i r D'
 have hZi:=λ q q'=>hZ i q q' D'
 have hSz:=λ q r (hr:r∈EU n a i)=>AoC N q r 73100000000 (hb i D' r hr) (by rw[(iG hs i).r r hr];omega) D'
 have gm : ∀ r:AV,VW n a i->r = .e9 [.int .i64 ((2^i:Nat):Int),.int .i64 0]->((∃ i,i<=6/\VW n a i/\r = .e9 [.int .i64 ((2^i:Nat):Int),.int .i64 0])\/((∀ j,j<=6->HP (EU n a j)=false)/\r = .e9 [.int .i64 0,.int .i64 14])):=λ r h hr=>Or.inl ⟨i,D',h,hr⟩
 have z7 : ∀ (m:Nat) (r:Z_),(EU n a i)[m]? = some r->HP ((EU n a i).take (m+1))=(HP ((EU n a i).take m)&&decide (EM r<=1/2)):=λ m r hr=>by
  rw[YN hr,HP,HP,List.all_append];simp
 cases fl
 ·skip
  generalize 2^i=P at *;repeat' (first|(apply A7<;>intro hc<;>try omega)|apply AQ)<;>conv=>whnf
  refine LJ (λ m _=>n-m) (λ(m:Nat) (b:Bool)=>m<=n/\b=HP ((EU n a i).take m)) (λ m b=>[(6,.int .i64 m),(5,.bool b)]) (λ_ _=>[]) 0 true ⟨D',rfl⟩ ?_;intro m b ⟨r1,r2⟩ mh;by_cases hm:m<n
  ·obtain ⟨r,hr⟩:=X_ (EU n a i) m
   have nh:(EU n a i)[(m:Int).toNat]? = some r:=hr;have rh:=zM hr;have ht:=z7 m r hr;rw[<-r2]at ht;cases b
   ·repeat' (first|(apply A7<;>intro hc<;>try omega)|(apply B5;omega)|apply BW|apply AQ)<;>conv=>whnf
    exact DB [] (mh (m+1) false D' ⟨D',by rw[ht];rfl⟩)
   ·have Fp:=λ q=>hSz q r rh
    have wk:=hCi r rh;have hg:=Zy (x:=EM r) (y:=1/2);by_cases h:EM r<=1/2
    ·have h1 : ¬ 0<ah (EM r-1/2).num:=λ e=>by have:=hg.1 e;grind
     rw[decide_eq_true h]at ht;clear hg;generalize ah (EM r-1/2).num=g at *;repeat' (first|(apply A7<;>intro hc<;>try omega)|(apply B5;omega)|apply BW|(refine CU G' ?_ rfl ?_;omega)|apply AQ|refine AU (Fp _) ?_|refine AU (hF) ?_|refine AU (wk) ?_)<;>conv=>whnf
     exact DB [] (mh (m+1) true D' ⟨D',by rw[ht];rfl⟩)
    ·have h1:0<ah (EM r-1/2).num:=hg.2 v_
     rw[decide_eq_false h]at ht;clear hg;generalize ah (EM r-1/2).num=g at *;repeat' (first|(apply A7<;>intro hc<;>try omega)|(apply B5;omega)|apply BW|(refine CU G' ?_ rfl ?_;omega)|apply AQ|refine AU (Fp _) ?_|refine AU (hF) ?_|refine AU (wk) ?_)<;>conv=>whnf
     exact DB [] (mh (m+1) false D' ⟨D',by rw[ht];rfl⟩)
  have em:m=n:=D'
  clear mh;rw[em,zT D']at r2;cases b
  ·repeat' (first|(apply A7<;>intro hc<;>try omega)|(apply LN;omega)|apply BW|apply AQ|refine AU (hZi _ _) ?_)<;>conv=>whnf
   rw[<-Qc];exact DB [] (ih (i+1) false D' ⟨D',(λ h=>by cases h),pf r2.symm⟩)
  ·repeat' (first|(apply A7<;>intro hc<;>try omega)|apply BW|apply AQ)<;>conv=>whnf
   exact ⟨_,B1 rfl (by simp [CI,ES]),gm _ (vh r2.symm) rfl⟩
 ·obtain rfl:=p2 rfl
  have e0:EU n a 0=a:=rfl;rw[e0]at vh pf hCi hZi hSz z7 Gf;generalize 2^0=P at *;repeat' (first|(apply A7<;>intro hc<;>try omega)|apply AQ)<;>conv=>whnf
  refine LJ (λ m _=>n-m) (λ(m:Nat) (b:Bool)=>m<=n/\b=HP (a.take m)) (λ m b=>[(6,.int .i64 m),(5,.bool b)]) (λ_ _=>[]) 0 true ⟨D',rfl⟩ ?_;intro m b ⟨r1,r2⟩ mh;by_cases hm:m<n
  ·obtain ⟨r',rm⟩:=X_ aw m
   have nh:aw[(m:Int).toNat]? = some r':=rm;have hr:=An m r' rm;have rh:=zM hr;have Fp:=λ q=>Jm q r' (zM rm)
   generalize r'.map BI.v=r at *;have ht:=z7 m r hr;rw[<-r2]at ht;cases b
   ·repeat' (first|(apply A7<;>intro hc<;>try omega)|(apply B5;omega)|apply BW|apply AQ)<;>conv=>whnf
    exact DB [] (mh (m+1) false D' ⟨D',by rw[ht];rfl⟩)
   ·have wk:=hCi r rh
    have hg:=Zy (x:=EM r) (y:=1/2);by_cases h:EM r<=1/2
    ·have h1 : ¬ 0<ah (EM r-1/2).num:=λ e=>by have:=hg.1 e;grind
     rw[decide_eq_true h]at ht;clear hg;generalize ah (EM r-1/2).num=g at *;repeat' (first|(apply A7<;>intro hc<;>try omega)|(apply B5;omega)|apply BW|(refine CU G' ?_ rfl ?_;omega)|apply AQ|refine AU (Fp _) ?_|refine AU (hF) ?_|refine AU (wk) ?_)<;>conv=>whnf
     exact DB [] (mh (m+1) true D' ⟨D',by rw[ht];rfl⟩)
    ·have h1:0<ah (EM r-1/2).num:=hg.2 v_
     rw[decide_eq_false h]at ht;clear hg;generalize ah (EM r-1/2).num=g at *;repeat' (first|(apply A7<;>intro hc<;>try omega)|(apply B5;omega)|apply BW|(refine CU G' ?_ rfl ?_;omega)|apply AQ|refine AU (Fp _) ?_|refine AU (hF) ?_|refine AU (wk) ?_)<;>conv=>whnf
     exact DB [] (mh (m+1) false D' ⟨D',by rw[ht];rfl⟩)
  have em:m=n:=D'
  clear mh;rw[em,zT D']at r2;cases b
  ·repeat' (first|(apply A7<;>intro hc<;>try omega)|(apply LN;omega)|apply BW|apply AQ|refine AU (hZW _ _) ?_)<;>conv=>whnf
   rw[<-Qc];exact DB [] (ih (0+1) false D' ⟨D',(λ h=>by cases h),pf r2.symm⟩)
  ·repeat' (first|(apply A7<;>intro hc<;>try omega)|apply BW|apply AQ)<;>conv=>whnf
   exact ⟨_,B1 rfl (by simp [CI,ES]),gm _ (vh r2.symm) rfl⟩
theorem Aof (N:di L) (q q':Bool) (aw:List (List BI)) (a:Y_) (ax:vM aw=a) (n k:Nat) (hs:Sq n a) (hf:FQ k aw) (hn:n<=4) (hk:k<=33554432) :
  ∃ v,Ev L 303 [.sl q (FW q' aw)] v/\((∃ i,i<=6/\VW n a i/\v = .e9 [.agg (aN false (FX (FO a.flatten) a) (FO a.flatten) ((2^i:Nat):Int) (FO a.flatten^(2^i+2^i-1))),.int .i64 0]) \/
   ((∀ j,j<=6->HP (EU n a j)=false)/\v = .e9 [.agg [.sl false [],.bool false,.sl false [],.sl false [],.int .i64 0,.bool false,.sl false [],.sl false []],.int .i64 14])):=by
 have ig:=hs.l;have ha:Ms k a:=ax ▸ hf.ms;have Bw:aw.length=n:=by rw[<-ig,<-ax,vM,Wa]
 have An : ∀ (i:Nat) (r:List BI),aw[i]? = some r->a[i]? = some (r.map BI.v):=λ i r h=>ax ▸ J5 h
 have hnn:n*n<=4*4:=Ab hn hn;have Wj:n*n*k<=16*k:=zR k hnn;have jk:a.flatten.length<=64:=by
  have : ∀ (a:Y_),(∀ r∈a,r.length=n)->a.flatten.length=a.length*n:=by
   intro a;induction a with
   | nil=>intro _;simp
   | cons r a ih =>
    intro h;rw[List.flatten_cons,oc,ih λ x hx=>h x (ec _ hx),h r Sc,gg,Re,Kg]
  rw[this a hs.r,ig];omega
 have Lf:=An8 N q q' aw k hf (by rw[ax];exact jk) D' D';rw[ax]at Lf;clear ax;have hO:=QL N.toa7 1 D';rw[show ((1:Int):Rat)=1 from rfl]at hO;obtain ⟨D0,eD,d1,d2,d3⟩:=AgE hs ha;have hDb:Bt (16*k) (D0:Rat):=AqZ (uc d2 (Eb D' Wj));have hDp:(0:Rat)<(D0:Rat):=Aq0 d1;have hDN:=xQ (uc d2 (Eb D' Wj));have hRW:=uN hs hn d3;rw[eD]at Lf ⊢;generalize (D0:Rat)=D at *;clear eD d1 d2 d3;have Lq:(FX D a).length=n:=by rw[AgA];exact ig
 have AtK : ∀ (i:Nat) (r:Z_),a[i]? = some r->(FX D a)[i]? = some (r.map (· * D)):=λ i r hr=>Asc hr
 have mr : ∀ i,Sq n (FX (G4 D i) (EU n a i)):=λ i=>Asd _ (iG hs i)
 have Af : ∀ i,i<=6->Ms 73100000000 (FX (G4 D i) (EU n a i)):=λ i hi r hr x hx=>((hRW i r hr x hx).le (by have:=AhT (k:=k) i D';omega)).bt
 have ik : ∀ i,i<=6->Bt 73100000000 (G4 D i):=λ i hi=>((hDN i).le (by
  have:=(Ye hi).1
  have:=zR (16*k) this
  omega)).bt
 have hCt:=λ(i:Nat) (q q':Bool) (hi:i<=6)=>An9 N q q' (FX (G4 D i) (EU n a i)) (G4 D i) n 73100000000 73100000000 (mr i) (Af i hi) (ik i hi) D' D' D'
 have Ry:=λ(i:Nat) (q q':Bool) (hi:i<=6)=>Aoe N q q' (FX (G4 D i) (EU n a i)) n 73100000000 (mr i) (Af i hi) hn D'
 have hMD:=λ(i:Nat) (hi:i<=6)=>R6 N.toa7 (ik i hi) (ik i hi) D' D'
 have m4 : ∀ i,LF (FX (G4 D i) (EU n a i)) (FX (G4 D i) (EU n a i)) n=FX (G4 D (i+1)) (EU n a (i+1)):=λ i=>AgT n a D i
 have hci : ∀ i,(∀ r∈FX (G4 D i) (EU n a i),EM r+EM r<=G4 D i)↔HP (EU n a i)=true:=λ i=>AlE hDp
 have hLs:=λ(j:Nat) (hj:j<=128)=>R6 N.toa7 (Af1 hDb j) hDb (show j*(16*k)<2199023255552 by
  have:=zR (16*k) hj
  omega) D'
 have Si : ∀ (i:Nat) (q q':Bool),i<=6->Ev L 302 [.sl q (L6 q' (FX (G4 D i) (EU n a i))),.agg (eQ (G4 D i))] (.bool (HP (EU n a i))):=λ i q q' hi=>by
  have:=hCt i q q' hi
  rwa [show decide (∀ r∈FX (G4 D i) (EU n a i),EM r+EM r<=G4 D i)=HP (EU n a i) by rw[Bool.eq_iff_iff,decide_eq_true_iff];exact hci i]at this
 have Rx : ∀ (i:Nat) (q q':Bool),i<=6->Ev L 299 [.sl q (L6 q' (FX (G4 D i) (EU n a i)))] (.sl false (eM (FX (G4 D (i+1)) (EU n a (i+1))))):=λ i q q' hi=>by
  have:=Ry i q q' hi
  rwa [m4]at this
 have fr : ∀ i,i<=6->Ev L 99 [.agg (eQ (G4 D i)),.agg (eQ (G4 D i))] (.agg (eQ (G4 D (i+1)))):=hMD;have hL2 : ∀ j:Nat,j<=128->Ev L 99 [.agg (eQ (D^j)),.agg (eQ D)] (.agg (eQ (D^(j+1)))):=λ j hj=>by
  have:=hLs j hj
  rwa [<-Rat.pow_succ]at this
 have hC0 : ∀ q q':Bool,Ev L 302 [.sl q (L6 q' (FX D a)),.agg (eQ D)] (.bool (HP (EU n a 0))):=λ q q'=>Si 0 q q' D'
 have Ll : ∀ q q':Bool,Ev L 299 [.sl q (L6 q' (FX D a))] (.sl false (eM (FX (G4 D 1) (EU n a 1)))):=λ q q'=>Rx 0 q q' D'
 have Rm:Ev L 99 [.agg (eQ D),.agg (eQ D)] (.agg (eQ (G4 D 1))):=fr 0 D';clear hCt Ry hMD hLs m4 hci Af ik mr hRW hDN;refine Ev.xE N.QQ rfl rfl ?_;by_cases h0:n=0
 ·obtain rfl:a=[]:=td.1 D'
  obtain rfl:aw=[]:=td.1 D';have hb:HP (EU n [] 0)=true:=rfl;have wk:=hC0 false false;rw[hb]at wk;have Vn:Ev L 302 [.sl false [],.agg (eQ D)] (.bool true):=wk;have Vq:=hL2 0 D';rw[qf]at Vq;repeat' (first|apply BW|apply AQ|refine AU (Lf) ?_|refine AU (hO) ?_)<;>conv=>whnf
  refine QH ?_;repeat' (first|(apply A7<;>intro hc<;>try omega)|apply AQ)<;>conv=>whnf
  refine QH ?_;repeat' (first|(apply EP;omega)|(apply LN;omega)|apply AQ|refine AU (Vn) ?_)<;>conv=>whnf
  refine QH ?_;repeat' (first|(apply A7<;>intro hc<;>try omega)|(apply B5;omega)|apply AQ|refine AU (Vq) ?_)<;>conv=>whnf
  refine QH ?_;repeat' (first|(apply A7<;>intro hc<;>try omega)|apply AQ)<;>conv=>whnf
  refine ⟨.e9 [.agg (aN false [] D 1 (D^1)),.int .i64 0],?_,Or.inl ⟨0,D',⟨rfl,λ j hj=>absurd hj D'⟩,rfl⟩⟩;exact B1 rfl (wJ [] D 1 (D^1) 0)
 repeat' (first|apply BW|apply AQ|refine AU (Lf) ?_|refine AU (hO) ?_)<;>conv=>whnf
 refine LJ (λ i _=>n-i) (λ(i:Nat) (fl:Bool)=>i<=n/\fl=decide (i=0)) (λ i _=>[(15,.int .i64 i)]) (λ i fl=>bif fl then [] else [(4,4,.bx ([.row 1000 0 1 0 i]++eQ D++[.int .i64 1]++eQ 1)),(1000,26,.rw 1 (((FX D a).take i).map λ r=>[AV.sl false (r.map eQ)]))]) 0 true ⟨D',rfl⟩ ?_;intro i fl ⟨p1,p2⟩ ih;have ff:((FX D a).take i).length=i:=by rw[Sa];omega
 by_cases hi:i<n
 ·obtain ⟨r,rm⟩:=X_ aw i
  have nh:aw[(i:Int).toNat]? = some r:=rm;have hr:=An i r rm;have ku:=hs.at hr;rw[Wa]at ku;have hTm:=λ q=>Aog N q r D k (16*k) (hf.ar rm) hDb D' D'
  have je:=AtK i _ hr;generalize (r.map BI.v).map (· * D)=w at *;cases fl
  ·have Bm:i≠0:=by simpa using p2.symm
   repeat' (first|(apply A7<;>intro hc<;>try omega)|(refine CU G' ?_ rfl ?_;omega)|apply HL|apply AQ|refine AU (hTm _) ?_)<;>conv=>whnf
   refine H9 (l:=(FX D a).take i) (z:=1) (bytes:=24) (enc:=λ r:Z_=>[AV.sl false (r.map eQ)]) w rfl ff.symm rfl D' D' ?_;conv=>whnf
   repeat' (first|(apply B5;omega)|fail)<;>conv=>whnf
   rw[<-YN je,show ((FX D a).take (i+1)).length=i+1 by rw[Sa];omega];exact DB [(1000,26)] (ih (i+1) false D' ⟨D',p_⟩)
  ·have Bm:i=0:=by simpa using p2.symm
   subst Bm;repeat' (first|(apply A7<;>intro hc<;>try omega)|(refine CU G' ?_ rfl ?_;omega)|apply HL|apply AQ|refine AU (hTm _) ?_)<;>conv=>whnf
   refine pM (enc:=λ r:Z_=>[AV.sl false (r.map eQ)]) w rfl rfl D' ?_;conv=>whnf
   repeat' (first|(apply B5;omega)|fail)<;>conv=>whnf
   rw[show [w]=(FX D a).take (0+1) by rw[YN je];rfl];exact DB [(1000,26)] (ih 1 false D' ⟨D',p_⟩)
 have ei:i=n:=D'
 obtain rfl:fl=false:=by rw[p2];simp;omega
 clear ih p2 ff;rw[ei,zT D'];repeat' (first|(apply A7<;>intro hc<;>try omega)|apply AQ)<;>conv=>whnf
 refine LJ (λ i _=>7-i) (λ(i:Nat) (fl:Bool)=>i<=6/\(fl=true->i=0) /\ ∀ j,j<i->HP (EU n a j)=false) (λ i fl=>[(7,bif fl then .row 1000 0 1 0 n else .sl false (eM (FX (G4 D i) (EU n a i))))]) (λ i _=>[(8,8,.bx (eQ (G4 D i))),(4,4,.bx ([.row 1000 0 1 0 n]++eQ D++[.int .i64 ((2^i:Nat):Int)]++eQ 1))]) 0 true ⟨D',λ_=>rfl,λ j hj=>absurd hj D'⟩ ?_;intro i fl ⟨s1,s2,s3⟩ jh;obtain ⟨g1,g2,g3⟩:=Ye s1;have Qc:((2^(i+1):Nat):Int)=((2^i:Nat):Int)*2:=by rw[ze];omega
 have Sk:=λ q q'=>Si i q q' s1
 have hsi:=λ q q'=>Rx i q q' s1
 have hmi:=fr i s1;cases hb:HP (EU n a i)
 ·rw[hb]at Sk
  by_cases h6:i=6
  ·have e64:((2^i:Nat):Int)=64:=by rw[h6];rfl
   have nn : ∀ j,j<=6->HP (EU n a j)=false:=λ j hj=>by
    by_cases h:j=6
    ·rw[h,<-h6];exact hb
    ·exact s3 j D'
   cases fl
   ·rw[e64]
    repeat' (first|(apply A7<;>intro hc<;>try omega)|apply AQ|refine AU (Sk _ _) ?_)<;>conv=>whnf
    exact ⟨_,B1 rfl (by simp [CI,ES,J6]),Or.inr ⟨nn,rfl⟩⟩
   ·exact absurd (s2 rfl) D'
  ·have ANF:((2^i:Nat):Int)≠64:=λ e=>h6 (g2 D')
   have pf : ∀ j,j<i+1->HP (EU n a j)=false:=λ j hj=>by
    by_cases h:j=i
    ·rw[h];exact hb
    ·exact s3 j D'
   cases fl
   ·generalize 2^i=P at *
    repeat' (first|(apply A7<;>intro hc<;>try omega)|(apply LN;omega)|apply AQ|refine AU (Sk _ _) ?_|refine AU (hsi _ _) ?_|refine AU (hmi) ?_)<;>conv=>whnf
    rw[<-Qc];exact DB [] (jh (i+1) false D' ⟨D',(λ h=>by cases h),pf⟩)
   ·obtain rfl:=s2 rfl
    have wk:=hC0;rw[hb]at wk;generalize 2^0=P at *;(repeat' (apply AQ<;>conv=>whnf))
    refine G9 (enc:=λ r:Z_=>[AV.sl false (r.map eQ)]) (λ_=>rfl) rfl Lq.symm ?_;conv=>whnf
    repeat' (first|(apply A7<;>intro hc<;>try omega)|refine AU (wk _ _) ?_)<;>conv=>whnf
    refine G9 (enc:=λ r:Z_=>[AV.sl false (r.map eQ)]) (λ_=>rfl) rfl Lq.symm ?_;conv=>whnf
    repeat' (first|(apply LN;omega)|refine AU (Ll _ _) ?_|refine AU (Rm) ?_)<;>conv=>whnf
    rw[<-Qc];exact DB [] (jh (0+1) false D' ⟨D',(λ h=>by cases h),pf⟩)
 ·rw[hb]at Sk
  have vh:VW n a i:=⟨hb,s3⟩;have gm : ∀ r:AV,r = .e9 [.agg (aN false (FX D a) D ((2^i:Nat):Int) (D^(2^i+2^i-1))),.int .i64 0]->((∃ i,i<=6/\VW n a i/\r = .e9 [.agg (aN false (FX D a) D ((2^i:Nat):Int) (D^(2^i+2^i-1))),.int .i64 0])\/((∀ j,j<=6->HP (EU n a j)=false)/\r = .e9 [.agg [.sl false [],.bool false,.sl false [],.sl false [],.int .i64 0,.bool false,.sl false [],.sl false []],.int .i64 14])):=λ r hr=>Or.inl ⟨i,s1,vh,hr⟩
  clear Qc jh;generalize 2^i=P at *;cases fl
  ·repeat' (first|(apply EP;omega)|(apply LN;omega)|apply AQ|refine AU (Sk _ _) ?_)<;>conv=>whnf
   refine GV (λ j=>P+P-1-j) (λ(j:Nat)=>j<=P+P-1) (λ j=>[(54,.int .i64 j)]) (λ j=>[(4,4,.bx ([.row 1000 0 1 0 n]++eQ D++[.int .i64 (P:Int)]++eQ (D^j)))]) [] [] 0 (by rw[qf];exact w_) D' ?_;intro j t1 kh;by_cases hj:j<P+P-1
   ·have hl:=hL2 j D'
    repeat' (first|(apply A7<;>intro hc<;>try omega)|(apply B5;omega)|apply AQ|refine AU (hl) ?_)<;>conv=>whnf
    exact DB [] (kh (j+1) D' D')
   have ej:j=P+P-1:=D'
   clear kh;rw[ej];repeat' (first|(apply A7<;>intro hc<;>try omega)|apply AQ)<;>conv=>whnf
   refine ⟨.e9 [.agg (aN false (FX D a) D (P:Int) (D^(P+P-1))),.int .i64 0],?_,gm _ rfl⟩;conv=>whnf
   refine G9 (enc:=λ r:Z_=>[AV.sl false (r.map eQ)]) (λ_=>rfl) rfl Lq.symm ?_;conv=>whnf
   exact B1 rfl (wJ _ _ _ _ 0)
  ·obtain rfl:=s2 rfl
   have wk:=hC0;rw[hb]at wk;(repeat' (apply AQ<;>conv=>whnf))
   refine G9 (enc:=λ r:Z_=>[AV.sl false (r.map eQ)]) (λ_=>rfl) rfl Lq.symm ?_;conv=>whnf
   repeat' (first|(apply EP;omega)|(apply LN;omega)|refine AU (wk _ _) ?_)<;>conv=>whnf
   refine GV (λ j=>P+P-1-j) (λ(j:Nat)=>j<=P+P-1) (λ j=>[(54,.int .i64 j)]) (λ j=>[(4,4,.bx ([.row 1000 0 1 0 n]++eQ D++[.int .i64 (P:Int)]++eQ (D^j)))]) [] [] 0 (by rw[qf];exact w_) D' ?_;intro j t1 kh;by_cases hj:j<P+P-1
   ·have hl:=hL2 j D'
    repeat' (first|(apply A7<;>intro hc<;>try omega)|(apply B5;omega)|apply AQ|refine AU (hl) ?_)<;>conv=>whnf
    exact DB [] (kh (j+1) D' D')
   have ej:j=P+P-1:=D'
   clear kh;rw[ej];repeat' (first|(apply A7<;>intro hc<;>try omega)|apply AQ)<;>conv=>whnf
   refine ⟨.e9 [.agg (aN false (FX D a) D (P:Int) (D^(P+P-1))),.int .i64 0],?_,gm _ rfl⟩;conv=>whnf
   refine G9 (enc:=λ r:Z_=>[AV.sl false (r.map eQ)]) (λ_=>rfl) rfl Lq.symm ?_;conv=>whnf
   exact B1 rfl (wJ _ _ _ _ 0)
theorem Aod (N:di L) (q q':Bool) (aw:List (List BI)) (a:Y_) (ax:vM aw=a) (n k:Nat) (hs:Sq n a) (hf:FQ k aw) (hn:n<=4) (hk:k<=33554432) :
  ∃ v,Ev L 306 [.sl q (FW q' aw)] v/\((∃ i,i<=6/\VW n a i/\v = .e9 [.int .i64 ((2^i:Nat):Int),.int .i64 0])\/((∀ j,j<=6->HP (EU n a j)=false)/\v = .e9 [.int .i64 0,.int .i64 14])):=by
 have ig:=hs.l;have Bw:aw.length=n:=by rw[<-ig,<-ax,vM,Wa]
 have An : ∀ (i:Nat) (r:List BI),aw[i]? = some r->a[i]? = some (r.map BI.v):=λ i r h=>ax ▸ J5 h
 obtain ⟨v,hS,hv⟩:=Aof N q q' aw a ax n k hs hf hn hk;refine Ev.xE N.XP rfl rfl ?_;repeat' (first|(apply A7<;>intro hc<;>try omega)|apply BW|apply AQ)<;>conv=>whnf
 refine FP (λ i=>n-i) (λ(i:Nat)=>i<=n) (λ i=>[(13,.int .i64 i)]) (λ_=>[]) 0 D' ?_;intro i p1 ih;by_cases hi:i<n
 ·obtain ⟨r,hr⟩:=X_ aw i
  have nh:aw[(i:Int).toNat]? = some r:=hr;have ff:=hs.at (An i r hr);rw[Wa]at ff;repeat' (first|(apply A7<;>intro hc<;>try omega)|(apply B5;omega)|apply BW|(refine CU G' ?_ rfl ?_;omega)|apply AQ)<;>conv=>whnf
  exact DB [] (ih (i+1) D' D')
 have ei:i=n:=D'
 clear ih;rcases hv with ⟨t,h1,h2,rfl⟩|⟨h1,rfl⟩
 ·repeat' (first|(apply A7<;>intro hc<;>try omega)|apply AQ|refine AU (hS) ?_)<;>conv=>whnf
  exact ⟨_,B1 rfl (by simp [CI,ES]),Or.inl ⟨t,h1,h2,rfl⟩⟩
 ·repeat' (first|(apply A7<;>intro hc<;>try omega)|apply AQ|refine AU (hS) ?_)<;>conv=>whnf
  exact ⟨_,B1 rfl (by simp [CI,ES]),Or.inr ⟨h1,rfl⟩⟩
end Go.j4
namespace Go.j4
open F
attribute [local irreducible] AJ A5 BZ A0 FH B2 C6 C9 EO EC E0 HH D6 CT EJ E3 AM CZ BH pw EF DP FF FR F5 F7 E6 DQ GN
attribute [local irreducible] WM
variable {L:Lib}
set_option maxRecDepth 8000
theorem AoW {M:List (List (Option Rat))} {i j:Nat} {x:Rat} {r s:List (Option Rat)} (hr:M[i]? = some r) (hs:(M.set i (r.set j (some x)))[j]? = some s):fR M i j x=(M.set i (r.set j (some x))).set j (s.set i (some x)):=by
 have h1:M.getD i []=r:=by rw[jb,hr];rfl
 have h2:(M.set i (r.set j (some x))).getD j []=s:=by rw[jb,hs];rfl
 rw[fR,h1,h2]
theorem Aer {X:Z_} {n:Nat} : ∀ u,u<=(CW n n).length->(V3 X n u).length=n /\ ∀ r∈V3 X n u,r.length=n
 | 0,_=>⟨by simp [V3],λ r hr=>by rw[De hr];simp⟩
 | u+1,h=>by
  have ih:=Aer (X:=X) (n:=n) u D';obtain ⟨⟨i,j⟩,lu⟩:=X_ (CW n n) u;obtain ⟨g1,g2,g3⟩:=tN lu;have e:(CW n n).getD u (0,0)=(i,j):=by rw[jb,lu];rfl
  rw[V3,e];exact AoX ih g1 g2
theorem AoV {X:Z_} {n u i j:Nat} {x:Rat} (lu:(CW n n)[u]? = some (i,j)) (hx:X[u]? = some x):fR (V3 X n u) i j x=V3 X n (u+1):=by
 rw[V3,show (CW n n).getD u (0,0)=(i,j) by rw[jb,lu];rfl,show X.getD u 0=x by rw[jb,hx];rfl]
theorem AqV (m:Y_):DD 3 eO (m.map (·.map some))=DD 3 eQ m:=by
 rw[DD,DD,Vd];refine Nf λ r _ => ?_
 show some (3,(r.map some).map eO)=_;rw[Vd];rfl
structure vI (A:Y_) (B:Z_) (n k:Nat):Prop where
 sq:Sq n A
 lb:B.length=n
 ba:Ms k A
 bb:Bs k B
 mb:Ms 180 (gM A n)
 rb:Bs 180 (gR B n)
 sc : ∀ r∈GT (gM A n) ((gR B n).map λ x=>[x]),∀ j,Bt 180 (FO (r.take j))
 wh:Ms 180 (whole (GT (gM A n) ((gR B n).map λ x=>[x])))
 qs:NS (CW n n).length (gM A n) -> ∀ X:Z_,NI A B X n->Bs 380000 X
theorem Ad2 (N:w8 L) (q1 q2 q3:Bool) (A:List (List BI)) (b:List BI) (n:Nat) (hA:A.length=n) (hn:n<=4):Ev L 321 [.agg [.sl q1 (FW q2 A),.sl q3 (b.map eW)]] (.sl false ((CW n n).map aO)):=by
 have hlen:=tO hn;refine Ev.x N.SZ rfl rfl ?_;repeat' (first|apply BW|apply AQ)<;>conv=>whnf
 refine FP (λ i=>n-i) (λ(i:Nat)=>i<=n) (λ i=>[(9,.int .i64 i),(3,.row 3 0 2 0 (CW n i).length)]) (λ i=>[(3,3,.rw 2 ((CW n i).map aO))]) 0 D' ?_;intro i p1 ih;have hmi:=tP n (i:=i) (n-i);rw[show i+(n-i)=n by omega]at hmi;by_cases hi:i<n
 ·have hS:=AfX hi
  have Nl:=tP n (i:=i+1) (n-(i+1));rw[show i+1+(n-(i+1))=n by omega]at Nl;repeat' (first|(apply A7<;>intro hc<;>try omega)|apply AQ)<;>conv=>whnf
  refine GV (λ t=>n-i-t) (λ(t:Nat)=>t<=n-i) (λ t=>[(5,.int .i64 ((i+t:Nat):Int)),(3,.row 3 0 2 0 ((CW n i).length+t))]) (λ t=>[(3,3,.rw 2 ((CW n i++GU i t).map aO))]) [] [] 0 (by first|exact w_|(rw[show GU i 0=[] from rfl,xd];exact w_)) D' ?_;intro t p2 th;by_cases ht:t<n-i
  ·have Kf:=AfZ i t
   have lv:(CW n i++GU i t).length=(CW n i).length+t:=by rw[oc,kJ]
   have Cn:CW n i++GU i (t+1)=(CW n i++GU i t)++[(i,i+t)]:=by rw[Kf,lg]
   generalize CW n i++GU i t=R0 at *;repeat' (first|(apply A7<;>intro hc<;>try omega)|apply BW|apply HL|apply AQ)<;>conv=>whnf
   refine H9 (enc:=aO) (i,i+t) rfl D' rfl D' D' ?_;conv=>whnf
   rw[<-Cn,show (CW n i++GU i (t+1)).length=(CW n i).length+(t+1) by rw[oc,kJ]];repeat' (first|(apply B5;omega)|fail)<;>conv=>whnf
   exact DB [(3,25)] (th (t+1) D' D')
  ·have et:t=n-i:=D'
   clear th;have e1:CW n i++GU i t=CW n (i+1):=by rw[et];rfl
   have e2:(CW n i).length+t=(CW n (i+1)).length:=by rw[hS,et]
   rw[e1,e2];repeat' (first|(apply A7<;>intro hc<;>try omega)|(apply B5;omega)|apply BW|apply AQ)<;>conv=>whnf
   exact DB [] (ih (i+1) D' D')
 ·obtain rfl:i=n:=D'
  clear ih;repeat' (first|(apply A7<;>intro hc<;>try omega)|(refine G9 (λ_=>rfl) rfl ?_ ?_;(first|rfl|simp))|apply AQ)<;>conv=>whnf
  exact B1 rfl (by simp only[CI];exact ⟨trivial,AkX _⟩)
theorem oN {aw:List (List BI)} {n i k:Nat} (hA:Sq n (vM aw)) (hf:FQ k aw) (hi:i<n) : ∃ r,aw[i]? = some r/\r.length=n /\ ∀ j,j<n -> ∃ x:BI,r[j]? = some x/\x.v=CK (vM aw) i j/\x.Fit k:=by
 have ig:aw.length=n:=by rw[<-hA.l,vM,Wa]
 obtain ⟨r,hr⟩:=X_ aw i;have hv:=J5 hr;have hl:=hA.at hv;rw[Wa]at hl;refine ⟨r,hr,hl,λ j hj => ?_⟩;obtain ⟨x,hx⟩:=X_ r j;refine ⟨x,hx,?_,(hf.ar hr).at hx⟩;rw[OD hv,jb,lC hx];rfl
theorem jE {bw:List BI} {n i k:Nat} (hB:bw.length=n) (hf:Fs k bw) (hi:i<n) : ∃ x:BI,bw[i]? = some x/\x.v=bQ (bw.map BI.v) i/\x.Fit k:=by
 obtain ⟨x,hx⟩:=X_ bw i;refine ⟨x,hx,?_,hf.at hx⟩;rw[bQ,jb,lC hx];rfl
theorem AnM (N:w8 L) (q1 q2 q3:Bool) (aw:List (List BI)) (bw:List BI) (A:Y_) (B:Z_) (ax:vM aw=A) (fc:bw.map BI.v=B) (n k p1 p2:Nat) (hA:Sq n A) (hB:bw.length=n) (hf:FQ k aw) (hg:Fs k bw) (hk:k<=33554432) (hn:n<=4) (h1:p1<n) (h2:p2<n) :
  Ev L 322 [.agg [.sl q1 (FW q2 aw),.sl q3 (bw.map eW)],.agg (aO (p1,p2))] (.e9 [.sl false ((HC A n (p1,p2)).map eQ),.agg (eQ (bQ B p1*bQ B p2))]):=by
 have hlen:=tO hn;have Bw:aw.length=n:=by rw[<-hA.l,<-ax,vM,Wa]
 have hP:=λ q1 q2 q3=>Ad2 N q1 q2 q3 aw bw n Bw hn
 have xu:Ms k A:=ax ▸ hf.ms;obtain ⟨r1,du,rf,pq⟩:=oN (ax.symm ▸ hA) hf h1;obtain ⟨r2,il,lv,vf⟩:=oN (ax.symm ▸ hA) hf h2;rw[ax]at pq vf;have Ij:aw[((p1:Nat):Int).toNat]? = some r1:=du;have AuK:aw[((p2:Nat):Int).toNat]? = some r2:=il;obtain ⟨z1,nj,Ez,Ol⟩:=jE hB hg h1;obtain ⟨z2,ru,Fb,Om⟩:=jE hB hg h2;have Hl:bw[((p1:Nat):Int).toNat]? = some z1:=nj;have AtT:bw[((p2:Nat):Int).toNat]? = some z2:=ru;have Rn:=jO N.toa7 Ol.2 Om.2 (Ub _) (Ub _);rw[fc]at Ez Fb;rw[Ez,Fb]at Rn;clear ax fc;refine Ev.x N.XM rfl rfl ?_;repeat' (first|apply BW|apply AQ|refine AU (hP _ _ _) ?_)<;>conv=>whnf
 refine FP (λ u=>(CW n n).length-u) (λ(u:Nat)=>u<=(CW n n).length) (λ u=>[(13,.int .i64 u),(6,.row 6 0 3 0 u)]) (λ u=>[(6,6,.rw 3 (((HC A n (p1,p2)).take u).map eQ))]) 0 D' ?_;intro u u1 uh;have hgl:(HC A n (p1,p2)).length=(CW n n).length:=by simp [HC]
 by_cases hu:u<(CW n n).length
 ·obtain ⟨⟨i,j⟩,lu⟩:=X_ (CW n n) u hu
  have Td:(CW n n)[((u:Nat):Int).toNat]? = some (i,j):=lu;obtain ⟨g1,g2,g3⟩:=tN lu;have Ah:(HC A n (p1,p2))[u]? = some (gC A (p1,p2) (i,j)):=by rw[HC,Wb,lu];rfl
  have Kf:=iH Ah;have gp:((HC A n (p1,p2)).take u).length=u:=by rw[Sa];omega
  obtain ⟨w1,hw1,wv1,wf1⟩:=pq i g1;obtain ⟨w2,hw2,wv2,wf2⟩:=vf j g2;obtain ⟨w3,hw3,wv3,wf3⟩:=pq j g2;obtain ⟨w4,hw4,wv4,wf4⟩:=vf i g1;have a1:r1[((i:Nat):Int).toNat]? = some w1:=hw1;have a2:r2[((j:Nat):Int).toNat]? = some w2:=hw2;have a3:r1[((j:Nat):Int).toNat]? = some w3:=hw3;have a4:r2[((i:Nat):Int).toNat]? = some w4:=hw4;have b1:=I3 xu p1 i;have b2:=I3 xu p2 j;have b3:=I3 xu p1 j;have b4:=I3 xu p2 i;have m1:=jO N.toa7 wf1.2 wf2.2 (Ub _) (Ub _);rw[wv1,wv2]at m1;have n1:=AdZ N.toae (b1.mul b2) D';have c1:=(b1.mul b2).ngN;have Fz:gC A (p1,p2) (i,j)=if (i,j)=(p1,p2) then (if i=j then -(CK A p1 i*CK A p2 j) else -(CK A p1 i*CK A p2 j)-CK A p1 j*CK A p2 i)+1 else if i=j then -(CK A p1 i*CK A p2 j) else -(CK A p1 i*CK A p2 j)-CK A p1 j*CK A p2 i:=rfl
  generalize gC A (p1,p2) (i,j)=gc at *;generalize (HC A n (p1,p2)).take u=R0 at *;have hO:=QL N.toa7 1 D';by_cases hd:i=j
  ·rw[if_pos hd]at Fz
   have ad:=W3 N.toa7 c1 (Bt.one 0) D' D';by_cases he:(i,j)=(p1,p2)
   ·have Hp:decide ((i,j)=(p1,p2))=true:=decide_eq_true he
    rw[if_pos he]at Fz;repeat' (first|(apply A7<;>intro hc<;>try omega)|(refine CU G' ?_ rfl ?_;omega)|apply AQ|refine AU (m1) ?_|refine AU (n1) ?_)<;>conv=>whnf
    ·refine pK ?_
     rw[Hp];conv=>whnf
     repeat' (first|apply HL|refine AU (hO) ?_|refine AU (ad) ?_)<;>conv=>whnf
     refine H9 (enc:=eQ) _ rfl gp.symm rfl D' D' ?_;rw[<-Fz,<-Kf,show ((HC A n (p1,p2)).take (u+1)).length=u+1 by rw[Sa];omega];conv=>whnf
     repeat' (first|(apply B5;omega)|fail)<;>conv=>whnf
     exact DB [(6,76)] (uh (u+1) D' D')
   ·have Hp:decide ((i,j)=(p1,p2))=false:=decide_eq_false he
    rw[if_neg he]at Fz;repeat' (first|(apply A7<;>intro hc<;>try omega)|(refine CU G' ?_ rfl ?_;omega)|apply AQ|refine AU (m1) ?_|refine AU (n1) ?_)<;>conv=>whnf
    ·refine pK ?_
     rw[Hp];conv=>whnf
     (repeat' (apply HL<;>conv=>whnf))
     refine H9 (enc:=eQ) _ rfl gp.symm rfl D' D' ?_;rw[<-Fz,<-Kf,show ((HC A n (p1,p2)).take (u+1)).length=u+1 by rw[Sa];omega];conv=>whnf
     repeat' (first|(apply B5;omega)|fail)<;>conv=>whnf
     exact DB [(6,76)] (uh (u+1) D' D')
  ·rw[if_neg hd]at Fz
   have m2:=jO N.toa7 wf3.2 wf4.2 (Ub _) (Ub _);rw[wv3,wv4]at m2;have s2:=sB N.toer c1 (b3.mul b4) D' D';have ad:=W3 N.toa7 (c1.yo (b3.mul b4)) (Bt.one 0) D' D';by_cases he:(i,j)=(p1,p2)
   ·have Hp:decide ((i,j)=(p1,p2))=true:=decide_eq_true he
    rw[if_pos he]at Fz;repeat' (first|(apply A7<;>intro hc<;>try omega)|(refine CU G' ?_ rfl ?_;omega)|apply AQ|refine AU (m1) ?_|refine AU (n1) ?_|refine AU (m2) ?_|refine AU (s2) ?_)<;>conv=>whnf
    ·refine pK ?_
     rw[Hp];conv=>whnf
     repeat' (first|apply HL|refine AU (hO) ?_|refine AU (ad) ?_)<;>conv=>whnf
     refine H9 (enc:=eQ) _ rfl gp.symm rfl D' D' ?_;rw[<-Fz,<-Kf,show ((HC A n (p1,p2)).take (u+1)).length=u+1 by rw[Sa];omega];conv=>whnf
     repeat' (first|(apply B5;omega)|fail)<;>conv=>whnf
     exact DB [(6,76)] (uh (u+1) D' D')
   ·have Hp:decide ((i,j)=(p1,p2))=false:=decide_eq_false he
    rw[if_neg he]at Fz;repeat' (first|(apply A7<;>intro hc<;>try omega)|(refine CU G' ?_ rfl ?_;omega)|apply AQ|refine AU (m1) ?_|refine AU (n1) ?_|refine AU (m2) ?_|refine AU (s2) ?_)<;>conv=>whnf
    ·refine pK ?_
     rw[Hp];conv=>whnf
     (repeat' (apply HL<;>conv=>whnf))
     refine H9 (enc:=eQ) _ rfl gp.symm rfl D' D' ?_;rw[<-Fz,<-Kf,show ((HC A n (p1,p2)).take (u+1)).length=u+1 by rw[Sa];omega];conv=>whnf
     repeat' (first|(apply B5;omega)|fail)<;>conv=>whnf
     exact DB [(6,76)] (uh (u+1) D' D')
 ·have eu:u=(CW n n).length:=D'
  clear uh;rw[zT D'];repeat' (first|(apply A7<;>intro hc<;>try omega)|(refine CU G' ?_ rfl ?_;omega)|apply AQ|refine AU (Rn) ?_)<;>conv=>whnf
  refine G9 (enc:=eQ) (λ_=>rfl) rfl D' ?_;conv=>whnf
  refine B1 rfl ?_;simp only[CI,ES,and_true,true_and];exact ⟨OL _,EW _,EW _⟩
structure dW (A:Y_) (B:Z_) (n g s:Nat):Prop where
 mb:Ms g (gM A n)
 rb:Bs g (gR B n)
 sc : ∀ r∈GT (gM A n) ((gR B n).map λ x=>[x]),∀ j,Bt g (FO (r.take j))
 wh:Ms g (whole (GT (gM A n) ((gR B n).map λ x=>[x])))
 qs:NS (CW n n).length (gM A n) -> ∀ X:Z_,NI A B X n->Bs s X
 g1:1<=g
 hs:s<=1000000000000
 b1:6^(CW n n).length*g<=1000000000000
 b2:3*(6^(CW n n).length*g)+(CW n n).length*(2*(6^(CW n n).length*g)+s+1)<=1000000000000
theorem AnN (N:w8 L) (aw:List (List BI)) (bw:List BI) (A:Y_) (B:Z_) (ax:vM aw=A) (fc:bw.map BI.v=B) (n k g s:Nat) (Cu:Sq n A) (hB:bw.length=n) (hf:FQ k aw) (hg:Fs k bw) (h:dW A B n g s) (hk:k<=33554432) (hn:n<=4) (q1 q2 q3:Bool) :
  ∃ v,Ev L 323 [.agg [.sl q1 (FW q2 aw),.sl q3 (bw.map eW)]] v/\((¬ NS (CW n n).length (gM A n)/\v = .e9 [.sl false [],.int .i64 11])\/(NS (CW n n).length (gM A n) /\ ∃ X:Z_,NI A B X n/\Bs s X/\v = .e9 [.sl false (eM (kM X n)),.int .i64 0])):=by
 have hlen:=tO hn;have ig:aw.length=n:=by rw[<-Cu.l,<-ax,vM,Wa]
 have hP:=λ q1 q2 q3=>Ad2 N q1 q2 q3 aw bw n ig hn
 have hE:=λ q1 q2 q3 p1 p2 h1 h2=>AnM N q1 q2 q3 aw bw A B ax fc n k p1 p2 Cu hB hf hg hk hn h1 h2
 have jn:=h.hs;refine Ev.xE N.QP rfl rfl ?_;repeat' (first|apply BW|apply AQ)<;>conv=>whnf
 unfold F5;refine ⟨⟨D',D',by simp only[H8];omega,D'⟩,?_⟩;rw[Nc,ig];conv=>whnf
 skip
 refine GV (λ i=>n-i) (λ(i:Nat)=>i<=n) (λ i=>[(24,.int .i64 i)]) (λ i=>[(21,21,.mx (fz none ((DD 3 eO (Cb n (Cb n none))).take i) n))]) [] [] 0 (by first|exact w_|(rw[cd,show fz (none:b_) [] n=Cb n none by simp [fz]];exact w_)) D' ?_;intro i p1 ih;have gx:(DD 3 eO (Cb n (Cb n (none:Option Rat)))).length=n:=by simp [DD]
 have gp:((DD 3 eO (Cb n (Cb n (none:Option Rat)))).take i).length=i:=by rw[Sa];omega
 have jk:=nB (z:=(none:b_)) (l:=(DD 3 eO (Cb n (Cb n (none:Option Rat)))).take i) (m:=n) D';by_cases hi:i<n
 ·have pt:=nC (z:=(none:b_)) (x:=some (3,(Cb n (none:Option Rat)).map eO)) (l:=(DD 3 eO (Cb n (Cb n (none:Option Rat)))).take i) (m:=n) D'
  rw[gp,<-iH (show (DD 3 eO (Cb n (Cb n (none:Option Rat))))[i]? = some (some (3,(Cb n (none:Option Rat)).map eO)) by
   rw[DD,Wb,List.getElem?_replicate,if_pos hi];rfl)]at pt
  generalize fz (none:b_) ((DD 3 eO (Cb n (Cb n (none:Option Rat)))).take i) n=J at *;repeat' (first|(apply A7<;>intro hc<;>try omega)|apply BW|apply AQ)<;>conv=>whnf
  refine I2 (enc:=eO) none n rfl D' D' ?_;conv=>whnf
  repeat' (first|(apply CB;omega)|fail)<;>conv=>whnf
  unfold BZ FF;refine ⟨p_,D',?_⟩;conv=>whnf
  rw[show 0+((i:Int)).toNat=i by omega,pt];repeat' (first|(apply B5;omega)|fail)<;>conv=>whnf
  exact DB [] (ih (i+1) D' D')
 have ei:i=n:=D'
 clear ih jk;rw[ei,zT D',nA D'];clear gp gx ei p1 hi i;by_cases Ic:n=0
 ·subst Ic
  have hz:(CW 0 0).length=0:=rfl;repeat' (first|(apply A7<;>intro hc<;>try omega)|apply BW|apply AQ|refine AU (hP _ _ _) ?_)<;>conv=>whnf
  refine ⟨.e9 [.sl false [],.int .i64 0],?_,Or.inr ⟨λ X hX _ j=>by rw[td.1 hX];rfl,[],⟨rfl,λ i r s hr=>by cases hr⟩,⟨(λ x hx=>by cases hx),rfl⟩⟩⟩;conv=>whnf
  refine RY (z:=3) (en:=eQ) (ll:=([]:Y_)) (λ_=>rfl) rfl rfl ?_;conv=>whnf
  exact B1 rfl (KZ [] 0)
 have Ef:1<=(CW n n).length:=by
  rcases ZG hn with rfl|rfl|rfl|rfl|rfl<;>first|omega|decide
 repeat' (first|(apply A7<;>intro hc<;>try omega)|apply BW|apply AQ|refine AU (hP _ _ _) ?_)<;>conv=>whnf
 refine FP (λ u=>(CW n n).length-u) (λ(u:Nat)=>u<=(CW n n).length) (λ u=>[(45,.int .i64 u),(8,.row 8 0 1 0 u),(9,.row 9 0 3 0 u)]) (λ u=>[(8,8,.rw 1 (eM ((gM A n).take u))),(9,9,.rw 3 (((gR B n).take u).map eQ))]) 0 D' ?_;intro u u1 uh;have hGl:(gM A n).length=(CW n n).length:=(V4 A).l;have Fo:=jV B n;by_cases hu:u<(CW n n).length
 ·obtain ⟨⟨i,j⟩,lu⟩:=X_ (CW n n) u hu
  have Td:(CW n n)[((u:Nat):Int).toNat]? = some (i,j):=lu;obtain ⟨g1,g2,g3⟩:=tN lu;have Ah:(gM A n)[u]? = some (HC A n (i,j)):=by rw[gM,Wb,lu];rfl
  have hrg:(gR B n)[u]? = some (bQ B i*bQ B j):=by rw[gR,Wb,lu];rfl
  have Qj:=iH Ah;have Aj:=iH hrg;have Wl:((gM A n).take u).length=u:=by rw[Sa];omega
  have ht2:((gR B n).take u).length=u:=by rw[Sa];omega
  have hE2:=λ q1 q2 q3=>hE q1 q2 q3 i j g1 g2
  clear hE;generalize (gM A n).take u=G0 at *;generalize (gR B n).take u=R0 at *;generalize HC A n (i,j)=gr at *;generalize bQ B i*bQ B j=gy at *;repeat' (first|(apply A7<;>intro hc<;>try omega)|(apply CB;omega)|(refine CU G' ?_ rfl ?_;omega)|apply HL|apply AQ|refine AU (hE2 _ _ _) ?_)<;>conv=>whnf
  refine H9 (enc:=λ r:Z_=>[AV.sl false (r.map eQ)]) gr rfl Wl.symm rfl D' D' ?_;conv=>whnf
  (repeat' (apply HL<;>conv=>whnf))
  refine H9 (enc:=eQ) gy rfl ht2.symm rfl D' D' ?_;conv=>whnf
  rw[<-Qj,<-Aj,show ((gM A n).take (u+1)).length=u+1 by rw[Sa];omega,show ((gR B n).take (u+1)).length=u+1 by rw[Sa];omega];repeat' (first|(apply B5;omega)|fail)<;>conv=>whnf
  exact DB [(8,58),(9,62)] (uh (u+1) D' D')
 have eu:u=(CW n n).length:=D'
 clear uh hE;rw[eu,zT D',zT D'];clear eu u1 hu u;have d1:=h.b1;have d2:=h.b2;have AtE:=λ q q1 q2=>Anw N.toay q q1 q2 (gM A n) (gR B n) (CW n n).length g g (V4 A).l (V4 A).r Fo D' D' h.g1 h.mb h.rb h.sc h.wh d1 (iY.sol (λ gj c hc X hX hs=>h.qs gj X ⟨hX,λ i r s h1 h2=>by
  obtain rfl:c=0:=D'
  exact hs i r [s] h1 (by rw[Wb,h2];rfl)⟩) d2 Ef)
 have hGS : ∀ y:Z_,y.length=(CW n n).length->(∀ (i:Nat) (r:Z_) (s:Rat),(gM A n)[i]? = some r->(gR B n)[i]? = some s->B4 r y=s)->NI A B y n:=λ y h1 h2=>⟨h1,h2⟩
 generalize gM A n=G at *;generalize gR B n=R at *;repeat' (first|(apply A7<;>intro hc<;>try omega)|apply AQ)<;>conv=>whnf
 refine G9 (enc:=λ r:Z_=>[AV.sl false (r.map eQ)]) (λ_=>rfl) rfl hGl.symm ?_;conv=>whnf
 refine G9 (enc:=eQ) (λ_=>rfl) rfl Fo.symm ?_;conv=>whnf
 obtain ⟨v,hv,gn⟩:=AtE true false true;rcases gn with ⟨gj,rfl⟩|⟨gj,X,rfl,Fw,Sb,hX⟩
 ·repeat' (first|(apply A7<;>intro hc<;>try omega)|refine AU (hv) ?_)<;>conv=>whnf
  refine ⟨.e9 [.sl false [],.int .i64 11],?_,Or.inl ⟨gj,rfl⟩⟩;conv=>whnf
  exact B1 rfl (KZ [] 11)
 ·have Sx:=hGS X Fw hX
  clear hGS hX;repeat' (first|(apply A7<;>intro hc<;>try omega)|apply BW|refine AU (hv) ?_)<;>conv=>whnf
  refine FP (λ u=>(CW n n).length-u) (λ(u:Nat)=>u<=(CW n n).length) (λ u=>[(75,.int .i64 u)]) (λ u=>[(21,21,.mx (DD 3 eO (V3 X n u)))]) 0 D' ?_;intro u u1 uh;by_cases hu:u<(CW n n).length
  ·obtain ⟨⟨i,j⟩,lu⟩:=X_ (CW n n) u hu
   have Td:(CW n n)[((u:Nat):Int).toNat]? = some (i,j):=lu;obtain ⟨g1,g2,g3⟩:=tN lu;obtain ⟨x,hx⟩:=X_ X u;have ni:X[((u:Nat):Int).toNat]? = some x:=hx;have hT:=zB N.toa7 (Sb.at hx) D';have Gc:=AoV lu hx;obtain ⟨f1,f2⟩:=Aer (X:=X) (n:=n) u D';generalize V3 X n u=M0 at *;obtain ⟨r0,z7⟩:=X_ M0 i;have ff:=f2 r0 (zM z7);obtain ⟨s0,jn⟩ : ∃ s,(M0.set i (r0.set j (some x)))[j]? = some s:=⟨_,zE (by rw[yc];omega)⟩;have Gf:s0.length=n:=by
    rcases Gd (zM jn) with hs|rfl
    ·exact f2 s0 hs
    ·rw[yc];exact ff
   rw[AoW z7 jn]at Gc;have fi:(M0.set i (r0.set j (some x))).length=n:=by rw[yc];exact f1
   repeat' (first|(apply A7<;>intro hc<;>try omega)|(apply CB;omega)|(refine CU G' ?_ rfl ?_;omega)|(refine KB ?_ (λ r hr => ?_);omega)|apply AQ)<;>conv=>whnf
   cases z7.symm.trans hr;(repeat' (refine AU (hT) ?_<;>conv=>whnf))
   refine CB (by rw[Wa];exact D') ?_;conv=>whnf
   repeat' (first|refine K6 G' ?_|fail)<;>conv=>whnf
   refine LB (enc:=eO) (some x) rfl (λ e=>by cases e<;>rfl) D' ?_;conv=>whnf
   refine vT (by rw[yc]) ?_;conv=>whnf
   generalize M0.set i (r0.set j (some x))=M1 at *;repeat' (first|(apply CB;omega)|(refine CU G' ?_ rfl ?_;omega)|(refine KB ?_ (λ r hr => ?_);omega))<;>conv=>whnf
   cases jn.symm.trans hr;(repeat' (refine AU (hT) ?_<;>conv=>whnf))
   refine CB (by rw[Wa];exact D') ?_;conv=>whnf
   repeat' (first|refine K6 G' ?_|fail)<;>conv=>whnf
   refine LB (enc:=eO) (some x) rfl (λ e=>by cases e<;>rfl) D' ?_;conv=>whnf
   refine vT (by rw[yc]) ?_;rw[Gc];conv=>whnf
   repeat' (first|(apply B5;omega)|fail)<;>conv=>whnf
   exact DB [] (uh (u+1) D' D')
  ·have eu:u=(CW n n).length:=D'
   clear uh;have Ji:=(nF X n).l;rw[eu,AoU hn Sx.1,AqV];generalize hQ:kM X n=Q at *;repeat' (first|(apply A7<;>intro hc<;>try omega)|apply AQ)<;>conv=>whnf
   refine ⟨.e9 [.sl false (eM Q),.int .i64 0],?_,Or.inr ⟨gj,X,Sx,Sb,by rw[hQ]⟩⟩;conv=>whnf
   refine RY (λ_=>rfl) rfl Ji.symm ?_;conv=>whnf
   exact B1 rfl (KZ Q 0)
theorem AdI (N:w8 L) (aw:List (List BI)) (bw:List BI) (A:Y_) (B:Z_) (ax:vM aw=A) (fc:bw.map BI.v=B) (n k g s:Nat) (Cu:Sq n A) (hB:bw.length=n) (hf:FQ k aw) (hg:Fs k bw) (h:dW A B n g s) (hk:k<=33554432) (hn:n<=4) (q1 q2 q3:Bool) :
  ∃ v,Ev L 324 [.sl q1 (FW q2 aw),.sl q3 (bw.map eW)] v/\(((∀ j,j<=6->HP (EU n A j)=false)/\v = .e9 [.sl false [],.int .i64 14])\/((∃ i,i<=6/\VW n A i)/\((¬ NS (CW n n).length (gM A n)/\v = .e9 [.sl false [],.int .i64 11])\/(NS (CW n n).length (gM A n) /\ ∃ X:Z_,NI A B X n/\v = .e9 [.sl false (eM (kM X n)),.int .i64 0])))):=by
 have ig:aw.length=n:=by rw[<-Cu.l,<-ax,vM,Wa]
 have ue:=hB;have An : ∀ (i:Nat) (r:List BI),aw[i]? = some r->A[i]? = some (r.map BI.v):=λ i r h=>ax ▸ J5 h
 obtain ⟨v,Li,gn⟩:=Aod N.todi q1 q2 aw A ax n k Cu hf hn hk;obtain ⟨w,hF,AuD⟩:=AnN N aw bw A B ax fc n k g s Cu hB hf hg h hk hn q1 q2 q3;clear ax fc;refine Ev.xE N.NQ rfl rfl ?_;repeat' (first|(apply A7<;>intro hc<;>try omega)|apply BW|apply AQ)<;>conv=>whnf
 refine FP (λ i=>n-i) (λ(i:Nat)=>i<=n) (λ i=>[(22,.int .i64 i)]) (λ_=>[]) 0 D' ?_;intro i p1 ih;by_cases hi:i<n
 ·obtain ⟨r,z7⟩:=X_ aw i
  have nh:aw[((i:Nat):Int).toNat]? = some r:=z7;have ff:=Cu.at (An i r z7);rw[Wa]at ff;repeat' (first|(apply A7<;>intro hc<;>try omega)|(apply B5;omega)|apply BW|(refine CU G' ?_ rfl ?_;omega)|apply AQ)<;>conv=>whnf
  exact DB [] (ih (i+1) D' D')
 have ei:i=n:=D'
 clear ih;rw[ei];rcases gn with ⟨i0,i1,i2,rfl⟩|⟨i1,rfl⟩
 ·rcases AuD with ⟨gj,rfl⟩|⟨gj,X,hX,_,rfl⟩
  ·repeat' (first|(apply A7<;>intro hc<;>try omega)|apply AQ|refine AU (Li) ?_|refine AU (hF) ?_)<;>conv=>whnf
   exact ⟨_,B1 rfl (KZ [] 11),Or.inr ⟨⟨i0,i1,i2⟩,Or.inl ⟨gj,rfl⟩⟩⟩
  ·generalize hQ:kM X n=Q at *
   repeat' (first|(apply A7<;>intro hc<;>try omega)|apply AQ|refine AU (Li) ?_|refine AU (hF) ?_)<;>conv=>whnf
   exact ⟨_,B1 rfl (KZ Q 0),Or.inr ⟨⟨i0,i1,i2⟩,Or.inr ⟨gj,X,hX,by rw[hQ]⟩⟩⟩
 ·repeat' (first|(apply A7<;>intro hc<;>try omega)|apply AQ|refine AU (Li) ?_)<;>conv=>whnf
  exact ⟨_,B1 rfl (KZ [] 14),Or.inl ⟨i1,rfl⟩⟩
theorem Anq (N:w8 L) (aw:List (List BI)) (bw:List BI) (hl:aw.length<=9223372036854775807/\bw.length<=9223372036854775807) (hb : ¬ (aw.length<=8/\bw.length=aw.length /\ ∀ r∈aw,r.length=aw.length)) (hr : ∀ r∈aw,r.length<=9223372036854775807) (q1 q2 q3:Bool) :
  Ev L 324 [.sl q1 (FW q2 aw),.sl q3 (bw.map eW)] (.e9 [.sl false [],.int .i64 2]):=by
 obtain ⟨l1,l2⟩:=hl;by_cases h1:aw.length<=8
 ·by_cases h2:bw.length=aw.length
  ·refine Ev.x N.NQ rfl rfl ?_
   repeat' (first|(apply A7<;>intro hc<;>try omega)|apply BW|apply AQ)<;>conv=>whnf
   refine FP (λ i=>aw.length-i) (λ(i:Nat)=>i<=aw.length /\ ∀ (j:Nat) (r:List BI),j<i->aw[j]? = some r->r.length=aw.length) (λ i=>[(22,.int .i64 i)]) (λ_=>[]) 0 ⟨D',λ j x h _=>absurd h D'⟩ ?_;intro i ⟨p1,p2⟩ ih;by_cases hi:i<aw.length
   ·obtain ⟨r,z7⟩:=X_ aw i hi
    have nh:aw[((i:Nat):Int).toNat]? = some r:=z7;have ri:=hr r (zM z7);by_cases ff:r.length=aw.length
    ·repeat' (first|(apply A7<;>intro hc<;>try omega)|(apply B5;omega)|apply BW|(refine CU G' ?_ rfl ?_;omega)|apply AQ)<;>conv=>whnf
     exact DB [] (ih (i+1) D' ⟨D',λ j y hj hy=>by
      by_cases e:j=i
      ·subst e;rw[z7]at hy;obtain rfl:=Vc hy;exact ff
      ·exact p2 j y D' hy⟩)
    ·clear ih p2
     repeat' (first|(apply A7<;>intro hc<;>try omega)|apply BW|(refine CU G' ?_ rfl ?_;omega)|apply AQ)<;>conv=>whnf
     exact B1 rfl (KZ [] 2)
   ·exact absurd ⟨h1,h2,λ r hr=>by
     obtain ⟨j,hj⟩:=Oc hr;have:=(zS hj).1
     exact p2 j r D' hj⟩ hb
  ·refine Ev.x N.NQ rfl rfl ?_
   repeat' (first|(apply A7<;>intro hc<;>try omega)|apply BW|apply AQ)<;>conv=>whnf
   exact B1 rfl (KZ [] 2)
 ·refine Ev.x N.NQ rfl rfl ?_
  repeat' (first|(apply A7<;>intro hc<;>try omega)|apply BW|apply AQ)<;>conv=>whnf
  exact B1 rfl (KZ [] 2)
end Go.j4

namespace Go.j4
open F
attribute [local irreducible] AJ A5 BZ A0 FH B2 C6 C9 EO EC E0 HH D6 CT EJ E3 AM CZ BH pw EF DP FF FR F5 F7 E6 DQ GN
variable {L:Lib}
set_option maxRecDepth 8000
abbrev eP:Option Rat->d_
 | none=>[.bool false,.sl false [],.sl false []]
 | some x=>eQ x
theorem AoP (N:s9 L) {o:Option Rat} {y:Rat} {k l:Nat} (hx:Bt k (o.getD 0)) (hy:Bt l y) (hk:k<2199023255552) (hl:l<2199023255552):Ev L 153 [.agg (eP o),.agg (eQ y)] (.agg (eQ (o.getD 0-y))):=by
 cases o with
 | some x=>exact Aeg N hx hy hk hl
 | none =>
  have hn:Bt l (-y):=⟨by rw[Ig,Sg];exact hy.1,by rw[Hg];exact hy.2⟩;have hN:=mO N hy hl;have hA:=yW (q1:=false) (q3:=false) N.toa8 68719476736 D' false (decide ((-y).num<0)) false false [] [] (dg (-y).num.natAbs) (dg (-y).den) (uG _) (uG _) (hn.qe hl).1 (hn.qe hl).2;rw[H6,show qv false [] []=0 from o_,<-zg]at hA;refine Ev.x N.U9 rfl rfl ?_;repeat' (first|apply AQ|refine AU (hN) ?_|refine AU (hA) ?_)<;>conv=>whnf
  exact B1 rfl (GD _)
theorem Aoj (N:w8 L) (n i j:Nat) (hn:n<=4) (lu:i<=j) (hj:j<n):Ev L 325 [.int .i64 (i:Int),.int .i64 (j:Int),.int .i64 (n:Int)] (.int .i64 ((jo n i j:Nat):Int)):=by
 rcases ZG hn with rfl|rfl|rfl|rfl|rfl
 ·omega
 ·obtain ⟨rfl,rfl⟩:i=0/\j=0:=D'
  refine Ev.x N.Q0 rfl rfl ?_;repeat' (first|(apply B5;omega)|(apply EP;omega)|(apply LN;omega)|(refine VY ?_ ?_ (λ_ => ?_) (λ_ _ => ?_);omega;omega;all_goals try omega)|apply AQ)<;>conv=>whnf
  exact F2 rfl
 ·obtain ⟨rfl,rfl⟩|⟨rfl,rfl⟩|⟨rfl,rfl⟩:(i=0/\j=0)\/(i=0/\j=1)\/(i=1/\j=1):=D'
  all_goals
   refine Ev.x N.Q0 rfl rfl ?_;repeat' (first|(apply B5;omega)|(apply EP;omega)|(apply LN;omega)|(refine VY ?_ ?_ (λ_ => ?_) (λ_ _ => ?_);omega;omega;all_goals try omega)|apply AQ)<;>conv=>whnf
   exact F2 rfl
 ·obtain ⟨rfl,rfl⟩|⟨rfl,rfl⟩|⟨rfl,rfl⟩|⟨rfl,rfl⟩|⟨rfl,rfl⟩|⟨rfl,rfl⟩:(i=0/\j=0)\/(i=0/\j=1)\/(i=0/\j=2)\/(i=1/\j=1)\/(i=1/\j=2)\/(i=2/\j=2):=D'
  all_goals
   refine Ev.x N.Q0 rfl rfl ?_;repeat' (first|(apply B5;omega)|(apply EP;omega)|(apply LN;omega)|(refine VY ?_ ?_ (λ_ => ?_) (λ_ _ => ?_);omega;omega;all_goals try omega)|apply AQ)<;>conv=>whnf
   exact F2 rfl
 ·obtain ⟨rfl,rfl⟩|⟨rfl,rfl⟩|⟨rfl,rfl⟩|⟨rfl,rfl⟩|⟨rfl,rfl⟩|⟨rfl,rfl⟩|⟨rfl,rfl⟩|⟨rfl,rfl⟩|⟨rfl,rfl⟩|⟨rfl,rfl⟩:(i=0/\j=0)\/(i=0/\j=1)\/(i=0/\j=2)\/(i=0/\j=3)\/(i=1/\j=1)\/(i=1/\j=2)\/(i=1/\j=3)\/(i=2/\j=2)\/(i=2/\j=3)\/(i=3/\j=3):=D'
  all_goals
   refine Ev.x N.Q0 rfl rfl ?_;repeat' (first|(apply B5;omega)|(apply EP;omega)|(apply LN;omega)|(refine VY ?_ ?_ (λ_ => ?_) (λ_ _ => ?_);omega;omega;all_goals try omega)|apply AQ)<;>conv=>whnf
   exact F2 rfl
theorem Asp (r:Z_):(r.map some).map eO=r.map eQ:=by rw[Vd];rfl
theorem AsO {n:Nat} (hn:n<=4):(0<=(n:Int)*((n:Int)+1)/\(n:Int)*((n:Int)+1)<=20)/\((n:Int)*((n:Int)+1))/2=((n*(n+1)/2:Nat):Int)/\n*(n+1)/2<=10:=by
 rcases ZG hn with rfl|rfl|rfl|rfl|rfl<;>decide
theorem Aql {X:Z_} {n i:Nat} (hi:i<n):(kM X n)[i]? = some ((Kd n).map λ j=>X.getD (jo n (min i j) (max i j)) 0):=by rw[kM,Wb,yd hi];rfl
theorem Ad0 (N:w7 L) (S:G3) (n k:Nat) (h:S.Ok n k) (hn:n<=8):Ev L 328 [.agg (eS S)] (.bool true):=by
 have xv:=Anx N.too6 S n k h D';have Hu:=h.la;refine Ev.x N.S3 rfl rfl ?_;repeat' (first|(apply A7<;>intro hc<;>try omega)|apply BW|apply AQ|refine AU (xv) ?_)<;>conv=>whnf
 exact HK rfl
theorem AdN (N:w7 L) (q1 q2 q3:Bool) (K:Y_) (v:Z_) (n k l:Nat) (hK:Sq n K) (hv:v.length=n) (km:Ms k K) (fc:Bs l v) (hn:n<=4) (hk:k<=1000000000) (hl:l<=1000000000) :
  Ev L 329 [.sl q1 (L6 q2 K),.sl q3 (v.map eQ)] (.agg (eQ (LP K v n))):=by
 have hO:=QL N.toa7 0 D';rw[show ((0:Int):Rat)=0 from rfl]at hO;have ig:=hK.l;have ri : ∀ i,Bt (n*((k+(l+l))+1)) (DL (λ j=>CK K i j*(bQ v i*bQ v j)) n):=λ i=>Q6 (λ j=>(I3 km i j).mul ((JG fc i).mul (JG fc j))) n
 have hB1:n*((k+(l+l))+1)<=4*((k+(l+l))+1):=zR _ hn;refine Ev.x N.QO rfl rfl ?_;repeat' (first|apply BW|apply AQ|refine AU (hO) ?_)<;>conv=>whnf
 refine FP (λ i=>n-i) (λ(i:Nat)=>i<=n) (λ i=>[(11,.int .i64 i)]) (λ i=>[(5,5,.bx (eQ (DL (λ i=>DL (λ j=>CK K i j*(bQ v i*bQ v j)) n) i)))]) 0 D' ?_;intro i p1 ih;have Wc:=Q6 ri i;have hB2:i*(n*((k+(l+l))+1)+1)<=4*(4*((k+(l+l))+1)+1):=Ab D' D';by_cases hi:i<n
 ·obtain ⟨r1,du,rf,pq⟩:=Agi hK hi
  have Ij:K[((i:Nat):Int).toNat]? = some r1:=du;have Wq:v[((i:Nat):Int).toNat]? = some (bQ v i):=Aco hv hi;have Oe:DL (λ i=>DL (λ j=>CK K i j*(bQ v i*bQ v j)) n) (i+1)=DL (λ i=>DL (λ j=>CK K i j*(bQ v i*bQ v j)) n) i+DL (λ j=>CK K i j*(bQ v i*bQ v j)) n:=rfl;generalize DL (λ i=>DL (λ j=>CK K i j*(bQ v i*bQ v j)) n) i=s0 at *;repeat' (first|(apply A7<;>intro hc<;>try omega)|apply BW|(refine CU G' ?_ rfl ?_;omega)|apply AQ)<;>conv=>whnf
  refine GV (λ j=>n-j) (λ(j:Nat)=>j<=n) (λ j=>[(19,.int .i64 j)]) (λ j=>[(5,5,.bx (eQ (s0+DL (λ j=>CK K i j*(bQ v i*bQ v j)) j)))]) [] [] 0 (by first|exact w_|(rw[show s0+DL (λ j=>CK K i j*(bQ v i*bQ v j)) 0=s0 from Mg s0];exact w_)) D' ?_;intro j j1 jh;have Mx:=Wc.add (Q6 (λ j=>(I3 km i j).mul ((JG fc i).mul (JG fc j))) j);have hB3:j*((k+(l+l))+1)<=4*((k+(l+l))+1):=zR _ D';by_cases hj:j<n
  ·have ni:r1[((j:Nat):Int).toNat]? = some (CK K i j):=pq j hj
   have Qm:v[((j:Nat):Int).toNat]? = some (bQ v j):=Aco hv hj;have fi:=R6 N.toa7 (JG fc i) (JG fc j) D' D';have fr:=R6 N.toa7 (I3 km i j) ((JG fc i).mul (JG fc j)) D' D';have hA:=W3 N.toa7 Mx ((I3 km i j).mul ((JG fc i).mul (JG fc j))) D' D';have Nz:s0+DL (λ j=>CK K i j*(bQ v i*bQ v j)) j+CK K i j*(bQ v i*bQ v j)=s0+DL (λ j=>CK K i j*(bQ v i*bQ v j)) (j+1):=Qg _ _ _;rw[Nz]at hA;generalize s0+DL (λ j=>CK K i j*(bQ v i*bQ v j)) j=s1 at *;generalize CK K i j*(bQ v i*bQ v j)=p2 at *;generalize bQ v i*bQ v j=p3 at *;repeat' (first|(apply A7<;>intro hc<;>try omega)|(apply B5;omega)|(refine CU G' ?_ rfl ?_;omega)|apply AQ|refine AU (fi) ?_|refine AU (fr) ?_|refine AU (hA) ?_)<;>conv=>whnf
   exact DB [] (jh (j+1) D' D')
  ·have ej:j=n:=D'
   clear jh;rw[ej,<-Oe];repeat' (first|(apply A7<;>intro hc<;>try omega)|(apply B5;omega)|apply AQ)<;>conv=>whnf
   exact DB [] (ih (i+1) D' D')
 ·have ei:i=n:=D'
  clear ih;rw[ei,show DL (λ i=>DL (λ j=>CK K i j*(bQ v i*bQ v j)) n) n=LP K v n from rfl];generalize LP K v n=y at *;repeat' (first|(apply A7<;>intro hc<;>try omega)|apply AQ)<;>conv=>whnf
  exact B1 rfl (GD _)
theorem rX (N:w7 L) (S:FU) (ha:S.a.length<=8/\S.b.length<=9223372036854775807/\S.c.length<=9223372036854775807):Ev L 328 [.agg (J3 S)] (.bool (IM S)):=by
 have xv:=Any N.too6 S ⟨D',ha.2.1,ha.2.2⟩;have Hu:=ha.1;cases h:IM S
 ·rw[h]at xv
  refine Ev.x N.S3 rfl rfl ?_;repeat' (first|apply AQ|refine AU (xv) ?_)<;>conv=>whnf
  exact HK rfl
 ·rw[h]at xv
  refine Ev.x N.S3 rfl rfl ?_;repeat' (first|(apply A7<;>intro hc<;>try omega)|apply BW|apply AQ|refine AU (xv) ?_)<;>conv=>whnf
  exact HK rfl
theorem mS (N:w7 L) (S:FU) (ha:S.a.length<=8/\S.b.length<=9223372036854775807/\S.c.length<=9223372036854775807):Ev L 333 [.agg (J3 S)] (.bool (IM S)):=by
 have xv:=yK N.too6 S ⟨D',ha.2.1,ha.2.2⟩;have Hu:=ha.1;cases h:IM S
 ·rw[h]at xv
  refine Ev.x N.YE rfl rfl ?_;repeat' (first|apply AQ|refine AU (xv) ?_)<;>conv=>whnf
  exact HK rfl
 ·rw[h]at xv
  refine Ev.x N.YE rfl rfl ?_;repeat' (first|(apply A7<;>intro hc<;>try omega)|apply BW|apply AQ|refine AU (xv) ?_)<;>conv=>whnf
  exact HK rfl
theorem AdO (N:w7 L) (q1 q2 q3:Bool) (K:Y_) (vw:List BI) (v:Z_) (zt:vw.map BI.v=v) (n k l:Nat) (hK:Sq n K) (hv:vw.length=n) (km:Ms k K) (hvf:Fs l vw) (hn:n<=2) (hk:k<=100000000000) (hl:l<=10000000000) :
  Ev L 329 [.sl q1 (L6 q2 K),.sl q3 (vw.map eW)] (.agg (eQ (LP K v n))):=by
 have hO:=QL N.toa7 0 D';rw[show ((0:Int):Rat)=0 from rfl]at hO;have ig:=hK.l;have fc:Bs l v:=zt ▸ hvf.bs;have Hm : ∀ i,i<n -> ∃ x:BI,vw[i]? = some x/\x.v=bQ v i/\x.Fit l:=λ i hi=>zt ▸ jE hv hvf hi
 clear zt;have ri : ∀ i,Bt (n*((k+(l+l))+1)) (DL (λ j=>CK K i j*(bQ v i*bQ v j)) n):=λ i=>Q6 (λ j=>(I3 km i j).mul ((JG fc i).mul (JG fc j))) n
 have hB1:n*((k+(l+l))+1)<=2*((k+(l+l))+1):=zR _ hn;refine Ev.x N.QO rfl rfl ?_;repeat' (first|apply BW|apply AQ|refine AU (hO) ?_)<;>conv=>whnf
 refine FP (λ i=>n-i) (λ(i:Nat)=>i<=n) (λ i=>[(11,.int .i64 i)]) (λ i=>[(5,5,.bx (eQ (DL (λ i=>DL (λ j=>CK K i j*(bQ v i*bQ v j)) n) i)))]) 0 D' ?_;intro i p1 ih;have Wc:=Q6 ri i;have hB2:i*(n*((k+(l+l))+1)+1)<=2*(2*((k+(l+l))+1)+1):=Ab D' D';by_cases hi:i<n
 ·obtain ⟨r1,du,rf,pq⟩:=Agi hK hi
  have Ij:K[((i:Nat):Int).toNat]? = some r1:=du;obtain ⟨wi,Ux,wvi,wfi⟩:=Hm i hi;have Wq:vw[((i:Nat):Int).toNat]? = some wi:=Ux;have Oe:DL (λ i=>DL (λ j=>CK K i j*(bQ v i*bQ v j)) n) (i+1)=DL (λ i=>DL (λ j=>CK K i j*(bQ v i*bQ v j)) n) i+DL (λ j=>CK K i j*(bQ v i*bQ v j)) n:=rfl;generalize DL (λ i=>DL (λ j=>CK K i j*(bQ v i*bQ v j)) n) i=s0 at *;repeat' (first|(apply A7<;>intro hc<;>try omega)|apply BW|(refine CU G' ?_ rfl ?_;omega)|apply AQ)<;>conv=>whnf
  refine GV (λ j=>n-j) (λ(j:Nat)=>j<=n) (λ j=>[(19,.int .i64 j)]) (λ j=>[(5,5,.bx (eQ (s0+DL (λ j=>CK K i j*(bQ v i*bQ v j)) j)))]) [] [] 0 (by first|exact w_|(rw[show s0+DL (λ j=>CK K i j*(bQ v i*bQ v j)) 0=s0 from Mg s0];exact w_)) D' ?_;intro j j1 jh;have Mx:=Wc.add (Q6 (λ j=>(I3 km i j).mul ((JG fc i).mul (JG fc j))) j);have hB3:j*((k+(l+l))+1)<=2*((k+(l+l))+1):=zR _ D';by_cases hj:j<n
  ·have ni:r1[((j:Nat):Int).toNat]? = some (CK K i j):=pq j hj
   obtain ⟨wj,hwj,wvj,wfj⟩:=Hm j hj;have Qm:vw[((j:Nat):Int).toNat]? = some wj:=hwj;have fi:=jO N.toa7 wfi.2 wfj.2 (Ub _) (Ub _);rw[wvi,wvj]at fi;have fr:=R6 N.toa7 (I3 km i j) ((JG fc i).mul (JG fc j)) D' D';have hA:=W3 N.toa7 Mx ((I3 km i j).mul ((JG fc i).mul (JG fc j))) D' D';have Nz:s0+DL (λ j=>CK K i j*(bQ v i*bQ v j)) j+CK K i j*(bQ v i*bQ v j)=s0+DL (λ j=>CK K i j*(bQ v i*bQ v j)) (j+1):=Qg _ _ _;rw[Nz]at hA;generalize s0+DL (λ j=>CK K i j*(bQ v i*bQ v j)) j=s1 at *;generalize CK K i j*(bQ v i*bQ v j)=p2 at *;generalize bQ v i*bQ v j=p3 at *;repeat' (first|(apply A7<;>intro hc<;>try omega)|(apply B5;omega)|(refine CU G' ?_ rfl ?_;omega)|apply AQ|refine AU (fi) ?_|refine AU (fr) ?_|refine AU (hA) ?_)<;>conv=>whnf
   exact DB [] (jh (j+1) D' D')
  ·have ej:j=n:=D'
   clear jh;rw[ej,<-Oe];repeat' (first|(apply A7<;>intro hc<;>try omega)|(apply B5;omega)|apply AQ)<;>conv=>whnf
   exact DB [] (ih (i+1) D' D')
 ·have ei:i=n:=D'
  clear ih;rw[ei,show DL (λ i=>DL (λ j=>CK K i j*(bQ v i*bQ v j)) n) n=LP K v n from rfl];generalize LP K v n=y at *;repeat' (first|(apply A7<;>intro hc<;>try omega)|apply AQ)<;>conv=>whnf
  exact B1 rfl (GD _)
theorem AnI (N:w7 L) (q1 q2 q3:Bool) (cw:List BI) (aw:List (List BI)) (c:Z_) (A:Y_) (Uu:cw.map BI.v=c) (ax:vM aw=A) (n k l:Nat) (hA:Sq n A) (q5:cw.length=n) (hf:FQ k aw) (hcf:Fs l cw) (hn:n<=4) (hk:k<=1000000000) (hl:l<=10000000000) :
  Ev L 330 [.sl q1 (cw.map eW),.sl q2 (FW q3 aw)] (.sl false ((M6 c A n).map eQ)):=by
 have hO:=QL N.toa7 0 D';rw[show ((0:Int):Rat)=0 from rfl]at hO;have ig:aw.length=n:=by rw[<-hA.l,<-ax,vM,Wa]
 have xu:Ms k A:=ax ▸ hf.ms;have Co:Bs l c:=Uu ▸ hcf.bs;have Hm : ∀ i,i<n -> ∃ x:BI,cw[i]? = some x/\x.v=bQ c i/\x.Fit l:=λ i hi=>Uu ▸ jE q5 hcf hi
 have Ah : ∀ i,i<n -> ∃ r,aw[i]? = some r/\r.length=n /\ ∀ j,j<n -> ∃ x:BI,r[j]? = some x/\x.v=CK A i j/\x.Fit k:=λ i hi=>by
  have:=oN (ax.symm ▸ hA) hf hi
  rwa [ax]at this
 clear Uu ax;have qm:=Zr c A n;refine Ev.x N.SS rfl rfl ?_;repeat' (first|apply BW|apply AQ)<;>conv=>whnf
 refine I2 (enc:=eO) none n rfl D' D' ?_;conv=>whnf
 skip
 refine GV (λ i=>n-i) (λ(i:Nat)=>i<=n) (λ i=>[(14,.int .i64 i)]) (λ i=>[(11,11,.rw 3 ((IL ((M6 c A n).take i) n).map eO))]) [] [] 0 (by first|exact w_|(rw[cd,<-aT];exact w_)) D' ?_;intro i p1 ih;have gp:((M6 c A n).take i).length=i:=by rw[Sa];omega
 have Wg:=ZF (l:=(M6 c A n).take i) (m:=n) D';by_cases hi:i<n
 ·have hyx:(M6 c A n)[i]? = some (DL (λ a=>bQ c a*CK A a i) n):=by rw[M6,Wb,yd hi];rfl
  have m4:=aU (l:=(M6 c A n).take i) (m:=n) (x:=DL (λ a=>bQ c a*CK A a i) n) D';rw[gp,<-iH hyx]at m4;generalize IL ((M6 c A n).take i) n=F0 at *;repeat' (first|(apply A7<;>intro hc<;>try omega)|apply BW|apply AQ|refine AU (hO) ?_)<;>conv=>whnf
  refine FP (λ j=>n-j) (λ(j:Nat)=>j<=n) (λ j=>[(20,.int .i64 j)]) (λ j=>[(7,7,.bx (eQ (DL (λ a=>bQ c a*CK A a i) j)))]) 0 D' ?_;intro j j1 jh;have Mx:=Q6 (λ a=>(JG Co a).mul (I3 xu a i)) j;have hB3:j*(l+k+1)<=4*(l+k+1):=zR _ D';by_cases hj:j<n
  ·obtain ⟨r1,du,rf,pq⟩:=Ah j hj
   obtain ⟨wx,hwx,wvx,wfx⟩:=pq i hi;obtain ⟨wj,hwj,wvj,wfj⟩:=Hm j hj;have Ij:aw[((j:Nat):Int).toNat]? = some r1:=du;have ni:r1[((i:Nat):Int).toNat]? = some wx:=hwx;have Hn:cw[((j:Nat):Int).toNat]? = some wj:=hwj;have fi:=jO N.toa7 wfj.2 wfx.2 (Ub _) (Ub _);rw[wvj,wvx]at fi;have Fl:=W3 N.toa7 Mx ((JG Co j).mul (I3 xu j i)) D' D';rw[show DL (λ a=>bQ c a*CK A a i) j+bQ c j*CK A j i=DL (λ a=>bQ c a*CK A a i) (j+1) from rfl]at Fl;generalize DL (λ a=>bQ c a*CK A a i) j=s1 at *;generalize bQ c j*CK A j i=p2 at *;repeat' (first|(apply A7<;>intro hc<;>try omega)|(apply B5;omega)|(refine CU G' ?_ rfl ?_;omega)|apply AQ|refine AU (fi) ?_|refine AU (Fl) ?_)<;>conv=>whnf
   exact DB [] (jh (j+1) D' D')
  ·have ej:j=n:=D'
   clear jh;rw[ej];generalize DL (λ a=>bQ c a*CK A a i) n=y at *;repeat' (first|(apply A7<;>intro hc<;>try omega)|(apply CB;omega)|apply AQ)<;>conv=>whnf
   refine LB (enc:=eO) (some y) rfl (λ e=>by cases e<;>rfl) D' ?_;conv=>whnf
   rw[m4];repeat' (first|(apply B5;omega)|fail)<;>conv=>whnf
   exact DB [] (ih (i+1) D' D')
 ·have ei:i=n:=D'
  clear ih;rw[ei,zT D',aS qm];repeat' (first|(apply A7<;>intro hc<;>try omega)|apply AQ)<;>conv=>whnf
  refine G9 (enc:=eQ) (λ_=>rfl) rfl D' ?_;conv=>whnf
  refine B1 rfl ?_;simp only[CI];exact ⟨trivial,OL _⟩
theorem AnF (N:o6 L) (m:Y_) (bw:List BI) (b:Z_) (fc:bw.map BI.v=b) (q1 q2 q3:Bool) (n k s:Nat) (hs:Sq n m) (hb:bw.length=n) (hm:Ms k m) (Jo:Fs s bw) (hn:n<=4) (hk:k<2199023255552) (hK:4*(k+s+1)+k+s<2199023255552):Ev L 138 [.sl q1 (L6 q3 m),.sl q2 (bw.map eW)] (.sl false ((J4 m b).map eQ)):=by
 have gx:=hs.l;have qm:=Afx m b;refine Ev.x N.VJ rfl rfl ?_;(repeat' (apply AQ<;>conv=>whnf))
 refine FP (λ j=>m.length-j) (λ(j:Nat)=>j<=m.length) (λ j=>[(6,.int .i64 j),(5,.row 138005 0 3 0 j)]) (λ j=>[(138005,138005,.rw 3 (((J4 m b).take j).map eQ))]) 0 D' ?_;intro j r1 jh;have hlen:((J4 m b).take j).length=j:=by rw[Sa];omega
 by_cases hj:j<m.length
 ·obtain ⟨r,hr⟩:=X_ m j hj
  have nh:m[(j:Int).toNat]? = some r:=hr;have ff:=hs.at hr;have Rr:=λ q q'=>rU N (wR r) bw q q' k s (by rw[wR,Wa];omega) (Fs.of (hm.at hr) hk) Jo (by rw[wR,Wa,ff];have:=zR (k+s+1) hn;omega) (by rw[wR,Wa];omega)
  rw[RS,fc,V2]at Rr;have hy:(J4 m b)[j]? = some (B4 r b):=by rw[J4,Wb,hr];rfl
  have Tf:((J4 m b).take (j+1)).length=j+1:=by rw[Sa];omega
  repeat' (first|(apply A7<;>intro hc<;>try omega)|apply BW|(refine CU G' ?_ rfl ?_;omega)|apply HL|apply AQ|refine AU (Rr _ _) ?_)<;>conv=>whnf
  refine H9 (enc:=eQ) (B4 r b) rfl hlen.symm rfl D' D' ?_;conv=>whnf
  repeat' (first|(apply B5;omega)|fail)<;>conv=>whnf
  rw[<-VV hy,Tf];exact DB [(138005,138021)] (jh (j+1) D' D')
 obtain rfl:j=m.length:=D'
 clear jh;rw[zT D'];repeat' (first|(apply A7<;>intro hc<;>try omega)|apply BW|apply AQ)<;>conv=>whnf
 refine G9 (enc:=eQ) (λ_=>rfl) rfl qm.symm ?_;conv=>whnf
 exact B1 rfl (by simp only[CI,true_and];exact OL _)
def Ai2 (A:Y_) (B:Z_) (n:Nat) (v:AV):Prop :=
 (((∀ j,j<=6->HP (EU n A j)=false) \/ ¬ NS (CW n n).length (gM A n)) /\ ∃ e:Int,e≠0/\v = .e9 [.sl false [],.int .i64 e])\/((∃ i,HP (EU n A i)=true)/\NS (CW n n).length (gM A n) /\ ∃ X:Z_,NI A B X n/\Bs 380000 X/\v = .e9 [.sl false (eM (kM X n)),.int .i64 0])
theorem Anz (N:w7 L) (S:G3) (n:Nat) {k:Nat} (hS:S.Ok n k) (hk:k<=1000) (hn:n<=4) {kk:Nat} (K:Y_) (hK:Sq n K) (km:Ms kk K) (na:kk<=4000000) (hv:Ev L 324 [.sl false (L6 false S.a),.sl false (S.b.map eQ)] (.e9 [.sl false (eM K),.int .i64 0])) :
  Ev L 331 [.agg (eS S),.int .i64 0] (.e9 [.agg (eQ (VU S K n 0)),.int .i64 0]):=by
 have jj:=Ad0 N S n k hS D';have hA:Sq n S.a:=⟨hS.la,hS.lr⟩;have hF:=λ q1 q2 q3=>AdN N q1 q2 q3 K S.c n kk k hK hS.lc km hS.bc hn D' D'
 have hM:=R6 N.toa7 hS.bd hS.bd D' D';have Fx:Bt (4*(4*(kk+(k+k)+1)+1)) (LP K S.c n):=(Q6 (λ i=>(Q6 (λ j=>(I3 km i j).mul ((JG hS.bc i).mul (JG hS.bc j))) n).le (zR _ hn)) n).le (zR _ hn);have Fl:=W3 N.toa7 (hS.bd.mul hS.bd) Fx D' D';refine Ev.x N.JV rfl rfl ?_;repeat' (first|(apply A7<;>intro hc<;>try omega)|apply AQ|refine AU (jj) ?_|refine AU (hv) ?_|refine AU (hM) ?_|refine AU (hF _ _ _) ?_|refine AU (Fl) ?_)<;>conv=>whnf
 exact B1 rfl (by simp only[CI,ES,and_true,true_and];exact ⟨EW _,EW _⟩)
theorem AnA (N:w7 L) (S:G3) (n:Nat) {k:Nat} (hS:S.Ok n k) (hk:k<=1000) (hn:n<=4) {kk:Nat} (K:Y_) (hK:Sq n K) (km:Ms kk K) (na:kk<=4000000) (hv:Ev L 324 [.sl false (L6 false S.a),.sl false (S.b.map eQ)] (.e9 [.sl false (eM K),.int .i64 0])) :
  Ev L 331 [.agg (eS S),.int .i64 1] (.e9 [.agg (eQ (VU S K n 1)),.int .i64 0]):=by
 have jj:=Ad0 N S n k hS D';have hF:=λ q1 q2 q3=>AdN N q1 q2 q3 K S.c n kk k hK hS.lc km hS.bc hn D' D'
 rw[show LP K S.c n=VU S K n 1 from rfl]at hF;refine Ev.x N.JV rfl rfl ?_;repeat' (first|(apply A7<;>intro hc<;>try omega)|(apply EP;omega)|apply AQ|refine AU (jj) ?_|refine AU (hv) ?_)<;>conv=>whnf
 refine QH ?_;generalize VU S K n 1=y at *;repeat' (first|(apply A7<;>intro hc<;>try omega)|apply AQ|refine AU (hF _ _ _) ?_)<;>conv=>whnf
 exact B1 rfl (by simp only[CI,ES,and_true,true_and];exact ⟨EW _,EW _⟩)
theorem Anp (N:w7 L) (S:G3) (n:Nat) {k:Nat} (hS:S.Ok n k) (hk:k<=1000) (hn:n<=4) {kk:Nat} (K:Y_) (hK:Sq n K) (km:Ms kk K) (na:kk<=4000000) (hv:Ev L 324 [.sl false (L6 false S.a),.sl false (S.b.map eQ)] (.e9 [.sl false (eM K),.int .i64 0])) :
  Ev L 332 [.agg (eS S)] (.e9 [.agg (eQ (VU S K n 0)),.int .i64 0]):=by
 have hT:=Anz N S n hS hk hn K hK km na hv;refine Ev.x N.bP rfl rfl ?_;repeat' (first|apply AQ|refine AU (hT) ?_)<;>conv=>whnf
 exact B1 rfl (by simp only[CI,ES,and_true,true_and];exact ⟨EW _,EW _⟩)
theorem As3 {A:Y_} {k M:Nat} (h : ∀ r∈A,∀ x∈r,Wh k ((M:Rat)*x)) (i j:Nat):Wh k ((M:Rat)*CK A i j):=by
 have h0:Wh k ((M:Rat)*0):=by rw[lf];exact Wh.zero k
 cases e:A[i]? with
 | none =>
  rw[CK,show A.getD i []=[] by rw[jb,e];rfl];exact h0
 | some r =>
  rw[OD e,jb];cases e2:r[j]? with
  | none=>exact h0
  | some x=>exact h r (zM e) x (zM e2)
theorem Aqm {m:Nat} (h:m<=10):2*KI m 180<=380000:=by
 rcases (show m=0\/m=1\/m=2\/m=3\/m=4\/m=5\/m=6\/m=7\/m=8\/m=9\/m=10 by omega) with rfl|rfl|rfl|rfl|rfl|rfl|rfl|rfl|rfl|rfl|rfl<;>decide
theorem Apd {A:Y_} {B:Z_} {n M m l:Nat} (hn:n<=4) (hM:1<=M) (fr:M<=2^m) (hm:2*m+2<=180) (hl:2*l<=180)
  (ha : ∀ i j,Wh m ((M:Rat)*CK A i j)) (hb : ∀ i,Wh l ((M:Rat)*bQ B i)):NS (CW n n).length (gM A n) -> ∀ X:Z_,NI A B X n->Bs 380000 X:=by
 have fi:1<=M*M:=Ab hM hM;have hg:=sH (A:=A) ha fr (n:=n);have vj : ∀ y∈gR B n,Wh 180 (((M*M:Nat):Rat)*y):=λ y hy=>by
  obtain ⟨p,_,rfl⟩:=Hb.1 hy;have:=(hb p.1).mul (hb p.2)
  rw[show (M:Rat)*bQ B p.1*((M:Rat)*bQ B p.2)=((M*M:Nat):Rat)*(bQ B p.1*bQ B p.2) by rw[te];grind]at this;exact this.le D'
 intro gj X hX;have h0:((M*M:Nat):Rat)≠0:=λ e=>by
  have:=cg.1 (e.trans (show (0:Rat)=((0:Nat):Rat) from rfl))
  omega
 have Qk:=AgQ (n:=(CW n n).length) (k:=180) (a:=(gM A n).map λ r=>r.map (((M*M:Nat):Rat) * ·)) (b:=(gR B n).map (((M*M:Nat):Rat) * ·)) (c:=X) (by rw[Wa];exact (V4 A).l) (λ r hr=>by
  obtain ⟨s,hs,rfl⟩:=Hb.1 hr;rw[Wa];exact (V4 A).r s hs) (by rw[Wa];exact jV B n) (λ r hr x hx=>by
  obtain ⟨s,hs,rfl⟩:=Hb.1 hr;obtain ⟨y,hy,rfl⟩:=Hb.1 hx;exact (hg s hs y hy).le D') (λ x hx=>by
  obtain ⟨y,hy,rfl⟩:=Hb.1 hx;exact vj y hy) (λ Y hY hk j=>gj Y hY (λ r hr=>by
  have:=hk (r.map (((M*M:Nat):Rat) * ·)) (Hb.2 ⟨r,hr,rfl⟩)
  rw[eV]at this;rcases Ug.1 this with e|e
  ·exact absurd e h0
  ·exact e) j) hX.1 (λ i r s h1 h2=>by
  rw[Wb]at h1 h2;cases e1:(gM A n)[i]? with
  | none=>rw[e1]at h1;cases h1
  | some u =>
   cases e2:(gR B n)[i]? with
   | none=>rw[e2]at h2;cases h2
   | some y =>
    rw[e1]at h1;rw[e2]at h2;obtain rfl:=Vc h1;obtain rfl:=Vc h2;rw[eV,hX.2 i u y e1 e2])
 exact Qk.le (Aqm (tO hn))
theorem Apa {A:Y_} {B:Z_} {n k M m l:Nat} (hn:n<=4) (hA:Sq n A) (hB:B.length=n) (xu:Ms k A) (hBb:Bs k B) (hM:1<=M) (fr:M<=2^m) (hm:2*m+2<=180) (hl:2*l<=180)
  (ha : ∀ i j,Wh m ((M:Rat)*CK A i j)) (hb : ∀ i,Wh l ((M:Rat)*bQ B i)):vI A B n k:=by
 have Lh:M*M<=2^(2*m):=by
  rw[Eg,od];exact Ab fr fr
 have fi:1<=M*M:=Ab hM hM;have hg:=sH (A:=A) ha fr (n:=n);have vj : ∀ y∈gR B n,Wh 180 (((M*M:Nat):Rat)*y):=λ y hy=>by
  obtain ⟨p,_,rfl⟩:=Hb.1 hy;have:=(hb p.1).mul (hb p.2)
  rw[show (M:Rat)*bQ B p.1*((M:Rat)*bQ B p.2)=((M*M:Nat):Rat)*(bQ B p.1*bQ B p.2) by rw[te];grind]at this;exact this.le D'
 have nn : ∀ r∈GT (gM A n) ((gR B n).map λ x=>[x]),∀ x∈r,Wh 180 (((M*M:Nat):Rat)*x):=by
  intro r hr;obtain ⟨i,hi⟩:=Oc hr;rw[GT,pe]at hi;cases e1:(gM A n)[i]? with
  | none=>rw[e1]at hi;cases hi
  | some u =>
   rw[e1,Wb]at hi;cases e2:(gR B n)[i]? with
   | none=>rw[e2]at hi;cases hi
   | some y =>
    rw[e2]at hi;obtain rfl:=Vc hi;intro x hx;rcases ve.1 hx with hx|hx
    ·exact (hg u (zM e1) x hx).le D'
    ·obtain rfl:=xc.1 hx
     exact vj _ (zM e2)
 have bt : ∀ x:Rat,Wh 180 (((M*M:Nat):Rat)*x)->Bt 180 x:=λ x hx=>wD (S:=M*M) D' (uc Lh (Eb D' D')) (by rw[ef];exact hx)
 refine ⟨hA,hB,xu,hBb,λ r hr x hx=>bt x ((hg r hr x hx).le D'),λ x hx=>bt x (vj x hx),λ r hr j => ?_,λ r hr => ?_,Apd hn hM fr hm hl ha hb⟩
 ·exact ((uC fi Lh (k:=180) λ x hx=>nn r hr x (ie hx)).1.bt).le D'
 ·obtain ⟨s,hs,rfl⟩:=Hb.1 hr
  intro x hx;obtain ⟨y,hy,rfl⟩:=Hb.1 hx;exact ((uC fi Lh (k:=180) λ x hx=>nn s hs x hx).2 y hy).bt
theorem AnS (N:lz L) (vj:vI [[Gb 1 2]] [1] 1 10 -> ∃ v,Ev L 324 [.sl false (L6 false [[Gb 1 2]]),.sl false ([(1:Rat)].map eQ)] v/\Ai2 [[Gb 1 2]] [1] 1 v):Ev L 336 [] (.bool true):=by
 have A:ae L:=N.todi.toma.toae;have hO:=ZB A.toa8 1 D';have hF:=rY A.toa8 1 2 D' D';have Pl:=rY A.toa8 4 3 D' D';have hF3:=rY A.toa8 1 3 D' D';have hh:=Apn;have n6 : -(Gb 1 2)≠0:=o_
 have At0:HP (EU 1 [[Gb 1 2]] 0)=true:=by decide +kernel
 have hG:vI [[Gb 1 2]] [1] 1 10:=by
  refine Apa (M:=2) (m:=16) (l:=30) D' ⟨rfl,λ r hr=>by obtain rfl:=xc.1 hr;rfl⟩ rfl (λ r hr x hx => ?_) (λ x hx => ?_) D' D' D' D' (As3 λ r hr x hx => ?_) λ i => ?_
  ·obtain rfl:=xc.1 hr
   obtain rfl:=xc.1 hx;exact hh.le D'
  ·obtain rfl:=xc.1 hx
   exact Bt.one _
  ·obtain rfl:=xc.1 hr
   obtain rfl:=xc.1 hx;exact ⟨1,by decide +kernel,o_⟩
  ·cases i with
   | zero=>exact ⟨2,by decide +kernel,o_⟩
   | succ i=>exact ⟨0,by rw[show bQ [1] (i+1)=0 from rfl,lf];rfl,o_⟩
 have gj:NS (CW 1 1).length (gM [[Gb 1 2]] 1):=by
  intro X hX hk j;match X,hX with
  | [x],_ =>
   have h1:=hk (HC [[Gb 1 2]] 1 (0,0)) (xc.2 rfl);have h2:(Gb 3 4)*x+0=0:=by
    have Hc:gC [[Gb 1 2]] (0,0) (0,0)*x+0=0:=h1;rwa [show gC [[Gb 1 2]] (0,0) (0,0)=Gb 3 4 by decide +kernel]at Hc
   have h3:x=0:=by
    have:(Gb 3 4:Rat)=3/4:=by decide +kernel
    grind
   cases j with
   | zero=>exact h3
   | succ j=>rfl
 have hval : ∀ X:Z_,NI [[Gb 1 2]] [1] X 1->VU ⟨[[Gb 1 2]],[1],[Gb 1 2],1⟩ (kM X 1) 1 0=Gb 4 3/\VU ⟨[[Gb 1 2]],[1],[Gb 1 2],1⟩ (kM X 1) 1 1=Gb 1 3:=by
  intro X hX;have e12:(Gb 1 2:Rat)=1/2:=by decide +kernel
  have e43:(Gb 4 3:Rat)=4/3:=by decide +kernel
  have e13:(Gb 1 3:Rat)=1/3:=by decide +kernel
  have h1:=hX.eq D' 0 0 D' D';have h2:CK [[Gb 1 2]] 0 0=Gb 1 2:=rfl;have h3:bQ [1] 0=1:=rfl;have h4:bQ [Gb 1 2] 0=Gb 1 2:=rfl;simp only[jD,DL,h2,h3]at h1;simp only[VU,LP,DL,J0,h4];rw[e12]at h1 ⊢;rw[e43,e13];generalize CK (kM X 1) 0 0=k at *;constructor<;>grind
 replace vj:=vj hG
 generalize Gb 1 2=h at *;have hN:=mO A.tos9 hh D';have hC:=Ano A hh.ng n6;have j7:G3.Ok ⟨[[h]],[1],[h],1⟩ 1 10:=⟨rfl,λ r hr=>by obtain rfl:=xc.1 hr;rfl,rfl,rfl,hG.ba,hG.bb,λ x hx=>by
  obtain rfl:=xc.1 hx;exact hh.le D',Bt.one _⟩
 obtain ⟨v,h1,hv⟩:=vj;rcases hv with ⟨h3|h3,_⟩|⟨_,_,X,hX,Sb,rfl⟩
 ·have:=h3 0 D'
  rw[At0]at this;cases this
 ·exact absurd gj h3
 obtain ⟨v1,v2⟩:=hval X hX;have hE:=Anp N.tow7 ⟨[[h]],[1],[h],1⟩ 1 j7 D' D' (kM X 1) (nF X 1) (Ys Sb 1) D' h1;have hT:=AnA N.tow7 ⟨[[h]],[1],[h],1⟩ 1 j7 D' D' (kM X 1) (nF X 1) (Ys Sb 1) D' h1;rw[v1]at hE;rw[v2]at hT;have b43:Bt 3 (Gb 4 3):=⟨o_,o_⟩;have b13:Bt 3 (Gb 1 3):=⟨o_,o_⟩;have Lf:=yL A.toa8 b43 b43 D' D';have Rl:=yL A.toa8 b13 b13 D' D';rw[Agv.2 rfl]at Lf Rl;clear v1 v2 hval b43 b13;generalize Gb 4 3=x43 at *;generalize Gb 1 3=x13 at *;refine Ev.x N.bD rfl rfl ?_;repeat' (first|(apply A7<;>intro hc<;>try omega)|refine OA rfl ?_|refine iX rfl rfl ?_|apply AQ|refine AU (hO) ?_|refine AU (hF) ?_|refine AU (Pl) ?_|refine AU (hF3) ?_|refine AU (hN) ?_|refine AU (hC) ?_|refine AU (hE) ?_|refine AU (hT) ?_|refine AU (Lf) ?_|refine AU (Rl) ?_)<;>conv=>whnf
 exact HK rfl
end Go.j4

namespace Go.j4
open F
attribute [local irreducible] AJ A5 BZ A0 FH B2 C6 C9 EO EC E0 HH D6 CT EJ E3 AM CZ BH pw EF DP FF FR F5 F7 E6 DQ GN
variable {L:Lib} {b a:List Int} {d c:Wd}
end Go.j4

namespace Go.j4
open F
attribute [local irreducible] AJ A5 BZ A0 FH B2 C6 C9 EO EC E0 HH D6 CT EJ E3 AM CZ BH pw EF DP FF FR F5 F7 E6 DQ GN
variable {L:Lib} {d c:Wd} {p:List Int}
end Go.j4

namespace Go.j4
open F
attribute [local irreducible] AJ A5 BZ A0 FH B2 C6 C9 EO EC E0 HH D6 CT EJ E3 AM CZ BH pw EF DP FF FR F5 F7 E6 DQ GN
variable {L:Lib}
section
variable {b a:List Int} {d c:Wd}
end
end Go.j4

namespace Go.j4
open F
attribute [local irreducible] AJ A5 BZ A0 FH B2 C6 C9 EO EC E0 HH D6 CT EJ E3 AM CZ BH pw EF DP FF FR F5 F7 E6 DQ GN
set_option maxRecDepth 8000
variable {L:Lib}
section
variable {b a:List Int} {d c:Wd}
end
end Go.j4

namespace Go.j4
open F
attribute [local irreducible] AJ A5 BZ A0 FH B2 C6 C9 EO EC E0 HH D6 CT EJ E3 AM CZ BH pw EF DP FF FR F5 F7 E6 DQ GN
variable {L:Lib}
set_option maxRecDepth 8000
end Go.j4

namespace Go.j4
theorem ApI {cs:d_} (h:KA false tI cs) : ∃ n,cs=Anc n/\vK n:=by obtain ⟨n,rfl,hw⟩:=h;exact ⟨n,rfl,As2 hw⟩
theorem ApK {cs:d_} (h:KA false (.int .u32) cs) : ∃ n:Nat,cs=BK n/\n<4294967296:=by
 obtain ⟨n,rfl,hw⟩:=h;simp only[Lit.wf,Od,decide_eq_true_eq]at hw;have h1:IntKind.u32.min=0:=rfl;have h2:IntKind.u32.max=4294967295:=rfl;rw[h1,h2]at hw;obtain ⟨k,rfl⟩ : ∃ k:Nat,n=k:=⟨n.toNat,D'⟩;exact ⟨k,rfl,D'⟩
abbrev kX:Ty := .sl (.int .u32)
abbrev RL:Ty := .cons (.cons .bool (.cons kX .nil)) (.cons kX .nil)
def BI.Raw (w:BI):Prop:=(CM w.m/\w.m.length<9223372036854775808)/\CM w.d/\w.d.length<9223372036854775808
def BI.sz (w:BI):Nat:=w.m.length+w.d.length
theorem zX {α:Type} {enc:α->d_} {p:α->Prop} {e:Ty} {cs:d_} (g:α->Nat) (he : ∀ x,KA false e x -> ∃ y,x=enc y/\p y/\g y<=HX e x) (h:KA false (.sl e) cs) : ∃ l:List α,cs=[.sl false (l.map enc)]/\(l.length<9223372036854775808 /\ ∀ y∈l,p y)/\(l.map g).sum<=HX (.sl e) cs:=by
 obtain ⟨es,rfl,hl,hx⟩:=h;obtain ⟨l,rfl,hp⟩:=Afh (enc:=enc) (p:=λ y=>p y/\g y<=HX e (enc y)) λ x hm=>by
  obtain ⟨y,h1,h2,h3⟩:=he x (hx x hm);exact ⟨y,h1,h2,h1 ▸ h3⟩
 refine ⟨l,rfl,⟨?_,λ y hy=>(hp y hy).1⟩,?_⟩
 ·have:maxLen=9223372036854775807:=rfl
  simp at hl;omega
 ·simp only[HX,Vd]
  have : ∀ l:List α,(∀ y∈l,g y<=HX e (enc y))->(l.map g).sum<=(l.map (HX e ∘ enc)).sum:=λ l=>by
   induction l with
   | nil=>intro _;exact Ub _
   | cons y l ih =>
    intro h;simp only[Pc,Ve];exact Nat.add_le_add (h y Sc) (ih λ z hz=>h z (ec _ hz))
  exact uc (this l λ y hy=>(hp y hy).2) (Nat.le_succ _)
theorem AsG {α:Type} (l:List α):(l.map λ_=>1).sum=l.length:=by
 induction l with
 | nil=>rfl
 | cons a l ih=>rw[Pc,Ve,ih,gg,Kg]
theorem AeJ {cs:d_} (h:KA false kX cs) : ∃ l:a_,cs=[.sl false (l.map BK)]/\(l.length<9223372036854775808 /\ ∀ d∈l,d<4294967296)/\l.length<=HX kX cs:=by
 obtain ⟨l,h1,h2,h3⟩:=zX (enc:=BK) (p:=λ n=>n<4294967296) (λ_=>1) (λ x hx=>by
  obtain ⟨n,h1,h2⟩:=ApK hx;exact ⟨n,h1,h2,Ub _⟩) h
 rw[AsG]at h3;exact ⟨l,h1,h2,h3⟩
theorem AeK {cs:d_} (h:KA false RL cs) : ∃ w:BI,cs=eW w/\w.Raw/\w.sz<=HX RL cs:=by
 obtain ⟨_,_,rfl,⟨_,_,rfl,⟨b,rfl⟩,_,_,rfl,h1,rfl⟩,_,_,rfl,h2,rfl⟩:=h;obtain ⟨m,rfl,⟨l1,d1⟩,z1⟩:=AeJ h1;obtain ⟨d,rfl,⟨l2,d2⟩,z2⟩:=AeJ h2;refine ⟨⟨b,m,d⟩,rfl,⟨⟨d1,l1⟩,d2,l2⟩,?_⟩;have e:HX RL ([AV.bool b]++([AV.sl false (m.map BK)]++[])++([AV.sl false (d.map BK)]++[]))=(1+(HX kX [AV.sl false (m.map BK)]+0))+(HX kX [AV.sl false (d.map BK)]+0):=rfl;rw[e];show m.length+d.length<=_;omega
abbrev Abw:Ty := .cons (.sl (.sl RL)) (.cons (.sl RL) (.cons (.sl RL) (.cons RL .nil)))
def GJ (r:List BI):Nat:=(r.map BI.sz).sum
def FU.sz (S:FU):Nat:=(S.a.map GJ).sum+(GJ S.b+(GJ S.c+S.d.sz))
def lL (r:List BI):Prop:=r.length<9223372036854775808 /\ ∀ w∈r,w.Raw
def FU.Raw (S:FU):Prop:=(S.a.length<9223372036854775808 /\ ∀ r∈S.a,lL r)/\lL S.b/\lL S.c/\S.d.Raw
theorem zV {cs:d_} (h:KA false (.sl RL) cs) : ∃ r:List BI,cs=[.sl false (r.map eW)]/\lL r/\GJ r<=HX (.sl RL) cs:=zX BI.sz (λ_=>AeK) h
theorem ApJ {cs:d_} (h:KA false Abw cs) : ∃ S:FU,cs=J3 S/\S.Raw/\S.sz<=HX Abw cs:=by
 obtain ⟨_,_,rfl,ha,_,_,rfl,hb,_,_,rfl,hc,_,_,rfl,hd,rfl⟩:=h;obtain ⟨a,rfl,ra,za⟩:=zX (enc:=λ r:List BI=>[AV.sl false (r.map eW)]) (p:=lL) GJ (λ_=>zV) ha;obtain ⟨b,rfl,rb,zb⟩:=zV hb;obtain ⟨c,rfl,rc,zc⟩:=zV hc;obtain ⟨d,rfl,rd,zd⟩:=AeK hd;refine ⟨⟨a,b,c,d⟩,by rw[xd];rfl,⟨ra,rb,rc,rd⟩,?_⟩;have e:HX Abw ([AV.sl false (a.map λ r:List BI=>[AV.sl false (r.map eW)])]++([AV.sl false (b.map eW)]++([AV.sl false (c.map eW)]++(eW d++[]))))=HX (.sl (.sl RL)) [AV.sl false (a.map λ r:List BI=>[AV.sl false (r.map eW)])]+(HX (.sl RL) [AV.sl false (b.map eW)]+(HX (.sl RL) [AV.sl false (c.map eW)]+(HX RL (eW d)+0))):=rfl;rw[e];show (a.map GJ).sum+(GJ b+(GJ c+d.sz))<=_;omega
theorem Z1 {r:List BI} {w:BI} (h:w∈r):w.sz<=GJ r:=by
 induction r with
 | nil=>cases h
 | cons a r ih =>
  show _<=a.sz+(r.map BI.sz).sum;rcases Ed.1 h with rfl|h
  ·omega
  ·have:=ih h
   rw[GJ]at this;omega
theorem uR {α:Type} {g:α->Nat} {l:List α} {x:α} (h:x∈l):g x<=(l.map g).sum:=by
 induction l with
 | nil=>cases h
 | cons a l ih =>
  rw[Pc,Ve];rcases Ed.1 h with rfl|h
  ·omega
  ·have:=ih h;omega
theorem kL {w:BI} {T:Nat} (h:w.Raw) (hz:w.sz<=T) (hT:T<=68719476736):w.Fit (32*T):=by
 have:w.m.length+w.d.length<=T:=hz
 exact BI.Sz.fit (k:=T) ⟨⟨h.1.1,D'⟩,h.2.1,D'⟩ hT
theorem oJ {w:BI} (h:w.Raw):Bt (32*w.sz) w.v:=BI.bt (k:=w.sz) ⟨⟨h.1.1,by show _<=w.m.length+w.d.length;omega⟩,h.2.1,by show _<=w.m.length+w.d.length;omega⟩
theorem rI : ∀ a b:Z_,IJ (a++b)=IJ a*IJ b
 | [],b=>by rw[ye,IJ,Nat.one_mul]
 | x::a,b=>by rw[List.cons_append,IJ,IJ,rI a b,Pg]
theorem mH : ∀ r:List BI,(∀ w∈r,w.Raw)->IJ (r.map BI.v)<=2^(32*GJ r)
 | [],_=>pg
 | w::r,h=>by
  have e:32*GJ (w::r)=32*w.sz+32*GJ r:=by show 32*(w.sz+GJ r)=_;omega
  rw[Pc,IJ,e,od];exact Ab (oJ (h w Sc)).2 (mH r λ x hx=>h x (ec _ hx))
theorem rJ : ∀ a:List (List BI),(∀ r∈a,∀ w∈r,w.Raw)->IJ (vM a).flatten<=2^(32*(a.map GJ).sum)
 | [],_=>pg
 | r::a,h=>by
  have e:32*((r::a).map GJ).sum=32*GJ r+32*(a.map GJ).sum:=by rw[Pc,Ve];omega
  rw[show (vM (r::a)).flatten=r.map BI.v++(vM a).flatten from rfl,rI,e,od];exact Ab (mH r (h r Sc)) (rJ a λ x hx=>h x (ec _ hx))
theorem FU.fit {S:FU} {T:Nat} (h:S.Raw) (hz:S.sz<=T) (hT:T<=68719476736):S.Fit (32*T):=by
 obtain ⟨ra,rb,rc,rd⟩:=h;have ru:(S.a.map GJ).sum+(GJ S.b+(GJ S.c+S.d.sz))<=T:=hz;refine ⟨λ r hr x hx => ?_,λ x hx => ?_,λ x hx => ?_,kL rd D' hT⟩
 ·have h1:=Z1 hx
  have h2:=uR (g:=GJ) hr;exact kL ((ra.2 r hr).2 x hx) D' hT
 ·have h1:=Z1 hx
  exact kL (rb.2 x hx) D' hT
 ·have h1:=Z1 hx
  exact kL (rc.2 x hx) D' hT
theorem FU.den {S:FU} {T:Nat} (h:S.Raw) (hz:S.sz<=T):IJ (S.v.a.flatten++S.v.b)<=2^(32*T)/\IJ S.v.a.flatten<=2^(32*T):=by
 obtain ⟨ra,rb,rc,rd⟩:=h;have ru:(S.a.map GJ).sum+(GJ S.b+(GJ S.c+S.d.sz))<=T:=hz;have h1:=rJ S.a λ r hr w hw=>(ra.2 r hr).2 w hw
 have h2:=mH S.b rb.2;constructor
 ·rw[show S.v.a.flatten++S.v.b=(vM S.a).flatten++S.b.map BI.v from rfl,rI]
  refine uc (Ab h1 h2) ?_;rw[<-od];exact Eb D' D'
 ·exact uc h1 (Eb D' D')
end Go.j4

namespace Go.j4
open F
variable {L:Lib}
def eA (M:Mem):Mem->Prop
 | []=>True
 | (k,s,c)::r=>c7 M k=some (s,c)/\eA M r
theorem eA.get {M:Mem} : ∀ {M0:Mem},eA M M0 -> ∀ k s c,c7 M0 k=some (s,c)->c7 M k=some (s,c)
 | [],_,_,_,_,e=>by cases e
 | (i,s0,c0)::r,h,k,s,c,e=>by
  simp only[c7]at e;cases hb:Uf k i<;>simp only[hb,cond_true,cond_false]at e
  ·exact eA.get h.2 k s c e
  ·rw[DY.1 hb,<-e];exact h.1
theorem LO.sub {σ:JF} {own:BF} {M M0:Mem} (h:LO σ own M) (hm:eA M M0):LO σ own M0:=by
 have hr : ∀ k t c,b7 M0 k t=some c->b7 M k t=some c:=λ k t c e=>by
  obtain ⟨s,c0,g,_⟩:=LR e;have g2:=hm.get k s c0 g;unfold b7 at e ⊢;rw[g]at e;rw[g2];exact e
 exact ⟨λ k s c e=>h.site k s c (hm.get k s c e),λ k t c e=>h.g8 k t c (hr k t c e),λ k t c e=>h.old k t c (hr k t c e),λ k t k' t' c c' e e'=>h.inj k t k' t' c c' (hr k t c e) (hr k' t' c' e'),λ k t c e=>h.low k t c (hr k t c e)⟩
theorem AbO {f:Nat} {vs:d_} {tm:Tm} {M:Mem} {K:AV->Mem->Prop} (h:CZ L f vs tm M λ r M' => ∃ M1,eA M' M1/\K r M1):CZ L f vs tm M K:=by
 intro σ own hs;obtain ⟨r,m8,σ',M',h1,h2,h3,M1,h4,h5⟩:=h σ own hs;exact ⟨r,m8,σ',M1,h1,h2.sub h4,h3,h5⟩
def tE (ks:a_):AV->Bool
 | .row k t _ _ _=>Uf t 0&&RG k ks
 | .ptr k t _ _=>Uf t 0&&RG k ks
 | _=>true
def nN (ks:a_):d_->Bool
 | []=>true
 | v::r=>tE ks v&&nN ks r
def Xx (ks:a_):AV->Bool
 | .agg cs=>nN ks cs
 | .fn _ _ _ cs=>nN ks cs
 | v=>tE ks v
def tF (ks:a_):d_->Bool
 | []=>true
 | v::r=>Xx ks v&&tF ks r
def Xy (ks:a_):AV->Bool
 | .e9 vs=>tF ks vs
 | v=>Xx ks v
def tG (ks:a_):Tm->Bool
 | []=>true
 | (_,v)::r=>Xy ks v&&tG ks r
theorem Afl {k:Nat} : ∀ {l:a_},RG k l=true->k∈l
 | [],h=>by cases h
 | j::r,h=>by
  simp only[RG]at h;cases hb:Uf k j<;>simp only[hb,cond_true,cond_false]at h
  ·exact ec _ (Afl h)
  ·rw[DY.1 hb];exact Sc
section
variable {ks:a_} {σ σ':JF} (hs : ∀ k∈ks,σ' k 0=σ k 0)
include hs
theorem oU {v:AV} (h:tE ks v=true):C3 σ' v=C3 σ v:=by
 cases v<;>try rfl
 all_goals
  simp only[tE,Od]at h;have h1:=DY.1 h.1;have h2:=hs _ (Afl h.2);subst h1;simp only[C3,h2]
theorem Abt : ∀ {l:d_},nN ks l=true->l.map (C3 σ')=l.map (C3 σ)
 | [],_=>rfl
 | v::r,h=>by
  simp only[nN,Od]at h;rw[Pc,Pc,oU hs h.1,Abt h.2]
theorem Abr {v:AV} (h:Xx ks v=true):DM σ' v=DM σ v:=by
 cases v with
 | agg cs=>simp only[DM];rw[Abt hs h]
 | fn p f g cs=>simp only[DM];rw[Abt hs h]
 | row k t z o n=>exact oU hs (v := .row k t z o n) h
 | ptr k t i j=>exact oU hs (v := .ptr k t i j) h
 | _=>rfl
theorem AgW : ∀ {l:d_},tF ks l=true->l.map (DM σ')=l.map (DM σ)
 | [],_=>rfl
 | v::r,h=>by
  simp only[tF,Od]at h;rw[Pc,Pc,Abr hs h.1,AgW h.2]
theorem Ass {v:AV} (h:Xy ks v=true):DJ σ' v=DJ σ v:=by
 cases v with
 | e9 vs=>simp only[DJ];rw[AgW hs h]
 | agg cs=>exact Abr hs (v := .agg cs) h
 | fn p f g cs=>exact Abr hs (v := .fn p f g cs) h
 | row k t z o n=>exact oU hs (v := .row k t z o n) h
 | ptr k t i j=>exact oU hs (v := .ptr k t i j) h
 | _=>rfl
end
theorem AfM {ks:a_} : ∀ {tm:Tm},tG ks tm=true -> ∀ j,Xy ks (tg tm j)=true
 | [],_,_=>rfl
 | (i,v)::r,h,j=>by
  simp only[tG,Od]at h;simp only[tg];cases hb:Uf j i<;>simp only[cond_true,cond_false]
  ·exact AfM h.2 j
  ·exact h.1
def pF:Nat->a_->Tm
 | _,[]=>[]
 | i,k::r=>(i,.ptr k 0 0 0)::pF (i+1) r
abbrev uS (ks:a_):Tm:=pF 0 ks
theorem Ahc : ∀ {ks:a_} {i k:Nat},k∈ks -> ∃ j,i<=j/\tg (pF i ks) j = .ptr k 0 0 0
 | [],_,_,h=>by cases h
 | j::r,i,k,h=>by
  rcases Ed.1 h with rfl|e
  ·exact ⟨i,Ub _,by simp [pF,tg]⟩
  ·obtain ⟨a,h1,h2⟩:=Ahc (i:=i+1) e
   refine ⟨a,D',?_⟩;simp only[pF,tg];rw[JN.2 (show a≠i by omega),cond_false];exact h2
theorem AbP {f:Nat} {vs:d_} {tm:Tm} {M:Mem} {K:AV->Mem->Prop} (ks:a_) (M0:Mem) (hm:eA M M0) (ht:tG ks tm=true) (h:CZ L f vs (uS ks) M0 K):CZ L f vs tm M K:=by
 intro σ own hs;obtain ⟨r,m8,σ',M',h1,h2,h3,h4⟩:=h σ own (hs.sub hm);refine ⟨r,m8,σ',M',h1,h2,λ j => ?_,h4⟩;refine Ass (λ k hk => ?_) (AfM ht j);obtain ⟨j,_,hj⟩:=Ahc (i:=0) hk;have:=h3 j
 rw[show tg (uS ks) j=_ from hj]at this;simp only[DJ,DM,C3,AV.ptr.injEq]at this;exact Prod.ext this.1 this.2.1
end Go.j4

namespace Go.j4
open F
attribute [local irreducible] AJ A5 BZ A0 FH B2 C6 C9 EO EC E0 HH D6 CT EJ E3 AM CZ BH pw EF DP FF FR F5 F7 E6 DQ GN
variable {L:Lib}
def V1 (p:Rat) (t:List BI):List BI:=t.map λ x=>WF (x.v/p)
def LC (f:Rat) (r t:List BI):List BI:=List.zipWith (λ x y=>WF (x.v-f*y.v)) r t
theorem Ahm (p:Rat) (t:List BI):(V1 p t).map BI.v=(t.map BI.v).map (· / p):=by
 simp only[V1,Vd,fe,kT]
theorem Zp (f:Rat) : ∀ r t:List BI,(LC f r t).map BI.v=Bc f (r.map BI.v) (t.map BI.v)
 | [],_=>by simp [LC,Bc]
 | _::_,[]=>by simp [LC,Bc]
 | x::r,y::t=>by
  have:=Zp f r t
  simp only[LC,Bc,uf,Pc,kT]at this ⊢;rw[this]
theorem Ak6 {f:Rat} {r t:List BI} (h:r.length=t.length):(LC f r t).length=r.length:=by simp [LC,h]
theorem Ak4 {f:Rat} {r t:List BI} {j:Nat} {x y:BI} (hx:r[j]? = some x) (hy:t[j]? = some y):(LC f r t)[j]? = some (WF (x.v-f*y.v)):=by
 rw[LC,pe,hx,hy]
theorem AcQ {f:Rat} : ∀ {r t:List BI} {z:BI},z∈LC f r t -> ∃ x∈r,∃ y∈t,z=WF (x.v-f*y.v)
 | [],_,_,h=>by simp [LC]at h
 | _::_,[],_,h=>by simp [LC]at h
 | x::r,y::t,z,h=>by
  simp only[LC,uf]at h;rcases Ed.1 h with rfl|h
  ·exact ⟨x,Sc,y,Sc,rfl⟩
  ·obtain ⟨a,ha,b,hb,e⟩:=AcQ (r:=r) (t:=t) h
   exact ⟨a,ec _ ha,b,ec _ hb,e⟩
theorem uW (m:List (List BI)) (i:Nat) (r:List BI):vM (m.set i r)=(vM m).set i (r.map BI.v):=by
 rw[vM,vM,Bd]
theorem Ahl {m:List (List BI)} {i:Nat} {r:Z_} (h:(vM m)[i]? = some r) : ∃ s,m[i]? = some s/\s.map BI.v=r:=by
 rw[vM,Wb]at h;cases hm:m[i]? with
 | none=>rw[hm]at h;cases h
 | some s=>rw[hm]at h;exact ⟨s,rfl,Vc h⟩
theorem sG {r:List BI} {c:Nat} {x:BI} (h:r[c]? = some x):(r.map BI.v).getD c 0=x.v:=by
 rw[jb,lC h];rfl
theorem BI.Fit.le {w:BI} {k l:Nat} (h:w.Fit k) (hl:k<=l):w.Fit l:=⟨h.1.le hl,h.2⟩
theorem FQ.at {k:Nat} {m:List (List BI)} {i:Nat} {r:List BI} (h:FQ k m) (hr:m[i]? = some r) : ∀ x∈r,x.Fit k:=h r (zM hr)
theorem FQ.le {k l:Nat} {m:List (List BI)} (h:FQ k m) (hl:k<=l):FQ l m:=λ r hr x hx=>(h r hr x hx).le hl
theorem nJ {z:Nat} {m:List (List BI)} {i:Nat} {r:List BI} (h:m[i]? = some r):(DD z eW m)[i]? = some (some (z,r.map eW)):=by
 simp only[DD,Wb,h,Option.map_some]
theorem AqX {z:Nat} {m:List (List BI)} {i j:Nat} {a b:List BI}:((DD z eW m).set i (some (z,b.map eW))).set j (some (z,a.map eW))=DD z eW ((m.set i b).set j a):=by
 simp only[DD,Bd]
theorem AnL (N:s9 L) {x y:BI} (hx:x.Sz 68719476736) (hy:y.Sz 68719476736) (h0:y.v≠0):Ev L 154 [.agg (eW x),.agg (eW y)] (.e9 [.agg (eQ (x.v/y.v)),.int .i64 0]):=by
 obtain ⟨a1,a2,a3,du,s1,s2,s3,s5⟩:=W4 N.toa8 x.n false x.m x.d 68719476736 D' hx.1 hx.2;obtain ⟨b1,b2,b3,il,t1,t2,t3,t5⟩:=W4 N.toa8 y.n false y.m y.d 68719476736 D' hy.1 hy.2;have l1:=s1.2;have l2:=s2.2;have l3:=t1.2;have l4:=t2.2;have s5':x.v=mkRat (zv a1 a2) (val a3):=by rw[BI.v];exact s5
 have t5':y.v=mkRat (zv b1 b2) (val b3):=by rw[BI.v];exact t5
 have Bg:zv b1 b2≠0:=λ h=>h0 (by rw[t5',h,Rat.zero_mkRat])
 have hS:=λ q=>mP N.toa8 b1 q b2 (t1.le D')
 have Ce:ah (zv b1 b2)≠0:=by unfold ah;split<;>(try split)<;>omega
 have fi:=λ q q'=>ZA N.toa8 a1 false q q' a2 b3 s1.1 t2.1 D'
 have fr:=λ q q'=>ZA N.toa8 false b1 q q' a3 b2 s2.1 t1.1 D'
 have g1:Sm (68719476736+68719476736) (dg (zv a1 a2*zv false b3).natAbs):=ZY s1 t2;have g2:Sm (68719476736+68719476736) (dg (zv false a3*zv b1 b2).natAbs):=ZY s2 t1;have hR:=λ q q'=>mQ N.toa8 (decide (zv a1 a2*zv false b3<0)) (decide (zv false a3*zv b1 b2<0)) q q' _ _ (g1.le D') (g2.le D')
 rw[JE,JE]at hR;have he:x.v/y.v=Gb (zv a1 a2*zv false b3) (zv false a3*zv b1 b2):=by rw[s5',t5',AqI s3 t3 Bg,II,II]
 rw[he];generalize ah (zv b1 b2)=sg at *;refine Ev.x N.cX rfl rfl ?_;repeat' (first|(apply A7<;>intro hc<;>try omega)|apply iS|apply AQ|refine AU (du) ?_|refine AU (il) ?_|refine AU (hS _) ?_|refine AU (fi _ _) ?_|refine AU (fr _ _) ?_|refine AU (hR _ _) ?_)<;>conv=>whnf
 exact B1 rfl (by simp only[CI,ES,and_true,true_and];exact ⟨EW _,EW _⟩)
theorem Aoi (N:eg L) {x y:BI} (hx:x.Sz 68719476736) (hy:y.Sz 68719476736) (h0:y.v≠0):Ev L 276 [.agg (eW x),.agg (eW y)] (.agg (eQ (x.v/y.v))):=by
 have hD:=AnL N.tos9 hx hy h0;refine Ev.x N.dC rfl rfl ?_;repeat' (first|(apply A7<;>intro hc<;>try omega)|apply AQ|refine AU (hD) ?_)<;>conv=>whnf
 exact B1 rfl (GD _)
theorem AoQ (N:s9 L) {x:BI} {y:Rat} {l:Nat} (hx:x.Sz 68719476736) (hy:Bt l y) (hl:l<2199023255552):Ev L 153 [.agg (eW x),.agg (eQ y)] (.agg (eQ (x.v-y))):=by
 have hn:Bt l (-y):=⟨by rw[Ig,Sg];exact hy.1,by rw[Hg];exact hy.2⟩;have hN:=mO N hy hl;have hA:=AnH N.toa8 hx (jU hn hl).2 (Ub _) (Ub _);rw[kT,<-zg]at hA;have hA':Ev L 126 [.agg (eW x),.agg (eQ (-y))] (.agg (eQ (x.v-y))):=hA;refine Ev.x N.U9 rfl rfl ?_;repeat' (first|apply AQ|refine AU (hN) ?_|refine AU (hA') ?_)<;>conv=>whnf
 exact B1 rfl (GD _)
theorem AdT (N:a8 L) {d:Rat} {y:BI} {l:Nat} (hd:Bt l d) (hy:y.Sz 68719476736) (hl:l<2199023255552):Ev L 128 [.agg (eQ d),.agg (eW y)] (.agg (eQ (d*y.v))):=by
 have:=aQ N (jU hd hl).2 hy (Ub _) (Ub _)
 rw[kT]at this;exact this
theorem Aef (N:s9 L) {x:BI} (hx:x.Sz 68719476736) : ∃ s:Int,Ev L 155 [.agg (eW x)] (.int .i64 s)/\(s=0↔x.v=0) :=
 ⟨_,AoN N hx (Ub _),ZU⟩
structure RZ (T:Y_) (n w K:Nat) (P:a_) (c:Nat) (d:Rat) (t:List BI) (m:List (List BI)) (i:Nat):Prop where
 re:GO T n w (vM m) P c d
 ht:m[P.length]? = some t
 one:(t.map BI.v).getD c 0=1
 dn : ∀ (q:Nat) (r:List BI),q<i->q≠P.length->m[q]? = some r->(r.map BI.v).getD c 0=0
 lo : ∀ (q:Nat) (r:List BI),q<i->m[q]? = some r -> ∀ x∈r,x.Fit (4*K+1)
 hi : ∀ (q:Nat) (r:List BI),i<=q->q≠P.length->m[q]? = some r -> ∀ x∈r,x.Fit K
 bt : ∀ x∈t,x.Fit (2*K)
section
variable {T:Y_} {n w K:Nat} {P:a_} {c:Nat} {d:Rat} {m:List (List BI)} {t:List BI}
theorem RZ.start {pw:BI} (h:GO T n w (vM m) P c d) (hk:m[P.length]? = some t) (hpc:t[c]? = some pw) (hp:pw.v≠0) (hM:FQ K m) (hK:K<=10000000000):RZ T n w K P c (d*pw.v) (V1 pw.v t) (m.set P.length (V1 pw.v t)) 0:=by
 have Ae:=(zS hk).1;have Gg:=hM.at hk;have hsc:=h.scale (J5 hk) hp;rw[<-Ahm,<-uW]at hsc;refine ⟨hsc,by rw[Cc,if_pos rfl,if_pos Ae],?_,λ q r h1=>absurd h1 D',λ q r h1=>absurd h1 D',λ q r _ h2 hq => ?_,λ y hy => ?_⟩
 ·rw[Ahm,Ada,sG hpc,Rat.div_def,Rat.mul_inv_cancel _ hp]
 ·rw[Cc,if_neg (Ne.symm h2)]at hq
  exact hM.at hq
 ·obtain ⟨z,hz,rfl⟩:=Hb.1 hy
  exact jU (((Gg z hz).1.Gz (Gg pw (zM hpc)).1).le D') D'
theorem RZ.same {i:Nat} (h:RZ T n w K P c d t m i) (hz:i≠P.length -> ∀ r,m[i]? = some r->(r.map BI.v).getD c 0=0):RZ T n w K P c d t m (i+1):=by
 refine ⟨h.re,h.ht,h.one,λ q r h1 h2 hq => ?_,λ q r h1 hq => ?_,λ q r h1=>h.hi q r D',h.bt⟩
 ·by_cases e:q=i
  ·subst e;exact hz h2 r hq
  ·exact h.dn q r D' h2 hq
 ·by_cases e:q=i
  ·by_cases e2:q=P.length
   ·subst e2
    cases h.ht.symm.trans hq;exact λ y hy=>(h.bt y hy).le D'
   ·exact λ y hy=>(h.hi q r D' e2 hq y hy).le D'
  ·exact h.lo q r D' hq
theorem RZ.step {i:Nat} {r:List BI} {fw:BI} (h:RZ T n w K P c d t m i) (hi:m[i]? = some r) (hf:r[c]? = some fw) (uk:i≠P.length) (hK:K<=10000000000):RZ T n w K P c d t (m.set i (LC fw.v r t)) (i+1):=by
 have dw:=(zS hi).1;have ff:=h.re.bj.lr _ (zM (J5 hi));have gp:=h.re.bj.lr _ (zM (J5 h.ht));have hrt:(r.map BI.v).length=(t.map BI.v).length:=D'
 have je : ∀ (q:Nat) (x:List BI),(m.set i (LC fw.v r t))[q]? = some x->(q=i/\x=LC fw.v r t)\/(q≠i/\m[q]? = some x):=λ q x hx=>by
  rw[Cc]at hx;by_cases e:i=q
  ·rw[if_pos e,if_pos D']at hx
   exact Or.inl ⟨e.symm,(Vc hx).symm⟩
  ·rw[if_neg e]at hx
   exact Or.inr ⟨Ne.symm e,hx⟩
 have hre:=h.re.Bc fw.v (J5 h.ht) (J5 hi) uk;rw[<-Zp,<-uW]at hre;refine ⟨hre,by rw[Cc,if_neg uk];exact h.ht,h.one,?_,?_,?_,h.bt⟩
 ·intro q x h1 h2 hx
  rcases je q x hx with ⟨e1,rfl⟩|⟨e1,h3⟩
  ·rw[Zp,AcS hrt,h.one,sG hf];grind
  ·exact h.dn q x D' h2 h3
 ·intro q x h1 hx
  rcases je q x hx with ⟨e1,rfl⟩|⟨e1,h3⟩
  ·intro y hy
   obtain ⟨a,ha,b,Dk,rfl⟩:=AcQ hy;have Se:=h.hi i r (Ub _) uk hi;exact jU (((Se a ha).1.yo ((Se fw (zM hf)).1.mul (h.bt b Dk).1)).le D') D'
  ·exact h.lo q x D' h3
 ·intro q x h1 h2 hx
  rcases je q x hx with ⟨e1,rfl⟩|⟨e1,h3⟩
  ·omega
  ·exact h.hi q x D' h2 h3
theorem RZ.fin (h:RZ T n w K P c d t m n):GO T n w (vM m) (P++[c]) (c+1) d/\FQ (4*K+1) m:=by
 have gx:m.length=n:=by have:=h.re.len;rwa [vM,Wa]at this
 have n7 : ∀ (q:Nat) (r:List BI),m[q]? = some r->q<n:=λ q r hq=>by
  have:=(zS hq).1
  omega
 refine ⟨h.re.Bp (J5 h.ht) h.one λ q r h1 hq => ?_,λ r hr => ?_⟩
 ·obtain ⟨s,hs,rfl⟩:=Ahl hq
  exact h.dn q s (n7 q s hs) h1 hs
 ·obtain ⟨q,hq⟩:=Oc hr
  exact h.lo q r (n7 q r hq) hq
end
def bM:Bool->Mem
 | false=>[]
 | true=>[(2,2,.bx [.bool false,.nil,.nil])]
def bK:Bool->a_
 | false=>[]
 | true=>[2]
def bT:Bool->Tm
 | false=>[]
 | true=>[(1000+(0+1),.ptr 2 0 0 0)]
theorem ArD (xb:Bool) (N:eg L) (T:Y_) (n w n9 K:Nat) (hn:1<=n/\n<=10) (hw:1<=w/\w<=20) (hK:K<=10000000000) {m:List (List BI)} {P:a_} {k c:Nat} {d d0:Rat} {t:List BI} {pw:BI} (hPk:P.length=k) (hR:GO T n w (vM m) P c d0) (hM:FQ K m) (Te:k<n) (Bi:c<w) (ht:m[k]? = some t) (hpc:t[c]? = some pw) (hp:pw.v≠0) {kk:List It} {Q:Tm->Mem->Prop}
  (gm : ∀ m2:List (List BI),GO T n w (vM m2) (P++[c]) (c+1) (d0*pw.v)->FQ (4*K+1) m2->AJ L (.lp LV.l1 :: .g8 0::kk) ([(8,.int .i64 ((c+1:Nat):Int)),(6,.int .i64 ((k+1:Nat):Int)),(7,.ptr 901007 0 0 0),(5,.ptr 901005 0 0 0),(0,.row 277003 0 1 0 n),(0+1,.int .i64 n9)]++((1000+0,.ptr 277003 0 0 0)::bT xb)) ([(277003,277003,.mx (DD 3 eW m2)),(901007,901007,.bx (eQ d)),(901005,901005,.bx [.bool false,.nil,.nil])]++bM xb) Q) :
  AJ L (.lp LV.l3 :: .g8 4 :: .code ((((DE.ops LV.Ov false).dr [10,82,83,84,102] []).seq (DE.block 6 LV.l4.loop)).seq ((DE.ops LV.Ow false).dr [103,104,105,155,156] [])) :: .g8 1 :: .code ((DE.ops LV.r4 false).dr [9,25,26,48] []) :: .lp LV.l1 :: .g8 0::kk)
   ([(83,.int .i64 ((0:Nat):Int)),(82,.int .i64 (w:Nat)),(10,.ptr 901010 0 0 0),(8,.int .i64 c),(6,.int .i64 k),(7,.ptr 901007 0 0 0),(5,.ptr 901005 0 0 0),(0,.row 277003 0 1 0 n),(0+1,.int .i64 n9)]++((1000+0,.ptr 277003 0 0 0)::bT xb))
   ([(277003,277003,.mx (DD 3 eW m)),(901007,901007,.bx (eQ d)),(901010,901010,.bx (eW pw)),(901005,901005,.bx [.bool false,.nil,.nil])]++bM xb) Q:=by
 cases xb;all_goals
  subst hPk;have gx:m.length=n:=by have:=hR.len;rwa [vM,Wa]at this
  have gp:t.length=w:=by have:=hR.bj.lr _ (zM (J5 ht));rwa [Wa]at this
  have Gg:=hM.at ht;have Ue:=Gg pw (zM hpc);have Ll:=RZ.start hR ht hpc hp hM hK;have Lk:=nJ (z:=3) ht;have hRn:(DD 3 eW m).length=n:=by simp only[DD,Wa];omega
  have Po:(DD 3 eW m).set P.length (some (3,(V1 pw.v t).map eW))=DD 3 eW (m.set P.length (V1 pw.v t)):=by simp only[DD,Bd]
  have Sl:(V1 pw.v t).length=w:=by rw[V1,Wa];exact gp
  have zk : ∀ (j:Nat) (x:BI),t[j]? = some x->(V1 pw.v t)[j]? = some (WF (x.v/pw.v)):=λ j x hx=>by rw[V1,Wb,hx];rfl
  have Jf:=λ(x:BI) (hx:x∈t)=>Aoi N (Gg x hx).2 Ue.2 hp
  generalize V1 pw.v t=u at *;generalize Qd:pw.v=pv at *;refine iP (l:=[_,_]) rfl ?_;generalize DD 3 eW m=R0 at *;have He:R0.set P.length (some (3,t.map eW))=R0:=Zv Lk;refine GV (λ j=>w-j) (λ(j:Nat)=>j<=w) (λ j=>[(83,.int .i64 j)]) (λ j=>[(277003,277003,.mx (R0.set P.length (some (3,(u.take j++t.drop j).map eW))))]) [] [] 0 (by first|exact w_|(rw[cd,Ee,ye,He];exact w_)) D' ?_;intro j j1 jh;have q5:(u.take j++t.drop j).length=w:=by rw[oc,Sa,Ud];omega
  by_cases hj:j<w
  ·obtain ⟨x,hx⟩:=X_ t j
   have Ti:=Zg (a:=u) D' hx;have um:=Zh (a:=u) (b:=t) D' (zk j x hx);have hO:=Jf x (zM hx);generalize u.take j++t.drop j=cm at *;repeat' (first|(apply A7<;>intro hc<;>try omega)|(apply CB;omega)|apply AQ)<;>conv=>whnf
   refine dY D' D' ?_;conv=>whnf
   repeat' (first|(apply CB;omega)|fail)<;>conv=>whnf
   refine dY D' D' ?_;conv=>whnf
   skip
   refine CB U_ ?_;conv=>whnf
   skip
   refine YS D' D' ?_;conv=>whnf
   repeat' (first|(refine KX ?_ (λ_=>rfl) (λ v hv => ?_);omega)|fail)<;>conv=>whnf
   cases Ti.symm.trans hv;(repeat' (refine AU (hO) ?_<;>conv=>whnf))
   refine CB U_ ?_;conv=>whnf
   skip
   refine YS D' D' ?_;conv=>whnf
   refine LB (enc:=eW) (WF (x.v/pv)) rfl (λ_=>rfl) D' ?_;rw[um];conv=>whnf
   refine qF D' (by rw[Wa,Wa,<-um,yc]) ?_;conv=>whnf
   repeat' (first|(apply B5;omega)|fail)<;>conv=>whnf
   exact DB [] (jh (j+1) D' D')
  ·have ej:j=w:=D'
   clear jh;rw[ej,zT D',Ad D',xd,Po];clear q5 hj j1 ej j Po Lk hRn He zk Sl;have pd:(m.set P.length u).length=n:=by rw[yc];exact gx
   generalize m.set P.length u=m2 at *;repeat' (first|(apply A7<;>intro hc<;>try omega)|apply AQ)<;>conv=>whnf
   refine iP (l:=[_,_]) rfl ?_;clear ht hM Gg hR gx Ue gp Jf hpc hp Qd;have yh:u.length=w:=by have:=Ll.re.bj.lr _ (zM (J5 Ll.ht));rwa [Wa]at this
   have zs:=Ll.bt;refine LJ (λ_ i=>n-i) (λ(m:List (List BI)) (i:Nat)=>RZ T n w K P c (d0*pv) u m i/\i<=n) (λ_ i=>[(104,.int .i64 i)]) (λ m _=>[(277003,277003,.mx (DD 3 eW m))]) m2 0 ⟨Ll,D'⟩ ?_;clear Ll pd;intro m i ⟨hS,i1⟩ ih;have gx:m.length=n:=by have:=hS.re.len;rwa [vM,Wa]at this
   by_cases hi:i<n
   ·obtain ⟨rq,mr⟩:=X_ m i
    have Cs:rq.length=w:=by have:=hS.re.bj.lr _ (zM (J5 mr));rwa [Wa]at this
    have Af : ∀ x∈rq,x.Fit (2*K):=by
     by_cases e:i=P.length
     ·have h1:=hS.ht
      rw[<-e]at h1;cases h1.symm.trans mr;exact zs
     ·exact λ y hy=>(hS.hi i rq (Ub _) e mr y hy).le D'
    obtain ⟨fw,yg⟩:=X_ rq c;have Fx:=Af fw (zM yg);obtain ⟨sg,Hj,hz⟩:=Aef N.tos9 Fx.2;by_cases uk:i=P.length
    ·have m4:=hS.same (λ h=>absurd uk h)
     repeat' (first|(apply A7<;>intro hc<;>try omega)|(apply CB;omega)|(refine KB ?_ (λ r hr => ?_);omega)|apply AQ)<;>conv=>whnf
     cases mr.symm.trans hr;refine CB U_ ?_;conv=>whnf
     repeat' (first|(apply A7<;>intro hc<;>try omega)|(apply B5;omega)|(refine KX ?_ (λ_=>rfl) (λ v hv => ?_);omega)|refine K6 G' ?_)<;>conv=>whnf
     exact DB [] (ih m (i+1) D' ⟨m4,D'⟩)
    ·by_cases Ce:sg=0
     ·have hf0:=hz.1 Ce
      have m4:=hS.same (λ_ r h=>by cases mr.symm.trans h;rw[sG yg];exact hf0);repeat' (first|(apply A7<;>intro hc<;>try omega)|(apply CB;omega)|(refine KB ?_ (λ r hr => ?_);omega)|apply AQ)<;>conv=>whnf
      cases mr.symm.trans hr;refine CB U_ ?_;conv=>whnf
      repeat' (first|(apply A7<;>intro hc<;>try omega)|(refine KX ?_ (λ_=>rfl) (λ v hv => ?_);omega)|refine K6 G' ?_)<;>conv=>whnf
      cases yg.symm.trans hv;repeat' (first|(apply A7<;>intro hc<;>try omega)|(apply B5;omega)|refine AU (Hj) ?_)<;>conv=>whnf
      exact DB [] (ih m (i+1) D' ⟨m4,D'⟩)
     ·have m4:=hS.step mr yg uk hK
      have Lk:=nJ (z:=3) mr;have hRk:=nJ (z:=3) hS.ht;have hRn:(DD 3 eW m).length=n:=by simp only[DD,Wa];omega
      have Po:(DD 3 eW m).set i (some (3,(LC fw.v rq u).map eW))=DD 3 eW (m.set i (LC fw.v rq u)):=by simp only[DD,Bd]
      have q5:(LC fw.v rq u).length=w:=by rw[Ak6 D'];exact Cs
      have wq : ∀ (j:Nat) (x y:BI),rq[j]? = some x->u[j]? = some y->(LC fw.v rq u)[j]? = some (WF (x.v-fw.v*y.v)):=λ j x y h1 h2=>Ak4 h1 h2
      generalize LC fw.v rq u=cb at *;repeat' (first|(apply A7<;>intro hc<;>try omega)|(apply CB;omega)|(refine KB ?_ (λ r hr => ?_);omega)|apply AQ)<;>conv=>whnf
      cases mr.symm.trans hr;refine CB U_ ?_;conv=>whnf
      repeat' (first|(apply A7<;>intro hc<;>try omega)|(refine KX ?_ (λ_=>rfl) (λ v hv => ?_);omega)|refine K6 G' ?_)<;>conv=>whnf
      cases yg.symm.trans hv;repeat' (first|(apply A7<;>intro hc<;>try omega)|(apply CB;omega)|(refine KB ?_ (λ r hr => ?_);omega)|refine AU (Hj) ?_)<;>conv=>whnf
      cases mr.symm.trans hr;rw[show (rq.map eW).length=w by rw[Wa];exact Cs];generalize DD 3 eW m=R1 at *;have He:R1.set i (some (3,rq.map eW))=R1:=Zv Lk;refine GV (λ j=>w-j) (λ(j:Nat)=>j<=w) (λ j=>[(127,.int .i64 j)]) (λ j=>[(277003,277003,.mx (R1.set i (some (3,(cb.take j++rq.drop j).map eW))))]) [] [] 0 (by first|exact w_|(rw[cd,Ee,ye,He];exact w_)) D' ?_;intro j j1 jh;have AtX:(cb.take j++rq.drop j).length=w:=by rw[oc,Sa,Ud];omega
      by_cases hj:j<w
      ·obtain ⟨x,hx⟩:=X_ rq j
       obtain ⟨y,hy⟩:=X_ u j;have Ti:=Zg (a:=cb) D' hx;have um:=Zh (a:=cb) (b:=rq) D' (wq j x y hx hy);have Es:=zs y (zM hy);have Rp:=aQ N.toa8 Fx.2 Es.2 (Ub _) (Ub _);have Rz:=AoQ N.tos9 (Af x (zM hx)).2 (Fx.1.mul Es.1) D';generalize cb.take j++rq.drop j=cm at *;have Ru:(R1.set i (some (3,cm.map eW)))[P.length]? = some (some (3,u.map eW)):=by rw[Cc,if_neg uk];exact hRk
       repeat' (first|(apply A7<;>intro hc<;>try omega)|(apply CB;omega)|apply AQ)<;>conv=>whnf
       refine dY D' D' ?_;conv=>whnf
       repeat' (first|(apply CB;omega)|fail)<;>conv=>whnf
       refine dY D' D' ?_;conv=>whnf
       skip
       refine CB U_ ?_;conv=>whnf
       skip
       refine YS D' D' ?_;conv=>whnf
       repeat' (first|(apply CB;omega)|(refine KX ?_ (λ_=>rfl) (λ v hv => ?_);omega))<;>conv=>whnf
       cases Ti.symm.trans hv;skip
       refine Ai3 (r:=some (3,u.map eW)) (by rw[show 0+((P.length:Nat):Int).toNat=P.length by omega];exact Ru) ?_;conv=>whnf
       skip
       refine CB U_ ?_;conv=>whnf
       skip
       refine pW (by rw[show 0+((P.length:Nat):Int).toNat=P.length by omega];exact Ru) ?_;conv=>whnf
       repeat' (first|(refine KX ?_ (λ_=>rfl) (λ v hv => ?_);omega)|fail)<;>conv=>whnf
       cases hy.symm.trans hv;repeat' (first|refine AU (Rp) ?_|refine AU (Rz) ?_)<;>conv=>whnf
       refine CB U_ ?_;conv=>whnf
       skip
       refine YS D' D' ?_;conv=>whnf
       refine LB (enc:=eW) (WF (x.v-fw.v*y.v)) rfl (λ_=>rfl) D' ?_;rw[um];conv=>whnf
       refine qF D' (by rw[Wa,Wa,<-um,yc]) ?_;conv=>whnf
       repeat' (first|(apply B5;omega)|fail)<;>conv=>whnf
       exact DB [] (jh (j+1) D' D')
      ·have ej:j=w:=D'
       clear jh;rw[ej,zT D',Ad D',xd,Po];repeat' (first|(apply A7<;>intro hc<;>try omega)|(apply B5;omega)|apply AQ)<;>conv=>whnf
       exact DB [] (ih (m.set i cb) (i+1) D' ⟨m4,D'⟩)
   ·have ei:i=n:=D'
    rw[ei]at hS;obtain ⟨g1,g2⟩:=hS.fin;clear ih;repeat' (first|(apply A7<;>intro hc<;>try omega)|(apply B5;omega)|apply AQ)<;>conv=>whnf
    exact EA [] w_ (gm m g1 g2)
theorem ArC (xb:Bool) (N:eg L) (T:Y_) (n w n9 k0:Nat) (hn:1<=n/\n<=10) (hw:1<=w/\w<=20) (q5:n9<=w/\n9<=10) (hB:10*JX k0 n9<=100000000000) {m0:List (List BI)} (Jl:GO T n w (vM m0) [] 0 1) (Rm:FQ k0 m0) {kk:List It} {Q:Tm->Mem->Prop}
  (gm : ∀ (m:List (List BI)) (P:a_) (c:Nat) (d:Rat),GO T n w (vM m) P c d->c<=n9->(n9<=c\/n<=P.length)->FQ (JX k0 n9) m->Bt 100000000000 d->AJ L kk ([(8,.int .i64 c),(6,.int .i64 (P.length:Nat)),(7,.ptr 901007 0 0 0),(5,.ptr 901005 0 0 0),(0,.row 277003 0 1 0 n),(0+1,.int .i64 n9)]++((1000+0,.ptr 277003 0 0 0)::bT xb)) ([(277003,277003,.mx (DD 3 eW m)),(901007,901007,.bx (eQ d)),(901005,901005,.bx [.bool false,.nil,.nil])]++bM xb) Q) :
  AJ L (.lp LV.l1 :: .g8 0::kk) ([(8,.int .i64 ((0:Nat):Int)),(6,.int .i64 ((0:Nat):Int)),(7,.ptr 901007 0 0 0),(5,.ptr 901005 0 0 0),(0,.row 277003 0 1 0 n),(0+1,.int .i64 n9)]++((1000+0,.ptr 277003 0 0 0)::bT xb)) ([(277003,277003,.mx (DD 3 eW m0)),(901007,901007,.bx (eQ ((1:Int):Rat))),(901005,901005,.bx [.bool false,.nil,.nil])]++bM xb) Q:=by
 have hTl := @ArD L xb N T n w n9;cases xb;all_goals
  refine iP (l:=[_,_]) rfl ?_;refine pI (λ_ c _ _=>n9-c) (λ(m:List (List BI)) (c:Nat) (P:a_) (d:Rat)=>GO T n w (vM m) P c d/\c<=n9/\FQ (JX k0 c) m/\Bt (c*JX k0 n9) d) (λ_ c P _=>[(8,.int .i64 c),(6,.int .i64 (P.length:Nat))]) (λ m _ _ d=>[(277003,277003,.mx (DD 3 eW m)),(901007,901007,.bx (eQ d))]) [24] [] m0 0 [] ((1:Int):Rat) w_ ⟨Jl,D',Rm,Bt.one _⟩ ?_;intro m c P d ⟨hR,AtY,hM,hd⟩ eh;have gx:m.length=n:=by have:=hR.len;rwa [vM,Wa]at this
  have hkc:=hR.bj.le;have hKc:=Agb k0 (c:=c) (n9-c);rw[show c+(n9-c)=n9 by omega]at hKc;have hcX:c*JX k0 n9<=10*JX k0 n9:=zR _ D';have Fm:(P++[c]).length=P.length+1:=p_
  have Jg:P.length<=n:=by have:=hR.bj.pl;have:=hR.len;omega
  by_cases Bi:c<n9/\P.length<n
  ·repeat' (first|(apply A7<;>intro hc<;>try omega)|apply AQ)<;>conv=>whnf
   refine FP (λ i=>n-i) (λ(i:Nat)=>P.length<=i/\i<=n /\ ∀ (q:Nat) (r:List BI),P.length<=q->q<i->m[q]? = some r->(r.map BI.v).getD c 0=0) (λ i=>[(9,.int .i64 i)]) (λ_=>[]) P.length ⟨Ub _,D',λ q r h1 h2=>absurd h2 D'⟩ ?_;intro i ⟨i1,i2,i3⟩ ih;by_cases hi:i<n
   ·obtain ⟨rp,z7⟩:=X_ m i
    have ff:rp.length=w:=by have:=hR.bj.lr _ (zM (J5 z7));rwa [Wa]at this
    obtain ⟨rc,oe⟩:=X_ rp c;have Di:=hM.at z7 rc (zM oe);obtain ⟨sg,Hj,hz⟩:=Aef N.tos9 Di.2;by_cases Ce:sg=0
    ·repeat' (first|(apply A7<;>intro hc<;>try omega)|(apply CB;omega)|(refine KB ?_ (λ r hr => ?_);omega)|apply AQ)<;>conv=>whnf
     cases z7.symm.trans hr;refine CB U_ ?_;conv=>whnf
     repeat' (first|(refine KX ?_ (λ_=>rfl) (λ v hv => ?_);omega)|refine K6 G' ?_)<;>conv=>whnf
     cases oe.symm.trans hv;repeat' (first|(apply A7<;>intro hc<;>try omega)|(apply B5;omega)|refine AU (Hj) ?_)<;>conv=>whnf
     have i4 : ∀ (q:Nat) (r:List BI),P.length<=q->q<i+1->m[q]? = some r->(r.map BI.v).getD c 0=0:=λ q r h1 h2 h3=>by
      by_cases e:q=i
      ·subst e
       cases z7.symm.trans h3;rw[sG oe];exact hz.1 Ce
      ·exact i3 q r h1 D' h3
     exact DB [] (ih (i+1) D' ⟨D',D',i4⟩)
    ·clear ih i3
     have Tw:rc.v≠0:=λ e=>Ce (hz.2 e)
     obtain ⟨t,Kh⟩:=X_ m P.length;by_cases uk:i=P.length
     ·have Rp:=AdT N.toa8 hd Di.2 D'
      have hdB:Bt ((c+1)*JX k0 n9) (d*rc.v):=(hd.mul Di.1).le (by rw[Re];omega);subst uk;repeat' (first|(apply A7<;>intro hc<;>try omega)|(apply CB;omega)|(refine KB ?_ (λ r hr => ?_);omega)|apply AQ)<;>conv=>whnf
      cases z7.symm.trans hr;refine CB U_ ?_;conv=>whnf
      repeat' (first|(refine KX ?_ (λ_=>rfl) (λ v hv => ?_);omega)|refine K6 G' ?_)<;>conv=>whnf
      cases oe.symm.trans hv;repeat' (first|(apply A7<;>intro hc<;>try omega)|(apply CB;omega)|(refine KB ?_ (λ r hr => ?_);omega)|refine AU (Hj) ?_)<;>conv=>whnf
      cases z7.symm.trans hr;refine CB U_ ?_;conv=>whnf
      repeat' (first|(refine KX ?_ (λ_=>rfl) (λ v hv => ?_);omega)|refine K6 G' ?_)<;>conv=>whnf
      cases oe.symm.trans hv;repeat' (first|(apply CB;omega)|(refine KB ?_ (λ r hr => ?_);omega)|refine AU (Rp) ?_)<;>conv=>whnf
      cases z7.symm.trans hr;rw[show (rp.map eW).length=w by rw[Wa];exact ff];exact EA [] w_ (hTl (JX k0 c) hn hw D' rfl hR hM Bi.2 D' z7 oe Tw λ m2 g1 g2=>by rw[<-Fm];exact EA [] w_ (eh m2 (c+1) (P++[c]) _ D' ⟨g1,D',g2,hdB⟩))
     ·have hNg:=mO N.tos9 hd D'
      have Rp:=AdT N.toa8 (Bt.Fi hd) Di.2 D';have hdB:Bt ((c+1)*JX k0 n9) (-d*rc.v):=((Bt.Fi hd).mul Di.1).le (by rw[Re];omega);refine Ah4 24 ?_;conv=>whnf
      repeat' (first|(apply A7<;>intro hc<;>try omega)|(apply CB;omega)|(refine KB ?_ (λ r hr => ?_);omega))<;>conv=>whnf
      cases z7.symm.trans hr;refine CB U_ ?_;conv=>whnf
      repeat' (first|(refine KX ?_ (λ_=>rfl) (λ v hv => ?_);omega)|refine K6 G' ?_)<;>conv=>whnf
      cases oe.symm.trans hv;repeat' (first|(apply A7<;>intro hc<;>try omega)|(apply CB;omega)|(refine KB ?_ (λ r hr => ?_);omega)|refine K6 G' ?_|refine AU (Hj) ?_)<;>conv=>whnf
      refine CB ⟨rfl,by simp only[DD,Wa];omega⟩ ?_;conv=>whnf
      repeat' (first|(apply CB;omega)|refine K6 G' ?_)<;>conv=>whnf
      rw[show 0+((i:Nat):Int).toNat=i by omega,show 0+((P.length:Nat):Int).toNat=P.length by omega];refine CB ⟨rfl,by simp only[DD,Wa,yc,List.length_range];omega,Ahw (by simp only[DD,Wa];omega)⟩ ?_;conv=>whnf
      refine AbK (k:=277003) (i:=i) (j:=P.length) rfl (nJ z7) (nJ Kh) rfl rfl ?_;rw[AqX];have Pn:=hR.swap (J5 z7) (J5 Kh) D';rw[<-uW,<-uW]at Pn;have fr:FQ (JX k0 c) ((m.set i t).set P.length rp):=λ x hx=>by
       rcases Gd hx with h|rfl
       ·rcases Gd h with h|rfl
        ·exact hM x h
        ·exact hM.at Kh
       ·exact hM.at z7
      have pc:((m.set i t).set P.length rp)[P.length]? = some rp:=by rw[Cc,if_pos rfl,if_pos (by rw[yc];omega)]
      have Hw:((m.set i t).set P.length rp).length=n:=by rw[yc,yc];exact gx
      generalize (m.set i t).set P.length rp=m1 at *;repeat' (first|(apply CB;omega)|(refine KB ?_ (λ r hr => ?_);omega)|apply AQ|refine AU (hNg) ?_)<;>conv=>whnf
      cases pc.symm.trans hr;refine CB U_ ?_;conv=>whnf
      repeat' (first|(refine KX ?_ (λ_=>rfl) (λ v hv => ?_);omega)|refine K6 G' ?_)<;>conv=>whnf
      cases oe.symm.trans hv;repeat' (first|(apply CB;omega)|(refine KB ?_ (λ r hr => ?_);omega)|refine AU (Rp) ?_)<;>conv=>whnf
      cases pc.symm.trans hr;rw[show (rp.map eW).length=w by rw[Wa];exact ff];exact EA [] w_ (hTl (JX k0 c) hn hw D' rfl Pn fr Bi.2 D' pc oe Tw λ m2 g1 g2=>by rw[<-Fm];exact EA [] w_ (eh m2 (c+1) (P++[c]) _ D' ⟨g1,D',g2,hdB⟩))
   ·have ei:i=n:=D'
    clear ih;have hR9:=hR.skip λ q r h1 h3=>by
     obtain ⟨s,hs,rfl⟩:=Ahl h3;exact i3 q s D' (by have:=(zS hs).1;omega) hs
    clear i3;repeat' (first|(apply A7<;>intro hc<;>try omega)|(apply B5;omega)|apply AQ)<;>conv=>whnf
    exact EA [] w_ (eh m (c+1) P d D' ⟨hR9,D',hM.le (show JX k0 c<=4*JX k0 c+1 by omega),hd.le (zR _ D')⟩)
  ·clear eh
   have ix:n9<=c\/n<=P.length:=D'
   repeat' (first|(apply A7<;>intro hc<;>try omega)|apply AQ)<;>conv=>whnf
   all_goals exact EA [] w_ (gm m P c d hR AtY ix (hM.le hKc) (hd.le D'))
theorem AkP (xb:Bool) (N:eg L) (T:Y_) (n w n9 k0:Nat) (hn:1<=n/\n<=10) (hw:1<=w/\w<=20) (q5:n9<=w/\n9<=10) (hB:10*JX k0 n9<=100000000000) {m0:List (List BI)} (Jl:GO T n w (vM m0) [] 0 1) (Rm:FQ k0 m0) {K:AV->Mem->Prop}
  (hK : ∀ (m:List (List BI)) (P:a_) (c:Nat) (d:Rat),GO T n w (vM m) P c d->c<=n9->(n9<=c\/n<=P.length)->FQ (JX k0 n9) m->Bt 100000000000 d->K (.e9 [.int .i64 (P.length:Nat),.agg (eQ d)]) ((277003,277003,.mx (DD 3 eW m))::bM xb)) :
  CZ L 901 [.row 277003 0 1 0 n,.int .i64 (n9:Nat)] (uS (277003::bK xb)) ((277003,277003,.mx (DD 3 eW m0))::bM xb) K:=by
 have hMn := @ArC L xb N T n w n9 k0;cases xb;all_goals
  have hI:=ZB N.toa8 1 D';have gx:m0.length=n:=by have:=Jl.len;rwa [vM,Wa]at this
  refine AbO ?_;refine J1 1000 N.LV rfl rfl ?_;repeat' (first|apply AQ|refine AU (hI) ?_)<;>conv=>whnf
  refine EA [] w_ (hMn hn hw q5 hB Jl Rm (λ m P c d h1 h2 h3 h4 h5 => ?_));have hk:=hK m P c d h1 h2 h3 h4 h5;(repeat' (apply AQ<;>conv=>whnf))
  refine ⟨rfl,?_⟩;conv=>whnf
  refine ⟨_,?_,hk⟩;first|exact ⟨rfl,trivial⟩|exact ⟨rfl,rfl,trivial⟩
end Go.j4

namespace Go.j4
open F
attribute [local irreducible] AJ A5 BZ A0 FH B2 C6 C9 EO EC E0 HH D6 CT EJ E3 AM CZ BH pw EF DP FF FR F5 F7 E6 DQ GN
variable {L:Lib}
set_option maxRecDepth 8000
theorem AqY (z:Nat) (m:Y_):DD z eW (wM m)=DD z eQ m:=by
 simp only[DD,wM,Vd,fe,V2]
theorem AkO (xb:Bool) (N:eg L) (q1 q2:Bool) (aw:List (List BI)) (n w k:Nat) (kn:aw.length=n) (jr : ∀ r∈aw,r.length=w) (hn:n<=52) (hw:w<=52) (Dr:FQ k aw) {K:AV->Mem->Prop} (hK:K (.row 277003 0 1 0 n) ((277003,277003,.mx (DD 3 eQ (vM aw)))::bM xb)) :
  CZ L 277 [.sl q1 (FW q2 aw)] (uS (bK xb)) (bM xb) K:=by
 obtain ⟨a,ax⟩ : ∃ a,vM aw=a:=⟨_,rfl⟩;rw[ax]at hK;have ig:a.length=n:=ax ▸ Z2 kn;have AtQ : ∀ (i:Nat) (r:List BI),aw[i]? = some r->a[i]? = some (r.map BI.v):=λ i r h=>ax ▸ J5 h
 cases xb;all_goals
  refine AbO ?_;refine K5 1000 N.VF rfl rfl ?_;repeat' (first|apply BW|apply AQ)<;>conv=>whnf
  refine pJ 277003 277003 rfl ?_;refine FP (λ i=>n-i) (λ(i:Nat)=>i<=n) (λ i=>[(11,.int .i64 i),(3,.row 277003 0 1 0 i)]) (λ i=>[(277003,277003,.mx (DD 3 eQ (a.take i)))]) 0 D' ?_;intro i p1 ih;have Wm:(a.take i).length=i:=by rw[Sa];omega
  by_cases hi:i<n
  ·obtain ⟨ra,rm⟩:=X_ aw i
   have nh:aw[(i:Int).toNat]? = some ra:=rm;have ff:=jr ra (zM rm);have ri:=Dr.at rm;have hts:=oY (AtQ i ra rm);have Au5 : ∀ (j:Nat) (x:BI),ra[j]? = some x->(ra.map BI.v)[j]? = some x.v:=λ j x h=>lC h
   have qm:(ra.map BI.v).length=w:=by rw[Wa];exact ff
   generalize a.take i=R0 at *;generalize ra.map BI.v=r at *;repeat' (first|(apply A7<;>intro hc<;>try omega)|apply BW|(refine CU G' ?_ rfl ?_;omega)|apply AQ)<;>conv=>whnf
   refine FP (λ j=>w-j) (λ(j:Nat)=>j<=w) (λ j=>[(17,.int .i64 j),(6,.row 277006 0 3 0 j)]) (λ j=>[(277006,277006,.rw 3 ((r.take j).map eQ))]) 0 D' ?_;intro j p2 jh;have Oh:(r.take j).length=j:=by rw[Sa];omega
   by_cases hj:j<w
   ·obtain ⟨x,hx⟩:=X_ ra j
    have ni:ra[(j:Int).toNat]? = some x:=hx;have um:=oY (Au5 j x hx);have hT:=zC N.toa8 (ri x (zM hx)).2 (Ub _);generalize r.take j=M0 at *;repeat' (first|(apply A7<;>intro hc<;>try omega)|(refine CU G' ?_ rfl ?_;omega)|apply HL|apply AQ|refine AU (hT) ?_)<;>conv=>whnf
    refine H9 (enc:=eQ) x.v rfl Oh.symm rfl D' D' ?_;conv=>whnf
    repeat' (first|(apply B5;omega)|fail)<;>conv=>whnf
    rw[<-um,show (r.take (j+1)).length=j+1 by rw[Sa];omega];exact DB [(277006,277025)] (jh (j+1) D' D')
   ·obtain rfl:j=w:=D'
    clear jh;rw[zT D'];repeat' (first|(apply A7<;>intro hc<;>try omega)|apply AQ)<;>conv=>whnf
    refine CB (by rw[Wa,qm]) ?_;refine pL (r:=r) (en:=eQ) Wm.symm D' D' ?_;rw[<-hts,show (a.take (i+1)).length=i+1 by rw[Sa];omega];conv=>whnf
    repeat' (first|(apply B5;omega)|fail)<;>conv=>whnf
    exact DB [(277003,277030)] (ih (i+1) D' D')
  ·obtain rfl:i=n:=D'
   clear ih;rw[zT D'];repeat' (first|(apply A7<;>intro hc<;>try omega)|apply AQ)<;>conv=>whnf
   refine ⟨rfl,_,rfl,?_⟩;conv=>whnf
   refine ⟨_,?_,hK⟩;first|exact ⟨rfl,trivial⟩|exact ⟨rfl,rfl,trivial⟩
theorem Asl (m:Y_) (n k:Nat):N7 (m.map (·.drop n)) k=N7 m (n+k):=by
 simp only[N7,Vd,fe];exact Nf λ r _=>by rw[jb,Bf,<-jb]
def Aca (a b:Y_) (n W:Nat) (v:AV):Prop :=
 (¬ NS n a/\v = .e9 [.sl false [],.int .i64 11])\/(NS n a /\ ∃ U:Y_,v = .e9 [.sl false (eM U),.int .i64 0]/\U.length=n/\(∀ r∈U,r.length=W)/\Ms 100000000000 U /\ ∀ k,k<W -> ∀ (i:Nat) (r s:Z_),a[i]? = some r->b[i]? = some s->B4 r (N7 U k)=s.getD k 0)
theorem AnJ (N:eg L) (q1 q2 q3 q4:Bool) (aw bw:List (List BI)) (n W k:Nat) (kn:aw.length=n) (jr : ∀ r∈aw,r.length=n) (ny:bw.length=n) (vg : ∀ r∈bw,r.length=W) (Dt:FQ k bw) (hn:1<=n/\n<=10) (hW:1<=W/\W<=10) (Dr:FQ k aw) (hk:k<=1000000000) (hB:10*JX k n<=100000000000) :
  ∃ v,Ev L 278 [.sl q1 (FW q2 aw),.sl q3 (FW q4 bw)] v/\Aca (vM aw) (vM bw) n W v:=by
 obtain ⟨a,ax⟩ : ∃ a,vM aw=a:=⟨_,rfl⟩;obtain ⟨b,fc⟩ : ∃ b,vM bw=b:=⟨_,rfl⟩;rw[ax,fc];have ig:a.length=n:=ax ▸ Z2 kn;have ud : ∀ r∈a,r.length=n:=ax ▸ iJ jr;have tz:Ms k a:=ax ▸ Dr.ms;have ue:b.length=n:=fc ▸ Z2 ny;have Dm : ∀ r∈b,r.length=W:=fc ▸ iJ vg;have Qm:vM (HV (wM a) bw)=GT a b:=by rw[Zo,Z3,fc]
 have Hs:(HV (wM a) bw).length=n:=AeX (vC ig) ny;obtain ⟨Mz,My⟩:=AeW (vD ud) vg (FQ.of tz D') Dt;have Jl:GO (GT a b) n (n+W) (vM (HV (wM a) bw)) [] 0 1:=by
  have h1:=Z2 Hs;have h2:=iJ Mz;rw[Qm]at h1 h2 ⊢;exact GO.start h1 h2
 have Er:(wM a).length=n:=vC ig;have hww:=vD ud;refine Ev.xE N.QU rfl rfl ?_;(repeat' (apply AQ<;>conv=>whnf))
 refine AbP [] [] trivial rfl (AkO false N q1 q2 aw n n k kn jr D' D' Dr ?_);rw[ax,<-AqY];conv=>whnf
 skip
 rw[show (DD 3 eW (wM a))=DD 3 eW ((HV (wM a) bw).take 0++(wM a).drop 0) by rw[cd,Ee,ye]];refine FP (λ j=>n-j) (λ(j:Nat)=>j<=n) (λ j=>[(19,.int .i64 j)]) (λ j=>[(277003,277003,.mx (DD 3 eW ((HV (wM a) bw).take j++(wM a).drop j)))]) 0 D' ?_;intro j p2 jh;have gx:((HV (wM a) bw).take j++(wM a).drop j).length=n:=by rw[oc,Sa,Ud];omega
 by_cases hj:j<n
 ·obtain ⟨r,z7⟩:=X_ (wM a) j
  obtain ⟨s,jn⟩:=X_ bw j;have AuT:bw[(j:Int).toNat]? = some s:=jn;have ff:=hww r (zM z7);have Gf:=vg s (zM jn);have hRj:=Zg (a:=HV (wM a) bw) D' z7;have hRs:=Zh (a:=HV (wM a) bw) (b:=wM a) D' (Yr z7 jn);generalize (HV (wM a) bw).take j++(wM a).drop j=R0 at *;repeat' (first|(apply A7<;>intro hc<;>try omega)|(apply CB;omega)|(refine CU G' ?_ rfl ?_;omega)|(refine KB ?_ (λ r hr => ?_);omega)|refine K6 G' ?_|apply AQ)<;>conv=>whnf
  cases hRj.symm.trans hr;refine pO (enc:=eW) (by rw[Wa]) (λ_=>rfl) D' D' ?_;intro s' v;conv=>whnf
  repeat' (first|(apply CB;omega)|fail)<;>conv=>whnf
  refine CB ⟨rfl,by rw[Wa]⟩ ?_;refine iW (i:=j) D' (by rw[yc];simp only[DD,Wa];omega) ?_;rw[show 0+((j:Int)).toNat=j by omega,Dd,show (DD 3 eW R0).set j (some (3,(r++s).map eW))=DD 3 eW (R0.set j (r++s)) by simp only[DD,Bd],hRs];conv=>whnf
  repeat' (first|(apply B5;omega)|fail)<;>conv=>whnf
  exact DB [] (jh (j+1) D' D')
 ·have ej:j=n:=D'
  clear jh;rw[ej,zT D',Ad D',xd];repeat' (first|(apply A7<;>intro hc<;>try omega)|apply BW|apply AQ)<;>conv=>whnf
  rw[kn];refine AbP [277003] [(277003,277003,.mx (DD 3 eW (HV (wM a) bw)))] ⟨rfl,trivial⟩ rfl (AkP false N (GT a b) n (n+W) n k hn D' D' hB Jl My (λ m P c d h1 h2 h3 h4 h5 => ?_));have Hw:m.length=n:=by have:=h1.len;rwa [vM,Wa]at this
  have gj:=h1.ns D' ud h2 h3;by_cases pc:P.length<n
  ·repeat' (first|(apply A7<;>intro hc<;>try omega)|apply BW)<;>conv=>whnf
   refine ⟨_,B1 rfl (by simp only[CI,ES,J6,true_and,and_true]),Or.inl ⟨λ h => ?_,rfl⟩⟩;have:=gj.2 h
   omega
  ·have Jg:P.length=n:=by have:=h1.bj.pl;rw[h1.len]at this;omega
   have gm : ∀ r:AV,r = .e9 [.sl false (eM ((vM m).map (·.drop n))),.int .i64 0]->Aca a b n W r:=λ r hr=>Or.inr ⟨gj.1 Jg,(vM m).map (·.drop n),hr,by rw[Wa];exact h1.len,λ x hx=>by
    obtain ⟨y,hy,rfl⟩:=Hb.1 hx;rw[Ud,h1.bj.lr y hy];omega,λ x hx z hz=>by
    obtain ⟨y,hy,rfl⟩:=Hb.1 hx;exact (h4.ms y hy z (List.mem_of_mem_drop hz)).le D',λ k2 pc i r s hr hs=>by
    rw[Asl];exact h1.sol D' ud Dm h2 Jg pc hr hs⟩
   have Ft:((vM m).map (·.drop n)).length=n:=by rw[Wa];exact h1.len
   have AtH : ∀ (q:Nat) (r:List BI),m[q]? = some r->((vM m).map (·.drop n))[q]? = some ((r.map BI.v).drop n):=λ q r hq=>by rw[Wb,J5 hq];rfl
   repeat' (first|(apply A7<;>intro hc<;>try omega)|apply BW)<;>conv=>whnf
   refine pJ 10 10 rfl ?_;generalize (vM m).map (·.drop n)=U at *;refine FP (λ i=>n-i) (λ(i:Nat)=>i<=n) (λ i=>[(48,.int .i64 i),(10,.row 10 0 1 0 i)]) (λ i=>[(10,10,.mx (DD 3 eQ (U.take i)))]) 0 D' ?_;intro i i1 ih;have Au2:(U.take i).length=i:=by rw[Sa];omega
   by_cases zm:i<n
   ·obtain ⟨rp,z7⟩:=X_ m i
    have ff:rp.length=n+W:=by have:=h1.bj.lr _ (zM (J5 z7));rwa [Wa]at this
    have ri:=h4.at z7;have hut:=oY (AtH i rp z7);have Sl:((rp.map BI.v).drop n).length=W:=by rw[Ud,Wa];omega
    have zk : ∀ (j:Nat) (x:BI),rp[n+j]? = some x->((rp.map BI.v).drop n)[j]? = some x.v:=λ j x hx=>by rw[Bf,lC hx]
    generalize U.take i=R0 at *;generalize (rp.map BI.v).drop n=rd at *;repeat' (first|(apply A7<;>intro hc<;>try omega)|(apply CB;omega)|apply BW|(refine KB ?_ (λ r hr => ?_);omega)|apply AQ)<;>conv=>whnf
    cases z7.symm.trans hr;refine AiG n D' U_ ?_;rw[Wa,ff];conv=>whnf
    skip
    refine FP (λ j=>W-j) (λ(j:Nat)=>j<=W) (λ j=>[(59,.int .i64 j),(12,.row 12 0 3 0 j)]) (λ j=>[(12,12,.rw 3 ((rd.take j).map eQ))]) 0 D' ?_;intro j j1 jh;have Oh:(rd.take j).length=j:=by rw[Sa];omega
    by_cases hj:j<W
    ·obtain ⟨x,hx⟩:=X_ rp (n+j)
     have um:=oY (zk j x hx);have Vr:=zC N.toa8 (ri x (zM hx)).2 (Ub _);generalize rd.take j=M0 at *;repeat' (first|(apply A7<;>intro hc<;>try omega)|(apply CB;omega)|refine K6 G' ?_|apply AQ)<;>conv=>whnf
     refine iV (enc:=eW) (e:=x) (l:=rp) (by rw[show 0+n+((j:Nat):Int).toNat=n+j by omega];exact hx) rfl ?_;conv=>whnf
     repeat' (first|apply HL|refine AU (Vr) ?_)<;>conv=>whnf
     refine H9 (enc:=eQ) x.v rfl Oh.symm rfl D' D' ?_;conv=>whnf
     repeat' (first|(apply B5;omega)|fail)<;>conv=>whnf
     rw[<-um,show (rd.take (j+1)).length=j+1 by rw[Sa];omega];exact DB [(12,67)] (jh (j+1) D' D')
    ·have ej:j=W:=D'
     clear jh;rw[ej,zT D'];repeat' (first|(apply A7<;>intro hc<;>try omega)|apply AQ)<;>conv=>whnf
     refine CB (by rw[Wa,Sl]) ?_;refine pL (r:=rd) (en:=eQ) Au2.symm D' D' ?_;rw[<-hut,show (U.take (i+1)).length=i+1 by rw[Sa];omega];conv=>whnf
     repeat' (first|(apply B5;omega)|fail)<;>conv=>whnf
     exact DB [(10,72)] (ih (i+1) D' D')
   ·have ei:i=n:=D'
    clear ih;rw[ei,zT D'];repeat' (first|(apply A7<;>intro hc<;>try omega)|apply AQ)<;>conv=>whnf
    refine ⟨.e9 [.sl false (eM U),.int .i64 0],?_,gm _ rfl⟩;conv=>whnf
    refine RY (λ_=>rfl) rfl Ft.symm ?_;conv=>whnf
    exact B1 rfl (KZ U 0)
theorem Aha {α:Type} {l:List α} {i:Nat} {x:α} (h:l[i]? = some x):l.take (i+1)=l.take i++[x]:=by rw[List.take_add_one,h];rfl
def Acb (a:Y_) (b:Z_) (n:Nat) (v:AV):Prop :=
 (¬ NS n a/\v = .e9 [.sl false [],.int .i64 11])\/(NS n a /\ ∃ y:Z_,v = .e9 [.sl false (y.map eQ),.int .i64 0]/\y.length=n/\Bs 100000000000 y /\ ∀ (i:Nat) (r:Z_) (s:Rat),a[i]? = some r->b[i]? = some s->B4 r y=s)
theorem Aln {U:Y_} (h : ∀ r∈U,r.length=1):U=(N7 U 0).map λ x=>[x]:=by
 induction U with
 | nil=>rfl
 | cons r U ih =>
  have h1:=h r Sc;have h2:=ih λ x hx=>h x (ec _ hx)
  match r,h1 with
  | [x],_=>simp only[N7,Pc]at h2 ⊢;rw[<-h2];rfl
theorem Aot (N:uw L) (q1 q2 q3:Bool) (aw:List (List BI)) (bw:List BI) (n k:Nat) (kn:aw.length=n) (jr : ∀ r∈aw,r.length=n) (ny:bw.length=n) (Dt : ∀ x∈bw,x.Fit k) (hn:1<=n/\n<=10) (Dr:FQ k aw) (hk:k<=1000000000) (hB:10*JX k n<=100000000000) :
  ∃ v,Ev L 327 [.sl q1 (FW q2 aw),.sl q3 (bw.map eW)] v/\Acb (vM aw) (bw.map BI.v) n v:=by
 have hV:=Aou N.tomf q1 q2 aw n n kn jr D' D';obtain ⟨r0,z7⟩:=X_ aw 0;have Nu:aw[(0:Int).toNat]? = some r0:=z7;have qz:=jr r0 (zM z7);obtain ⟨v,hBs,gn⟩:=AnJ N.toeg q1 q2 true true aw (bw.map λ x=>[x]) n 1 k kn jr (by rw[Wa];exact ny) (λ r hr=>by obtain ⟨x,_,rfl⟩:=Hb.1 hr;rfl) (λ r hr=>by
  obtain ⟨x,hx,rfl⟩:=Hb.1 hr;intro z hz;obtain rfl:=xc.1 hz;exact Dt z hx) hn D' Dr hk hB
 refine Ev.xE N.VC rfl rfl ?_;repeat' (first|(apply A7<;>intro hc<;>try omega)|apply BW|(refine CU G' ?_ rfl ?_;omega)|apply AQ|refine AU (hV) ?_)<;>conv=>whnf
 refine pJ 6 6 rfl ?_;refine FP (λ i=>n-i) (λ(i:Nat)=>i<=n) (λ i=>[(35,.int .i64 i),(6,.row 6 0 1 0 i)]) (λ i=>[(6,6,.mx (DD 3 eW ((bw.take i).map λ x=>[x])))]) 0 D' ?_;intro i p1 ih;have gp:((bw.take i).map λ x=>[x]).length=i:=by rw[Wa,Sa];omega
 by_cases hi:i<n
 ·obtain ⟨x,hx⟩:=X_ bw i
  have ni:bw[(i:Int).toNat]? = some x:=hx;have hs:(bw.take (i+1)).map (λ x=>[x])=(bw.take i).map (λ x=>[x])++[[x]]:=by rw[Aha hx,Je];rfl
  have Oj:((bw.take (i+1)).map λ x=>[x]).length=i+1:=by rw[Wa,Sa];omega
  generalize (bw.take i).map (λ x=>[x])=R0 at *;repeat' (first|(apply A7<;>intro hc<;>try omega)|(refine CU G' ?_ rfl ?_;omega)|apply AQ)<;>conv=>whnf
  refine CB rfl ?_;refine pL (r:=[x]) (en:=eW) gp.symm D' D' ?_;rw[<-hs,Oj];conv=>whnf
  repeat' (first|(apply B5;omega)|fail)<;>conv=>whnf
  exact DB [(6,43)] (ih (i+1) D' D')
 have ei:i=n:=D'
 clear ih;rw[ei,zT D'];repeat' (first|(apply A7<;>intro hc<;>try omega)|(refine RY (λ_=>rfl) rfl ?_ ?_;(first|rfl|simp))|apply AQ)<;>conv=>whnf
 ·exact ny.symm
 (conv=>whnf)
 rcases gn with ⟨gj,rfl⟩|⟨gj,U,rfl,Ft,hUw,hUb,AuX⟩
 ·(repeat' (refine AU (hBs) ?_<;>conv=>whnf))
  refine BW (l:=([]:Z_)) (enc:=eQ) ?_;rw[show ([]:Z_).length=0 from rfl];conv=>whnf
  refine QH ?_;repeat' (first|(apply A7<;>intro hc<;>try omega)|apply AQ)<;>conv=>whnf
  refine ⟨.e9 [.sl false [],.int .i64 11],?_,Or.inl ⟨gj,rfl⟩⟩;conv=>whnf
  refine AjT ?_;conv=>whnf
  exact B1 rfl (KZ [] 11)
 ·have hU1:=Aln hUw
  have jn:=AuX 0 D';have c2:(N7 U 0).length=n:=by rw[N7,Wa];exact Ft
  have c3:Bs 100000000000 (N7 U 0):=λ z hz=>by
   obtain ⟨r,hr,rfl⟩:=Hb.1 hz;have du:=hUw r hr;exact hUb r hr _ (zM (fW (show 0<r.length by omega)))
  have gm : ∀ r:AV,r = .e9 [.sl false ((N7 U 0).map eQ),.int .i64 0]->Acb (vM aw) (bw.map BI.v) n r:=λ r hr=>Or.inr ⟨gj,N7 U 0,hr,c2,c3,λ i r s h1 h2=>by
   have ag:(vM (bw.map λ x=>[x]))[i]? = some [s]:=by rw[pG,Wb,h2];rfl
   exact jn i r [s] h1 ag⟩
  rw[hU1]at hBs;generalize N7 U 0=y at *;have hYl:(y.map λ x=>[x]).length=n:=by rw[Wa];exact c2
  have AtL : ∀ (i:Nat) (x:Rat),y[i]? = some x->(y.map λ x=>[x])[((i:Nat):Int).toNat]? = some [x]:=λ i x hx=>by
   rw[Nc,Wb,hx];rfl
  have hY1 : ∀ x:Rat,([x]:Z_)[(0:Int).toNat]? = some x:=λ x=>rfl
  generalize (y.map λ x=>[x])=Y at *;repeat' (first|apply BW|refine AU (hBs) ?_)<;>conv=>whnf
  refine FP (λ i=>n-i) (λ(i:Nat)=>i<=n) (λ i=>[(53,.int .i64 i),(11,.row 11 0 3 0 i)]) (λ i=>[(11,11,.rw 3 ((y.take i).map eQ))]) 0 D' ?_;intro i p1 ih;have gp:(y.take i).length=i:=by rw[Sa];omega
  by_cases hi:i<n
  ·obtain ⟨x,hx⟩:=X_ y i
   have ni:=AtL i x hx;have hx1:=hY1 x;have hs:=Aha hx;have Oj:(y.take (i+1)).length=i+1:=by rw[Sa];omega
   generalize y.take i=R0 at *;repeat' (first|(apply A7<;>intro hc<;>try omega)|(refine CU G' ?_ rfl ?_;omega)|apply HL|apply AQ)<;>conv=>whnf
   refine H9 (enc:=eQ) x rfl gp.symm rfl D' D' ?_;rw[<-hs,Oj];conv=>whnf
   repeat' (first|(apply B5;omega)|fail)<;>conv=>whnf
   exact DB [(11,62)] (ih (i+1) D' D')
  have ei:i=n:=D'
  clear ih;rw[ei,zT D'];repeat' (first|(apply A7<;>intro hc<;>try omega)|apply AQ)<;>conv=>whnf
  refine ⟨.e9 [.sl false (y.map eQ),.int .i64 0],?_,gm _ rfl⟩;conv=>whnf
  refine G9 (enc:=eQ) (λ_=>rfl) rfl c2.symm ?_;conv=>whnf
  exact B1 rfl (AcH y 0)
theorem ArF {k m:Nat} (hk:k<=134217730) (hm:m<=3):10*JX k m<=100000000000:=by
 rcases (show m=0\/m=1\/m=2\/m=3 by omega) with rfl|rfl|rfl|rfl<;>simp only[JX]<;>omega
theorem AoA (N:fg L) (q q':Bool) (aw:List (List BI)) (hl:aw.length<=9223372036854775807) (hs:iF aw=false):Ev L 314 [.sl q (FW q' aw)] (.e9 [.int .i64 0,.int .i64 2]):=by
 have hq:=Aea N q q' aw hl;rw[hs]at hq;refine Ev.x N.QX rfl rfl ?_;repeat' (first|apply AQ|refine AU (hq) ?_)<;>conv=>whnf
 exact B1 rfl (by simp [CI,ES])
theorem Aoy (N:w8 L) (aw:List (List BI)) (bw:List BI) (hl:aw.length<=9223372036854775807/\bw.length<=9223372036854775807) (hb : ¬ (aw.length<=8/\bw.length=aw.length /\ ∀ r∈aw,r.length=aw.length)) (q1 q2 q3:Bool) :
  Ev L 326 [.sl q1 (FW q2 aw),.sl q3 (bw.map eW)] (.e9 [.sl false [],.int .i64 2]):=by
 obtain ⟨l1,l2⟩:=hl;by_cases h1:aw.length<=8
 ·by_cases h2:bw.length=aw.length
  ·have hP:=AoA N.tofg q1 q2 aw l1 (by
    cases h:iF aw
    ·rfl
    ·exact absurd ⟨h1,h2,(AgS.1 h).2⟩ hb)
   refine Ev.x N.JK rfl rfl ?_;repeat' (first|(apply A7<;>intro hc<;>try omega)|apply BW|apply AQ|refine AU (hP) ?_)<;>conv=>whnf
   exact B1 rfl (KZ [] 2)
  ·refine Ev.x N.JK rfl rfl ?_
   repeat' (first|(apply A7<;>intro hc<;>try omega)|apply BW|apply AQ)<;>conv=>whnf
   exact B1 rfl (KZ [] 2)
 ·refine Ev.x N.JK rfl rfl ?_
  repeat' (first|(apply A7<;>intro hc<;>try omega)|apply BW|apply AQ)<;>conv=>whnf
  exact B1 rfl (KZ [] 2)
theorem AsN {n:Nat} (h:n<=2):n*(n+1)/2<=3:=by
 rcases (show n=0\/n=1\/n=2 by omega) with rfl|rfl|rfl<;>decide
theorem Aoz (N:w8 L) (aw:List (List BI)) (bw:List BI) (A:Y_) (B:Z_) (ax:vM aw=A) (fc:bw.map BI.v=B) (n k:Nat) (hA:Sq n A) (hB:bw.length=n) (hf:FQ k aw) (hg:Fs k bw) {g s:Nat} (hG:dW A B n g s) (hk:k<=33554432) (vk:n<=2) (q1 q2 q3:Bool) :
  ∃ v,Ev L 326 [.sl q1 (FW q2 aw),.sl q3 (bw.map eW)] v/\(((∀ j,j<=6->HP (EU n A j)=false)/\v = .e9 [.sl false [],.int .i64 14])\/((∃ i,i<=6/\VW n A i)/\((¬ NS (CW n n).length (gM A n)/\v = .e9 [.sl false [],.int .i64 11])\/(NS (CW n n).length (gM A n) /\ ∃ X:Z_,NI A B X n/\v = .e9 [.sl false (eM (kM X n)),.int .i64 0])))):=by
 have hn:n<=4:=D'
 have ig:aw.length=n:=by rw[<-hA.l,<-ax,vM,Wa]
 have xu:Ms k A:=ax ▸ hf.ms;have hBb:Bs k B:=fc ▸ hg.bs;obtain ⟨v,Li,gn⟩:=AoB N.tofg q1 q2 aw A ax n k hA hf hn hk;refine Ev.xE N.JK rfl rfl ?_;rcases gn with ⟨i0,i1,i2,rfl⟩|⟨i1,rfl⟩
 rotate_left
 ·repeat' (first|(apply A7<;>intro hc<;>try omega)|apply BW|apply AQ|refine AU (Li) ?_)<;>conv=>whnf
  exact ⟨_,B1 rfl (KZ [] 14),Or.inl ⟨i1,rfl⟩⟩
 have vh : ∃ i,i<=6/\VW n A i:=⟨i0,i1,i2⟩;clear i1 i2;generalize ((2^i0:Nat):Int)=pw0 at *;clear i0;by_cases Ic:n=0
 ·subst Ic
  repeat' (first|(apply A7<;>intro hc<;>try omega)|apply BW|apply AQ|refine AU (Li) ?_)<;>conv=>whnf
  refine ⟨_,B1 rfl (KZ [] 0),Or.inr ⟨vh,Or.inr ⟨λ X hX _ j => ?_,[],⟨rfl,λ i r s hr=>by cases hr⟩,rfl⟩⟩⟩;rw[td.1 hX];rfl
 obtain ⟨⟨t1,t2⟩,t3,t4⟩:=AsO hn;have Jv:=Arj hn;have Ef:1<=(CW n n).length:=by
  rcases ZG hn with rfl|rfl|rfl|rfl|rfl<;>first|omega|decide
 have hO:=ZB N.toa8 1 D';have Fm:=λ i j h1 h2=>Aoj N n i j hn h1 h2
 repeat' (first|(apply A7<;>intro hc<;>try omega)|apply BW|apply AQ|refine AU (Li) ?_)<;>conv=>whnf
 rw[ig];refine pJ 9 9 rfl ?_;refine FP (λ i=>n-i) (λ(i:Nat)=>i<=n) (λ i=>[(11,.int .i64 i),(9,.row 9 0 1 0 (CW n i).length),(10,.row 10 0 3 0 (CW n i).length)]) (λ i=>[(9,9,.mx (DD 3 eQ ((CW n i).map (HC A n)))),(10,10,.rw 3 (((CW n i).map λ p=>bQ B p.1*bQ B p.2).map eQ))]) 0 D' ?_;intro i p1 ih;by_cases hi:i<n
 ·have hS:=AfX hi
  obtain ⟨r1,du,rf,pq⟩:=oN (ax.symm ▸ hA) hf hi;rw[ax]at pq;have Ij:aw[((i:Nat):Int).toNat]? = some r1:=du;have Nl:=tP n (i:=i+1) (n-(i+1));rw[show i+1+(n-(i+1))=n by omega]at Nl;obtain ⟨z1,nj,Ez,Ol⟩:=jE hB hg hi;rw[fc]at Ez;have Hl:bw[((i:Nat):Int).toNat]? = some z1:=nj;repeat' (first|(apply A7<;>intro hc<;>try omega)|apply AQ)<;>conv=>whnf
  refine GV (λ t=>n-i-t) (λ(t:Nat)=>t<=n-i) (λ t=>[(12,.int .i64 ((i+t:Nat):Int)),(9,.row 9 0 1 0 ((CW n i).length+t)),(10,.row 10 0 3 0 ((CW n i).length+t))]) (λ t=>[(9,9,.mx (DD 3 eQ ((CW n i++GU i t).map (HC A n)))),(10,10,.rw 3 (((CW n i++GU i t).map λ p=>bQ B p.1*bQ B p.2).map eQ))]) [] [] 0 (by first|exact w_|(rw[show GU i 0=[] from rfl,xd];exact w_)) D' ?_;intro t u1 th;by_cases ht:t<n-i
  ·obtain ⟨r2,il,lv,vf⟩:=oN (ax.symm ▸ hA) hf (show i+t<n by omega)
   rw[ax]at vf;have AuK:aw[((i+t:Nat):Int).toNat]? = some r2:=il;obtain ⟨z2,ru,Fb,Om⟩:=jE hB hg (show i+t<n by omega);rw[fc]at Fb;have AtT:bw[((i+t:Nat):Int).toNat]? = some z2:=ru;have Rn:=aQ N.toa8 Ol.2 Om.2 (Ub _) (Ub _);rw[Ez,Fb]at Rn;have Cn:CW n i++GU i (t+1)=(CW n i++GU i t)++[(i,i+t)]:=by rw[AfZ,lg]
   have Sd:(CW n i++GU i t).length=(CW n i).length+t:=by rw[oc,kJ]
   have Hq:(CW n i++GU i (t+1)).map (HC A n)=(CW n i++GU i t).map (HC A n)++[HC A n (i,i+t)]:=by rw[Cn,Je];rfl
   have ta:((CW n i++GU i (t+1)).map λ p=>bQ B p.1*bQ B p.2)=((CW n i++GU i t).map λ p=>bQ B p.1*bQ B p.2)++[bQ B i*bQ B (i+t)]:=by rw[Cn,Je];rfl
   have Aug:((CW n i++GU i t).map (HC A n)).length=(CW n i).length+t:=by rw[Wa];exact Sd
   have Auh:((CW n i++GU i t).map λ p=>bQ B p.1*bQ B p.2).length=(CW n i).length+t:=by rw[Wa];exact Sd
   have Aue:((CW n i++GU i (t+1)).map (HC A n)).length=(CW n i).length+(t+1):=by rw[Wa,oc,kJ]
   have Auf:((CW n i++GU i (t+1)).map λ p=>bQ B p.1*bQ B p.2).length=(CW n i).length+(t+1):=by rw[Wa,oc,kJ]
   have Atz:=Fm i (i+t) D' D';have Cp:=tQ hn hi (show i+t<n by omega);rw[show min i (i+t)=i by omega,show max i (i+t)=i+t by omega]at Cp;have cz:YF n i (i+t)=(Cb (n*(n+1)/2) none).set (jo n i (i+t)) (some 1):=rfl;have ix:=ArG (A:=A) hn (show i<=i+t by omega) (show i+t<n by omega);have Uj:(YF n i (i+t)).length=n*(n+1)/2:=by simp [YF]
   have hob:=ArH n i (i+t);generalize (CW n i++GU i t).map (HC A n)=G0 at *;generalize ((CW n i++GU i t).map λ p=>bQ B p.1*bQ B p.2)=R0 at *;have ANj:(HC A n (i,i+t)).length=n*(n+1)/2:=by rw[HC,Wa,Jv]
   generalize HC A n (i,i+t)=gr at *;generalize bQ B i*bQ B (i+t)=gy at *;repeat' (first|(apply A7<;>intro hc<;>try omega)|(apply B5;omega)|(apply LN;omega)|(refine VY ?_ ?_ (λ_ => ?_) (λ_ _ => ?_);omega;omega;all_goals try omega)|apply AQ)<;>conv=>whnf
   refine I2 (enc:=eO) none (n*(n+1)/2) rfl t3 (by rw[t3];omega) ?_;conv=>whnf
   repeat' (first|(apply CB;omega)|refine AU (Atz) ?_|refine AU (hO) ?_)<;>conv=>whnf
   refine LB (enc:=eO) (some 1) rfl (λ e=>by cases e<;>rfl) (by rw[List.length_replicate];exact Cp) ?_;conv=>whnf
   rw[<-cz];generalize YF n i (i+t)=S0 at *;skip
   refine FP (λ k=>n-k) (λ(k:Nat)=>k<=n) (λ k=>[(14,.int .i64 k)]) (λ k=>[(58,58,.rw 3 ((P7 n S0 (λ k h=>CK A i k*CK A (i+t) h) k).map eO))]) 0 D' ?_;intro kk k1 kh;by_cases na:kk<n
   ·obtain ⟨w1,hx1,wv1,wf1⟩:=pq kk na
    have AOc:r1[((kk:Nat):Int).toNat]? = some w1:=hx1;have AuA:=Agd (n:=n) hob (λ a b=>(I3 xu i a).mul (I3 xu (i+t) b)) kk;have Uk:=Agc n S0 (λ k h=>CK A i k*CK A (i+t) h) kk;rw[Uj]at Uk;have hKn:P7 n S0 (λ k h=>CK A i k*CK A (i+t) h) (kk+1)=NX n (P7 n S0 (λ k h=>CK A i k*CK A (i+t) h) kk) kk (λ h=>CK A i kk*CK A (i+t) h) n:=rfl;have hkb:kk*(n*(k+k+1))<=2000000000:=by
     have h1:n*(k+k+1)<=4*67108865:=Ab hn D';have h2:kk*(n*(k+k+1))<=4*(4*67108865):=Ab D' h1;omega
    repeat' (first|(apply A7<;>intro hc<;>try omega)|apply AQ)<;>conv=>whnf
    refine FP (λ h=>n-h) (λ(h:Nat)=>h<=n) (λ h=>[(15,.int .i64 h)]) (λ h=>[(58,58,.rw 3 ((NX n (P7 n S0 (λ k h=>CK A i k*CK A (i+t) h) kk) kk (λ h=>CK A i kk*CK A (i+t) h) h).map eO))]) 0 D' ?_;intro hh h1 hhh;generalize P7 n S0 (λ k h=>CK A i k*CK A (i+t) h) kk=K0 at *;by_cases hhn:hh<n
    ·obtain ⟨w2,hx2,wv2,wf2⟩:=vf hh hhn
     have AOe:r2[((hh:Nat):Int).toNat]? = some w2:=hx2;have hM:=aQ N.toa8 wf1.2 wf2.2 (Ub _) (Ub _);rw[wv1,wv2]at hM;have Be:=Fm (min kk hh) (max kk hh) D' D';have hpm:=tQ hn na hhn;have Auz:=Ww (n:=n) (a:=kk) AuA (λ h=>(I3 xu i kk).mul (I3 xu (i+t) h)) hh;have hlh:=Yi n K0 kk (λ h=>CK A i kk*CK A (i+t) h) hh;rw[Uk]at hlh;have hHn:NX n K0 kk (λ h=>CK A i kk*CK A (i+t) h) (hh+1)=ZS n (NX n K0 kk (λ h=>CK A i kk*CK A (i+t) h) hh) kk hh (CK A i kk*CK A (i+t) hh):=rfl;generalize NX n K0 kk (λ h=>CK A i kk*CK A (i+t) h) hh=H0 at *;obtain ⟨o,ho⟩:=X_ H0 (jo n (min kk hh) (max kk hh));have hbo:=Auz.at (jo n (min kk hh) (max kk hh));rw[ZS,ho]at hHn;rw[ho]at hbo;have hhb:hh*(k+k+1)<=4*67108865:=Ab (show hh<=4 by omega) (show k+k+1<=67108865 by omega);have hSb:Ev L 153 [.agg (eP o),.agg (eQ (CK A i kk*CK A (i+t) hh))] (.agg (eQ (o.getD 0-CK A i kk*CK A (i+t) hh))):=AoP N.tos9 hbo ((I3 xu i kk).mul (I3 xu (i+t) hh)) D' D';generalize jo n (min kk hh) (max kk hh)=pp at *;generalize CK A i kk*CK A (i+t) hh=yy at *;have AtA:(hh<kk/\Ev L 325 [.int .i64 (hh:Int),.int .i64 (kk:Int),.int .i64 (n:Int)] (.int .i64 (pp:Int)))\/(kk<hh/\Ev L 325 [.int .i64 (kk:Int),.int .i64 (hh:Int),.int .i64 (n:Int)] (.int .i64 (pp:Int)))\/(kk=hh/\Ev L 325 [.int .i64 (kk:Int),.int .i64 (kk:Int),.int .i64 (n:Int)] (.int .i64 (pp:Int))):=by
      rcases Nat.lt_trichotomy hh kk with n7|vi|vi
      ·rw[Nat.min_eq_right D',Tg D']at Be
       exact Or.inl ⟨n7,Be⟩
      ·rw[Ge D',Tg D']at Be
       exact Or.inr (Or.inr ⟨vi.symm,Be⟩)
      ·rw[Ge D',Nat.max_eq_right D']at Be
       exact Or.inr (Or.inl ⟨vi,Be⟩)
     clear Be;have hHs:H0.set pp (some (o.getD 0-yy))=NX n K0 kk (λ h=>CK A i kk*CK A (i+t) h) (hh+1):=hHn.symm;generalize o.getD 0-yy=zz at *;rcases AtA with ⟨n7,Be⟩|⟨n7,Be⟩|⟨n7,Be⟩
     all_goals cases o
     all_goals
      repeat' (first|(apply A7<;>intro hc<;>try omega)|(apply CB;omega)|apply AQ|refine AU (Be) ?_)<;>conv=>whnf
      refine iV (l:=H0) (enc:=eO) (by rw[Vf,Nc];exact ho) rfl ?_;conv=>whnf
      repeat' (first|(apply CB;omega)|(refine CU G' ?_ rfl ?_;omega)|refine AU (hM) ?_|refine AU (hSb) ?_)<;>conv=>whnf
      refine LB (enc:=eO) (some zz) rfl (λ e=>by cases e<;>rfl) D' ?_;conv=>whnf
      rw[hHs];repeat' (first|(apply B5;omega)|fail)<;>conv=>whnf
      exact DB [] (hhh (hh+1) D' D')
    ·have eh:hh=n:=D'
     clear hhh;rw[eh,<-hKn];repeat' (first|(apply A7<;>intro hc<;>try omega)|(apply B5;omega)|apply AQ)<;>conv=>whnf
     exact DB [] (kh (kk+1) D' D')
   ·have ek:kk=n:=D'
    clear kh;rw[ek,ix,Asp];repeat' (first|(apply A7<;>intro hc<;>try omega)|apply AQ)<;>conv=>whnf
    refine CB U_ ?_;refine pL (r:=gr) (en:=eQ) Aug.symm D' D' ?_;conv=>whnf
    rw[<-Hq,Aue];repeat' (first|(refine CU G' ?_ rfl ?_;omega)|apply HL|refine AU (Rn) ?_)<;>conv=>whnf
    refine H9 (enc:=eQ) gy rfl Auh.symm rfl D' D' ?_;conv=>whnf
    rw[<-ta,Auf];repeat' (first|(apply B5;omega)|fail)<;>conv=>whnf
    exact DB [(9,110),(10,122)] (th (t+1) D' D')
  ·have et:t=n-i:=D'
   clear th;have e1:CW n i++GU i t=CW n (i+1):=by rw[et];rfl
   have e2:(CW n i).length+t=(CW n (i+1)).length:=by rw[hS,et]
   rw[e1,e2];repeat' (first|(apply A7<;>intro hc<;>try omega)|(apply B5;omega)|apply AQ)<;>conv=>whnf
   exact DB [] (ih (i+1) D' D')
 have ei:i=n:=D'
 clear ih;rw[ei];clear ei p1 hi i;obtain ⟨v,hSv,gn⟩:=Aot N.touw true true true (wM (gM A n)) (wR (gR B n)) (CW n n).length (4*k+2) (vC (V4 A).l) (vD (V4 A).r) (by rw[wR,Wa];exact jV B n) (Fs.of (Ao5 hBb n) D') ⟨Ef,D'⟩ (FQ.of (Ao4 xu n) D') D' (ArF D' (by rw[Jv];exact AsN vk));rw[rP,V2]at hSv;rw[Z3,RS]at gn;have hGl:(gM A n).length=(CW n n).length:=(V4 A).l;have Fo:=jV B n;have Sx : ∀ y:Z_,y.length=(CW n n).length->(∀ (i:Nat) (r:Z_) (s:Rat),(gM A n)[i]? = some r->(gR B n)[i]? = some s->B4 r y=s)->NI A B y n:=λ y h1 h2=>⟨h1,h2⟩
 rw[show (CW n n).map (HC A n)=gM A n from rfl,show ((CW n n).map λ p=>bQ B p.1*bQ B p.2)=gR B n from rfl];generalize gM A n=G at *;generalize gR B n=R at *;repeat' (first|(apply A7<;>intro hc<;>try omega)|apply AQ)<;>conv=>whnf
 refine RY (λ_=>rfl) rfl hGl.symm ?_;conv=>whnf
 refine G9 (enc:=eQ) (λ_=>rfl) rfl Fo.symm ?_;conv=>whnf
 rcases gn with ⟨gj,rfl⟩|⟨gj,X,rfl,Fw,_,hX⟩
 ·repeat' (first|(apply A7<;>intro hc<;>try omega)|refine AU (hSv) ?_)<;>conv=>whnf
  exact ⟨_,B1 rfl (KZ [] 11),Or.inr ⟨vh,Or.inl ⟨gj,rfl⟩⟩⟩
 have hgX:=Sx X Fw hX;clear Sx hX;have Jj:=nF X n;have Ji:=Jj.l;have Pm:=Jj.r;have Rt : ∀ i,i<n->(kM X n)[i]? = some ((Kd n).map λ j=>X.getD (jo n (min i j) (max i j)) 0):=λ i hi=>Aql hi
 have Lj : ∀ i j,j<n->((Kd n).map λ j=>X.getD (jo n (min i j) (max i j)) 0)[j]? = some (X.getD (jo n (min i j) (max i j)) 0):=λ i j hj=>by rw[Wb,yd hj];rfl
 have hXa : ∀ i j,i<n->j<n->X[(((jo n (min i j) (max i j)):Nat):Int).toNat]? = some (X.getD (jo n (min i j) (max i j)) 0):=λ i j hi hj=>by
  have:=tQ hn hi hj
  rw[Nc,jb,zE D'];rfl
 generalize hQQ:kM X n=Q at *;repeat' (first|(apply A7<;>intro hc<;>try omega)|refine AU (hSv) ?_)<;>conv=>whnf
 unfold F5;refine ⟨⟨D',D',by simp only[H8];omega,D'⟩,?_⟩;rw[Nc];conv=>whnf
 skip
 refine GV (λ i=>n-i) (λ(i:Nat)=>i<=n) (λ i=>[(20,.int .i64 i)]) (λ i=>[(133,133,.mx (mz Q n i))]) [] [] 0 (by first|exact w_|(rw[<-Xn Q];exact w_)) D' ?_;intro i p1 ih;have hzl:=Xl (Q:=Q) p1;by_cases hi:i<n
 ·have hq:=Rt i hi
  have m4:=Xm hq hi;have yf:(mz Q n i)[i]? = some none:=Afz Ji hi;have Cs:=Pm _ (zM hq);have mr:((Kd n).map λ j=>X.getD (jo n (min i j) (max i j)) 0).take 1=[X.getD (jo n (min i 0) (max i 0)) 0]:=by
   rw[iH (Lj i 0 D')];rfl
  have hqj : ∀ j,j<n->((Kd n).map λ j=>X.getD (jo n (min i j) (max i j)) 0).take (j+1)=((Kd n).map λ j=>X.getD (jo n (min i j) (max i j)) 0).take j++[X.getD (jo n (min i j) (max i j)) 0]:=λ j hj=>iH (Lj i j hj)
  have Be : ∀ j,j<n -> ∀ a b:Int,a=((min i j:Nat):Int)/\b=((max i j:Nat):Int)->Ev L 325 [.int .i64 a,.int .i64 b,.int .i64 (n:Int)] (.int .i64 ((jo n (min i j) (max i j):Nat):Int)):=λ j hj a b h=>by
   rw[h.1,h.2];exact Fm (min i j) (max i j) D' D'
  have hpc:=λ j (hj:j<n)=>tQ hn hi hj
  generalize mz Q n i=Z0 at *;generalize ((Kd n).map λ j=>X.getD (jo n (min i j) (max i j)) 0)=qr at *;have Vq:=Be 0 D';have Fv:=hXa i 0 hi D';have Pz:=hpc 0 D';generalize X.getD (jo n (min i 0) (max i 0)) 0=y0 at *;generalize jo n (min i 0) (max i 0)=pp at *;repeat' (first|(apply A7<;>intro hc<;>try omega)|apply AQ)<;>conv=>whnf
  refine QH ?_;repeat' (first|(apply A7<;>intro hc<;>try omega)|(apply CB;omega)|apply AQ)<;>conv=>whnf
  refine vO (r:=none) (by rw[Vf,Nc];exact yf) ?_;conv=>whnf
  repeat' (first|(apply A7<;>intro hc<;>try omega)|(refine CU G' ?_ rfl ?_;omega)|apply HL|refine AU (Vq _ _ D') ?_)<;>conv=>whnf
  all_goals
   refine pM (enc:=eQ) y0 rfl rfl D' ?_;conv=>whnf
   repeat' (first|(apply CB;omega)|fail)<;>conv=>whnf
   refine CB rfl ?_;refine iW (i:=i) D' D' ?_;conv=>whnf
   repeat' (first|(apply B5;omega)|fail)<;>conv=>whnf
   refine GV (λ j=>n-j) (λ(j:Nat)=>1<=j/\j<=n) (λ j=>[(21,.int .i64 j)]) (λ j=>[(133,133,.mx (Z0.set i (some (3,(qr.take j).map eQ))))]) [] [] 1 (by first|exact w_|(rw[mr];exact w_)) D' ?_;intro j ⟨r1,r2⟩ jh;have Oh:(qr.take j).length=j:=by rw[Sa];omega
   by_cases hj:j<n
   ·have Aj:=hqj j hj
    have Oi:(qr.take (j+1)).length=j+1:=by rw[Sa];omega
    have hPj:=Be j hj;have Vw:=hXa i j hi hj;have hpj:=hpc j hj;generalize X.getD (jo n (min i j) (max i j)) 0=yj at *;generalize jo n (min i j) (max i j)=pj at *;generalize qr.take j=W at *;repeat' (first|(apply A7<;>intro hc<;>try omega)|(apply CB;omega)|apply AQ)<;>conv=>whnf
    refine dY D' D' ?_;conv=>whnf
    repeat' (first|(apply A7<;>intro hc<;>try omega)|(refine CU G' ?_ rfl ?_;omega)|apply HL|refine AU (hPj _ _ D') ?_)<;>conv=>whnf
    all_goals
     refine YS D' D' ?_;conv=>whnf
     refine H9 (enc:=eQ) yj rfl (by rw[Wa]) rfl D' D' ?_;intro s' v;rw[<-Aj,Oi];conv=>whnf
     repeat' (first|(apply CB;omega)|fail)<;>conv=>whnf
     refine CB ⟨rfl,by rw[Wa];omega⟩ ?_;refine iW (i:=i) D' (by rw[yc,yc];omega) ?_;rw[show 0+((i:Int)).toNat=i by omega,Dd,Dd];conv=>whnf
     repeat' (first|(apply B5;omega)|fail)<;>conv=>whnf
     exact DB [] (jh (j+1) D' D')
   ·have ej:j=n:=D'
    clear jh;rw[ej,zT D',m4];repeat' (first|(apply A7<;>intro hc<;>try omega)|(apply B5;omega)|apply AQ)<;>conv=>whnf
    exact DB [] (ih (i+1) D' D')
 have ei:i=n:=D'
 clear ih;rw[ei,Xk D'];repeat' (first|(apply A7<;>intro hc<;>try omega)|apply AQ)<;>conv=>whnf
 refine ⟨.e9 [.sl false (eM Q),.int .i64 0],?_,Or.inr ⟨vh,Or.inr ⟨gj,X,hgX,by rw[hQQ]⟩⟩⟩;conv=>whnf
 refine RY (λ_=>rfl) rfl Ji.symm ?_;conv=>whnf
 exact B1 rfl (KZ Q 0)
end Go.j4

namespace Go.j4
open F
attribute [local irreducible] AJ A5 BZ A0 FH B2 C6 C9 EO EC E0 HH D6 CT EJ E3 AM CZ BH pw EF DP FF FR F5 F7 E6 DQ GN
variable {L:Lib}
theorem AfS {S:G3} {n kz K:Nat} {KK:Nat->Nat} (h:S.Ok n kz) {st xs:Z_} (Vk:Bs kz xs) (Hd : ∀ i,i<=xs.length->Bs (KK i) (S.state st (xs.take i))) (hK : ∀ i,i<xs.length->n*(kz+KK i+1)+(kz+kz)+1<=K) : ∀ i,i<=xs.length->Bs K (S.outs st (xs.take i))
 | 0,_=>by rw[cd];exact λ x hx=>by cases hx
 | i+1,hi=>by
  have ih:=AfS h Vk Hd hK i D';obtain ⟨x,hx⟩:=X_ xs i;rw[VV hx,Yd];intro y hy;rcases ve.1 hy with hy|hy
  ·exact ih y hy
  ·obtain rfl:=xc.1 hy
   have h1:=h.bc.dot (Hd i D');rw[h.lc]at h1;exact (h1.add (h.bd.mul (Vk.at hx))).le (by have:=hK i D';omega)
theorem ApN (c:Nat) : ∀ x∈K4 c,x=0\/x=1:=λ x hx=>by
 cases c with
 | zero=>cases hx
 | succ c =>
  rcases Ed.1 hx with rfl|hx
  ·exact Or.inr rfl
  ·exact Or.inl (De hx)
theorem ApP {S:FU} {n T:Nat} (hR:S.Raw) (hz:S.sz<=T) (hT:T<=1048576) (Ny:IM S=true) (hn:S.a.length=n) (c:Nat):S.Fit (32*T)/\S.v.Ok n (32*T) /\ ∀ i,i<=(K4 c).length->Bs (i*(2*(32*T)+n+1)) (S.v.state (Cb n 0) ((K4 c).take i)):=by
 have hF:S.Fit (32*T):=FU.fit hR hz D';have j7:S.v.Ok n (32*T):=hn ▸ FU.ok Ny hF;refine ⟨hF,j7,λ i hi => ?_⟩;have:=Asu j7 (FU.den hR hz).1 (xs:=(K4 c).take i) (λ x hx=>ApN c x (ie hx))
 rwa [Sa,Ge hi]at this
section
variable (N:zy L)
include N
end
end Go.j4

namespace Go.j4
open F
theorem Yu {n:Nat} (h:n<=2):(CW n n).length<=3:=by
 rcases (show n=0\/n=1\/n=2 by omega) with rfl|rfl|rfl<;>decide
theorem Aqn {m g:Nat} (h:m<=3):2*KI m g<=14*g+40:=by
 rcases (show m=0\/m=1\/m=2\/m=3 by omega) with rfl|rfl|rfl|rfl<;>simp only[KI]<;>omega
theorem Acp {m g:Nat} (h:m<=3) (hg:g<=134217730):6^m*g<=1000000000000/\3*(6^m*g)+m*(2*(6^m*g)+(14*g+40)+1)<=1000000000000:=by
 have h6:6^m<=216:=Eb (n:=6) D' h;have h1:=zR g h6;generalize 6^m*g=y at *;have h2:=zR (2*y+(14*g+40)+1) h;constructor<;>omega
theorem Ape {A:Y_} {B:Z_} {n M m l g:Nat} (hn:n<=2) (hM:1<=M) (fr:M<=2^m) (hm:2*m+2<=g) (hl:2*l<=g)
  (ha : ∀ i j,Wh m ((M:Rat)*CK A i j)) (hb : ∀ i,Wh l ((M:Rat)*bQ B i)):NS (CW n n).length (gM A n) -> ∀ X:Z_,NI A B X n->Bs (14*g+40) X:=by
 have fi:1<=M*M:=Ab hM hM;have hg:=sH (A:=A) ha fr (n:=n);have vj : ∀ y∈gR B n,Wh g (((M*M:Nat):Rat)*y):=λ y hy=>by
  obtain ⟨p,_,rfl⟩:=Hb.1 hy;have:=(hb p.1).mul (hb p.2)
  rw[show (M:Rat)*bQ B p.1*((M:Rat)*bQ B p.2)=((M*M:Nat):Rat)*(bQ B p.1*bQ B p.2) by rw[te];grind]at this;exact this.le D'
 intro gj X hX;have h0:((M*M:Nat):Rat)≠0:=λ e=>by
  have:=cg.1 (e.trans (show (0:Rat)=((0:Nat):Rat) from rfl))
  omega
 have Qk:=AgQ (n:=(CW n n).length) (k:=g) (a:=(gM A n).map λ r=>r.map (((M*M:Nat):Rat) * ·)) (b:=(gR B n).map (((M*M:Nat):Rat) * ·)) (c:=X) (by rw[Wa];exact (V4 A).l) (λ r hr=>by
  obtain ⟨s,hs,rfl⟩:=Hb.1 hr;rw[Wa];exact (V4 A).r s hs) (by rw[Wa];exact jV B n) (λ r hr x hx=>by
  obtain ⟨s,hs,rfl⟩:=Hb.1 hr;obtain ⟨y,hy,rfl⟩:=Hb.1 hx;exact (hg s hs y hy).le D') (λ x hx=>by
  obtain ⟨y,hy,rfl⟩:=Hb.1 hx;exact vj y hy) (λ Y hY hk j=>gj Y hY (λ r hr=>by
  have:=hk (r.map (((M*M:Nat):Rat) * ·)) (Hb.2 ⟨r,hr,rfl⟩)
  rw[eV]at this;rcases Ug.1 this with e|e
  ·exact absurd e h0
  ·exact e) j) hX.1 (λ i r s h1 h2=>by
  rw[Wb]at h1 h2;cases e1:(gM A n)[i]? with
  | none=>rw[e1]at h1;cases h1
  | some u =>
   cases e2:(gR B n)[i]? with
   | none=>rw[e2]at h2;cases h2
   | some y =>
    rw[e1]at h1;rw[e2]at h2;obtain rfl:=Vc h1;obtain rfl:=Vc h2;rw[eV,hX.2 i u y e1 e2])
 exact Qk.le (Aqn (Yu hn))
theorem Ao9 {A:Y_} {B:Z_} {n M m l g:Nat} (hn:n<=2) (hM:1<=M) (fr:M<=2^m) (hm:2*m+2<=g) (hl:2*l<=g) (Fy:g<=134217730)
  (ha : ∀ i j,Wh m ((M:Rat)*CK A i j)) (hb : ∀ i,Wh l ((M:Rat)*bQ B i)):dW A B n g (14*g+40):=by
 have Lh:M*M<=2^(2*m):=by
  rw[Eg,od];exact Ab fr fr
 have fi:1<=M*M:=Ab hM hM;have hg:=sH (A:=A) ha fr (n:=n);have vj : ∀ y∈gR B n,Wh g (((M*M:Nat):Rat)*y):=λ y hy=>by
  obtain ⟨p,_,rfl⟩:=Hb.1 hy;have:=(hb p.1).mul (hb p.2)
  rw[show (M:Rat)*bQ B p.1*((M:Rat)*bQ B p.2)=((M*M:Nat):Rat)*(bQ B p.1*bQ B p.2) by rw[te];grind]at this;exact this.le D'
 have nn : ∀ r∈GT (gM A n) ((gR B n).map λ x=>[x]),∀ x∈r,Wh g (((M*M:Nat):Rat)*x):=by
  intro r hr;obtain ⟨i,hi⟩:=Oc hr;rw[GT,pe]at hi;cases e1:(gM A n)[i]? with
  | none=>rw[e1]at hi;cases hi
  | some u =>
   rw[e1,Wb]at hi;cases e2:(gR B n)[i]? with
   | none=>rw[e2]at hi;cases hi
   | some y =>
    rw[e2]at hi;obtain rfl:=Vc hi;intro x hx;rcases ve.1 hx with hx|hx
    ·exact (hg u (zM e1) x hx).le D'
    ·obtain rfl:=xc.1 hx
     exact vj _ (zM e2)
 have bt : ∀ x:Rat,Wh g (((M*M:Nat):Rat)*x)->Bt g x:=λ x hx=>wD (S:=M*M) D' (uc Lh (Eb D' D')) (by rw[ef];exact hx)
 refine ⟨λ r hr x hx=>bt x ((hg r hr x hx).le D'),λ x hx=>bt x (vj x hx),λ r hr j => ?_,λ r hr => ?_,Ape hn hM fr hm hl ha hb,D',D',(Acp (Yu hn) Fy).1,(Acp (Yu hn) Fy).2⟩
 ·exact ((uC fi Lh (k:=g) λ x hx=>nn r hr x (ie hx)).1.bt).le D'
 ·obtain ⟨s,hs,rfl⟩:=Hb.1 hr
  intro x hx;obtain ⟨y,hy,rfl⟩:=Hb.1 hx;exact ((uC fi Lh (k:=g) λ x hx=>nn s hs x hx).2 y hy).bt
theorem As7 {D k:Nat} {x:Rat} (h:FV D (2^k) x):Wh k ((D:Rat)*x):=by
 obtain ⟨z,hz,hn⟩:=h;exact ⟨z,by rw[ef,<-Rat.intCast_natCast];exact hz,hn⟩
theorem Acn (A:Y_) (i j:Nat):CK A i j=0\/CK A i j∈A.flatten:=by
 cases e:A[i]? with
 | none =>
  left
  rw[CK,show A.getD i []=[] by rw[jb,e];rfl];rfl
 | some r =>
  rw[OD e,jb];cases e2:r[j]? with
  | none=>exact Or.inl rfl
  | some x=>exact Or.inr (Ke.2 ⟨r,zM e,zM e2⟩)
theorem Acw (B:Z_) (i:Nat):bQ B i=0\/bQ B i∈B:=by
 rw[bQ,jb];cases e:B[i]? with
 | none=>exact Or.inl rfl
 | some x=>exact Or.inr (zM e)
theorem Apc {a:List (List BI)} {b:List BI} {n K:Nat} (hn:n<=2) (hK:K<=33554432) (ra : ∀ r∈a,∀ w∈r,w.Raw) (rb : ∀ w∈b,w.Raw) (hz:32*((a.map GJ).sum+GJ b)<=K):dW (vM a) (b.map BI.v) n (4*K+2) (14*(4*K+2)+40):=by
 have h1:=rJ a ra;have h2:=mH b rb;have hD:IJ ((vM a).flatten++b.map BI.v)<=2^K:=by
  rw[rI];refine uc (Ab h1 h2) ?_;rw[<-od];exact Eb D' D'
 have Vx : ∀ x∈(vM a).flatten++b.map BI.v,Bt K x:=λ x hx=>by
  rcases ve.1 hx with hx|hx
  ·obtain ⟨s,hs,hx⟩:=Ke.1 hx
   obtain ⟨r,hr,rfl⟩:=Hb.1 hs;obtain ⟨w,hw,rfl⟩:=Hb.1 hx;have g1:=Z1 hw;have g2:=uR (g:=GJ) hr;exact (oJ (ra r hr w hw)).le D'
  ·obtain ⟨w,hw,rfl⟩:=Hb.1 hx
   have g1:=Z1 hw;exact (oJ (rb w hw)).le D'
 have hwd : ∀ x∈(vM a).flatten++b.map BI.v,Wh (K+K) (((IJ ((vM a).flatten++b.map BI.v):Nat):Rat)*x):=λ x hx=>As7 (vE (k:=K) (m:=K) hx (Vx x hx) hD)
 have h0:Wh (K+K) (((IJ ((vM a).flatten++b.map BI.v):Nat):Rat)*0):=by rw[lf];exact Wh.zero _
 exact Ao9 (g:=4*K+2) (m:=K+K) (l:=K+K) hn (mG _) (uc hD (Eb D' D')) D' D' D' (λ i j=>by
  rcases Acn (vM a) i j with e|e
  ·rw[e];exact h0
  ·exact hwd _ (List.mem_append_left _ e)) (λ i=>by
  rcases Acw (b.map BI.v) i with e|e
  ·rw[e];exact h0
  ·exact hwd _ (List.mem_append_right _ e))
theorem Apb {a:List (List BI)} {b:List BI} {n T:Nat} (hn:n<=2) (hT:T<=1048576) (ra : ∀ r∈a,∀ w∈r,w.Raw) (rb : ∀ w∈b,w.Raw) (hz:(a.map GJ).sum+GJ b<=T):dW (vM a) (b.map BI.v) n (4*(32*T)+2) (14*(4*(32*T)+2)+40) :=
 Apc (K:=32*T) hn D' ra rb D'
theorem AhM {D M:Nat} {f:Nat->Rat} (h : ∀ i,FV D M (f i)) : ∀ n,FV D (n*M) (DL f n)
 | 0=>by rw[Nat.zero_mul];exact FV.zero D 0
 | n+1=>by
  rw[Re];exact (AhM h n).add (h n)
theorem AhN {c:Z_} {A:Y_} {n D E M N:Nat} (hc : ∀ i,FV E N (bQ c i)) (hA : ∀ i j,FV D M (CK A i j)) : ∀ t i,FV (E*D^t) (N*(n*M)^t) (bQ (J0 c A n t) i)
 | 0,i=>by rw[Lg,Lg,lh,lh];exact hc i
 | t+1,i=>by
  have ih:=AhN (n:=n) hc hA t;have e:bQ (J0 c A n (t+1)) i=0\/bQ (J0 c A n (t+1)) i=DL (λ a=>bQ (J0 c A n t) a*CK A a i) n:=by
   show bQ (M6 (J0 c A n t) A n) i=0\/_;by_cases hi:i<n
   ·right
    have e:(M6 (J0 c A n t) A n)[i]? = some (DL (λ a=>bQ (J0 c A n t) a*CK A a i) n):=by rw[M6,Wb,yd hi];rfl
    show (M6 (J0 c A n t) A n).getD i 0=_;rw[jb,e];rfl
   ·left
    have e:(M6 (J0 c A n t) A n)[i]? = none:=List.getElem?_eq_none (by rw[Zr];omega);show (M6 (J0 c A n t) A n).getD i 0=_;rw[jb,e];rfl
  have hd:E*D^(t+1)=E*D^t*D:=by rw[ze,Pg]
  have hm:N*(n*M)^(t+1)=n*(N*(n*M)^t*M):=by
   rw[ze];generalize (n*M)^t=y;grind
  rw[hd,hm];rcases e with e|e
  ·rw[e];exact (FV.zero _ 0).le (Sf _)
  ·rw[e]
   exact AhM (λ a=>(ih a).mul (hA a i)) n
theorem As0 {S:FU} {n K:Nat} (hR:S.Raw) (hz:32*S.sz<=K) (hK:K<=33554432) (hn:n<=2) (t:Nat) (ht:t<=64):Bs 5000000000 (J0 S.v.c S.v.a n t):=by
 obtain ⟨ra,rb,rc,rd⟩:=hR;have ru:(S.a.map GJ).sum+(GJ S.b+(GJ S.c+S.d.sz))=S.sz:=rfl;have h1:=rJ S.a λ r hr w hw=>(ra.2 r hr).2 w hw
 have h2:=mH S.c rc.2;have hD:IJ S.v.a.flatten<=2^K:=uc h1 (Eb D' D');have hE:IJ S.v.c<=2^K:=uc h2 (Eb D' D');have hA : ∀ i j,FV (IJ S.v.a.flatten) (2^(K+K)) (CK S.v.a i j):=λ i j=>by
  rcases Acn S.v.a i j with e|e
  ·rw[e];exact (FV.zero _ 0).le (Sf _)
  ·refine vE (k:=K) (m:=K) e ?_ hD
   obtain ⟨s,hs,hx⟩:=Ke.1 e;obtain ⟨r,hr,rfl⟩:=Hb.1 hs;obtain ⟨w,hw,e2⟩:=Hb.1 hx;have g1:=Z1 hw;have g2:=uR (g:=GJ) hr;rw[<-e2];exact (oJ ((ra.2 r hr).2 w hw)).le D'
 have hc : ∀ i,FV (IJ S.v.c) (2^(K+K)) (bQ S.v.c i):=λ i=>by
  rcases Acw S.v.c i with e|e
  ·rw[e];exact (FV.zero _ 0).le (Sf _)
  ·refine vE (k:=K) (m:=K) e ?_ hE
   obtain ⟨w,hw,e2⟩:=Hb.1 e;have g1:=Z1 hw;rw[<-e2];exact (oJ (rc.2 w hw)).le D'
 intro x hx;obtain ⟨i,hi⟩:=Oc hx;have e:x=bQ (J0 S.v.c S.v.a n t) i:=by rw[bQ,jb,hi];rfl
 rw[e];have hw:=AhN (n:=n) hc hA t i;have Uc:=mG S.v.c;have Jx:=mG S.v.a.flatten;generalize IJ S.v.c=E at *;generalize IJ S.v.a.flatten=D at *;have t1:t*K<=64*K:=zR _ ht;have t2:t*(K+K+1)<=64*(K+K+1):=zR _ ht;have p1:0<D^t:=ph Jx;have hb:Bt (K+K+t*(K+K+1)) (bQ (J0 S.v.c S.v.a n t) i):=by
  refine hw.bt (Nat.ne_of_gt (Nat.mul_pos Uc p1)) ?_ ?_
  ·have:=We hD t
   rw[<-Qf]at this;refine uc (Ab hE this) ?_;rw[<-od];refine Eb D' ?_;have t3:K*t<=t*(K+K+1):=by rw[Le];exact Cf _ D'
   omega
  ·have h2:n*2^(K+K)<=2^(K+K+1):=uc (zR _ hn) (by rw[ze,Le];exact Ub _)
   have:=We h2 t
   rw[<-Qf,Le (K+K+1) t]at this;refine uc (Cf _ this) ?_;rw[<-od];exact Eb D' (Ub _)
 exact hb.le D'
theorem AsZ {S:FU} {n T:Nat} (hR:S.Raw) (hz:S.sz<=T) (hT:T<=1048576) (hn:n<=2) (t:Nat) (ht:t<=64):Bs 5000000000 (J0 S.v.c S.v.a n t) :=
 As0 (K:=32*T) hR D' D' hn t ht
end Go.j4

namespace Go.j4
open F
attribute [local irreducible] AJ A5 BZ A0 FH B2 C6 C9 EO EC E0 HH D6 CT EJ E3 AM CZ BH pw EF DP FF FR F5 F7 E6 DQ GN
set_option maxRecDepth 8000
variable {L:Lib}
abbrev XL:d_:=[.bool false,.sl false [],.sl false []]
theorem AeC (N:w8 L) {aw:List (List BI)} {bw:List BI} {n T:Nat} (hn:n<=2) (hT:T<=1048576) (ha : ∀ r∈aw,∀ w∈r,w.Raw) (hb : ∀ w∈bw,w.Raw) (hz:(aw.map GJ).sum+GJ bw<=T) (ig:aw.length=n) (har : ∀ r∈aw,r.length=n) (ue:bw.length=n) :
  ∃ (e:Int) (K:Y_),Ev L 324 [.sl false (FW false aw),.sl false (bw.map eW)] (.e9 [.sl false (eM K),.int .i64 e])/\Ev L 326 [.sl false (FW false aw),.sl false (bw.map eW)] (.e9 [.sl false (eM K),.int .i64 e])/\(e=0->Sq n K/\Ms 2000000000 K)/\(e≠0->K=[]):=by
 have Cu:Sq n (vM aw):=AsV ig har;have hf:FQ (32*T) aw:=λ r hr x hx=>by
  have h1:=Z1 hx;have h2:=uR (g:=GJ) hr;exact kL (ha r hr x hx) D' D'
 have hg:Fs (32*T) bw:=λ x hx=>by
  have h1:=Z1 hx;exact kL (hb x hx) D' D'
 have hG:=Apb hn hT ha hb hz;obtain ⟨v,h1,o1⟩:=AdI N aw bw _ _ rfl rfl n (32*T) _ _ Cu ue hf hg hG D' D' false false false;obtain ⟨w,h2,o2⟩:=Aoz N aw bw _ _ rfl rfl n (32*T) Cu ue hf hg hG D' hn false false false;have ANH:eM ([]:Y_)=[]:=rfl;rcases o1 with ⟨c1,rfl⟩|⟨⟨i,i1,i2⟩,o1⟩
 ·rcases o2 with ⟨_,rfl⟩|⟨⟨j,j1,j2⟩,_⟩
  ·exact ⟨14,[],h1,h2,λ h=>absurd h o_,λ_=>rfl⟩
  ·have:=c1 j j1
   rw[j2.1]at this;cases this
 ·rcases o2 with ⟨c2,_⟩|⟨_,o2⟩
  ·have:=c2 i i1
   rw[i2.1]at this;cases this
  ·rcases o1 with ⟨n1,rfl⟩|⟨n1,X,g1,rfl⟩
   ·rcases o2 with ⟨_,rfl⟩|⟨n2,_⟩
    ·exact ⟨11,[],h1,h2,λ h=>absurd h o_,λ_=>rfl⟩
    ·exact absurd n2 n1
   ·rcases o2 with ⟨n2,_⟩|⟨n2,Y,g2,rfl⟩
    ·exact absurd n1 n2
    ·obtain rfl:=g1.uniq g2 n1
     exact ⟨0,kM X n,h1,h2,λ_=>⟨nF X n,Ys ((hG.qs n1 X g1).le D') n⟩,λ h=>absurd rfl h⟩
theorem aC (e:Int):CI (.e9 [.agg XL,.int .i64 e]):=by simp [CI,ES,J6]
theorem qW (y:Rat):CI (.e9 [.agg (eQ y),.int .i64 0]):=by
 simp only[CI,ES,and_true,true_and];exact ⟨EW _,EW _⟩
section
variable (N:w7 L)
include N
theorem AnC (S:FU) (c:Int) (ha:S.a.length<=8/\S.b.length<=9223372036854775807/\S.c.length<=9223372036854775807) (hs:IM S=false):Ev L 331 [.agg (J3 S),.int .i64 c] (.e9 [.agg XL,.int .i64 2]):=by
 have jj:=rX N S ha;rw[hs]at jj;refine Ev.x N.JV rfl rfl ?_;repeat' (first|apply AQ|refine AU (jj) ?_)<;>conv=>whnf
 exact B1 rfl (aC 2)
theorem AoF (S:FU) (c:Int) (ha:S.a.length<=8/\S.b.length<=9223372036854775807/\S.c.length<=9223372036854775807) (hs:IM S=false):Ev L 335 [.agg (J3 S),.int .i64 c] (.e9 [.agg XL,.int .i64 2]):=by
 have jj:=mS N S ha;rw[hs]at jj;refine Ev.x N.QZ rfl rfl ?_;repeat' (first|apply AQ|refine AU (jj) ?_)<;>conv=>whnf
 exact B1 rfl (aC 2)
theorem AnB (S:FU) (c:Int) (ha:S.a.length<=8/\S.b.length<=9223372036854775807/\S.c.length<=9223372036854775807) (hs:IM S=true) (hc:c<0\/64<c):Ev L 331 [.agg (J3 S),.int .i64 c] (.e9 [.agg XL,.int .i64 1]):=by
 have jj:=rX N S ha;rw[hs]at jj;by_cases h0:c<0
 ·refine Ev.x N.JV rfl rfl ?_
  repeat' (first|(apply A7<;>intro hc<;>try omega)|apply AQ|refine AU (jj) ?_)<;>conv=>whnf
  exact B1 rfl (aC 1)
 ·refine Ev.x N.JV rfl rfl ?_
  repeat' (first|(apply A7<;>intro hc<;>try omega)|apply AQ|refine AU (jj) ?_)<;>conv=>whnf
  exact B1 rfl (aC 1)
theorem AoE (S:FU) (c:Int) (ha:S.a.length<=8/\S.b.length<=9223372036854775807/\S.c.length<=9223372036854775807) (hs:IM S=true) (hc:c<0\/64<c):Ev L 335 [.agg (J3 S),.int .i64 c] (.e9 [.agg XL,.int .i64 1]):=by
 have jj:=mS N S ha;rw[hs]at jj;have hI:=yY N.tofj c 0 64;rw[decide_eq_false D']at hI;refine Ev.x N.QZ rfl rfl ?_;repeat' (first|apply AQ|refine AU (jj) ?_|refine AU (hI) ?_)<;>conv=>whnf
 exact B1 rfl (aC 1)
theorem AnD (S:FU) (m:Nat) (ha:S.a.length<=8/\S.b.length<=9223372036854775807/\S.c.length<=9223372036854775807) (hs:IM S=true) (hm:m<=64) (e:Int) (he:e≠0) (hv:Ev L 324 [.sl false (FW false S.a),.sl false (S.b.map eW)] (.e9 [.sl false [],.int .i64 e])) :
  Ev L 331 [.agg (J3 S),.int .i64 (m:Int)] (.e9 [.agg XL,.int .i64 e]):=by
 have jj:=rX N S ha;rw[hs]at jj;refine Ev.x N.JV rfl rfl ?_;repeat' (first|(apply A7<;>intro hc<;>try omega)|apply AQ|refine AU (jj) ?_|refine AU (hv) ?_)<;>conv=>whnf
 exact B1 rfl (aC e)
theorem AoG (S:FU) (m:Nat) (ha:S.a.length<=8/\S.b.length<=9223372036854775807/\S.c.length<=9223372036854775807) (hs:IM S=true) (hm:m<=64) (e:Int) (he:e≠0) (hv:Ev L 326 [.sl false (FW false S.a),.sl false (S.b.map eW)] (.e9 [.sl false [],.int .i64 e])) :
  Ev L 335 [.agg (J3 S),.int .i64 (m:Int)] (.e9 [.agg XL,.int .i64 e]):=by
 have jj:=mS N S ha;rw[hs]at jj;have hE:Ev L 334 [.agg (J3 S)] (.e9 [.agg XL,.int .i64 e]):=by
  refine Ev.x N.YD rfl rfl ?_;repeat' (first|(apply A7<;>intro hc<;>try omega)|apply AQ|refine AU (jj) ?_|refine AU (hv) ?_)<;>conv=>whnf
  exact B1 rfl (aC e)
 have hI:=yY N.tofj (m:Int) 0 64;rw[decide_eq_true D']at hI;refine Ev.x N.QZ rfl rfl ?_;repeat' (first|(apply A7<;>intro hc<;>try omega)|apply AQ|refine AU (jj) ?_|refine AU (hI) ?_|refine AU (hE) ?_)<;>conv=>whnf
 exact B1 rfl (aC e)
def Y4 (S:FU) (n:Nat):Nat->List BI
 | 0=>S.c
 | t+1=>wR (J0 S.v.c S.v.a n (t+1))
omit N in
theorem xB (S:FU) (n t:Nat):(Y4 S n t).map BI.v=J0 S.v.c S.v.a n t:=by
 cases t with
 | zero=>rfl
 | succ t=>exact RS _
theorem AnE (S:FU) (n m T:Nat) (hR:S.Raw) (hz:S.sz<=T) (hT:T<=1048576) (hs:IM S=true) (hn:S.a.length=n) (vk:n<=2) (hm:m<=64) (K:Y_) (hK:Sq n K) (km:Ms 2000000000 K) (hv:Ev L 324 [.sl false (FW false S.a),.sl false (S.b.map eW)] (.e9 [.sl false (eM K),.int .i64 0])) :
  Ev L 331 [.agg (J3 S),.int .i64 (m:Int)] (.e9 [.agg (eQ (VU S.v K n m)),.int .i64 0]):=by
 obtain ⟨s1,s2,s3,s4⟩:=iA.1 hs;have jj:=rX N S D';rw[hs]at jj;have hF:S.Fit (32*T):=FU.fit hR hz D';have j7:S.v.Ok n (32*T):=hn ▸ FU.ok hs hF;have hA:Sq n S.v.a:=⟨j7.la,j7.lr⟩;have Uv:=λ t ht=>AsZ (n:=n) hR hz hT vk t ht
 have Er : ∀ t,(Y4 S n t).length=n:=λ t=>by
  have:=congrArg List.length (xB S n t)
  rw[Wa,AsY j7.lc]at this;exact this
 have hwf : ∀ t,t<=64->Fs 5000000000 (Y4 S n t):=λ t ht=>by
  cases t with
  | zero=>exact λ x hx=>⟨(hF.2.2.1 x hx).1.le D',(hF.2.2.1 x hx).2⟩
  | succ t=>exact Fs.of (Uv (t+1) ht) D'
 cases m with
 | zero =>
  have Pl:=λ q1 q2 q3=>AdO N q1 q2 q3 K S.c S.v.c rfl n 2000000000 (32*T) hK D' km hF.2.2.1 vk D' D'
  have hM:=jO N.toa7 hF.2.2.2.2 hF.2.2.2.2 (Ub _) (Ub _);have Fx:Bt (2*(2*(2000000000+(32*T+32*T)+1)+1)) (LP K S.v.c n):=(Q6 (λ i=>(Q6 (λ j=>(I3 km i j).mul ((JG j7.bc i).mul (JG j7.bc j))) n).le (zR _ vk)) n).le (zR _ vk);have Fl:=W3 N.toa7 (j7.bd.mul j7.bd) Fx D' D';have hdd:S.v.d=S.d.v:=rfl;rw[hdd]at Fl;have e:VU S.v K n 0=S.d.v*S.d.v+LP K S.v.c n:=rfl;rw[e];generalize LP K S.v.c n=f at *;generalize S.d.v*S.d.v=dd at *;refine Ev.x N.JV rfl rfl ?_;repeat' (first|(apply A7<;>intro hc<;>try omega)|apply AQ|refine AU (jj) ?_|refine AU (hv) ?_|refine AU (hM) ?_|refine AU (Pl _ _ _) ?_|refine AU (Fl) ?_)<;>conv=>whnf
  exact B1 rfl (qW _)
 | succ m =>
  have AtW:S.c.map eW=(Y4 S n 0).map eW:=rfl;have hBh:=λ(t:Nat) (ht:t<=64) q1 q2 q3=>AnI N q1 q2 q3 (Y4 S n t) S.a (J0 S.v.c S.v.a n t) S.v.a (xB S n t) rfl n (32*T) 5000000000 hA (Er t) hF.1 (hwf t ht) D' D' D'
  have Gc : ∀ t,(M6 (J0 S.v.c S.v.a n t) S.v.a n).map eQ=(Y4 S n (t+1)).map eW:=λ t=>(V2 _).symm
  have Pl:=λ q1 q2 q3=>AdO N q1 q2 q3 K (Y4 S n m) (J0 S.v.c S.v.a n m) (xB S n m) n 2000000000 5000000000 hK (Er m) km (hwf m D') vk D' D'
  rw[show LP K (J0 S.v.c S.v.a n m) n=VU S.v K n (m+1) from rfl]at Pl;generalize VU S.v K n (m+1)=y at *;simp only[Gc]at hBh;rw[show J3 S=[.sl false (FW false S.a),.sl false (S.b.map eW),.sl false ((Y4 S n 0).map eW)]++eW S.d from rfl]at jj ⊢;generalize Y4 S n=cw at *;clear Gc AtW Er hwf Uv;refine Ev.x N.JV rfl rfl ?_;repeat' (first|(apply A7<;>intro hc<;>try omega)|(apply EP;omega)|apply AQ|refine AU (jj) ?_|refine AU (hv) ?_)<;>conv=>whnf
  refine FP (λ t=>m-t) (λ(t:Nat)=>t<=m) (λ t=>[(48,.int .i64 t),(8,.sl false ((cw t).map eW))]) (λ_=>[]) 0 D' ?_;intro t p1 ih;by_cases ht:t<m
  ·have hB:=hBh t D'
   repeat' (first|(apply A7<;>intro hc<;>try omega)|(apply B5;omega)|apply AQ|refine AU (hB _ _ _) ?_)<;>conv=>whnf
   exact DB [] (ih (t+1) D' D')
  ·have et:t=m:=D'
   clear ih;rw[et];repeat' (first|(apply A7<;>intro hc<;>try omega)|apply AQ|refine AU (Pl _ _ _) ?_)<;>conv=>whnf
   exact B1 rfl (qW _)
theorem Aox (S:FU) (n T:Nat) (hR:S.Raw) (hz:S.sz<=T) (hT:T<=1048576) (hs:IM S=true) (hn:S.a.length=n) (vk:n<=2) (K:Y_) (hK:Sq n K) (km:Ms 2000000000 K) (hv:Ev L 326 [.sl false (FW false S.a),.sl false (S.b.map eW)] (.e9 [.sl false (eM K),.int .i64 0])) :
  ∃ y,Bt 100000000000 y/\Ev L 334 [.agg (J3 S)] (.e9 [.agg (eQ y),.int .i64 0]):=by
 obtain ⟨s1,s2,s3,s4⟩:=iA.1 hs;have jj:=mS N S D';rw[hs]at jj;have hF:S.Fit (32*T):=FU.fit hR hz D';have j7:S.v.Ok n (32*T):=hn ▸ FU.ok hs hF;have qm:(J4 K S.v.c).length=n:=by rw[Afx,hK.l]
 have Pp:=λ q1 q2 q3=>AnF N.too6 K S.c S.v.c rfl q1 q2 q3 n 2000000000 (32*T) hK D' km hF.2.2.1 D' D' D'
 have fc:Bs 5000000000 (J4 K S.v.c):=λ x hx=>by
  obtain ⟨r,hr,rfl⟩:=Hb.1 hx;exact ((km r hr).dot j7.bc).le (by
   rw[hK.r r hr];have:n*(2000000000+32*T+1)<=2*(2000000000+32*T+1):=zR _ vk
   omega)
 have hI:=λ q1 q2=>rU N.too6 S.c (wR (J4 K S.v.c)) q1 q2 (32*T) 5000000000 (by rw[wR,Wa,qm];omega) hF.2.2.1 (Fs.of fc D') (by
  rw[s3,hn];have:n*(32*T+5000000000+1)<=2*(32*T+5000000000+1):=zR _ vk
  omega) D'
 rw[RS,V2,show S.c.map BI.v=S.v.c from rfl,AoZ hK j7.lc]at hI;have hM:=aQ N.toa8 hF.2.2.2.2 hF.2.2.2.2 (Ub _) (Ub _);have Fx:Bt (2*(2*(2000000000+(32*T+32*T)+1)+1)) (LP K S.v.c n):=(Q6 (λ i=>(Q6 (λ j=>(I3 km i j).mul ((JG j7.bc i).mul (JG j7.bc j))) n).le (zR _ vk)) n).le (zR _ vk);have Fl:=Y6 N.toa8 (j7.bd.mul j7.bd) Fx D' D';have Vx:=(j7.bd.mul j7.bd).add Fx;have hdd:S.v.d=S.d.v:=rfl;rw[hdd]at Fl Vx;generalize J4 K S.v.c=kc at *;generalize LP K S.v.c n=f at *;generalize S.d.v*S.d.v=dd at *;refine ⟨dd+f,Vx.le D',?_⟩;refine Ev.x N.YD rfl rfl ?_;repeat' (first|(apply A7<;>intro hc<;>try omega)|apply AQ|refine AU (jj) ?_|refine AU (hv) ?_|refine AU (hM) ?_|refine AU (Pp _ _ _) ?_|refine AU (hI _ _) ?_|refine AU (Fl) ?_)<;>conv=>whnf
 exact B1 rfl (qW _)
theorem AoH (S:FU) (n m T:Nat) (hR:S.Raw) (hz:S.sz<=T) (hT:T<=1048576) (hs:IM S=true) (hn:S.a.length=n) (vk:n<=2) (hm:m<=64) {y:Rat} (hy:Bt 100000000000 y) (hE:Ev L 334 [.agg (J3 S)] (.e9 [.agg (eQ y),.int .i64 0])) :
  ∃ z,Ev L 335 [.agg (J3 S),.int .i64 (m:Int)] (.e9 [.agg (eQ z),.int .i64 0]):=by
 obtain ⟨s1,s2,s3,s4⟩:=iA.1 hs;have jj:=mS N S D';rw[hs]at jj;obtain ⟨hF,j7,Hd⟩:=ApP hR hz hT hs hn m;have dw:=ApO m;have hmu : ∀ i,i<=64->i*(2*(32*T)+n+1)<=4294967488:=λ i hi=>by
  have:=Ab hi (show 2*(32*T)+n+1<=67108867 by omega)
  omega
 have km : ∀ i,i<(K4 m).length->n*(32*T+i*(2*(32*T)+n+1)+1)+(32*T+32*T)+1<=9000000000:=λ i hi=>by
  have h1:=hmu i D';have:=Ab vk (show 32*T+i*(2*(32*T)+n+1)+1<=4328521921 by omega)
  omega
 have Pn:=λ q1 q2=>Anu N.too6 S S.v rfl n (32*T) (λ i=>i*(2*(32*T)+n+1)) j7 hF hs D' (Cb n 0) (K4 m) q1 q2 p_ (AeM _ m) D' Hd (λ i hi=>by have:=km i hi;show n*(32*T+i*(2*(32*T)+n+1)+1)+_+1<_;omega) (λ i hi=>by have:=hmu i D';show i*(2*(32*T)+n+1)<_;omega) D'
 have hob:=AfS j7 (AeM (32*T) m) Hd km (K4 m).length (Ub _);rw[List.take_length]at hob;have hIm:=Anr N.too6 S S.v n m hn hs D' D' Pn;have Nr:(S.v.outs (Cb n 0) (K4 m)).length=m:=by rw[Yb];exact dw
 generalize S.v.outs (Cb n 0) (K4 m)=h at *;have hI2:=λ q1 q2=>Ans N.too6 h h q1 q2 9000000000 9000000000 rfl hob hob (by
  rw[Nr];have:m*(9000000000+9000000000+1)<=64*(9000000000+9000000000+1):=zR _ hm
  omega) D'
 have ik:=hob.dot hob;have gx:h.length*(9000000000+9000000000+1)<=64*(9000000000+9000000000+1):=zR _ D';have hSb:=Aeg N.tos9 hy ik D' D';have hI:=yY N.tofj (m:Int) 0 64;rw[decide_eq_true D']at hI;clear ik hmu km Pn Hd;generalize B4 h h=d at *;refine ⟨y-d,?_⟩;refine Ev.x N.QZ rfl rfl ?_;repeat' (first|(apply A7<;>intro hc<;>try omega)|apply AQ|refine AU (jj) ?_|refine AU (hI) ?_|refine AU (hE) ?_|refine AU (hIm) ?_|refine AU (hI2 _ _) ?_|refine AU (hSb) ?_)<;>conv=>whnf
 exact B1 rfl (qW _)
theorem AsH (S:FU) (c:Int) {T:Nat} (hR:S.Raw) (hz:S.sz<=T) (hT:T<=1048576) (h2:S.a.length<=2) :
  ∃ (u v:d_) (e:Int),Ev L 331 [.agg (J3 S),.int .i64 c] (.e9 [.agg u,.int .i64 e])/\Ev L 335 [.agg (J3 S),.int .i64 c] (.e9 [.agg v,.int .i64 e])/\(∃ x,u=eQ x\/u=XL) /\ ∃ x,v=eQ x\/v=XL:=by
 have hl:S.a.length<=8/\S.b.length<=9223372036854775807/\S.c.length<=9223372036854775807:=by
  obtain ⟨ra,rb,rc,_⟩:=hR;have:=rb.1;have:=rc.1
  omega
 cases hs:IM S
 ·exact ⟨_,_,2,AnC N S c hl hs,AoF N S c hl hs,⟨0,Or.inr rfl⟩,⟨0,Or.inr rfl⟩⟩
 ·by_cases hc:c<0\/64<c
  ·exact ⟨_,_,1,AnB N S c hl hs hc,AoE N S c hl hs hc,⟨0,Or.inr rfl⟩,⟨0,Or.inr rfl⟩⟩
  ·obtain ⟨m,rfl⟩ : ∃ m:Nat,c=m:=⟨c.toNat,D'⟩
   obtain ⟨s1,s2,s3,s4⟩:=iA.1 hs;have ru:(S.a.map GJ).sum+(GJ S.b+(GJ S.c+S.d.sz))=S.sz:=rfl;obtain ⟨e,K,g1,g2,g3,g4⟩:=AeC N.tow8 (n:=S.a.length) h2 hT (λ r hr=>(hR.1.2 r hr).2) hR.2.1.2 D' rfl s4 s2;by_cases he:e=0
   ·subst he
    obtain ⟨hK,km⟩:=g3 rfl;have hv:=AnE N S S.a.length m T hR hz hT hs rfl h2 D' K hK km g1;obtain ⟨y,hy,hE⟩:=Aox N S S.a.length T hR hz hT hs rfl h2 K hK km g2;obtain ⟨z,hw⟩:=AoH N S S.a.length m T hR hz hT hs rfl h2 D' hy hE;exact ⟨_,_,0,hv,hw,⟨_,Or.inl rfl⟩,⟨_,Or.inl rfl⟩⟩
   ·obtain rfl:=g4 he
    exact ⟨_,_,e,AnD N S m hl hs D' e he g1,AoG N S m hl hs D' e he g2,⟨0,Or.inr rfl⟩,⟨0,Or.inr rfl⟩⟩
end
end Go.j4

namespace Go.j4
open F
attribute [local irreducible] AJ A5 BZ A0 FH B2 C6 C9 EO EC E0 HH D6 CT EJ E3 AM CZ BH pw EF DP FF FR F5 F7 E6 DQ GN
variable {L:Lib}
set_option maxRecDepth 8000
theorem AnT (N:lz L):Ev L 336 [] (.bool true):=AnS N λ hG=>by
 have hP:dW [[Gb 1 2]] [1] 1 180 380000:=⟨hG.mb,hG.rb,hG.sc,hG.wh,hG.qs,D',D',o_,o_⟩;obtain ⟨v,h1,o1⟩:=AdI N.tow8 (wM [[Gb 1 2]]) (wR [1]) _ _ (Z3 _) (RS _) 1 10 _ _ hG.sq rfl (FQ.of hG.ba D') (Fs.of hG.bb D') hP D' D' false false false;rw[rP,V2]at h1;rcases o1 with ⟨c1,rfl⟩|⟨⟨i,i1,i2⟩,⟨n1,rfl⟩|⟨n1,X,g1,rfl⟩⟩
 ·exact ⟨_,h1,Or.inl ⟨Or.inl c1,14,o_,rfl⟩⟩
 ·exact ⟨_,h1,Or.inl ⟨Or.inr n1,11,o_,rfl⟩⟩
 ·exact ⟨_,h1,Or.inr ⟨⟨i,i2.1⟩,n1,X,g1,hG.qs n1 X g1,rfl⟩⟩
theorem Apf (N:w8 L) {S:FU} {T:Nat} (hR:S.Raw) (hz:S.sz<=T) (hT:T<=1048576) (h2:S.a.length<=2) :
  ∃ (e:Int) (K:Y_),Ev L 324 [.sl false (FW false S.a),.sl false (S.b.map eW)] (.e9 [.sl false (eM K),.int .i64 e])/\Ev L 326 [.sl false (FW false S.a),.sl false (S.b.map eW)] (.e9 [.sl false (eM K),.int .i64 e]):=by
 have ru:(S.a.map GJ).sum+(GJ S.b+(GJ S.c+S.d.sz))=S.sz:=rfl;by_cases hb:S.a.length<=8/\S.b.length=S.a.length /\ ∀ r∈S.a,r.length=S.a.length
 ·obtain ⟨b1,b2,b3⟩:=hb
  obtain ⟨e,K,g1,g2,_,_⟩:=AeC N (n:=S.a.length) h2 hT (λ r hr=>(hR.1.2 r hr).2) hR.2.1.2 D' rfl b3 b2;exact ⟨e,K,g1,g2⟩
 ·have hl:S.a.length<=9223372036854775807/\S.b.length<=9223372036854775807:=by
   have:=hR.2.1.1
   omega
  exact ⟨2,[],Anq N S.a S.b hl hb (λ r hr=>by have:=(hR.1.2 r hr).1;omega) false false false,Aoy N S.a S.b hl hb false false false⟩
theorem AnW (N:xg L) (S:FU) (c:Int) (hR:S.Raw) {T:Nat} (hz:S.sz<=T) (hT:T<=1048576) :
  Ev L 423 [.agg (J3 S),.int .i64 c] (.bool true):=by
 have Te:=AnT N.tolz;have rf:=hR.1.1;have lv:=hR.2.1.1;have hl3:=hR.2.2.1.1;by_cases h1:S.a.length<=2
 ·by_cases h2:S.b.length<=4
  ·by_cases h3:S.c.length<=4
   ·obtain ⟨e,K,g1,g2⟩:=Apf N.tow8 hR hz hT h1
    obtain ⟨u,v,f,t1,t2,⟨x,hu⟩,⟨y,hv⟩⟩:=AsH N.tow7 S c hR hz hT h1;rcases hu with rfl|rfl
    all_goals
     rcases hv with rfl|rfl
     all_goals
      refine Ev.x N.QM rfl rfl ?_;repeat' (first|(apply A7<;>intro hc<;>try omega)|apply BW|apply AQ|refine AU (Te) ?_|refine AU (g1) ?_|refine AU (g2) ?_|refine AU (t1) ?_|refine AU (t2) ?_)<;>conv=>whnf
      exact HK rfl
   ·refine Ev.x N.QM rfl rfl ?_
    repeat' (first|(apply A7<;>intro hc<;>try omega)|apply BW|apply AQ|refine AU (Te) ?_)<;>conv=>whnf
    exact HK rfl
  ·refine Ev.x N.QM rfl rfl ?_
   repeat' (first|(apply A7<;>intro hc<;>try omega)|apply BW|apply AQ|refine AU (Te) ?_)<;>conv=>whnf
   exact HK rfl
 ·refine Ev.x N.QM rfl rfl ?_
  repeat' (first|(apply A7<;>intro hc<;>try omega)|apply BW|apply AQ|refine AU (Te) ?_)<;>conv=>whnf
  exact HK rfl
end Go.j4
